/- -/
import Derived.Test.YtlneebpmblkllaaTi
import Derived.Test.YtlneebpmblkllaaWSyntacticJoint
import Derived.Test.YtlneebpmblkllaaWSyntacticMonoidse
import Derived.Test.YtlneebpmblkllaaAl
namespace Sg
open Go Go.RowKit Go.Proofs
set_option linter.unusedVariables false
set_option linter.unusedSimpArgs false
set_option maxRecDepth 100000
set_option maxHeartbeats 4000000
theorem body76 : Body Try.prog 76 := ⟨Try.f76, Try.func76, rfl, by kernel_rfl⟩
theorem J13 {A : List Nat} {w0 : World} {xa : Option Addr} {xb : Nat} {list : List Int} {n : Int} (hA : ∀ b ∈ A, b < w0.heap.size) (vc : ISl (Rp.int .i64) A w0 xa xb list) {K : Bool → Prop} (H : J0B list n K) :
    CallsV Try.prog 76 #[.slice xa list.length xb, .int .i64 n] w0 (fun v w' => ∃ (r0 : Bool), v = .bool r0 ∧ Same w0 w' ∧ K r0) := by
 refine CallsV.of (l := [.slice xa list.length xb, .int .i64 n]) Try.func76 rfl Try.ntmps76 rfl ?_
 have hO := Owns.start hA
 have hB := Fr.refl (bl []) w0
 unfold J0B at H
 refine zq (zr (za rfl (zn (zq (zq ?_)))))
 refine zr (zm rfl (zo (J0c Try.underlying31 rfl) ?_))
 replace vc := vc.ch (Ch.start A w0)
 replace H := H vc.bd
 refine zm rfl (zn (zb ?_))
 refine Go1.loopW (S := Nat) (fun s σ w => agrees σ [(1, .int .i64 n), (7, .slice xa list.length xb), (8, .int .i64 (list.length : Int)), (9, .int .i64 (s : Int))] ∧ Owns w0.heap.size w [] A ∧ ISl (Rp.int .i64) (bl [] ++ A) w xa xb list ∧ Fr (bl []) w0 (bl []) w) H ⟨⟨rfl, rfl, rfl, rfl, trivial⟩, hO, vc, hB⟩ ?_
 intro X1 k1_2
 intro H hX1 σ w1
 refine andE fun hag => andE fun hO => andE fun vc => fun hB => ?_
 refine Go1.keep [(1, .int .i64 n), (7, .slice xa list.length xb), (8, .int .i64 (list.length : Int)), (9, .int .i64 (k1_2 : Int))] hag ?_
 refine zq (zr ?_)
 by_cases h3 : (k1_2 : Int) < (list.length : Int)
 ·replace H := ifp h3 H
  refine zo (fun w => opB (J08 rfl rfl w) (decide_eq_true h3)) (zn (zq (zt rfl rfl (zk (zq ?_)))))
  refine zb (zq (zr ?_))
  obtain ⟨h4, H⟩ := H
  obtain ⟨h5, H⟩ := H
  refine zo (J02 Try.underlying31 ti3 rfl rfl h4 h5 (vc.some_ h4 h5)) (zs (ldInt vc h4 h5 Try.underlying3 rfl rfl) (za rfl (zn (zq (zr ?_)))))
  refine zm rfl ?_
  by_cases h6 : (ix list (k1_2 : Int)) < (0 : Int)
  ·replace H := ifp h6 H
   refine zo (fun w => opB (J08 rfl rfl w) (decide_eq_true h6)) (zm rfl (zp (zp (zp (zo (J04 rfl rfl rfl) ?_)))))
   refine zn (zt rfl rfl (zq (zr (za rfl (zn ?_)))))
   refine Go1.ret1 Try.func76 rfl ?_
   exact ⟨false, rfl, hB.same, H⟩
  replace H := ifn h6 H
  refine zo (fun w => opB (J08 rfl rfl w) (decide_eq_false h6)) (zm rfl (zm rfl (zm rfl ?_)))
  by_cases h7 : n ≤ (ix list (k1_2 : Int))
  ·replace H := ifp h7 H
   refine zo (fun w => opB (J1k rfl rfl w) (decide_eq_true h7)) (zo (J05 rfl rfl rfl) (zn (zt rfl rfl (zq (zr ?_)))))
   refine za rfl (zn ?_)
   refine Go1.ret1 Try.func76 rfl ?_
   exact ⟨false, rfl, hB.same, H⟩
  replace H := ifn h7 H
  refine zo (fun w => opB (J1k rfl rfl w) (decide_eq_false h7)) (zo (J05 rfl rfl rfl) (zn (zf rfl rfl (zk ?_))))
  refine Go1.inBlock ?_
  refine Go1.cut [(1, .int .i64 n), (7, .slice xa list.length xb), (8, .int .i64 (list.length : Int)), (9, .int .i64 (k1_2 : Int))] ⟨rfl, rfl, rfl, rfl, trivial⟩ ?_
  intro σ _
  refine zr (zo (J0e rfl rfl (wrap_i64 (natbd h3 vc.bd))) (zm rfl (zn ?_)))
  exact hX1 _ H _ _ ⟨⟨rfl, rfl, rfl, rfl, trivial⟩, hO, vc, hB⟩
 replace H := ifn h3 H
 refine zo (fun w => opB (J08 rfl rfl w) (decide_eq_false h3)) (zn (zq (zf rfl rfl ?_)))
 refine Go1.exit rfl ?_
 refine zq (zr (za rfl (zn ?_)))
 refine Go1.ret1 Try.func76 rfl ?_
 exact ⟨true, rfl, hB.same, H⟩
theorem body71 : Body Try.prog 71 := ⟨Try.f71, Try.func71, rfl, by kernel_rfl⟩
theorem J2S {A : List Nat} {w0 : World} {bH : Option Addr} {bI : Nat} {co : Option Addr} {cp : Nat} {bO : Option Addr} {bP : Nat} {bQ : Option Addr} {bS : Nat} {cE : Option Addr} {cF : Nat} {a0 : Syntactic} (hA : ∀ b ∈ A, b < w0.heap.size) (ba : ISl (Rp.sl (Rp.int .i64)) A w0 bH bI a0.Table) (bF : ISl (Rp.str) A w0 co cp a0.Words) (bi : ISl (Rp.int .i64) A w0 bO bP a0.Images) (bc : ISl (Rp.bool) A w0 bQ bS a0.Accept) (bX : ISl (Rp.bool) A w0 cE cF a0.Plus) {K : Bool → Prop} (H : J0V a0 K) :
    CallsV Try.prog 71 #[.agg #[.int .i64 a0.Letters, .slice bH a0.Table.length bI, .slice co a0.Words.length cp, .slice bO a0.Images.length bP, .slice bQ a0.Accept.length bS, .slice cE a0.Plus.length cF]] w0 (fun v w' => ∃ (r0 : Bool), v = .bool r0 ∧ Same w0 w' ∧ K r0) := by
 refine CallsV.of (l := [.agg #[.int .i64 a0.Letters, .slice bH a0.Table.length bI, .slice co a0.Words.length cp, .slice bO a0.Images.length bP, .slice bQ a0.Accept.length bS, .slice cE a0.Plus.length cF]]) Try.func71 rfl Try.ntmps71 rfl ?_
 have hO := Owns.start hA
 have hB := Fr.refl (bl []) w0
 unfold J0V at H
 refine zq (zr ?_)
 have zz := obox (t := 33) (v := .agg #[.int .i64 a0.Letters, .slice bH a0.Table.length bI, .slice co a0.Words.length cp, .slice bO a0.Images.length bP, .slice bQ a0.Accept.length bS, .slice cE a0.Plus.length cF]) (cs := #[.int .i64 a0.Letters, .slice bH a0.Table.length bI, .slice co a0.Words.length cp, .slice bO a0.Images.length bP, .slice bQ a0.Accept.length bS, .slice cE a0.Plus.length cF]) hO rfl
 obtain ⟨w1, B2, dX, hs4, jU⟩ := zz
 refine zg (jU rfl) ?_
 replace hO := dX.own
 refine za rfl (zn (zq (zr (zo (J00 Try.underlying33 rfl ti23 rfl (by decide)) (zs (oblk (i := 1) 0 hO rfl rfl Try.underlying23 rfl rfl) ?_)))))
 refine zo (J0c Try.underlying23 rfl) ?_
 replace ba := (ba.ch (Ch.start A w0)).ch dX.ch
 replace H := H ba.bd
 refine za rfl (zn (zq (zq (zr (zo (J00 Try.underlying33 rfl ti3 rfl (by decide)) ?_)))))
 refine zs (oblk (i := 0) 0 hO rfl rfl Try.underlying3 rfl rfl) ?_
 by_cases h7 : a0.Letters < (1 : Int)
 ·replace H := ifp h7 H
  refine zo (fun w => opB (J08 rfl rfl w) (decide_eq_true h7)) (zm rfl (zp (zp (zp (zo (J04 rfl rfl rfl) ?_)))))
  refine zm rfl (zp (zp (zo (J04 rfl rfl rfl) (zm rfl (zp ?_)))))
  refine zp (zo (J04 rfl rfl rfl) (zn (zt rfl rfl (zq ?_))))
  refine Go1.cut [] trivial ?_
  intro σ _
  refine zr (za rfl (zn ?_))
  refine Go1.ret1 Try.func71 rfl ?_
  replace hB := hB.trans dX.fr
  exact ⟨false, rfl, hB.same, H⟩
 replace H := ifn h7 H
 refine zo (fun w => opB (J08 rfl rfl w) (decide_eq_false h7)) (zm rfl (zo (J00 Try.underlying33 rfl ti3 rfl (by decide)) (zs (oblk (i := 0) 0 hO rfl rfl Try.underlying3 rfl rfl) ?_)))
 by_cases h8 : (6 : Int) < a0.Letters
 ·replace H := ifp h8 H
  refine zo (fun w => opB (J17 rfl rfl w) (decide_eq_true h8)) (zo (J05 rfl rfl rfl) (zm rfl (zp (zp (zo (J04 rfl rfl rfl) ?_)))))
  refine zm rfl (zp (zp (zo (J04 rfl rfl rfl) (zn (zt rfl rfl ?_)))))
  refine zq (zr (za rfl (zn ?_)))
  refine Go1.ret1 Try.func71 rfl ?_
  replace hB := hB.trans dX.fr
  exact ⟨false, rfl, hB.same, H⟩
 replace H := ifn h8 H
 refine zo (fun w => opB (J17 rfl rfl w) (decide_eq_false h8)) (zo (J05 rfl rfl rfl) (zm rfl (zm rfl ?_)))
 by_cases h9 : (a0.Table.length : Int) < (1 : Int)
 ·replace H := ifp h9 H
  refine zo (fun w => opB (J08 rfl rfl w) (decide_eq_true h9)) (zo (J05 rfl rfl rfl) (zm rfl (zp (zp (zo (J04 rfl rfl rfl) ?_)))))
  refine zn (zt rfl rfl (zq ?_))
  refine Go1.cut [] trivial ?_
  intro σ _
  refine zr (za rfl (zn ?_))
  refine Go1.ret1 Try.func71 rfl ?_
  replace hB := hB.trans dX.fr
  exact ⟨false, rfl, hB.same, H⟩
 replace H := ifn h9 H
 refine zo (fun w => opB (J08 rfl rfl w) (decide_eq_false h9)) (zo (J05 rfl rfl rfl) (zm rfl (zm rfl ?_)))
 by_cases h10 : (400 : Int) < (a0.Table.length : Int)
 ·replace H := ifp h10 H
  refine zo (fun w => opB (J17 rfl rfl w) (decide_eq_true h10)) (zo (J05 rfl rfl rfl) (zn (zt rfl rfl (zq (zr ?_)))))
  refine za rfl (zn ?_)
  refine Go1.ret1 Try.func71 rfl ?_
  replace hB := hB.trans dX.fr
  exact ⟨false, rfl, hB.same, H⟩
 replace H := ifn h10 H
 refine zo (fun w => opB (J17 rfl rfl w) (decide_eq_false h10)) (zo (J05 rfl rfl rfl) (zn (zf rfl rfl (zk (zq ?_)))))
 refine zq (zr (zo (J00 Try.underlying33 rfl ti30 rfl (by decide)) (zs (oblk (i := 2) 0 hO rfl rfl Try.underlying30 rfl rfl) (zo (J0c Try.underlying30 rfl) ?_))))
 replace bF := (bF.ch (Ch.start A w0)).ch dX.ch
 replace H := H bF.bd
 refine zm rfl ?_
 by_cases h11 : (a0.Words.length : Int) = (a0.Table.length : Int)
 ·replace H := ifp h11 H
  refine zo (fun w => opB (J0j rfl rfl w) (ndT h11)) (zm rfl (zo (J00 Try.underlying33 rfl ti22 rfl (by decide)) (zs (oblk (i := 4) 0 hO rfl rfl Try.underlying22 rfl rfl) (zo (J0c Try.underlying22 rfl) ?_))))
  replace bc := (bc.ch (Ch.start A w0)).ch dX.ch
  replace H := H bc.bd
  refine zm rfl ?_
  by_cases h12 : (a0.Accept.length : Int) = (a0.Table.length : Int)
  ·replace H := ifp h12 H
   refine zo (fun w => opB (J0j rfl rfl w) (ndT h12)) (zo (J05 rfl rfl rfl) (zm rfl (zo (J00 Try.underlying33 rfl ti22 rfl (by decide)) (zs (oblk (i := 5) 0 hO rfl rfl Try.underlying22 rfl rfl) (zo (J0c Try.underlying22 rfl) ?_)))))
   replace bX := (bX.ch (Ch.start A w0)).ch dX.ch
   replace H := H bX.bd
   refine zm rfl ?_
   by_cases h13 : (a0.Plus.length : Int) = (a0.Table.length : Int)
   ·replace H := ifp h13 H
    refine zo (fun w => opB (J0j rfl rfl w) (ndT h13)) (zo (J05 rfl rfl rfl) (zm rfl (zo (J00 Try.underlying33 rfl ti31 rfl (by decide)) (zs (oblk (i := 3) 0 hO rfl rfl Try.underlying31 rfl rfl) (zo (J0c Try.underlying31 rfl) ?_)))))
    replace bi := (bi.ch (Ch.start A w0)).ch dX.ch
    replace H := H bi.bd
    refine zo (J00 Try.underlying33 rfl ti3 rfl (by decide)) (zs (oblk (i := 0) 0 hO rfl rfl Try.underlying3 rfl rfl) ?_)
    by_cases h14 : (a0.Images.length : Int) = a0.Letters
    ·replace H := ifp h14 H
     refine zo (fun w => opB (J0j rfl rfl w) (ndT h14)) (zo (J05 rfl rfl rfl) (zn (zf rfl rfl (zk (zq ?_)))))
     refine zq ?_
     refine Go1.cut [(1, .pointer (some ⟨B2, 0, none⟩)), (3, .int .i64 (a0.Table.length : Int))] ⟨rfl, rfl, trivial⟩ ?_
     intro σ _
     refine zr (zo (J00 Try.underlying33 rfl ti23 rfl (by decide)) (zs (oblk (i := 1) 0 hO rfl rfl Try.underlying23 rfl rfl) (zo (J0c Try.underlying23 rfl) (zm rfl (zn ?_)))))
     refine zb ?_
     replace hB := hB.trans dX.fr
     refine Go1.loopW (S := Nat) (fun s σ w => agrees σ [(1, .pointer (some ⟨B2, 0, none⟩)), (3, .int .i64 (a0.Table.length : Int)), (53, .slice bH a0.Table.length bI), (54, .int .i64 (a0.Table.length : Int)), (55, .int .i64 (s : Int))] ∧ (fun Z0 => Owns w0.heap.size w Z0 A ∧ ISl (Rp.sl (Rp.int .i64)) (bl Z0 ++ A) w bH bI a0.Table ∧ ISl (Rp.str) (bl Z0 ++ A) w co cp a0.Words ∧ ISl (Rp.int .i64) (bl Z0 ++ A) w bO bP a0.Images ∧ ISl (Rp.bool) (bl Z0 ++ A) w bQ bS a0.Accept ∧ ISl (Rp.bool) (bl Z0 ++ A) w cE cF a0.Plus ∧ Fr (bl []) w0 (bl Z0) w) [.blk B2 (.cells #[.int .i64 a0.Letters, .slice bH a0.Table.length bI, .slice co a0.Words.length cp, .slice bO a0.Images.length bP, .slice bQ a0.Accept.length bS, .slice cE a0.Plus.length cF] 33 (0, 0))]) H ⟨⟨rfl, rfl, rfl, rfl, rfl, trivial⟩, hO, ba, bF, bi, bc, bX, hB⟩ ?_
     intro X1 k1_16
     intro H hX1 σ w15
     refine andE fun hag => andE fun hO => andE fun ba => andE fun bF => andE fun bi => andE fun bc => andE fun bX => fun hB => ?_
     refine Go1.keep [(1, .pointer (some ⟨B2, 0, none⟩)), (3, .int .i64 (a0.Table.length : Int)), (53, .slice bH a0.Table.length bI), (54, .int .i64 (a0.Table.length : Int)), (55, .int .i64 (k1_16 : Int))] hag ?_
     refine zq (zr ?_)
     by_cases h17 : (k1_16 : Int) < (a0.Table.length : Int)
     ·replace H := ifp h17 H
      refine zo (fun w => opB (J08 rfl rfl w) (decide_eq_true h17)) (zn (zq (zt rfl rfl (zk (zq ?_)))))
      refine zb (zq (zr ?_))
      obtain ⟨h18, H⟩ := H
      obtain ⟨h19, H⟩ := H
      refine zo (J02 Try.underlying23 ti31 rfl rfl h18 h19 (ba.some_ h18 h19)) ?_
      have zz := ldSl ba h18 h19
      obtain ⟨p20, c21, F5, UK⟩ := zz
      refine zs (UK Try.underlying31 rfl rfl) (za rfl (zn (zq (zr (zm rfl ?_)))))
      refine zo (J0c Try.underlying31 rfl) ?_
      replace H := H F5.bd
      refine zm rfl ?_
      by_cases h24 : ((ix a0.Table (k1_16 : Int)).length : Int) = (a0.Table.length : Int)
      ·replace H := ifp h24 H
       refine zo (fun w => opB (J0j rfl rfl w) (ndT h24)) (zm rfl (zm rfl (zm rfl ?_)))
       refine GoR.call (J0a body76 rfl (J13 hO.lt F5 H)) rfl rfl ?_
       rintro v29 w26 ⟨r25, rfl, UL, H⟩
       have sU := Stp.same hO UL
       replace hO := sU.own
       cases r25
       ·replace H := ifn Bool.false_ne_true H
        refine zo (J0g rfl) (zo (J05 rfl rfl rfl) (zn (zt rfl rfl (zq (zr ?_)))))
        refine za rfl (zn ?_)
        refine Go1.ret1 Try.func71 rfl ?_
        replace hB := hB.trans sU.fr
        exact ⟨false, rfl, hB.same, H⟩
       replace H := ifp rfl H
       refine zo (J0g rfl) (zo (J05 rfl rfl rfl) (zn (zf rfl rfl (zk ?_))))
       refine Go1.inBlock ?_
       refine zr ?_
       replace ba := ba.ch sU.ch
       refine zo (J0e rfl rfl (wrap_i64 (natbd h17 ba.bd))) (zm rfl (zn ?_))
       replace bF := bF.ch sU.ch
       replace bi := bi.ch sU.ch
       replace bc := bc.ch sU.ch
       replace bX := bX.ch sU.ch
       replace hB := hB.trans sU.fr
       exact hX1 _ H _ _ ⟨⟨rfl, rfl, rfl, rfl, rfl, trivial⟩, hO, ba, bF, bi, bc, bX, hB⟩
      replace H := ifn h24 H
      refine zo (fun w => opB (J0j rfl rfl w) (ndF h24)) (zm rfl (zp (zp (zp (zp ?_)))))
      refine zo (J04 rfl rfl rfl) (zn (zt rfl rfl (zq ?_)))
      refine Go1.cut [] trivial ?_
      intro σ _
      refine zr (za rfl (zn ?_))
      refine Go1.ret1 Try.func71 rfl ?_
      exact ⟨false, rfl, hB.same, H⟩
     replace H := ifn h17 H
     refine zo (fun w => opB (J08 rfl rfl w) (decide_eq_false h17)) (zn (zq (zf rfl rfl ?_)))
     refine Go1.exit rfl ?_
     refine zq (zr (zo (J00 Try.underlying33 rfl ti31 rfl (by decide)) (zs (oblk (i := 3) 0 hO rfl rfl Try.underlying31 rfl rfl) (zm rfl ?_))))
     refine GoR.call (J0a body76 rfl (J13 hO.lt bi H)) rfl rfl ?_
     rintro v35 w32 ⟨r31, rfl, UM, H⟩
     have uo := Stp.same hO UM
     replace hO := uo.own
     refine za rfl (zn ?_)
     refine Go1.ret1 Try.func71 rfl ?_
     replace hB := hB.trans uo.fr
     exact ⟨r31, rfl, hB.same, H⟩
    replace H := ifn h14 H
    refine zo (fun w => opB (J0j rfl rfl w) (ndF h14)) (zo (J05 rfl rfl rfl) (zn (zt rfl rfl (zq (zr ?_)))))
    refine za rfl (zn ?_)
    refine Go1.ret1 Try.func71 rfl ?_
    replace hB := hB.trans dX.fr
    exact ⟨false, rfl, hB.same, H⟩
   replace H := ifn h13 H
   refine zo (fun w => opB (J0j rfl rfl w) (ndF h13)) (zo (J05 rfl rfl rfl) (zm rfl (zp (zp (zp ?_)))))
   refine zp (zp (zp (zo (J04 rfl rfl rfl) (zn (zt rfl rfl ?_)))))
   refine zq (zr (za rfl (zn ?_)))
   refine Go1.ret1 Try.func71 rfl ?_
   replace hB := hB.trans dX.fr
   exact ⟨false, rfl, hB.same, H⟩
  replace H := ifn h12 H
  refine zo (fun w => opB (J0j rfl rfl w) (ndF h12)) (zo (J05 rfl rfl rfl) (zm rfl (zp (zp (zp ?_)))))
  refine zp (zp (zo (J04 rfl rfl rfl) (zm rfl (zp (zp ?_)))))
  refine zp (zp (zp (zp (zo (J04 rfl rfl rfl) (zn ?_)))))
  refine zt rfl rfl (zq ?_)
  refine Go1.cut [] trivial ?_
  intro σ _
  refine zr (za rfl (zn ?_))
  refine Go1.ret1 Try.func71 rfl ?_
  replace hB := hB.trans dX.fr
  exact ⟨false, rfl, hB.same, H⟩
 replace H := ifn h11 H
 refine zo (fun w => opB (J0j rfl rfl w) (ndF h11)) (zm rfl (zp (zp (zp (zp ?_)))))
 refine zp (zo (J04 rfl rfl rfl) (zm rfl (zp (zp (zp ?_)))))
 refine zp (zp (zo (J04 rfl rfl rfl) (zm rfl (zp (zp ?_)))))
 refine zp (zp (zp (zp (zo (J04 rfl rfl rfl) (zn ?_)))))
 refine zt rfl rfl (zq ?_)
 refine Go1.cut [] trivial ?_
 intro σ _
 refine zr (za rfl (zn ?_))
 refine Go1.ret1 Try.func71 rfl ?_
 replace hB := hB.trans dX.fr
 exact ⟨false, rfl, hB.same, H⟩
theorem body72 : Body Try.prog 72 := ⟨Try.f72, Try.func72, rfl, by kernel_rfl⟩
theorem J2n {A : List Nat} {w0 : World} {eC : Option Addr} {eF : Nat} {fh : Option Addr} {fk : Nat} {eG : Option Addr} {eH : Nat} {eQ : Option Addr} {eU : Nat} {fB : Option Addr} {fC : Nat} {s_ : Syntactic} (hA : ∀ b ∈ A, b < w0.heap.size) (bG : ISl (Rp.sl (Rp.int .i64)) A w0 eC eF s_.Table) (bT : ISl (Rp.str) A w0 fh fk s_.Words) (bo : ISl (Rp.int .i64) A w0 eG eH s_.Images) (bB : ISl (Rp.bool) A w0 eQ eU s_.Accept) (cq : ISl (Rp.bool) A w0 fB fC s_.Plus) {K : DFA → Prop} (H : J0E s_ K) :
    CallsV Try.prog 72 #[.agg #[.int .i64 s_.Letters, .slice eC s_.Table.length eF, .slice fh s_.Words.length fk, .slice eG s_.Images.length eH, .slice eQ s_.Accept.length eU, .slice fB s_.Plus.length fC]] w0 (fun v w' => ∃ (r0 : DFA) (iV : Option Addr) (iW : Nat) (jD : Option Addr) (jE : Nat), v = .agg #[.int .i64 r0.Letters, .int .i64 r0.Start, .slice iV r0.Final.length iW, .slice jD r0.Next.length jE] ∧ Same w0 w' ∧ ISl (Rp.bool) A w' iV iW r0.Final ∧ ISl (Rp.sl (Rp.int .i64)) A w' jD jE r0.Next ∧ K r0) := by
 refine CallsV.of (l := [.agg #[.int .i64 s_.Letters, .slice eC s_.Table.length eF, .slice fh s_.Words.length fk, .slice eG s_.Images.length eH, .slice eQ s_.Accept.length eU, .slice fB s_.Plus.length fC]]) Try.func72 rfl Try.ntmps72 rfl ?_
 have hO := Owns.start hA
 have hB := Fr.refl (bl []) w0
 unfold J0E at H
 refine zq (zr ?_)
 have zz := obox (t := 33) (v := .agg #[.int .i64 s_.Letters, .slice eC s_.Table.length eF, .slice fh s_.Words.length fk, .slice eG s_.Images.length eH, .slice eQ s_.Accept.length eU, .slice fB s_.Plus.length fC]) (cs := #[.int .i64 s_.Letters, .slice eC s_.Table.length eF, .slice fh s_.Words.length fk, .slice eG s_.Images.length eH, .slice eQ s_.Accept.length eU, .slice fB s_.Plus.length fC]) hO rfl
 obtain ⟨w1, B2, dX, hs4, jU⟩ := zz
 refine zg (jU rfl) ?_
 replace hO := dX.own
 have zz := oalloc (t := 25) (cs := #[.int .i64 0, .int .i64 0, .slice none 0 0, .slice none 0 0]) ti25 hO rfl
 obtain ⟨w7, B8, gU, xF, tH⟩ := zz
 refine GoR.op tH rfl rfl ?_
 replace hO := gU.own
 refine zn (zq ?_)
 refine Go1.cut [(1, .pointer (some ⟨B2, 0, none⟩)), (2, .pointer (some ⟨B8, 0, none⟩))] ⟨rfl, rfl, trivial⟩ ?_
 intro σ _
 refine Go1.drawA Same.tr A 1 [(0, .pure), (1, .stable), (2, .pure), (3, .stable), (5, .pure), (6, .stable), (7, .pure), (4, .loud), (8, .alloc), (9, .pure), (10, .alloc), (11, .last)] mixed (by kernel_rfl) trivial hO.bd ?_
 intro w13 UN
 have oa := Stp.same hO UN
 replace hO := oa.own
 have F6 := hO.le
 replace hB := ((hB.trans dX.fr).trans gU.fr).trans oa.fr
 have hw16 := hB.ch.size
 refine GoQA.pure rfl (J00 Try.underlying33 rfl ti3 rfl (by decide)) rfl rfl ?_
 refine GoQA.stable rfl (oblk (i := 0) 1 hO rfl rfl Try.underlying3 rfl rfl) rfl rfl ?_
 refine GoQA.pure rfl (J00 Try.underlying33 rfl ti22 rfl (by decide)) rfl rfl ?_
 refine GoQA.stable rfl (oblk (i := 4) 1 hO rfl rfl Try.underlying22 rfl rfl) rfl rfl ?_
 refine GoQA.pure rfl (J00 Try.underlying33 rfl ti23 rfl (by decide)) rfl rfl ?_
 refine GoQA.stable rfl (oblk (i := 1) 1 hO rfl rfl Try.underlying23 rfl rfl) rfl rfl ?_
 refine GoQA.pure rfl (J0c Try.underlying23 rfl) rfl rfl ?_
 have Z1 := (((Ch.start A w0).trans dX.ch).trans gU.ch).trans oa.ch
 replace bG := bG.ch Z1
 replace H := H bG.bd
 refine GoQA.loudI rfl rfl ?_
 intro w18 A19 A5
 replace hO := A5.own hO
 replace bB := (bB.ch Z1).ch (A5.ch _)
 refine GoAt.call (J0a body69 rfl (J2C hO.lt bB H)) (fun v w hr => ⟨fun _ => (by obtain ⟨_, _, _, _, _, _, hs, _, _, _⟩ := hr; exact hs), Same.kp hO (by obtain ⟨_, _, _, _, _, _, hs, _, _, _⟩ := hr; exact hs)⟩) rfl ?_
 rintro v26 w23 ⟨r21, fQ, fD, fE, jM, rfl, JK, hN25, f9, H⟩
 have qR := Stp.more hO JK hN25
 replace hO := qR.own
 obtain ⟨h39, H⟩ := H
 obtain ⟨h40, H⟩ := H
 refine GoQA.alloc rfl rfl (alMake2 (e' := 3) (Fl.int .i64) Try.underlying23 ti31 h39 h40 (by decide) rfl rfl) ?_
 intro w30 A31 b32 A33 zh Nd hd36 hnb37 hh38
 replace hO := zh.own hO
 have Cn := gainCh (w := w30) (E := [.row 4 1 fD fQ fE jM, .blk B8 (.cells #[.int .i64 0, .int .i64 0, .slice none 0 0, .slice none 0 0] 25 (0, 0)), .blk B2 (.cells #[.int .i64 s_.Letters, .slice eC s_.Table.length eF, .slice fh s_.Words.length fk, .slice eG s_.Images.length eH, .slice eQ s_.Accept.length eU, .slice fB s_.Plus.length fC] 33 (0, 0))]) (e := t2 (Fl.int .i64) 31 3 (some ⟨b32, 0, none⟩) s_.Table.length s_.Table.length ((fun _ => (none, 0))) (List.replicate s_.Table.length ([] : List Int))) Nd (J2s b32)
 replace hB := ((hB.trans (A5.same.fr _)).trans qR.fr).trans (zh.same.fr _)
 replace hB := Fr.gain (e := t2 (Fl.int .i64) 31 3 (some ⟨b32, 0, none⟩) s_.Table.length s_.Table.length ((fun _ => (none, 0))) (List.replicate s_.Table.length ([] : List Int))) hB (Nat.le_trans hw16 hnb37) (J2s b32)
 replace hO := Owns.gain hO Nd F6 (J2s b32) hh38 hd36
 refine GoQA.pure rfl (J0w Try.underlying25 ti25 (pl := [(0, 1), (1, 1), (2, 1), (3, 1)]) (vs := [(0, .int .i64 s_.Letters), (2, .slice fD fQ fE), (3, .slice (some ⟨b32, 0, none⟩) s_.Table.length s_.Table.length)]) (cs := #[.int .i64 s_.Letters, .int .i64 0, .slice fD fQ fE, .slice (some ⟨b32, 0, none⟩) s_.Table.length s_.Table.length]) (by kernel_rfl) rfl (by kernel_rfl)) rfl rfl ?_
 refine GoQA.alloc rfl rfl (alAlloc (cs := #[.int .i64 0, .int .i64 0, .slice none 0 0, .slice none 0 0]) ti25 rfl) ?_
 intro w43 A44 b45 A46 zi Nf hd49 hnb50 hh51
 replace hO := zi.own hO
 have Co := gainCh (w := w43) (E := [t2 (Fl.int .i64) 31 3 (some ⟨b32, 0, none⟩) s_.Table.length s_.Table.length ((fun _ => (none, 0))) (List.replicate s_.Table.length ([] : List Int)), .row 4 1 fD fQ fE jM, .blk B8 (.cells #[.int .i64 0, .int .i64 0, .slice none 0 0, .slice none 0 0] 25 (0, 0)), .blk B2 (.cells #[.int .i64 s_.Letters, .slice eC s_.Table.length eF, .slice fh s_.Words.length fk, .slice eG s_.Images.length eH, .slice eQ s_.Accept.length eU, .slice fB s_.Plus.length fC] 33 (0, 0))]) (e := .blk b45 (.cells #[.int .i64 0, .int .i64 0, .slice none 0 0, .slice none 0 0] 25 (0, 0))) Nf rfl
 replace hB := hB.trans (zi.same.fr _)
 replace hB := Fr.gain (e := .blk b45 (.cells #[.int .i64 0, .int .i64 0, .slice none 0 0, .slice none 0 0] 25 (0, 0))) hB (Nat.le_trans hw16 hnb50) rfl
 replace hO := Owns.gain hO Nf F6 rfl hh51 hd49
 refine GoQA.lastI rfl rfl ?_
 intro w53 A54 zj
 replace hO := zj.own hO
 have zz := J0b (us := [.int .i64 s_.Letters, .int .i64 0, .slice fD fQ fE, .slice (some ⟨b32, 0, none⟩) s_.Table.length s_.Table.length]) (o := 0) (cs' := #[.int .i64 s_.Letters, .int .i64 0, .slice fD fQ fE, .slice (some ⟨b32, 0, none⟩) s_.Table.length s_.Table.length]) 0 hO rfl rfl (Nat.le_of_ble_eq_true rfl) rfl
 obtain ⟨w56, iD, RE⟩ := zz
 dsimp only [sS, sZ] at iD
 refine GoAt.step (RE ti25 (by exact rfl) (by exact rfl) rfl) (fun h => nomatch h) (Stp.kp hO iD) rfl ?_
 replace hO := iD.own
 refine GoQA.nil ?_
 intro w59 A60 zl A6
 replace hO := zl.own hO
 replace hO := hO.permA A6
 refine zq (zq (zr (zo (J00 Try.underlying33 rfl ti23 rfl (by decide)) (zs (oblk (i := 1) 4 hO rfl rfl Try.underlying23 rfl rfl) (zo (J0c Try.underlying23 rfl) ?_)))))
 refine zm rfl (zn (zb ?_))
 replace f9 := f9.ch (Ch.assoc _ _ _ _)
 replace hB := ((hB.trans (zj.same.fr _)).trans iD.fr).trans (zl.same.fr _)
 have Z2 := (((((((zh.ch _).trans Cn).trans (zi.ch _)).trans Co).trans (zj.ch _)).trans iD.ch).trans (zl.ch _)).trans (permCh A6 _)
 replace f9 := f9.ch Z2
 have Z3 := (((((((qR.ch.trans (zh.ch _)).trans Cn).trans (zi.ch _)).trans Co).trans (zj.ch _)).trans iD.ch).trans (zl.ch _)).trans (permCh A6 _)
 replace bB := bB.ch Z3
 have Z4 := (((((((((A5.ch _).trans qR.ch).trans (zh.ch _)).trans Cn).trans (zi.ch _)).trans Co).trans (zj.ch _)).trans iD.ch).trans (zl.ch _)).trans (permCh A6 _)
 replace bG := bG.ch Z4
 have Z5 := (((((((((Z1.trans (A5.ch _)).trans qR.ch).trans (zh.ch _)).trans Cn).trans (zi.ch _)).trans Co).trans (zj.ch _)).trans iD.ch).trans (zl.ch _)).trans (permCh A6 _)
 replace bT := bT.ch Z5
 replace bo := bo.ch Z5
 replace cq := cq.ch Z5
 refine Go1.loopW (S := Nat × List (List Int)) (fun s σ w => match s with | (k1_64, d_65) => ∃ (ip : Hd), agrees σ [(1, .pointer (some ⟨B2, 0, none⟩)), (2, .pointer (some ⟨B8, 0, none⟩)), (3, .pointer (some ⟨b45, 0, none⟩)), (19, .slice eC s_.Table.length eF), (20, .int .i64 (s_.Table.length : Int)), (21, .int .i64 (k1_64 : Int))] ∧ (fun Z0 => Owns w0.heap.size w Z0 A ∧ Els (Rp.bool) (bl Z0 ++ A) w jM r21 ∧ ISl (Rp.sl (Rp.int .i64)) (bl Z0 ++ A) w eC eF s_.Table ∧ ISl (Rp.str) (bl Z0 ++ A) w fh fk s_.Words ∧ ISl (Rp.int .i64) (bl Z0 ++ A) w eG eH s_.Images ∧ ISl (Rp.bool) (bl Z0 ++ A) w eQ eU s_.Accept ∧ ISl (Rp.bool) (bl Z0 ++ A) w fB fC s_.Plus ∧ Fr (bl []) w0 (bl Z0) w) [.blk b45 (.cells #[.int .i64 s_.Letters, .int .i64 0, .slice fD fQ fE, .slice (some ⟨b32, 0, none⟩) s_.Table.length s_.Table.length] 25 (0, 0)), t2 (Fl.int .i64) 31 3 (some ⟨b32, 0, none⟩) s_.Table.length s_.Table.length ip d_65, .row 4 1 fD fQ fE jM, .blk B8 (.cells #[.int .i64 0, .int .i64 0, .slice none 0 0, .slice none 0 0] 25 (0, 0)), .blk B2 (.cells #[.int .i64 s_.Letters, .slice eC s_.Table.length eF, .slice fh s_.Words.length fk, .slice eG s_.Images.length eH, .slice eQ s_.Accept.length eU, .slice fB s_.Plus.length fC] 33 (0, 0))]) H ⟨(fun _ => (none, 0)), ⟨rfl, rfl, rfl, rfl, rfl, rfl, trivial⟩, hO, f9, bG, bT, bo, bB, cq, hB⟩ ?_
 intro X1
 refine prE fun k1_64 => fun d_65 => ?_
 intro H hX1 σ w63
 refine exE fun ip => andE fun hag => andE fun hO => andE fun f9 => andE fun bG => andE fun bT => andE fun bo => andE fun bB => andE fun cq => fun hB => ?_
 dsimp only at H
 refine Go1.keep [(1, .pointer (some ⟨B2, 0, none⟩)), (2, .pointer (some ⟨B8, 0, none⟩)), (3, .pointer (some ⟨b45, 0, none⟩)), (19, .slice eC s_.Table.length eF), (20, .int .i64 (s_.Table.length : Int)), (21, .int .i64 (k1_64 : Int))] hag ?_
 refine zq (zr ?_)
 by_cases h67 : (k1_64 : Int) < (s_.Table.length : Int)
 ·replace H := ifp h67 H
  refine zo (fun w => opB (J08 rfl rfl w) (decide_eq_true h67)) (zn (zq (zt rfl rfl (zk (zq ?_)))))
  refine zb (zq (zr (zm rfl ?_)))
  obtain ⟨h68, H⟩ := H
  obtain ⟨h69, H⟩ := H
  refine zo (J02 Try.underlying23 ti31 rfl rfl h68 h69 (bG.some_ h68 h69)) ?_
  have zz := ldSl bG h68 h69
  obtain ⟨p70, c71, kS, UO⟩ := zz
  refine zs (UO Try.underlying31 rfl rfl) (za rfl (za rfl (zn (zq ?_))))
  refine Go1.drawS 1 [(0, .pure), (1, .stable), (2, .pure), (3, .pure), (4, .stable), (5, .loud), (6, .pure), (7, .last)] mixed (by kernel_rfl) ?_
  intro w74 UP
  have wG := Stp.same hO UP
  replace hO := wG.own
  refine GoQ.pure rfl (J00 Try.underlying25 rfl ti23 rfl (by decide)) rfl rfl ?_
  refine GoQ.stable rfl (oblk (i := 3) 0 hO rfl rfl Try.underlying23 rfl rfl) rfl rfl ?_
  refine GoQ.pure rfl (J03 rfl) rfl rfl ?_
  refine GoQ.pure rfl (J00 Try.underlying33 rfl ti3 rfl (by decide)) rfl rfl ?_
  refine GoQ.stable rfl (oblk (i := 0) 4 hO rfl rfl Try.underlying3 rfl rfl) rfl rfl ?_
  obtain ⟨h84, H⟩ := H
  obtain ⟨h85, H⟩ := H
  have zz := omake (n := s_.Letters) (r := Rp.int .i64) (d := (0 : Int)) Try.underlying31 ti3 (fun _ _ => rfl) rfl hO h84 h85 (by decide)
  obtain ⟨w77, p78, abK, gM, nF, UQ, Fe⟩ := zz
  refine GoQ.loud rfl (Fe rfl rfl) UQ rfl rfl ?_
  replace hO := gM.own
  obtain ⟨h87, H⟩ := H
  obtain ⟨h88, H⟩ := H
  refine GoQ.pure rfl (J02 Try.underlying23 ti31 rfl rfl h87 (ltn (t2neq 2 hO rfl) h88) (t2some 2 hO rfl h87 h88)) rfl rfl ?_
  have ka := Stp.front 2 hO rfl
  dsimp only [eS, eZ] at ka
  replace hO := ka.own
  have vd := Stp.front 1 hO rfl
  dsimp only [eS, eZ] at vd
  replace hO := vd.own
  replace nF := (nF.ch ka.ch).ch vd.ch
  have zz := t2put (hf := (Fl.int .i64)) hO nF h87 h88
  obtain ⟨w91, jH, RF⟩ := zz
  refine GoQ.last rfl (RF Try.underlying31 rfl ti31 (by exact rfl) (by exact rfl)) rfl rfl ?_
  replace hO := jH.own
  refine GoQ.nil ?_
  refine zq (zr (zo (J00 Try.underlying33 rfl ti31 rfl (by decide)) (zs (oblk (i := 3) 4 hO rfl rfl Try.underlying31 rfl rfl) (zo (J0c Try.underlying31 rfl) ?_))))
  have Z6 := (((wG.ch.trans gM.ch).trans ka.ch).trans vd.ch).trans jH.ch
  replace bo := bo.ch Z6
  replace H := H bo.bd
  refine zm rfl (zn (zb ?_))
  replace f9 := f9.ch Z6
  replace bG := bG.ch Z6
  replace bT := bT.ch Z6
  replace bB := bB.ch Z6
  replace cq := cq.ch Z6
  replace kS := kS.ch Z6
  replace hB := ((((hB.trans wG.fr).trans gM.fr).trans ka.fr).trans vd.fr).trans jH.fr
  refine Go1.loopW (S := Nat × List (List Int)) (fun s σ w => match s with | (k2_95, d_96) => agrees σ [(1, .pointer (some ⟨B2, 0, none⟩)), (2, .pointer (some ⟨B8, 0, none⟩)), (3, .pointer (some ⟨b45, 0, none⟩)), (4, .int .i64 (k1_64 : Int)), (5, .slice p70 ((ix s_.Table (k1_64 : Int)).length) c71), (19, .slice eC s_.Table.length eF), (20, .int .i64 (s_.Table.length : Int)), (21, .int .i64 (k1_64 : Int)), (34, .slice eG s_.Images.length eH), (35, .int .i64 (s_.Images.length : Int)), (36, .int .i64 (k2_95 : Int))] ∧ (fun Z0 => Owns w0.heap.size w Z0 A ∧ Els (Rp.bool) (bl Z0 ++ A) w jM r21 ∧ ISl (Rp.sl (Rp.int .i64)) (bl Z0 ++ A) w eC eF s_.Table ∧ ISl (Rp.str) (bl Z0 ++ A) w fh fk s_.Words ∧ ISl (Rp.int .i64) (bl Z0 ++ A) w eG eH s_.Images ∧ ISl (Rp.bool) (bl Z0 ++ A) w eQ eU s_.Accept ∧ ISl (Rp.bool) (bl Z0 ++ A) w fB fC s_.Plus ∧ ISl (Rp.int .i64) (bl Z0 ++ A) w p70 c71 (ix s_.Table (k1_64 : Int)) ∧ Fr (bl []) w0 (bl Z0) w) [t2 (Fl.int .i64) 31 3 (some ⟨b32, 0, none⟩) s_.Table.length s_.Table.length (hup ip (k1_64 : Int).toNat (p78, s_.Letters.toNat)) d_96, .blk b45 (.cells #[.int .i64 s_.Letters, .int .i64 0, .slice fD fQ fE, .slice (some ⟨b32, 0, none⟩) s_.Table.length s_.Table.length] 25 (0, 0)), .row 4 1 fD fQ fE jM, .blk B8 (.cells #[.int .i64 0, .int .i64 0, .slice none 0 0, .slice none 0 0] 25 (0, 0)), .blk B2 (.cells #[.int .i64 s_.Letters, .slice eC s_.Table.length eF, .slice fh s_.Words.length fk, .slice eG s_.Images.length eH, .slice eQ s_.Accept.length eU, .slice fB s_.Plus.length fC] 33 (0, 0))]) H ⟨⟨rfl, rfl, rfl, rfl, rfl, rfl, rfl, rfl, rfl, rfl, rfl, trivial⟩, hO, f9, bG, bT, bo, bB, cq, kS, hB⟩ ?_
  intro X2
  refine prE fun k2_95 => fun d_96 => ?_
  intro H hX2 σ w94
  refine andE fun hag => andE fun hO => andE fun f9 => andE fun bG => andE fun bT => andE fun bo => andE fun bB => andE fun cq => andE fun kS => fun hB => ?_
  dsimp only at H
  refine Go1.keep [(1, .pointer (some ⟨B2, 0, none⟩)), (2, .pointer (some ⟨B8, 0, none⟩)), (3, .pointer (some ⟨b45, 0, none⟩)), (4, .int .i64 (k1_64 : Int)), (5, .slice p70 ((ix s_.Table (k1_64 : Int)).length) c71), (19, .slice eC s_.Table.length eF), (20, .int .i64 (s_.Table.length : Int)), (21, .int .i64 (k1_64 : Int)), (34, .slice eG s_.Images.length eH), (35, .int .i64 (s_.Images.length : Int)), (36, .int .i64 (k2_95 : Int))] hag ?_
  refine zq (zr ?_)
  by_cases h97 : (k2_95 : Int) < (s_.Images.length : Int)
  ·replace H := ifp h97 H
   refine zo (fun w => opB (J08 rfl rfl w) (decide_eq_true h97)) (zn (zq (zt rfl rfl (zk (zq ?_)))))
   refine zb (zq (zr (zm rfl ?_)))
   obtain ⟨h98, H⟩ := H
   obtain ⟨h99, H⟩ := H
   refine zo (J02 Try.underlying31 ti3 rfl rfl h98 h99 (bo.some_ h98 h99)) (zs (ldInt bo h98 h99 Try.underlying3 rfl rfl) (za rfl (za rfl (zn ?_))))
   refine Go1.drawS 1 [(0, .pure), (1, .stable), (2, .pure), (3, .pure), (4, .stable), (5, .pure), (6, .pure), (7, .pure), (8, .pure), (9, .stable), (10, .pure), (11, .last)] mixed (by kernel_rfl) ?_
   intro SY RG
   have ve := Stp.same hO RG
   replace hO := ve.own
   refine GoQ.pure rfl (J00 Try.underlying25 rfl ti23 rfl (by decide)) rfl rfl ?_
   refine GoQ.stable rfl (oblk (i := 3) 1 hO rfl rfl Try.underlying23 rfl rfl) rfl rfl ?_
   refine GoQ.pure rfl (J03 rfl) rfl rfl ?_
   obtain ⟨wN, H⟩ := H
   obtain ⟨sL, H⟩ := H
   refine GoQ.pure rfl (J02 Try.underlying23 ti31 rfl rfl wN (ltn (t2neq 0 hO rfl) sL) (t2some 0 hO rfl wN sL)) rfl rfl ?_
   refine GoQ.stable rfl (t2head 0 hO rfl wN sL Try.underlying31 rfl rfl) rfl rfl ?_
   refine GoQ.pure rfl (J03 rfl) rfl rfl ?_
   refine GoQ.pure rfl (J03 rfl) rfl rfl ?_
   refine GoQ.pure rfl (J03 rfl) rfl rfl ?_
   obtain ⟨uF, H⟩ := H
   obtain ⟨AF, H⟩ := H
   replace kS := kS.ch ve.ch
   refine GoQ.pure rfl (J02 Try.underlying31 ti3 rfl rfl uF AF (kS.some_ uF AF)) rfl rfl ?_
   refine GoQ.stable rfl (ldInt kS uF AF Try.underlying3 rfl rfl) rfl rfl ?_
   obtain ⟨nX, H⟩ := H
   obtain ⟨qO, H⟩ := H
   refine GoQ.pure rfl (J02 Try.underlying31 ti3 rfl rfl nX qO (t2isome 0 hO rfl wN sL nX qO)) rfl rfl ?_
   have zz := t2st (r := Rp.int .i64) (hf := (Fl.int .i64)) rfl 0 hO rfl wN sL nX qO (v := .int .i64 (ix (ix s_.Table (k1_64 : Int)) (ix s_.Images (k2_95 : Int)))) (u := (ix (ix s_.Table (k1_64 : Int)) (ix s_.Images (k2_95 : Int)))) rfl rfl
   obtain ⟨Ks, kP, DA⟩ := zz
   dsimp only [sS, sZ] at kP
   refine GoQ.last rfl (DA Try.underlying3 rfl ti3 (by exact rfl) (by exact rfl)) rfl rfl ?_
   replace hO := kP.own
   refine GoQ.nil ?_
   refine Go1.inBlock ?_
   refine zr ?_
   replace bo := (bo.ch ve.ch).ch kP.ch
   refine zo (J0e rfl rfl (wrap_i64 (natbd h97 bo.bd))) (zm rfl (zn ?_))
   replace kS := kS.ch kP.ch
   have Z7 := ve.ch.trans kP.ch
   replace f9 := f9.ch Z7
   replace bG := bG.ch Z7
   replace bT := bT.ch Z7
   replace bB := bB.ch Z7
   replace cq := cq.ch Z7
   replace hB := (hB.trans ve.fr).trans kP.fr
   exact hX2 _ H _ _ ⟨⟨rfl, rfl, rfl, rfl, rfl, rfl, rfl, rfl, rfl, rfl, rfl, trivial⟩, hO, f9, bG, bT, bo, bB, cq, kS, hB⟩
  replace H := ifn h97 H
  refine zo (fun w => opB (J08 rfl rfl w) (decide_eq_false h97)) (zn (zq (zf rfl rfl ?_)))
  refine Go1.exit rfl ?_
  refine Go1.inBlock ?_
  refine Go1.cut [(1, .pointer (some ⟨B2, 0, none⟩)), (2, .pointer (some ⟨B8, 0, none⟩)), (3, .pointer (some ⟨b45, 0, none⟩)), (19, .slice eC s_.Table.length eF), (20, .int .i64 (s_.Table.length : Int)), (21, .int .i64 (k1_64 : Int))] ⟨rfl, rfl, rfl, rfl, rfl, rfl, trivial⟩ ?_
  intro σ _
  refine zr (zo (J0e rfl rfl (wrap_i64 (natbd h67 bG.bd))) (zm rfl (zn ?_)))
  have mh := Stp.front 4 hO rfl
  dsimp only [eS, eZ] at mh
  replace hO := mh.own
  have lk := Stp.front 4 hO rfl
  dsimp only [eS, eZ] at lk
  replace hO := lk.own
  have ui := Stp.front 4 hO rfl
  dsimp only [eS, eZ] at ui
  replace hO := ui.own
  have iC := Stp.front 3 hO rfl
  dsimp only [eS, eZ] at iC
  replace hO := iC.own
  have mV := Stp.front 4 hO rfl
  dsimp only [eS, eZ] at mV
  replace hO := mV.own
  have Z8 := (((mh.ch.trans lk.ch).trans ui.ch).trans iC.ch).trans mV.ch
  replace f9 := f9.ch Z8
  replace bG := bG.ch Z8
  replace bT := bT.ch Z8
  replace bo := bo.ch Z8
  replace bB := bB.ch Z8
  replace cq := cq.ch Z8
  replace hB := ((((hB.trans mh.fr).trans lk.fr).trans ui.fr).trans iC.fr).trans mV.fr
  exact hX1 _ H _ _ ⟨hup ip (k1_64 : Int).toNat (p78, s_.Letters.toNat), ⟨rfl, rfl, rfl, rfl, rfl, rfl, trivial⟩, hO, f9, bG, bT, bo, bB, cq, hB⟩
 replace H := ifn h67 H
 refine zo (fun w => opB (J08 rfl rfl w) (decide_eq_false h67)) (zn (zq (zf rfl rfl ?_)))
 refine Go1.exit rfl ?_
 refine zq (zr (zs (J0l (vs := [.int .i64 s_.Letters, .int .i64 0, .slice fD fQ fE, .slice (some ⟨b32, 0, none⟩) s_.Table.length s_.Table.length]) (i := 0) 0 hO rfl rfl Try.underlying25 rfl ti25 rfl) ?_))
 have zz := J0b (us := [.int .i64 s_.Letters, .int .i64 0, .slice fD fQ fE, .slice (some ⟨b32, 0, none⟩) s_.Table.length s_.Table.length]) (o := 0) (cs' := #[.int .i64 s_.Letters, .int .i64 0, .slice fD fQ fE, .slice (some ⟨b32, 0, none⟩) s_.Table.length s_.Table.length]) 3 hO rfl rfl (Nat.le_of_ble_eq_true rfl) rfl
 obtain ⟨S9, vg, Ek⟩ := zz
 dsimp only [sS, sZ] at vg
 refine zg (Ek ti25 (by exact rfl) (by exact rfl) rfl) ?_
 replace hO := vg.own
 refine zn ?_
 replace f9 := f9.ch vg.ch
 have zz := freeze 2 hO rfl f9
 obtain ⟨hO1, z4, C6, RH⟩ := zz
 dsimp only [eS, eZ] at hO1 z4 C6
 replace hB := (hB.trans vg.fr).trans (Owns.J09 _ _ 2)
 dsimp only [eS, eZ] at hB
 replace hO := hO1; clear hO1
 have zz := t2freezeA 1 hO rfl
 obtain ⟨hO1, yF, JH, RJ⟩ := zz
 dsimp only [eS, eZ] at hO1 yF JH
 replace hB := hB.trans (Owns.J09 _ _ 1)
 dsimp only [eS, eZ] at hB
 replace hO := hO1; clear hO1
 refine Go1.retC1 Try.func72 rfl rfl (J0i (vs := [.int .i64 s_.Letters, .int .i64 0, .slice fD fQ fE, .slice (some ⟨b32, 0, none⟩) s_.Table.length s_.Table.length]) 1 hO rfl rfl Try.underlying25 rfl ti25) ?_
 replace C6 := C6.ch yF
 exact ⟨(⟨s_.Letters, (0 : Int), r21, d_65⟩ : DFA), fD, fE, (some ⟨b32, 0, none⟩), s_.Table.length, (congrArg (fun l => Value.agg (List.toArray l)) (J0k rfl (J0k rfl (J0k (congrArg (fun nn => Value.slice fD nn fE) RH) (J0k (congrArg (fun nn => Value.slice (some ⟨b32, 0, none⟩) nn s_.Table.length) RJ) rfl))))), hB.same, (C6.ch (Ch.weak _ _ _)), (JH.ch (Ch.weak _ _ _)), H⟩
theorem body73 : Body Try.prog 73 := ⟨Try.f73, Try.func73, rfl, by kernel_rfl⟩
theorem J1E {A : List Nat} {w0 : World} {qI : Option Addr} {qJ : Nat} {qK : Option Addr} {qL : Nat} {s1 : List Int} {s2 : List Int} (hA : ∀ b ∈ A, b < w0.heap.size) (iK : ISl (Rp.int .i64) A w0 qI qJ s1) (iP : ISl (Rp.int .i64) A w0 qK qL s2) {K : Bool → Prop} (H : J0W s1 s2 K) :
    CallsV Try.prog 73 #[.slice qI s1.length qJ, .slice qK s2.length qL] w0 (fun v w' => ∃ (r0 : Bool), v = .bool r0 ∧ Same w0 w' ∧ K r0) := by
 refine CallsV.of (l := [.slice qI s1.length qJ, .slice qK s2.length qL]) Try.func73 rfl Try.ntmps73 rfl ?_
 have hO := Owns.start hA
 have hB := Fr.refl (bl []) w0
 unfold J0W at H
 refine zq (zr (za rfl (zn (zq (zq ?_)))))
 refine zr (zm rfl (zo (J0c Try.underlying31 rfl) ?_))
 replace iK := iK.ch (Ch.start A w0)
 replace H := H iK.bd
 refine zm rfl (zo (J0c Try.underlying31 rfl) ?_)
 replace iP := iP.ch (Ch.start A w0)
 replace H := H iP.bd
 by_cases h1 : (s1.length : Int) = (s2.length : Int)
 ·replace H := ifp h1 H
  refine zo (fun w => opB (J0j rfl rfl w) (ndT h1)) (zn (zf rfl rfl (zk (zq (zq ?_)))))
  refine zr (zm rfl (zo (J0c Try.underlying31 rfl) (zm rfl (zn (zb ?_)))))
  refine Go1.loopW (S := Nat) (fun s σ w => agrees σ [(0, .slice qI s1.length qJ), (1, .slice qK s2.length qL), (12, .int .i64 (s1.length : Int)), (13, .int .i64 (s : Int))] ∧ Owns w0.heap.size w [] A ∧ ISl (Rp.int .i64) (bl [] ++ A) w qI qJ s1 ∧ ISl (Rp.int .i64) (bl [] ++ A) w qK qL s2 ∧ Fr (bl []) w0 (bl []) w) H ⟨⟨rfl, rfl, rfl, rfl, trivial⟩, hO, iK, iP, hB⟩ ?_
  intro X1 k1_3
  intro H hX1 σ w2
  refine andE fun hag => andE fun hO => andE fun iK => andE fun iP => fun hB => ?_
  refine Go1.keep [(0, .slice qI s1.length qJ), (1, .slice qK s2.length qL), (12, .int .i64 (s1.length : Int)), (13, .int .i64 (k1_3 : Int))] hag ?_
  refine zq (zr ?_)
  by_cases h4 : (k1_3 : Int) < (s1.length : Int)
  ·replace H := ifp h4 H
   refine zo (fun w => opB (J08 rfl rfl w) (decide_eq_true h4)) (zn (zq (zt rfl rfl (zk (zq ?_)))))
   refine zb (zq (zr (zm rfl (za rfl (zn ?_)))))
   refine zq ?_
   refine Go1.drawS 0 [(0, .pure), (1, .pure), (2, .pure), (3, .stable), (4, .pure), (5, .pure), (6, .pure), (7, .stable), (8, .pure)] mixed (by kernel_rfl) ?_
   intro w5 hs6
   have m8 := Stp.same hO hs6
   replace hO := m8.own
   refine GoQ.pure rfl (J03 rfl) rfl rfl ?_
   refine GoQ.pure rfl (J03 rfl) rfl rfl ?_
   obtain ⟨h8, H⟩ := H
   obtain ⟨h9, H⟩ := H
   replace iK := iK.ch m8.ch
   refine GoQ.pure rfl (J02 Try.underlying31 ti3 rfl rfl h8 h9 (iK.some_ h8 h9)) rfl rfl ?_
   refine GoQ.stable rfl (ldInt iK h8 h9 Try.underlying3 rfl rfl) rfl rfl ?_
   refine GoQ.pure rfl (J03 rfl) rfl rfl ?_
   refine GoQ.pure rfl (J03 rfl) rfl rfl ?_
   obtain ⟨h10, H⟩ := H
   obtain ⟨h11, H⟩ := H
   replace iP := iP.ch m8.ch
   refine GoQ.pure rfl (J02 Try.underlying31 ti3 rfl rfl h10 h11 (iP.some_ h10 h11)) rfl rfl ?_
   refine GoQ.stable rfl (ldInt iP h10 h11 Try.underlying3 rfl rfl) rfl rfl ?_
   by_cases h12 : (ix s1 (k1_3 : Int)) = (ix s2 (k1_3 : Int))
   ·replace H := ifp h12 H
    refine GoQ.pure rfl (fun w => opB (J0j rfl rfl w) (ndT h12)) rfl rfl ?_
    refine GoQ.nil ?_
    refine zf rfl rfl (zk ?_)
    refine Go1.inBlock ?_
    refine zr (zo (J0e rfl rfl (wrap_i64 (natbd h4 iK.bd))) (zm rfl (zn ?_)))
    replace hB := hB.trans m8.fr
    exact hX1 _ H _ _ ⟨⟨rfl, rfl, rfl, rfl, trivial⟩, hO, iK, iP, hB⟩
   replace H := ifn h12 H
   refine GoQ.pure rfl (fun w => opB (J0j rfl rfl w) (ndF h12)) rfl rfl ?_
   refine GoQ.nil ?_
   refine zt rfl rfl (zq (zr (za rfl (zn ?_))))
   refine Go1.ret1 Try.func73 rfl ?_
   replace hB := hB.trans m8.fr
   exact ⟨false, rfl, hB.same, H⟩
  replace H := ifn h4 H
  refine zo (fun w => opB (J08 rfl rfl w) (decide_eq_false h4)) (zn (zq (zf rfl rfl ?_)))
  refine Go1.exit rfl ?_
  refine zq (zr (za rfl (zn ?_)))
  refine Go1.ret1 Try.func73 rfl ?_
  exact ⟨true, rfl, hB.same, H⟩
 replace H := ifn h1 H
 refine zo (fun w => opB (J0j rfl rfl w) (ndF h1)) (zn (zt rfl rfl (zq (zr (za rfl ?_)))))
 refine zn ?_
 refine Go1.ret1 Try.func73 rfl ?_
 exact ⟨false, rfl, hB.same, H⟩
theorem body74 : Body Try.prog 74 := ⟨Try.f74, Try.func74, rfl, by kernel_rfl⟩
theorem J2l {A : List Nat} {w0 : World} {qI : Option Addr} {qJ : Nat} {qK : Option Addr} {qL : Nat} {s1 : List Str} {s2 : List Str} (hA : ∀ b ∈ A, b < w0.heap.size) (iK : ISl (Rp.str) A w0 qI qJ s1) (iP : ISl (Rp.str) A w0 qK qL s2) {K : Bool → Prop} (H : J0Q s1 s2 K) :
    CallsV Try.prog 74 #[.slice qI s1.length qJ, .slice qK s2.length qL] w0 (fun v w' => ∃ (r0 : Bool), v = .bool r0 ∧ Same w0 w' ∧ K r0) := by
 refine CallsV.of (l := [.slice qI s1.length qJ, .slice qK s2.length qL]) Try.func74 rfl Try.ntmps74 rfl ?_
 have hO := Owns.start hA
 have hB := Fr.refl (bl []) w0
 unfold J0Q at H
 refine zq (zr (za rfl (zn (zq (zq ?_)))))
 refine zr (zm rfl (zo (J0c Try.underlying30 rfl) ?_))
 replace iK := iK.ch (Ch.start A w0)
 replace H := H iK.bd
 refine zm rfl (zo (J0c Try.underlying30 rfl) ?_)
 replace iP := iP.ch (Ch.start A w0)
 replace H := H iP.bd
 by_cases h1 : (s1.length : Int) = (s2.length : Int)
 ·replace H := ifp h1 H
  refine zo (fun w => opB (J0j rfl rfl w) (ndT h1)) (zn (zf rfl rfl (zk (zq (zq ?_)))))
  refine zr (zm rfl (zo (J0c Try.underlying30 rfl) (zm rfl (zn (zb ?_)))))
  refine Go1.loopW (S := Nat) (fun s σ w => agrees σ [(0, .slice qI s1.length qJ), (1, .slice qK s2.length qL), (12, .int .i64 (s1.length : Int)), (13, .int .i64 (s : Int))] ∧ Owns w0.heap.size w [] A ∧ ISl (Rp.str) (bl [] ++ A) w qI qJ s1 ∧ ISl (Rp.str) (bl [] ++ A) w qK qL s2 ∧ Fr (bl []) w0 (bl []) w) H ⟨⟨rfl, rfl, rfl, rfl, trivial⟩, hO, iK, iP, hB⟩ ?_
  intro X1 k1_3
  intro H hX1 σ w2
  refine andE fun hag => andE fun hO => andE fun iK => andE fun iP => fun hB => ?_
  refine Go1.keep [(0, .slice qI s1.length qJ), (1, .slice qK s2.length qL), (12, .int .i64 (s1.length : Int)), (13, .int .i64 (k1_3 : Int))] hag ?_
  refine zq (zr ?_)
  by_cases h4 : (k1_3 : Int) < (s1.length : Int)
  ·replace H := ifp h4 H
   refine zo (fun w => opB (J08 rfl rfl w) (decide_eq_true h4)) (zn (zq (zt rfl rfl (zk (zq ?_)))))
   refine zb (zq (zr (zm rfl (za rfl (zn ?_)))))
   refine zq ?_
   refine Go1.drawS 0 [(0, .pure), (1, .pure), (2, .pure), (3, .stable), (4, .pure), (5, .pure), (6, .pure), (7, .stable), (8, .pure)] mixed (by kernel_rfl) ?_
   intro w5 hs6
   have m8 := Stp.same hO hs6
   replace hO := m8.own
   refine GoQ.pure rfl (J03 rfl) rfl rfl ?_
   refine GoQ.pure rfl (J03 rfl) rfl rfl ?_
   obtain ⟨h8, H⟩ := H
   obtain ⟨h9, H⟩ := H
   replace iK := iK.ch m8.ch
   refine GoQ.pure rfl (J02 Try.underlying30 ti9 rfl rfl h8 h9 (iK.some_ h8 h9)) rfl rfl ?_
   refine GoQ.stable rfl (ldStr iK h8 h9 Try.underlying9 rfl rfl) rfl rfl ?_
   have hle10 := ISl.J2m iK h8 h9
   refine GoQ.pure rfl (J03 rfl) rfl rfl ?_
   refine GoQ.pure rfl (J03 rfl) rfl rfl ?_
   obtain ⟨h11, H⟩ := H
   obtain ⟨h12, H⟩ := H
   replace iP := iP.ch m8.ch
   refine GoQ.pure rfl (J02 Try.underlying30 ti9 rfl rfl h11 h12 (iP.some_ h11 h12)) rfl rfl ?_
   refine GoQ.stable rfl (ldStr iP h11 h12 Try.underlying9 rfl rfl) rfl rfl ?_
   have hle13 := ISl.J2m iP h11 h12
   by_cases h14 : (ix s1 (k1_3 : Int)) = (ix s2 (k1_3 : Int))
   ·replace H := ifp h14 H
    refine GoQ.pure rfl (fun w => opB (J3Q rfl rfl w) (ndT h14)) rfl rfl ?_
    refine GoQ.nil ?_
    refine zf rfl rfl (zk ?_)
    refine Go1.inBlock ?_
    refine zr (zo (J0e rfl rfl (wrap_i64 (natbd h4 iK.bd))) (zm rfl (zn ?_)))
    replace hB := hB.trans m8.fr
    exact hX1 _ H _ _ ⟨⟨rfl, rfl, rfl, rfl, trivial⟩, hO, iK, iP, hB⟩
   replace H := ifn h14 H
   refine GoQ.pure rfl (fun w => opB (J3Q rfl rfl w) (ndF h14)) rfl rfl ?_
   refine GoQ.nil ?_
   refine zt rfl rfl (zq (zr (za rfl (zn ?_))))
   refine Go1.ret1 Try.func74 rfl ?_
   replace hB := hB.trans m8.fr
   exact ⟨false, rfl, hB.same, H⟩
  replace H := ifn h4 H
  refine zo (fun w => opB (J08 rfl rfl w) (decide_eq_false h4)) (zn (zq (zf rfl rfl ?_)))
  refine Go1.exit rfl ?_
  refine zq (zr (za rfl (zn ?_)))
  refine Go1.ret1 Try.func74 rfl ?_
  exact ⟨true, rfl, hB.same, H⟩
 replace H := ifn h1 H
 refine zo (fun w => opB (J0j rfl rfl w) (ndF h1)) (zn (zt rfl rfl (zq (zr (za rfl ?_)))))
 refine zn ?_
 refine Go1.ret1 Try.func74 rfl ?_
 exact ⟨false, rfl, hB.same, H⟩
theorem body75 : Body Try.prog 75 := ⟨Try.f75, Try.func75, rfl, by kernel_rfl⟩
theorem J1t {A : List Nat} {w0 : World} {qI : Option Addr} {qJ : Nat} {qK : Option Addr} {qL : Nat} {s1 : List Bool} {s2 : List Bool} (hA : ∀ b ∈ A, b < w0.heap.size) (iK : ISl (Rp.bool) A w0 qI qJ s1) (iP : ISl (Rp.bool) A w0 qK qL s2) {K : Bool → Prop} (H : J0L s1 s2 K) :
    CallsV Try.prog 75 #[.slice qI s1.length qJ, .slice qK s2.length qL] w0 (fun v w' => ∃ (r0 : Bool), v = .bool r0 ∧ Same w0 w' ∧ K r0) := by
 refine CallsV.of (l := [.slice qI s1.length qJ, .slice qK s2.length qL]) Try.func75 rfl Try.ntmps75 rfl ?_
 have hO := Owns.start hA
 have hB := Fr.refl (bl []) w0
 unfold J0L at H
 refine zq (zr (za rfl (zn (zq (zq ?_)))))
 refine zr (zm rfl (zo (J0c Try.underlying22 rfl) ?_))
 replace iK := iK.ch (Ch.start A w0)
 replace H := H iK.bd
 refine zm rfl (zo (J0c Try.underlying22 rfl) ?_)
 replace iP := iP.ch (Ch.start A w0)
 replace H := H iP.bd
 by_cases h1 : (s1.length : Int) = (s2.length : Int)
 ·replace H := ifp h1 H
  refine zo (fun w => opB (J0j rfl rfl w) (ndT h1)) (zn (zf rfl rfl (zk (zq (zq ?_)))))
  refine zr (zm rfl (zo (J0c Try.underlying22 rfl) (zm rfl (zn (zb ?_)))))
  refine Go1.loopW (S := Nat) (fun s σ w => agrees σ [(0, .slice qI s1.length qJ), (1, .slice qK s2.length qL), (12, .int .i64 (s1.length : Int)), (13, .int .i64 (s : Int))] ∧ Owns w0.heap.size w [] A ∧ ISl (Rp.bool) (bl [] ++ A) w qI qJ s1 ∧ ISl (Rp.bool) (bl [] ++ A) w qK qL s2 ∧ Fr (bl []) w0 (bl []) w) H ⟨⟨rfl, rfl, rfl, rfl, trivial⟩, hO, iK, iP, hB⟩ ?_
  intro X1 k1_3
  intro H hX1 σ w2
  refine andE fun hag => andE fun hO => andE fun iK => andE fun iP => fun hB => ?_
  refine Go1.keep [(0, .slice qI s1.length qJ), (1, .slice qK s2.length qL), (12, .int .i64 (s1.length : Int)), (13, .int .i64 (k1_3 : Int))] hag ?_
  refine zq (zr ?_)
  by_cases h4 : (k1_3 : Int) < (s1.length : Int)
  ·replace H := ifp h4 H
   refine zo (fun w => opB (J08 rfl rfl w) (decide_eq_true h4)) (zn (zq (zt rfl rfl (zk (zq ?_)))))
   refine zb (zq (zr (zm rfl (za rfl (zn ?_)))))
   refine zq ?_
   refine Go1.drawS 0 [(0, .pure), (1, .pure), (2, .pure), (3, .stable), (4, .pure), (5, .pure), (6, .pure), (7, .stable), (8, .pure)] mixed (by kernel_rfl) ?_
   intro w5 hs6
   have m8 := Stp.same hO hs6
   replace hO := m8.own
   refine GoQ.pure rfl (J03 rfl) rfl rfl ?_
   refine GoQ.pure rfl (J03 rfl) rfl rfl ?_
   obtain ⟨h8, H⟩ := H
   obtain ⟨h9, H⟩ := H
   replace iK := iK.ch m8.ch
   refine GoQ.pure rfl (J02 Try.underlying22 ti4 rfl rfl h8 h9 (iK.some_ h8 h9)) rfl rfl ?_
   by_cases h10 : ix s1 (k1_3 : Int) = true
   ·replace H := ifp h10 H
    refine GoQ.stable rfl (fun w hw => opB ((ldBool iK h8 h9 Try.underlying4 rfl rfl) w hw) (h10)) rfl rfl ?_
    refine GoQ.pure rfl (J03 rfl) rfl rfl ?_
    refine GoQ.pure rfl (J03 rfl) rfl rfl ?_
    obtain ⟨h11, H⟩ := H
    obtain ⟨h12, H⟩ := H
    replace iP := iP.ch m8.ch
    refine GoQ.pure rfl (J02 Try.underlying22 ti4 rfl rfl h11 h12 (iP.some_ h11 h12)) rfl rfl ?_
    by_cases h13 : ix s2 (k1_3 : Int) = true
    ·replace H := ifp h13 H
     refine GoQ.stable rfl (fun w hw => opB ((ldBool iP h11 h12 Try.underlying4 rfl rfl) w hw) (h13)) rfl rfl ?_
     refine GoQ.pure rfl (J2T Try.underlying4 rfl rfl) rfl rfl ?_
     refine GoQ.nil ?_
     refine zf rfl rfl (zk ?_)
     refine Go1.inBlock ?_
     refine zr (zo (J0e rfl rfl (wrap_i64 (natbd h4 iK.bd))) (zm rfl (zn ?_)))
     replace hB := hB.trans m8.fr
     exact hX1 _ H _ _ ⟨⟨rfl, rfl, rfl, rfl, trivial⟩, hO, iK, iP, hB⟩
    replace H := ifn h13 H
    refine GoQ.stable rfl (fun w hw => opB ((ldBool iP h11 h12 Try.underlying4 rfl rfl) w hw) (Bool.eq_false_iff.2 h13)) rfl rfl ?_
    refine GoQ.pure rfl (J2T Try.underlying4 rfl rfl) rfl rfl ?_
    refine GoQ.nil ?_
    refine zt rfl rfl (zq (zr (za rfl (zn ?_))))
    refine Go1.ret1 Try.func75 rfl ?_
    replace hB := hB.trans m8.fr
    exact ⟨false, rfl, hB.same, H⟩
   replace H := ifn h10 H
   refine GoQ.stable rfl (fun w hw => opB ((ldBool iK h8 h9 Try.underlying4 rfl rfl) w hw) (Bool.eq_false_iff.2 h10)) rfl rfl ?_
   refine GoQ.pure rfl (J03 rfl) rfl rfl ?_
   refine GoQ.pure rfl (J03 rfl) rfl rfl ?_
   obtain ⟨h14, H⟩ := H
   obtain ⟨h15, H⟩ := H
   replace iP := iP.ch m8.ch
   refine GoQ.pure rfl (J02 Try.underlying22 ti4 rfl rfl h14 h15 (iP.some_ h14 h15)) rfl rfl ?_
   by_cases h16 : ix s2 (k1_3 : Int) = true
   ·replace H := ifp h16 H
    refine GoQ.stable rfl (fun w hw => opB ((ldBool iP h14 h15 Try.underlying4 rfl rfl) w hw) (h16)) rfl rfl ?_
    refine GoQ.pure rfl (J2T Try.underlying4 rfl rfl) rfl rfl ?_
    refine GoQ.nil ?_
    refine zt rfl rfl (zq ?_)
    refine Go1.cut [] trivial ?_
    intro σ _
    refine zr (za rfl (zn ?_))
    refine Go1.ret1 Try.func75 rfl ?_
    replace hB := hB.trans m8.fr
    exact ⟨false, rfl, hB.same, H⟩
   replace H := ifn h16 H
   refine GoQ.stable rfl (fun w hw => opB ((ldBool iP h14 h15 Try.underlying4 rfl rfl) w hw) (Bool.eq_false_iff.2 h16)) rfl rfl ?_
   refine GoQ.pure rfl (J2T Try.underlying4 rfl rfl) rfl rfl ?_
   refine GoQ.nil ?_
   refine zf rfl rfl (zk ?_)
   refine Go1.inBlock ?_
   refine zr (zo (J0e rfl rfl (wrap_i64 (natbd h4 iK.bd))) (zm rfl (zn ?_)))
   replace hB := hB.trans m8.fr
   exact hX1 _ H _ _ ⟨⟨rfl, rfl, rfl, rfl, trivial⟩, hO, iK, iP, hB⟩
  replace H := ifn h4 H
  refine zo (fun w => opB (J08 rfl rfl w) (decide_eq_false h4)) (zn (zq (zf rfl rfl ?_)))
  refine Go1.exit rfl ?_
  refine zq (zr (za rfl (zn ?_)))
  refine Go1.ret1 Try.func75 rfl ?_
  exact ⟨true, rfl, hB.same, H⟩
 replace H := ifn h1 H
 refine zo (fun w => opB (J0j rfl rfl w) (ndF h1)) (zn (zt rfl rfl (zq (zr (za rfl ?_)))))
 refine zn ?_
 refine Go1.ret1 Try.func75 rfl ?_
 exact ⟨false, rfl, hB.same, H⟩
theorem body28 : Body Try.prog 28 := ⟨Try.f28, Try.func28, rfl, by kernel_rfl⟩
theorem J2q {A : List Nat} {w0 : World} {bH : Option Addr} {bI : Nat} {co : Option Addr} {cp : Nat} {bO : Option Addr} {bP : Nat} {bQ : Option Addr} {bS : Nat} {cE : Option Addr} {cF : Nat} {a0 : Syntactic} (hA : ∀ b ∈ A, b < w0.heap.size) (ba : ISl (Rp.sl (Rp.int .i64)) A w0 bH bI a0.Table) (bF : ISl (Rp.str) A w0 co cp a0.Words) (bi : ISl (Rp.int .i64) A w0 bO bP a0.Images) (bc : ISl (Rp.bool) A w0 bQ bS a0.Accept) (bX : ISl (Rp.bool) A w0 cE cF a0.Plus) {K : Int → Prop} (H : J0G a0 K) :
    CallsV Try.prog 28 #[.agg #[.int .i64 a0.Letters, .slice bH a0.Table.length bI, .slice co a0.Words.length cp, .slice bO a0.Images.length bP, .slice bQ a0.Accept.length bS, .slice cE a0.Plus.length cF]] w0 (fun v w' => ∃ (r0 : Int), v = .int .i64 r0 ∧ Same w0 w' ∧ K r0) := by
 refine CallsV.of (l := [.agg #[.int .i64 a0.Letters, .slice bH a0.Table.length bI, .slice co a0.Words.length cp, .slice bO a0.Images.length bP, .slice bQ a0.Accept.length bS, .slice cE a0.Plus.length cF]]) Try.func28 rfl Try.ntmps28 rfl ?_
 have hO := Owns.start hA
 have hB := Fr.refl (bl []) w0
 unfold J0G at H
 refine zq (zr ?_)
 have zz := obox (t := 33) (v := .agg #[.int .i64 a0.Letters, .slice bH a0.Table.length bI, .slice co a0.Words.length cp, .slice bO a0.Images.length bP, .slice bQ a0.Accept.length bS, .slice cE a0.Plus.length cF]) (cs := #[.int .i64 a0.Letters, .slice bH a0.Table.length bI, .slice co a0.Words.length cp, .slice bO a0.Images.length bP, .slice bQ a0.Accept.length bS, .slice cE a0.Plus.length cF]) hO rfl
 obtain ⟨w1, B2, dX, hs4, jU⟩ := zz
 refine zg (jU rfl) ?_
 replace hO := dX.own
 refine za rfl (zn (zq (zq (zr (zs (J0l (vs := [.int .i64 a0.Letters, .slice bH a0.Table.length bI, .slice co a0.Words.length cp, .slice bO a0.Images.length bP, .slice bQ a0.Accept.length bS, .slice cE a0.Plus.length cF]) (i := 0) 0 hO rfl rfl Try.underlying33 rfl ti33 rfl) ?_)))))
 have Z1 := (Ch.start A w0).trans dX.ch
 replace ba := ba.ch Z1
 replace bF := bF.ch Z1
 replace bi := bi.ch Z1
 replace bc := bc.ch Z1
 replace bX := bX.ch Z1
 refine GoR.call (J0a body71 rfl (J2S (a0 := a0) hO.lt ba bF bi bc bX H)) rfl rfl ?_
 rintro v11 w8 ⟨r7, rfl, hs9, H⟩
 have k8 := Stp.same hO hs9
 replace hO := k8.own
 cases r7
 ·replace H := ifn Bool.false_ne_true H
  refine zo (J0g rfl) (zn (zt rfl rfl (zq (zr (za rfl ?_)))))
  refine zn ?_
  refine Go1.ret1 Try.func28 rfl ?_
  replace hB := (hB.trans dX.fr).trans k8.fr
  exact ⟨(8 : Int), rfl, hB.same, H⟩
 replace H := ifp rfl H
 refine zo (J0g rfl) (zn (zf rfl rfl (zk (zq (zr ?_)))))
 refine zs (J0l (vs := [.int .i64 a0.Letters, .slice bH a0.Table.length bI, .slice co a0.Words.length cp, .slice bO a0.Images.length bP, .slice bQ a0.Accept.length bS, .slice cE a0.Plus.length cF]) (i := 0) 0 hO rfl rfl Try.underlying33 rfl ti33 rfl) ?_
 replace ba := ba.ch k8.ch
 replace bF := bF.ch k8.ch
 replace bi := bi.ch k8.ch
 replace bc := bc.ch k8.ch
 replace bX := bX.ch k8.ch
 refine GoR.call (J0a body72 rfl (J2n (s_ := a0) hO.lt ba bF bi bc bX H)) rfl rfl ?_
 rintro v17 w14 ⟨r13, d7, d8, eI, eK, rfl, x8, a8, bh, H⟩
 have gN := Stp.same hO x8
 replace hO := gN.own
 refine GoR.call (J0a body19 rfl (J1A (d := r13) hO.lt a8 bh H)) rfl rfl ?_
 rintro v24 w21 ⟨r19, r20, dq, dr, dS, dT, dx, dy, dz, dA, eg, eh, rfl, Ix, au, aE, ay, av, aP, H⟩
 have m7 := Stp.same hO Ix
 replace hO := m7.own
 refine zm rfl (zo (J07 rfl rfl) (zo (J07 rfl rfl) ?_))
 have zz := oalloc (t := 33) (cs := #[.int .i64 0, .slice none 0 0, .slice none 0 0, .slice none 0 0, .slice none 0 0, .slice none 0 0]) ti33 hO rfl
 obtain ⟨w26, B27, gt, UR, F7⟩ := zz
 refine GoR.op F7 rfl rfl ?_
 replace hO := gt.own
 have zz := J0b (us := [.int .i64 r19.Letters, .slice dq r19.Table.length dr, .slice dS r19.Words.length dT, .slice dx r19.Images.length dy, .slice dz r19.Accept.length dA, .slice eg r19.Plus.length eh]) (o := 0) (cs' := #[.int .i64 r19.Letters, .slice dq r19.Table.length dr, .slice dS r19.Words.length dT, .slice dx r19.Images.length dy, .slice dz r19.Accept.length dA, .slice eg r19.Plus.length eh]) 0 hO rfl rfl (Nat.le_of_ble_eq_true rfl) rfl
 obtain ⟨w32, ke, F8⟩ := zz
 refine zg (F8 ti33 (by exact rfl) (by exact rfl) rfl) ?_
 replace hO := ke.own
 refine za rfl (zn (zq (zq (zr (zm rfl ?_)))))
 by_cases h35 : r20 = (0 : Int)
 ·replace H := ifp h35 H
  refine zo (fun w => opB (J0j rfl rfl w) (ndT h35)) (zm rfl (zo (J00 Try.underlying33 rfl ti23 rfl (by decide)) (zs (oblk (i := 1) 0 hO rfl rfl Try.underlying23 rfl rfl) (zo (J0c Try.underlying23 rfl) ?_))))
  replace au := (au.ch gt.ch).ch ke.ch
  replace H := H au.bd
  refine zo (J00 Try.underlying33 rfl ti23 rfl (by decide)) (zs (oblk (i := 1) 1 hO rfl rfl Try.underlying23 rfl rfl) (zo (J0c Try.underlying23 rfl) ?_))
  have Z2 := ((gN.ch.trans m7.ch).trans gt.ch).trans ke.ch
  replace ba := ba.ch Z2
  replace H := H ba.bd
  by_cases h36 : (r19.Table.length : Int) = (a0.Table.length : Int)
  ·replace H := ifp h36 H
   refine zo (fun w => opB (J0j rfl rfl w) (ndT h36)) (zo (J05 rfl rfl rfl) (zn (zf rfl rfl (zk (zq ?_)))))
   refine zq ?_
   refine Go1.cut [(1, .pointer (some ⟨B2, 0, none⟩)), (3, .pointer (some ⟨B27, 0, none⟩))] ⟨rfl, rfl, trivial⟩ ?_
   intro σ _
   refine zr (zo (J00 Try.underlying33 rfl ti23 rfl (by decide)) (zs (oblk (i := 1) 0 hO rfl rfl Try.underlying23 rfl rfl) (zo (J0c Try.underlying23 rfl) (zm rfl (zn ?_)))))
   refine zb ?_
   have Z3 := gt.ch.trans ke.ch
   replace aE := aE.ch Z3
   replace ay := ay.ch Z3
   replace av := av.ch Z3
   replace aP := aP.ch Z3
   replace bF := bF.ch Z2
   replace bi := bi.ch Z2
   replace bc := bc.ch Z2
   replace bX := bX.ch Z2
   replace hB := (((((hB.trans dX.fr).trans k8.fr).trans gN.fr).trans m7.fr).trans gt.fr).trans ke.fr
   refine Go1.loopW (S := Nat) (fun s σ w => agrees σ [(1, .pointer (some ⟨B2, 0, none⟩)), (3, .pointer (some ⟨B27, 0, none⟩)), (28, .slice dq r19.Table.length dr), (29, .int .i64 (r19.Table.length : Int)), (30, .int .i64 (s : Int))] ∧ (fun Z0 => Owns w0.heap.size w Z0 A ∧ ISl (Rp.sl (Rp.int .i64)) (bl Z0 ++ A) w bH bI a0.Table ∧ ISl (Rp.str) (bl Z0 ++ A) w co cp a0.Words ∧ ISl (Rp.int .i64) (bl Z0 ++ A) w bO bP a0.Images ∧ ISl (Rp.bool) (bl Z0 ++ A) w bQ bS a0.Accept ∧ ISl (Rp.bool) (bl Z0 ++ A) w cE cF a0.Plus ∧ ISl (Rp.sl (Rp.int .i64)) (bl Z0 ++ A) w dq dr r19.Table ∧ ISl (Rp.str) (bl Z0 ++ A) w dS dT r19.Words ∧ ISl (Rp.int .i64) (bl Z0 ++ A) w dx dy r19.Images ∧ ISl (Rp.bool) (bl Z0 ++ A) w dz dA r19.Accept ∧ ISl (Rp.bool) (bl Z0 ++ A) w eg eh r19.Plus ∧ Fr (bl []) w0 (bl Z0) w) [.blk B27 (.cells #[.int .i64 r19.Letters, .slice dq r19.Table.length dr, .slice dS r19.Words.length dT, .slice dx r19.Images.length dy, .slice dz r19.Accept.length dA, .slice eg r19.Plus.length eh] 33 (0, 0)), .blk B2 (.cells #[.int .i64 a0.Letters, .slice bH a0.Table.length bI, .slice co a0.Words.length cp, .slice bO a0.Images.length bP, .slice bQ a0.Accept.length bS, .slice cE a0.Plus.length cF] 33 (0, 0))]) H ⟨⟨rfl, rfl, rfl, rfl, rfl, trivial⟩, hO, ba, bF, bi, bc, bX, au, aE, ay, av, aP, hB⟩ ?_
   intro X1 k1_38
   intro H hX1 σ w37
   refine andE fun hag => andE fun hO => andE fun ba => andE fun bF => andE fun bi => andE fun bc => andE fun bX => andE fun au => andE fun aE => andE fun ay => andE fun av => andE fun aP => fun hB => ?_
   refine Go1.keep [(1, .pointer (some ⟨B2, 0, none⟩)), (3, .pointer (some ⟨B27, 0, none⟩)), (28, .slice dq r19.Table.length dr), (29, .int .i64 (r19.Table.length : Int)), (30, .int .i64 (k1_38 : Int))] hag ?_
   refine zq (zr ?_)
   by_cases h39 : (k1_38 : Int) < (r19.Table.length : Int)
   ·replace H := ifp h39 H
    refine zo (fun w => opB (J08 rfl rfl w) (decide_eq_true h39)) (zn (zq (zt rfl rfl (zk (zq ?_)))))
    refine zb (zq (zr (zm rfl ?_)))
    obtain ⟨h40, H⟩ := H
    obtain ⟨h41, H⟩ := H
    refine zo (J02 Try.underlying23 ti31 rfl rfl h40 h41 (au.some_ h40 h41)) ?_
    have zz := ldSl au h40 h41
    obtain ⟨p42, c43, Iy, Iz⟩ := zz
    refine zs (Iz Try.underlying31 rfl rfl) (za rfl (za rfl (zn (zq (zr ?_)))))
    refine zm rfl (zo (J00 Try.underlying33 rfl ti23 rfl (by decide)) (zs (oblk (i := 1) 1 hO rfl rfl Try.underlying23 rfl rfl) (zm rfl ?_)))
    obtain ⟨h46, H⟩ := H
    obtain ⟨h47, H⟩ := H
    refine zo (J02 Try.underlying23 ti31 rfl rfl h46 h47 (ba.some_ h46 h47)) ?_
    have zz := ldSl ba h46 h47
    obtain ⟨p48, c49, IA, US⟩ := zz
    refine zs (US Try.underlying31 rfl rfl) ?_
    refine GoR.call (J0a body73 rfl (J1E hO.lt Iy IA H)) rfl rfl ?_
    rintro v56 w53 ⟨r52, rfl, UT, H⟩
    have iD := Stp.same hO UT
    replace hO := iD.own
    cases r52
    ·replace H := ifn Bool.false_ne_true H
     refine zo (J0g rfl) (zn (zt rfl rfl (zq (zr (za rfl ?_)))))
     refine zn ?_
     refine Go1.ret1 Try.func28 rfl ?_
     replace hB := hB.trans iD.fr
     exact ⟨(8 : Int), rfl, hB.same, H⟩
    replace H := ifp rfl H
    refine zo (J0g rfl) (zn (zf rfl rfl (zk ?_)))
    refine Go1.inBlock ?_
    refine zr ?_
    replace au := au.ch iD.ch
    refine zo (J0e rfl rfl (wrap_i64 (natbd h39 au.bd))) (zm rfl (zn ?_))
    replace ba := ba.ch iD.ch
    replace bF := bF.ch iD.ch
    replace bi := bi.ch iD.ch
    replace bc := bc.ch iD.ch
    replace bX := bX.ch iD.ch
    replace aE := aE.ch iD.ch
    replace ay := ay.ch iD.ch
    replace av := av.ch iD.ch
    replace aP := aP.ch iD.ch
    replace hB := hB.trans iD.fr
    exact hX1 _ H _ _ ⟨⟨rfl, rfl, rfl, rfl, rfl, trivial⟩, hO, ba, bF, bi, bc, bX, au, aE, ay, av, aP, hB⟩
   replace H := ifn h39 H
   refine zo (fun w => opB (J08 rfl rfl w) (decide_eq_false h39)) (zn (zq (zf rfl rfl ?_)))
   refine Go1.exit rfl ?_
   refine zq (zq ?_)
   refine Go1.cut [(1, .pointer (some ⟨B2, 0, none⟩)), (3, .pointer (some ⟨B27, 0, none⟩))] ⟨rfl, rfl, trivial⟩ ?_
   intro σ _
   refine zr (zo (J00 Try.underlying33 rfl ti30 rfl (by decide)) (zs (oblk (i := 2) 0 hO rfl rfl Try.underlying30 rfl rfl) (zo (J00 Try.underlying33 rfl ti30 rfl (by decide)) (zs (oblk (i := 2) 1 hO rfl rfl Try.underlying30 rfl rfl) ?_))))
   refine GoR.call (J0a body74 rfl (J2l hO.lt aE bF H)) rfl rfl ?_
   rintro v62 w59 ⟨r58, rfl, UU, H⟩
   have lj := Stp.same hO UU
   replace hO := lj.own
   cases r58
   ·replace H := ifn Bool.false_ne_true H
    refine zo (J0g rfl) (zm rfl (zp (zp (zp (zp ?_)))))
    refine zp (zp (zo (J04 rfl rfl rfl) (zm rfl (zp (zp ?_)))))
    refine zp (zp (zp (zp (zo (J04 rfl rfl rfl) (zm rfl ?_)))))
    refine zp (zp (zp (zp (zp (zp ?_)))))
    refine zo (J04 rfl rfl rfl) (zn (zt rfl rfl (zq ?_)))
    refine Go1.cut [] trivial ?_
    intro σ _
    refine zr (za rfl (zn ?_))
    refine Go1.ret1 Try.func28 rfl ?_
    replace hB := hB.trans lj.fr
    exact ⟨(8 : Int), rfl, hB.same, H⟩
   replace H := ifp rfl H
   refine zo (J0g rfl) (zm rfl (zo (J00 Try.underlying33 rfl ti31 rfl (by decide)) (zs (oblk (i := 3) 0 hO rfl rfl Try.underlying31 rfl rfl) (zo (J00 Try.underlying33 rfl ti31 rfl (by decide)) (zs (oblk (i := 3) 1 hO rfl rfl Try.underlying31 rfl rfl) ?_)))))
   replace bi := bi.ch lj.ch
   replace ay := ay.ch lj.ch
   refine GoR.call (J0a body73 rfl (J1E hO.lt ay bi H)) rfl rfl ?_
   rintro v68 w65 ⟨r64, rfl, ip, H⟩
   have mm := Stp.same hO ip
   replace hO := mm.own
   cases r64
   ·replace H := ifn Bool.false_ne_true H
    refine zo (J0g rfl) (zo (J05 rfl rfl rfl) (zm rfl (zp (zp (zp ?_)))))
    refine zp (zp (zp (zo (J04 rfl rfl rfl) (zm rfl (zp ?_)))))
    refine zp (zp (zp (zp (zp (zo (J04 rfl rfl rfl) ?_)))))
    refine zn (zt rfl rfl (zq ?_))
    refine Go1.cut [] trivial ?_
    intro σ _
    refine zr (za rfl (zn ?_))
    refine Go1.ret1 Try.func28 rfl ?_
    replace hB := (hB.trans lj.fr).trans mm.fr
    exact ⟨(8 : Int), rfl, hB.same, H⟩
   replace H := ifp rfl H
   refine zo (J0g rfl) (zo (J05 rfl rfl rfl) (zm rfl (zo (J00 Try.underlying33 rfl ti22 rfl (by decide)) (zs (oblk (i := 4) 0 hO rfl rfl Try.underlying22 rfl rfl) (zo (J00 Try.underlying33 rfl ti22 rfl (by decide)) ?_)))))
   refine zs (oblk (i := 4) 1 hO rfl rfl Try.underlying22 rfl rfl) ?_
   have Z4 := lj.ch.trans mm.ch
   replace bc := bc.ch Z4
   replace av := av.ch Z4
   refine GoR.call (J0a body75 rfl (J1t hO.lt av bc H)) rfl rfl ?_
   rintro v74 w71 ⟨r70, rfl, UV, H⟩
   have uE := Stp.same hO UV
   replace hO := uE.own
   cases r70
   ·replace H := ifn Bool.false_ne_true H
    refine zo (J0g rfl) (zo (J05 rfl rfl rfl) (zm rfl (zp (zp (zp ?_)))))
    refine zp (zp (zp (zo (J04 rfl rfl rfl) (zn (zt rfl rfl ?_)))))
    refine zq ?_
    refine Go1.cut [] trivial ?_
    intro σ _
    refine zr (za rfl (zn ?_))
    refine Go1.ret1 Try.func28 rfl ?_
    replace hB := ((hB.trans lj.fr).trans mm.fr).trans uE.fr
    exact ⟨(8 : Int), rfl, hB.same, H⟩
   replace H := ifp rfl H
   refine zo (J0g rfl) (zo (J05 rfl rfl rfl) (zm rfl (zo (J00 Try.underlying33 rfl ti22 rfl (by decide)) (zs (oblk (i := 5) 0 hO rfl rfl Try.underlying22 rfl rfl) (zo (J00 Try.underlying33 rfl ti22 rfl (by decide)) ?_)))))
   refine zs (oblk (i := 5) 1 hO rfl rfl Try.underlying22 rfl rfl) ?_
   have Z5 := Z4.trans uE.ch
   replace bX := bX.ch Z5
   replace aP := aP.ch Z5
   refine GoR.call (J0a body75 rfl (J1t hO.lt aP bX H)) rfl rfl ?_
   rintro v80 w77 ⟨r76, rfl, UW, H⟩
   have jF := Stp.same hO UW
   replace hO := jF.own
   cases r76
   ·replace H := ifn Bool.false_ne_true H
    refine zo (J0g rfl) (zo (J05 rfl rfl rfl) (zn (zt rfl rfl (zq (zr ?_)))))
    refine za rfl (zn ?_)
    refine Go1.ret1 Try.func28 rfl ?_
    replace hB := (((hB.trans lj.fr).trans mm.fr).trans uE.fr).trans jF.fr
    exact ⟨(8 : Int), rfl, hB.same, H⟩
   replace H := ifp rfl H
   refine zo (J0g rfl) (zo (J05 rfl rfl rfl) (zn (zf rfl rfl (zk (zq ?_)))))
   refine zr (za rfl (zn ?_))
   refine Go1.ret1 Try.func28 rfl ?_
   replace hB := (((hB.trans lj.fr).trans mm.fr).trans uE.fr).trans jF.fr
   exact ⟨(0 : Int), rfl, hB.same, H⟩
  replace H := ifn h36 H
  refine zo (fun w => opB (J0j rfl rfl w) (ndF h36)) (zo (J05 rfl rfl rfl) (zn (zt rfl rfl (zq (zr ?_)))))
  refine za rfl (zn ?_)
  refine Go1.ret1 Try.func28 rfl ?_
  replace hB := (((((hB.trans dX.fr).trans k8.fr).trans gN.fr).trans m7.fr).trans gt.fr).trans ke.fr
  exact ⟨(8 : Int), rfl, hB.same, H⟩
 replace H := ifn h35 H
 refine zo (fun w => opB (J0j rfl rfl w) (ndF h35)) (zm rfl (zp (zp (zp (zp ?_)))))
 refine zp (zp (zp (zo (J04 rfl rfl rfl) (zn (zt rfl rfl ?_)))))
 refine zq ?_
 refine Go1.cut [] trivial ?_
 intro σ _
 refine zr (za rfl (zn ?_))
 refine Go1.ret1 Try.func28 rfl ?_
 replace hB := (((((hB.trans dX.fr).trans k8.fr).trans gN.fr).trans m7.fr).trans gt.fr).trans ke.fr
 exact ⟨(8 : Int), rfl, hB.same, H⟩
theorem body30 : Body Try.prog 30 := ⟨Try.f30, Try.func30, rfl, by kernel_rfl⟩
theorem J4Q {A : List Nat} {w0 : World} {p_t : Option Addr} {c_t : Nat} {p_l : Option Addr} {c_l : Nat} {t : List (List Int)} {l : List Int} (hA : ∀ b ∈ A, b < w0.heap.size) (h_t : ISl (Rp.sl (Rp.int .i64)) A w0 p_t c_t t) (h_l : ISl (Rp.int .i64) A w0 p_l c_l l) {K : Bool → Prop} (H : J40 t l K) :
    CallsV Try.prog 30 #[.slice p_t t.length c_t, .slice p_l l.length c_l] w0 (fun v w' => ∃ (r0 : Bool), v = .bool r0 ∧ Same w0 w' ∧ K r0) := by
 refine CallsV.of (l := [.slice p_t t.length c_t, .slice p_l l.length c_l]) Try.func30 rfl Try.ntmps30 rfl ?_
 have hO := Owns.start hA
 have hB := Fr.refl (bl []) w0
 unfold J40 at H
 refine zq (zr (za rfl (zn (zq (zq ?_)))))
 refine zr (zm rfl (zo (J0c Try.underlying31 rfl) ?_))
 replace h_l := h_l.ch (Ch.start A w0)
 replace H := H h_l.bd
 refine zm rfl (zn (zb ?_))
 replace h_t := h_t.ch (Ch.start A w0)
 refine Go1.loopW (S := Nat) (fun s σ w => agrees σ [(0, .slice p_t t.length c_t), (7, .slice p_l l.length c_l), (8, .int .i64 (l.length : Int)), (9, .int .i64 (s : Int))] ∧ Owns w0.heap.size w [] A ∧ ISl (Rp.sl (Rp.int .i64)) (bl [] ++ A) w p_t c_t t ∧ ISl (Rp.int .i64) (bl [] ++ A) w p_l c_l l ∧ Fr (bl []) w0 (bl []) w) H ⟨⟨rfl, rfl, rfl, rfl, trivial⟩, hO, h_t, h_l, hB⟩ ?_
 intro X1 k1_2
 intro H hX1 σ w1
 refine andE fun hag => andE fun hO => andE fun h_t => andE fun h_l => fun hB => ?_
 refine Go1.keep [(0, .slice p_t t.length c_t), (7, .slice p_l l.length c_l), (8, .int .i64 (l.length : Int)), (9, .int .i64 (k1_2 : Int))] hag ?_
 refine zq (zr ?_)
 by_cases h3 : (k1_2 : Int) < (l.length : Int)
 ·replace H := ifp h3 H
  refine zo (fun w => opB (J08 rfl rfl w) (decide_eq_true h3)) (zn (zq (zt rfl rfl (zk (zq ?_)))))
  refine zb (zq (zr ?_))
  obtain ⟨h4, H⟩ := H
  obtain ⟨h5, H⟩ := H
  refine zo (J02 Try.underlying31 ti3 rfl rfl h4 h5 (h_l.some_ h4 h5)) (zs (ldInt h_l h4 h5 Try.underlying3 rfl rfl) (za rfl (zn (zq (zr ?_)))))
  refine zm rfl ?_
  by_cases h6 : (ix l (k1_2 : Int)) < (0 : Int)
  ·replace H := ifp h6 H
   refine zo (fun w => opB (J08 rfl rfl w) (decide_eq_true h6)) (zm rfl (zp (zp (zp (zp ?_)))))
   refine zo (J04 rfl rfl rfl) (zn (zt rfl rfl (zq (zr (za rfl ?_)))))
   refine zn ?_
   refine Go1.ret1 Try.func30 rfl ?_
   exact ⟨false, rfl, hB.same, H⟩
  replace H := ifn h6 H
  refine zo (fun w => opB (J08 rfl rfl w) (decide_eq_false h6)) (zm rfl (zm rfl (zm rfl (zo (J0c Try.underlying23 rfl) ?_))))
  replace H := H h_t.bd
  by_cases h7 : (t.length : Int) ≤ (ix l (k1_2 : Int))
  ·replace H := ifp h7 H
   refine zo (fun w => opB (J1k rfl rfl w) (decide_eq_true h7)) (zo (J05 rfl rfl rfl) (zn (zt rfl rfl (zq ?_))))
   refine Go1.cut [] trivial ?_
   intro σ _
   refine zr (za rfl (zn ?_))
   refine Go1.ret1 Try.func30 rfl ?_
   exact ⟨false, rfl, hB.same, H⟩
  replace H := ifn h7 H
  refine zo (fun w => opB (J1k rfl rfl w) (decide_eq_false h7)) (zo (J05 rfl rfl rfl) (zn (zf rfl rfl (zk ?_))))
  refine Go1.inBlock ?_
  refine zr (zo (J0e rfl rfl (wrap_i64 (natbd h3 h_l.bd))) (zm rfl (zn ?_)))
  exact hX1 _ H _ _ ⟨⟨rfl, rfl, rfl, rfl, trivial⟩, hO, h_t, h_l, hB⟩
 replace H := ifn h3 H
 refine zo (fun w => opB (J08 rfl rfl w) (decide_eq_false h3)) (zn (zq (zf rfl rfl ?_)))
 refine Go1.exit rfl ?_
 refine zq (zr (za rfl (zn ?_)))
 refine Go1.ret1 Try.func30 rfl ?_
 exact ⟨true, rfl, hB.same, H⟩
end Sg
