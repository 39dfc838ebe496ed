/- The walks: each call keeps to its plain transformer. Printed by walkgen.py. -/
import Derived.Test.YtjegjjdfgefkoaaTi
import Derived.Test.YtjegjjdfgefkoaaWEnumerateBuilds
import Derived.Test.YtjegjjdfgefkoaaAl
namespace Sg
open Go Go.RowKit Go.Proofs
set_option linter.unusedVariables false
set_option linter.unusedSimpArgs false
set_option maxRecDepth 100000
set_option maxHeartbeats 4000000
theorem body25 : Body Try.prog 25 := ⟨Try.f25, Try.func25, rfl, by kernel_rfl⟩
theorem walk_enumerate_Start {A : List Nat} {w0 : World} {mt : Option Addr} {mv : Nat} {gens : List (List Int)} {monoid : Bool} (hA : ∀ b ∈ A, b < w0.heap.size) (dw : ISl (Rp.sl (Rp.int .i64)) A w0 mt mv gens) {K : Enum → Int → Prop} (H : enumerate_Start gens monoid K) :
    CallsV Try.prog 25 #[.slice mt gens.length mv, .bool monoid] w0 (fun v w' => ∃ (r0 : Enum), ∃ (r1 : Int), ∃ (kj : Option Addr), ∃ (kl : Nat), ∃ (iI : Option Addr), ∃ (iJ : Nat), ∃ (gA : Option Addr), ∃ (gB : Nat), ∃ (km : Option Addr), ∃ (kn : Nat), ∃ (iK : Option Addr), ∃ (iL : Nat), ∃ (iM : Option Addr), ∃ (iN : Nat), v = .tuple #[.agg #[.int .i64 r0.Points, .bool r0.Monoid, .slice kj r0.Gens.length kl, .slice iI r0.Elems.length iJ, .slice gA r0.Prefix.length gB, .slice km r0.Last.length kn, .slice iK r0.Right.length iL, .slice iM r0.Rules.length iN, .int .i64 r0.Done], .int .i64 r1] ∧ Same w0 w' ∧ ISl (Rp.sl (Rp.int .i64)) A w' kj kl r0.Gens ∧ ISl (Rp.sl (Rp.int .i64)) A w' iI iJ r0.Elems ∧ ISl (Rp.int .i64) A w' gA gB r0.Prefix ∧ ISl (Rp.int .i64) A w' km kn r0.Last ∧ ISl (Rp.sl (Rp.int .i64)) A w' iK iL r0.Right ∧ ISl (rpRule) A w' iM iN r0.Rules ∧ K r0 r1) := by
 refine CallsV.of (l := [.slice mt gens.length mv, .bool monoid]) Try.func25 rfl Try.ntmps25 rfl ?_
 have hO := Owns.start hA
 have hB := Fr.refl (bl []) w0
 unfold enumerate_Start at H
 refine zq (zr ?_)
 have hobt := oalloc (t := 29) (cs := #[.int .i64 (0 : Int), .bool false, .slice none 0 0, .slice none 0 0, .slice none 0 0, .slice none 0 0, .slice none 0 0, .slice none 0 0, .int .i64 (0 : Int)]) ti29 hO rfl
 obtain ⟨w1, B2, cQ, hs4, rh⟩ := hobt
 refine GoR.op rh rfl rfl ?_
 replace hO := cQ.own
 refine za rfl (zn (zq (zr (zm rfl (zm rfl ?_)))))
 replace dw := (dw.ch (Ch.start A w0)).ch cQ.ch
 refine GoR.call (op_call body49 rfl (walk_enumerate_begin hO.lt dw H)) rfl rfl ?_
 intro v9 w10 hcase13
 refine Or.elim hcase13 ?_ ?_
 ·refine exE fun r8 => andE fun hv14 => andE fun u3 => fun H => ?_
  subst hv14
  clear hcase13
  replace H := oElimN H
  have gq := Stp.same hO u3
  replace hO := gq.own
  refine zm rfl (zo (op_extract rfl rfl) (zo (op_extract rfl rfl) (za rfl (za rfl (zn ?_)))))
  refine zq (zq (zr (zm rfl ?_)))
  by_cases h16 : r8 = (0 : Int)
  ·replace H := ifp h16 H
   refine zo (fun w => opB (op_neq rfl rfl w) (ndT h16)) (zn (zf rfl rfl (zk (zq (zr ?_)))))
   refine zm rfl ?_
   exact H.elim
  replace H := ifn h16 H
  refine zo (fun w => opB (op_neq rfl rfl w) (ndF h16)) (zn (zt rfl rfl (zq (zr (zo (op_build Try.underlying29 ti29 (pl := [(0, 1), (1, 1), (2, 1), (3, 1), (4, 1), (5, 1), (6, 1), (7, 1), (8, 1)]) (vs := []) (cs := #[.int .i64 (0 : Int), .bool false, .slice none 0 0, .slice none 0 0, .slice none 0 0, .slice none 0 0, .slice none 0 0, .slice none 0 0, .int .i64 (0 : Int)]) (by kernel_rfl) rfl (by kernel_rfl)) ?_)))))
  refine zm rfl ?_
  have hobt := oblkStAgg (us := [.int .i64 (0 : Int), .bool false, .slice none 0 0, .slice none 0 0, .slice none 0 0, .slice none 0 0, .slice none 0 0, .slice none 0 0, .int .i64 (0 : Int)]) (o := 0) (cs' := #[.int .i64 (0 : Int), .bool false, .slice none 0 0, .slice none 0 0, .slice none 0 0, .slice none 0 0, .slice none 0 0, .slice none 0 0, .int .i64 (0 : Int)]) 0 hO rfl rfl (Nat.le_of_ble_eq_true rfl) rfl
  obtain ⟨w17, mO, X9⟩ := hobt
  refine zg (X9 ti29 (by exact rfl) (by exact rfl) rfl) ?_
  replace hO := mO.own
  refine za rfl (zn ?_)
  refine Go1.retC2 Try.func25 rfl rfl (run_loadBlk (vs := [.int .i64 (0 : Int), .bool false, .slice none 0 0, .slice none 0 0, .slice none 0 0, .slice none 0 0, .slice none 0 0, .slice none 0 0, .int .i64 (0 : Int)]) 0 hO rfl rfl Try.underlying29 rfl ti29) ?_
  replace hB := ((hB.trans cQ.fr).trans gq.fr).trans mO.fr
  exact ⟨(⟨(0 : Int), false, ([] : List (List Int)), ([] : List (List Int)), ([] : List Int), ([] : List Int), ([] : List (List Int)), ([] : List Rule), (0 : Int)⟩ : Enum), r8, none, 0, none, 0, none, 0, none, 0, none, 0, none, 0, rfl, hB.same, (ISl.null _ _ _), (ISl.null _ _ _), (ISl.null _ _ _), (ISl.null _ _ _), (ISl.null _ _ _), (ISl.null _ _ _), H⟩
 ·refine exE fun r7 => exE fun r8 => exE fun eW => exE fun lh => exE fun iw => exE fun iA => exE fun ra => exE fun j8 => exE fun gH => exE fun gI => exE fun qi => exE fun ji => exE fun gm => exE fun gn => exE fun po => exE fun li => exE fun iB => exE fun iC => exE fun rb => exE fun j9 => exE fun gJ => exE fun gK => exE fun qj => exE fun ka => exE fun gL => exE fun gM => exE fun qk => exE fun ap => exE fun x4 => exE fun x5 => exE fun x6 => exE fun wN => exE fun wO => exE fun wP => exE fun wQ => exE fun u4 => exE fun wR => exE fun wS => exE fun wT => exE fun u5 => andE fun hv20 => andE fun u3 => andE fun hN12 => andE fun cR => andE fun cp => andE fun bV => andE fun cf => andE fun bN => andE fun bC => andE fun cz => andE fun cD => andE fun cE => fun H => ?_
  subst hv20
  clear hcase13
  replace H := oElimS H
  have lL := Stp.more hO u3 hN12
  dsimp only [List.cons_append, List.nil_append] at lL
  replace hO := lL.own
  replace cR := cR.ch (Ch.assoc _ _ _ _)
  dsimp only [List.cons_append, List.nil_append] at cR
  replace cp := cp.ch (Ch.assoc _ _ _ _)
  dsimp only [List.cons_append, List.nil_append] at cp
  replace bV := bV.ch (Ch.assoc _ _ _ _)
  dsimp only [List.cons_append, List.nil_append] at bV
  replace cf := cf.ch (Ch.assoc _ _ _ _)
  dsimp only [List.cons_append, List.nil_append] at cf
  replace bN := bN.ch (Ch.assoc _ _ _ _)
  dsimp only [List.cons_append, List.nil_append] at bN
  replace bC := bC.ch (Ch.assoc _ _ _ _)
  dsimp only [List.cons_append, List.nil_append] at bC
  replace cz := cz.ch (Ch.assoc _ _ _ _)
  dsimp only [List.cons_append, List.nil_append] at cz
  replace cD := cD.ch (Ch.assoc _ _ _ _)
  dsimp only [List.cons_append, List.nil_append] at cD
  replace cE := cE.ch (Ch.assoc _ _ _ _)
  dsimp only [List.cons_append, List.nil_append] at cE
  refine zm rfl (zo (op_extract rfl rfl) (zo (op_extract rfl rfl) (za rfl (za rfl (zn ?_)))))
  refine zq (zq ?_)
  refine Go1.cut [(4, .pointer (some ⟨B2, 0, none⟩)), (6, .pointer (some ⟨eW, 0, none⟩)), (7, .int .i64 r8)] ⟨rfl, rfl, rfl, trivial⟩ ?_
  intro σ _
  refine zr (zm rfl ?_)
  by_cases h33 : r8 = (0 : Int)
  ·replace H := ifp h33 H
   refine zo (fun w => opB (op_neq rfl rfl w) (ndT h33)) (zn (zf rfl rfl (zk (zq (zr ?_)))))
   refine zm rfl (zo (op_nilCheck rfl) (zo (op_fieldAddr Try.underlying72 rfl ti29 rfl (by decide)) (zs (oblkAgg (vs := [.int .i64 r7.Enum.Points, .bool r7.Enum.Monoid, .slice iw lh iA, .slice gH j8 gI, .slice gm ji gn, .slice iB li iC, .slice gJ j9 gK, .slice gL ka gM, .int .i64 r7.Enum.Done]) (i := 0) 0 hO rfl rfl Try.underlying29 rfl ti29 rfl) ?_)))
   have hobt := oblkStAgg (us := [.int .i64 r7.Enum.Points, .bool r7.Enum.Monoid, .slice iw lh iA, .slice gH j8 gI, .slice gm ji gn, .slice iB li iC, .slice gJ j9 gK, .slice gL ka gM, .int .i64 r7.Enum.Done]) (o := 0) (cs' := #[.int .i64 r7.Enum.Points, .bool r7.Enum.Monoid, .slice iw lh iA, .slice gH j8 gI, .slice gm ji gn, .slice iB li iC, .slice gJ j9 gK, .slice gL ka gM, .int .i64 r7.Enum.Done]) 11 hO rfl rfl (Nat.le_of_ble_eq_true rfl) rfl
   obtain ⟨w34, e9, Gv⟩ := hobt
   dsimp only [sS, sZ] at e9
   refine zg (Gv ti29 (by exact rfl) (by exact rfl) rfl) ?_
   replace hO := e9.own
   refine za rfl (zn ?_)
   replace cR := cR.ch e9.ch
   have hobt := freeze 1 hO rfl cR
   obtain ⟨hO1, E3, Bi, acB⟩ := hobt
   dsimp only [eS, eZ] at hO1 E3 Bi
   replace hB := (((hB.trans cQ.fr).trans lL.fr).trans e9.fr).trans (Owns.dropFr _ _ 1)
   dsimp only [eS, eZ] at hB
   replace hO := hO1; clear hO1
   replace cp := (cp.ch e9.ch).ch E3
   have hobt := freeze 1 hO rfl cp
   obtain ⟨hO1, E4, E5, acC⟩ := hobt
   dsimp only [eS, eZ] at hO1 E4 E5
   replace hB := hB.trans (Owns.dropFr _ _ 1)
   dsimp only [eS, eZ] at hB
   replace hO := hO1; clear hO1
   have Z1 := (e9.ch.trans E3).trans E4
   replace bV := bV.ch Z1
   have hobt := freeze 1 hO rfl bV
   obtain ⟨hO1, E6, pq, acD⟩ := hobt
   dsimp only [eS, eZ] at hO1 E6 pq
   replace hB := hB.trans (Owns.dropFr _ _ 1)
   dsimp only [eS, eZ] at hB
   replace hO := hO1; clear hO1
   replace cf := (cf.ch Z1).ch E6
   have hobt := freeze 1 hO rfl cf
   obtain ⟨hO1, E7, JK, acE⟩ := hobt
   dsimp only [eS, eZ] at hO1 E7 JK
   replace hB := hB.trans (Owns.dropFr _ _ 1)
   dsimp only [eS, eZ] at hB
   replace hO := hO1; clear hO1
   replace bN := ((bN.ch Z1).ch E6).ch E7
   have hobt := freeze 1 hO rfl bN
   obtain ⟨hO1, E8, MR, acF⟩ := hobt
   dsimp only [eS, eZ] at hO1 E8 MR
   replace hB := hB.trans (Owns.dropFr _ _ 1)
   dsimp only [eS, eZ] at hB
   replace hO := hO1; clear hO1
   have Z2 := ((Z1.trans E6).trans E7).trans E8
   replace bC := bC.ch Z2
   have hobt := freeze 1 hO rfl bC
   obtain ⟨hO1, E9, S3, acG⟩ := hobt
   dsimp only [eS, eZ] at hO1 E9 S3
   replace hB := hB.trans (Owns.dropFr _ _ 1)
   dsimp only [eS, eZ] at hB
   replace hO := hO1; clear hO1
   refine Go1.retC2 Try.func25 rfl rfl (run_loadBlk (vs := [.int .i64 r7.Enum.Points, .bool r7.Enum.Monoid, .slice iw lh iA, .slice gH j8 gI, .slice gm ji gn, .slice iB li iC, .slice gJ j9 gK, .slice gL ka gM, .int .i64 r7.Enum.Done]) 5 hO rfl rfl Try.underlying29 rfl ti29) ?_
   replace MR := MR.ch E9
   replace JK := (JK.ch E8).ch E9
   have Z3 := (E7.trans E8).trans E9
   replace pq := pq.ch Z3
   have Z4 := ((E6.trans E7).trans E8).trans E9
   replace E5 := E5.ch Z4
   have Z5 := (((E4.trans E6).trans E7).trans E8).trans E9
   replace Bi := Bi.ch Z5
   exact ⟨(⟨r7.Enum.Points, r7.Enum.Monoid, r7.Enum.Gens, r7.Enum.Elems, r7.Enum.Prefix, r7.Enum.Last, r7.Enum.Right, r7.Enum.Rules, r7.Enum.Done⟩ : Enum), (0 : Int), iw, iA, gH, gI, gm, gn, iB, iC, gJ, gK, gL, gM, (congrArg (fun l => Value.tuple (List.toArray l)) (cons_eq (congrArg (fun l => Value.agg (List.toArray l)) (cons_eq rfl (cons_eq rfl (cons_eq (congrArg (fun nn => Value.slice iw nn iA) acB) (cons_eq (congrArg (fun nn => Value.slice gH nn gI) acC) (cons_eq (congrArg (fun nn => Value.slice gm nn gn) acD) (cons_eq (congrArg (fun nn => Value.slice iB nn iC) acE) (cons_eq (congrArg (fun nn => Value.slice gJ nn gK) acF) (cons_eq (congrArg (fun nn => Value.slice gL nn gM) acG) (cons_eq rfl rfl)))))))))) (cons_eq rfl rfl))), hB.same, (Bi.ch (Ch.weak _ _ _)), (E5.ch (Ch.weak _ _ _)), (pq.ch (Ch.weak _ _ _)), (JK.ch (Ch.weak _ _ _)), (MR.ch (Ch.weak _ _ _)), (S3.ch (Ch.weak _ _ _)), H⟩
  replace H := ifn h33 H
  refine zo (fun w => opB (op_neq rfl rfl w) (ndF h33)) (zn (zt rfl rfl (zq (zr (zo (op_build Try.underlying29 ti29 (pl := [(0, 1), (1, 1), (2, 1), (3, 1), (4, 1), (5, 1), (6, 1), (7, 1), (8, 1)]) (vs := []) (cs := #[.int .i64 (0 : Int), .bool false, .slice none 0 0, .slice none 0 0, .slice none 0 0, .slice none 0 0, .slice none 0 0, .slice none 0 0, .int .i64 (0 : Int)]) (by kernel_rfl) rfl (by kernel_rfl)) ?_)))))
  refine zm rfl ?_
  have hobt := oblkStAgg (us := [.int .i64 (0 : Int), .bool false, .slice none 0 0, .slice none 0 0, .slice none 0 0, .slice none 0 0, .slice none 0 0, .slice none 0 0, .int .i64 (0 : Int)]) (o := 0) (cs' := #[.int .i64 (0 : Int), .bool false, .slice none 0 0, .slice none 0 0, .slice none 0 0, .slice none 0 0, .slice none 0 0, .slice none 0 0, .int .i64 (0 : Int)]) 11 hO rfl rfl (Nat.le_of_ble_eq_true rfl) rfl
  obtain ⟨w55, yl, Ya⟩ := hobt
  dsimp only [sS, sZ] at yl
  refine zg (Ya ti29 (by exact rfl) (by exact rfl) rfl) ?_
  replace hO := yl.own
  refine za rfl (zn ?_)
  refine Go1.retC2 Try.func25 rfl rfl (run_loadBlk (vs := [.int .i64 (0 : Int), .bool false, .slice none 0 0, .slice none 0 0, .slice none 0 0, .slice none 0 0, .slice none 0 0, .slice none 0 0, .int .i64 (0 : Int)]) 11 hO rfl rfl Try.underlying29 rfl ti29) ?_
  replace hB := ((hB.trans cQ.fr).trans lL.fr).trans yl.fr
  exact ⟨(⟨(0 : Int), false, ([] : List (List Int)), ([] : List (List Int)), ([] : List Int), ([] : List Int), ([] : List (List Int)), ([] : List Rule), (0 : Int)⟩ : Enum), r8, none, 0, none, 0, none, 0, none, 0, none, 0, none, 0, rfl, hB.same, (ISl.null _ _ _), (ISl.null _ _ _), (ISl.null _ _ _), (ISl.null _ _ _), (ISl.null _ _ _), (ISl.null _ _ _), H⟩
end Sg
