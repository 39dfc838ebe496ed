/- The walks: each call keeps to its plain transformer. Printed by walkgen.py. -/
import Derived.Test.YtjegjjdfgefkoaaTi
import Derived.Test.YtjegjjdfgefkoaaWEnumerateBuilds
import Derived.Test.YtjegjjdfgefkoaaWEnumerateBuildsb
import Derived.Test.YtjegjjdfgefkoaaWEnumerateBuildsc
import Derived.Test.YtjegjjdfgefkoaaWEnumerateBuildsd
import Derived.Test.YtjegjjdfgefkoaaWEnumerateCovers
namespace Sg
open Go Go.RowKit Go.Proofs
set_option linter.unusedVariables false
set_option linter.unusedSimpArgs false
set_option maxRecDepth 100000
set_option maxHeartbeats 4000000
theorem body33 : Body Try.prog 33 := ⟨Try.f33, Try.func33, rfl, by kernel_rfl⟩
theorem walk_trans_OfWord {A : List Nat} {w0 : World} {eF : Option Addr} {eG : Nat} {gens : List (List Int)} {w_ : Str} (hA : ∀ b ∈ A, b < w0.heap.size) (ck : ISl (Rp.sl (Rp.int .i64)) A w0 eF eG gens) (un : w_.length ≤ mx) {K : List Int → Prop} (H : trans_OfWord gens w_ K) :
    CallsV Try.prog 33 #[.slice eF gens.length eG, .string (gstr w_)] w0 (fun v w' => ∃ (r0 : List Int), ∃ (sd : Option Addr), ∃ (se : Nat), v = .slice sd r0.length se ∧ Same w0 w' ∧ ISl (Rp.int .i64) A w' sd se r0 ∧ K r0) := by
 refine CallsV.of (l := [.slice eF gens.length eG, .string (gstr w_)]) Try.func33 rfl Try.ntmps33 rfl ?_
 have hO := Owns.start hA
 have hB := Fr.refl (bl []) w0
 unfold trans_OfWord at H
 replace ck := ck.ch (Ch.start A w0)
 refine Go1.seq ?_
 refine Go1.region ?_
 refine GoR.op ((op_assign rfl) _) rfl rfl ?_
 refine GoR.nil ?_
 refine Go1.seq ?_
 refine Go1.seq ?_
 refine Go1.region ?_
 refine GoR.op ((op_move rfl) _) rfl rfl ?_
 refine GoR.op ((op_len Try.underlying22 rfl) _) rfl rfl ?_
 replace H := H ck.bd
 by_cases h1 : (gens.length : Int) = (0 : Int)
 ·replace H := ifp h1 H
  refine GoR.op ((fun w => opB (op_eql rfl rfl w) (decide_eq_true h1)) _) rfl rfl ?_
  refine GoR.op ((op_move rfl) _) rfl rfl ?_
  refine GoR.pass rfl rfl ?_
  refine GoR.pass rfl rfl ?_
  refine GoR.pass rfl rfl ?_
  refine GoR.pass rfl rfl ?_
  refine GoR.pass rfl rfl ?_
  refine GoR.op ((op_pickT rfl rfl rfl) _) rfl rfl ?_
  refine GoR.nil ?_
  refine Go1.condT rfl rfl ?_
  refine Go1.seq ?_
  refine Go1.region ?_
  refine GoR.op ((op_assign rfl) _) rfl rfl ?_
  refine GoR.nil ?_
  refine Go1.ret1 Try.func33 rfl ?_
  exact ⟨([] : List Int), none, 0, rfl, hB.same, (ISl.null _ _ _), H⟩
 replace H := ifn h1 H
 refine GoR.op ((fun w => opB (op_eql rfl rfl w) (decide_eq_false h1)) _) rfl rfl ?_
 refine GoR.op ((op_move rfl) _) rfl rfl ?_
 refine GoR.op ((op_move rfl) _) rfl rfl ?_
 refine GoR.op ((op_move rfl) _) rfl rfl ?_
 refine GoR.op ((op_len Try.underlying22 rfl) _) rfl rfl ?_
 refine GoR.call (op_call body58 rfl (walk_word_Valid hO.lt un H)) rfl rfl ?_
 rintro v6 w3 ⟨r2, rfl, hs4, H⟩
 have l5 := Stp.same hO hs4
 replace hO := l5.own
 replace ck := ck.ch l5.ch
 replace hB := hB.trans l5.fr
 cases r2
 ·replace H := ifn Bool.false_ne_true H
  refine GoR.op ((op_not rfl) _) rfl rfl ?_
  refine GoR.op ((op_pickF rfl rfl rfl) _) rfl rfl ?_
  refine GoR.nil ?_
  refine Go1.condT rfl rfl ?_
  refine Go1.seq ?_
  refine Go1.cut [] trivial ?_
  intro σ _
  refine Go1.region ?_
  refine GoR.op ((op_assign rfl) _) rfl rfl ?_
  refine GoR.nil ?_
  refine Go1.ret1 Try.func33 rfl ?_
  exact ⟨([] : List Int), none, 0, rfl, hB.same, (ISl.null _ _ _), H⟩
 replace H := ifp rfl H
 refine GoR.op ((op_not rfl) _) rfl rfl ?_
 refine GoR.op ((op_pickF rfl rfl rfl) _) rfl rfl ?_
 refine GoR.nil ?_
 refine Go1.condF rfl rfl ?_
 refine Go1.skip ?_
 refine Go1.seq ?_
 refine Go1.seq ?_
 refine Go1.region ?_
 refine GoR.op ((op_move rfl) _) rfl rfl ?_
 refine GoR.op ((op_len Try.underlying22 rfl) _) rfl rfl ?_
 refine GoR.op ((op_move rfl) _) rfl rfl ?_
 refine GoR.nil ?_
 refine Go1.block ?_
 refine Go1.loopW (S := Nat) (fun s σ w => agrees σ [(0, .slice eF gens.length eG), (1, .string (gstr w_)), (20, .slice eF gens.length eG), (21, .int .i64 (gens.length : Int)), (22, .int .i64 (s : Int))] ∧ Owns w0.heap.size w [] A ∧ ISl (Rp.sl (Rp.int .i64)) (bl [] ++ A) w eF eG gens ∧ Fr (bl []) w0 (bl []) w) H ⟨⟨rfl, rfl, rfl, rfl, rfl, trivial⟩, hO, ck, hB⟩ ?_
 intro X1 k1_9
 intro H hX1 σ w8
 refine andE fun hag => andE fun hO => andE fun ck => fun hB => ?_
 refine Go1.keep [(0, .slice eF gens.length eG), (1, .string (gstr w_)), (20, .slice eF gens.length eG), (21, .int .i64 (gens.length : Int)), (22, .int .i64 (k1_9 : Int))] hag ?_
 refine Go1.seq ?_
 refine Go1.region ?_
 by_cases h10 : (k1_9 : Int) < (gens.length : Int)
 ·replace H := ifp h10 H
  refine GoR.op ((fun w => opB (op_lss rfl rfl w) (decide_eq_true h10)) _) rfl rfl ?_
  refine GoR.nil ?_
  refine Go1.seq ?_
  refine Go1.condT rfl rfl ?_
  refine Go1.skip ?_
  refine Go1.seq ?_
  refine Go1.block ?_
  refine Go1.seq ?_
  refine Go1.region ?_
  obtain ⟨h11, H⟩ := H
  obtain ⟨h12, H⟩ := H
  refine GoR.op ((op_index Try.underlying22 ti26 rfl rfl h11 h12 (ck.some_ h11 h12)) _) rfl rfl ?_
  have hobt := ldSl ck h11 h12
  obtain ⟨p13, c14, lQ, zG⟩ := hobt
  refine GoR.op ((zG Try.underlying26 rfl rfl) _ (Same.refl _)) rfl rfl ?_
  refine GoR.op ((op_assign rfl) _) rfl rfl ?_
  refine GoR.nil ?_
  refine Go1.seq ?_
  refine Go1.region ?_
  refine GoR.op ((op_move rfl) _) rfl rfl ?_
  refine GoR.op ((op_len Try.underlying26 rfl) _) rfl rfl ?_
  replace H := H lQ.bd
  refine GoR.op ((op_move rfl) _) rfl rfl ?_
  obtain ⟨h17, H⟩ := H
  obtain ⟨h18, H⟩ := H
  refine GoR.op ((op_index Try.underlying22 ti26 rfl rfl h17 h18 (ck.some_ h17 h18)) _) rfl rfl ?_
  have hobt := ldSl ck h17 h18
  obtain ⟨p19, c20, zJ, Ht⟩ := hobt
  refine GoR.op ((Ht Try.underlying26 rfl rfl) _ (Same.refl _)) rfl rfl ?_
  refine GoR.op ((op_len Try.underlying26 rfl) _) rfl rfl ?_
  replace H := H zJ.bd
  by_cases h23 : ((ix gens (k1_9 : Int)).length : Int) = ((ix gens (0 : Int)).length : Int)
  ·replace H := ifp h23 H
   refine GoR.op ((fun w => opB (op_neq rfl rfl w) (ndT h23)) _) rfl rfl ?_
   refine GoR.op ((op_move rfl) _) rfl rfl ?_
   refine GoR.op ((op_move rfl) _) rfl rfl ?_
   refine GoR.call (op_call body60 rfl (walk_trans_Valid hO.lt lQ H)) rfl rfl ?_
   rintro v28 w25 ⟨r24, rfl, Hu, H⟩
   have vD := Stp.same hO Hu
   replace hO := vD.own
   replace ck := ck.ch vD.ch
   replace lQ := lQ.ch vD.ch
   replace zJ := zJ.ch vD.ch
   replace hB := hB.trans vD.fr
   cases r24
   ·replace H := ifn Bool.false_ne_true H
    refine GoR.op ((op_not rfl) _) rfl rfl ?_
    refine GoR.op ((op_pickF rfl rfl rfl) _) rfl rfl ?_
    refine GoR.nil ?_
    refine Go1.condT rfl rfl ?_
    refine Go1.seq ?_
    refine Go1.region ?_
    refine GoR.op ((op_assign rfl) _) rfl rfl ?_
    refine GoR.nil ?_
    refine Go1.ret1 Try.func33 rfl ?_
    exact ⟨([] : List Int), none, 0, rfl, hB.same, (ISl.null _ _ _), H⟩
   replace H := ifp rfl H
   refine GoR.op ((op_not rfl) _) rfl rfl ?_
   refine GoR.op ((op_pickF rfl rfl rfl) _) rfl rfl ?_
   refine GoR.nil ?_
   refine Go1.condF rfl rfl ?_
   refine Go1.skip ?_
   refine Go1.inBlock ?_
   refine Go1.cut [(0, .slice eF gens.length eG), (1, .string (gstr w_)), (20, .slice eF gens.length eG), (21, .int .i64 (gens.length : Int)), (22, .int .i64 (k1_9 : Int))] ⟨rfl, rfl, rfl, rfl, rfl, trivial⟩ ?_
   intro σ _
   refine Go1.region ?_
   refine GoR.op ((op_add rfl rfl (wrap_i64 (natbd h10 ck.bd))) _) rfl rfl ?_
   refine GoR.op ((op_move rfl) _) rfl rfl ?_
   refine GoR.nil ?_
   exact hX1 _ H _ _ ⟨⟨rfl, rfl, rfl, rfl, rfl, trivial⟩, hO, ck, hB⟩
  replace H := ifn h23 H
  refine GoR.op ((fun w => opB (op_neq rfl rfl w) (ndF h23)) _) rfl rfl ?_
  refine GoR.op ((op_move rfl) _) rfl rfl ?_
  refine GoR.pass rfl rfl ?_
  refine GoR.pass rfl rfl ?_
  refine GoR.pass rfl rfl ?_
  refine GoR.op ((op_pickT rfl rfl rfl) _) rfl rfl ?_
  refine GoR.nil ?_
  refine Go1.condT rfl rfl ?_
  refine Go1.seq ?_
  refine Go1.region ?_
  refine GoR.op ((op_assign rfl) _) rfl rfl ?_
  refine GoR.nil ?_
  refine Go1.ret1 Try.func33 rfl ?_
  exact ⟨([] : List Int), none, 0, rfl, hB.same, (ISl.null _ _ _), H⟩
 replace H := ifn h10 H
 refine GoR.op ((fun w => opB (op_lss rfl rfl w) (decide_eq_false h10)) _) rfl rfl ?_
 refine GoR.nil ?_
 refine Go1.seq ?_
 refine Go1.condF rfl rfl ?_
 refine Go1.exit rfl ?_
 refine Go1.seq ?_
 refine Go1.region ?_
 refine GoR.op ((op_move rfl) _) rfl rfl ?_
 obtain ⟨h30, H⟩ := H
 obtain ⟨h31, H⟩ := H
 refine GoR.op ((op_index Try.underlying22 ti26 rfl rfl h30 h31 (ck.some_ h30 h31)) _) rfl rfl ?_
 have hobt := ldSl ck h30 h31
 obtain ⟨p32, c33, wZ, Hv⟩ := hobt
 refine GoR.op ((Hv Try.underlying26 rfl rfl) _ (Same.refl _)) rfl rfl ?_
 refine GoR.op ((op_len Try.underlying26 rfl) _) rfl rfl ?_
 replace H := H wZ.bd
 refine GoR.call (op_call body62 rfl (walk_trans_Identity hO.lt H)) rfl rfl ?_
 rintro v40 w37 ⟨r36, FG, FH, rfl, Hw, yt, H⟩
 have wy := Stp.same hO Hw
 replace hO := wy.own
 replace ck := ck.ch wy.ch
 replace wZ := wZ.ch wy.ch
 replace hB := hB.trans wy.fr
 refine GoR.op ((op_assign rfl) _) rfl rfl ?_
 refine GoR.nil ?_
 refine Go1.seq ?_
 refine Go1.seq ?_
 refine Go1.region ?_
 refine GoR.op ((op_move rfl) _) rfl rfl ?_
 have hobt := orange (s := w_) Try.underlying9 hO
 obtain ⟨w42, B43, vE, Ce, yr⟩ := hobt
 refine GoR.op (yr rfl) rfl rfl ?_
 replace hO := vE.own
 replace ck := ck.ch vE.ch
 replace wZ := wZ.ch vE.ch
 replace yt := yt.ch vE.ch
 replace hB := hB.trans vE.fr
 refine GoR.nil ?_
 refine Go1.block ?_
 refine Go1.loopW (S := List Int × Nat) (fun s σ w => match s with | (f2_49, i2_53) => ∃ (p50 : Option Addr), ∃ (c51 : Nat), agrees σ [(0, .slice eF gens.length eG), (7, .slice p50 f2_49.length c51), (45, .pointer (some ⟨B43, 0, none⟩))] ∧ Owns w0.heap.size w [.blk B43 (.stringIter (gstr w_) i2_53)] A ∧ ISl (Rp.sl (Rp.int .i64)) (bl [.blk B43 (.stringIter (gstr w_) i2_53)] ++ A) w eF eG gens ∧ ISl (Rp.int .i64) (bl [.blk B43 (.stringIter (gstr w_) i2_53)] ++ A) w p50 c51 f2_49 ∧ Fr (bl []) w0 (bl [.blk B43 (.stringIter (gstr w_) i2_53)]) w) H ⟨FG, FH, ⟨rfl, rfl, rfl, trivial⟩, hO, ck, yt, hB⟩ ?_
 intro X2
 refine prE fun f2_49 => fun i2_53 => ?_
 intro H hX2 σ w48
 refine exE fun p50 => exE fun c51 => andE fun hag => andE fun hO => andE fun ck => andE fun v3 => fun hB => ?_
 dsimp only at H
 refine Go1.keep [(0, .slice eF gens.length eG), (7, .slice p50 f2_49.length c51), (45, .pointer (some ⟨B43, 0, none⟩))] hag ?_
 refine Go1.seq ?_
 refine Go1.region ?_
 by_cases h54 : (i2_53 : Int) < (w_.length : Int)
 ·replace H := ifp h54 H
  obtain ⟨h55, H⟩ := H
  have hobt := onext 0 hO rfl h54 h55
  obtain ⟨w56, wz, FI⟩ := hobt
  refine GoR.op (FI rfl) rfl rfl ?_
  replace hO := wz.own
  replace ck := ck.ch wz.ch
  replace v3 := v3.ch wz.ch
  replace hB := hB.trans wz.fr
  refine GoR.op ((op_extract rfl rfl) _) rfl rfl ?_
  refine GoR.nil ?_
  refine Go1.seq ?_
  refine Go1.condT rfl rfl ?_
  refine Go1.skip ?_
  refine Go1.block ?_
  refine Go1.seq ?_
  refine Go1.region ?_
  refine GoR.op ((op_extract rfl rfl) _) rfl rfl ?_
  refine GoR.op ((op_assign rfl) _) rfl rfl ?_
  refine GoR.nil ?_
  refine Go1.region ?_
  refine GoR.op ((op_move rfl) _) rfl rfl ?_
  refine GoR.op ((op_move rfl) _) rfl rfl ?_
  refine GoR.op ((op_move rfl) _) rfl rfl ?_
  refine GoR.op ((op_sub rfl rfl rfl) _) rfl rfl ?_
  obtain ⟨h59, H⟩ := H
  obtain ⟨h60, H⟩ := H
  refine GoR.op ((op_index Try.underlying22 ti26 rfl rfl h59 h60 (ck.some_ h59 h60)) _) rfl rfl ?_
  have hobt := ldSl ck h59 h60
  obtain ⟨p61, c62, ro, Hx⟩ := hobt
  refine GoR.op ((Hx Try.underlying26 rfl rfl) _ (Same.refl _)) rfl rfl ?_
  refine GoR.call (op_call body37 rfl (walk_trans_Compose hO.lt v3 ro H)) rfl rfl ?_
  rintro v69 w66 ⟨r65, FJ, FK, rfl, Hy, FL, H⟩
  have vF := Stp.same hO Hy
  replace hO := vF.own
  replace ck := ck.ch vF.ch
  replace v3 := v3.ch vF.ch
  replace ro := ro.ch vF.ch
  replace hB := hB.trans vF.fr
  refine GoR.op ((op_assign rfl) _) rfl rfl ?_
  refine GoR.nil ?_
  refine Go1.inBlock ?_
  exact hX2 _ H _ _ ⟨FJ, FK, ⟨rfl, rfl, rfl, trivial⟩, hO, ck, FL, hB⟩
 replace H := ifn h54 H
 refine GoR.op (onextEnd 0 hO rfl h54 rfl) rfl rfl ?_
 refine GoR.op ((op_extract rfl rfl) _) rfl rfl ?_
 refine GoR.nil ?_
 refine Go1.seq ?_
 refine Go1.condF rfl rfl ?_
 refine Go1.exit rfl ?_
 refine Go1.seq ?_
 refine Go1.region ?_
 refine GoR.op ((op_move rfl) _) rfl rfl ?_
 refine GoR.op ((op_assign rfl) _) rfl rfl ?_
 refine GoR.nil ?_
 refine Go1.ret1 Try.func33 rfl ?_
 exact ⟨f2_49, p50, c51, rfl, hB.same, (v3.ch (Ch.weak _ _ _)), H⟩
theorem body32 : Body Try.prog 32 := ⟨Try.f32, Try.func32, rfl, by kernel_rfl⟩
theorem walk_enumerate_Find {A : List Nat} {w0 : World} {a5 : Option Addr} {a6 : Nat} {aA : Option Addr} {aB : Nat} {ao : Option Addr} {ap : Nat} {aX : Option Addr} {aY : Nat} {aC : Option Addr} {aD : Nat} {aE : Option Addr} {aF : Nat} {p_f : Option Addr} {c_f : Nat} {e : Enum} {f : List Int} (hA : ∀ b ∈ A, b < w0.heap.size) (ah : ISl (Rp.sl (Rp.int .i64)) A w0 a5 a6 e.Gens) (ae : ISl (Rp.sl (Rp.int .i64)) A w0 aA aB e.Elems) (ad : ISl (Rp.int .i64) A w0 ao ap e.Prefix) (ai : ISl (Rp.int .i64) A w0 aX aY e.Last) (af : ISl (Rp.sl (Rp.int .i64)) A w0 aC aD e.Right) (ag : ISl (rpRule) A w0 aE aF e.Rules) (h_f : ISl (Rp.int .i64) A w0 p_f c_f f) {K : Int → Prop} (H : enumerate_Find e f K) :
    CallsV Try.prog 32 #[.agg #[.int .i64 e.Points, .bool e.Monoid, .slice a5 e.Gens.length a6, .slice aA e.Elems.length aB, .slice ao e.Prefix.length ap, .slice aX e.Last.length aY, .slice aC e.Right.length aD, .slice aE e.Rules.length aF, .int .i64 e.Done], .slice p_f f.length c_f] w0 (fun v w' => ∃ (r0 : Int), v = .int .i64 r0 ∧ Same w0 w' ∧ K r0) := by
 refine CallsV.of (l := [.agg #[.int .i64 e.Points, .bool e.Monoid, .slice a5 e.Gens.length a6, .slice aA e.Elems.length aB, .slice ao e.Prefix.length ap, .slice aX e.Last.length aY, .slice aC e.Right.length aD, .slice aE e.Rules.length aF, .int .i64 e.Done], .slice p_f f.length c_f]) Try.func32 rfl Try.ntmps32 rfl ?_
 have hO := Owns.start hA
 have hB := Fr.refl (bl []) w0
 unfold enumerate_Find at H
 replace ah := ah.ch (Ch.start A w0)
 replace ae := ae.ch (Ch.start A w0)
 replace ad := ad.ch (Ch.start A w0)
 replace ai := ai.ch (Ch.start A w0)
 replace af := af.ch (Ch.start A w0)
 replace ag := ag.ch (Ch.start A w0)
 replace h_f := h_f.ch (Ch.start A w0)
 refine Go1.seq ?_
 refine Go1.region ?_
 have hobt := obox (t := 29) (v := .agg #[.int .i64 e.Points, .bool e.Monoid, .slice a5 e.Gens.length a6, .slice aA e.Elems.length aB, .slice ao e.Prefix.length ap, .slice aX e.Last.length aY, .slice aC e.Right.length aD, .slice aE e.Rules.length aF, .int .i64 e.Done]) (cs := #[.int .i64 e.Points, .bool e.Monoid, .slice a5 e.Gens.length a6, .slice aA e.Elems.length aB, .slice ao e.Prefix.length ap, .slice aX e.Last.length aY, .slice aC e.Right.length aD, .slice aE e.Rules.length aF, .int .i64 e.Done]) hO rfl
 obtain ⟨w1, B2, g6, hs4, uU⟩ := hobt
 refine GoR.op (uU rfl) rfl rfl ?_
 replace hO := g6.own
 replace ah := ah.ch g6.ch
 replace ae := ae.ch g6.ch
 replace ad := ad.ch g6.ch
 replace ai := ai.ch g6.ch
 replace af := af.ch g6.ch
 replace ag := ag.ch g6.ch
 replace h_f := h_f.ch g6.ch
 replace hB := hB.trans g6.fr
 refine GoR.op ((op_assign rfl) _) rfl rfl ?_
 refine GoR.nil ?_
 refine Go1.seq ?_
 refine Go1.region ?_
 refine GoR.op ((oblkAgg (vs := [.int .i64 e.Points, .bool e.Monoid, .slice a5 e.Gens.length a6, .slice aA e.Elems.length aB, .slice ao e.Prefix.length ap, .slice aX e.Last.length aY, .slice aC e.Right.length aD, .slice aE e.Rules.length aF, .int .i64 e.Done]) (i := 0) 0 hO rfl rfl Try.underlying29 rfl ti29 rfl) _ (Same.refl _)) rfl rfl ?_
 refine GoR.call (op_call body53 rfl (walk_enumerate_replay (e := e) hO.lt ah ae ad ai af ag H)) rfl rfl ?_
 intro v9 w10 hcase13
 refine Or.elim hcase13 ?_ ?_
 ·refine exE fun r8 => andE fun hv14 => andE fun sD => fun H => ?_
  subst hv14
  clear hcase13
  replace H := oElimN H
  have jQ := Stp.same hO sD
  replace hO := jQ.own
  replace ah := ah.ch jQ.ch
  replace ae := ae.ch jQ.ch
  replace ad := ad.ch jQ.ch
  replace ai := ai.ch jQ.ch
  replace af := af.ch jQ.ch
  replace ag := ag.ch jQ.ch
  replace h_f := h_f.ch jQ.ch
  replace hB := hB.trans jQ.fr
  refine GoR.op ((op_move rfl) _) rfl rfl ?_
  refine GoR.op ((op_extract rfl rfl) _) rfl rfl ?_
  refine GoR.op ((op_extract rfl rfl) _) rfl rfl ?_
  refine GoR.op ((op_assign rfl) _) rfl rfl ?_
  refine GoR.op ((op_assign rfl) _) rfl rfl ?_
  refine GoR.nil ?_
  refine Go1.seq ?_
  refine Go1.seq ?_
  refine Go1.region ?_
  refine GoR.op ((op_move rfl) _) rfl rfl ?_
  cases r8
  ·replace H := ifn Bool.false_ne_true H
   refine GoR.op ((op_not rfl) _) rfl rfl ?_
   refine GoR.op ((op_move rfl) _) rfl rfl ?_
   refine GoR.pass rfl rfl ?_
   refine GoR.pass rfl rfl ?_
   refine GoR.pass rfl rfl ?_
   refine GoR.op ((op_pickT rfl rfl rfl) _) rfl rfl ?_
   refine GoR.nil ?_
   refine Go1.condT rfl rfl ?_
   refine Go1.seq ?_
   refine Go1.region ?_
   refine GoR.op ((op_assign rfl) _) rfl rfl ?_
   refine GoR.nil ?_
   refine Go1.ret1 Try.func32 rfl ?_
   exact ⟨(-1 : Int), rfl, hB.same, H⟩
  replace H := ifp rfl H
  refine GoR.op ((op_not rfl) _) rfl rfl ?_
  refine GoR.op ((op_move rfl) _) rfl rfl ?_
  refine GoR.op ((op_move rfl) _) rfl rfl ?_
  refine GoR.call (op_call body60 rfl (walk_trans_Valid hO.lt h_f H)) rfl rfl ?_
  rintro v20 w17 ⟨r16, rfl, Hz, H⟩
  have kg := Stp.same hO Hz
  replace hO := kg.own
  replace ah := ah.ch kg.ch
  replace ae := ae.ch kg.ch
  replace ad := ad.ch kg.ch
  replace ai := ai.ch kg.ch
  replace af := af.ch kg.ch
  replace ag := ag.ch kg.ch
  replace h_f := h_f.ch kg.ch
  replace hB := hB.trans kg.fr
  cases r16
  ·replace H := ifn Bool.false_ne_true H
   refine GoR.op ((op_not rfl) _) rfl rfl ?_
   refine GoR.op ((op_pickF rfl rfl rfl) _) rfl rfl ?_
   refine GoR.nil ?_
   refine Go1.condT rfl rfl ?_
   refine Go1.seq ?_
   refine Go1.cut [] trivial ?_
   intro σ _
   refine Go1.region ?_
   refine GoR.op ((op_assign rfl) _) rfl rfl ?_
   refine GoR.nil ?_
   refine Go1.ret1 Try.func32 rfl ?_
   exact ⟨(-1 : Int), rfl, hB.same, H⟩
  replace H := ifp rfl H
  refine GoR.op ((op_not rfl) _) rfl rfl ?_
  refine GoR.op ((op_pickF rfl rfl rfl) _) rfl rfl ?_
  refine GoR.nil ?_
  refine Go1.condF rfl rfl ?_
  refine Go1.skip ?_
  refine Go1.seq ?_
  refine Go1.seq ?_
  refine Go1.drawS 0 [(0, .pure), (1, .pure), (2, .pure), (3, .stable), (4, .pure), (5, .loud), (6, .stable), (7, .pure), (8, .pure), (9, .pure), (10, .pure), (11, .pure)] mixed (by kernel_rfl) ?_
  intro w22 Cf
  have su := Stp.same hO Cf
  replace hO := su.own
  replace ah := ah.ch su.ch
  replace ae := ae.ch su.ch
  replace ad := ad.ch su.ch
  replace ai := ai.ch su.ch
  replace af := af.ch su.ch
  replace ag := ag.ch su.ch
  replace h_f := h_f.ch su.ch
  replace hB := hB.trans su.fr
  refine GoQ.pure rfl (op_move rfl) rfl rfl ?_
  exact H.elim
 ·refine exE fun r7 => exE fun r8 => exE fun kd => exE fun rs => exE fun ru => exE fun rv => exE fun qP => exE fun qQ => exE fun qR => exE fun qS => exE fun qB => exE fun qC => exE fun qD => exE fun qE => exE fun qb => exE fun ry => exE fun rz => exE fun rB => exE fun qT => exE fun qU => exE fun qV => exE fun qW => exE fun qF => exE fun qX => exE fun qY => exE fun qZ => exE fun qG => exE fun bU => exE fun tC => exE fun tD => exE fun tE => exE fun sY => exE fun ta => exE fun tc => exE fun te => exE fun sE => exE fun tf => exE fun tg => exE fun th => exE fun sF => andE fun hv25 => andE fun sD => andE fun hN12 => andE fun cZ => andE fun cH => andE fun cF => andE fun c5 => andE fun cU => andE fun cV => andE fun dm => andE fun dy => andE fun dz => fun H => ?_
  subst hv25
  clear hcase13
  replace H := oElimS H
  have nV := Stp.more hO sD hN12
  dsimp only [List.cons_append, List.nil_append] at nV
  replace hO := nV.own
  replace ah := ah.ch nV.ch
  replace ae := ae.ch nV.ch
  replace ad := ad.ch nV.ch
  replace ai := ai.ch nV.ch
  replace af := af.ch nV.ch
  replace ag := ag.ch nV.ch
  replace h_f := h_f.ch nV.ch
  replace hB := hB.trans nV.fr
  replace cZ := cZ.ch (Ch.assoc _ _ _ _)
  dsimp only [List.cons_append, List.nil_append] at cZ
  replace cH := cH.ch (Ch.assoc _ _ _ _)
  dsimp only [List.cons_append, List.nil_append] at cH
  replace cF := cF.ch (Ch.assoc _ _ _ _)
  dsimp only [List.cons_append, List.nil_append] at cF
  replace c5 := c5.ch (Ch.assoc _ _ _ _)
  dsimp only [List.cons_append, List.nil_append] at c5
  replace cU := cU.ch (Ch.assoc _ _ _ _)
  dsimp only [List.cons_append, List.nil_append] at cU
  replace cV := cV.ch (Ch.assoc _ _ _ _)
  dsimp only [List.cons_append, List.nil_append] at cV
  replace dm := dm.ch (Ch.assoc _ _ _ _)
  dsimp only [List.cons_append, List.nil_append] at dm
  replace dy := dy.ch (Ch.assoc _ _ _ _)
  dsimp only [List.cons_append, List.nil_append] at dy
  replace dz := dz.ch (Ch.assoc _ _ _ _)
  dsimp only [List.cons_append, List.nil_append] at dz
  refine GoR.op ((op_move rfl) _) rfl rfl ?_
  refine GoR.op ((op_extract rfl rfl) _) rfl rfl ?_
  refine GoR.op ((op_extract rfl rfl) _) rfl rfl ?_
  refine GoR.op ((op_assign rfl) _) rfl rfl ?_
  refine GoR.op ((op_assign rfl) _) rfl rfl ?_
  refine GoR.nil ?_
  refine Go1.seq ?_
  refine Go1.seq ?_
  refine Go1.region ?_
  refine GoR.op ((op_move rfl) _) rfl rfl ?_
  cases r8
  ·replace H := ifn Bool.false_ne_true H
   refine GoR.op ((op_not rfl) _) rfl rfl ?_
   refine GoR.op ((op_move rfl) _) rfl rfl ?_
   refine GoR.pass rfl rfl ?_
   refine GoR.pass rfl rfl ?_
   refine GoR.pass rfl rfl ?_
   refine GoR.op ((op_pickT rfl rfl rfl) _) rfl rfl ?_
   refine GoR.nil ?_
   refine Go1.condT rfl rfl ?_
   refine Go1.seq ?_
   refine Go1.region ?_
   refine GoR.op ((op_assign rfl) _) rfl rfl ?_
   refine GoR.nil ?_
   refine Go1.ret1 Try.func32 rfl ?_
   exact ⟨(-1 : Int), rfl, hB.same, H⟩
  replace H := ifp rfl H
  refine GoR.op ((op_not rfl) _) rfl rfl ?_
  refine GoR.op ((op_move rfl) _) rfl rfl ?_
  refine GoR.op ((op_move rfl) _) rfl rfl ?_
  refine GoR.call (op_call body60 rfl (walk_trans_Valid hO.lt h_f H)) rfl rfl ?_
  rintro v42 w39 ⟨r38, rfl, HA, H⟩
  have gO := Stp.same hO HA
  replace cZ := cZ.ch gO.ch
  replace cH := cH.ch gO.ch
  replace cF := cF.ch gO.ch
  replace c5 := c5.ch gO.ch
  replace cU := cU.ch gO.ch
  replace cV := cV.ch gO.ch
  replace dm := dm.ch gO.ch
  replace dy := dy.ch gO.ch
  replace dz := dz.ch gO.ch
  replace hO := gO.own
  replace ah := ah.ch gO.ch
  replace ae := ae.ch gO.ch
  replace ad := ad.ch gO.ch
  replace ai := ai.ch gO.ch
  replace af := af.ch gO.ch
  replace ag := ag.ch gO.ch
  replace h_f := h_f.ch gO.ch
  replace hB := hB.trans gO.fr
  cases r38
  ·replace H := ifn Bool.false_ne_true H
   refine GoR.op ((op_not rfl) _) rfl rfl ?_
   refine GoR.op ((op_pickF rfl rfl rfl) _) rfl rfl ?_
   refine GoR.nil ?_
   refine Go1.condT rfl rfl ?_
   refine Go1.seq ?_
   refine Go1.cut [] trivial ?_
   intro σ _
   refine Go1.region ?_
   refine GoR.op ((op_assign rfl) _) rfl rfl ?_
   refine GoR.nil ?_
   refine Go1.ret1 Try.func32 rfl ?_
   exact ⟨(-1 : Int), rfl, hB.same, H⟩
  replace H := ifp rfl H
  refine GoR.op ((op_not rfl) _) rfl rfl ?_
  refine GoR.op ((op_pickF rfl rfl rfl) _) rfl rfl ?_
  refine GoR.nil ?_
  refine Go1.condF rfl rfl ?_
  refine Go1.skip ?_
  refine Go1.seq ?_
  refine Go1.seq ?_
  refine Go1.drawS 0 [(0, .pure), (1, .pure), (2, .pure), (3, .stable), (4, .pure), (5, .loud), (6, .stable), (7, .pure), (8, .pure), (9, .pure), (10, .pure), (11, .pure)] mixed (by kernel_rfl) ?_
  intro w44 Ce
  have mq := Stp.same hO Ce
  replace cZ := cZ.ch mq.ch
  replace cH := cH.ch mq.ch
  replace cF := cF.ch mq.ch
  replace c5 := c5.ch mq.ch
  replace cU := cU.ch mq.ch
  replace cV := cV.ch mq.ch
  replace dm := dm.ch mq.ch
  replace dy := dy.ch mq.ch
  replace dz := dz.ch mq.ch
  replace hO := mq.own
  replace ah := ah.ch mq.ch
  replace ae := ae.ch mq.ch
  replace ad := ad.ch mq.ch
  replace ai := ai.ch mq.ch
  replace af := af.ch mq.ch
  replace ag := ag.ch mq.ch
  replace h_f := h_f.ch mq.ch
  replace hB := hB.trans mq.fr
  refine GoQ.pure rfl (op_move rfl) rfl rfl ?_
  refine GoQ.pure rfl (op_nilCheck rfl) rfl rfl ?_
  refine GoQ.pure rfl (op_fieldAddr Try.underlying72 rfl ti69 rfl (by decide)) rfl rfl ?_
  refine GoQ.stable rfl (oblk (i := 9) 0 hO rfl rfl Try.underlying69 rfl rfl) rfl rfl ?_
  refine GoQ.pure rfl (op_move rfl) rfl rfl ?_
  refine GoQ.call rfl (op_call body61 rfl (walk_enumerate_text hO.lt h_f H)) (fun v w hr => by obtain ⟨_, _, hs, _, _⟩ := hr; assumption) rfl rfl ?_
  rintro v51 w48 ⟨r47, rfl, HB, HY, H⟩
  have mr := Stp.same hO HB
  replace cZ := cZ.ch mr.ch
  replace cH := cH.ch mr.ch
  replace cF := cF.ch mr.ch
  replace c5 := c5.ch mr.ch
  replace cU := cU.ch mr.ch
  replace cV := cV.ch mr.ch
  replace dm := dm.ch mr.ch
  replace dy := dy.ch mr.ch
  replace dz := dz.ch mr.ch
  replace hO := mr.own
  replace ah := ah.ch mr.ch
  replace ae := ae.ch mr.ch
  replace ad := ad.ch mr.ch
  replace ai := ai.ch mr.ch
  replace af := af.ch mr.ch
  replace ag := ag.ch mr.ch
  replace h_f := h_f.ch mr.ch
  replace hB := hB.trans mr.fr
  by_cases h53 : mhas r7.number r47 = true
  ·replace H := ifp h53 H
   refine GoQ.stable rfl (olookT (a := r47) (MK.str Try.underlying9) 10 hO rfl Try.underlying69 rfl rfl h53) rfl rfl ?_
   refine GoQ.pure rfl (op_move rfl) rfl rfl ?_
   refine GoQ.pure rfl (op_extract rfl rfl) rfl rfl ?_
   refine GoQ.pure rfl (op_extract rfl rfl) rfl rfl ?_
   refine GoQ.pure rfl (op_assign rfl) rfl rfl ?_
   refine GoQ.pure rfl (op_assign rfl) rfl rfl ?_
   refine GoQ.nil ?_
   refine Go1.seq ?_
   refine Go1.region ?_
   refine GoR.op ((op_move rfl) _) rfl rfl ?_
   refine GoR.nil ?_
   refine Go1.condT rfl rfl ?_
   refine Go1.seq ?_
   refine Go1.region ?_
   refine GoR.op ((op_move rfl) _) rfl rfl ?_
   refine GoR.op ((op_assign rfl) _) rfl rfl ?_
   refine GoR.nil ?_
   refine Go1.ret1 Try.func32 rfl ?_
   exact ⟨(mgt r7.number r47), rfl, hB.same, H⟩
  replace H := ifn h53 H
  refine GoQ.stable rfl (olookF (a := r47) (MK.str Try.underlying9) 10 hO rfl Try.underlying69 ti3 rfl rfl h53) rfl rfl ?_
  refine GoQ.pure rfl (op_move rfl) rfl rfl ?_
  refine GoQ.pure rfl (op_extract rfl rfl) rfl rfl ?_
  refine GoQ.pure rfl (op_extract rfl rfl) rfl rfl ?_
  refine GoQ.pure rfl (op_assign rfl) rfl rfl ?_
  refine GoQ.pure rfl (op_assign rfl) rfl rfl ?_
  refine GoQ.nil ?_
  refine Go1.seq ?_
  refine Go1.cut [(7, .int .i64 (0 : Int)), (8, .bool false)] ⟨rfl, rfl, trivial⟩ ?_
  intro σ _
  refine Go1.region ?_
  refine GoR.op ((op_move rfl) _) rfl rfl ?_
  refine GoR.nil ?_
  refine Go1.condF rfl rfl ?_
  refine Go1.skip ?_
  refine Go1.seq ?_
  refine Go1.region ?_
  refine GoR.op ((op_assign rfl) _) rfl rfl ?_
  refine GoR.nil ?_
  refine Go1.ret1 Try.func32 rfl ?_
  exact ⟨(-1 : Int), rfl, hB.same, H⟩
theorem body35 : Body Try.prog 35 := ⟨Try.f35, Try.func35, rfl, by kernel_rfl⟩
theorem walk_ref01_Compare {A : List Nat} {w0 : World} {u : Str} {v : Str} (hA : ∀ b ∈ A, b < w0.heap.size) (zI : u.length ≤ mx) (HC : v.length ≤ mx) {K : Int → Prop} (H : ref01_Compare u v K) :
    CallsV Try.prog 35 #[.string (gstr u), .string (gstr v)] w0 (fun v w' => ∃ (r0 : Int), v = .int .i64 r0 ∧ Same w0 w' ∧ K r0) := by
 refine CallsV.of (l := [.string (gstr u), .string (gstr v)]) Try.func35 rfl Try.ntmps35 rfl ?_
 have hO := Owns.start hA
 have hB := Fr.refl (bl []) w0
 unfold ref01_Compare at H
 refine Go1.seq ?_
 refine Go1.region ?_
 refine GoR.op ((op_assign rfl) _) rfl rfl ?_
 refine GoR.nil ?_
 refine Go1.seq ?_
 refine Go1.block ?_
 refine Go1.seq ?_
 refine Go1.region ?_
 refine GoR.op ((op_move rfl) _) rfl rfl ?_
 refine GoR.op ((op_lenS Try.underlying9 rfl) _) rfl rfl ?_
 replace H := H zI
 refine GoR.op ((op_move rfl) _) rfl rfl ?_
 refine GoR.op ((op_lenS Try.underlying9 rfl) _) rfl rfl ?_
 replace H := H HC
 by_cases h1 : (u.length : Int) < (v.length : Int)
 ·replace H := ifp h1 H
  refine GoR.op ((fun w => opB (op_lss rfl rfl w) (decide_eq_true h1)) _) rfl rfl ?_
  refine GoR.op ((op_move rfl) _) rfl rfl ?_
  refine GoR.pass rfl rfl ?_
  refine GoR.pass rfl rfl ?_
  refine GoR.pass rfl rfl ?_
  refine GoR.pass rfl rfl ?_
  refine GoR.pass rfl rfl ?_
  refine GoR.pass rfl rfl ?_
  refine GoR.pass rfl rfl ?_
  refine GoR.pass rfl rfl ?_
  refine GoR.pass rfl rfl ?_
  refine GoR.pass rfl rfl ?_
  refine GoR.op ((op_pickT rfl rfl rfl) _) rfl rfl ?_
  refine GoR.op ((op_assign rfl) _) rfl rfl ?_
  refine GoR.nil ?_
  refine Go1.condT rfl rfl ?_
  refine Go1.seq ?_
  refine Go1.cut [] trivial ?_
  intro σ _
  refine Go1.region ?_
  refine GoR.op ((op_assign rfl) _) rfl rfl ?_
  refine GoR.nil ?_
  refine Go1.ret1 Try.func35 rfl ?_
  exact ⟨(-1 : Int), rfl, hB.same, H⟩
 replace H := ifn h1 H
 refine GoR.op ((fun w => opB (op_lss rfl rfl w) (decide_eq_false h1)) _) rfl rfl ?_
 refine GoR.op ((op_move rfl) _) rfl rfl ?_
 refine GoR.op ((op_move rfl) _) rfl rfl ?_
 refine GoR.op ((op_lenS Try.underlying9 rfl) _) rfl rfl ?_
 refine GoR.op ((op_move rfl) _) rfl rfl ?_
 refine GoR.op ((op_lenS Try.underlying9 rfl) _) rfl rfl ?_
 by_cases h2 : (u.length : Int) = (v.length : Int)
 ·replace H := ifp h2 H
  refine GoR.op ((fun w => opB (op_eql rfl rfl w) (decide_eq_true h2)) _) rfl rfl ?_
  refine GoR.op ((op_move rfl) _) rfl rfl ?_
  refine GoR.op ((op_move rfl) _) rfl rfl ?_
  refine GoR.op ((op_move rfl) _) rfl rfl ?_
  by_cases h3 : slt u v = true
  ·replace H := ifp h3 H
   refine GoR.op ((fun w => opB (op_lssS rfl rfl w) h3) _) rfl rfl ?_
   refine GoR.op ((op_pickT rfl rfl rfl) _) rfl rfl ?_
   refine GoR.op ((op_pickF rfl rfl rfl) _) rfl rfl ?_
   refine GoR.op ((op_assign rfl) _) rfl rfl ?_
   refine GoR.nil ?_
   refine Go1.condT rfl rfl ?_
   refine Go1.seq ?_
   refine Go1.region ?_
   refine GoR.op ((op_assign rfl) _) rfl rfl ?_
   refine GoR.nil ?_
   refine Go1.ret1 Try.func35 rfl ?_
   exact ⟨(-1 : Int), rfl, hB.same, H⟩
  replace H := ifn h3 H
  refine GoR.op ((fun w => opB (op_lssS rfl rfl w) (Bool.eq_false_iff.2 h3)) _) rfl rfl ?_
  refine GoR.op ((op_pickT rfl rfl rfl) _) rfl rfl ?_
  refine GoR.op ((op_pickF rfl rfl rfl) _) rfl rfl ?_
  refine GoR.op ((op_assign rfl) _) rfl rfl ?_
  refine GoR.nil ?_
  refine Go1.condF rfl rfl ?_
  refine Go1.seq ?_
  refine Go1.region ?_
  refine GoR.op ((op_move rfl) _) rfl rfl ?_
  refine GoR.op ((op_move rfl) _) rfl rfl ?_
  by_cases h4 : u = v
  ·replace H := ifp h4 H
   refine GoR.op ((fun w => opB (op_eqlS rfl rfl w) (decide_eq_true h4)) _) rfl rfl ?_
   refine GoR.op ((op_assign rfl) _) rfl rfl ?_
   refine GoR.nil ?_
   refine Go1.condT rfl rfl ?_
   refine Go1.seq ?_
   refine Go1.cut [] trivial ?_
   intro σ _
   refine Go1.region ?_
   refine GoR.op ((op_assign rfl) _) rfl rfl ?_
   refine GoR.nil ?_
   refine Go1.ret1 Try.func35 rfl ?_
   exact ⟨(0 : Int), rfl, hB.same, H⟩
  replace H := ifn h4 H
  refine GoR.op ((fun w => opB (op_eqlS rfl rfl w) (decide_eq_false h4)) _) rfl rfl ?_
  refine GoR.op ((op_assign rfl) _) rfl rfl ?_
  refine GoR.nil ?_
  refine Go1.condF rfl rfl ?_
  refine Go1.skip ?_
  refine Go1.inBlock ?_
  refine Go1.seq ?_
  refine Go1.region ?_
  refine GoR.op ((op_assign rfl) _) rfl rfl ?_
  refine GoR.nil ?_
  refine Go1.ret1 Try.func35 rfl ?_
  exact ⟨(1 : Int), rfl, hB.same, H⟩
 replace H := ifn h2 H
 refine GoR.op ((fun w => opB (op_eql rfl rfl w) (decide_eq_false h2)) _) rfl rfl ?_
 refine GoR.op ((op_move rfl) _) rfl rfl ?_
 refine GoR.pass rfl rfl ?_
 refine GoR.pass rfl rfl ?_
 refine GoR.pass rfl rfl ?_
 refine GoR.op ((op_pickF rfl rfl rfl) _) rfl rfl ?_
 refine GoR.op ((op_pickF rfl rfl rfl) _) rfl rfl ?_
 refine GoR.op ((op_assign rfl) _) rfl rfl ?_
 refine GoR.nil ?_
 refine Go1.condF rfl rfl ?_
 refine Go1.seq ?_
 refine Go1.region ?_
 refine GoR.op ((op_move rfl) _) rfl rfl ?_
 refine GoR.op ((op_move rfl) _) rfl rfl ?_
 by_cases h5 : u = v
 ·replace H := ifp h5 H
  refine GoR.op ((fun w => opB (op_eqlS rfl rfl w) (decide_eq_true h5)) _) rfl rfl ?_
  refine GoR.op ((op_assign rfl) _) rfl rfl ?_
  refine GoR.nil ?_
  refine Go1.condT rfl rfl ?_
  refine Go1.seq ?_
  refine Go1.region ?_
  refine GoR.op ((op_assign rfl) _) rfl rfl ?_
  refine GoR.nil ?_
  refine Go1.ret1 Try.func35 rfl ?_
  exact ⟨(0 : Int), rfl, hB.same, H⟩
 replace H := ifn h5 H
 refine GoR.op ((fun w => opB (op_eqlS rfl rfl w) (decide_eq_false h5)) _) rfl rfl ?_
 refine GoR.op ((op_assign rfl) _) rfl rfl ?_
 refine GoR.nil ?_
 refine Go1.condF rfl rfl ?_
 refine Go1.skip ?_
 refine Go1.inBlock ?_
 refine Go1.seq ?_
 refine Go1.region ?_
 refine GoR.op ((op_assign rfl) _) rfl rfl ?_
 refine GoR.nil ?_
 refine Go1.ret1 Try.func35 rfl ?_
 exact ⟨(1 : Int), rfl, hB.same, H⟩
theorem walk_law12_EnumerateRules {A : List Nat} {w0 : World} {kh : Option Addr} {ki : Nat} {a0 : List (List Int)} {a1 : Bool} (hA : ∀ b ∈ A, b < w0.heap.size) (a8 : ISl (Rp.sl (Rp.int .i64)) A w0 kh ki a0) {K : Bool → Prop} (H : law12_EnumerateRules a0 a1 K) :
    CallsV Try.prog 9 #[.slice kh a0.length ki, .bool a1] w0 (fun v w' => ∃ (r0 : Bool), v = .bool r0 ∧ Same w0 w' ∧ K r0) := by
 refine CallsV.of (l := [.slice kh a0.length ki, .bool a1]) Try.func9 rfl Try.ntmps9 rfl ?_
 have hO := Owns.start hA
 have hB := Fr.refl (bl []) w0
 unfold law12_EnumerateRules at H
 replace a8 := a8.ch (Ch.start A w0)
 refine Go1.seq ?_
 refine Go1.region ?_
 refine GoR.op ((op_assign rfl) _) rfl rfl ?_
 refine GoR.nil ?_
 refine Go1.seq ?_
 refine Go1.seq ?_
 refine Go1.region ?_
 refine GoR.op ((op_move rfl) _) rfl rfl ?_
 refine GoR.call (op_call body15 rfl (walk_law12_little hO.lt a8 H)) rfl rfl ?_
 rintro v5 w2 ⟨r1, rfl, hs3, H⟩
 have sT := Stp.same hO hs3
 replace hO := sT.own
 replace a8 := a8.ch sT.ch
 replace hB := hB.trans sT.fr
 cases r1
 ·replace H := ifn Bool.false_ne_true H
  refine GoR.op ((op_not rfl) _) rfl rfl ?_
  refine GoR.nil ?_
  refine Go1.condT rfl rfl ?_
  refine Go1.seq ?_
  refine Go1.region ?_
  refine GoR.call (op_call body16 rfl (walk_law12_awake hO.lt H)) rfl rfl ?_
  rintro v11 w8 ⟨r7, rfl, hs9, H⟩
  have yu := Stp.same hO hs9
  replace hO := yu.own
  replace a8 := a8.ch yu.ch
  replace hB := hB.trans yu.fr
  refine GoR.op ((op_assign rfl) _) rfl rfl ?_
  refine GoR.nil ?_
  refine Go1.ret1 Try.func9 rfl ?_
  exact ⟨r7, rfl, hB.same, H⟩
 replace H := ifp rfl H
 refine GoR.op ((op_not rfl) _) rfl rfl ?_
 refine GoR.nil ?_
 refine Go1.condF rfl rfl ?_
 refine Go1.skip ?_
 refine Go1.seq ?_
 refine Go1.region ?_
 refine GoR.op ((op_move rfl) _) rfl rfl ?_
 refine GoR.op ((op_move rfl) _) rfl rfl ?_
 refine GoR.call (op_call body17 rfl (walk_enumerate_Build hO.lt a8 H)) rfl rfl ?_
 rintro v18 w15 ⟨r13, r14, cM, cN, cv, cw, cf, cg, cO, cP, cx, cy, bG, bH, rfl, HD, bi, a9, aZ, bj, ba, ar, H⟩
 have yv := Stp.same hO HD
 replace hO := yv.own
 replace a8 := a8.ch yv.ch
 replace hB := hB.trans yv.fr
 refine GoR.op ((op_move rfl) _) rfl rfl ?_
 refine GoR.op ((op_extract rfl rfl) _) rfl rfl ?_
 refine GoR.op ((op_extract rfl rfl) _) rfl rfl ?_
 have hobt := oalloc (t := 29) (cs := #[.int .i64 (0 : Int), .bool false, .slice none 0 0, .slice none 0 0, .slice none 0 0, .slice none 0 0, .slice none 0 0, .slice none 0 0, .int .i64 (0 : Int)]) ti29 hO rfl
 obtain ⟨w20, B21, ke, Cf, x7⟩ := hobt
 refine GoR.op x7 rfl rfl ?_
 replace hO := ke.own
 replace a8 := a8.ch ke.ch
 replace bi := bi.ch ke.ch
 replace a9 := a9.ch ke.ch
 replace aZ := aZ.ch ke.ch
 replace bj := bj.ch ke.ch
 replace ba := ba.ch ke.ch
 replace ar := ar.ch ke.ch
 replace hB := hB.trans ke.fr
 have hobt := oblkStAgg (us := [.int .i64 r13.Points, .bool r13.Monoid, .slice cM r13.Gens.length cN, .slice cv r13.Elems.length cw, .slice cf r13.Prefix.length cg, .slice cO r13.Last.length cP, .slice cx r13.Right.length cy, .slice bG r13.Rules.length bH, .int .i64 r13.Done]) (o := 0) (cs' := #[.int .i64 r13.Points, .bool r13.Monoid, .slice cM r13.Gens.length cN, .slice cv r13.Elems.length cw, .slice cf r13.Prefix.length cg, .slice cO r13.Last.length cP, .slice cx r13.Right.length cy, .slice bG r13.Rules.length bH, .int .i64 r13.Done]) 0 hO rfl rfl (Nat.le_of_ble_eq_true rfl) rfl
 obtain ⟨w26, sv, FM⟩ := hobt
 refine GoR.op (FM ti29 (by exact rfl) (by exact rfl) rfl) rfl rfl ?_
 replace hO := sv.own
 replace a8 := a8.ch sv.ch
 replace bi := bi.ch sv.ch
 replace a9 := a9.ch sv.ch
 replace aZ := aZ.ch sv.ch
 replace bj := bj.ch sv.ch
 replace ba := ba.ch sv.ch
 replace ar := ar.ch sv.ch
 replace hB := hB.trans sv.fr
 refine GoR.op ((op_assign rfl) _) rfl rfl ?_
 refine GoR.nil ?_
 refine Go1.seq ?_
 refine Go1.seq ?_
 refine Go1.region ?_
 refine GoR.op ((op_move rfl) _) rfl rfl ?_
 by_cases h29 : r14 = (0 : Int)
 ·replace H := ifp h29 H
  refine GoR.op ((fun w => opB (op_neq rfl rfl w) (ndT h29)) _) rfl rfl ?_
  refine GoR.nil ?_
  refine Go1.condF rfl rfl ?_
  refine Go1.skip ?_
  refine Go1.seq ?_
  refine Go1.seq ?_
  refine Go1.cut [(0, .slice kh a0.length ki), (5, .pointer (some ⟨B21, 0, none⟩))] ⟨rfl, rfl, trivial⟩ ?_
  intro σ _
  refine Go1.region ?_
  refine GoR.op ((op_fieldAddr Try.underlying29 rfl ti27 rfl (by decide)) _) rfl rfl ?_
  refine GoR.op ((oblk (i := 7) 0 hO rfl rfl Try.underlying27 rfl rfl) _ (Same.refl _)) rfl rfl ?_
  refine GoR.op ((op_len Try.underlying27 rfl) _) rfl rfl ?_
  replace H := H ar.bd
  refine GoR.op ((op_move rfl) _) rfl rfl ?_
  refine GoR.nil ?_
  refine Go1.block ?_
  refine Go1.loopW (S := Nat) (fun s σ w => agrees σ [(0, .slice kh a0.length ki), (5, .pointer (some ⟨B21, 0, none⟩)), (25, .slice bG r13.Rules.length bH), (26, .int .i64 (r13.Rules.length : Int)), (27, .int .i64 (s : Int))] ∧ Owns w0.heap.size w [.blk B21 (.cells #[.int .i64 r13.Points, .bool r13.Monoid, .slice cM r13.Gens.length cN, .slice cv r13.Elems.length cw, .slice cf r13.Prefix.length cg, .slice cO r13.Last.length cP, .slice cx r13.Right.length cy, .slice bG r13.Rules.length bH, .int .i64 r13.Done] 29 (0, 0))] A ∧ ISl (Rp.sl (Rp.int .i64)) (bl [.blk B21 (.cells #[.int .i64 r13.Points, .bool r13.Monoid, .slice cM r13.Gens.length cN, .slice cv r13.Elems.length cw, .slice cf r13.Prefix.length cg, .slice cO r13.Last.length cP, .slice cx r13.Right.length cy, .slice bG r13.Rules.length bH, .int .i64 r13.Done] 29 (0, 0))] ++ A) w kh ki a0 ∧ ISl (Rp.sl (Rp.int .i64)) (bl [.blk B21 (.cells #[.int .i64 r13.Points, .bool r13.Monoid, .slice cM r13.Gens.length cN, .slice cv r13.Elems.length cw, .slice cf r13.Prefix.length cg, .slice cO r13.Last.length cP, .slice cx r13.Right.length cy, .slice bG r13.Rules.length bH, .int .i64 r13.Done] 29 (0, 0))] ++ A) w cM cN r13.Gens ∧ ISl (Rp.sl (Rp.int .i64)) (bl [.blk B21 (.cells #[.int .i64 r13.Points, .bool r13.Monoid, .slice cM r13.Gens.length cN, .slice cv r13.Elems.length cw, .slice cf r13.Prefix.length cg, .slice cO r13.Last.length cP, .slice cx r13.Right.length cy, .slice bG r13.Rules.length bH, .int .i64 r13.Done] 29 (0, 0))] ++ A) w cv cw r13.Elems ∧ ISl (Rp.int .i64) (bl [.blk B21 (.cells #[.int .i64 r13.Points, .bool r13.Monoid, .slice cM r13.Gens.length cN, .slice cv r13.Elems.length cw, .slice cf r13.Prefix.length cg, .slice cO r13.Last.length cP, .slice cx r13.Right.length cy, .slice bG r13.Rules.length bH, .int .i64 r13.Done] 29 (0, 0))] ++ A) w cf cg r13.Prefix ∧ ISl (Rp.int .i64) (bl [.blk B21 (.cells #[.int .i64 r13.Points, .bool r13.Monoid, .slice cM r13.Gens.length cN, .slice cv r13.Elems.length cw, .slice cf r13.Prefix.length cg, .slice cO r13.Last.length cP, .slice cx r13.Right.length cy, .slice bG r13.Rules.length bH, .int .i64 r13.Done] 29 (0, 0))] ++ A) w cO cP r13.Last ∧ ISl (Rp.sl (Rp.int .i64)) (bl [.blk B21 (.cells #[.int .i64 r13.Points, .bool r13.Monoid, .slice cM r13.Gens.length cN, .slice cv r13.Elems.length cw, .slice cf r13.Prefix.length cg, .slice cO r13.Last.length cP, .slice cx r13.Right.length cy, .slice bG r13.Rules.length bH, .int .i64 r13.Done] 29 (0, 0))] ++ A) w cx cy r13.Right ∧ ISl (rpRule) (bl [.blk B21 (.cells #[.int .i64 r13.Points, .bool r13.Monoid, .slice cM r13.Gens.length cN, .slice cv r13.Elems.length cw, .slice cf r13.Prefix.length cg, .slice cO r13.Last.length cP, .slice cx r13.Right.length cy, .slice bG r13.Rules.length bH, .int .i64 r13.Done] 29 (0, 0))] ++ A) w bG bH r13.Rules ∧ Fr (bl []) w0 (bl [.blk B21 (.cells #[.int .i64 r13.Points, .bool r13.Monoid, .slice cM r13.Gens.length cN, .slice cv r13.Elems.length cw, .slice cf r13.Prefix.length cg, .slice cO r13.Last.length cP, .slice cx r13.Right.length cy, .slice bG r13.Rules.length bH, .int .i64 r13.Done] 29 (0, 0))]) w) H ⟨⟨rfl, rfl, rfl, rfl, rfl, trivial⟩, hO, a8, bi, a9, aZ, bj, ba, ar, hB⟩ ?_
  intro X1 k1_31
  intro H hX1 σ w30
  refine andE fun hag => andE fun hO => andE fun a8 => andE fun bi => andE fun a9 => andE fun aZ => andE fun bj => andE fun ba => andE fun ar => fun hB => ?_
  refine Go1.keep [(0, .slice kh a0.length ki), (5, .pointer (some ⟨B21, 0, none⟩)), (25, .slice bG r13.Rules.length bH), (26, .int .i64 (r13.Rules.length : Int)), (27, .int .i64 (k1_31 : Int))] hag ?_
  refine Go1.seq ?_
  refine Go1.region ?_
  by_cases h32 : (k1_31 : Int) < (r13.Rules.length : Int)
  ·replace H := ifp h32 H
   refine GoR.op ((fun w => opB (op_lss rfl rfl w) (decide_eq_true h32)) _) rfl rfl ?_
   refine GoR.nil ?_
   refine Go1.seq ?_
   refine Go1.condT rfl rfl ?_
   refine Go1.skip ?_
   refine Go1.seq ?_
   refine Go1.block ?_
   refine Go1.seq ?_
   refine Go1.region ?_
   refine GoR.op ((op_move rfl) _) rfl rfl ?_
   obtain ⟨h33, H⟩ := H
   obtain ⟨h34, H⟩ := H
   refine GoR.op ((op_index Try.underlying27 ti39 rfl rfl h33 h34 (ar.some_ h33 h34)) _) rfl rfl ?_
   have hok35 := ldFlatOk ar h33 h34
   refine GoR.op ((ldFlat ar h33 h34 Try.underlying39 rfl ti39 rfl) _ (Same.refl _)) rfl rfl ?_
   have hobt := oalloc (t := 39) (cs := #[.string (gstr (([] : Str))), .string (gstr (([] : Str)))]) ti39 hO rfl
   obtain ⟨w36, B37, ph, Mc, xM⟩ := hobt
   refine GoR.op xM rfl rfl ?_
   replace hO := ph.own
   replace a8 := a8.ch ph.ch
   replace bi := bi.ch ph.ch
   replace a9 := a9.ch ph.ch
   replace aZ := aZ.ch ph.ch
   replace bj := bj.ch ph.ch
   replace ba := ba.ch ph.ch
   replace ar := ar.ch ph.ch
   replace hB := hB.trans ph.fr
   refine GoR.op ((op_assign rfl) _) rfl rfl ?_
   have hobt := oblkStAgg (us := [.string (gstr ((ix r13.Rules (k1_31 : Int)).Left)), .string (gstr ((ix r13.Rules (k1_31 : Int)).Right))]) (o := 0) (cs' := #[.string (gstr ((ix r13.Rules (k1_31 : Int)).Left)), .string (gstr ((ix r13.Rules (k1_31 : Int)).Right))]) 0 hO rfl rfl (Nat.le_of_ble_eq_true rfl) rfl
   obtain ⟨w42, gO, FN⟩ := hobt
   refine GoR.op (FN ti39 (by exact rfl) (by exact rfl) rfl) rfl rfl ?_
   replace hO := gO.own
   replace a8 := a8.ch gO.ch
   replace bi := bi.ch gO.ch
   replace a9 := a9.ch gO.ch
   replace aZ := aZ.ch gO.ch
   replace bj := bj.ch gO.ch
   replace ba := ba.ch gO.ch
   replace ar := ar.ch gO.ch
   replace hB := hB.trans gO.fr
   refine GoR.nil ?_
   refine Go1.seq ?_
   refine Go1.drawS 0 [(0, .stable), (1, .pure), (2, .pure), (3, .stable), (4, .loud), (5, .loud), (6, .pure)] mixed (by kernel_rfl) ?_
   intro w45 HE
   have sw := Stp.same hO HE
   replace hO := sw.own
   replace a8 := a8.ch sw.ch
   replace bi := bi.ch sw.ch
   replace a9 := a9.ch sw.ch
   replace aZ := aZ.ch sw.ch
   replace bj := bj.ch sw.ch
   replace ba := ba.ch sw.ch
   replace ar := ar.ch sw.ch
   replace hB := hB.trans sw.fr
   refine GoQ.stable rfl (oblkAgg (vs := [.int .i64 r13.Points, .bool r13.Monoid, .slice cM r13.Gens.length cN, .slice cv r13.Elems.length cw, .slice cf r13.Prefix.length cg, .slice cO r13.Last.length cP, .slice cx r13.Right.length cy, .slice bG r13.Rules.length bH, .int .i64 r13.Done]) (i := 0) 1 hO rfl rfl Try.underlying29 rfl ti29 rfl) rfl rfl ?_
   refine GoQ.pure rfl (op_move rfl) rfl rfl ?_
   refine GoQ.pure rfl (op_fieldAddr Try.underlying39 rfl ti9 rfl (by decide)) rfl rfl ?_
   refine GoQ.stable rfl (oblk (i := 1) 0 hO rfl rfl Try.underlying9 rfl rfl) rfl rfl ?_
   refine GoQ.call rfl (op_call body33 rfl (walk_trans_OfWord hO.lt a8 hok35.2 H)) (fun v w hr => by obtain ⟨_, _, _, _, hs, _, _⟩ := hr; assumption) rfl rfl ?_
   rintro v52 w49 ⟨r48, Iy, Iz, rfl, HF, mJ, H⟩
   have sx := Stp.same hO HF
   replace hO := sx.own
   replace a8 := a8.ch sx.ch
   replace bi := bi.ch sx.ch
   replace a9 := a9.ch sx.ch
   replace aZ := aZ.ch sx.ch
   replace bj := bj.ch sx.ch
   replace ba := ba.ch sx.ch
   replace ar := ar.ch sx.ch
   replace hB := hB.trans sx.fr
   refine GoQ.call rfl (op_call body32 rfl (walk_enumerate_Find (e := r13) hO.lt bi a9 aZ bj ba ar mJ H)) (fun v w hr => by obtain ⟨_, _, hs, _⟩ := hr; assumption) rfl rfl ?_
   rintro v58 w55 ⟨r54, rfl, HG, H⟩
   have rR := Stp.same hO HG
   replace hO := rR.own
   replace a8 := a8.ch rR.ch
   replace bi := bi.ch rR.ch
   replace a9 := a9.ch rR.ch
   replace aZ := aZ.ch rR.ch
   replace bj := bj.ch rR.ch
   replace ba := ba.ch rR.ch
   replace ar := ar.ch rR.ch
   replace mJ := mJ.ch rR.ch
   replace hB := hB.trans rR.fr
   refine GoQ.pure rfl (op_assign rfl) rfl rfl ?_
   refine GoQ.nil ?_
   refine Go1.seq ?_
   refine Go1.seq ?_
   refine Go1.drawS 0 [(0, .pure), (1, .pure), (2, .pure), (3, .stable), (4, .pure), (6, .pure), (7, .stable), (5, .loud), (8, .pure), (9, .pure), (10, .pure), (11, .pure), (12, .pure), (13, .stable), (15, .pure), (16, .pure), (17, .stable), (14, .loud), (18, .loud), (19, .loud), (20, .pure), (21, .pure), (22, .pure), (23, .pure), (24, .stable), (25, .pure), (26, .stable), (27, .loud), (28, .pure), (29, .pure), (30, .pure), (31, .pure), (32, .pure), (33, .pure), (34, .pure), (35, .stable), (36, .pure), (37, .pure), (38, .pure), (39, .pure), (40, .stable), (41, .pure), (42, .stable), (43, .loud), (44, .pure), (45, .pure), (46, .pure)] mixed (by kernel_rfl) ?_
   intro w60 HH
   have rS := Stp.same hO HH
   replace hO := rS.own
   replace a8 := a8.ch rS.ch
   replace bi := bi.ch rS.ch
   replace a9 := a9.ch rS.ch
   replace aZ := aZ.ch rS.ch
   replace bj := bj.ch rS.ch
   replace ba := ba.ch rS.ch
   replace ar := ar.ch rS.ch
   replace mJ := mJ.ch rS.ch
   replace hB := hB.trans rS.fr
   refine GoQ.pure rfl (op_move rfl) rfl rfl ?_
   by_cases h63 : r54 < (0 : Int)
   ·replace H := ifp h63 H
    refine GoQ.pure rfl (fun w => opB (op_lss rfl rfl w) (decide_eq_true h63)) rfl rfl ?_
    refine GoQ.pure rfl (op_move rfl) rfl rfl ?_
    refine GoQ.pass rfl rfl rfl ?_
    refine GoQ.pass rfl rfl rfl ?_
    refine GoQ.pass rfl rfl rfl ?_
    refine GoQ.pass rfl rfl rfl ?_
    refine GoQ.pass rfl rfl rfl ?_
    refine GoQ.pass rfl rfl rfl ?_
    refine GoQ.pure rfl (op_pickT rfl rfl rfl) rfl rfl ?_
    refine GoQ.pure rfl (op_move rfl) rfl rfl ?_
    refine GoQ.pass rfl rfl rfl ?_
    refine GoQ.pass rfl rfl rfl ?_
    refine GoQ.pass rfl rfl rfl ?_
    refine GoQ.pass rfl rfl rfl ?_
    refine GoQ.pass rfl rfl rfl ?_
    refine GoQ.pass rfl rfl rfl ?_
    refine GoQ.pass rfl rfl rfl ?_
    refine GoQ.pass rfl rfl rfl ?_
    refine GoQ.pass rfl rfl rfl ?_
    refine GoQ.pass rfl rfl rfl ?_
    refine GoQ.pure rfl (op_pickT rfl rfl rfl) rfl rfl ?_
    refine GoQ.pure rfl (op_move rfl) rfl rfl ?_
    refine GoQ.pass rfl rfl rfl ?_
    refine GoQ.pass rfl rfl rfl ?_
    refine GoQ.pass rfl rfl rfl ?_
    refine GoQ.pass rfl rfl rfl ?_
    refine GoQ.pass rfl rfl rfl ?_
    refine GoQ.pass rfl rfl rfl ?_
    refine GoQ.pure rfl (op_pickT rfl rfl rfl) rfl rfl ?_
    refine GoQ.pure rfl (op_move rfl) rfl rfl ?_
    refine GoQ.pass rfl rfl rfl ?_
    refine GoQ.pass rfl rfl rfl ?_
    refine GoQ.pass rfl rfl rfl ?_
    refine GoQ.pass rfl rfl rfl ?_
    refine GoQ.pass rfl rfl rfl ?_
    refine GoQ.pass rfl rfl rfl ?_
    refine GoQ.pass rfl rfl rfl ?_
    refine GoQ.pass rfl rfl rfl ?_
    refine GoQ.pass rfl rfl rfl ?_
    refine GoQ.pass rfl rfl rfl ?_
    refine GoQ.pass rfl rfl rfl ?_
    refine GoQ.pass rfl rfl rfl ?_
    refine GoQ.pass rfl rfl rfl ?_
    refine GoQ.pass rfl rfl rfl ?_
    refine GoQ.pass rfl rfl rfl ?_
    refine GoQ.pure rfl (op_pickT rfl rfl rfl) rfl rfl ?_
    refine GoQ.nil ?_
    refine Go1.condT rfl rfl ?_
    refine Go1.seq ?_
    refine Go1.cut [] trivial ?_
    intro σ _
    refine Go1.region ?_
    refine GoR.op ((op_assign rfl) _) rfl rfl ?_
    refine GoR.nil ?_
    refine Go1.ret1 Try.func9 rfl ?_
    exact ⟨false, rfl, hB.same, H⟩
   replace H := ifn h63 H
   refine GoQ.pure rfl (fun w => opB (op_lss rfl rfl w) (decide_eq_false h63)) rfl rfl ?_
   refine GoQ.pure rfl (op_move rfl) rfl rfl ?_
   refine GoQ.stable rfl (oblkAgg (vs := [.int .i64 r13.Points, .bool r13.Monoid, .slice cM r13.Gens.length cN, .slice cv r13.Elems.length cw, .slice cf r13.Prefix.length cg, .slice cO r13.Last.length cP, .slice cx r13.Right.length cy, .slice bG r13.Rules.length bH, .int .i64 r13.Done]) (i := 0) 1 hO rfl rfl Try.underlying29 rfl ti29 rfl) rfl rfl ?_
   refine GoQ.pure rfl (op_move rfl) rfl rfl ?_
   refine GoQ.pure rfl (op_fieldAddr Try.underlying39 rfl ti9 rfl (by decide)) rfl rfl ?_
   refine GoQ.stable rfl (oblk (i := 1) 0 hO rfl rfl Try.underlying9 rfl rfl) rfl rfl ?_
   refine GoQ.call rfl (op_call body29 rfl (walk_enumerate_Word (e := r13) hO.lt bi a9 aZ bj ba ar H)) (fun v w hr => by obtain ⟨_, _, hs, _, _⟩ := hr; assumption) rfl rfl ?_
   rintro v68 w65 ⟨r64, rfl, HI, HZ, H⟩
   have rT := Stp.same hO HI
   replace hO := rT.own
   replace a8 := a8.ch rT.ch
   replace bi := bi.ch rT.ch
   replace a9 := a9.ch rT.ch
   replace aZ := aZ.ch rT.ch
   replace bj := bj.ch rT.ch
   replace ba := ba.ch rT.ch
   replace ar := ar.ch rT.ch
   replace mJ := mJ.ch rT.ch
   replace hB := hB.trans rT.fr
   by_cases h70 : r64 = ((ix r13.Rules (k1_31 : Int)).Right)
   ·replace H := ifp h70 H
    refine GoQ.pure rfl (fun w => opB (op_neqS rfl rfl w) (ndT h70)) rfl rfl ?_
    refine GoQ.pure rfl (op_pickF rfl rfl rfl) rfl rfl ?_
    refine GoQ.pure rfl (op_move rfl) rfl rfl ?_
    refine GoQ.pure rfl (op_move rfl) rfl rfl ?_
    refine GoQ.pure rfl (op_fieldAddr Try.underlying39 rfl ti9 rfl (by decide)) rfl rfl ?_
    refine GoQ.stable rfl (oblk (i := 0) 0 hO rfl rfl Try.underlying9 rfl rfl) rfl rfl ?_
    refine GoQ.pure rfl (op_move rfl) rfl rfl ?_
    refine GoQ.pure rfl (op_fieldAddr Try.underlying39 rfl ti9 rfl (by decide)) rfl rfl ?_
    refine GoQ.stable rfl (oblk (i := 1) 0 hO rfl rfl Try.underlying9 rfl rfl) rfl rfl ?_
    refine GoQ.call rfl (op_call body33 rfl (walk_trans_OfWord hO.lt a8 hok35.1 H)) (fun v w hr => by obtain ⟨_, _, _, _, hs, _, _⟩ := hr; assumption) rfl rfl ?_
    rintro v75 w72 ⟨r71, IA, IB, rfl, yT, sy, H⟩
    have rU := Stp.same hO yT
    replace hO := rU.own
    replace a8 := a8.ch rU.ch
    replace bi := bi.ch rU.ch
    replace a9 := a9.ch rU.ch
    replace aZ := aZ.ch rU.ch
    replace bj := bj.ch rU.ch
    replace ba := ba.ch rU.ch
    replace ar := ar.ch rU.ch
    replace mJ := mJ.ch rU.ch
    replace hB := hB.trans rU.fr
    refine GoQ.call rfl (op_call body33 rfl (walk_trans_OfWord hO.lt a8 hok35.2 H)) (fun v w hr => by obtain ⟨_, _, _, _, hs, _, _⟩ := hr; assumption) rfl rfl ?_
    rintro v81 w78 ⟨r77, IC, ID, rfl, HJ, tL, H⟩
    have rf := Stp.same hO HJ
    replace hO := rf.own
    replace a8 := a8.ch rf.ch
    replace bi := bi.ch rf.ch
    replace a9 := a9.ch rf.ch
    replace aZ := aZ.ch rf.ch
    replace bj := bj.ch rf.ch
    replace ba := ba.ch rf.ch
    replace ar := ar.ch rf.ch
    replace mJ := mJ.ch rf.ch
    replace sy := sy.ch rf.ch
    replace hB := hB.trans rf.fr
    refine GoQ.call rfl (op_call body34 rfl (walk_ref03_Same hO.lt sy tL H)) (fun v w hr => by obtain ⟨_, _, hs, _⟩ := hr; assumption) rfl rfl ?_
    rintro v87 w84 ⟨r83, rfl, HK, H⟩
    have qx := Stp.same hO HK
    replace hO := qx.own
    replace a8 := a8.ch qx.ch
    replace bi := bi.ch qx.ch
    replace a9 := a9.ch qx.ch
    replace aZ := aZ.ch qx.ch
    replace bj := bj.ch qx.ch
    replace ba := ba.ch qx.ch
    replace ar := ar.ch qx.ch
    replace mJ := mJ.ch qx.ch
    replace sy := sy.ch qx.ch
    replace tL := tL.ch qx.ch
    replace hB := hB.trans qx.fr
    cases r83
    ·replace H := ifn Bool.false_ne_true H
     refine GoQ.pure rfl (op_not rfl) rfl rfl ?_
     refine GoQ.pure rfl (op_pickF rfl rfl rfl) rfl rfl ?_
     refine GoQ.pure rfl (op_move rfl) rfl rfl ?_
     refine GoQ.pass rfl rfl rfl ?_
     refine GoQ.pass rfl rfl rfl ?_
     refine GoQ.pass rfl rfl rfl ?_
     refine GoQ.pass rfl rfl rfl ?_
     refine GoQ.pass rfl rfl rfl ?_
     refine GoQ.pass rfl rfl rfl ?_
     refine GoQ.pure rfl (op_pickT rfl rfl rfl) rfl rfl ?_
     refine GoQ.pure rfl (op_move rfl) rfl rfl ?_
     refine GoQ.pass rfl rfl rfl ?_
     refine GoQ.pass rfl rfl rfl ?_
     refine GoQ.pass rfl rfl rfl ?_
     refine GoQ.pass rfl rfl rfl ?_
     refine GoQ.pass rfl rfl rfl ?_
     refine GoQ.pass rfl rfl rfl ?_
     refine GoQ.pass rfl rfl rfl ?_
     refine GoQ.pass rfl rfl rfl ?_
     refine GoQ.pass rfl rfl rfl ?_
     refine GoQ.pass rfl rfl rfl ?_
     refine GoQ.pass rfl rfl rfl ?_
     refine GoQ.pass rfl rfl rfl ?_
     refine GoQ.pass rfl rfl rfl ?_
     refine GoQ.pass rfl rfl rfl ?_
     refine GoQ.pass rfl rfl rfl ?_
     refine GoQ.pure rfl (op_pickT rfl rfl rfl) rfl rfl ?_
     refine GoQ.nil ?_
     refine Go1.condT rfl rfl ?_
     refine Go1.seq ?_
     refine Go1.cut [] trivial ?_
     intro σ _
     refine Go1.region ?_
     refine GoR.op ((op_assign rfl) _) rfl rfl ?_
     refine GoR.nil ?_
     refine Go1.ret1 Try.func9 rfl ?_
     exact ⟨false, rfl, hB.same, H⟩
    replace H := ifp rfl H
    refine GoQ.pure rfl (op_not rfl) rfl rfl ?_
    refine GoQ.pure rfl (op_pickF rfl rfl rfl) rfl rfl ?_
    refine GoQ.pure rfl (op_move rfl) rfl rfl ?_
    refine GoQ.pure rfl (op_fieldAddr Try.underlying39 rfl ti9 rfl (by decide)) rfl rfl ?_
    refine GoQ.stable rfl (oblk (i := 0) 0 hO rfl rfl Try.underlying9 rfl rfl) rfl rfl ?_
    refine GoQ.pure rfl (op_fieldAddr Try.underlying39 rfl ti9 rfl (by decide)) rfl rfl ?_
    refine GoQ.stable rfl (oblk (i := 1) 0 hO rfl rfl Try.underlying9 rfl rfl) rfl rfl ?_
    refine GoQ.call rfl (op_call body35 rfl (walk_ref01_Compare hO.lt hok35.1 hok35.2 H)) (fun v w hr => by obtain ⟨_, _, hs, _⟩ := hr; assumption) rfl rfl ?_
    rintro v93 w90 ⟨r89, rfl, HL, H⟩
    have qy := Stp.same hO HL
    replace hO := qy.own
    replace a8 := a8.ch qy.ch
    replace bi := bi.ch qy.ch
    replace a9 := a9.ch qy.ch
    replace aZ := aZ.ch qy.ch
    replace bj := bj.ch qy.ch
    replace ba := ba.ch qy.ch
    replace ar := ar.ch qy.ch
    replace mJ := mJ.ch qy.ch
    replace sy := sy.ch qy.ch
    replace tL := tL.ch qy.ch
    replace hB := hB.trans qy.fr
    by_cases h95 : r89 ≤ (0 : Int)
    ·replace H := ifp h95 H
     refine GoQ.pure rfl (fun w => opB (op_leq rfl rfl w) (decide_eq_true h95)) rfl rfl ?_
     refine GoQ.pure rfl (op_pickF rfl rfl rfl) rfl rfl ?_
     refine GoQ.pure rfl (op_move rfl) rfl rfl ?_
     refine GoQ.pass rfl rfl rfl ?_
     refine GoQ.pass rfl rfl rfl ?_
     refine GoQ.pass rfl rfl rfl ?_
     refine GoQ.pass rfl rfl rfl ?_
     refine GoQ.pass rfl rfl rfl ?_
     refine GoQ.pass rfl rfl rfl ?_
     refine GoQ.pass rfl rfl rfl ?_
     refine GoQ.pass rfl rfl rfl ?_
     refine GoQ.pass rfl rfl rfl ?_
     refine GoQ.pass rfl rfl rfl ?_
     refine GoQ.pass rfl rfl rfl ?_
     refine GoQ.pass rfl rfl rfl ?_
     refine GoQ.pass rfl rfl rfl ?_
     refine GoQ.pass rfl rfl rfl ?_
     refine GoQ.pass rfl rfl rfl ?_
     refine GoQ.pure rfl (op_pickT rfl rfl rfl) rfl rfl ?_
     refine GoQ.nil ?_
     refine Go1.condT rfl rfl ?_
     refine Go1.seq ?_
     refine Go1.cut [] trivial ?_
     intro σ _
     refine Go1.region ?_
     refine GoR.op ((op_assign rfl) _) rfl rfl ?_
     refine GoR.nil ?_
     refine Go1.ret1 Try.func9 rfl ?_
     exact ⟨false, rfl, hB.same, H⟩
    replace H := ifn h95 H
    refine GoQ.pure rfl (fun w => opB (op_leq rfl rfl w) (decide_eq_false h95)) rfl rfl ?_
    refine GoQ.pure rfl (op_pickF rfl rfl rfl) rfl rfl ?_
    refine GoQ.pure rfl (op_move rfl) rfl rfl ?_
    refine GoQ.pure rfl (op_move rfl) rfl rfl ?_
    by_cases h96 : (0 : Int) < (k1_31 : Int)
    ·replace H := ifp h96 H
     refine GoQ.pure rfl (fun w => opB (op_gtr rfl rfl w) (decide_eq_true h96)) rfl rfl ?_
     refine GoQ.pure rfl (op_move rfl) rfl rfl ?_
     refine GoQ.pure rfl (op_fieldAddr Try.underlying29 rfl ti27 rfl (by decide)) rfl rfl ?_
     refine GoQ.stable rfl (oblk (i := 7) 1 hO rfl rfl Try.underlying27 rfl rfl) rfl rfl ?_
     refine GoQ.pure rfl (op_move rfl) rfl rfl ?_
     obtain ⟨h97, H⟩ := H
     refine GoQ.pure rfl (op_sub rfl rfl (wrap_i64 h97)) rfl rfl ?_
     obtain ⟨h98, H⟩ := H
     obtain ⟨h99, H⟩ := H
     refine GoQ.pure rfl (op_index Try.underlying27 ti39 rfl rfl h98 h99 (ar.some_ h98 h99)) rfl rfl ?_
     refine GoQ.pure rfl (op_fieldAddrE Try.underlying39 rfl ti9 rfl (ISl.spot ar h98 h99) (by decide)) rfl rfl ?_
     have hok100 := ldFlatOk ar h98 h99
     refine GoQ.stable rfl (ldFld ar h98 h99 (o := 0) (v := .string (gstr ((ix r13.Rules ((k1_31 : Int) - (1 : Int))).Left))) rfl Try.underlying9 rfl rfl) rfl rfl ?_
     refine GoQ.pure rfl (op_fieldAddr Try.underlying39 rfl ti9 rfl (by decide)) rfl rfl ?_
     refine GoQ.stable rfl (oblk (i := 0) 0 hO rfl rfl Try.underlying9 rfl rfl) rfl rfl ?_
     refine GoQ.call rfl (op_call body35 rfl (walk_ref01_Compare hO.lt hok100.1 hok35.1 H)) (fun v w hr => by obtain ⟨_, _, hs, _⟩ := hr; assumption) rfl rfl ?_
     rintro Me Mf ⟨r101, rfl, FO, H⟩
     have oS := Stp.same hO FO
     replace hO := oS.own
     replace a8 := a8.ch oS.ch
     replace bi := bi.ch oS.ch
     replace a9 := a9.ch oS.ch
     replace aZ := aZ.ch oS.ch
     replace bj := bj.ch oS.ch
     replace ba := ba.ch oS.ch
     replace ar := ar.ch oS.ch
     replace mJ := mJ.ch oS.ch
     replace sy := sy.ch oS.ch
     replace tL := tL.ch oS.ch
     replace hB := hB.trans oS.fr
     by_cases tZ : (0 : Int) ≤ r101
     ·replace H := ifp tZ H
      refine GoQ.pure rfl (fun w => opB (op_geq rfl rfl w) (decide_eq_true tZ)) rfl rfl ?_
      refine GoQ.pure rfl (op_pickT rfl rfl rfl) rfl rfl ?_
      refine GoQ.pure rfl (op_pickF rfl rfl rfl) rfl rfl ?_
      refine GoQ.nil ?_
      refine Go1.condT rfl rfl ?_
      refine Go1.seq ?_
      refine Go1.cut [] trivial ?_
      intro σ _
      refine Go1.region ?_
      refine GoR.op ((op_assign rfl) _) rfl rfl ?_
      refine GoR.nil ?_
      refine Go1.ret1 Try.func9 rfl ?_
      exact ⟨false, rfl, hB.same, H⟩
     replace H := ifn tZ H
     refine GoQ.pure rfl (fun w => opB (op_geq rfl rfl w) (decide_eq_false tZ)) rfl rfl ?_
     refine GoQ.pure rfl (op_pickT rfl rfl rfl) rfl rfl ?_
     refine GoQ.pure rfl (op_pickF rfl rfl rfl) rfl rfl ?_
     refine GoQ.nil ?_
     refine Go1.condF rfl rfl ?_
     refine Go1.skip ?_
     refine Go1.seq ?_
     refine Go1.region ?_
     refine GoR.op ((op_fieldAddr Try.underlying29 rfl ti27 rfl (by decide)) _) rfl rfl ?_
     refine GoR.op ((oblk (i := 7) 1 hO rfl rfl Try.underlying27 rfl rfl) _ (Same.refl _)) rfl rfl ?_
     refine GoR.op ((op_len Try.underlying27 rfl) _) rfl rfl ?_
     refine GoR.op ((op_move rfl) _) rfl rfl ?_
     refine GoR.nil ?_
     refine Go1.block ?_
     refine Go1.loopW (S := Nat) (fun s σ w => agrees σ [(0, .slice kh a0.length ki), (5, .pointer (some ⟨B21, 0, none⟩)), (8, .pointer (some ⟨B37, 0, none⟩)), (25, .slice bG r13.Rules.length bH), (26, .int .i64 (r13.Rules.length : Int)), (27, .int .i64 (k1_31 : Int)), (86, .slice bG r13.Rules.length bH), (87, .int .i64 (r13.Rules.length : Int)), (88, .int .i64 (s : Int))] ∧ Owns w0.heap.size w [.blk B37 (.cells #[.string (gstr ((ix r13.Rules (k1_31 : Int)).Left)), .string (gstr ((ix r13.Rules (k1_31 : Int)).Right))] 39 (0, 0)), .blk B21 (.cells #[.int .i64 r13.Points, .bool r13.Monoid, .slice cM r13.Gens.length cN, .slice cv r13.Elems.length cw, .slice cf r13.Prefix.length cg, .slice cO r13.Last.length cP, .slice cx r13.Right.length cy, .slice bG r13.Rules.length bH, .int .i64 r13.Done] 29 (0, 0))] A ∧ ISl (Rp.sl (Rp.int .i64)) (bl [.blk B37 (.cells #[.string (gstr ((ix r13.Rules (k1_31 : Int)).Left)), .string (gstr ((ix r13.Rules (k1_31 : Int)).Right))] 39 (0, 0)), .blk B21 (.cells #[.int .i64 r13.Points, .bool r13.Monoid, .slice cM r13.Gens.length cN, .slice cv r13.Elems.length cw, .slice cf r13.Prefix.length cg, .slice cO r13.Last.length cP, .slice cx r13.Right.length cy, .slice bG r13.Rules.length bH, .int .i64 r13.Done] 29 (0, 0))] ++ A) w kh ki a0 ∧ ISl (Rp.sl (Rp.int .i64)) (bl [.blk B37 (.cells #[.string (gstr ((ix r13.Rules (k1_31 : Int)).Left)), .string (gstr ((ix r13.Rules (k1_31 : Int)).Right))] 39 (0, 0)), .blk B21 (.cells #[.int .i64 r13.Points, .bool r13.Monoid, .slice cM r13.Gens.length cN, .slice cv r13.Elems.length cw, .slice cf r13.Prefix.length cg, .slice cO r13.Last.length cP, .slice cx r13.Right.length cy, .slice bG r13.Rules.length bH, .int .i64 r13.Done] 29 (0, 0))] ++ A) w cM cN r13.Gens ∧ ISl (Rp.sl (Rp.int .i64)) (bl [.blk B37 (.cells #[.string (gstr ((ix r13.Rules (k1_31 : Int)).Left)), .string (gstr ((ix r13.Rules (k1_31 : Int)).Right))] 39 (0, 0)), .blk B21 (.cells #[.int .i64 r13.Points, .bool r13.Monoid, .slice cM r13.Gens.length cN, .slice cv r13.Elems.length cw, .slice cf r13.Prefix.length cg, .slice cO r13.Last.length cP, .slice cx r13.Right.length cy, .slice bG r13.Rules.length bH, .int .i64 r13.Done] 29 (0, 0))] ++ A) w cv cw r13.Elems ∧ ISl (Rp.int .i64) (bl [.blk B37 (.cells #[.string (gstr ((ix r13.Rules (k1_31 : Int)).Left)), .string (gstr ((ix r13.Rules (k1_31 : Int)).Right))] 39 (0, 0)), .blk B21 (.cells #[.int .i64 r13.Points, .bool r13.Monoid, .slice cM r13.Gens.length cN, .slice cv r13.Elems.length cw, .slice cf r13.Prefix.length cg, .slice cO r13.Last.length cP, .slice cx r13.Right.length cy, .slice bG r13.Rules.length bH, .int .i64 r13.Done] 29 (0, 0))] ++ A) w cf cg r13.Prefix ∧ ISl (Rp.int .i64) (bl [.blk B37 (.cells #[.string (gstr ((ix r13.Rules (k1_31 : Int)).Left)), .string (gstr ((ix r13.Rules (k1_31 : Int)).Right))] 39 (0, 0)), .blk B21 (.cells #[.int .i64 r13.Points, .bool r13.Monoid, .slice cM r13.Gens.length cN, .slice cv r13.Elems.length cw, .slice cf r13.Prefix.length cg, .slice cO r13.Last.length cP, .slice cx r13.Right.length cy, .slice bG r13.Rules.length bH, .int .i64 r13.Done] 29 (0, 0))] ++ A) w cO cP r13.Last ∧ ISl (Rp.sl (Rp.int .i64)) (bl [.blk B37 (.cells #[.string (gstr ((ix r13.Rules (k1_31 : Int)).Left)), .string (gstr ((ix r13.Rules (k1_31 : Int)).Right))] 39 (0, 0)), .blk B21 (.cells #[.int .i64 r13.Points, .bool r13.Monoid, .slice cM r13.Gens.length cN, .slice cv r13.Elems.length cw, .slice cf r13.Prefix.length cg, .slice cO r13.Last.length cP, .slice cx r13.Right.length cy, .slice bG r13.Rules.length bH, .int .i64 r13.Done] 29 (0, 0))] ++ A) w cx cy r13.Right ∧ ISl (rpRule) (bl [.blk B37 (.cells #[.string (gstr ((ix r13.Rules (k1_31 : Int)).Left)), .string (gstr ((ix r13.Rules (k1_31 : Int)).Right))] 39 (0, 0)), .blk B21 (.cells #[.int .i64 r13.Points, .bool r13.Monoid, .slice cM r13.Gens.length cN, .slice cv r13.Elems.length cw, .slice cf r13.Prefix.length cg, .slice cO r13.Last.length cP, .slice cx r13.Right.length cy, .slice bG r13.Rules.length bH, .int .i64 r13.Done] 29 (0, 0))] ++ A) w bG bH r13.Rules ∧ Fr (bl []) w0 (bl [.blk B37 (.cells #[.string (gstr ((ix r13.Rules (k1_31 : Int)).Left)), .string (gstr ((ix r13.Rules (k1_31 : Int)).Right))] 39 (0, 0)), .blk B21 (.cells #[.int .i64 r13.Points, .bool r13.Monoid, .slice cM r13.Gens.length cN, .slice cv r13.Elems.length cw, .slice cf r13.Prefix.length cg, .slice cO r13.Last.length cP, .slice cx r13.Right.length cy, .slice bG r13.Rules.length bH, .int .i64 r13.Done] 29 (0, 0))]) w) H ⟨⟨rfl, rfl, rfl, rfl, rfl, rfl, rfl, rfl, rfl, trivial⟩, hO, a8, bi, a9, aZ, bj, ba, ar, hB⟩ ?_
     intro X2 k2_109
     intro H hX2 σ Mg
     refine andE fun hag => andE fun hO => andE fun a8 => andE fun bi => andE fun a9 => andE fun aZ => andE fun bj => andE fun ba => andE fun ar => fun hB => ?_
     refine Go1.keep [(0, .slice kh a0.length ki), (5, .pointer (some ⟨B21, 0, none⟩)), (8, .pointer (some ⟨B37, 0, none⟩)), (25, .slice bG r13.Rules.length bH), (26, .int .i64 (r13.Rules.length : Int)), (27, .int .i64 (k1_31 : Int)), (86, .slice bG r13.Rules.length bH), (87, .int .i64 (r13.Rules.length : Int)), (88, .int .i64 (k2_109 : Int))] hag ?_
     refine Go1.seq ?_
     refine Go1.region ?_
     by_cases sX : (k2_109 : Int) < (r13.Rules.length : Int)
     ·replace H := ifp sX H
      refine GoR.op ((fun w => opB (op_lss rfl rfl w) (decide_eq_true sX)) _) rfl rfl ?_
      refine GoR.nil ?_
      refine Go1.seq ?_
      refine Go1.condT rfl rfl ?_
      refine Go1.skip ?_
      refine Go1.seq ?_
      refine Go1.block ?_
      refine Go1.seq ?_
      refine Go1.region ?_
      obtain ⟨t0, H⟩ := H
      obtain ⟨tA, H⟩ := H
      refine GoR.op ((op_index Try.underlying27 ti39 rfl rfl t0 tA (ar.some_ t0 tA)) _) rfl rfl ?_
      have hok113 := ldFlatOk ar t0 tA
      refine GoR.op ((ldFlat ar t0 tA Try.underlying39 rfl ti39 rfl) _ (Same.refl _)) rfl rfl ?_
      have hobt := oalloc (t := 39) (cs := #[.string (gstr (([] : Str))), .string (gstr (([] : Str)))]) ti39 hO rfl
      obtain ⟨Mh, B115, rg, IE, Cg⟩ := hobt
      refine GoR.op Cg rfl rfl ?_
      replace hO := rg.own
      replace a8 := a8.ch rg.ch
      replace bi := bi.ch rg.ch
      replace a9 := a9.ch rg.ch
      replace aZ := aZ.ch rg.ch
      replace bj := bj.ch rg.ch
      replace ba := ba.ch rg.ch
      replace ar := ar.ch rg.ch
      replace hB := hB.trans rg.fr
      have hobt := oblkStAgg (us := [.string (gstr ((ix r13.Rules (k2_109 : Int)).Left)), .string (gstr ((ix r13.Rules (k2_109 : Int)).Right))]) (o := 0) (cs' := #[.string (gstr ((ix r13.Rules (k2_109 : Int)).Left)), .string (gstr ((ix r13.Rules (k2_109 : Int)).Right))]) 0 hO rfl rfl (Nat.le_of_ble_eq_true rfl) rfl
      obtain ⟨Mi, gD, wU⟩ := hobt
      refine GoR.op (wU ti39 (by exact rfl) (by exact rfl) rfl) rfl rfl ?_
      replace hO := gD.own
      replace a8 := a8.ch gD.ch
      replace bi := bi.ch gD.ch
      replace a9 := a9.ch gD.ch
      replace aZ := aZ.ch gD.ch
      replace bj := bj.ch gD.ch
      replace ba := ba.ch gD.ch
      replace ar := ar.ch gD.ch
      replace hB := hB.trans gD.fr
      refine GoR.nil ?_
      refine Go1.seq ?_
      refine Go1.region ?_
      refine GoR.op ((op_fieldAddr Try.underlying39 rfl ti9 rfl (by decide)) _) rfl rfl ?_
      refine GoR.op ((oblk (i := 0) 0 hO rfl rfl Try.underlying9 rfl rfl) _ (Same.refl _)) rfl rfl ?_
      refine GoR.op ((op_lenS Try.underlying9 rfl) _) rfl rfl ?_
      replace H := H hok113.1
      refine GoR.op ((op_fieldAddr Try.underlying39 rfl ti9 rfl (by decide)) _) rfl rfl ?_
      refine GoR.op ((oblk (i := 0) 1 hO rfl rfl Try.underlying9 rfl rfl) _ (Same.refl _)) rfl rfl ?_
      refine GoR.op ((op_lenS Try.underlying9 rfl) _) rfl rfl ?_
      replace H := H hok35.1
      by_cases yw : (((ix r13.Rules (k2_109 : Int)).Left).length : Int) < (((ix r13.Rules (k1_31 : Int)).Left).length : Int)
      ·replace H := ifp yw H
       refine GoR.op ((fun w => opB (op_lss rfl rfl w) (decide_eq_true yw)) _) rfl rfl ?_
       refine GoR.op ((op_move rfl) _) rfl rfl ?_
       refine GoR.op ((op_fieldAddr Try.underlying39 rfl ti9 rfl (by decide)) _) rfl rfl ?_
       refine GoR.op ((oblk (i := 0) 0 hO rfl rfl Try.underlying9 rfl rfl) _ (Same.refl _)) rfl rfl ?_
       refine GoR.op ((op_fieldAddr Try.underlying39 rfl ti9 rfl (by decide)) _) rfl rfl ?_
       refine GoR.op ((oblk (i := 0) 1 hO rfl rfl Try.underlying9 rfl rfl) _ (Same.refl _)) rfl rfl ?_
       refine GoR.call (op_call body28 rfl (walk_ref01_IsFactor hO.lt hok113.1 hok35.1 H)) rfl rfl ?_
       rintro Mj Mk ⟨r124, rfl, FP, H⟩
       have rh := Stp.same hO FP
       replace hO := rh.own
       replace a8 := a8.ch rh.ch
       replace bi := bi.ch rh.ch
       replace a9 := a9.ch rh.ch
       replace aZ := aZ.ch rh.ch
       replace bj := bj.ch rh.ch
       replace ba := ba.ch rh.ch
       replace ar := ar.ch rh.ch
       replace hB := hB.trans rh.fr
       refine GoR.op ((op_pickT rfl rfl rfl) _) rfl rfl ?_
       refine GoR.nil ?_
       cases r124
       ·replace H := ifn Bool.false_ne_true H
        refine Go1.condF rfl rfl ?_
        refine Go1.skip ?_
        refine Go1.inBlock ?_
        refine Go1.cut [(0, .slice kh a0.length ki), (5, .pointer (some ⟨B21, 0, none⟩)), (8, .pointer (some ⟨B37, 0, none⟩)), (25, .slice bG r13.Rules.length bH), (26, .int .i64 (r13.Rules.length : Int)), (27, .int .i64 (k1_31 : Int)), (86, .slice bG r13.Rules.length bH), (87, .int .i64 (r13.Rules.length : Int)), (88, .int .i64 (k2_109 : Int))] ⟨rfl, rfl, rfl, rfl, rfl, rfl, rfl, rfl, rfl, trivial⟩ ?_
        intro σ _
        refine Go1.region ?_
        refine GoR.op ((op_add rfl rfl (wrap_i64 (natbd sX ar.bd))) _) rfl rfl ?_
        refine GoR.op ((op_move rfl) _) rfl rfl ?_
        refine GoR.nil ?_
        replace a8 := a8.ch (Owns.dropCh _ _ 0)
        replace bi := bi.ch (Owns.dropCh _ _ 0)
        replace a9 := a9.ch (Owns.dropCh _ _ 0)
        replace aZ := aZ.ch (Owns.dropCh _ _ 0)
        replace bj := bj.ch (Owns.dropCh _ _ 0)
        replace ba := ba.ch (Owns.dropCh _ _ 0)
        replace ar := ar.ch (Owns.dropCh _ _ 0)
        replace hB := hB.trans (Owns.dropFr _ _ 0)
        replace hO := hO.drop 0
        exact hX2 _ H _ _ ⟨⟨rfl, rfl, rfl, rfl, rfl, rfl, rfl, rfl, rfl, trivial⟩, hO, a8, bi, a9, aZ, bj, ba, ar, hB⟩
       replace H := ifp rfl H
       refine Go1.condT rfl rfl ?_
       refine Go1.seq ?_
       refine Go1.region ?_
       refine GoR.op ((op_assign rfl) _) rfl rfl ?_
       refine GoR.nil ?_
       refine Go1.ret1 Try.func9 rfl ?_
       exact ⟨false, rfl, hB.same, H⟩
      replace H := ifn yw H
      refine GoR.op ((fun w => opB (op_lss rfl rfl w) (decide_eq_false yw)) _) rfl rfl ?_
      refine GoR.op ((op_move rfl) _) rfl rfl ?_
      refine GoR.pass rfl rfl ?_
      refine GoR.pass rfl rfl ?_
      refine GoR.pass rfl rfl ?_
      refine GoR.pass rfl rfl ?_
      refine GoR.pass rfl rfl ?_
      refine GoR.op ((op_pickF rfl rfl rfl) _) rfl rfl ?_
      refine GoR.nil ?_
      refine Go1.condF rfl rfl ?_
      refine Go1.skip ?_
      refine Go1.inBlock ?_
      refine Go1.region ?_
      refine GoR.op ((op_add rfl rfl (wrap_i64 (natbd sX ar.bd))) _) rfl rfl ?_
      refine GoR.op ((op_move rfl) _) rfl rfl ?_
      refine GoR.nil ?_
      replace a8 := a8.ch (Owns.dropCh _ _ 0)
      replace bi := bi.ch (Owns.dropCh _ _ 0)
      replace a9 := a9.ch (Owns.dropCh _ _ 0)
      replace aZ := aZ.ch (Owns.dropCh _ _ 0)
      replace bj := bj.ch (Owns.dropCh _ _ 0)
      replace ba := ba.ch (Owns.dropCh _ _ 0)
      replace ar := ar.ch (Owns.dropCh _ _ 0)
      replace hB := hB.trans (Owns.dropFr _ _ 0)
      replace hO := hO.drop 0
      exact hX2 _ H _ _ ⟨⟨rfl, rfl, rfl, rfl, rfl, rfl, rfl, rfl, rfl, trivial⟩, hO, a8, bi, a9, aZ, bj, ba, ar, hB⟩
     replace H := ifn sX H
     refine GoR.op ((fun w => opB (op_lss rfl rfl w) (decide_eq_false sX)) _) rfl rfl ?_
     refine GoR.nil ?_
     refine Go1.seq ?_
     refine Go1.condF rfl rfl ?_
     refine Go1.exit rfl ?_
     refine Go1.inBlock ?_
     refine Go1.region ?_
     refine GoR.op ((op_add rfl rfl (wrap_i64 (natbd h32 ar.bd))) _) rfl rfl ?_
     refine GoR.op ((op_move rfl) _) rfl rfl ?_
     refine GoR.nil ?_
     replace a8 := a8.ch (Owns.dropCh _ _ 0)
     replace bi := bi.ch (Owns.dropCh _ _ 0)
     replace a9 := a9.ch (Owns.dropCh _ _ 0)
     replace aZ := aZ.ch (Owns.dropCh _ _ 0)
     replace bj := bj.ch (Owns.dropCh _ _ 0)
     replace ba := ba.ch (Owns.dropCh _ _ 0)
     replace ar := ar.ch (Owns.dropCh _ _ 0)
     replace hB := hB.trans (Owns.dropFr _ _ 0)
     replace hO := hO.drop 0
     exact hX1 _ H _ _ ⟨⟨rfl, rfl, rfl, rfl, rfl, trivial⟩, hO, a8, bi, a9, aZ, bj, ba, ar, hB⟩
    replace H := ifn h96 H
    refine GoQ.pure rfl (fun w => opB (op_gtr rfl rfl w) (decide_eq_false h96)) rfl rfl ?_
    refine GoQ.pure rfl (op_move rfl) rfl rfl ?_
    refine GoQ.pass rfl rfl rfl ?_
    refine GoQ.pass rfl rfl rfl ?_
    refine GoQ.pass rfl rfl rfl ?_
    refine GoQ.pass rfl rfl rfl ?_
    refine GoQ.pass rfl rfl rfl ?_
    refine GoQ.pass rfl rfl rfl ?_
    refine GoQ.pass rfl rfl rfl ?_
    refine GoQ.pass rfl rfl rfl ?_
    refine GoQ.pass rfl rfl rfl ?_
    refine GoQ.pass rfl rfl rfl ?_
    refine GoQ.pass rfl rfl rfl ?_
    refine GoQ.pure rfl (op_pickF rfl rfl rfl) rfl rfl ?_
    refine GoQ.pure rfl (op_pickF rfl rfl rfl) rfl rfl ?_
    refine GoQ.nil ?_
    refine Go1.condF rfl rfl ?_
    refine Go1.skip ?_
    refine Go1.seq ?_
    refine Go1.cut [(0, .slice kh a0.length ki), (5, .pointer (some ⟨B21, 0, none⟩)), (8, .pointer (some ⟨B37, 0, none⟩)), (25, .slice bG r13.Rules.length bH), (26, .int .i64 (r13.Rules.length : Int)), (27, .int .i64 (k1_31 : Int))] ⟨rfl, rfl, rfl, rfl, rfl, rfl, trivial⟩ ?_
    intro σ _
    refine Go1.region ?_
    refine GoR.op ((op_fieldAddr Try.underlying29 rfl ti27 rfl (by decide)) _) rfl rfl ?_
    refine GoR.op ((oblk (i := 7) 1 hO rfl rfl Try.underlying27 rfl rfl) _ (Same.refl _)) rfl rfl ?_
    refine GoR.op ((op_len Try.underlying27 rfl) _) rfl rfl ?_
    refine GoR.op ((op_move rfl) _) rfl rfl ?_
    refine GoR.nil ?_
    refine Go1.block ?_
    refine Go1.loopW (S := Nat) (fun s σ w => agrees σ [(0, .slice kh a0.length ki), (5, .pointer (some ⟨B21, 0, none⟩)), (8, .pointer (some ⟨B37, 0, none⟩)), (25, .slice bG r13.Rules.length bH), (26, .int .i64 (r13.Rules.length : Int)), (27, .int .i64 (k1_31 : Int)), (86, .slice bG r13.Rules.length bH), (87, .int .i64 (r13.Rules.length : Int)), (88, .int .i64 (s : Int))] ∧ Owns w0.heap.size w [.blk B37 (.cells #[.string (gstr ((ix r13.Rules (k1_31 : Int)).Left)), .string (gstr ((ix r13.Rules (k1_31 : Int)).Right))] 39 (0, 0)), .blk B21 (.cells #[.int .i64 r13.Points, .bool r13.Monoid, .slice cM r13.Gens.length cN, .slice cv r13.Elems.length cw, .slice cf r13.Prefix.length cg, .slice cO r13.Last.length cP, .slice cx r13.Right.length cy, .slice bG r13.Rules.length bH, .int .i64 r13.Done] 29 (0, 0))] A ∧ ISl (Rp.sl (Rp.int .i64)) (bl [.blk B37 (.cells #[.string (gstr ((ix r13.Rules (k1_31 : Int)).Left)), .string (gstr ((ix r13.Rules (k1_31 : Int)).Right))] 39 (0, 0)), .blk B21 (.cells #[.int .i64 r13.Points, .bool r13.Monoid, .slice cM r13.Gens.length cN, .slice cv r13.Elems.length cw, .slice cf r13.Prefix.length cg, .slice cO r13.Last.length cP, .slice cx r13.Right.length cy, .slice bG r13.Rules.length bH, .int .i64 r13.Done] 29 (0, 0))] ++ A) w kh ki a0 ∧ ISl (Rp.sl (Rp.int .i64)) (bl [.blk B37 (.cells #[.string (gstr ((ix r13.Rules (k1_31 : Int)).Left)), .string (gstr ((ix r13.Rules (k1_31 : Int)).Right))] 39 (0, 0)), .blk B21 (.cells #[.int .i64 r13.Points, .bool r13.Monoid, .slice cM r13.Gens.length cN, .slice cv r13.Elems.length cw, .slice cf r13.Prefix.length cg, .slice cO r13.Last.length cP, .slice cx r13.Right.length cy, .slice bG r13.Rules.length bH, .int .i64 r13.Done] 29 (0, 0))] ++ A) w cM cN r13.Gens ∧ ISl (Rp.sl (Rp.int .i64)) (bl [.blk B37 (.cells #[.string (gstr ((ix r13.Rules (k1_31 : Int)).Left)), .string (gstr ((ix r13.Rules (k1_31 : Int)).Right))] 39 (0, 0)), .blk B21 (.cells #[.int .i64 r13.Points, .bool r13.Monoid, .slice cM r13.Gens.length cN, .slice cv r13.Elems.length cw, .slice cf r13.Prefix.length cg, .slice cO r13.Last.length cP, .slice cx r13.Right.length cy, .slice bG r13.Rules.length bH, .int .i64 r13.Done] 29 (0, 0))] ++ A) w cv cw r13.Elems ∧ ISl (Rp.int .i64) (bl [.blk B37 (.cells #[.string (gstr ((ix r13.Rules (k1_31 : Int)).Left)), .string (gstr ((ix r13.Rules (k1_31 : Int)).Right))] 39 (0, 0)), .blk B21 (.cells #[.int .i64 r13.Points, .bool r13.Monoid, .slice cM r13.Gens.length cN, .slice cv r13.Elems.length cw, .slice cf r13.Prefix.length cg, .slice cO r13.Last.length cP, .slice cx r13.Right.length cy, .slice bG r13.Rules.length bH, .int .i64 r13.Done] 29 (0, 0))] ++ A) w cf cg r13.Prefix ∧ ISl (Rp.int .i64) (bl [.blk B37 (.cells #[.string (gstr ((ix r13.Rules (k1_31 : Int)).Left)), .string (gstr ((ix r13.Rules (k1_31 : Int)).Right))] 39 (0, 0)), .blk B21 (.cells #[.int .i64 r13.Points, .bool r13.Monoid, .slice cM r13.Gens.length cN, .slice cv r13.Elems.length cw, .slice cf r13.Prefix.length cg, .slice cO r13.Last.length cP, .slice cx r13.Right.length cy, .slice bG r13.Rules.length bH, .int .i64 r13.Done] 29 (0, 0))] ++ A) w cO cP r13.Last ∧ ISl (Rp.sl (Rp.int .i64)) (bl [.blk B37 (.cells #[.string (gstr ((ix r13.Rules (k1_31 : Int)).Left)), .string (gstr ((ix r13.Rules (k1_31 : Int)).Right))] 39 (0, 0)), .blk B21 (.cells #[.int .i64 r13.Points, .bool r13.Monoid, .slice cM r13.Gens.length cN, .slice cv r13.Elems.length cw, .slice cf r13.Prefix.length cg, .slice cO r13.Last.length cP, .slice cx r13.Right.length cy, .slice bG r13.Rules.length bH, .int .i64 r13.Done] 29 (0, 0))] ++ A) w cx cy r13.Right ∧ ISl (rpRule) (bl [.blk B37 (.cells #[.string (gstr ((ix r13.Rules (k1_31 : Int)).Left)), .string (gstr ((ix r13.Rules (k1_31 : Int)).Right))] 39 (0, 0)), .blk B21 (.cells #[.int .i64 r13.Points, .bool r13.Monoid, .slice cM r13.Gens.length cN, .slice cv r13.Elems.length cw, .slice cf r13.Prefix.length cg, .slice cO r13.Last.length cP, .slice cx r13.Right.length cy, .slice bG r13.Rules.length bH, .int .i64 r13.Done] 29 (0, 0))] ++ A) w bG bH r13.Rules ∧ Fr (bl []) w0 (bl [.blk B37 (.cells #[.string (gstr ((ix r13.Rules (k1_31 : Int)).Left)), .string (gstr ((ix r13.Rules (k1_31 : Int)).Right))] 39 (0, 0)), .blk B21 (.cells #[.int .i64 r13.Points, .bool r13.Monoid, .slice cM r13.Gens.length cN, .slice cv r13.Elems.length cw, .slice cf r13.Prefix.length cg, .slice cO r13.Last.length cP, .slice cx r13.Right.length cy, .slice bG r13.Rules.length bH, .int .i64 r13.Done] 29 (0, 0))]) w) H ⟨⟨rfl, rfl, rfl, rfl, rfl, rfl, rfl, rfl, rfl, trivial⟩, hO, a8, bi, a9, aZ, bj, ba, ar, hB⟩ ?_
    intro X3 k3_131
    intro H hX3 σ GZ
    refine andE fun hag => andE fun hO => andE fun a8 => andE fun bi => andE fun a9 => andE fun aZ => andE fun bj => andE fun ba => andE fun ar => fun hB => ?_
    refine Go1.keep [(0, .slice kh a0.length ki), (5, .pointer (some ⟨B21, 0, none⟩)), (8, .pointer (some ⟨B37, 0, none⟩)), (25, .slice bG r13.Rules.length bH), (26, .int .i64 (r13.Rules.length : Int)), (27, .int .i64 (k1_31 : Int)), (86, .slice bG r13.Rules.length bH), (87, .int .i64 (r13.Rules.length : Int)), (88, .int .i64 (k3_131 : Int))] hag ?_
    refine Go1.seq ?_
    refine Go1.region ?_
    by_cases v4 : (k3_131 : Int) < (r13.Rules.length : Int)
    ·replace H := ifp v4 H
     refine GoR.op ((fun w => opB (op_lss rfl rfl w) (decide_eq_true v4)) _) rfl rfl ?_
     refine GoR.nil ?_
     refine Go1.seq ?_
     refine Go1.condT rfl rfl ?_
     refine Go1.skip ?_
     refine Go1.seq ?_
     refine Go1.block ?_
     refine Go1.seq ?_
     refine Go1.region ?_
     obtain ⟨yy, H⟩ := H
     obtain ⟨yz, H⟩ := H
     refine GoR.op ((op_index Try.underlying27 ti39 rfl rfl yy yz (ar.some_ yy yz)) _) rfl rfl ?_
     have hok135 := ldFlatOk ar yy yz
     refine GoR.op ((ldFlat ar yy yz Try.underlying39 rfl ti39 rfl) _ (Same.refl _)) rfl rfl ?_
     have hobt := oalloc (t := 39) (cs := #[.string (gstr (([] : Str))), .string (gstr (([] : Str)))]) ti39 hO rfl
     obtain ⟨Ml, B137, g9, IF, wM⟩ := hobt
     refine GoR.op wM rfl rfl ?_
     replace hO := g9.own
     replace a8 := a8.ch g9.ch
     replace bi := bi.ch g9.ch
     replace a9 := a9.ch g9.ch
     replace aZ := aZ.ch g9.ch
     replace bj := bj.ch g9.ch
     replace ba := ba.ch g9.ch
     replace ar := ar.ch g9.ch
     replace hB := hB.trans g9.fr
     have hobt := oblkStAgg (us := [.string (gstr ((ix r13.Rules (k3_131 : Int)).Left)), .string (gstr ((ix r13.Rules (k3_131 : Int)).Right))]) (o := 0) (cs' := #[.string (gstr ((ix r13.Rules (k3_131 : Int)).Left)), .string (gstr ((ix r13.Rules (k3_131 : Int)).Right))]) 0 hO rfl rfl (Nat.le_of_ble_eq_true rfl) rfl
     obtain ⟨Hk, ri, Ci⟩ := hobt
     refine GoR.op (Ci ti39 (by exact rfl) (by exact rfl) rfl) rfl rfl ?_
     replace hO := ri.own
     replace a8 := a8.ch ri.ch
     replace bi := bi.ch ri.ch
     replace a9 := a9.ch ri.ch
     replace aZ := aZ.ch ri.ch
     replace bj := bj.ch ri.ch
     replace ba := ba.ch ri.ch
     replace ar := ar.ch ri.ch
     replace hB := hB.trans ri.fr
     refine GoR.nil ?_
     refine Go1.seq ?_
     refine Go1.region ?_
     refine GoR.op ((op_fieldAddr Try.underlying39 rfl ti9 rfl (by decide)) _) rfl rfl ?_
     refine GoR.op ((oblk (i := 0) 0 hO rfl rfl Try.underlying9 rfl rfl) _ (Same.refl _)) rfl rfl ?_
     refine GoR.op ((op_lenS Try.underlying9 rfl) _) rfl rfl ?_
     replace H := H hok135.1
     refine GoR.op ((op_fieldAddr Try.underlying39 rfl ti9 rfl (by decide)) _) rfl rfl ?_
     refine GoR.op ((oblk (i := 0) 1 hO rfl rfl Try.underlying9 rfl rfl) _ (Same.refl _)) rfl rfl ?_
     refine GoR.op ((op_lenS Try.underlying9 rfl) _) rfl rfl ?_
     replace H := H hok35.1
     by_cases yA : (((ix r13.Rules (k3_131 : Int)).Left).length : Int) < (((ix r13.Rules (k1_31 : Int)).Left).length : Int)
     ·replace H := ifp yA H
      refine GoR.op ((fun w => opB (op_lss rfl rfl w) (decide_eq_true yA)) _) rfl rfl ?_
      refine GoR.op ((op_move rfl) _) rfl rfl ?_
      refine GoR.op ((op_fieldAddr Try.underlying39 rfl ti9 rfl (by decide)) _) rfl rfl ?_
      refine GoR.op ((oblk (i := 0) 0 hO rfl rfl Try.underlying9 rfl rfl) _ (Same.refl _)) rfl rfl ?_
      refine GoR.op ((op_fieldAddr Try.underlying39 rfl ti9 rfl (by decide)) _) rfl rfl ?_
      refine GoR.op ((oblk (i := 0) 1 hO rfl rfl Try.underlying9 rfl rfl) _ (Same.refl _)) rfl rfl ?_
      refine GoR.call (op_call body28 rfl (walk_ref01_IsFactor hO.lt hok135.1 hok35.1 H)) rfl rfl ?_
      rintro Mm Mn ⟨r146, rfl, FQ, H⟩
      have rk := Stp.same hO FQ
      replace hO := rk.own
      replace a8 := a8.ch rk.ch
      replace bi := bi.ch rk.ch
      replace a9 := a9.ch rk.ch
      replace aZ := aZ.ch rk.ch
      replace bj := bj.ch rk.ch
      replace ba := ba.ch rk.ch
      replace ar := ar.ch rk.ch
      replace hB := hB.trans rk.fr
      refine GoR.op ((op_pickT rfl rfl rfl) _) rfl rfl ?_
      refine GoR.nil ?_
      cases r146
      ·replace H := ifn Bool.false_ne_true H
       refine Go1.condF rfl rfl ?_
       refine Go1.skip ?_
       refine Go1.inBlock ?_
       refine Go1.cut [(0, .slice kh a0.length ki), (5, .pointer (some ⟨B21, 0, none⟩)), (8, .pointer (some ⟨B37, 0, none⟩)), (25, .slice bG r13.Rules.length bH), (26, .int .i64 (r13.Rules.length : Int)), (27, .int .i64 (k1_31 : Int)), (86, .slice bG r13.Rules.length bH), (87, .int .i64 (r13.Rules.length : Int)), (88, .int .i64 (k3_131 : Int))] ⟨rfl, rfl, rfl, rfl, rfl, rfl, rfl, rfl, rfl, trivial⟩ ?_
       intro σ _
       refine Go1.region ?_
       refine GoR.op ((op_add rfl rfl (wrap_i64 (natbd v4 ar.bd))) _) rfl rfl ?_
       refine GoR.op ((op_move rfl) _) rfl rfl ?_
       refine GoR.nil ?_
       replace a8 := a8.ch (Owns.dropCh _ _ 0)
       replace bi := bi.ch (Owns.dropCh _ _ 0)
       replace a9 := a9.ch (Owns.dropCh _ _ 0)
       replace aZ := aZ.ch (Owns.dropCh _ _ 0)
       replace bj := bj.ch (Owns.dropCh _ _ 0)
       replace ba := ba.ch (Owns.dropCh _ _ 0)
       replace ar := ar.ch (Owns.dropCh _ _ 0)
       replace hB := hB.trans (Owns.dropFr _ _ 0)
       replace hO := hO.drop 0
       exact hX3 _ H _ _ ⟨⟨rfl, rfl, rfl, rfl, rfl, rfl, rfl, rfl, rfl, trivial⟩, hO, a8, bi, a9, aZ, bj, ba, ar, hB⟩
      replace H := ifp rfl H
      refine Go1.condT rfl rfl ?_
      refine Go1.seq ?_
      refine Go1.region ?_
      refine GoR.op ((op_assign rfl) _) rfl rfl ?_
      refine GoR.nil ?_
      refine Go1.ret1 Try.func9 rfl ?_
      exact ⟨false, rfl, hB.same, H⟩
     replace H := ifn yA H
     refine GoR.op ((fun w => opB (op_lss rfl rfl w) (decide_eq_false yA)) _) rfl rfl ?_
     refine GoR.op ((op_move rfl) _) rfl rfl ?_
     refine GoR.pass rfl rfl ?_
     refine GoR.pass rfl rfl ?_
     refine GoR.pass rfl rfl ?_
     refine GoR.pass rfl rfl ?_
     refine GoR.pass rfl rfl ?_
     refine GoR.op ((op_pickF rfl rfl rfl) _) rfl rfl ?_
     refine GoR.nil ?_
     refine Go1.condF rfl rfl ?_
     refine Go1.skip ?_
     refine Go1.inBlock ?_
     refine Go1.region ?_
     refine GoR.op ((op_add rfl rfl (wrap_i64 (natbd v4 ar.bd))) _) rfl rfl ?_
     refine GoR.op ((op_move rfl) _) rfl rfl ?_
     refine GoR.nil ?_
     replace a8 := a8.ch (Owns.dropCh _ _ 0)
     replace bi := bi.ch (Owns.dropCh _ _ 0)
     replace a9 := a9.ch (Owns.dropCh _ _ 0)
     replace aZ := aZ.ch (Owns.dropCh _ _ 0)
     replace bj := bj.ch (Owns.dropCh _ _ 0)
     replace ba := ba.ch (Owns.dropCh _ _ 0)
     replace ar := ar.ch (Owns.dropCh _ _ 0)
     replace hB := hB.trans (Owns.dropFr _ _ 0)
     replace hO := hO.drop 0
     exact hX3 _ H _ _ ⟨⟨rfl, rfl, rfl, rfl, rfl, rfl, rfl, rfl, rfl, trivial⟩, hO, a8, bi, a9, aZ, bj, ba, ar, hB⟩
    replace H := ifn v4 H
    refine GoR.op ((fun w => opB (op_lss rfl rfl w) (decide_eq_false v4)) _) rfl rfl ?_
    refine GoR.nil ?_
    refine Go1.seq ?_
    refine Go1.condF rfl rfl ?_
    refine Go1.exit rfl ?_
    refine Go1.inBlock ?_
    refine Go1.region ?_
    refine GoR.op ((op_add rfl rfl (wrap_i64 (natbd h32 ar.bd))) _) rfl rfl ?_
    refine GoR.op ((op_move rfl) _) rfl rfl ?_
    refine GoR.nil ?_
    replace a8 := a8.ch (Owns.dropCh _ _ 0)
    replace bi := bi.ch (Owns.dropCh _ _ 0)
    replace a9 := a9.ch (Owns.dropCh _ _ 0)
    replace aZ := aZ.ch (Owns.dropCh _ _ 0)
    replace bj := bj.ch (Owns.dropCh _ _ 0)
    replace ba := ba.ch (Owns.dropCh _ _ 0)
    replace ar := ar.ch (Owns.dropCh _ _ 0)
    replace hB := hB.trans (Owns.dropFr _ _ 0)
    replace hO := hO.drop 0
    exact hX1 _ H _ _ ⟨⟨rfl, rfl, rfl, rfl, rfl, trivial⟩, hO, a8, bi, a9, aZ, bj, ba, ar, hB⟩
   replace H := ifn h70 H
   refine GoQ.pure rfl (fun w => opB (op_neqS rfl rfl w) (ndF h70)) rfl rfl ?_
   refine GoQ.pure rfl (op_pickF rfl rfl rfl) rfl rfl ?_
   refine GoQ.pure rfl (op_move rfl) rfl rfl ?_
   refine GoQ.pass rfl rfl rfl ?_
   refine GoQ.pass rfl rfl rfl ?_
   refine GoQ.pass rfl rfl rfl ?_
   refine GoQ.pass rfl rfl rfl ?_
   refine GoQ.pass rfl rfl rfl ?_
   refine GoQ.pass rfl rfl rfl ?_
   refine GoQ.pass rfl rfl rfl ?_
   refine GoQ.pass rfl rfl rfl ?_
   refine GoQ.pass rfl rfl rfl ?_
   refine GoQ.pass rfl rfl rfl ?_
   refine GoQ.pure rfl (op_pickT rfl rfl rfl) rfl rfl ?_
   refine GoQ.pure rfl (op_move rfl) rfl rfl ?_
   refine GoQ.pass rfl rfl rfl ?_
   refine GoQ.pass rfl rfl rfl ?_
   refine GoQ.pass rfl rfl rfl ?_
   refine GoQ.pass rfl rfl rfl ?_
   refine GoQ.pass rfl rfl rfl ?_
   refine GoQ.pass rfl rfl rfl ?_
   refine GoQ.pure rfl (op_pickT rfl rfl rfl) rfl rfl ?_
   refine GoQ.pure rfl (op_move rfl) rfl rfl ?_
   refine GoQ.pass rfl rfl rfl ?_
   refine GoQ.pass rfl rfl rfl ?_
   refine GoQ.pass rfl rfl rfl ?_
   refine GoQ.pass rfl rfl rfl ?_
   refine GoQ.pass rfl rfl rfl ?_
   refine GoQ.pass rfl rfl rfl ?_
   refine GoQ.pass rfl rfl rfl ?_
   refine GoQ.pass rfl rfl rfl ?_
   refine GoQ.pass rfl rfl rfl ?_
   refine GoQ.pass rfl rfl rfl ?_
   refine GoQ.pass rfl rfl rfl ?_
   refine GoQ.pass rfl rfl rfl ?_
   refine GoQ.pass rfl rfl rfl ?_
   refine GoQ.pass rfl rfl rfl ?_
   refine GoQ.pass rfl rfl rfl ?_
   refine GoQ.pure rfl (op_pickT rfl rfl rfl) rfl rfl ?_
   refine GoQ.nil ?_
   refine Go1.condT rfl rfl ?_
   refine Go1.seq ?_
   refine Go1.cut [] trivial ?_
   intro σ _
   refine Go1.region ?_
   refine GoR.op ((op_assign rfl) _) rfl rfl ?_
   refine GoR.nil ?_
   refine Go1.ret1 Try.func9 rfl ?_
   exact ⟨false, rfl, hB.same, H⟩
  replace H := ifn h32 H
  refine GoR.op ((fun w => opB (op_lss rfl rfl w) (decide_eq_false h32)) _) rfl rfl ?_
  refine GoR.nil ?_
  refine Go1.seq ?_
  refine Go1.condF rfl rfl ?_
  refine Go1.exit rfl ?_
  refine Go1.seq ?_
  refine Go1.region ?_
  refine GoR.call (op_call body16 rfl (walk_law12_awake hO.lt H)) rfl rfl ?_
  rintro Mo Mp ⟨r152, rfl, FS, H⟩
  have rm := Stp.same hO FS
  replace hO := rm.own
  replace a8 := a8.ch rm.ch
  replace bi := bi.ch rm.ch
  replace a9 := a9.ch rm.ch
  replace aZ := aZ.ch rm.ch
  replace bj := bj.ch rm.ch
  replace ba := ba.ch rm.ch
  replace ar := ar.ch rm.ch
  replace hB := hB.trans rm.fr
  refine GoR.op ((op_assign rfl) _) rfl rfl ?_
  refine GoR.nil ?_
  refine Go1.ret1 Try.func9 rfl ?_
  exact ⟨r152, rfl, hB.same, H⟩
 replace H := ifn h29 H
 refine GoR.op ((fun w => opB (op_neq rfl rfl w) (ndF h29)) _) rfl rfl ?_
 refine GoR.nil ?_
 refine Go1.condT rfl rfl ?_
 refine Go1.seq ?_
 refine Go1.region ?_
 refine GoR.op ((op_assign rfl) _) rfl rfl ?_
 refine GoR.nil ?_
 refine Go1.ret1 Try.func9 rfl ?_
 exact ⟨false, rfl, hB.same, H⟩
end Sg
