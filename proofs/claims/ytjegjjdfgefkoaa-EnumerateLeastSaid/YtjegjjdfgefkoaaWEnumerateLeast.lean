/- The walks: each call keeps to its plain transformer. Printed by walkgen.py. -/
import Derived.Test.YtjegjjdfgefkoaaTi
import Derived.Test.YtjegjjdfgefkoaaWEnumerateBuilds
import Derived.Test.YtjegjjdfgefkoaaWEnumerateBuildsb
import Derived.Test.YtjegjjdfgefkoaaWEnumerateBuildsc
import Derived.Test.YtjegjjdfgefkoaaWEnumerateBuildsd
import Derived.Test.YtjegjjdfgefkoaaWEnumerateCovers
import Derived.Test.YtjegjjdfgefkoaaWEnumerateRules
namespace Sg
open Go Go.RowKit Go.Proofs
set_option linter.unusedVariables false
set_option linter.unusedSimpArgs false
set_option maxRecDepth 100000
set_option maxHeartbeats 4000000
theorem walk_law12_EnumerateLeast {A : List Nat} {w0 : World} {oe : Option Addr} {og : Nat} {a0 : List (List Int)} {a1 : Bool} {a2 : Str} (hA : ∀ b ∈ A, b < w0.heap.size) (bH : ISl (Rp.sl (Rp.int .i64)) A w0 oe og a0) (tu : a2.length ≤ mx) {K : Bool → Prop} (H : law12_EnumerateLeast a0 a1 a2 K) :
    CallsV Try.prog 13 #[.slice oe a0.length og, .bool a1, .string (gstr a2)] w0 (fun v w' => ∃ (r0 : Bool), v = .bool r0 ∧ Same w0 w' ∧ K r0) := by
 refine CallsV.of (l := [.slice oe a0.length og, .bool a1, .string (gstr a2)]) Try.func13 rfl Try.ntmps13 rfl ?_
 have hO := Owns.start hA
 have hB := Fr.refl (bl []) w0
 unfold law12_EnumerateLeast at H
 replace bH := bH.ch (Ch.start A w0)
 refine Go1.seq ?_
 refine Go1.region ?_
 refine GoR.op ((op_assign rfl) _) rfl rfl ?_
 refine GoR.nil ?_
 refine Go1.seq ?_
 refine Go1.seq ?_
 refine Go1.region ?_
 refine GoR.op ((op_move rfl) _) rfl rfl ?_
 refine GoR.call (op_call body15 rfl (walk_law12_little hO.lt bH H)) rfl rfl ?_
 rintro v5 w2 ⟨r1, rfl, hs3, H⟩
 have sM := Stp.same hO hs3
 replace hO := sM.own
 replace bH := bH.ch sM.ch
 replace hB := hB.trans sM.fr
 cases r1
 ·replace H := ifn Bool.false_ne_true H
  refine GoR.op ((op_not rfl) _) rfl rfl ?_
  refine GoR.op ((op_move rfl) _) rfl rfl ?_
  refine GoR.pass rfl rfl ?_
  refine GoR.pass rfl rfl ?_
  refine GoR.pass rfl rfl ?_
  refine GoR.op ((op_pickT rfl rfl rfl) _) rfl rfl ?_
  refine GoR.nil ?_
  refine Go1.condT rfl rfl ?_
  refine Go1.seq ?_
  refine Go1.region ?_
  refine GoR.call (op_call body16 rfl (walk_law12_awake hO.lt H)) rfl rfl ?_
  rintro v11 w8 ⟨r7, rfl, hs9, H⟩
  have zB := Stp.same hO hs9
  replace hO := zB.own
  replace bH := bH.ch zB.ch
  replace hB := hB.trans zB.fr
  refine GoR.op ((op_assign rfl) _) rfl rfl ?_
  refine GoR.nil ?_
  refine Go1.ret1 Try.func13 rfl ?_
  exact ⟨r7, rfl, hB.same, H⟩
 replace H := ifp rfl H
 refine GoR.op ((op_not rfl) _) rfl rfl ?_
 refine GoR.op ((op_move rfl) _) rfl rfl ?_
 refine GoR.op ((op_move rfl) _) rfl rfl ?_
 refine GoR.op ((op_lenS Try.underlying9 rfl) _) rfl rfl ?_
 replace H := H tu
 by_cases h13 : (60 : Int) < (a2.length : Int)
 ·replace H := ifp h13 H
  refine GoR.op ((fun w => opB (op_gtr rfl rfl w) (decide_eq_true h13)) _) rfl rfl ?_
  refine GoR.op ((op_pickF rfl rfl rfl) _) rfl rfl ?_
  refine GoR.nil ?_
  refine Go1.condT rfl rfl ?_
  refine Go1.seq ?_
  refine Go1.region ?_
  refine GoR.call (op_call body16 rfl (walk_law12_awake hO.lt H)) rfl rfl ?_
  rintro v18 w15 ⟨r14, rfl, IY, H⟩
  have zC := Stp.same hO IY
  replace hO := zC.own
  replace bH := bH.ch zC.ch
  replace hB := hB.trans zC.fr
  refine GoR.op ((op_assign rfl) _) rfl rfl ?_
  refine GoR.nil ?_
  refine Go1.ret1 Try.func13 rfl ?_
  exact ⟨r14, rfl, hB.same, H⟩
 replace H := ifn h13 H
 refine GoR.op ((fun w => opB (op_gtr rfl rfl w) (decide_eq_false h13)) _) rfl rfl ?_
 refine GoR.op ((op_pickF rfl rfl rfl) _) rfl rfl ?_
 refine GoR.nil ?_
 refine Go1.condF rfl rfl ?_
 refine Go1.skip ?_
 refine Go1.seq ?_
 refine Go1.cut [(0, .slice oe a0.length og), (1, .bool a1), (2, .string (gstr a2))] ⟨rfl, rfl, rfl, trivial⟩ ?_
 intro σ _
 refine Go1.region ?_
 refine GoR.op ((op_move rfl) _) rfl rfl ?_
 refine GoR.op ((op_move rfl) _) rfl rfl ?_
 refine GoR.call (op_call body17 rfl (walk_enumerate_Build hO.lt bH H)) rfl rfl ?_
 rintro v25 w22 ⟨r20, r21, eP, eQ, et, eA, d4, d5, eU, eV, eB, eC, eF, eG, rfl, AU, bS, bu, bt, bT, bF, bG, H⟩
 have iT := Stp.same hO AU
 replace hO := iT.own
 replace bH := bH.ch iT.ch
 replace hB := hB.trans iT.fr
 refine GoR.op ((op_move rfl) _) rfl rfl ?_
 refine GoR.op ((op_extract rfl rfl) _) rfl rfl ?_
 refine GoR.op ((op_extract rfl rfl) _) rfl rfl ?_
 have hobt := oalloc (t := 29) (cs := #[.int .i64 (0 : Int), .bool false, .slice none 0 0, .slice none 0 0, .slice none 0 0, .slice none 0 0, .slice none 0 0, .slice none 0 0, .int .i64 (0 : Int)]) ti29 hO rfl
 obtain ⟨w27, B28, pk, Nx, GW⟩ := hobt
 refine GoR.op GW rfl rfl ?_
 replace hO := pk.own
 replace bH := bH.ch pk.ch
 replace bS := bS.ch pk.ch
 replace bu := bu.ch pk.ch
 replace bt := bt.ch pk.ch
 replace bT := bT.ch pk.ch
 replace bF := bF.ch pk.ch
 replace bG := bG.ch pk.ch
 replace hB := hB.trans pk.fr
 have hobt := oblkStAgg (us := [.int .i64 r20.Points, .bool r20.Monoid, .slice eP r20.Gens.length eQ, .slice et r20.Elems.length eA, .slice d4 r20.Prefix.length d5, .slice eU r20.Last.length eV, .slice eB r20.Right.length eC, .slice eF r20.Rules.length eG, .int .i64 r20.Done]) (o := 0) (cs' := #[.int .i64 r20.Points, .bool r20.Monoid, .slice eP r20.Gens.length eQ, .slice et r20.Elems.length eA, .slice d4 r20.Prefix.length d5, .slice eU r20.Last.length eV, .slice eB r20.Right.length eC, .slice eF r20.Rules.length eG, .int .i64 r20.Done]) 0 hO rfl rfl (Nat.le_of_ble_eq_true rfl) rfl
 obtain ⟨w33, tS, GX⟩ := hobt
 refine GoR.op (GX ti29 (by exact rfl) (by exact rfl) rfl) rfl rfl ?_
 replace hO := tS.own
 replace bH := bH.ch tS.ch
 replace bS := bS.ch tS.ch
 replace bu := bu.ch tS.ch
 replace bt := bt.ch tS.ch
 replace bT := bT.ch tS.ch
 replace bF := bF.ch tS.ch
 replace bG := bG.ch tS.ch
 replace hB := hB.trans tS.fr
 refine GoR.op ((op_assign rfl) _) rfl rfl ?_
 refine GoR.nil ?_
 refine Go1.seq ?_
 refine Go1.seq ?_
 refine Go1.region ?_
 refine GoR.op ((op_move rfl) _) rfl rfl ?_
 by_cases h36 : r21 = (0 : Int)
 ·replace H := ifp h36 H
  refine GoR.op ((fun w => opB (op_neq rfl rfl w) (ndT h36)) _) rfl rfl ?_
  refine GoR.nil ?_
  refine Go1.condF rfl rfl ?_
  refine Go1.skip ?_
  refine Go1.seq ?_
  refine Go1.seq ?_
  refine Go1.region ?_
  refine GoR.op ((op_fieldAddr Try.underlying29 rfl ti22 rfl (by decide)) _) rfl rfl ?_
  refine GoR.op ((oblk (i := 3) 0 hO rfl rfl Try.underlying22 rfl rfl) _ (Same.refl _)) rfl rfl ?_
  refine GoR.op ((op_len Try.underlying22 rfl) _) rfl rfl ?_
  replace H := H bu.bd
  refine GoR.op ((op_move rfl) _) rfl rfl ?_
  refine GoR.nil ?_
  refine Go1.block ?_
  refine Go1.loopW (S := Nat) (fun s σ w => agrees σ [(0, .slice oe a0.length og), (1, .bool a1), (2, .string (gstr a2)), (7, .pointer (some ⟨B28, 0, none⟩)), (31, .int .i64 (r20.Elems.length : Int)), (32, .int .i64 (s : Int))] ∧ Owns w0.heap.size w [.blk B28 (.cells #[.int .i64 r20.Points, .bool r20.Monoid, .slice eP r20.Gens.length eQ, .slice et r20.Elems.length eA, .slice d4 r20.Prefix.length d5, .slice eU r20.Last.length eV, .slice eB r20.Right.length eC, .slice eF r20.Rules.length eG, .int .i64 r20.Done] 29 (0, 0))] A ∧ ISl (Rp.sl (Rp.int .i64)) (bl [.blk B28 (.cells #[.int .i64 r20.Points, .bool r20.Monoid, .slice eP r20.Gens.length eQ, .slice et r20.Elems.length eA, .slice d4 r20.Prefix.length d5, .slice eU r20.Last.length eV, .slice eB r20.Right.length eC, .slice eF r20.Rules.length eG, .int .i64 r20.Done] 29 (0, 0))] ++ A) w oe og a0 ∧ ISl (Rp.sl (Rp.int .i64)) (bl [.blk B28 (.cells #[.int .i64 r20.Points, .bool r20.Monoid, .slice eP r20.Gens.length eQ, .slice et r20.Elems.length eA, .slice d4 r20.Prefix.length d5, .slice eU r20.Last.length eV, .slice eB r20.Right.length eC, .slice eF r20.Rules.length eG, .int .i64 r20.Done] 29 (0, 0))] ++ A) w eP eQ r20.Gens ∧ ISl (Rp.sl (Rp.int .i64)) (bl [.blk B28 (.cells #[.int .i64 r20.Points, .bool r20.Monoid, .slice eP r20.Gens.length eQ, .slice et r20.Elems.length eA, .slice d4 r20.Prefix.length d5, .slice eU r20.Last.length eV, .slice eB r20.Right.length eC, .slice eF r20.Rules.length eG, .int .i64 r20.Done] 29 (0, 0))] ++ A) w et eA r20.Elems ∧ ISl (Rp.int .i64) (bl [.blk B28 (.cells #[.int .i64 r20.Points, .bool r20.Monoid, .slice eP r20.Gens.length eQ, .slice et r20.Elems.length eA, .slice d4 r20.Prefix.length d5, .slice eU r20.Last.length eV, .slice eB r20.Right.length eC, .slice eF r20.Rules.length eG, .int .i64 r20.Done] 29 (0, 0))] ++ A) w d4 d5 r20.Prefix ∧ ISl (Rp.int .i64) (bl [.blk B28 (.cells #[.int .i64 r20.Points, .bool r20.Monoid, .slice eP r20.Gens.length eQ, .slice et r20.Elems.length eA, .slice d4 r20.Prefix.length d5, .slice eU r20.Last.length eV, .slice eB r20.Right.length eC, .slice eF r20.Rules.length eG, .int .i64 r20.Done] 29 (0, 0))] ++ A) w eU eV r20.Last ∧ ISl (Rp.sl (Rp.int .i64)) (bl [.blk B28 (.cells #[.int .i64 r20.Points, .bool r20.Monoid, .slice eP r20.Gens.length eQ, .slice et r20.Elems.length eA, .slice d4 r20.Prefix.length d5, .slice eU r20.Last.length eV, .slice eB r20.Right.length eC, .slice eF r20.Rules.length eG, .int .i64 r20.Done] 29 (0, 0))] ++ A) w eB eC r20.Right ∧ ISl (rpRule) (bl [.blk B28 (.cells #[.int .i64 r20.Points, .bool r20.Monoid, .slice eP r20.Gens.length eQ, .slice et r20.Elems.length eA, .slice d4 r20.Prefix.length d5, .slice eU r20.Last.length eV, .slice eB r20.Right.length eC, .slice eF r20.Rules.length eG, .int .i64 r20.Done] 29 (0, 0))] ++ A) w eF eG r20.Rules ∧ Fr (bl []) w0 (bl [.blk B28 (.cells #[.int .i64 r20.Points, .bool r20.Monoid, .slice eP r20.Gens.length eQ, .slice et r20.Elems.length eA, .slice d4 r20.Prefix.length d5, .slice eU r20.Last.length eV, .slice eB r20.Right.length eC, .slice eF r20.Rules.length eG, .int .i64 r20.Done] 29 (0, 0))]) w) H ⟨⟨rfl, rfl, rfl, rfl, rfl, rfl, trivial⟩, hO, bH, bS, bu, bt, bT, bF, bG, hB⟩ ?_
  intro X1 k1_38
  intro H hX1 σ w37
  refine andE fun hag => andE fun hO => andE fun bH => andE fun bS => andE fun bu => andE fun bt => andE fun bT => andE fun bF => andE fun bG => fun hB => ?_
  refine Go1.keep [(0, .slice oe a0.length og), (1, .bool a1), (2, .string (gstr a2)), (7, .pointer (some ⟨B28, 0, none⟩)), (31, .int .i64 (r20.Elems.length : Int)), (32, .int .i64 (k1_38 : Int))] hag ?_
  refine Go1.seq ?_
  refine Go1.region ?_
  by_cases h39 : (k1_38 : Int) < (r20.Elems.length : Int)
  ·replace H := ifp h39 H
   refine GoR.op ((fun w => opB (op_lss rfl rfl w) (decide_eq_true h39)) _) rfl rfl ?_
   refine GoR.nil ?_
   refine Go1.seq ?_
   refine Go1.condT rfl rfl ?_
   refine Go1.skip ?_
   refine Go1.seq ?_
   refine Go1.block ?_
   refine Go1.seq ?_
   refine Go1.region ?_
   refine GoR.op ((op_move rfl) _) rfl rfl ?_
   refine GoR.op ((op_assign rfl) _) rfl rfl ?_
   refine GoR.nil ?_
   refine Go1.seq ?_
   refine Go1.region ?_
   refine GoR.op ((oblkAgg (vs := [.int .i64 r20.Points, .bool r20.Monoid, .slice eP r20.Gens.length eQ, .slice et r20.Elems.length eA, .slice d4 r20.Prefix.length d5, .slice eU r20.Last.length eV, .slice eB r20.Right.length eC, .slice eF r20.Rules.length eG, .int .i64 r20.Done]) (i := 0) 0 hO rfl rfl Try.underlying29 rfl ti29 rfl) _ (Same.refl _)) rfl rfl ?_
   refine GoR.op ((op_move rfl) _) rfl rfl ?_
   refine GoR.call (op_call body29 rfl (walk_enumerate_Word (e := r20) hO.lt bS bu bt bT bF bG H)) rfl rfl ?_
   rintro v44 w41 ⟨r40, rfl, AR, zM, H⟩
   have lA := Stp.same hO AR
   replace hO := lA.own
   replace bH := bH.ch lA.ch
   replace bS := bS.ch lA.ch
   replace bu := bu.ch lA.ch
   replace bt := bt.ch lA.ch
   replace bT := bT.ch lA.ch
   replace bF := bF.ch lA.ch
   replace bG := bG.ch lA.ch
   replace hB := hB.trans lA.fr
   refine GoR.op ((op_assign rfl) _) rfl rfl ?_
   refine GoR.nil ?_
   refine Go1.seq ?_
   refine Go1.drawS 0 [(0, .pure), (1, .pure), (3, .pure), (4, .stable), (5, .pure), (6, .pure), (7, .stable), (2, .loud), (8, .loud), (9, .pure), (10, .pure), (11, .pure), (12, .pure), (13, .pure), (14, .stable), (15, .pure), (16, .pure), (18, .pure), (17, .loud), (19, .loud), (20, .pure), (21, .pure), (22, .pure)] mixed (by kernel_rfl) ?_
   intro w46 AT
   have tT := Stp.same hO AT
   replace hO := tT.own
   replace bH := bH.ch tT.ch
   replace bS := bS.ch tT.ch
   replace bu := bu.ch tT.ch
   replace bt := bt.ch tT.ch
   replace bT := bT.ch tT.ch
   replace bF := bF.ch tT.ch
   replace bG := bG.ch tT.ch
   replace hB := hB.trans tT.fr
   refine GoQ.pure rfl (op_move rfl) rfl rfl ?_
   refine GoQ.pure rfl (op_move rfl) rfl rfl ?_
   refine GoQ.pure rfl (op_fieldAddr Try.underlying29 rfl ti22 rfl (by decide)) rfl rfl ?_
   refine GoQ.stable rfl (oblk (i := 3) 0 hO rfl rfl Try.underlying22 rfl rfl) rfl rfl ?_
   refine GoQ.pure rfl (op_move rfl) rfl rfl ?_
   obtain ⟨h49, H⟩ := H
   obtain ⟨h50, H⟩ := H
   refine GoQ.pure rfl (op_index Try.underlying22 ti26 rfl rfl h49 h50 (bu.some_ h49 h50)) rfl rfl ?_
   have hobt := ldSl bu h49 h50
   obtain ⟨p51, c52, uP, IZ⟩ := hobt
   refine GoQ.stable rfl (IZ Try.underlying26 rfl rfl) rfl rfl ?_
   refine GoQ.call rfl (op_call body33 rfl (walk_trans_OfWord hO.lt bH zM H)) (fun v w hr => by obtain ⟨_, _, _, _, hs, _, _⟩ := hr; assumption) rfl rfl ?_
   rintro v59 w56 ⟨r55, wu, wv, rfl, I0, uQ, H⟩
   have tv := Stp.same hO I0
   replace hO := tv.own
   replace bH := bH.ch tv.ch
   replace bS := bS.ch tv.ch
   replace bu := bu.ch tv.ch
   replace bt := bt.ch tv.ch
   replace bT := bT.ch tv.ch
   replace bF := bF.ch tv.ch
   replace bG := bG.ch tv.ch
   replace uP := uP.ch tv.ch
   replace hB := hB.trans tv.fr
   refine GoQ.call rfl (op_call body34 rfl (walk_ref03_Same hO.lt uQ uP H)) (fun v w hr => by obtain ⟨_, _, hs, _⟩ := hr; assumption) rfl rfl ?_
   rintro v65 w62 ⟨r61, rfl, I1, H⟩
   have sD := Stp.same hO I1
   replace hO := sD.own
   replace bH := bH.ch sD.ch
   replace bS := bS.ch sD.ch
   replace bu := bu.ch sD.ch
   replace bt := bt.ch sD.ch
   replace bT := bT.ch sD.ch
   replace bF := bF.ch sD.ch
   replace bG := bG.ch sD.ch
   replace uP := uP.ch sD.ch
   replace uQ := uQ.ch sD.ch
   replace hB := hB.trans sD.fr
   cases r61
   ·replace H := ifn Bool.false_ne_true H
    refine GoQ.pure rfl (op_not rfl) rfl rfl ?_
    refine GoQ.pure rfl (op_move rfl) rfl rfl ?_
    refine GoQ.pass rfl rfl rfl ?_
    refine GoQ.pass rfl rfl rfl ?_
    refine GoQ.pass rfl rfl rfl ?_
    refine GoQ.pass rfl rfl rfl ?_
    refine GoQ.pass rfl rfl rfl ?_
    refine GoQ.pass rfl rfl rfl ?_
    refine GoQ.pass rfl rfl rfl ?_
    refine GoQ.pass rfl rfl rfl ?_
    refine GoQ.pass rfl rfl rfl ?_
    refine GoQ.pass rfl rfl rfl ?_
    refine GoQ.pass rfl rfl rfl ?_
    refine GoQ.pure rfl (op_pickT rfl rfl rfl) rfl rfl ?_
    refine GoQ.nil ?_
    refine Go1.condT rfl rfl ?_
    refine Go1.seq ?_
    refine Go1.cut [] trivial ?_
    intro σ _
    refine Go1.region ?_
    refine GoR.op ((op_assign rfl) _) rfl rfl ?_
    refine GoR.nil ?_
    refine Go1.ret1 Try.func13 rfl ?_
    exact ⟨false, rfl, hB.same, H⟩
   replace H := ifp rfl H
   refine GoQ.pure rfl (op_not rfl) rfl rfl ?_
   refine GoQ.pure rfl (op_move rfl) rfl rfl ?_
   refine GoQ.pure rfl (op_move rfl) rfl rfl ?_
   by_cases h67 : (0 : Int) < (k1_38 : Int)
   ·replace H := ifp h67 H
    refine GoQ.pure rfl (fun w => opB (op_gtr rfl rfl w) (decide_eq_true h67)) rfl rfl ?_
    refine GoQ.pure rfl (op_move rfl) rfl rfl ?_
    refine GoQ.stable rfl (oblkAgg (vs := [.int .i64 r20.Points, .bool r20.Monoid, .slice eP r20.Gens.length eQ, .slice et r20.Elems.length eA, .slice d4 r20.Prefix.length d5, .slice eU r20.Last.length eV, .slice eB r20.Right.length eC, .slice eF r20.Rules.length eG, .int .i64 r20.Done]) (i := 0) 0 hO rfl rfl Try.underlying29 rfl ti29 rfl) rfl rfl ?_
    refine GoQ.pure rfl (op_move rfl) rfl rfl ?_
    obtain ⟨h68, H⟩ := H
    refine GoQ.pure rfl (op_sub rfl rfl (wrap_i64 h68)) rfl rfl ?_
    refine GoQ.pure rfl (op_move rfl) rfl rfl ?_
    refine GoQ.call rfl (op_call body29 rfl (walk_enumerate_Word (e := r20) hO.lt bS bu bt bT bF bG H)) (fun v w hr => by obtain ⟨_, _, hs, _, _⟩ := hr; assumption) rfl rfl ?_
    rintro v73 w70 ⟨r69, rfl, I2, Dy, H⟩
    have jb := Stp.same hO I2
    replace hO := jb.own
    replace bH := bH.ch jb.ch
    replace bS := bS.ch jb.ch
    replace bu := bu.ch jb.ch
    replace bt := bt.ch jb.ch
    replace bT := bT.ch jb.ch
    replace bF := bF.ch jb.ch
    replace bG := bG.ch jb.ch
    replace uP := uP.ch jb.ch
    replace uQ := uQ.ch jb.ch
    replace hB := hB.trans jb.fr
    refine GoQ.call rfl (op_call body35 rfl (walk_ref01_Compare hO.lt Dy zM H)) (fun v w hr => by obtain ⟨_, _, hs, _⟩ := hr; assumption) rfl rfl ?_
    rintro v79 w76 ⟨r75, rfl, z7, H⟩
    have jc := Stp.same hO z7
    replace hO := jc.own
    replace bH := bH.ch jc.ch
    replace bS := bS.ch jc.ch
    replace bu := bu.ch jc.ch
    replace bt := bt.ch jc.ch
    replace bT := bT.ch jc.ch
    replace bF := bF.ch jc.ch
    replace bG := bG.ch jc.ch
    replace uP := uP.ch jc.ch
    replace uQ := uQ.ch jc.ch
    replace hB := hB.trans jc.fr
    by_cases h81 : (0 : Int) ≤ r75
    ·replace H := ifp h81 H
     refine GoQ.pure rfl (fun w => opB (op_geq rfl rfl w) (decide_eq_true h81)) rfl rfl ?_
     refine GoQ.pure rfl (op_pickT rfl rfl rfl) rfl rfl ?_
     refine GoQ.pure rfl (op_pickF rfl rfl rfl) rfl rfl ?_
     refine GoQ.nil ?_
     refine Go1.condT rfl rfl ?_
     refine Go1.seq ?_
     refine Go1.region ?_
     refine GoR.op ((op_assign rfl) _) rfl rfl ?_
     refine GoR.nil ?_
     refine Go1.ret1 Try.func13 rfl ?_
     exact ⟨false, rfl, hB.same, H⟩
    replace H := ifn h81 H
    refine GoQ.pure rfl (fun w => opB (op_geq rfl rfl w) (decide_eq_false h81)) rfl rfl ?_
    refine GoQ.pure rfl (op_pickT rfl rfl rfl) rfl rfl ?_
    refine GoQ.pure rfl (op_pickF rfl rfl rfl) rfl rfl ?_
    refine GoQ.nil ?_
    refine Go1.condF rfl rfl ?_
    refine Go1.skip ?_
    refine Go1.inBlock ?_
    refine Go1.region ?_
    refine GoR.op ((op_add rfl rfl (wrap_i64 (natbd h39 bu.bd))) _) rfl rfl ?_
    refine GoR.op ((op_move rfl) _) rfl rfl ?_
    refine GoR.nil ?_
    exact hX1 _ H _ _ ⟨⟨rfl, rfl, rfl, rfl, rfl, rfl, trivial⟩, hO, bH, bS, bu, bt, bT, bF, bG, hB⟩
   replace H := ifn h67 H
   refine GoQ.pure rfl (fun w => opB (op_gtr rfl rfl w) (decide_eq_false h67)) rfl rfl ?_
   refine GoQ.pure rfl (op_move rfl) rfl rfl ?_
   refine GoQ.pass rfl rfl rfl ?_
   refine GoQ.pass rfl rfl rfl ?_
   refine GoQ.pass rfl rfl rfl ?_
   refine GoQ.pass rfl rfl rfl ?_
   refine GoQ.pass rfl rfl rfl ?_
   refine GoQ.pass rfl rfl rfl ?_
   refine GoQ.pass rfl rfl rfl ?_
   refine GoQ.pure rfl (op_pickF rfl rfl rfl) rfl rfl ?_
   refine GoQ.pure rfl (op_pickF rfl rfl rfl) rfl rfl ?_
   refine GoQ.nil ?_
   refine Go1.condF rfl rfl ?_
   refine Go1.skip ?_
   refine Go1.inBlock ?_
   refine Go1.cut [(0, .slice oe a0.length og), (1, .bool a1), (2, .string (gstr a2)), (7, .pointer (some ⟨B28, 0, none⟩)), (31, .int .i64 (r20.Elems.length : Int)), (32, .int .i64 (k1_38 : Int))] ⟨rfl, rfl, rfl, rfl, rfl, rfl, trivial⟩ ?_
   intro σ _
   refine Go1.region ?_
   refine GoR.op ((op_add rfl rfl (wrap_i64 (natbd h39 bu.bd))) _) rfl rfl ?_
   refine GoR.op ((op_move rfl) _) rfl rfl ?_
   refine GoR.nil ?_
   exact hX1 _ H _ _ ⟨⟨rfl, rfl, rfl, rfl, rfl, rfl, trivial⟩, hO, bH, bS, bu, bt, bT, bF, bG, hB⟩
  replace H := ifn h39 H
  refine GoR.op ((fun w => opB (op_lss rfl rfl w) (decide_eq_false h39)) _) rfl rfl ?_
  refine GoR.nil ?_
  refine Go1.seq ?_
  refine Go1.condF rfl rfl ?_
  refine Go1.exit rfl ?_
  refine Go1.seq ?_
  refine Go1.seq ?_
  refine Go1.region ?_
  refine GoR.op ((op_move rfl) _) rfl rfl ?_
  refine GoR.op ((op_move rfl) _) rfl rfl ?_
  refine GoR.op ((op_len Try.underlying22 rfl) _) rfl rfl ?_
  replace H := H bH.bd
  refine GoR.call (op_call body27 rfl (walk_ref01_Valid hO.lt tu H)) rfl rfl ?_
  rintro v86 w83 ⟨r82, rfl, I3, H⟩
  have tU := Stp.same hO I3
  replace hO := tU.own
  replace bH := bH.ch tU.ch
  replace bS := bS.ch tU.ch
  replace bu := bu.ch tU.ch
  replace bt := bt.ch tU.ch
  replace bT := bT.ch tU.ch
  replace bF := bF.ch tU.ch
  replace bG := bG.ch tU.ch
  replace hB := hB.trans tU.fr
  cases r82
  ·replace H := ifn Bool.false_ne_true H
   refine GoR.op ((op_not rfl) _) rfl rfl ?_
   refine GoR.op ((op_move rfl) _) rfl rfl ?_
   refine GoR.pass rfl rfl ?_
   refine GoR.pass rfl rfl ?_
   refine GoR.pass rfl rfl ?_
   refine GoR.pass rfl rfl ?_
   refine GoR.pass rfl rfl ?_
   refine GoR.pass rfl rfl ?_
   refine GoR.op ((op_pickT rfl rfl rfl) _) rfl rfl ?_
   refine GoR.nil ?_
   refine Go1.condT rfl rfl ?_
   refine Go1.seq ?_
   refine Go1.region ?_
   refine GoR.op ((oblkAgg (vs := [.int .i64 r20.Points, .bool r20.Monoid, .slice eP r20.Gens.length eQ, .slice et r20.Elems.length eA, .slice d4 r20.Prefix.length d5, .slice eU r20.Last.length eV, .slice eB r20.Right.length eC, .slice eF r20.Rules.length eG, .int .i64 r20.Done]) (i := 0) 0 hO rfl rfl Try.underlying29 rfl ti29 rfl) _ (Same.refl _)) rfl rfl ?_
   refine GoR.op ((op_move rfl) _) rfl rfl ?_
   refine GoR.call (op_call body30 rfl (walk_enumerate_OfWord (e := r20) hO.lt bS bu bt bT bF bG tu H)) rfl rfl ?_
   rintro v92 w89 ⟨r88, rfl, I4, H⟩
   have tV := Stp.same hO I4
   replace hO := tV.own
   replace bH := bH.ch tV.ch
   replace bS := bS.ch tV.ch
   replace bu := bu.ch tV.ch
   replace bt := bt.ch tV.ch
   replace bT := bT.ch tV.ch
   replace bF := bF.ch tV.ch
   replace bG := bG.ch tV.ch
   replace hB := hB.trans tV.fr
   by_cases h94 : r88 = (-1 : Int)
   ·replace H := ifp h94 H
    refine GoR.op ((fun w => opB (op_eql rfl rfl w) (decide_eq_true h94)) _) rfl rfl ?_
    refine GoR.op ((op_move rfl) _) rfl rfl ?_
    refine GoR.call (op_call body16 rfl (walk_law12_awake hO.lt H)) rfl rfl ?_
    rintro v99 w96 ⟨r95, rfl, I5, H⟩
    have sE := Stp.same hO I5
    replace hO := sE.own
    replace bH := bH.ch sE.ch
    replace bS := bS.ch sE.ch
    replace bu := bu.ch sE.ch
    replace bt := bt.ch sE.ch
    replace bT := bT.ch sE.ch
    replace bF := bF.ch sE.ch
    replace bG := bG.ch sE.ch
    replace hB := hB.trans sE.fr
    refine GoR.op ((op_pickT rfl rfl rfl) _) rfl rfl ?_
    refine GoR.op ((op_assign rfl) _) rfl rfl ?_
    refine GoR.nil ?_
    refine Go1.ret1 Try.func13 rfl ?_
    exact ⟨r95, rfl, hB.same, H⟩
   replace H := ifn h94 H
   refine GoR.op ((fun w => opB (op_eql rfl rfl w) (decide_eq_false h94)) _) rfl rfl ?_
   refine GoR.op ((op_move rfl) _) rfl rfl ?_
   refine GoR.pass rfl rfl ?_
   refine GoR.op ((op_pickF rfl rfl rfl) _) rfl rfl ?_
   refine GoR.op ((op_assign rfl) _) rfl rfl ?_
   refine GoR.nil ?_
   refine Go1.ret1 Try.func13 rfl ?_
   exact ⟨false, rfl, hB.same, H⟩
  replace H := ifp rfl H
  refine GoR.op ((op_not rfl) _) rfl rfl ?_
  refine GoR.op ((op_move rfl) _) rfl rfl ?_
  refine GoR.op ((op_move rfl) _) rfl rfl ?_
  by_cases tG : a2 = (([] : Str))
  ·replace H := ifp tG H
   refine GoR.op ((fun w => opB (op_eqlS rfl rfl w) (decide_eq_true tG)) _) rfl rfl ?_
   refine GoR.op ((op_move rfl) _) rfl rfl ?_
   refine GoR.op ((op_move rfl) _) rfl rfl ?_
   cases a1
   ·replace H := ifn Bool.false_ne_true H
    refine GoR.op ((op_not rfl) _) rfl rfl ?_
    refine GoR.op ((op_pickT rfl rfl rfl) _) rfl rfl ?_
    refine GoR.op ((op_pickF rfl rfl rfl) _) rfl rfl ?_
    refine GoR.nil ?_
    refine Go1.condT rfl rfl ?_
    refine Go1.seq ?_
    refine Go1.cut [(2, .string (gstr a2)), (7, .pointer (some ⟨B28, 0, none⟩))] ⟨rfl, rfl, trivial⟩ ?_
    intro σ _
    refine Go1.region ?_
    refine GoR.op ((oblkAgg (vs := [.int .i64 r20.Points, .bool r20.Monoid, .slice eP r20.Gens.length eQ, .slice et r20.Elems.length eA, .slice d4 r20.Prefix.length d5, .slice eU r20.Last.length eV, .slice eB r20.Right.length eC, .slice eF r20.Rules.length eG, .int .i64 r20.Done]) (i := 0) 0 hO rfl rfl Try.underlying29 rfl ti29 rfl) _ (Same.refl _)) rfl rfl ?_
    refine GoR.op ((op_move rfl) _) rfl rfl ?_
    refine GoR.call (op_call body30 rfl (walk_enumerate_OfWord (e := r20) hO.lt bS bu bt bT bF bG tu H)) rfl rfl ?_
    rintro Ny IF ⟨r102, rfl, GY, H⟩
    have jV := Stp.same hO GY
    replace hO := jV.own
    replace bH := bH.ch jV.ch
    replace bS := bS.ch jV.ch
    replace bu := bu.ch jV.ch
    replace bt := bt.ch jV.ch
    replace bT := bT.ch jV.ch
    replace bF := bF.ch jV.ch
    replace bG := bG.ch jV.ch
    replace hB := hB.trans jV.fr
    by_cases u9 : r102 = (-1 : Int)
    ·replace H := ifp u9 H
     refine GoR.op ((fun w => opB (op_eql rfl rfl w) (decide_eq_true u9)) _) rfl rfl ?_
     refine GoR.op ((op_move rfl) _) rfl rfl ?_
     refine GoR.call (op_call body16 rfl (walk_law12_awake hO.lt H)) rfl rfl ?_
     rintro Nz NA ⟨r109, rfl, GZ, H⟩
     have sF := Stp.same hO GZ
     replace hO := sF.own
     replace bH := bH.ch sF.ch
     replace bS := bS.ch sF.ch
     replace bu := bu.ch sF.ch
     replace bt := bt.ch sF.ch
     replace bT := bT.ch sF.ch
     replace bF := bF.ch sF.ch
     replace bG := bG.ch sF.ch
     replace hB := hB.trans sF.fr
     refine GoR.op ((op_pickT rfl rfl rfl) _) rfl rfl ?_
     refine GoR.op ((op_assign rfl) _) rfl rfl ?_
     refine GoR.nil ?_
     refine Go1.ret1 Try.func13 rfl ?_
     exact ⟨r109, rfl, hB.same, H⟩
    replace H := ifn u9 H
    refine GoR.op ((fun w => opB (op_eql rfl rfl w) (decide_eq_false u9)) _) rfl rfl ?_
    refine GoR.op ((op_move rfl) _) rfl rfl ?_
    refine GoR.pass rfl rfl ?_
    refine GoR.op ((op_pickF rfl rfl rfl) _) rfl rfl ?_
    refine GoR.op ((op_assign rfl) _) rfl rfl ?_
    refine GoR.nil ?_
    refine Go1.ret1 Try.func13 rfl ?_
    exact ⟨false, rfl, hB.same, H⟩
   replace H := ifp rfl H
   refine GoR.op ((op_not rfl) _) rfl rfl ?_
   refine GoR.op ((op_pickT rfl rfl rfl) _) rfl rfl ?_
   refine GoR.op ((op_pickF rfl rfl rfl) _) rfl rfl ?_
   refine GoR.nil ?_
   refine Go1.condF rfl rfl ?_
   refine Go1.skip ?_
   refine Go1.seq ?_
   refine Go1.region ?_
   refine GoR.op ((oblkAgg (vs := [.int .i64 r20.Points, .bool r20.Monoid, .slice eP r20.Gens.length eQ, .slice et r20.Elems.length eA, .slice d4 r20.Prefix.length d5, .slice eU r20.Last.length eV, .slice eB r20.Right.length eC, .slice eF r20.Rules.length eG, .int .i64 r20.Done]) (i := 0) 0 hO rfl rfl Try.underlying29 rfl ti29 rfl) _ (Same.refl _)) rfl rfl ?_
   refine GoR.op ((op_move rfl) _) rfl rfl ?_
   refine GoR.call (op_call body30 rfl (walk_enumerate_OfWord (e := r20) hO.lt bS bu bt bT bF bG tu H)) rfl rfl ?_
   rintro NB NC ⟨r115, rfl, G0, H⟩
   have gX := Stp.same hO G0
   replace hO := gX.own
   replace bH := bH.ch gX.ch
   replace bS := bS.ch gX.ch
   replace bu := bu.ch gX.ch
   replace bt := bt.ch gX.ch
   replace bT := bT.ch gX.ch
   replace bF := bF.ch gX.ch
   replace bG := bG.ch gX.ch
   replace hB := hB.trans gX.fr
   refine GoR.op ((op_assign rfl) _) rfl rfl ?_
   refine GoR.nil ?_
   refine Go1.seq ?_
   refine Go1.cut [(0, .slice oe a0.length og), (2, .string (gstr a2)), (7, .pointer (some ⟨B28, 0, none⟩)), (11, .int .i64 r115)] ⟨rfl, rfl, rfl, rfl, trivial⟩ ?_
   intro σ _
   refine Go1.drawS 0 [(0, .pure), (1, .pure), (2, .pure), (3, .pure), (4, .pure), (5, .stable), (6, .pure), (7, .pure), (8, .pure), (9, .pure), (10, .pure), (11, .stable), (12, .pure), (13, .pure), (14, .loud), (15, .loud), (16, .pure), (17, .pure), (18, .pure), (19, .stable), (20, .pure), (22, .pure), (21, .loud), (23, .loud), (24, .pure), (25, .pure), (26, .pure), (27, .loud), (28, .pure), (29, .pure)] mixed (by kernel_rfl) ?_
   intro ND G1
   have sG := Stp.same hO G1
   replace hO := sG.own
   replace bH := bH.ch sG.ch
   replace bS := bS.ch sG.ch
   replace bu := bu.ch sG.ch
   replace bt := bt.ch sG.ch
   replace bT := bT.ch sG.ch
   replace bF := bF.ch sG.ch
   replace bG := bG.ch sG.ch
   replace hB := hB.trans sG.fr
   refine GoQ.pure rfl (op_move rfl) rfl rfl ?_
   by_cases zD : (0 : Int) ≤ r115
   ·replace H := ifp zD H
    refine GoQ.pure rfl (fun w => opB (op_geq rfl rfl w) (decide_eq_true zD)) rfl rfl ?_
    refine GoQ.pure rfl (op_move rfl) rfl rfl ?_
    refine GoQ.pure rfl (op_move rfl) rfl rfl ?_
    refine GoQ.pure rfl (op_fieldAddr Try.underlying29 rfl ti22 rfl (by decide)) rfl rfl ?_
    refine GoQ.stable rfl (oblk (i := 3) 0 hO rfl rfl Try.underlying22 rfl rfl) rfl rfl ?_
    refine GoQ.pure rfl (op_len Try.underlying22 rfl) rfl rfl ?_
    by_cases zE : r115 < (r20.Elems.length : Int)
    ·replace H := ifp zE H
     refine GoQ.pure rfl (fun w => opB (op_lss rfl rfl w) (decide_eq_true zE)) rfl rfl ?_
     refine GoQ.pure rfl (op_pickT rfl rfl rfl) rfl rfl ?_
     refine GoQ.pure rfl (op_move rfl) rfl rfl ?_
     refine GoQ.pure rfl (op_move rfl) rfl rfl ?_
     refine GoQ.stable rfl (oblkAgg (vs := [.int .i64 r20.Points, .bool r20.Monoid, .slice eP r20.Gens.length eQ, .slice et r20.Elems.length eA, .slice d4 r20.Prefix.length d5, .slice eU r20.Last.length eV, .slice eB r20.Right.length eC, .slice eF r20.Rules.length eG, .int .i64 r20.Done]) (i := 0) 0 hO rfl rfl Try.underlying29 rfl ti29 rfl) rfl rfl ?_
     refine GoQ.pure rfl (op_move rfl) rfl rfl ?_
     refine GoQ.pure rfl (op_move rfl) rfl rfl ?_
     refine GoQ.call rfl (op_call body33 rfl (walk_trans_OfWord hO.lt bH tu H)) (fun v w hr => by obtain ⟨_, _, _, _, hs, _, _⟩ := hr; assumption) rfl rfl ?_
     rintro IG NE ⟨r126, Jt, Ju, rfl, G3, sH, H⟩
     have sI := Stp.same hO G3
     replace hO := sI.own
     replace bH := bH.ch sI.ch
     replace bS := bS.ch sI.ch
     replace bu := bu.ch sI.ch
     replace bt := bt.ch sI.ch
     replace bT := bT.ch sI.ch
     replace bF := bF.ch sI.ch
     replace bG := bG.ch sI.ch
     replace hB := hB.trans sI.fr
     refine GoQ.call rfl (op_call body32 rfl (walk_enumerate_Find (e := r20) hO.lt bS bu bt bT bF bG sH H)) (fun v w hr => by obtain ⟨_, _, hs, _⟩ := hr; assumption) rfl rfl ?_
     rintro IK IL ⟨r132, rfl, zn, H⟩
     have gt := Stp.same hO zn
     replace hO := gt.own
     replace bH := bH.ch gt.ch
     replace bS := bS.ch gt.ch
     replace bu := bu.ch gt.ch
     replace bt := bt.ch gt.ch
     replace bT := bT.ch gt.ch
     replace bF := bF.ch gt.ch
     replace bG := bG.ch gt.ch
     replace sH := sH.ch gt.ch
     replace hB := hB.trans gt.fr
     by_cases zF : r115 = r132
     ·replace H := ifp zF H
      refine GoQ.pure rfl (fun w => opB (op_eql rfl rfl w) (decide_eq_true zF)) rfl rfl ?_
      refine GoQ.pure rfl (op_pickT rfl rfl rfl) rfl rfl ?_
      refine GoQ.pure rfl (op_move rfl) rfl rfl ?_
      refine GoQ.stable rfl (oblkAgg (vs := [.int .i64 r20.Points, .bool r20.Monoid, .slice eP r20.Gens.length eQ, .slice et r20.Elems.length eA, .slice d4 r20.Prefix.length d5, .slice eU r20.Last.length eV, .slice eB r20.Right.length eC, .slice eF r20.Rules.length eG, .int .i64 r20.Done]) (i := 0) 0 hO rfl rfl Try.underlying29 rfl ti29 rfl) rfl rfl ?_
      refine GoQ.pure rfl (op_move rfl) rfl rfl ?_
      refine GoQ.pure rfl (op_move rfl) rfl rfl ?_
      refine GoQ.call rfl (op_call body29 rfl (walk_enumerate_Word (e := r20) hO.lt bS bu bt bT bF bG H)) (fun v w hr => by obtain ⟨_, _, hs, _, _⟩ := hr; assumption) rfl rfl ?_
      rintro NF IH ⟨r139, rfl, G4, Bf, H⟩
      have rz := Stp.same hO G4
      replace hO := rz.own
      replace bH := bH.ch rz.ch
      replace bS := bS.ch rz.ch
      replace bu := bu.ch rz.ch
      replace bt := bt.ch rz.ch
      replace bT := bT.ch rz.ch
      replace bF := bF.ch rz.ch
      replace bG := bG.ch rz.ch
      replace sH := sH.ch rz.ch
      replace hB := hB.trans rz.fr
      refine GoQ.call rfl (op_call body35 rfl (walk_ref01_Compare hO.lt Bf tu H)) (fun v w hr => by obtain ⟨_, _, hs, _⟩ := hr; assumption) rfl rfl ?_
      rintro NG NH ⟨r145, rfl, G5, H⟩
      have rB := Stp.same hO G5
      replace hO := rB.own
      replace bH := bH.ch rB.ch
      replace bS := bS.ch rB.ch
      replace bu := bu.ch rB.ch
      replace bt := bt.ch rB.ch
      replace bT := bT.ch rB.ch
      replace bF := bF.ch rB.ch
      replace bG := bG.ch rB.ch
      replace sH := sH.ch rB.ch
      replace hB := hB.trans rB.fr
      by_cases zG : r145 ≤ (0 : Int)
      ·replace H := ifp zG H
       refine GoQ.pure rfl (fun w => opB (op_leq rfl rfl w) (decide_eq_true zG)) rfl rfl ?_
       refine GoQ.pure rfl (op_pickT rfl rfl rfl) rfl rfl ?_
       refine GoQ.pure rfl (op_move rfl) rfl rfl ?_
       refine GoQ.call rfl (op_call body16 rfl (walk_law12_awake hO.lt H)) (fun v w hr => by obtain ⟨_, _, hs, _⟩ := hr; assumption) rfl rfl ?_
       rintro NI NJ ⟨r152, rfl, G6, H⟩
       have rC := Stp.same hO G6
       replace hO := rC.own
       replace bH := bH.ch rC.ch
       replace bS := bS.ch rC.ch
       replace bu := bu.ch rC.ch
       replace bt := bt.ch rC.ch
       replace bT := bT.ch rC.ch
       replace bF := bF.ch rC.ch
       replace bG := bG.ch rC.ch
       replace sH := sH.ch rC.ch
       replace hB := hB.trans rC.fr
       refine GoQ.pure rfl (op_pickT rfl rfl rfl) rfl rfl ?_
       refine GoQ.pure rfl (op_assign rfl) rfl rfl ?_
       refine GoQ.nil ?_
       refine Go1.ret1 Try.func13 rfl ?_
       exact ⟨r152, rfl, hB.same, H⟩
      replace H := ifn zG H
      refine GoQ.pure rfl (fun w => opB (op_leq rfl rfl w) (decide_eq_false zG)) rfl rfl ?_
      refine GoQ.pure rfl (op_pickT rfl rfl rfl) rfl rfl ?_
      refine GoQ.pure rfl (op_move rfl) rfl rfl ?_
      refine GoQ.pass rfl rfl rfl ?_
      refine GoQ.pure rfl (op_pickF rfl rfl rfl) rfl rfl ?_
      refine GoQ.pure rfl (op_assign rfl) rfl rfl ?_
      refine GoQ.nil ?_
      refine Go1.ret1 Try.func13 rfl ?_
      exact ⟨false, rfl, hB.same, H⟩
     replace H := ifn zF H
     refine GoQ.pure rfl (fun w => opB (op_eql rfl rfl w) (decide_eq_false zF)) rfl rfl ?_
     refine GoQ.pure rfl (op_pickT rfl rfl rfl) rfl rfl ?_
     refine GoQ.pure rfl (op_move rfl) rfl rfl ?_
     refine GoQ.pass rfl rfl rfl ?_
     refine GoQ.pass rfl rfl rfl ?_
     refine GoQ.pass rfl rfl rfl ?_
     refine GoQ.pass rfl rfl rfl ?_
     refine GoQ.pass rfl rfl rfl ?_
     refine GoQ.pass rfl rfl rfl ?_
     refine GoQ.pure rfl (op_pickF rfl rfl rfl) rfl rfl ?_
     refine GoQ.pure rfl (op_move rfl) rfl rfl ?_
     refine GoQ.pass rfl rfl rfl ?_
     refine GoQ.pure rfl (op_pickF rfl rfl rfl) rfl rfl ?_
     refine GoQ.pure rfl (op_assign rfl) rfl rfl ?_
     refine GoQ.nil ?_
     refine Go1.ret1 Try.func13 rfl ?_
     exact ⟨false, rfl, hB.same, H⟩
    replace H := ifn zE H
    refine GoQ.pure rfl (fun w => opB (op_lss rfl rfl w) (decide_eq_false zE)) rfl rfl ?_
    refine GoQ.pure rfl (op_pickT rfl rfl rfl) rfl rfl ?_
    refine GoQ.pure rfl (op_move rfl) rfl rfl ?_
    refine GoQ.pass rfl rfl rfl ?_
    refine GoQ.pass rfl rfl rfl ?_
    refine GoQ.pass rfl rfl rfl ?_
    refine GoQ.pass rfl rfl rfl ?_
    refine GoQ.pass rfl rfl rfl ?_
    refine GoQ.pass rfl rfl rfl ?_
    refine GoQ.pass rfl rfl rfl ?_
    refine GoQ.pure rfl (op_pickF rfl rfl rfl) rfl rfl ?_
    refine GoQ.pure rfl (op_move rfl) rfl rfl ?_
    refine GoQ.pass rfl rfl rfl ?_
    refine GoQ.pass rfl rfl rfl ?_
    refine GoQ.pass rfl rfl rfl ?_
    refine GoQ.pass rfl rfl rfl ?_
    refine GoQ.pass rfl rfl rfl ?_
    refine GoQ.pass rfl rfl rfl ?_
    refine GoQ.pure rfl (op_pickF rfl rfl rfl) rfl rfl ?_
    refine GoQ.pure rfl (op_move rfl) rfl rfl ?_
    refine GoQ.pass rfl rfl rfl ?_
    refine GoQ.pure rfl (op_pickF rfl rfl rfl) rfl rfl ?_
    refine GoQ.pure rfl (op_assign rfl) rfl rfl ?_
    refine GoQ.nil ?_
    refine Go1.ret1 Try.func13 rfl ?_
    exact ⟨false, rfl, hB.same, H⟩
   replace H := ifn zD H
   refine GoQ.pure rfl (fun w => opB (op_geq rfl rfl w) (decide_eq_false zD)) rfl rfl ?_
   refine GoQ.pure rfl (op_move rfl) rfl rfl ?_
   refine GoQ.pass rfl rfl rfl ?_
   refine GoQ.pass rfl rfl rfl ?_
   refine GoQ.pass rfl rfl rfl ?_
   refine GoQ.pass rfl rfl rfl ?_
   refine GoQ.pass rfl rfl rfl ?_
   refine GoQ.pure rfl (op_pickF rfl rfl rfl) rfl rfl ?_
   refine GoQ.pure rfl (op_move rfl) rfl rfl ?_
   refine GoQ.pass rfl rfl rfl ?_
   refine GoQ.pass rfl rfl rfl ?_
   refine GoQ.pass rfl rfl rfl ?_
   refine GoQ.pass rfl rfl rfl ?_
   refine GoQ.pass rfl rfl rfl ?_
   refine GoQ.pass rfl rfl rfl ?_
   refine GoQ.pass rfl rfl rfl ?_
   refine GoQ.pure rfl (op_pickF rfl rfl rfl) rfl rfl ?_
   refine GoQ.pure rfl (op_move rfl) rfl rfl ?_
   refine GoQ.pass rfl rfl rfl ?_
   refine GoQ.pass rfl rfl rfl ?_
   refine GoQ.pass rfl rfl rfl ?_
   refine GoQ.pass rfl rfl rfl ?_
   refine GoQ.pass rfl rfl rfl ?_
   refine GoQ.pass rfl rfl rfl ?_
   refine GoQ.pure rfl (op_pickF rfl rfl rfl) rfl rfl ?_
   refine GoQ.pure rfl (op_move rfl) rfl rfl ?_
   refine GoQ.pass rfl rfl rfl ?_
   refine GoQ.pure rfl (op_pickF rfl rfl rfl) rfl rfl ?_
   refine GoQ.pure rfl (op_assign rfl) rfl rfl ?_
   refine GoQ.nil ?_
   refine Go1.ret1 Try.func13 rfl ?_
   exact ⟨false, rfl, hB.same, H⟩
  replace H := ifn tG H
  refine GoR.op ((fun w => opB (op_eqlS rfl rfl w) (decide_eq_false tG)) _) rfl rfl ?_
  refine GoR.op ((op_move rfl) _) rfl rfl ?_
  refine GoR.pass rfl rfl ?_
  refine GoR.pass rfl rfl ?_
  refine GoR.op ((op_pickF rfl rfl rfl) _) rfl rfl ?_
  refine GoR.op ((op_pickF rfl rfl rfl) _) rfl rfl ?_
  refine GoR.nil ?_
  refine Go1.condF rfl rfl ?_
  refine Go1.skip ?_
  refine Go1.seq ?_
  refine Go1.cut [(0, .slice oe a0.length og), (2, .string (gstr a2)), (7, .pointer (some ⟨B28, 0, none⟩))] ⟨rfl, rfl, rfl, trivial⟩ ?_
  intro σ _
  refine Go1.region ?_
  refine GoR.op ((oblkAgg (vs := [.int .i64 r20.Points, .bool r20.Monoid, .slice eP r20.Gens.length eQ, .slice et r20.Elems.length eA, .slice d4 r20.Prefix.length d5, .slice eU r20.Last.length eV, .slice eB r20.Right.length eC, .slice eF r20.Rules.length eG, .int .i64 r20.Done]) (i := 0) 0 hO rfl rfl Try.underlying29 rfl ti29 rfl) _ (Same.refl _)) rfl rfl ?_
  refine GoR.op ((op_move rfl) _) rfl rfl ?_
  refine GoR.call (op_call body30 rfl (walk_enumerate_OfWord (e := r20) hO.lt bS bu bt bT bF bG tu H)) rfl rfl ?_
  rintro NK NL ⟨r158, rfl, G7, H⟩
  have sJ := Stp.same hO G7
  replace hO := sJ.own
  replace bH := bH.ch sJ.ch
  replace bS := bS.ch sJ.ch
  replace bu := bu.ch sJ.ch
  replace bt := bt.ch sJ.ch
  replace bT := bT.ch sJ.ch
  replace bF := bF.ch sJ.ch
  replace bG := bG.ch sJ.ch
  replace hB := hB.trans sJ.fr
  refine GoR.op ((op_assign rfl) _) rfl rfl ?_
  refine GoR.nil ?_
  refine Go1.seq ?_
  refine Go1.drawS 0 [(0, .pure), (1, .pure), (2, .pure), (3, .pure), (4, .pure), (5, .stable), (6, .pure), (7, .pure), (8, .pure), (9, .pure), (10, .pure), (11, .stable), (12, .pure), (13, .pure), (14, .loud), (15, .loud), (16, .pure), (17, .pure), (18, .pure), (19, .stable), (20, .pure), (22, .pure), (21, .loud), (23, .loud), (24, .pure), (25, .pure), (26, .pure), (27, .loud), (28, .pure), (29, .pure)] mixed (by kernel_rfl) ?_
  intro HC yA
  have jh := Stp.same hO yA
  replace hO := jh.own
  replace bH := bH.ch jh.ch
  replace bS := bS.ch jh.ch
  replace bu := bu.ch jh.ch
  replace bt := bt.ch jh.ch
  replace bT := bT.ch jh.ch
  replace bF := bF.ch jh.ch
  replace bG := bG.ch jh.ch
  replace hB := hB.trans jh.fr
  refine GoQ.pure rfl (op_move rfl) rfl rfl ?_
  by_cases zH : (0 : Int) ≤ r158
  ·replace H := ifp zH H
   refine GoQ.pure rfl (fun w => opB (op_geq rfl rfl w) (decide_eq_true zH)) rfl rfl ?_
   refine GoQ.pure rfl (op_move rfl) rfl rfl ?_
   refine GoQ.pure rfl (op_move rfl) rfl rfl ?_
   refine GoQ.pure rfl (op_fieldAddr Try.underlying29 rfl ti22 rfl (by decide)) rfl rfl ?_
   refine GoQ.stable rfl (oblk (i := 3) 0 hO rfl rfl Try.underlying22 rfl rfl) rfl rfl ?_
   refine GoQ.pure rfl (op_len Try.underlying22 rfl) rfl rfl ?_
   by_cases vb : r158 < (r20.Elems.length : Int)
   ·replace H := ifp vb H
    refine GoQ.pure rfl (fun w => opB (op_lss rfl rfl w) (decide_eq_true vb)) rfl rfl ?_
    refine GoQ.pure rfl (op_pickT rfl rfl rfl) rfl rfl ?_
    refine GoQ.pure rfl (op_move rfl) rfl rfl ?_
    refine GoQ.pure rfl (op_move rfl) rfl rfl ?_
    refine GoQ.stable rfl (oblkAgg (vs := [.int .i64 r20.Points, .bool r20.Monoid, .slice eP r20.Gens.length eQ, .slice et r20.Elems.length eA, .slice d4 r20.Prefix.length d5, .slice eU r20.Last.length eV, .slice eB r20.Right.length eC, .slice eF r20.Rules.length eG, .int .i64 r20.Done]) (i := 0) 0 hO rfl rfl Try.underlying29 rfl ti29 rfl) rfl rfl ?_
    refine GoQ.pure rfl (op_move rfl) rfl rfl ?_
    refine GoQ.pure rfl (op_move rfl) rfl rfl ?_
    refine GoQ.call rfl (op_call body33 rfl (walk_trans_OfWord hO.lt bH tu H)) (fun v w hr => by obtain ⟨_, _, _, _, hs, _, _⟩ := hr; assumption) rfl rfl ?_
    rintro NM NN ⟨r169, Jv, Jw, rfl, G8, sK, H⟩
    have sL := Stp.same hO G8
    replace hO := sL.own
    replace bH := bH.ch sL.ch
    replace bS := bS.ch sL.ch
    replace bu := bu.ch sL.ch
    replace bt := bt.ch sL.ch
    replace bT := bT.ch sL.ch
    replace bF := bF.ch sL.ch
    replace bG := bG.ch sL.ch
    replace hB := hB.trans sL.fr
    refine GoQ.call rfl (op_call body32 rfl (walk_enumerate_Find (e := r20) hO.lt bS bu bt bT bF bG sK H)) (fun v w hr => by obtain ⟨_, _, hs, _⟩ := hr; assumption) rfl rfl ?_
    rintro NO Im ⟨r175, rfl, yY, H⟩
    have rD := Stp.same hO yY
    replace hO := rD.own
    replace bH := bH.ch rD.ch
    replace bS := bS.ch rD.ch
    replace bu := bu.ch rD.ch
    replace bt := bt.ch rD.ch
    replace bT := bT.ch rD.ch
    replace bF := bF.ch rD.ch
    replace bG := bG.ch rD.ch
    replace sK := sK.ch rD.ch
    replace hB := hB.trans rD.fr
    by_cases zI : r158 = r175
    ·replace H := ifp zI H
     refine GoQ.pure rfl (fun w => opB (op_eql rfl rfl w) (decide_eq_true zI)) rfl rfl ?_
     refine GoQ.pure rfl (op_pickT rfl rfl rfl) rfl rfl ?_
     refine GoQ.pure rfl (op_move rfl) rfl rfl ?_
     refine GoQ.stable rfl (oblkAgg (vs := [.int .i64 r20.Points, .bool r20.Monoid, .slice eP r20.Gens.length eQ, .slice et r20.Elems.length eA, .slice d4 r20.Prefix.length d5, .slice eU r20.Last.length eV, .slice eB r20.Right.length eC, .slice eF r20.Rules.length eG, .int .i64 r20.Done]) (i := 0) 0 hO rfl rfl Try.underlying29 rfl ti29 rfl) rfl rfl ?_
     refine GoQ.pure rfl (op_move rfl) rfl rfl ?_
     refine GoQ.pure rfl (op_move rfl) rfl rfl ?_
     refine GoQ.call rfl (op_call body29 rfl (walk_enumerate_Word (e := r20) hO.lt bS bu bt bT bF bG H)) (fun v w hr => by obtain ⟨_, _, hs, _, _⟩ := hr; assumption) rfl rfl ?_
     rintro NP NQ ⟨r182, rfl, yD, Bg, H⟩
     have kI := Stp.same hO yD
     replace hO := kI.own
     replace bH := bH.ch kI.ch
     replace bS := bS.ch kI.ch
     replace bu := bu.ch kI.ch
     replace bt := bt.ch kI.ch
     replace bT := bT.ch kI.ch
     replace bF := bF.ch kI.ch
     replace bG := bG.ch kI.ch
     replace sK := sK.ch kI.ch
     replace hB := hB.trans kI.fr
     refine GoQ.call rfl (op_call body35 rfl (walk_ref01_Compare hO.lt Bg tu H)) (fun v w hr => by obtain ⟨_, _, hs, _⟩ := hr; assumption) rfl rfl ?_
     rintro NR NS ⟨r188, rfl, G9, H⟩
     have rE := Stp.same hO G9
     replace hO := rE.own
     replace bH := bH.ch rE.ch
     replace bS := bS.ch rE.ch
     replace bu := bu.ch rE.ch
     replace bt := bt.ch rE.ch
     replace bT := bT.ch rE.ch
     replace bF := bF.ch rE.ch
     replace bG := bG.ch rE.ch
     replace sK := sK.ch rE.ch
     replace hB := hB.trans rE.fr
     by_cases zJ : r188 ≤ (0 : Int)
     ·replace H := ifp zJ H
      refine GoQ.pure rfl (fun w => opB (op_leq rfl rfl w) (decide_eq_true zJ)) rfl rfl ?_
      refine GoQ.pure rfl (op_pickT rfl rfl rfl) rfl rfl ?_
      refine GoQ.pure rfl (op_move rfl) rfl rfl ?_
      refine GoQ.call rfl (op_call body16 rfl (walk_law12_awake hO.lt H)) (fun v w hr => by obtain ⟨_, _, hs, _⟩ := hr; assumption) rfl rfl ?_
      rintro NT NU ⟨r195, rfl, Ha, H⟩
      have iL := Stp.same hO Ha
      replace hO := iL.own
      replace bH := bH.ch iL.ch
      replace bS := bS.ch iL.ch
      replace bu := bu.ch iL.ch
      replace bt := bt.ch iL.ch
      replace bT := bT.ch iL.ch
      replace bF := bF.ch iL.ch
      replace bG := bG.ch iL.ch
      replace sK := sK.ch iL.ch
      replace hB := hB.trans iL.fr
      refine GoQ.pure rfl (op_pickT rfl rfl rfl) rfl rfl ?_
      refine GoQ.pure rfl (op_assign rfl) rfl rfl ?_
      refine GoQ.nil ?_
      refine Go1.ret1 Try.func13 rfl ?_
      exact ⟨r195, rfl, hB.same, H⟩
     replace H := ifn zJ H
     refine GoQ.pure rfl (fun w => opB (op_leq rfl rfl w) (decide_eq_false zJ)) rfl rfl ?_
     refine GoQ.pure rfl (op_pickT rfl rfl rfl) rfl rfl ?_
     refine GoQ.pure rfl (op_move rfl) rfl rfl ?_
     refine GoQ.pass rfl rfl rfl ?_
     refine GoQ.pure rfl (op_pickF rfl rfl rfl) rfl rfl ?_
     refine GoQ.pure rfl (op_assign rfl) rfl rfl ?_
     refine GoQ.nil ?_
     refine Go1.ret1 Try.func13 rfl ?_
     exact ⟨false, rfl, hB.same, H⟩
    replace H := ifn zI H
    refine GoQ.pure rfl (fun w => opB (op_eql rfl rfl w) (decide_eq_false zI)) rfl rfl ?_
    refine GoQ.pure rfl (op_pickT rfl rfl rfl) rfl rfl ?_
    refine GoQ.pure rfl (op_move rfl) rfl rfl ?_
    refine GoQ.pass rfl rfl rfl ?_
    refine GoQ.pass rfl rfl rfl ?_
    refine GoQ.pass rfl rfl rfl ?_
    refine GoQ.pass rfl rfl rfl ?_
    refine GoQ.pass rfl rfl rfl ?_
    refine GoQ.pass rfl rfl rfl ?_
    refine GoQ.pure rfl (op_pickF rfl rfl rfl) rfl rfl ?_
    refine GoQ.pure rfl (op_move rfl) rfl rfl ?_
    refine GoQ.pass rfl rfl rfl ?_
    refine GoQ.pure rfl (op_pickF rfl rfl rfl) rfl rfl ?_
    refine GoQ.pure rfl (op_assign rfl) rfl rfl ?_
    refine GoQ.nil ?_
    refine Go1.ret1 Try.func13 rfl ?_
    exact ⟨false, rfl, hB.same, H⟩
   replace H := ifn vb H
   refine GoQ.pure rfl (fun w => opB (op_lss rfl rfl w) (decide_eq_false vb)) rfl rfl ?_
   refine GoQ.pure rfl (op_pickT rfl rfl rfl) rfl rfl ?_
   refine GoQ.pure rfl (op_move rfl) rfl rfl ?_
   refine GoQ.pass rfl rfl rfl ?_
   refine GoQ.pass rfl rfl rfl ?_
   refine GoQ.pass rfl rfl rfl ?_
   refine GoQ.pass rfl rfl rfl ?_
   refine GoQ.pass rfl rfl rfl ?_
   refine GoQ.pass rfl rfl rfl ?_
   refine GoQ.pass rfl rfl rfl ?_
   refine GoQ.pure rfl (op_pickF rfl rfl rfl) rfl rfl ?_
   refine GoQ.pure rfl (op_move rfl) rfl rfl ?_
   refine GoQ.pass rfl rfl rfl ?_
   refine GoQ.pass rfl rfl rfl ?_
   refine GoQ.pass rfl rfl rfl ?_
   refine GoQ.pass rfl rfl rfl ?_
   refine GoQ.pass rfl rfl rfl ?_
   refine GoQ.pass rfl rfl rfl ?_
   refine GoQ.pure rfl (op_pickF rfl rfl rfl) rfl rfl ?_
   refine GoQ.pure rfl (op_move rfl) rfl rfl ?_
   refine GoQ.pass rfl rfl rfl ?_
   refine GoQ.pure rfl (op_pickF rfl rfl rfl) rfl rfl ?_
   refine GoQ.pure rfl (op_assign rfl) rfl rfl ?_
   refine GoQ.nil ?_
   refine Go1.ret1 Try.func13 rfl ?_
   exact ⟨false, rfl, hB.same, H⟩
  replace H := ifn zH H
  refine GoQ.pure rfl (fun w => opB (op_geq rfl rfl w) (decide_eq_false zH)) rfl rfl ?_
  refine GoQ.pure rfl (op_move rfl) rfl rfl ?_
  refine GoQ.pass rfl rfl rfl ?_
  refine GoQ.pass rfl rfl rfl ?_
  refine GoQ.pass rfl rfl rfl ?_
  refine GoQ.pass rfl rfl rfl ?_
  refine GoQ.pass rfl rfl rfl ?_
  refine GoQ.pure rfl (op_pickF rfl rfl rfl) rfl rfl ?_
  refine GoQ.pure rfl (op_move rfl) rfl rfl ?_
  refine GoQ.pass rfl rfl rfl ?_
  refine GoQ.pass rfl rfl rfl ?_
  refine GoQ.pass rfl rfl rfl ?_
  refine GoQ.pass rfl rfl rfl ?_
  refine GoQ.pass rfl rfl rfl ?_
  refine GoQ.pass rfl rfl rfl ?_
  refine GoQ.pass rfl rfl rfl ?_
  refine GoQ.pure rfl (op_pickF rfl rfl rfl) rfl rfl ?_
  refine GoQ.pure rfl (op_move rfl) rfl rfl ?_
  refine GoQ.pass rfl rfl rfl ?_
  refine GoQ.pass rfl rfl rfl ?_
  refine GoQ.pass rfl rfl rfl ?_
  refine GoQ.pass rfl rfl rfl ?_
  refine GoQ.pass rfl rfl rfl ?_
  refine GoQ.pass rfl rfl rfl ?_
  refine GoQ.pure rfl (op_pickF rfl rfl rfl) rfl rfl ?_
  refine GoQ.pure rfl (op_move rfl) rfl rfl ?_
  refine GoQ.pass rfl rfl rfl ?_
  refine GoQ.pure rfl (op_pickF rfl rfl rfl) rfl rfl ?_
  refine GoQ.pure rfl (op_assign rfl) rfl rfl ?_
  refine GoQ.nil ?_
  refine Go1.ret1 Try.func13 rfl ?_
  exact ⟨false, rfl, hB.same, H⟩
 replace H := ifn h36 H
 refine GoR.op ((fun w => opB (op_neq rfl rfl w) (ndF h36)) _) rfl rfl ?_
 refine GoR.nil ?_
 refine Go1.condT rfl rfl ?_
 refine Go1.seq ?_
 refine Go1.cut [] trivial ?_
 intro σ _
 refine Go1.region ?_
 refine GoR.op ((op_assign rfl) _) rfl rfl ?_
 refine GoR.nil ?_
 refine Go1.ret1 Try.func13 rfl ?_
 exact ⟨false, rfl, hB.same, H⟩
end Sg
