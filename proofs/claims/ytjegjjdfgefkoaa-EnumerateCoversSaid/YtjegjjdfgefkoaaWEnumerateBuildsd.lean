/- The walks: each call keeps to its plain transformer. Printed by walkgen.py. -/
import Derived.Test.YtjegjjdfgefkoaaTi
import Derived.Test.YtjegjjdfgefkoaaWEnumerateBuildsb
import Derived.Test.YtjegjjdfgefkoaaWEnumerateBuildsc
namespace Sg
open Go Go.RowKit Go.Proofs
set_option linter.unusedVariables false
set_option linter.unusedSimpArgs false
set_option maxRecDepth 100000
set_option maxHeartbeats 4000000
theorem body16 : Body Try.prog 16 := ⟨Try.f16, Try.func16, rfl, by kernel_rfl⟩
theorem walk_law12_awake {A : List Nat} {w0 : World} (hA : ∀ b ∈ A, b < w0.heap.size) {K : Bool → Prop} (H : law12_awake  K) :
    CallsV Try.prog 16 #[] w0 (fun v w' => ∃ (r0 : Bool), v = .bool r0 ∧ Same w0 w' ∧ K r0) := by
 refine CallsV.of (l := []) Try.func16 rfl Try.ntmps16 rfl ?_
 have hO := Owns.start hA
 have hB := Fr.refl (bl []) w0
 unfold law12_awake at H
 refine Go1.seq ?_
 refine Go1.region ?_
 refine GoR.op ((op_assign rfl) _) rfl rfl ?_
 refine GoR.nil ?_
 refine Go1.seq ?_
 refine Go1.region ?_
 have hobt := obuild (r := Rp.int .i64) (n := 2) (parts := [(0, .int .i64 (1 : Int)), (1, .int .i64 (0 : Int))]) (vs := [.int .i64 (1 : Int), .int .i64 (0 : Int)]) (xs := [(1 : Int), (0 : Int)]) rfl Try.underlying26 ti3 hO (by decide) (by kernel_rfl) (Els.cons rfl rfl (Els.cons rfl rfl (Els.nil _ _ _) (by simp [mx])) (by simp [mx])) rfl
 obtain ⟨w1, p2, jj, hE4, hs5, Il⟩ := hobt
 refine GoR.op (Il rfl) rfl rfl ?_
 replace hO := jj.own
 replace hB := hB.trans jj.fr
 have hobt := obuild (r := Rp.int .i64) (n := 2) (parts := [(0, .int .i64 (0 : Int)), (1, .int .i64 (0 : Int))]) (vs := [.int .i64 (0 : Int), .int .i64 (0 : Int)]) (xs := [(0 : Int), (0 : Int)]) rfl Try.underlying26 ti3 hO (by decide) (by kernel_rfl) (Els.cons rfl rfl (Els.cons rfl rfl (Els.nil _ _ _) (by simp [mx])) (by simp [mx])) rfl
 obtain ⟨w8, p9, rI, Az, xG, ym⟩ := hobt
 refine GoR.op (ym rfl) rfl rfl ?_
 replace hE4 := hE4.ch rI.ch
 replace hO := rI.own
 replace hB := hB.trans rI.fr
 have hobt := freeze 1 hO rfl hE4
 obtain ⟨hO1, Im, o6, Io⟩ := hobt
 replace Az := Az.ch Im
 replace hB := hB.trans (Owns.dropFr _ _ 1)
 replace hO := hO1; clear hO1
 have hobt := freeze 0 hO rfl Az
 obtain ⟨hO1, Ip, sq, Iq⟩ := hobt
 replace o6 := o6.ch Ip
 replace hB := hB.trans (Owns.dropFr _ _ 0)
 replace hO := hO1; clear hO1
 have hobt := obuild (r := Rp.sl (Rp.int .i64)) (n := 2) (parts := [(0, .slice p2 2 2), (1, .slice p9 2 2)]) (vs := [.slice p2 2 2, .slice p9 2 2]) (xs := [[(1 : Int), (0 : Int)], [(0 : Int), (0 : Int)]]) rfl Try.underlying22 ti26 hO (by decide) (by kernel_rfl) (Els.cons rfl ⟨p2, 2, congrArg some (congrArg (fun nn => Value.slice p2 nn 2) Io), o6⟩ (Els.cons rfl ⟨p9, 2, congrArg some (congrArg (fun nn => Value.slice p9 nn 2) Iq), sq⟩ (Els.nil _ _ _) (by simp [mx])) (by simp [mx])) rfl
 obtain ⟨w21, p22, jt, cG, C5, yn⟩ := hobt
 refine GoR.op (yn rfl) rfl rfl ?_
 replace hO := jt.own
 replace o6 := o6.ch jt.ch
 replace sq := sq.ch jt.ch
 replace hB := hB.trans jt.fr
 have hobt := freeze 0 hO rfl cG
 obtain ⟨hO1, C6, ux, Ir⟩ := hobt
 replace o6 := o6.ch C6
 replace sq := sq.ch C6
 replace hB := hB.trans (Owns.dropFr _ _ 0)
 replace hO := hO1; clear hO1
 refine GoR.call (op_call body17 (show ([.slice p22 2 2, .bool true] : List Value) = [.slice p22 ([[(1 : Int), (0 : Int)], [(0 : Int), (0 : Int)]]).length 2, .bool true] from by rw [← Ir]) (walk_enumerate_Build hO.lt ux H)) rfl rfl ?_
 rintro v36 w33 ⟨r31, r32, uy, uz, t9, ua, tA, tB, uA, uB, ub, uc, ud, ue, rfl, It, pc, mZ, nl, pe, nT, m0, H⟩
 have wM := Stp.same hO It
 replace hO := wM.own
 replace o6 := o6.ch wM.ch
 replace sq := sq.ch wM.ch
 replace ux := ux.ch wM.ch
 replace hB := hB.trans wM.fr
 refine GoR.op ((op_move rfl) _) rfl rfl ?_
 refine GoR.op ((op_extract rfl rfl) _) rfl rfl ?_
 refine GoR.op ((op_extract rfl rfl) _) rfl rfl ?_
 have hobt := oalloc (t := 29) (cs := #[.int .i64 (0 : Int), .bool false, .slice none 0 0, .slice none 0 0, .slice none 0 0, .slice none 0 0, .slice none 0 0, .slice none 0 0, .int .i64 (0 : Int)]) ti29 hO rfl
 obtain ⟨w38, B39, rY, MX, Gv⟩ := hobt
 refine GoR.op Gv rfl rfl ?_
 replace hO := rY.own
 replace o6 := o6.ch rY.ch
 replace sq := sq.ch rY.ch
 replace ux := ux.ch rY.ch
 replace pc := pc.ch rY.ch
 replace mZ := mZ.ch rY.ch
 replace nl := nl.ch rY.ch
 replace pe := pe.ch rY.ch
 replace nT := nT.ch rY.ch
 replace m0 := m0.ch rY.ch
 replace hB := hB.trans rY.fr
 have hobt := oblkStAgg (us := [.int .i64 r31.Points, .bool r31.Monoid, .slice uy r31.Gens.length uz, .slice t9 r31.Elems.length ua, .slice tA r31.Prefix.length tB, .slice uA r31.Last.length uB, .slice ub r31.Right.length uc, .slice ud r31.Rules.length ue, .int .i64 r31.Done]) (o := 0) (cs' := #[.int .i64 r31.Points, .bool r31.Monoid, .slice uy r31.Gens.length uz, .slice t9 r31.Elems.length ua, .slice tA r31.Prefix.length tB, .slice uA r31.Last.length uB, .slice ub r31.Right.length uc, .slice ud r31.Rules.length ue, .int .i64 r31.Done]) 0 hO rfl rfl (Nat.le_of_ble_eq_true rfl) rfl
 obtain ⟨w44, rZ, Gw⟩ := hobt
 refine GoR.op (Gw ti29 (by exact rfl) (by exact rfl) rfl) rfl rfl ?_
 replace hO := rZ.own
 replace o6 := o6.ch rZ.ch
 replace sq := sq.ch rZ.ch
 replace ux := ux.ch rZ.ch
 replace pc := pc.ch rZ.ch
 replace mZ := mZ.ch rZ.ch
 replace nl := nl.ch rZ.ch
 replace pe := pe.ch rZ.ch
 replace nT := nT.ch rZ.ch
 replace m0 := m0.ch rZ.ch
 replace hB := hB.trans rZ.fr
 refine GoR.op ((op_assign rfl) _) rfl rfl ?_
 refine GoR.nil ?_
 refine Go1.seq ?_
 refine Go1.region ?_
 refine GoR.op ((op_move rfl) _) rfl rfl ?_
 by_cases h47 : r32 = (0 : Int)
 ·replace H := ifp h47 H
  refine GoR.op ((fun w => opB (op_eql rfl rfl w) (decide_eq_true h47)) _) rfl rfl ?_
  refine GoR.op ((op_move rfl) _) rfl rfl ?_
  refine GoR.op ((op_fieldAddr Try.underlying29 rfl ti22 rfl (by decide)) _) rfl rfl ?_
  refine GoR.op ((oblk (i := 3) 0 hO rfl rfl Try.underlying22 rfl rfl) _ (Same.refl _)) rfl rfl ?_
  refine GoR.op ((op_len Try.underlying22 rfl) _) rfl rfl ?_
  replace H := H mZ.bd
  by_cases h48 : (r31.Elems.length : Int) = (4 : Int)
  ·replace H := ifp h48 H
   refine GoR.op ((fun w => opB (op_eql rfl rfl w) (decide_eq_true h48)) _) rfl rfl ?_
   refine GoR.op ((op_pickT rfl rfl rfl) _) rfl rfl ?_
   refine GoR.op ((op_move rfl) _) rfl rfl ?_
   refine GoR.op ((op_fieldAddr Try.underlying29 rfl ti27 rfl (by decide)) _) rfl rfl ?_
   refine GoR.op ((oblk (i := 7) 0 hO rfl rfl Try.underlying27 rfl rfl) _ (Same.refl _)) rfl rfl ?_
   refine GoR.op ((op_len Try.underlying27 rfl) _) rfl rfl ?_
   replace H := H m0.bd
   by_cases h49 : (r31.Rules.length : Int) = (3 : Int)
   ·replace H := ifp h49 H
    refine GoR.op ((fun w => opB (op_eql rfl rfl w) (decide_eq_true h49)) _) rfl rfl ?_
    refine GoR.op ((op_pickT rfl rfl rfl) _) rfl rfl ?_
    refine GoR.op ((op_move rfl) _) rfl rfl ?_
    refine GoR.op ((oblkAgg (vs := [.int .i64 r31.Points, .bool r31.Monoid, .slice uy r31.Gens.length uz, .slice t9 r31.Elems.length ua, .slice tA r31.Prefix.length tB, .slice uA r31.Last.length uB, .slice ub r31.Right.length uc, .slice ud r31.Rules.length ue, .int .i64 r31.Done]) (i := 0) 0 hO rfl rfl Try.underlying29 rfl ti29 rfl) _ (Same.refl _)) rfl rfl ?_
    refine GoR.call (op_call body29 rfl (walk_enumerate_Word (e := r31) hO.lt pc mZ nl pe nT m0 H)) rfl rfl ?_
    rintro v54 w51 ⟨r50, rfl, Iu, IY, H⟩
    have sa := Stp.same hO Iu
    replace hO := sa.own
    replace o6 := o6.ch sa.ch
    replace sq := sq.ch sa.ch
    replace ux := ux.ch sa.ch
    replace pc := pc.ch sa.ch
    replace mZ := mZ.ch sa.ch
    replace nl := nl.ch sa.ch
    replace pe := pe.ch sa.ch
    replace nT := nT.ch sa.ch
    replace m0 := m0.ch sa.ch
    replace hB := hB.trans sa.fr
    by_cases h56 : r50 = (([98, 97] : Str))
    ·replace H := ifp h56 H
     refine GoR.op ((fun w => opB (op_eqlS rfl rfl w) (decide_eq_true h56)) _) rfl rfl ?_
     refine GoR.op ((op_pickT rfl rfl rfl) _) rfl rfl ?_
     refine GoR.op ((op_assign rfl) _) rfl rfl ?_
     refine GoR.nil ?_
     refine Go1.ret1 Try.func16 rfl ?_
     exact ⟨true, rfl, hB.same, H⟩
    replace H := ifn h56 H
    refine GoR.op ((fun w => opB (op_eqlS rfl rfl w) (decide_eq_false h56)) _) rfl rfl ?_
    refine GoR.op ((op_pickT rfl rfl rfl) _) rfl rfl ?_
    refine GoR.op ((op_assign rfl) _) rfl rfl ?_
    refine GoR.nil ?_
    refine Go1.ret1 Try.func16 rfl ?_
    exact ⟨false, rfl, hB.same, H⟩
   replace H := ifn h49 H
   refine GoR.op ((fun w => opB (op_eql rfl rfl w) (decide_eq_false h49)) _) rfl rfl ?_
   refine GoR.op ((op_pickT rfl rfl rfl) _) rfl rfl ?_
   refine GoR.op ((op_move rfl) _) rfl rfl ?_
   refine GoR.pass rfl rfl ?_
   refine GoR.pass rfl rfl ?_
   refine GoR.pass rfl rfl ?_
   refine GoR.op ((op_pickF rfl rfl rfl) _) rfl rfl ?_
   refine GoR.op ((op_assign rfl) _) rfl rfl ?_
   refine GoR.nil ?_
   refine Go1.ret1 Try.func16 rfl ?_
   exact ⟨false, rfl, hB.same, H⟩
  replace H := ifn h48 H
  refine GoR.op ((fun w => opB (op_eql rfl rfl w) (decide_eq_false h48)) _) rfl rfl ?_
  refine GoR.op ((op_pickT rfl rfl rfl) _) rfl rfl ?_
  refine GoR.op ((op_move rfl) _) rfl rfl ?_
  refine GoR.pass rfl rfl ?_
  refine GoR.pass rfl rfl ?_
  refine GoR.pass rfl rfl ?_
  refine GoR.pass rfl rfl ?_
  refine GoR.op ((op_pickF rfl rfl rfl) _) rfl rfl ?_
  refine GoR.op ((op_move rfl) _) rfl rfl ?_
  refine GoR.pass rfl rfl ?_
  refine GoR.pass rfl rfl ?_
  refine GoR.pass rfl rfl ?_
  refine GoR.op ((op_pickF rfl rfl rfl) _) rfl rfl ?_
  refine GoR.op ((op_assign rfl) _) rfl rfl ?_
  refine GoR.nil ?_
  refine Go1.ret1 Try.func16 rfl ?_
  exact ⟨false, rfl, hB.same, H⟩
 replace H := ifn h47 H
 refine GoR.op ((fun w => opB (op_eql rfl rfl w) (decide_eq_false h47)) _) rfl rfl ?_
 refine GoR.op ((op_move rfl) _) rfl rfl ?_
 refine GoR.pass rfl rfl ?_
 refine GoR.pass rfl rfl ?_
 refine GoR.pass rfl rfl ?_
 refine GoR.pass rfl rfl ?_
 refine GoR.op ((op_pickF rfl rfl rfl) _) rfl rfl ?_
 refine GoR.op ((op_move rfl) _) rfl rfl ?_
 refine GoR.pass rfl rfl ?_
 refine GoR.pass rfl rfl ?_
 refine GoR.pass rfl rfl ?_
 refine GoR.pass rfl rfl ?_
 refine GoR.op ((op_pickF rfl rfl rfl) _) rfl rfl ?_
 refine GoR.op ((op_move rfl) _) rfl rfl ?_
 refine GoR.pass rfl rfl ?_
 refine GoR.pass rfl rfl ?_
 refine GoR.pass rfl rfl ?_
 refine GoR.op ((op_pickF rfl rfl rfl) _) rfl rfl ?_
 refine GoR.op ((op_assign rfl) _) rfl rfl ?_
 refine GoR.nil ?_
 refine Go1.ret1 Try.func16 rfl ?_
 exact ⟨false, rfl, hB.same, H⟩
end Sg
