/- The walks: each call keeps to its plain transformer. Printed by walkgen.py. -/
import Derived.Test.YtdcibmiaiijjpaaTi
import Derived.Test.YtdcibmiaiijjpaaWGreenOrdersb
import Derived.Test.YtdcibmiaiijjpaaAl
namespace Sg
open Go Go.RowKit Go.Proofs
set_option linter.unusedVariables false
set_option linter.unusedSimpArgs false
set_option maxRecDepth 100000
set_option maxHeartbeats 4000000
theorem walk_law15_GreenOrders {A : List Nat} {w0 : World} {ay : Option Addr} {az : Nat} {a0 : List (List Int)} {a1 : Int} {a2 : Int} {a3 : Int} (hA : ∀ b ∈ A, b < w0.heap.size) (ao : ISl (Rp.sl (Rp.int .i64)) A w0 ay az a0) {K : Bool → Prop} (H : law15_GreenOrders a0 a1 a2 a3 K) :
    CallsV Try.prog 3 #[.slice ay a0.length az, .int .i64 a1, .int .i64 a2, .int .i64 a3] w0 (fun v w' => ∃ (r0 : Bool), v = .bool r0 ∧ Same w0 w' ∧ K r0) := by
 refine CallsV.of (l := [.slice ay a0.length az, .int .i64 a1, .int .i64 a2, .int .i64 a3]) Try.func3 rfl Try.ntmps3 rfl ?_
 have hO := Owns.start hA
 have hB := Fr.refl (bl []) w0
 unfold law15_GreenOrders at H
 refine zq (zr (za rfl (zn (zq (zq ?_)))))
 refine zr (zm rfl ?_)
 replace ao := ao.ch (Ch.start A w0)
 refine GoR.call (op_call body6 rfl (walk_law15_small hO.lt ao H)) rfl rfl ?_
 rintro v5 w2 ⟨r1, rfl, hs3, H⟩
 have aV := Stp.same hO hs3
 replace hO := aV.own
 refine GoR.join (S := Bool) 12 (fun s σ w => agrees σ [(0, .slice ay a0.length az), (1, .int .i64 a1), (2, .int .i64 a2), (3, .int .i64 a3), (22, .bool s)] ∧ Owns w0.heap.size w [] A ∧ ISl (Rp.sl (Rp.int .i64)) (bl [] ++ A) w ay az a0 ∧ Fr (bl []) w0 (bl []) w) H ?_ ?_
 ·replace ao := ao.ch aV.ch
  replace hB := hB.trans aV.fr
  rintro jb1_8 σ w7 H ⟨hag, hO, ao, hB⟩
  unfold law15_GreenOrders_J1 at H
  refine GoR.keep [(0, .slice ay a0.length az), (1, .int .i64 a1), (2, .int .i64 a2), (3, .int .i64 a3), (22, .bool jb1_8)] hag ?_
  as_aux_lemma =>
   refine zn ?_
   cases jb1_8
   ·replace H := ifn Bool.false_ne_true H
    refine zf rfl rfl (zk (zq (zr (zm rfl ?_))))
    refine GoR.call (op_call body9 rfl (walk_green_Classes hO.lt ao H)) rfl rfl ?_
    rintro v13 w10 ⟨r9, ae, af, ag, ah, ai, aj, ak, am, aa, ab, rfl, qb, aq, ap, ar, au, ad, H⟩
    have dh := Stp.same hO qb
    replace hO := dh.own
    have hobt := oalloc (t := 29) (cs := #[.slice none 0 0, .slice none 0 0, .slice none 0 0, .slice none 0 0, .slice none 0 0]) ti29 hO rfl
    obtain ⟨w15, B16, cS, jr, iW⟩ := hobt
    refine GoR.op iW rfl rfl ?_
    replace hO := cS.own
    have hobt := oblkStAgg (us := [.slice ae r9.R.length af, .slice ag r9.L.length ah, .slice ai r9.J.length aj, .slice ak r9.H.length am, .slice aa r9.Below.length ab]) (o := 0) (cs' := #[.slice ae r9.R.length af, .slice ag r9.L.length ah, .slice ai r9.J.length aj, .slice ak r9.H.length am, .slice aa r9.Below.length ab]) 0 hO rfl rfl (Nat.le_of_ble_eq_true rfl) rfl
    obtain ⟨w21, fq, iQ⟩ := hobt
    refine zg (iQ ti29 (by exact rfl) (by exact rfl) rfl) ?_
    replace hO := fq.own
    refine zn (zq (zq (zr (zo (op_fieldAddr Try.underlying29 rfl ti26 rfl (by decide)) (zs (oblk (i := 0) 0 hO rfl rfl Try.underlying26 rfl rfl) ?_)))))
    refine zo (op_len Try.underlying26 rfl) ?_
    replace aq := (aq.ch cS.ch).ch fq.ch
    replace H := H aq.bd
    refine zm rfl (zo (op_len Try.underlying22 rfl) ?_)
    have Z1 := (dh.ch.trans cS.ch).trans fq.ch
    replace ao := ao.ch Z1
    replace H := H ao.bd
    refine GoR.join (S := Bool) 14 (fun s σ w => agrees σ [(0, .slice ay a0.length az), (1, .int .i64 a1), (2, .int .i64 a2), (3, .int .i64 a3), (9, .pointer (some ⟨B16, 0, none⟩)), (39, .bool s)] ∧ (fun Z0 => Owns w0.heap.size w Z0 A ∧ ISl (Rp.sl (Rp.int .i64)) (bl Z0 ++ A) w ay az a0 ∧ ISl (Rp.int .i64) (bl Z0 ++ A) w ae af r9.R ∧ ISl (Rp.int .i64) (bl Z0 ++ A) w ag ah r9.L ∧ ISl (Rp.int .i64) (bl Z0 ++ A) w ai aj r9.J ∧ ISl (Rp.int .i64) (bl Z0 ++ A) w ak am r9.H ∧ ISl (Rp.sl (Rp.bool)) (bl Z0 ++ A) w aa ab r9.Below ∧ Fr (bl []) w0 (bl Z0) w) [.blk B16 (.cells #[.slice ae r9.R.length af, .slice ag r9.L.length ah, .slice ai r9.J.length aj, .slice ak r9.H.length am, .slice aa r9.Below.length ab] 29 (0, 0))]) H ?_ ?_
    ·have Z2 := cS.ch.trans fq.ch
     replace ap := ap.ch Z2
     replace ar := ar.ch Z2
     replace au := au.ch Z2
     replace ad := ad.ch Z2
     replace hB := ((hB.trans dh.fr).trans cS.fr).trans fq.fr
     rintro jb2_25 σ w24 H ⟨hag, hO, ao, aq, ap, ar, au, ad, hB⟩
     unfold law15_GreenOrders_J2 at H
     refine GoR.keep [(0, .slice ay a0.length az), (1, .int .i64 a1), (2, .int .i64 a2), (3, .int .i64 a3), (9, .pointer (some ⟨B16, 0, none⟩)), (39, .bool jb2_25)] hag ?_
     as_aux_lemma =>
      refine GoR.join (S := Bool) 22 (fun s σ w => agrees σ [(0, .slice ay a0.length az), (1, .int .i64 a1), (2, .int .i64 a2), (3, .int .i64 a3), (9, .pointer (some ⟨B16, 0, none⟩)), (47, .bool s)] ∧ (fun Z0 => Owns w0.heap.size w Z0 A ∧ ISl (Rp.sl (Rp.int .i64)) (bl Z0 ++ A) w ay az a0 ∧ ISl (Rp.int .i64) (bl Z0 ++ A) w ae af r9.R ∧ ISl (Rp.int .i64) (bl Z0 ++ A) w ag ah r9.L ∧ ISl (Rp.int .i64) (bl Z0 ++ A) w ai aj r9.J ∧ ISl (Rp.int .i64) (bl Z0 ++ A) w ak am r9.H ∧ ISl (Rp.sl (Rp.bool)) (bl Z0 ++ A) w aa ab r9.Below ∧ Fr (bl []) w0 (bl Z0) w) [.blk B16 (.cells #[.slice ae r9.R.length af, .slice ag r9.L.length ah, .slice ai r9.J.length aj, .slice ak r9.H.length am, .slice aa r9.Below.length ab] 29 (0, 0))]) H ?_ ?_
      ·rintro jb3_27 σ w26 H ⟨hag, hO, ao, aq, ap, ar, au, ad, hB⟩
       unfold law15_GreenOrders_J3 at H
       refine GoR.keep [(0, .slice ay a0.length az), (1, .int .i64 a1), (2, .int .i64 a2), (3, .int .i64 a3), (9, .pointer (some ⟨B16, 0, none⟩)), (47, .bool jb3_27)] hag ?_
       as_aux_lemma =>
        refine GoR.join (S := Bool) 30 (fun s σ w => agrees σ [(0, .slice ay a0.length az), (1, .int .i64 a1), (2, .int .i64 a2), (3, .int .i64 a3), (9, .pointer (some ⟨B16, 0, none⟩)), (55, .bool s)] ∧ (fun Z0 => Owns w0.heap.size w Z0 A ∧ ISl (Rp.sl (Rp.int .i64)) (bl Z0 ++ A) w ay az a0 ∧ ISl (Rp.int .i64) (bl Z0 ++ A) w ae af r9.R ∧ ISl (Rp.int .i64) (bl Z0 ++ A) w ag ah r9.L ∧ ISl (Rp.int .i64) (bl Z0 ++ A) w ai aj r9.J ∧ ISl (Rp.int .i64) (bl Z0 ++ A) w ak am r9.H ∧ ISl (Rp.sl (Rp.bool)) (bl Z0 ++ A) w aa ab r9.Below ∧ Fr (bl []) w0 (bl Z0) w) [.blk B16 (.cells #[.slice ae r9.R.length af, .slice ag r9.L.length ah, .slice ai r9.J.length aj, .slice ak r9.H.length am, .slice aa r9.Below.length ab] 29 (0, 0))]) H ?_ ?_
        ·rintro jb4_29 σ w28 H ⟨hag, hO, ao, aq, ap, ar, au, ad, hB⟩
         unfold law15_GreenOrders_J4 at H
         refine GoR.keep [(0, .slice ay a0.length az), (1, .int .i64 a1), (2, .int .i64 a2), (3, .int .i64 a3), (9, .pointer (some ⟨B16, 0, none⟩)), (55, .bool jb4_29)] hag ?_
         as_aux_lemma =>
          refine zn ?_
          cases jb4_29
          ·replace H := ifn Bool.false_ne_true H
           refine zf rfl rfl (zk (zq ?_))
           refine Go1.cut [(0, .slice ay a0.length az), (1, .int .i64 a1), (2, .int .i64 a2), (3, .int .i64 a3), (9, .pointer (some ⟨B16, 0, none⟩))] ⟨rfl, rfl, rfl, rfl, rfl, trivial⟩ ?_
           intro σ _
           refine zr (zm rfl (zm rfl ?_))
           obtain ⟨h30, H⟩ := H
           obtain ⟨h31, H⟩ := H
           refine zo (op_index Try.underlying22 ti26 rfl rfl h30 h31 (ao.some_ h30 h31)) ?_
           have hobt := ldSl ao h30 h31
           obtain ⟨p32, c33, gS, qc⟩ := hobt
           refine zs (qc Try.underlying26 rfl rfl) (zm rfl ?_)
           obtain ⟨h36, H⟩ := H
           obtain ⟨h37, H⟩ := H
           refine zo (op_index Try.underlying26 ti3 rfl rfl h36 h37 (gS.some_ h36 h37)) (zs (ldInt gS h36 h37 Try.underlying3 rfl rfl) (za rfl (zn (zq (zq ?_)))))
           refine zr (zm rfl (zm rfl (zm rfl ?_)))
           refine GoR.call (op_call body10 rfl (walk_green_LeqR hO.lt ao H)) rfl rfl ?_
           rintro v42 w39 ⟨r38, rfl, kc, H⟩
           have b9 := Stp.same hO kc
           replace hO := b9.own
           refine GoR.join (S := Bool) 12 (fun s σ w => agrees σ [(0, .slice ay a0.length az), (1, .int .i64 a1), (2, .int .i64 a2), (3, .int .i64 a3), (9, .pointer (some ⟨B16, 0, none⟩)), (10, .int .i64 (ix (ix a0 a1) a2)), (74, .bool s)] ∧ (fun Z0 => Owns w0.heap.size w Z0 A ∧ ISl (Rp.sl (Rp.int .i64)) (bl Z0 ++ A) w ay az a0 ∧ ISl (Rp.int .i64) (bl Z0 ++ A) w ae af r9.R ∧ ISl (Rp.int .i64) (bl Z0 ++ A) w ag ah r9.L ∧ ISl (Rp.int .i64) (bl Z0 ++ A) w ai aj r9.J ∧ ISl (Rp.int .i64) (bl Z0 ++ A) w ak am r9.H ∧ ISl (Rp.sl (Rp.bool)) (bl Z0 ++ A) w aa ab r9.Below ∧ Fr (bl []) w0 (bl Z0) w) [.blk B16 (.cells #[.slice ae r9.R.length af, .slice ag r9.L.length ah, .slice ai r9.J.length aj, .slice ak r9.H.length am, .slice aa r9.Below.length ab] 29 (0, 0))]) H ?_ ?_
           ·replace ao := ao.ch b9.ch
            replace aq := aq.ch b9.ch
            replace ap := ap.ch b9.ch
            replace ar := ar.ch b9.ch
            replace au := au.ch b9.ch
            replace ad := ad.ch b9.ch
            replace hB := hB.trans b9.fr
            rintro jb5_45 σ w44 H ⟨hag, hO, ao, aq, ap, ar, au, ad, hB⟩
            unfold law15_GreenOrders_J5 at H
            refine GoR.keep [(0, .slice ay a0.length az), (1, .int .i64 a1), (2, .int .i64 a2), (3, .int .i64 a3), (9, .pointer (some ⟨B16, 0, none⟩)), (10, .int .i64 (ix (ix a0 a1) a2)), (74, .bool jb5_45)] hag ?_
            as_aux_lemma =>
             refine GoR.join (S := Bool) 19 (fun s σ w => agrees σ [(0, .slice ay a0.length az), (1, .int .i64 a1), (2, .int .i64 a2), (3, .int .i64 a3), (9, .pointer (some ⟨B16, 0, none⟩)), (10, .int .i64 (ix (ix a0 a1) a2)), (81, .bool s)] ∧ (fun Z0 => Owns w0.heap.size w Z0 A ∧ ISl (Rp.sl (Rp.int .i64)) (bl Z0 ++ A) w ay az a0 ∧ ISl (Rp.int .i64) (bl Z0 ++ A) w ae af r9.R ∧ ISl (Rp.int .i64) (bl Z0 ++ A) w ag ah r9.L ∧ ISl (Rp.int .i64) (bl Z0 ++ A) w ai aj r9.J ∧ ISl (Rp.int .i64) (bl Z0 ++ A) w ak am r9.H ∧ ISl (Rp.sl (Rp.bool)) (bl Z0 ++ A) w aa ab r9.Below ∧ Fr (bl []) w0 (bl Z0) w) [.blk B16 (.cells #[.slice ae r9.R.length af, .slice ag r9.L.length ah, .slice ai r9.J.length aj, .slice ak r9.H.length am, .slice aa r9.Below.length ab] 29 (0, 0))]) H ?_ ?_
             ·rintro jb6_47 σ w46 H ⟨hag, hO, ao, aq, ap, ar, au, ad, hB⟩
              unfold law15_GreenOrders_J6 at H
              refine GoR.keep [(0, .slice ay a0.length az), (1, .int .i64 a1), (2, .int .i64 a2), (3, .int .i64 a3), (9, .pointer (some ⟨B16, 0, none⟩)), (10, .int .i64 (ix (ix a0 a1) a2)), (81, .bool jb6_47)] hag ?_
              as_aux_lemma =>
               refine GoR.join (S := Bool) 26 (fun s σ w => agrees σ [(0, .slice ay a0.length az), (1, .int .i64 a1), (2, .int .i64 a2), (3, .int .i64 a3), (9, .pointer (some ⟨B16, 0, none⟩)), (88, .bool s)] ∧ (fun Z0 => Owns w0.heap.size w Z0 A ∧ ISl (Rp.sl (Rp.int .i64)) (bl Z0 ++ A) w ay az a0 ∧ ISl (Rp.int .i64) (bl Z0 ++ A) w ae af r9.R ∧ ISl (Rp.int .i64) (bl Z0 ++ A) w ag ah r9.L ∧ ISl (Rp.int .i64) (bl Z0 ++ A) w ai aj r9.J ∧ ISl (Rp.int .i64) (bl Z0 ++ A) w ak am r9.H ∧ ISl (Rp.sl (Rp.bool)) (bl Z0 ++ A) w aa ab r9.Below ∧ Fr (bl []) w0 (bl Z0) w) [.blk B16 (.cells #[.slice ae r9.R.length af, .slice ag r9.L.length ah, .slice ai r9.J.length aj, .slice ak r9.H.length am, .slice aa r9.Below.length ab] 29 (0, 0))]) H ?_ ?_
               ·rintro jb7_49 σ w48 H ⟨hag, hO, ao, aq, ap, ar, au, ad, hB⟩
                unfold law15_GreenOrders_J7 at H
                refine GoR.keep [(0, .slice ay a0.length az), (1, .int .i64 a1), (2, .int .i64 a2), (3, .int .i64 a3), (9, .pointer (some ⟨B16, 0, none⟩)), (88, .bool jb7_49)] hag ?_
                as_aux_lemma =>
                 refine zn ?_
                 cases jb7_49
                 ·replace H := ifn Bool.false_ne_true H
                  refine zf rfl rfl (zk (zq (zq ?_)))
                  refine Go1.cut [(0, .slice ay a0.length az), (1, .int .i64 a1), (2, .int .i64 a2), (3, .int .i64 a3), (9, .pointer (some ⟨B16, 0, none⟩))] ⟨rfl, rfl, rfl, rfl, rfl, trivial⟩ ?_
                  intro σ _
                  refine zr (zm rfl (zm rfl (zm rfl ?_)))
                  refine GoR.call (op_call body10 rfl (walk_green_LeqR hO.lt ao H)) rfl rfl ?_
                  rintro v54 w51 ⟨r50, rfl, lI, H⟩
                  have ft := Stp.same hO lI
                  replace hO := ft.own
                  refine GoR.join (S := Bool) 10 (fun s σ w => agrees σ [(0, .slice ay a0.length az), (1, .int .i64 a1), (2, .int .i64 a2), (3, .int .i64 a3), (9, .pointer (some ⟨B16, 0, none⟩)), (98, .bool s)] ∧ (fun Z0 => Owns w0.heap.size w Z0 A ∧ ISl (Rp.sl (Rp.int .i64)) (bl Z0 ++ A) w ay az a0 ∧ ISl (Rp.int .i64) (bl Z0 ++ A) w ae af r9.R ∧ ISl (Rp.int .i64) (bl Z0 ++ A) w ag ah r9.L ∧ ISl (Rp.int .i64) (bl Z0 ++ A) w ai aj r9.J ∧ ISl (Rp.int .i64) (bl Z0 ++ A) w ak am r9.H ∧ ISl (Rp.sl (Rp.bool)) (bl Z0 ++ A) w aa ab r9.Below ∧ Fr (bl []) w0 (bl Z0) w) [.blk B16 (.cells #[.slice ae r9.R.length af, .slice ag r9.L.length ah, .slice ai r9.J.length aj, .slice ak r9.H.length am, .slice aa r9.Below.length ab] 29 (0, 0))]) H ?_ ?_
                  ·replace ao := ao.ch ft.ch
                   replace aq := aq.ch ft.ch
                   replace ap := ap.ch ft.ch
                   replace ar := ar.ch ft.ch
                   replace au := au.ch ft.ch
                   replace ad := ad.ch ft.ch
                   replace hB := hB.trans ft.fr
                   rintro jb8_57 σ w56 H ⟨hag, hO, ao, aq, ap, ar, au, ad, hB⟩
                   unfold law15_GreenOrders_J8 at H
                   refine GoR.keep [(0, .slice ay a0.length az), (1, .int .i64 a1), (2, .int .i64 a2), (3, .int .i64 a3), (9, .pointer (some ⟨B16, 0, none⟩)), (98, .bool jb8_57)] hag ?_
                   as_aux_lemma =>
                    refine GoR.join (S := Bool) 17 (fun s σ w => agrees σ [(0, .slice ay a0.length az), (1, .int .i64 a1), (2, .int .i64 a2), (3, .int .i64 a3), (9, .pointer (some ⟨B16, 0, none⟩)), (105, .bool s)] ∧ (fun Z0 => Owns w0.heap.size w Z0 A ∧ ISl (Rp.sl (Rp.int .i64)) (bl Z0 ++ A) w ay az a0 ∧ ISl (Rp.int .i64) (bl Z0 ++ A) w ae af r9.R ∧ ISl (Rp.int .i64) (bl Z0 ++ A) w ag ah r9.L ∧ ISl (Rp.int .i64) (bl Z0 ++ A) w ai aj r9.J ∧ ISl (Rp.int .i64) (bl Z0 ++ A) w ak am r9.H ∧ ISl (Rp.sl (Rp.bool)) (bl Z0 ++ A) w aa ab r9.Below ∧ Fr (bl []) w0 (bl Z0) w) [.blk B16 (.cells #[.slice ae r9.R.length af, .slice ag r9.L.length ah, .slice ai r9.J.length aj, .slice ak r9.H.length am, .slice aa r9.Below.length ab] 29 (0, 0))]) H ?_ ?_
                    ·rintro jb9_59 σ w58 H ⟨hag, hO, ao, aq, ap, ar, au, ad, hB⟩
                     unfold law15_GreenOrders_J9 at H
                     refine GoR.keep [(0, .slice ay a0.length az), (1, .int .i64 a1), (2, .int .i64 a2), (3, .int .i64 a3), (9, .pointer (some ⟨B16, 0, none⟩)), (105, .bool jb9_59)] hag ?_
                     as_aux_lemma =>
                      refine GoR.join (S := Bool) 36 (fun s σ w => agrees σ [(0, .slice ay a0.length az), (1, .int .i64 a1), (2, .int .i64 a2), (9, .pointer (some ⟨B16, 0, none⟩)), (124, .bool s)] ∧ (fun Z0 => Owns w0.heap.size w Z0 A ∧ ISl (Rp.sl (Rp.int .i64)) (bl Z0 ++ A) w ay az a0 ∧ ISl (Rp.int .i64) (bl Z0 ++ A) w ae af r9.R ∧ ISl (Rp.int .i64) (bl Z0 ++ A) w ag ah r9.L ∧ ISl (Rp.int .i64) (bl Z0 ++ A) w ai aj r9.J ∧ ISl (Rp.int .i64) (bl Z0 ++ A) w ak am r9.H ∧ ISl (Rp.sl (Rp.bool)) (bl Z0 ++ A) w aa ab r9.Below ∧ Fr (bl []) w0 (bl Z0) w) [.blk B16 (.cells #[.slice ae r9.R.length af, .slice ag r9.L.length ah, .slice ai r9.J.length aj, .slice ak r9.H.length am, .slice aa r9.Below.length ab] 29 (0, 0))]) H ?_ ?_
                      ·rintro jb10_61 σ w60 H ⟨hag, hO, ao, aq, ap, ar, au, ad, hB⟩
                       unfold law15_GreenOrders_J10 at H
                       refine GoR.keep [(0, .slice ay a0.length az), (1, .int .i64 a1), (2, .int .i64 a2), (9, .pointer (some ⟨B16, 0, none⟩)), (124, .bool jb10_61)] hag ?_
                       as_aux_lemma =>
                        refine zn ?_
                        cases jb10_61
                        ·replace H := ifn Bool.false_ne_true H
                         refine zf rfl rfl (zk (zq ?_))
                         refine Go1.cut [(0, .slice ay a0.length az), (1, .int .i64 a1), (2, .int .i64 a2), (9, .pointer (some ⟨B16, 0, none⟩))] ⟨rfl, rfl, rfl, rfl, trivial⟩ ?_
                         intro σ _
                         refine Go1.drawSF [0, 1, 0, 6, 8, 0, 32, 0, 192, 256, 528, 0, 0, 0, 14336, 16384, 32768, 32768, 32768, 491520, 557056, 1049600, 2621440, 4194304, 12582912, 4194304, 54525952, 71303168, 4194304, 272629760, 4194304, 1614807040, 2151677952, 4433379328, 4194304, 4194304, 4194304, 120263278592, 137443147776, 274877906944, 274877906944, 274877906944, 4123168604160, 4672928612352, 8804687151104, 17592190238720, 39582418599936, 70368744177664, 211106232532992, 70368744177664, 914793674309632, 1196268651020288, 70368744177664, 4573968371548160, 70368744177664, 27091966508400640, 36099165763141632, 74379762595790848, 70368744177664, 70368744177664, 70368744177664, 2017683001806159872, 2305913377957871616, 4611686018427387904, 4611686018427387904, 4611686018427387904, 69175290276410818560, 78398732682009772032, 147718138146496446464, 295147975548097003520, 664082786653543858176, 1180591620717411303424, 3541774862152233910272, 1180591620717411303424, 15347691069326346944512, 20070057552195992158208, 1180591620717411303424, 76738455346631734722560, 1180591620717411303424, 454527773976203351818240, 605643501428031998656512, 1247885343098303747719168, 1180591620717411303424, 4836883870079234110128128, 1180591620717411303424, 29015400262371817604251648, 38686806819288851001901056, 1180591620717411303424, 154743685502293251773693952, 1180591620717411303424, 928456210055655923585646592, 1237941219877000992310427648, 2553252511617717534390747136, 4951761337733141817007800320, 9903520314283042199192993792, 29710560942849126597578981376, 9903520314283042199192993792, 128745764085679548589508919296, 168359845342811717386280894464, 9903520314283042199192993792, 643728820428397742947544596480, 9903520314283042199192993792, 3812855320998971246689302609920, 5080505921227200648186005815296, 10468020972197175604546994438144, 20292313125146545086863855583232, 40564821626335571697870263287808, 81129638415787273316506416447488, 162269180349527646433777203281920, 324518553658426726783156020576256, 973555660975280180349468061728768, 2596148429267413814265248164610047] [1, 3, 7, 15, 31, 63, 127, 255, 511, 1023, 2047, 4095, 8191, 16383, 32767, 65535, 131071, 262143, 524287, 1048575, 2097151, 4194303, 8388607, 16777215, 33554431, 67108863, 134217727, 268435455, 536870911, 1073741823, 2147483647, 4294967295, 8589934591, 17179869183, 34359738367, 68719476735, 137438953471, 274877906943, 549755813887, 1099511627775, 2199023255551, 4398046511103, 8796093022207, 17592186044415, 35184372088831, 70368744177663, 140737488355327, 281474976710655, 562949953421311, 1125899906842623, 2251799813685247, 4503599627370495, 9007199254740991, 18014398509481983, 36028797018963967, 72057594037927935, 144115188075855871, 288230376151711743, 576460752303423487, 1152921504606846975, 2305843009213693951, 4611686018427387903, 9223372036854775807, 18446744073709551615, 36893488147419103231, 73786976294838206463, 147573952589676412927, 295147905179352825855, 590295810358705651711, 1180591620717411303423, 2361183241434822606847, 4722366482869645213695, 9444732965739290427391, 18889465931478580854783, 37778931862957161709567, 75557863725914323419135, 151115727451828646838271, 302231454903657293676543, 604462909807314587353087, 1208925819614629174706175, 2417851639229258349412351, 4835703278458516698824703, 9671406556917033397649407, 19342813113834066795298815, 38685626227668133590597631, 77371252455336267181195263, 154742504910672534362390527, 309485009821345068724781055, 618970019642690137449562111, 1237940039285380274899124223, 2475880078570760549798248447, 4951760157141521099596496895, 9903520314283042199192993791, 19807040628566084398385987583, 39614081257132168796771975167, 79228162514264337593543950335, 158456325028528675187087900671, 316912650057057350374175801343, 633825300114114700748351602687, 1267650600228229401496703205375, 2535301200456458802993406410751, 5070602400912917605986812821503, 10141204801825835211973625643007, 20282409603651670423947251286015, 40564819207303340847894502572031, 81129638414606681695789005144063, 162259276829213363391578010288127, 324518553658426726783156020576255, 649037107316853453566312041152511, 1298074214633706907132624082305023, 2596148429267413814265248164610047, 5192296858534827628530496329220095] 0 [(0, .pure), (1, .stable), (2, .pure), (3, .pure), (4, .stable), (5, .pure), (6, .stable), (7, .pure), (8, .pure), (9, .stable), (10, .pure), (11, .pure), (12, .pure), (13, .pure), (14, .loud), (15, .pure), (16, .pure), (17, .pure), (18, .pure), (19, .loud), (20, .pure), (21, .pure), (22, .pure), (23, .pure), (24, .stable), (25, .pure), (26, .pure), (27, .stable), (28, .pure), (29, .stable), (30, .pure), (31, .pure), (32, .stable), (33, .pure), (34, .pure), (35, .pure), (36, .pure), (37, .loud), (38, .pure), (39, .pure), (40, .pure), (41, .pure), (42, .loud), (43, .pure), (44, .pure), (45, .pure), (46, .pure), (47, .pure), (48, .stable), (49, .pure), (50, .pure), (51, .stable), (52, .pure), (53, .stable), (54, .pure), (55, .pure), (56, .stable), (57, .pure), (58, .pure), (59, .pure), (60, .pure), (61, .loud), (62, .pure), (63, .pure), (64, .pure), (65, .pure), (66, .loud), (67, .pure), (68, .pure), (69, .pure), (70, .pure), (71, .pure), (72, .stable), (73, .pure), (74, .pure), (75, .stable), (76, .pure), (77, .stable), (78, .pure), (79, .pure), (80, .stable), (81, .pure), (82, .pure), (83, .stable), (84, .pure), (85, .pure), (86, .stable), (87, .pure), (88, .stable), (89, .pure), (90, .pure), (91, .stable), (92, .pure), (93, .pure), (94, .pure), (95, .stable), (96, .pure), (97, .pure), (98, .stable), (99, .pure), (100, .stable), (101, .pure), (102, .pure), (103, .stable), (104, .pure), (105, .pure), (106, .pure), (107, .pure), (108, .pure), (109, .loud), (110, .pure), (111, .pure)] mixed (by kernel_rfl) ?_
                         intro w62 kr
                         have bV := Stp.same hO kr
                         replace hO := bV.own
                         refine GoQ.pure rfl (op_fieldAddr Try.underlying29 rfl ti26 rfl (by decide)) rfl rfl ?_
                         refine GoQ.stable rfl (oblk (i := 0) 0 hO rfl rfl Try.underlying26 rfl rfl) rfl rfl ?_
                         refine GoQ.pure rfl (op_move rfl) rfl rfl ?_
                         obtain ⟨h65, H⟩ := H
                         obtain ⟨h66, H⟩ := H
                         replace aq := aq.ch bV.ch
                         refine GoQ.pure rfl (op_index Try.underlying26 ti3 rfl rfl h65 h66 (aq.some_ h65 h66)) rfl rfl ?_
                         refine GoQ.stable rfl (ldInt aq h65 h66 Try.underlying3 rfl rfl) rfl rfl ?_
                         refine GoQ.pure rfl (op_fieldAddr Try.underlying29 rfl ti26 rfl (by decide)) rfl rfl ?_
                         refine GoQ.stable rfl (oblk (i := 0) 0 hO rfl rfl Try.underlying26 rfl rfl) rfl rfl ?_
                         refine GoQ.pure rfl (op_move rfl) rfl rfl ?_
                         obtain ⟨h67, H⟩ := H
                         obtain ⟨h68, H⟩ := H
                         refine GoQ.pure rfl (op_index Try.underlying26 ti3 rfl rfl h67 h68 (aq.some_ h67 h68)) rfl rfl ?_
                         refine GoQ.stable rfl (ldInt aq h67 h68 Try.underlying3 rfl rfl) rfl rfl ?_
                         refine GoQ.join (S := Bool) [(46, .pure), (47, .pure), (48, .stable), (49, .pure), (50, .pure), (51, .stable), (52, .pure), (53, .stable), (54, .pure), (55, .pure), (56, .stable), (57, .pure), (58, .pure), (59, .pure), (60, .pure), (61, .loud), (62, .pure), (63, .pure), (64, .pure), (65, .pure), (66, .loud), (67, .pure), (68, .pure), (69, .pure), (70, .pure), (71, .pure), (72, .stable), (73, .pure), (74, .pure), (75, .stable), (76, .pure), (77, .stable), (78, .pure), (79, .pure), (80, .stable), (81, .pure), (82, .pure), (83, .stable), (84, .pure), (85, .pure), (86, .stable), (87, .pure), (88, .stable), (89, .pure), (90, .pure), (91, .stable), (92, .pure), (93, .pure), (94, .pure), (95, .stable), (96, .pure), (97, .pure), (98, .stable), (99, .pure), (100, .stable), (101, .pure), (102, .pure), (103, .stable), (104, .pure), (105, .pure), (106, .pure), (107, .pure), (108, .pure), (109, .loud), (110, .pure), (111, .pure)] (fun s σ w => agrees σ [(0, .slice ay a0.length az), (1, .int .i64 a1), (2, .int .i64 a2), (9, .pointer (some ⟨B16, 0, none⟩)), (170, .bool s)] ∧ (fun Z0 => Owns w0.heap.size w Z0 A ∧ ISl (Rp.sl (Rp.int .i64)) (bl Z0 ++ A) w ay az a0 ∧ ISl (Rp.int .i64) (bl Z0 ++ A) w ae af r9.R ∧ ISl (Rp.int .i64) (bl Z0 ++ A) w ag ah r9.L ∧ ISl (Rp.int .i64) (bl Z0 ++ A) w ai aj r9.J ∧ ISl (Rp.int .i64) (bl Z0 ++ A) w ak am r9.H ∧ ISl (Rp.sl (Rp.bool)) (bl Z0 ++ A) w aa ab r9.Below ∧ Fr (bl []) w0 (bl Z0) w) [.blk B16 (.cells #[.slice ae r9.R.length af, .slice ag r9.L.length ah, .slice ai r9.J.length aj, .slice ak r9.H.length am, .slice aa r9.Below.length ab] 29 (0, 0))]) H ?_ ?_
                         ·replace ao := ao.ch bV.ch
                          replace ap := ap.ch bV.ch
                          replace ar := ar.ch bV.ch
                          replace au := au.ch bV.ch
                          replace ad := ad.ch bV.ch
                          replace hB := hB.trans bV.fr
                          rintro jb11_70 σ w69 H ⟨hag, hO, ao, aq, ap, ar, au, ad, hB⟩
                          unfold law15_GreenOrders_J11 at H
                          refine GoQ.keep [(0, .slice ay a0.length az), (1, .int .i64 a1), (2, .int .i64 a2), (9, .pointer (some ⟨B16, 0, none⟩)), (170, .bool jb11_70)] hag ?_
                          as_aux_lemma =>
                           refine GoQ.join (S := Bool) [(70, .pure), (71, .pure), (72, .stable), (73, .pure), (74, .pure), (75, .stable), (76, .pure), (77, .stable), (78, .pure), (79, .pure), (80, .stable), (81, .pure), (82, .pure), (83, .stable), (84, .pure), (85, .pure), (86, .stable), (87, .pure), (88, .stable), (89, .pure), (90, .pure), (91, .stable), (92, .pure), (93, .pure), (94, .pure), (95, .stable), (96, .pure), (97, .pure), (98, .stable), (99, .pure), (100, .stable), (101, .pure), (102, .pure), (103, .stable), (104, .pure), (105, .pure), (106, .pure), (107, .pure), (108, .pure), (109, .loud), (110, .pure), (111, .pure)] (fun s σ w => agrees σ [(1, .int .i64 a1), (2, .int .i64 a2), (9, .pointer (some ⟨B16, 0, none⟩)), (194, .bool s)] ∧ (fun Z0 => Owns w0.heap.size w Z0 A ∧ ISl (Rp.int .i64) (bl Z0 ++ A) w ae af r9.R ∧ ISl (Rp.int .i64) (bl Z0 ++ A) w ag ah r9.L ∧ ISl (Rp.int .i64) (bl Z0 ++ A) w ai aj r9.J ∧ ISl (Rp.int .i64) (bl Z0 ++ A) w ak am r9.H ∧ ISl (Rp.sl (Rp.bool)) (bl Z0 ++ A) w aa ab r9.Below ∧ Fr (bl []) w0 (bl Z0) w) [.blk B16 (.cells #[.slice ae r9.R.length af, .slice ag r9.L.length ah, .slice ai r9.J.length aj, .slice ak r9.H.length am, .slice aa r9.Below.length ab] 29 (0, 0))]) H ?_ ?_
                           ·rintro jb12_72 σ w71 H ⟨hag, hO, aq, ap, ar, au, ad, hB⟩
                            unfold law15_GreenOrders_J12 at H
                            refine GoQ.keep [(1, .int .i64 a1), (2, .int .i64 a2), (9, .pointer (some ⟨B16, 0, none⟩)), (194, .bool jb12_72)] hag ?_
                            as_aux_lemma =>
                             refine GoQ.join (S := Bool) [(108, .pure), (109, .loud), (110, .pure), (111, .pure)] (fun s σ w => agrees σ [(232, .bool s)] ∧ (fun Z0 => Owns w0.heap.size w Z0 A ∧ ISl (Rp.int .i64) (bl Z0 ++ A) w ae af r9.R ∧ ISl (Rp.int .i64) (bl Z0 ++ A) w ag ah r9.L ∧ ISl (Rp.int .i64) (bl Z0 ++ A) w ai aj r9.J ∧ ISl (Rp.int .i64) (bl Z0 ++ A) w ak am r9.H ∧ ISl (Rp.sl (Rp.bool)) (bl Z0 ++ A) w aa ab r9.Below ∧ Fr (bl []) w0 (bl Z0) w) [.blk B16 (.cells #[.slice ae r9.R.length af, .slice ag r9.L.length ah, .slice ai r9.J.length aj, .slice ak r9.H.length am, .slice aa r9.Below.length ab] 29 (0, 0))]) H ?_ ?_
                             ·rintro jb13_74 σ w73 H ⟨hag, hO, aq, ap, ar, au, ad, hB⟩
                              unfold law15_GreenOrders_J13 at H
                              refine GoQ.keep [(232, .bool jb13_74)] hag ?_
                              as_aux_lemma =>
                               refine GoQ.join (S := Bool) [(111, .pure)] (fun s σ w => agrees σ [(235, .bool s)] ∧ (fun Z0 => Owns w0.heap.size w Z0 A ∧ ISl (Rp.int .i64) (bl Z0 ++ A) w ae af r9.R ∧ ISl (Rp.int .i64) (bl Z0 ++ A) w ag ah r9.L ∧ ISl (Rp.int .i64) (bl Z0 ++ A) w ai aj r9.J ∧ ISl (Rp.int .i64) (bl Z0 ++ A) w ak am r9.H ∧ ISl (Rp.sl (Rp.bool)) (bl Z0 ++ A) w aa ab r9.Below ∧ Fr (bl []) w0 (bl Z0) w) [.blk B16 (.cells #[.slice ae r9.R.length af, .slice ag r9.L.length ah, .slice ai r9.J.length aj, .slice ak r9.H.length am, .slice aa r9.Below.length ab] 29 (0, 0))]) H ?_ ?_
                               ·rintro jb14_76 σ w75 H ⟨hag, hO, aq, ap, ar, au, ad, hB⟩
                                unfold law15_GreenOrders_J14 at H
                                refine GoQ.keep [(235, .bool jb14_76)] hag ?_
                                as_aux_lemma =>
                                 refine GoQ.pure rfl (op_assign rfl) rfl rfl ?_
                                 refine GoQ.nil ?_
                                 refine Go1.ret1 Try.func3 rfl ?_
                                 exact ⟨jb14_76, rfl, hB.same, H⟩
                               ·intro X14 hX14 H
                                refine GoQ.pure rfl (op_move rfl) rfl rfl ?_
                                cases jb13_74
                                ·replace H := ifn Bool.false_ne_true H
                                 refine GoQ.pass rfl rfl rfl ?_
                                 refine GoQ.pure rfl (op_pickF rfl rfl rfl) rfl rfl ?_
                                 exact hX14 _ _ _ H ⟨⟨rfl, trivial⟩, hO, aq, ap, ar, au, ad, hB⟩
                                replace H := ifp rfl H
                                refine GoQ.call rfl (op_call body8 rfl (walk_law15_awake hO.lt H)) (fun v w hr => by obtain ⟨_, _, hs, _⟩ := hr; assumption) rfl rfl ?_
                                rintro v81 w78 ⟨r77, rfl, lD, H⟩
                                have fT := Stp.same hO lD
                                replace hO := fT.own
                                refine GoQ.pure rfl (op_pickT rfl rfl rfl) rfl rfl ?_
                                replace aq := aq.ch fT.ch
                                replace ap := ap.ch fT.ch
                                replace ar := ar.ch fT.ch
                                replace au := au.ch fT.ch
                                replace ad := ad.ch fT.ch
                                replace hB := hB.trans fT.fr
                                exact hX14 _ _ _ H ⟨⟨rfl, trivial⟩, hO, aq, ap, ar, au, ad, hB⟩
                             ·intro X13 hX13 H
                              refine GoQ.pure rfl (op_move rfl) rfl rfl ?_
                              cases jb12_72
                              ·replace H := ifn Bool.false_ne_true H
                               refine GoQ.pass rfl rfl rfl ?_
                               refine GoQ.pass rfl rfl rfl ?_
                               refine GoQ.pass rfl rfl rfl ?_
                               refine GoQ.pass rfl rfl rfl ?_
                               refine GoQ.pass rfl rfl rfl ?_
                               refine GoQ.pass rfl rfl rfl ?_
                               refine GoQ.pass rfl rfl rfl ?_
                               refine GoQ.pass rfl rfl rfl ?_
                               refine GoQ.pass rfl rfl rfl ?_
                               refine GoQ.pass rfl rfl rfl ?_
                               refine GoQ.pass rfl rfl rfl ?_
                               refine GoQ.pass rfl rfl rfl ?_
                               refine GoQ.pass rfl rfl rfl ?_
                               refine GoQ.pass rfl rfl rfl ?_
                               refine GoQ.pass rfl rfl rfl ?_
                               refine GoQ.pass rfl rfl rfl ?_
                               refine GoQ.pass rfl rfl rfl ?_
                               refine GoQ.pass rfl rfl rfl ?_
                               refine GoQ.pass rfl rfl rfl ?_
                               refine GoQ.pass rfl rfl rfl ?_
                               refine GoQ.pass rfl rfl rfl ?_
                               refine GoQ.join (S := Unit) [(106, .pure), (107, .pure), (108, .pure), (109, .loud), (110, .pure), (111, .pure)] (fun s σ w => agrees σ [(195, .bool false)] ∧ (fun Z0 => Owns w0.heap.size w Z0 A ∧ ISl (Rp.int .i64) (bl Z0 ++ A) w ae af r9.R ∧ ISl (Rp.int .i64) (bl Z0 ++ A) w ag ah r9.L ∧ ISl (Rp.int .i64) (bl Z0 ++ A) w ai aj r9.J ∧ ISl (Rp.int .i64) (bl Z0 ++ A) w ak am r9.H ∧ ISl (Rp.sl (Rp.bool)) (bl Z0 ++ A) w aa ab r9.Below ∧ Fr (bl []) w0 (bl Z0) w) [.blk B16 (.cells #[.slice ae r9.R.length af, .slice ag r9.L.length ah, .slice ai r9.J.length aj, .slice ak r9.H.length am, .slice aa r9.Below.length ab] 29 (0, 0))]) H ?_ ?_
                               ·rintro _ σ w83 H ⟨hag, hO, aq, ap, ar, au, ad, hB⟩
                                unfold law15_GreenOrders_J15 at H
                                refine GoQ.keep [(195, .bool false)] hag ?_
                                as_aux_lemma =>
                                 refine GoQ.pass rfl rfl rfl ?_
                                 refine GoQ.pure rfl (op_pickF rfl rfl rfl) rfl rfl ?_
                                 exact hX13 _ _ _ H ⟨⟨rfl, trivial⟩, hO, aq, ap, ar, au, ad, hB⟩
                               ·intro X15 hX15 H
                                dsimp only at H
                                refine GoQ.pass rfl rfl rfl ?_
                                refine GoQ.pass rfl rfl rfl ?_
                                refine GoQ.pass rfl rfl rfl ?_
                                refine GoQ.pass rfl rfl rfl ?_
                                refine GoQ.pass rfl rfl rfl ?_
                                refine GoQ.pass rfl rfl rfl ?_
                                refine GoQ.pass rfl rfl rfl ?_
                                refine GoQ.pass rfl rfl rfl ?_
                                refine GoQ.pass rfl rfl rfl ?_
                                refine GoQ.pass rfl rfl rfl ?_
                                refine GoQ.pass rfl rfl rfl ?_
                                refine GoQ.pass rfl rfl rfl ?_
                                refine GoQ.pass rfl rfl rfl ?_
                                refine GoQ.pass rfl rfl rfl ?_
                                exact hX15 _ _ _ H ⟨⟨rfl, trivial⟩, hO, aq, ap, ar, au, ad, hB⟩
                              replace H := ifp rfl H
                              refine GoQ.pure rfl (op_fieldAddr Try.underlying29 rfl ti26 rfl (by decide)) rfl rfl ?_
                              refine GoQ.stable rfl (oblk (i := 3) 0 hO rfl rfl Try.underlying26 rfl rfl) rfl rfl ?_
                              refine GoQ.pure rfl (op_move rfl) rfl rfl ?_
                              obtain ⟨h84, H⟩ := H
                              obtain ⟨h85, H⟩ := H
                              refine GoQ.pure rfl (op_index Try.underlying26 ti3 rfl rfl h84 h85 (au.some_ h84 h85)) rfl rfl ?_
                              refine GoQ.stable rfl (ldInt au h84 h85 Try.underlying3 rfl rfl) rfl rfl ?_
                              refine GoQ.pure rfl (op_fieldAddr Try.underlying29 rfl ti26 rfl (by decide)) rfl rfl ?_
                              refine GoQ.stable rfl (oblk (i := 3) 0 hO rfl rfl Try.underlying26 rfl rfl) rfl rfl ?_
                              refine GoQ.pure rfl (op_move rfl) rfl rfl ?_
                              obtain ⟨h86, H⟩ := H
                              obtain ⟨h87, H⟩ := H
                              refine GoQ.pure rfl (op_index Try.underlying26 ti3 rfl rfl h86 h87 (au.some_ h86 h87)) rfl rfl ?_
                              refine GoQ.stable rfl (ldInt au h86 h87 Try.underlying3 rfl rfl) rfl rfl ?_
                              by_cases h88 : (ix r9.H a1) = (ix r9.H a2)
                              ·replace H := ifp h88 H
                               refine GoQ.pure rfl (fun w => opB (op_eql rfl rfl w) (decide_eq_true h88)) rfl rfl ?_
                               refine GoQ.pure rfl (op_fieldAddr Try.underlying29 rfl ti26 rfl (by decide)) rfl rfl ?_
                               refine GoQ.stable rfl (oblk (i := 0) 0 hO rfl rfl Try.underlying26 rfl rfl) rfl rfl ?_
                               refine GoQ.pure rfl (op_move rfl) rfl rfl ?_
                               obtain ⟨h89, H⟩ := H
                               obtain ⟨h90, H⟩ := H
                               refine GoQ.pure rfl (op_index Try.underlying26 ti3 rfl rfl h89 h90 (aq.some_ h89 h90)) rfl rfl ?_
                               refine GoQ.stable rfl (ldInt aq h89 h90 Try.underlying3 rfl rfl) rfl rfl ?_
                               refine GoQ.pure rfl (op_fieldAddr Try.underlying29 rfl ti26 rfl (by decide)) rfl rfl ?_
                               refine GoQ.stable rfl (oblk (i := 0) 0 hO rfl rfl Try.underlying26 rfl rfl) rfl rfl ?_
                               refine GoQ.pure rfl (op_move rfl) rfl rfl ?_
                               obtain ⟨h91, H⟩ := H
                               obtain ⟨h92, H⟩ := H
                               refine GoQ.pure rfl (op_index Try.underlying26 ti3 rfl rfl h91 h92 (aq.some_ h91 h92)) rfl rfl ?_
                               refine GoQ.stable rfl (ldInt aq h91 h92 Try.underlying3 rfl rfl) rfl rfl ?_
                               refine GoQ.join (S := Bool) [(106, .pure), (107, .pure), (108, .pure), (109, .loud), (110, .pure), (111, .pure)] (fun s σ w => agrees σ [(195, .bool true), (206, .bool true), (230, .bool s)] ∧ (fun Z0 => Owns w0.heap.size w Z0 A ∧ ISl (Rp.int .i64) (bl Z0 ++ A) w ae af r9.R ∧ ISl (Rp.int .i64) (bl Z0 ++ A) w ag ah r9.L ∧ ISl (Rp.int .i64) (bl Z0 ++ A) w ai aj r9.J ∧ ISl (Rp.int .i64) (bl Z0 ++ A) w ak am r9.H ∧ ISl (Rp.sl (Rp.bool)) (bl Z0 ++ A) w aa ab r9.Below ∧ Fr (bl []) w0 (bl Z0) w) [.blk B16 (.cells #[.slice ae r9.R.length af, .slice ag r9.L.length ah, .slice ai r9.J.length aj, .slice ak r9.H.length am, .slice aa r9.Below.length ab] 29 (0, 0))]) H ?_ ?_
                               ·rintro jb16_94 σ w93 H ⟨hag, hO, aq, ap, ar, au, ad, hB⟩
                                unfold law15_GreenOrders_J16 at H
                                refine GoQ.keep [(195, .bool true), (206, .bool true), (230, .bool jb16_94)] hag ?_
                                as_aux_lemma =>
                                 cases jb16_94
                                 ·replace H := ifn Bool.false_ne_true H
                                  refine GoQ.pure rfl (op_eqlB Try.underlying4 rfl rfl) rfl rfl ?_
                                  refine GoQ.pure rfl (op_pickT rfl rfl rfl) rfl rfl ?_
                                  exact hX13 _ _ _ H ⟨⟨rfl, trivial⟩, hO, aq, ap, ar, au, ad, hB⟩
                                 replace H := ifp rfl H
                                 refine GoQ.pure rfl (op_eqlB Try.underlying4 rfl rfl) rfl rfl ?_
                                 refine GoQ.pure rfl (op_pickT rfl rfl rfl) rfl rfl ?_
                                 exact hX13 _ _ _ H ⟨⟨rfl, trivial⟩, hO, aq, ap, ar, au, ad, hB⟩
                               ·intro X16 hX16 H
                                by_cases h95 : (ix r9.R a1) = (ix r9.R a2)
                                ·replace H := ifp h95 H
                                 refine GoQ.pure rfl (fun w => opB (op_eql rfl rfl w) (decide_eq_true h95)) rfl rfl ?_
                                 refine GoQ.pure rfl (op_move rfl) rfl rfl ?_
                                 refine GoQ.pure rfl (op_fieldAddr Try.underlying29 rfl ti26 rfl (by decide)) rfl rfl ?_
                                 refine GoQ.stable rfl (oblk (i := 1) 0 hO rfl rfl Try.underlying26 rfl rfl) rfl rfl ?_
                                 refine GoQ.pure rfl (op_move rfl) rfl rfl ?_
                                 obtain ⟨h96, H⟩ := H
                                 obtain ⟨h97, H⟩ := H
                                 refine GoQ.pure rfl (op_index Try.underlying26 ti3 rfl rfl h96 h97 (ap.some_ h96 h97)) rfl rfl ?_
                                 refine GoQ.stable rfl (ldInt ap h96 h97 Try.underlying3 rfl rfl) rfl rfl ?_
                                 refine GoQ.pure rfl (op_fieldAddr Try.underlying29 rfl ti26 rfl (by decide)) rfl rfl ?_
                                 refine GoQ.stable rfl (oblk (i := 1) 0 hO rfl rfl Try.underlying26 rfl rfl) rfl rfl ?_
                                 refine GoQ.pure rfl (op_move rfl) rfl rfl ?_
                                 obtain ⟨h98, H⟩ := H
                                 obtain ⟨h99, H⟩ := H
                                 refine GoQ.pure rfl (op_index Try.underlying26 ti3 rfl rfl h98 h99 (ap.some_ h98 h99)) rfl rfl ?_
                                 refine GoQ.stable rfl (ldInt ap h98 h99 Try.underlying3 rfl rfl) rfl rfl ?_
                                 by_cases i5 : (ix r9.L a1) = (ix r9.L a2)
                                 ·replace H := ifp i5 H
                                  refine GoQ.pure rfl (fun w => opB (op_eql rfl rfl w) (decide_eq_true i5)) rfl rfl ?_
                                  refine GoQ.pure rfl (op_pickT rfl rfl rfl) rfl rfl ?_
                                  exact hX16 _ _ _ H ⟨⟨rfl, rfl, rfl, trivial⟩, hO, aq, ap, ar, au, ad, hB⟩
                                 replace H := ifn i5 H
                                 refine GoQ.pure rfl (fun w => opB (op_eql rfl rfl w) (decide_eq_false i5)) rfl rfl ?_
                                 refine GoQ.pure rfl (op_pickT rfl rfl rfl) rfl rfl ?_
                                 exact hX16 _ _ _ H ⟨⟨rfl, rfl, rfl, trivial⟩, hO, aq, ap, ar, au, ad, hB⟩
                                replace H := ifn h95 H
                                refine GoQ.pure rfl (fun w => opB (op_eql rfl rfl w) (decide_eq_false h95)) rfl rfl ?_
                                refine GoQ.pure rfl (op_move rfl) rfl rfl ?_
                                refine GoQ.pass rfl rfl rfl ?_
                                refine GoQ.pass rfl rfl rfl ?_
                                refine GoQ.pass rfl rfl rfl ?_
                                refine GoQ.pass rfl rfl rfl ?_
                                refine GoQ.pass rfl rfl rfl ?_
                                refine GoQ.pass rfl rfl rfl ?_
                                refine GoQ.pass rfl rfl rfl ?_
                                refine GoQ.pass rfl rfl rfl ?_
                                refine GoQ.pass rfl rfl rfl ?_
                                refine GoQ.pass rfl rfl rfl ?_
                                refine GoQ.pass rfl rfl rfl ?_
                                refine GoQ.pure rfl (op_pickF rfl rfl rfl) rfl rfl ?_
                                exact hX16 _ _ _ H ⟨⟨rfl, rfl, rfl, trivial⟩, hO, aq, ap, ar, au, ad, hB⟩
                              replace H := ifn h88 H
                              refine GoQ.pure rfl (fun w => opB (op_eql rfl rfl w) (decide_eq_false h88)) rfl rfl ?_
                              refine GoQ.pure rfl (op_fieldAddr Try.underlying29 rfl ti26 rfl (by decide)) rfl rfl ?_
                              refine GoQ.stable rfl (oblk (i := 0) 0 hO rfl rfl Try.underlying26 rfl rfl) rfl rfl ?_
                              refine GoQ.pure rfl (op_move rfl) rfl rfl ?_
                              obtain ⟨kx, H⟩ := H
                              obtain ⟨kz, H⟩ := H
                              refine GoQ.pure rfl (op_index Try.underlying26 ti3 rfl rfl kx kz (aq.some_ kx kz)) rfl rfl ?_
                              refine GoQ.stable rfl (ldInt aq kx kz Try.underlying3 rfl rfl) rfl rfl ?_
                              refine GoQ.pure rfl (op_fieldAddr Try.underlying29 rfl ti26 rfl (by decide)) rfl rfl ?_
                              refine GoQ.stable rfl (oblk (i := 0) 0 hO rfl rfl Try.underlying26 rfl rfl) rfl rfl ?_
                              refine GoQ.pure rfl (op_move rfl) rfl rfl ?_
                              obtain ⟨kA, H⟩ := H
                              obtain ⟨kB, H⟩ := H
                              refine GoQ.pure rfl (op_index Try.underlying26 ti3 rfl rfl kA kB (aq.some_ kA kB)) rfl rfl ?_
                              refine GoQ.stable rfl (ldInt aq kA kB Try.underlying3 rfl rfl) rfl rfl ?_
                              refine GoQ.join (S := Bool) [(106, .pure), (107, .pure), (108, .pure), (109, .loud), (110, .pure), (111, .pure)] (fun s σ w => agrees σ [(195, .bool true), (206, .bool false), (230, .bool s)] ∧ (fun Z0 => Owns w0.heap.size w Z0 A ∧ ISl (Rp.int .i64) (bl Z0 ++ A) w ae af r9.R ∧ ISl (Rp.int .i64) (bl Z0 ++ A) w ag ah r9.L ∧ ISl (Rp.int .i64) (bl Z0 ++ A) w ai aj r9.J ∧ ISl (Rp.int .i64) (bl Z0 ++ A) w ak am r9.H ∧ ISl (Rp.sl (Rp.bool)) (bl Z0 ++ A) w aa ab r9.Below ∧ Fr (bl []) w0 (bl Z0) w) [.blk B16 (.cells #[.slice ae r9.R.length af, .slice ag r9.L.length ah, .slice ai r9.J.length aj, .slice ak r9.H.length am, .slice aa r9.Below.length ab] 29 (0, 0))]) H ?_ ?_
                              ·rintro jb17_106 σ od H ⟨hag, hO, aq, ap, ar, au, ad, hB⟩
                               unfold law15_GreenOrders_J17 at H
                               refine GoQ.keep [(195, .bool true), (206, .bool false), (230, .bool jb17_106)] hag ?_
                               as_aux_lemma =>
                                cases jb17_106
                                ·replace H := ifn Bool.false_ne_true H
                                 refine GoQ.pure rfl (op_eqlB Try.underlying4 rfl rfl) rfl rfl ?_
                                 refine GoQ.pure rfl (op_pickT rfl rfl rfl) rfl rfl ?_
                                 exact hX13 _ _ _ H ⟨⟨rfl, trivial⟩, hO, aq, ap, ar, au, ad, hB⟩
                                replace H := ifp rfl H
                                refine GoQ.pure rfl (op_eqlB Try.underlying4 rfl rfl) rfl rfl ?_
                                refine GoQ.pure rfl (op_pickT rfl rfl rfl) rfl rfl ?_
                                exact hX13 _ _ _ H ⟨⟨rfl, trivial⟩, hO, aq, ap, ar, au, ad, hB⟩
                              ·intro X17 hX17 H
                               by_cases gc : (ix r9.R a1) = (ix r9.R a2)
                               ·replace H := ifp gc H
                                refine GoQ.pure rfl (fun w => opB (op_eql rfl rfl w) (decide_eq_true gc)) rfl rfl ?_
                                refine GoQ.pure rfl (op_move rfl) rfl rfl ?_
                                refine GoQ.pure rfl (op_fieldAddr Try.underlying29 rfl ti26 rfl (by decide)) rfl rfl ?_
                                refine GoQ.stable rfl (oblk (i := 1) 0 hO rfl rfl Try.underlying26 rfl rfl) rfl rfl ?_
                                refine GoQ.pure rfl (op_move rfl) rfl rfl ?_
                                obtain ⟨gs, H⟩ := H
                                obtain ⟨kC, H⟩ := H
                                refine GoQ.pure rfl (op_index Try.underlying26 ti3 rfl rfl gs kC (ap.some_ gs kC)) rfl rfl ?_
                                refine GoQ.stable rfl (ldInt ap gs kC Try.underlying3 rfl rfl) rfl rfl ?_
                                refine GoQ.pure rfl (op_fieldAddr Try.underlying29 rfl ti26 rfl (by decide)) rfl rfl ?_
                                refine GoQ.stable rfl (oblk (i := 1) 0 hO rfl rfl Try.underlying26 rfl rfl) rfl rfl ?_
                                refine GoQ.pure rfl (op_move rfl) rfl rfl ?_
                                obtain ⟨kD, H⟩ := H
                                obtain ⟨io, H⟩ := H
                                refine GoQ.pure rfl (op_index Try.underlying26 ti3 rfl rfl kD io (ap.some_ kD io)) rfl rfl ?_
                                refine GoQ.stable rfl (ldInt ap kD io Try.underlying3 rfl rfl) rfl rfl ?_
                                by_cases gQ : (ix r9.L a1) = (ix r9.L a2)
                                ·replace H := ifp gQ H
                                 refine GoQ.pure rfl (fun w => opB (op_eql rfl rfl w) (decide_eq_true gQ)) rfl rfl ?_
                                 refine GoQ.pure rfl (op_pickT rfl rfl rfl) rfl rfl ?_
                                 exact hX17 _ _ _ H ⟨⟨rfl, rfl, rfl, trivial⟩, hO, aq, ap, ar, au, ad, hB⟩
                                replace H := ifn gQ H
                                refine GoQ.pure rfl (fun w => opB (op_eql rfl rfl w) (decide_eq_false gQ)) rfl rfl ?_
                                refine GoQ.pure rfl (op_pickT rfl rfl rfl) rfl rfl ?_
                                exact hX17 _ _ _ H ⟨⟨rfl, rfl, rfl, trivial⟩, hO, aq, ap, ar, au, ad, hB⟩
                               replace H := ifn gc H
                               refine GoQ.pure rfl (fun w => opB (op_eql rfl rfl w) (decide_eq_false gc)) rfl rfl ?_
                               refine GoQ.pure rfl (op_move rfl) rfl rfl ?_
                               refine GoQ.pass rfl rfl rfl ?_
                               refine GoQ.pass rfl rfl rfl ?_
                               refine GoQ.pass rfl rfl rfl ?_
                               refine GoQ.pass rfl rfl rfl ?_
                               refine GoQ.pass rfl rfl rfl ?_
                               refine GoQ.pass rfl rfl rfl ?_
                               refine GoQ.pass rfl rfl rfl ?_
                               refine GoQ.pass rfl rfl rfl ?_
                               refine GoQ.pass rfl rfl rfl ?_
                               refine GoQ.pass rfl rfl rfl ?_
                               refine GoQ.pass rfl rfl rfl ?_
                               refine GoQ.pure rfl (op_pickF rfl rfl rfl) rfl rfl ?_
                               exact hX17 _ _ _ H ⟨⟨rfl, rfl, rfl, trivial⟩, hO, aq, ap, ar, au, ad, hB⟩
                           ·intro X12 hX12 H
                            refine GoQ.pure rfl (op_move rfl) rfl rfl ?_
                            cases jb11_70
                            ·replace H := ifn Bool.false_ne_true H
                             refine GoQ.pass rfl rfl rfl ?_
                             refine GoQ.pass rfl rfl rfl ?_
                             refine GoQ.pass rfl rfl rfl ?_
                             refine GoQ.pass rfl rfl rfl ?_
                             refine GoQ.pass rfl rfl rfl ?_
                             refine GoQ.pass rfl rfl rfl ?_
                             refine GoQ.pass rfl rfl rfl ?_
                             refine GoQ.pass rfl rfl rfl ?_
                             refine GoQ.pass rfl rfl rfl ?_
                             refine GoQ.pass rfl rfl rfl ?_
                             refine GoQ.pass rfl rfl rfl ?_
                             refine GoQ.pass rfl rfl rfl ?_
                             refine GoQ.pass rfl rfl rfl ?_
                             refine GoQ.pass rfl rfl rfl ?_
                             refine GoQ.pass rfl rfl rfl ?_
                             refine GoQ.join (S := Unit) [(68, .pure), (69, .pure), (70, .pure), (71, .pure), (72, .stable), (73, .pure), (74, .pure), (75, .stable), (76, .pure), (77, .stable), (78, .pure), (79, .pure), (80, .stable), (81, .pure), (82, .pure), (83, .stable), (84, .pure), (85, .pure), (86, .stable), (87, .pure), (88, .stable), (89, .pure), (90, .pure), (91, .stable), (92, .pure), (93, .pure), (94, .pure), (95, .stable), (96, .pure), (97, .pure), (98, .stable), (99, .pure), (100, .stable), (101, .pure), (102, .pure), (103, .stable), (104, .pure), (105, .pure), (106, .pure), (107, .pure), (108, .pure), (109, .loud), (110, .pure), (111, .pure)] (fun s σ w => agrees σ [(1, .int .i64 a1), (2, .int .i64 a2), (9, .pointer (some ⟨B16, 0, none⟩)), (171, .bool false)] ∧ (fun Z0 => Owns w0.heap.size w Z0 A ∧ ISl (Rp.int .i64) (bl Z0 ++ A) w ae af r9.R ∧ ISl (Rp.int .i64) (bl Z0 ++ A) w ag ah r9.L ∧ ISl (Rp.int .i64) (bl Z0 ++ A) w ai aj r9.J ∧ ISl (Rp.int .i64) (bl Z0 ++ A) w ak am r9.H ∧ ISl (Rp.sl (Rp.bool)) (bl Z0 ++ A) w aa ab r9.Below ∧ Fr (bl []) w0 (bl Z0) w) [.blk B16 (.cells #[.slice ae r9.R.length af, .slice ag r9.L.length ah, .slice ai r9.J.length aj, .slice ak r9.H.length am, .slice aa r9.Below.length ab] 29 (0, 0))]) H ?_ ?_
                             ·rintro _ σ ry H ⟨hag, hO, aq, ap, ar, au, ad, hB⟩
                              unfold law15_GreenOrders_J18 at H
                              refine GoQ.keep [(1, .int .i64 a1), (2, .int .i64 a2), (9, .pointer (some ⟨B16, 0, none⟩)), (171, .bool false)] hag ?_
                              as_aux_lemma =>
                               refine GoQ.pass rfl rfl rfl ?_
                               refine GoQ.pure rfl (op_pickF rfl rfl rfl) rfl rfl ?_
                               exact hX12 _ _ _ H ⟨⟨rfl, rfl, rfl, rfl, trivial⟩, hO, aq, ap, ar, au, ad, hB⟩
                             ·intro X18 hX18 H
                              dsimp only at H
                              refine GoQ.pass rfl rfl rfl ?_
                              refine GoQ.pass rfl rfl rfl ?_
                              refine GoQ.pass rfl rfl rfl ?_
                              refine GoQ.pass rfl rfl rfl ?_
                              refine GoQ.pass rfl rfl rfl ?_
                              refine GoQ.pass rfl rfl rfl ?_
                              exact hX18 _ _ _ H ⟨⟨rfl, rfl, rfl, rfl, trivial⟩, hO, aq, ap, ar, au, ad, hB⟩
                            replace H := ifp rfl H
                            refine GoQ.pure rfl (op_fieldAddr Try.underlying29 rfl ti26 rfl (by decide)) rfl rfl ?_
                            refine GoQ.stable rfl (oblk (i := 2) 0 hO rfl rfl Try.underlying26 rfl rfl) rfl rfl ?_
                            refine GoQ.pure rfl (op_move rfl) rfl rfl ?_
                            obtain ⟨eQ, H⟩ := H
                            obtain ⟨eU, H⟩ := H
                            refine GoQ.pure rfl (op_index Try.underlying26 ti3 rfl rfl eQ eU (ar.some_ eQ eU)) rfl rfl ?_
                            refine GoQ.stable rfl (ldInt ar eQ eU Try.underlying3 rfl rfl) rfl rfl ?_
                            refine GoQ.pure rfl (op_fieldAddr Try.underlying29 rfl ti26 rfl (by decide)) rfl rfl ?_
                            refine GoQ.stable rfl (oblk (i := 2) 0 hO rfl rfl Try.underlying26 rfl rfl) rfl rfl ?_
                            refine GoQ.pure rfl (op_move rfl) rfl rfl ?_
                            obtain ⟨fF, H⟩ := H
                            obtain ⟨gm, H⟩ := H
                            refine GoQ.pure rfl (op_index Try.underlying26 ti3 rfl rfl fF gm (ar.some_ fF gm)) rfl rfl ?_
                            refine GoQ.stable rfl (ldInt ar fF gm Try.underlying3 rfl rfl) rfl rfl ?_
                            by_cases fU : (ix r9.J a1) = (ix r9.J a2)
                            ·replace H := ifp fU H
                             refine GoQ.pure rfl (fun w => opB (op_eql rfl rfl w) (decide_eq_true fU)) rfl rfl ?_
                             refine GoQ.pure rfl (op_move rfl) rfl rfl ?_
                             refine GoQ.pure rfl (op_move rfl) rfl rfl ?_
                             refine GoQ.pure rfl (op_move rfl) rfl rfl ?_
                             refine GoQ.call rfl (op_call body12 rfl (walk_green_LeqJ hO.lt ao H)) (fun v w hr => by obtain ⟨_, _, hs, _⟩ := hr; assumption) rfl rfl ?_
                             rintro rz rB ⟨r119, rfl, ng, H⟩
                             have dV := Stp.same hO ng
                             replace hO := dV.own
                             refine GoQ.join (S := Bool) [(68, .pure), (69, .pure), (70, .pure), (71, .pure), (72, .stable), (73, .pure), (74, .pure), (75, .stable), (76, .pure), (77, .stable), (78, .pure), (79, .pure), (80, .stable), (81, .pure), (82, .pure), (83, .stable), (84, .pure), (85, .pure), (86, .stable), (87, .pure), (88, .stable), (89, .pure), (90, .pure), (91, .stable), (92, .pure), (93, .pure), (94, .pure), (95, .stable), (96, .pure), (97, .pure), (98, .stable), (99, .pure), (100, .stable), (101, .pure), (102, .pure), (103, .stable), (104, .pure), (105, .pure), (106, .pure), (107, .pure), (108, .pure), (109, .loud), (110, .pure), (111, .pure)] (fun s σ w => agrees σ [(1, .int .i64 a1), (2, .int .i64 a2), (9, .pointer (some ⟨B16, 0, none⟩)), (171, .bool true), (182, .bool true), (192, .bool s)] ∧ (fun Z0 => Owns w0.heap.size w Z0 A ∧ ISl (Rp.int .i64) (bl Z0 ++ A) w ae af r9.R ∧ ISl (Rp.int .i64) (bl Z0 ++ A) w ag ah r9.L ∧ ISl (Rp.int .i64) (bl Z0 ++ A) w ai aj r9.J ∧ ISl (Rp.int .i64) (bl Z0 ++ A) w ak am r9.H ∧ ISl (Rp.sl (Rp.bool)) (bl Z0 ++ A) w aa ab r9.Below ∧ Fr (bl []) w0 (bl Z0) w) [.blk B16 (.cells #[.slice ae r9.R.length af, .slice ag r9.L.length ah, .slice ai r9.J.length aj, .slice ak r9.H.length am, .slice aa r9.Below.length ab] 29 (0, 0))]) H ?_ ?_
                             ·replace aq := aq.ch dV.ch
                              replace ap := ap.ch dV.ch
                              replace ar := ar.ch dV.ch
                              replace au := au.ch dV.ch
                              replace ad := ad.ch dV.ch
                              replace hB := hB.trans dV.fr
                              rintro jb19_126 σ pT H ⟨hag, hO, aq, ap, ar, au, ad, hB⟩
                              unfold law15_GreenOrders_J19 at H
                              refine GoQ.keep [(1, .int .i64 a1), (2, .int .i64 a2), (9, .pointer (some ⟨B16, 0, none⟩)), (171, .bool true), (182, .bool true), (192, .bool jb19_126)] hag ?_
                              as_aux_lemma =>
                               cases jb19_126
                               ·replace H := ifn Bool.false_ne_true H
                                refine GoQ.pure rfl (op_eqlB Try.underlying4 rfl rfl) rfl rfl ?_
                                refine GoQ.pure rfl (op_pickT rfl rfl rfl) rfl rfl ?_
                                exact hX12 _ _ _ H ⟨⟨rfl, rfl, rfl, rfl, trivial⟩, hO, aq, ap, ar, au, ad, hB⟩
                               replace H := ifp rfl H
                               refine GoQ.pure rfl (op_eqlB Try.underlying4 rfl rfl) rfl rfl ?_
                               refine GoQ.pure rfl (op_pickT rfl rfl rfl) rfl rfl ?_
                               exact hX12 _ _ _ H ⟨⟨rfl, rfl, rfl, rfl, trivial⟩, hO, aq, ap, ar, au, ad, hB⟩
                             ·intro X19 hX19 H
                              refine GoQ.pure rfl (op_move rfl) rfl rfl ?_
                              cases r119
                              ·replace H := ifn Bool.false_ne_true H
                               refine GoQ.pass rfl rfl rfl ?_
                               refine GoQ.pass rfl rfl rfl ?_
                               refine GoQ.pass rfl rfl rfl ?_
                               refine GoQ.pass rfl rfl rfl ?_
                               refine GoQ.pure rfl (op_pickF rfl rfl rfl) rfl rfl ?_
                               replace aq := aq.ch dV.ch
                               replace ap := ap.ch dV.ch
                               replace ar := ar.ch dV.ch
                               replace au := au.ch dV.ch
                               replace ad := ad.ch dV.ch
                               replace hB := hB.trans dV.fr
                               exact hX19 _ _ _ H ⟨⟨rfl, rfl, rfl, rfl, rfl, rfl, trivial⟩, hO, aq, ap, ar, au, ad, hB⟩
                              replace H := ifp rfl H
                              refine GoQ.pure rfl (op_move rfl) rfl rfl ?_
                              refine GoQ.pure rfl (op_move rfl) rfl rfl ?_
                              refine GoQ.pure rfl (op_move rfl) rfl rfl ?_
                              replace ao := ao.ch dV.ch
                              refine GoQ.call rfl (op_call body12 rfl (walk_green_LeqJ hO.lt ao H)) (fun v w hr => by obtain ⟨_, _, hs, _⟩ := hr; assumption) rfl rfl ?_
                              rintro rC rD ⟨r127, rfl, nh, H⟩
                              have dW := Stp.same hO nh
                              replace hO := dW.own
                              refine GoQ.pure rfl (op_pickT rfl rfl rfl) rfl rfl ?_
                              have Z3 := dV.ch.trans dW.ch
                              replace aq := aq.ch Z3
                              replace ap := ap.ch Z3
                              replace ar := ar.ch Z3
                              replace au := au.ch Z3
                              replace ad := ad.ch Z3
                              replace hB := (hB.trans dV.fr).trans dW.fr
                              exact hX19 _ _ _ H ⟨⟨rfl, rfl, rfl, rfl, rfl, rfl, trivial⟩, hO, aq, ap, ar, au, ad, hB⟩
                            replace H := ifn fU H
                            refine GoQ.pure rfl (fun w => opB (op_eql rfl rfl w) (decide_eq_false fU)) rfl rfl ?_
                            refine GoQ.pure rfl (op_move rfl) rfl rfl ?_
                            refine GoQ.pure rfl (op_move rfl) rfl rfl ?_
                            refine GoQ.pure rfl (op_move rfl) rfl rfl ?_
                            refine GoQ.call rfl (op_call body12 rfl (walk_green_LeqJ hO.lt ao H)) (fun v w hr => by obtain ⟨_, _, hs, _⟩ := hr; assumption) rfl rfl ?_
                            rintro rE rF ⟨r133, rfl, ni, H⟩
                            have dX := Stp.same hO ni
                            replace hO := dX.own
                            refine GoQ.join (S := Bool) [(68, .pure), (69, .pure), (70, .pure), (71, .pure), (72, .stable), (73, .pure), (74, .pure), (75, .stable), (76, .pure), (77, .stable), (78, .pure), (79, .pure), (80, .stable), (81, .pure), (82, .pure), (83, .stable), (84, .pure), (85, .pure), (86, .stable), (87, .pure), (88, .stable), (89, .pure), (90, .pure), (91, .stable), (92, .pure), (93, .pure), (94, .pure), (95, .stable), (96, .pure), (97, .pure), (98, .stable), (99, .pure), (100, .stable), (101, .pure), (102, .pure), (103, .stable), (104, .pure), (105, .pure), (106, .pure), (107, .pure), (108, .pure), (109, .loud), (110, .pure), (111, .pure)] (fun s σ w => agrees σ [(1, .int .i64 a1), (2, .int .i64 a2), (9, .pointer (some ⟨B16, 0, none⟩)), (171, .bool true), (182, .bool false), (192, .bool s)] ∧ (fun Z0 => Owns w0.heap.size w Z0 A ∧ ISl (Rp.int .i64) (bl Z0 ++ A) w ae af r9.R ∧ ISl (Rp.int .i64) (bl Z0 ++ A) w ag ah r9.L ∧ ISl (Rp.int .i64) (bl Z0 ++ A) w ai aj r9.J ∧ ISl (Rp.int .i64) (bl Z0 ++ A) w ak am r9.H ∧ ISl (Rp.sl (Rp.bool)) (bl Z0 ++ A) w aa ab r9.Below ∧ Fr (bl []) w0 (bl Z0) w) [.blk B16 (.cells #[.slice ae r9.R.length af, .slice ag r9.L.length ah, .slice ai r9.J.length aj, .slice ak r9.H.length am, .slice aa r9.Below.length ab] 29 (0, 0))]) H ?_ ?_
                            ·replace aq := aq.ch dX.ch
                             replace ap := ap.ch dX.ch
                             replace ar := ar.ch dX.ch
                             replace au := au.ch dX.ch
                             replace ad := ad.ch dX.ch
                             replace hB := hB.trans dX.fr
                             rintro jb20_140 σ rG H ⟨hag, hO, aq, ap, ar, au, ad, hB⟩
                             unfold law15_GreenOrders_J20 at H
                             refine GoQ.keep [(1, .int .i64 a1), (2, .int .i64 a2), (9, .pointer (some ⟨B16, 0, none⟩)), (171, .bool true), (182, .bool false), (192, .bool jb20_140)] hag ?_
                             as_aux_lemma =>
                              cases jb20_140
                              ·replace H := ifn Bool.false_ne_true H
                               refine GoQ.pure rfl (op_eqlB Try.underlying4 rfl rfl) rfl rfl ?_
                               refine GoQ.pure rfl (op_pickT rfl rfl rfl) rfl rfl ?_
                               exact hX12 _ _ _ H ⟨⟨rfl, rfl, rfl, rfl, trivial⟩, hO, aq, ap, ar, au, ad, hB⟩
                              replace H := ifp rfl H
                              refine GoQ.pure rfl (op_eqlB Try.underlying4 rfl rfl) rfl rfl ?_
                              refine GoQ.pure rfl (op_pickT rfl rfl rfl) rfl rfl ?_
                              exact hX12 _ _ _ H ⟨⟨rfl, rfl, rfl, rfl, trivial⟩, hO, aq, ap, ar, au, ad, hB⟩
                            ·intro X20 hX20 H
                             refine GoQ.pure rfl (op_move rfl) rfl rfl ?_
                             cases r133
                             ·replace H := ifn Bool.false_ne_true H
                              refine GoQ.pass rfl rfl rfl ?_
                              refine GoQ.pass rfl rfl rfl ?_
                              refine GoQ.pass rfl rfl rfl ?_
                              refine GoQ.pass rfl rfl rfl ?_
                              refine GoQ.pure rfl (op_pickF rfl rfl rfl) rfl rfl ?_
                              replace aq := aq.ch dX.ch
                              replace ap := ap.ch dX.ch
                              replace ar := ar.ch dX.ch
                              replace au := au.ch dX.ch
                              replace ad := ad.ch dX.ch
                              replace hB := hB.trans dX.fr
                              exact hX20 _ _ _ H ⟨⟨rfl, rfl, rfl, rfl, rfl, rfl, trivial⟩, hO, aq, ap, ar, au, ad, hB⟩
                             replace H := ifp rfl H
                             refine GoQ.pure rfl (op_move rfl) rfl rfl ?_
                             refine GoQ.pure rfl (op_move rfl) rfl rfl ?_
                             refine GoQ.pure rfl (op_move rfl) rfl rfl ?_
                             replace ao := ao.ch dX.ch
                             refine GoQ.call rfl (op_call body12 rfl (walk_green_LeqJ hO.lt ao H)) (fun v w hr => by obtain ⟨_, _, hs, _⟩ := hr; assumption) rfl rfl ?_
                             rintro rH rI ⟨r141, rfl, nj, H⟩
                             have dY := Stp.same hO nj
                             replace hO := dY.own
                             refine GoQ.pure rfl (op_pickT rfl rfl rfl) rfl rfl ?_
                             have Z4 := dX.ch.trans dY.ch
                             replace aq := aq.ch Z4
                             replace ap := ap.ch Z4
                             replace ar := ar.ch Z4
                             replace au := au.ch Z4
                             replace ad := ad.ch Z4
                             replace hB := (hB.trans dX.fr).trans dY.fr
                             exact hX20 _ _ _ H ⟨⟨rfl, rfl, rfl, rfl, rfl, rfl, trivial⟩, hO, aq, ap, ar, au, ad, hB⟩
                         ·intro X11 hX11 H
                          by_cases fI : (ix r9.R a1) = (ix r9.R a2)
                          ·replace H := ifp fI H
                           refine GoQ.pure rfl (fun w => opB (op_eql rfl rfl w) (decide_eq_true fI)) rfl rfl ?_
                           refine GoQ.pure rfl (op_move rfl) rfl rfl ?_
                           refine GoQ.pure rfl (op_move rfl) rfl rfl ?_
                           refine GoQ.pure rfl (op_move rfl) rfl rfl ?_
                           replace ao := ao.ch bV.ch
                           refine GoQ.call rfl (op_call body10 rfl (walk_green_LeqR hO.lt ao H)) (fun v w hr => by obtain ⟨_, _, hs, _⟩ := hr; assumption) rfl rfl ?_
                           rintro rJ rK ⟨r148, rfl, nk, H⟩
                           have d4 := Stp.same hO nk
                           replace hO := d4.own
                           refine GoQ.join (S := Bool) [(21, .pure), (22, .pure), (23, .pure), (24, .stable), (25, .pure), (26, .pure), (27, .stable), (28, .pure), (29, .stable), (30, .pure), (31, .pure), (32, .stable), (33, .pure), (34, .pure), (35, .pure), (36, .pure), (37, .loud), (38, .pure), (39, .pure), (40, .pure), (41, .pure), (42, .loud), (43, .pure), (44, .pure), (45, .pure), (46, .pure), (47, .pure), (48, .stable), (49, .pure), (50, .pure), (51, .stable), (52, .pure), (53, .stable), (54, .pure), (55, .pure), (56, .stable), (57, .pure), (58, .pure), (59, .pure), (60, .pure), (61, .loud), (62, .pure), (63, .pure), (64, .pure), (65, .pure), (66, .loud), (67, .pure), (68, .pure), (69, .pure), (70, .pure), (71, .pure), (72, .stable), (73, .pure), (74, .pure), (75, .stable), (76, .pure), (77, .stable), (78, .pure), (79, .pure), (80, .stable), (81, .pure), (82, .pure), (83, .stable), (84, .pure), (85, .pure), (86, .stable), (87, .pure), (88, .stable), (89, .pure), (90, .pure), (91, .stable), (92, .pure), (93, .pure), (94, .pure), (95, .stable), (96, .pure), (97, .pure), (98, .stable), (99, .pure), (100, .stable), (101, .pure), (102, .pure), (103, .stable), (104, .pure), (105, .pure), (106, .pure), (107, .pure), (108, .pure), (109, .loud), (110, .pure), (111, .pure)] (fun s σ w => agrees σ [(0, .slice ay a0.length az), (1, .int .i64 a1), (2, .int .i64 a2), (9, .pointer (some ⟨B16, 0, none⟩)), (135, .bool true), (145, .bool s)] ∧ (fun Z0 => Owns w0.heap.size w Z0 A ∧ ISl (Rp.sl (Rp.int .i64)) (bl Z0 ++ A) w ay az a0 ∧ ISl (Rp.int .i64) (bl Z0 ++ A) w ae af r9.R ∧ ISl (Rp.int .i64) (bl Z0 ++ A) w ag ah r9.L ∧ ISl (Rp.int .i64) (bl Z0 ++ A) w ai aj r9.J ∧ ISl (Rp.int .i64) (bl Z0 ++ A) w ak am r9.H ∧ ISl (Rp.sl (Rp.bool)) (bl Z0 ++ A) w aa ab r9.Below ∧ Fr (bl []) w0 (bl Z0) w) [.blk B16 (.cells #[.slice ae r9.R.length af, .slice ag r9.L.length ah, .slice ai r9.J.length aj, .slice ak r9.H.length am, .slice aa r9.Below.length ab] 29 (0, 0))]) H ?_ ?_
                           ·replace ao := ao.ch d4.ch
                            replace aq := aq.ch d4.ch
                            have Z5 := bV.ch.trans d4.ch
                            replace ap := ap.ch Z5
                            replace ar := ar.ch Z5
                            replace au := au.ch Z5
                            replace ad := ad.ch Z5
                            replace hB := (hB.trans bV.fr).trans d4.fr
                            rintro jb21_155 σ pG H ⟨hag, hO, ao, aq, ap, ar, au, ad, hB⟩
                            unfold law15_GreenOrders_J21 at H
                            refine GoQ.keep [(0, .slice ay a0.length az), (1, .int .i64 a1), (2, .int .i64 a2), (9, .pointer (some ⟨B16, 0, none⟩)), (135, .bool true), (145, .bool jb21_155)] hag ?_
                            as_aux_lemma =>
                             cases jb21_155
                             ·replace H := ifn Bool.false_ne_true H
                              refine GoQ.pure rfl (op_eqlB Try.underlying4 rfl rfl) rfl rfl ?_
                              refine GoQ.pure rfl (op_move rfl) rfl rfl ?_
                              refine GoQ.pass rfl rfl rfl ?_
                              refine GoQ.pass rfl rfl rfl ?_
                              refine GoQ.pass rfl rfl rfl ?_
                              refine GoQ.pass rfl rfl rfl ?_
                              refine GoQ.pass rfl rfl rfl ?_
                              refine GoQ.pass rfl rfl rfl ?_
                              refine GoQ.pass rfl rfl rfl ?_
                              refine GoQ.pass rfl rfl rfl ?_
                              refine GoQ.pass rfl rfl rfl ?_
                              refine GoQ.pass rfl rfl rfl ?_
                              refine GoQ.pass rfl rfl rfl ?_
                              refine GoQ.pass rfl rfl rfl ?_
                              refine GoQ.pass rfl rfl rfl ?_
                              refine GoQ.pass rfl rfl rfl ?_
                              refine GoQ.pass rfl rfl rfl ?_
                              refine GoQ.join (S := Unit) [(44, .pure), (45, .pure), (46, .pure), (47, .pure), (48, .stable), (49, .pure), (50, .pure), (51, .stable), (52, .pure), (53, .stable), (54, .pure), (55, .pure), (56, .stable), (57, .pure), (58, .pure), (59, .pure), (60, .pure), (61, .loud), (62, .pure), (63, .pure), (64, .pure), (65, .pure), (66, .loud), (67, .pure), (68, .pure), (69, .pure), (70, .pure), (71, .pure), (72, .stable), (73, .pure), (74, .pure), (75, .stable), (76, .pure), (77, .stable), (78, .pure), (79, .pure), (80, .stable), (81, .pure), (82, .pure), (83, .stable), (84, .pure), (85, .pure), (86, .stable), (87, .pure), (88, .stable), (89, .pure), (90, .pure), (91, .stable), (92, .pure), (93, .pure), (94, .pure), (95, .stable), (96, .pure), (97, .pure), (98, .stable), (99, .pure), (100, .stable), (101, .pure), (102, .pure), (103, .stable), (104, .pure), (105, .pure), (106, .pure), (107, .pure), (108, .pure), (109, .loud), (110, .pure), (111, .pure)] (fun s σ w => agrees σ [(0, .slice ay a0.length az), (1, .int .i64 a1), (2, .int .i64 a2), (9, .pointer (some ⟨B16, 0, none⟩)), (147, .bool false)] ∧ (fun Z0 => Owns w0.heap.size w Z0 A ∧ ISl (Rp.sl (Rp.int .i64)) (bl Z0 ++ A) w ay az a0 ∧ ISl (Rp.int .i64) (bl Z0 ++ A) w ae af r9.R ∧ ISl (Rp.int .i64) (bl Z0 ++ A) w ag ah r9.L ∧ ISl (Rp.int .i64) (bl Z0 ++ A) w ai aj r9.J ∧ ISl (Rp.int .i64) (bl Z0 ++ A) w ak am r9.H ∧ ISl (Rp.sl (Rp.bool)) (bl Z0 ++ A) w aa ab r9.Below ∧ Fr (bl []) w0 (bl Z0) w) [.blk B16 (.cells #[.slice ae r9.R.length af, .slice ag r9.L.length ah, .slice ai r9.J.length aj, .slice ak r9.H.length am, .slice aa r9.Below.length ab] 29 (0, 0))]) H ?_ ?_
                              ·rintro _ σ rL H ⟨hag, hO, ao, aq, ap, ar, au, ad, hB⟩
                               unfold law15_GreenOrders_J22 at H
                               refine GoQ.keep [(0, .slice ay a0.length az), (1, .int .i64 a1), (2, .int .i64 a2), (9, .pointer (some ⟨B16, 0, none⟩)), (147, .bool false)] hag ?_
                               as_aux_lemma =>
                                refine GoQ.pass rfl rfl rfl ?_
                                refine GoQ.pure rfl (op_pickF rfl rfl rfl) rfl rfl ?_
                                exact hX11 _ _ _ H ⟨⟨rfl, rfl, rfl, rfl, rfl, trivial⟩, hO, ao, aq, ap, ar, au, ad, hB⟩
                              ·intro X22 hX22 H
                               dsimp only at H
                               refine GoQ.pass rfl rfl rfl ?_
                               refine GoQ.pass rfl rfl rfl ?_
                               refine GoQ.pass rfl rfl rfl ?_
                               refine GoQ.pass rfl rfl rfl ?_
                               refine GoQ.pass rfl rfl rfl ?_
                               refine GoQ.pass rfl rfl rfl ?_
                               exact hX22 _ _ _ H ⟨⟨rfl, rfl, rfl, rfl, rfl, trivial⟩, hO, ao, aq, ap, ar, au, ad, hB⟩
                             replace H := ifp rfl H
                             refine GoQ.pure rfl (op_eqlB Try.underlying4 rfl rfl) rfl rfl ?_
                             refine GoQ.pure rfl (op_move rfl) rfl rfl ?_
                             refine GoQ.pure rfl (op_fieldAddr Try.underlying29 rfl ti26 rfl (by decide)) rfl rfl ?_
                             refine GoQ.stable rfl (oblk (i := 1) 0 hO rfl rfl Try.underlying26 rfl rfl) rfl rfl ?_
                             refine GoQ.pure rfl (op_move rfl) rfl rfl ?_
                             obtain ⟨fW, H⟩ := H
                             obtain ⟨fX, H⟩ := H
                             refine GoQ.pure rfl (op_index Try.underlying26 ti3 rfl rfl fW fX (ap.some_ fW fX)) rfl rfl ?_
                             refine GoQ.stable rfl (ldInt ap fW fX Try.underlying3 rfl rfl) rfl rfl ?_
                             refine GoQ.pure rfl (op_fieldAddr Try.underlying29 rfl ti26 rfl (by decide)) rfl rfl ?_
                             refine GoQ.stable rfl (oblk (i := 1) 0 hO rfl rfl Try.underlying26 rfl rfl) rfl rfl ?_
                             refine GoQ.pure rfl (op_move rfl) rfl rfl ?_
                             obtain ⟨fY, H⟩ := H
                             obtain ⟨ic, H⟩ := H
                             refine GoQ.pure rfl (op_index Try.underlying26 ti3 rfl rfl fY ic (ap.some_ fY ic)) rfl rfl ?_
                             refine GoQ.stable rfl (ldInt ap fY ic Try.underlying3 rfl rfl) rfl rfl ?_
                             by_cases f0 : (ix r9.L a1) = (ix r9.L a2)
                             ·replace H := ifp f0 H
                              refine GoQ.pure rfl (fun w => opB (op_eql rfl rfl w) (decide_eq_true f0)) rfl rfl ?_
                              refine GoQ.pure rfl (op_move rfl) rfl rfl ?_
                              refine GoQ.pure rfl (op_move rfl) rfl rfl ?_
                              refine GoQ.pure rfl (op_move rfl) rfl rfl ?_
                              refine GoQ.call rfl (op_call body11 rfl (walk_green_LeqL hO.lt ao H)) (fun v w hr => by obtain ⟨_, _, hs, _⟩ := hr; assumption) rfl rfl ?_
                              rintro rM ld ⟨r162, rfl, nm, H⟩
                              have d5 := Stp.same hO nm
                              replace hO := d5.own
                              refine GoQ.join (S := Bool) [(44, .pure), (45, .pure), (46, .pure), (47, .pure), (48, .stable), (49, .pure), (50, .pure), (51, .stable), (52, .pure), (53, .stable), (54, .pure), (55, .pure), (56, .stable), (57, .pure), (58, .pure), (59, .pure), (60, .pure), (61, .loud), (62, .pure), (63, .pure), (64, .pure), (65, .pure), (66, .loud), (67, .pure), (68, .pure), (69, .pure), (70, .pure), (71, .pure), (72, .stable), (73, .pure), (74, .pure), (75, .stable), (76, .pure), (77, .stable), (78, .pure), (79, .pure), (80, .stable), (81, .pure), (82, .pure), (83, .stable), (84, .pure), (85, .pure), (86, .stable), (87, .pure), (88, .stable), (89, .pure), (90, .pure), (91, .stable), (92, .pure), (93, .pure), (94, .pure), (95, .stable), (96, .pure), (97, .pure), (98, .stable), (99, .pure), (100, .stable), (101, .pure), (102, .pure), (103, .stable), (104, .pure), (105, .pure), (106, .pure), (107, .pure), (108, .pure), (109, .loud), (110, .pure), (111, .pure)] (fun s σ w => agrees σ [(0, .slice ay a0.length az), (1, .int .i64 a1), (2, .int .i64 a2), (9, .pointer (some ⟨B16, 0, none⟩)), (147, .bool true), (158, .bool true), (168, .bool s)] ∧ (fun Z0 => Owns w0.heap.size w Z0 A ∧ ISl (Rp.sl (Rp.int .i64)) (bl Z0 ++ A) w ay az a0 ∧ ISl (Rp.int .i64) (bl Z0 ++ A) w ae af r9.R ∧ ISl (Rp.int .i64) (bl Z0 ++ A) w ag ah r9.L ∧ ISl (Rp.int .i64) (bl Z0 ++ A) w ai aj r9.J ∧ ISl (Rp.int .i64) (bl Z0 ++ A) w ak am r9.H ∧ ISl (Rp.sl (Rp.bool)) (bl Z0 ++ A) w aa ab r9.Below ∧ Fr (bl []) w0 (bl Z0) w) [.blk B16 (.cells #[.slice ae r9.R.length af, .slice ag r9.L.length ah, .slice ai r9.J.length aj, .slice ak r9.H.length am, .slice aa r9.Below.length ab] 29 (0, 0))]) H ?_ ?_
                              ·replace ao := ao.ch d5.ch
                               replace aq := aq.ch d5.ch
                               replace ap := ap.ch d5.ch
                               replace ar := ar.ch d5.ch
                               replace au := au.ch d5.ch
                               replace ad := ad.ch d5.ch
                               replace hB := hB.trans d5.fr
                               rintro jb23_169 σ oe H ⟨hag, hO, ao, aq, ap, ar, au, ad, hB⟩
                               unfold law15_GreenOrders_J23 at H
                               refine GoQ.keep [(0, .slice ay a0.length az), (1, .int .i64 a1), (2, .int .i64 a2), (9, .pointer (some ⟨B16, 0, none⟩)), (147, .bool true), (158, .bool true), (168, .bool jb23_169)] hag ?_
                               as_aux_lemma =>
                                cases jb23_169
                                ·replace H := ifn Bool.false_ne_true H
                                 refine GoQ.pure rfl (op_eqlB Try.underlying4 rfl rfl) rfl rfl ?_
                                 refine GoQ.pure rfl (op_pickT rfl rfl rfl) rfl rfl ?_
                                 exact hX11 _ _ _ H ⟨⟨rfl, rfl, rfl, rfl, rfl, trivial⟩, hO, ao, aq, ap, ar, au, ad, hB⟩
                                replace H := ifp rfl H
                                refine GoQ.pure rfl (op_eqlB Try.underlying4 rfl rfl) rfl rfl ?_
                                refine GoQ.pure rfl (op_pickT rfl rfl rfl) rfl rfl ?_
                                exact hX11 _ _ _ H ⟨⟨rfl, rfl, rfl, rfl, rfl, trivial⟩, hO, ao, aq, ap, ar, au, ad, hB⟩
                              ·intro X23 hX23 H
                               refine GoQ.pure rfl (op_move rfl) rfl rfl ?_
                               cases r162
                               ·replace H := ifn Bool.false_ne_true H
                                refine GoQ.pass rfl rfl rfl ?_
                                refine GoQ.pass rfl rfl rfl ?_
                                refine GoQ.pass rfl rfl rfl ?_
                                refine GoQ.pass rfl rfl rfl ?_
                                refine GoQ.pure rfl (op_pickF rfl rfl rfl) rfl rfl ?_
                                replace ao := ao.ch d5.ch
                                replace aq := aq.ch d5.ch
                                replace ap := ap.ch d5.ch
                                replace ar := ar.ch d5.ch
                                replace au := au.ch d5.ch
                                replace ad := ad.ch d5.ch
                                replace hB := hB.trans d5.fr
                                exact hX23 _ _ _ H ⟨⟨rfl, rfl, rfl, rfl, rfl, rfl, rfl, trivial⟩, hO, ao, aq, ap, ar, au, ad, hB⟩
                               replace H := ifp rfl H
                               refine GoQ.pure rfl (op_move rfl) rfl rfl ?_
                               refine GoQ.pure rfl (op_move rfl) rfl rfl ?_
                               refine GoQ.pure rfl (op_move rfl) rfl rfl ?_
                               replace ao := ao.ch d5.ch
                               refine GoQ.call rfl (op_call body11 rfl (walk_green_LeqL hO.lt ao H)) (fun v w hr => by obtain ⟨_, _, hs, _⟩ := hr; assumption) rfl rfl ?_
                               rintro rN rO ⟨r170, rfl, kM, H⟩
                               have d6 := Stp.same hO kM
                               replace hO := d6.own
                               refine GoQ.pure rfl (op_pickT rfl rfl rfl) rfl rfl ?_
                               replace ao := ao.ch d6.ch
                               have Z6 := d5.ch.trans d6.ch
                               replace aq := aq.ch Z6
                               replace ap := ap.ch Z6
                               replace ar := ar.ch Z6
                               replace au := au.ch Z6
                               replace ad := ad.ch Z6
                               replace hB := (hB.trans d5.fr).trans d6.fr
                               exact hX23 _ _ _ H ⟨⟨rfl, rfl, rfl, rfl, rfl, rfl, rfl, trivial⟩, hO, ao, aq, ap, ar, au, ad, hB⟩
                             replace H := ifn f0 H
                             refine GoQ.pure rfl (fun w => opB (op_eql rfl rfl w) (decide_eq_false f0)) rfl rfl ?_
                             refine GoQ.pure rfl (op_move rfl) rfl rfl ?_
                             refine GoQ.pure rfl (op_move rfl) rfl rfl ?_
                             refine GoQ.pure rfl (op_move rfl) rfl rfl ?_
                             refine GoQ.call rfl (op_call body11 rfl (walk_green_LeqL hO.lt ao H)) (fun v w hr => by obtain ⟨_, _, hs, _⟩ := hr; assumption) rfl rfl ?_
                             rintro rP rQ ⟨r176, rfl, np, H⟩
                             have d7 := Stp.same hO np
                             replace hO := d7.own
                             refine GoQ.join (S := Bool) [(44, .pure), (45, .pure), (46, .pure), (47, .pure), (48, .stable), (49, .pure), (50, .pure), (51, .stable), (52, .pure), (53, .stable), (54, .pure), (55, .pure), (56, .stable), (57, .pure), (58, .pure), (59, .pure), (60, .pure), (61, .loud), (62, .pure), (63, .pure), (64, .pure), (65, .pure), (66, .loud), (67, .pure), (68, .pure), (69, .pure), (70, .pure), (71, .pure), (72, .stable), (73, .pure), (74, .pure), (75, .stable), (76, .pure), (77, .stable), (78, .pure), (79, .pure), (80, .stable), (81, .pure), (82, .pure), (83, .stable), (84, .pure), (85, .pure), (86, .stable), (87, .pure), (88, .stable), (89, .pure), (90, .pure), (91, .stable), (92, .pure), (93, .pure), (94, .pure), (95, .stable), (96, .pure), (97, .pure), (98, .stable), (99, .pure), (100, .stable), (101, .pure), (102, .pure), (103, .stable), (104, .pure), (105, .pure), (106, .pure), (107, .pure), (108, .pure), (109, .loud), (110, .pure), (111, .pure)] (fun s σ w => agrees σ [(0, .slice ay a0.length az), (1, .int .i64 a1), (2, .int .i64 a2), (9, .pointer (some ⟨B16, 0, none⟩)), (147, .bool true), (158, .bool false), (168, .bool s)] ∧ (fun Z0 => Owns w0.heap.size w Z0 A ∧ ISl (Rp.sl (Rp.int .i64)) (bl Z0 ++ A) w ay az a0 ∧ ISl (Rp.int .i64) (bl Z0 ++ A) w ae af r9.R ∧ ISl (Rp.int .i64) (bl Z0 ++ A) w ag ah r9.L ∧ ISl (Rp.int .i64) (bl Z0 ++ A) w ai aj r9.J ∧ ISl (Rp.int .i64) (bl Z0 ++ A) w ak am r9.H ∧ ISl (Rp.sl (Rp.bool)) (bl Z0 ++ A) w aa ab r9.Below ∧ Fr (bl []) w0 (bl Z0) w) [.blk B16 (.cells #[.slice ae r9.R.length af, .slice ag r9.L.length ah, .slice ai r9.J.length aj, .slice ak r9.H.length am, .slice aa r9.Below.length ab] 29 (0, 0))]) H ?_ ?_
                             ·replace ao := ao.ch d7.ch
                              replace aq := aq.ch d7.ch
                              replace ap := ap.ch d7.ch
                              replace ar := ar.ch d7.ch
                              replace au := au.ch d7.ch
                              replace ad := ad.ch d7.ch
                              replace hB := hB.trans d7.fr
                              rintro jb24_183 σ rR H ⟨hag, hO, ao, aq, ap, ar, au, ad, hB⟩
                              unfold law15_GreenOrders_J24 at H
                              refine GoQ.keep [(0, .slice ay a0.length az), (1, .int .i64 a1), (2, .int .i64 a2), (9, .pointer (some ⟨B16, 0, none⟩)), (147, .bool true), (158, .bool false), (168, .bool jb24_183)] hag ?_
                              as_aux_lemma =>
                               cases jb24_183
                               ·replace H := ifn Bool.false_ne_true H
                                refine GoQ.pure rfl (op_eqlB Try.underlying4 rfl rfl) rfl rfl ?_
                                refine GoQ.pure rfl (op_pickT rfl rfl rfl) rfl rfl ?_
                                exact hX11 _ _ _ H ⟨⟨rfl, rfl, rfl, rfl, rfl, trivial⟩, hO, ao, aq, ap, ar, au, ad, hB⟩
                               replace H := ifp rfl H
                               refine GoQ.pure rfl (op_eqlB Try.underlying4 rfl rfl) rfl rfl ?_
                               refine GoQ.pure rfl (op_pickT rfl rfl rfl) rfl rfl ?_
                               exact hX11 _ _ _ H ⟨⟨rfl, rfl, rfl, rfl, rfl, trivial⟩, hO, ao, aq, ap, ar, au, ad, hB⟩
                             ·intro X24 hX24 H
                              refine GoQ.pure rfl (op_move rfl) rfl rfl ?_
                              cases r176
                              ·replace H := ifn Bool.false_ne_true H
                               refine GoQ.pass rfl rfl rfl ?_
                               refine GoQ.pass rfl rfl rfl ?_
                               refine GoQ.pass rfl rfl rfl ?_
                               refine GoQ.pass rfl rfl rfl ?_
                               refine GoQ.pure rfl (op_pickF rfl rfl rfl) rfl rfl ?_
                               replace ao := ao.ch d7.ch
                               replace aq := aq.ch d7.ch
                               replace ap := ap.ch d7.ch
                               replace ar := ar.ch d7.ch
                               replace au := au.ch d7.ch
                               replace ad := ad.ch d7.ch
                               replace hB := hB.trans d7.fr
                               exact hX24 _ _ _ H ⟨⟨rfl, rfl, rfl, rfl, rfl, rfl, rfl, trivial⟩, hO, ao, aq, ap, ar, au, ad, hB⟩
                              replace H := ifp rfl H
                              refine GoQ.pure rfl (op_move rfl) rfl rfl ?_
                              refine GoQ.pure rfl (op_move rfl) rfl rfl ?_
                              refine GoQ.pure rfl (op_move rfl) rfl rfl ?_
                              replace ao := ao.ch d7.ch
                              refine GoQ.call rfl (op_call body11 rfl (walk_green_LeqL hO.lt ao H)) (fun v w hr => by obtain ⟨_, _, hs, _⟩ := hr; assumption) rfl rfl ?_
                              rintro rS rT ⟨r184, rfl, nq, H⟩
                              have d8 := Stp.same hO nq
                              replace hO := d8.own
                              refine GoQ.pure rfl (op_pickT rfl rfl rfl) rfl rfl ?_
                              replace ao := ao.ch d8.ch
                              have Z7 := d7.ch.trans d8.ch
                              replace aq := aq.ch Z7
                              replace ap := ap.ch Z7
                              replace ar := ar.ch Z7
                              replace au := au.ch Z7
                              replace ad := ad.ch Z7
                              replace hB := (hB.trans d7.fr).trans d8.fr
                              exact hX24 _ _ _ H ⟨⟨rfl, rfl, rfl, rfl, rfl, rfl, rfl, trivial⟩, hO, ao, aq, ap, ar, au, ad, hB⟩
                           ·intro X21 hX21 H
                            refine GoQ.pure rfl (op_move rfl) rfl rfl ?_
                            cases r148
                            ·replace H := ifn Bool.false_ne_true H
                             refine GoQ.pass rfl rfl rfl ?_
                             refine GoQ.pass rfl rfl rfl ?_
                             refine GoQ.pass rfl rfl rfl ?_
                             refine GoQ.pass rfl rfl rfl ?_
                             refine GoQ.pure rfl (op_pickF rfl rfl rfl) rfl rfl ?_
                             replace ao := ao.ch d4.ch
                             replace aq := aq.ch d4.ch
                             have Z8 := bV.ch.trans d4.ch
                             replace ap := ap.ch Z8
                             replace ar := ar.ch Z8
                             replace au := au.ch Z8
                             replace ad := ad.ch Z8
                             replace hB := (hB.trans bV.fr).trans d4.fr
                             exact hX21 _ _ _ H ⟨⟨rfl, rfl, rfl, rfl, rfl, rfl, trivial⟩, hO, ao, aq, ap, ar, au, ad, hB⟩
                            replace H := ifp rfl H
                            refine GoQ.pure rfl (op_move rfl) rfl rfl ?_
                            refine GoQ.pure rfl (op_move rfl) rfl rfl ?_
                            refine GoQ.pure rfl (op_move rfl) rfl rfl ?_
                            replace ao := ao.ch d4.ch
                            refine GoQ.call rfl (op_call body10 rfl (walk_green_LeqR hO.lt ao H)) (fun v w hr => by obtain ⟨_, _, hs, _⟩ := hr; assumption) rfl rfl ?_
                            rintro rU rV ⟨r190, rfl, nr, H⟩
                            have bC := Stp.same hO nr
                            replace hO := bC.own
                            refine GoQ.pure rfl (op_pickT rfl rfl rfl) rfl rfl ?_
                            replace ao := ao.ch bC.ch
                            replace aq := (aq.ch d4.ch).ch bC.ch
                            have Z9 := (bV.ch.trans d4.ch).trans bC.ch
                            replace ap := ap.ch Z9
                            replace ar := ar.ch Z9
                            replace au := au.ch Z9
                            replace ad := ad.ch Z9
                            replace hB := ((hB.trans bV.fr).trans d4.fr).trans bC.fr
                            exact hX21 _ _ _ H ⟨⟨rfl, rfl, rfl, rfl, rfl, rfl, trivial⟩, hO, ao, aq, ap, ar, au, ad, hB⟩
                          replace H := ifn fI H
                          refine GoQ.pure rfl (fun w => opB (op_eql rfl rfl w) (decide_eq_false fI)) rfl rfl ?_
                          refine GoQ.pure rfl (op_move rfl) rfl rfl ?_
                          refine GoQ.pure rfl (op_move rfl) rfl rfl ?_
                          refine GoQ.pure rfl (op_move rfl) rfl rfl ?_
                          replace ao := ao.ch bV.ch
                          refine GoQ.call rfl (op_call body10 rfl (walk_green_LeqR hO.lt ao H)) (fun v w hr => by obtain ⟨_, _, hs, _⟩ := hr; assumption) rfl rfl ?_
                          rintro rW rX ⟨r196, rfl, ns, H⟩
                          have d9 := Stp.same hO ns
                          replace hO := d9.own
                          refine GoQ.join (S := Bool) [(21, .pure), (22, .pure), (23, .pure), (24, .stable), (25, .pure), (26, .pure), (27, .stable), (28, .pure), (29, .stable), (30, .pure), (31, .pure), (32, .stable), (33, .pure), (34, .pure), (35, .pure), (36, .pure), (37, .loud), (38, .pure), (39, .pure), (40, .pure), (41, .pure), (42, .loud), (43, .pure), (44, .pure), (45, .pure), (46, .pure), (47, .pure), (48, .stable), (49, .pure), (50, .pure), (51, .stable), (52, .pure), (53, .stable), (54, .pure), (55, .pure), (56, .stable), (57, .pure), (58, .pure), (59, .pure), (60, .pure), (61, .loud), (62, .pure), (63, .pure), (64, .pure), (65, .pure), (66, .loud), (67, .pure), (68, .pure), (69, .pure), (70, .pure), (71, .pure), (72, .stable), (73, .pure), (74, .pure), (75, .stable), (76, .pure), (77, .stable), (78, .pure), (79, .pure), (80, .stable), (81, .pure), (82, .pure), (83, .stable), (84, .pure), (85, .pure), (86, .stable), (87, .pure), (88, .stable), (89, .pure), (90, .pure), (91, .stable), (92, .pure), (93, .pure), (94, .pure), (95, .stable), (96, .pure), (97, .pure), (98, .stable), (99, .pure), (100, .stable), (101, .pure), (102, .pure), (103, .stable), (104, .pure), (105, .pure), (106, .pure), (107, .pure), (108, .pure), (109, .loud), (110, .pure), (111, .pure)] (fun s σ w => agrees σ [(0, .slice ay a0.length az), (1, .int .i64 a1), (2, .int .i64 a2), (9, .pointer (some ⟨B16, 0, none⟩)), (135, .bool false), (145, .bool s)] ∧ (fun Z0 => Owns w0.heap.size w Z0 A ∧ ISl (Rp.sl (Rp.int .i64)) (bl Z0 ++ A) w ay az a0 ∧ ISl (Rp.int .i64) (bl Z0 ++ A) w ae af r9.R ∧ ISl (Rp.int .i64) (bl Z0 ++ A) w ag ah r9.L ∧ ISl (Rp.int .i64) (bl Z0 ++ A) w ai aj r9.J ∧ ISl (Rp.int .i64) (bl Z0 ++ A) w ak am r9.H ∧ ISl (Rp.sl (Rp.bool)) (bl Z0 ++ A) w aa ab r9.Below ∧ Fr (bl []) w0 (bl Z0) w) [.blk B16 (.cells #[.slice ae r9.R.length af, .slice ag r9.L.length ah, .slice ai r9.J.length aj, .slice ak r9.H.length am, .slice aa r9.Below.length ab] 29 (0, 0))]) H ?_ ?_
                          ·replace ao := ao.ch d9.ch
                           replace aq := aq.ch d9.ch
                           have Z10 := bV.ch.trans d9.ch
                           replace ap := ap.ch Z10
                           replace ar := ar.ch Z10
                           replace au := au.ch Z10
                           replace ad := ad.ch Z10
                           replace hB := (hB.trans bV.fr).trans d9.fr
                           rintro jb25_203 σ rY H ⟨hag, hO, ao, aq, ap, ar, au, ad, hB⟩
                           unfold law15_GreenOrders_J25 at H
                           refine GoQ.keep [(0, .slice ay a0.length az), (1, .int .i64 a1), (2, .int .i64 a2), (9, .pointer (some ⟨B16, 0, none⟩)), (135, .bool false), (145, .bool jb25_203)] hag ?_
                           as_aux_lemma =>
                            cases jb25_203
                            ·replace H := ifn Bool.false_ne_true H
                             refine GoQ.pure rfl (op_eqlB Try.underlying4 rfl rfl) rfl rfl ?_
                             refine GoQ.pure rfl (op_move rfl) rfl rfl ?_
                             refine GoQ.pure rfl (op_fieldAddr Try.underlying29 rfl ti26 rfl (by decide)) rfl rfl ?_
                             refine GoQ.stable rfl (oblk (i := 1) 0 hO rfl rfl Try.underlying26 rfl rfl) rfl rfl ?_
                             refine GoQ.pure rfl (op_move rfl) rfl rfl ?_
                             obtain ⟨kE, H⟩ := H
                             obtain ⟨kF, H⟩ := H
                             refine GoQ.pure rfl (op_index Try.underlying26 ti3 rfl rfl kE kF (ap.some_ kE kF)) rfl rfl ?_
                             refine GoQ.stable rfl (ldInt ap kE kF Try.underlying3 rfl rfl) rfl rfl ?_
                             refine GoQ.pure rfl (op_fieldAddr Try.underlying29 rfl ti26 rfl (by decide)) rfl rfl ?_
                             refine GoQ.stable rfl (oblk (i := 1) 0 hO rfl rfl Try.underlying26 rfl rfl) rfl rfl ?_
                             refine GoQ.pure rfl (op_move rfl) rfl rfl ?_
                             obtain ⟨kG, H⟩ := H
                             obtain ⟨kI, H⟩ := H
                             refine GoQ.pure rfl (op_index Try.underlying26 ti3 rfl rfl kG kI (ap.some_ kG kI)) rfl rfl ?_
                             refine GoQ.stable rfl (ldInt ap kG kI Try.underlying3 rfl rfl) rfl rfl ?_
                             by_cases gO : (ix r9.L a1) = (ix r9.L a2)
                             ·replace H := ifp gO H
                              refine GoQ.pure rfl (fun w => opB (op_eql rfl rfl w) (decide_eq_true gO)) rfl rfl ?_
                              refine GoQ.pure rfl (op_move rfl) rfl rfl ?_
                              refine GoQ.pure rfl (op_move rfl) rfl rfl ?_
                              refine GoQ.pure rfl (op_move rfl) rfl rfl ?_
                              refine GoQ.call rfl (op_call body11 rfl (walk_green_LeqL hO.lt ao H)) (fun v w hr => by obtain ⟨_, _, hs, _⟩ := hr; assumption) rfl rfl ?_
                              rintro sa sb ⟨r209, rfl, nt, H⟩
                              have eg := Stp.same hO nt
                              replace hO := eg.own
                              refine GoQ.join (S := Bool) [(44, .pure), (45, .pure), (46, .pure), (47, .pure), (48, .stable), (49, .pure), (50, .pure), (51, .stable), (52, .pure), (53, .stable), (54, .pure), (55, .pure), (56, .stable), (57, .pure), (58, .pure), (59, .pure), (60, .pure), (61, .loud), (62, .pure), (63, .pure), (64, .pure), (65, .pure), (66, .loud), (67, .pure), (68, .pure), (69, .pure), (70, .pure), (71, .pure), (72, .stable), (73, .pure), (74, .pure), (75, .stable), (76, .pure), (77, .stable), (78, .pure), (79, .pure), (80, .stable), (81, .pure), (82, .pure), (83, .stable), (84, .pure), (85, .pure), (86, .stable), (87, .pure), (88, .stable), (89, .pure), (90, .pure), (91, .stable), (92, .pure), (93, .pure), (94, .pure), (95, .stable), (96, .pure), (97, .pure), (98, .stable), (99, .pure), (100, .stable), (101, .pure), (102, .pure), (103, .stable), (104, .pure), (105, .pure), (106, .pure), (107, .pure), (108, .pure), (109, .loud), (110, .pure), (111, .pure)] (fun s σ w => agrees σ [(0, .slice ay a0.length az), (1, .int .i64 a1), (2, .int .i64 a2), (9, .pointer (some ⟨B16, 0, none⟩)), (147, .bool true), (158, .bool true), (168, .bool s)] ∧ (fun Z0 => Owns w0.heap.size w Z0 A ∧ ISl (Rp.sl (Rp.int .i64)) (bl Z0 ++ A) w ay az a0 ∧ ISl (Rp.int .i64) (bl Z0 ++ A) w ae af r9.R ∧ ISl (Rp.int .i64) (bl Z0 ++ A) w ag ah r9.L ∧ ISl (Rp.int .i64) (bl Z0 ++ A) w ai aj r9.J ∧ ISl (Rp.int .i64) (bl Z0 ++ A) w ak am r9.H ∧ ISl (Rp.sl (Rp.bool)) (bl Z0 ++ A) w aa ab r9.Below ∧ Fr (bl []) w0 (bl Z0) w) [.blk B16 (.cells #[.slice ae r9.R.length af, .slice ag r9.L.length ah, .slice ai r9.J.length aj, .slice ak r9.H.length am, .slice aa r9.Below.length ab] 29 (0, 0))]) H ?_ ?_
                              ·replace ao := ao.ch eg.ch
                               replace aq := aq.ch eg.ch
                               replace ap := ap.ch eg.ch
                               replace ar := ar.ch eg.ch
                               replace au := au.ch eg.ch
                               replace ad := ad.ch eg.ch
                               replace hB := hB.trans eg.fr
                               rintro jb26_216 σ sc H ⟨hag, hO, ao, aq, ap, ar, au, ad, hB⟩
                               unfold law15_GreenOrders_J26 at H
                               refine GoQ.keep [(0, .slice ay a0.length az), (1, .int .i64 a1), (2, .int .i64 a2), (9, .pointer (some ⟨B16, 0, none⟩)), (147, .bool true), (158, .bool true), (168, .bool jb26_216)] hag ?_
                               as_aux_lemma =>
                                cases jb26_216
                                ·replace H := ifn Bool.false_ne_true H
                                 refine GoQ.pure rfl (op_eqlB Try.underlying4 rfl rfl) rfl rfl ?_
                                 refine GoQ.pure rfl (op_pickT rfl rfl rfl) rfl rfl ?_
                                 exact hX11 _ _ _ H ⟨⟨rfl, rfl, rfl, rfl, rfl, trivial⟩, hO, ao, aq, ap, ar, au, ad, hB⟩
                                replace H := ifp rfl H
                                refine GoQ.pure rfl (op_eqlB Try.underlying4 rfl rfl) rfl rfl ?_
                                refine GoQ.pure rfl (op_pickT rfl rfl rfl) rfl rfl ?_
                                exact hX11 _ _ _ H ⟨⟨rfl, rfl, rfl, rfl, rfl, trivial⟩, hO, ao, aq, ap, ar, au, ad, hB⟩
                              ·intro X26 hX26 H
                               refine GoQ.pure rfl (op_move rfl) rfl rfl ?_
                               cases r209
                               ·replace H := ifn Bool.false_ne_true H
                                refine GoQ.pass rfl rfl rfl ?_
                                refine GoQ.pass rfl rfl rfl ?_
                                refine GoQ.pass rfl rfl rfl ?_
                                refine GoQ.pass rfl rfl rfl ?_
                                refine GoQ.pure rfl (op_pickF rfl rfl rfl) rfl rfl ?_
                                replace ao := ao.ch eg.ch
                                replace aq := aq.ch eg.ch
                                replace ap := ap.ch eg.ch
                                replace ar := ar.ch eg.ch
                                replace au := au.ch eg.ch
                                replace ad := ad.ch eg.ch
                                replace hB := hB.trans eg.fr
                                exact hX26 _ _ _ H ⟨⟨rfl, rfl, rfl, rfl, rfl, rfl, rfl, trivial⟩, hO, ao, aq, ap, ar, au, ad, hB⟩
                               replace H := ifp rfl H
                               refine GoQ.pure rfl (op_move rfl) rfl rfl ?_
                               refine GoQ.pure rfl (op_move rfl) rfl rfl ?_
                               refine GoQ.pure rfl (op_move rfl) rfl rfl ?_
                               replace ao := ao.ch eg.ch
                               refine GoQ.call rfl (op_call body11 rfl (walk_green_LeqL hO.lt ao H)) (fun v w hr => by obtain ⟨_, _, hs, _⟩ := hr; assumption) rfl rfl ?_
                               rintro sd se ⟨r217, rfl, nu, H⟩
                               have eh := Stp.same hO nu
                               replace hO := eh.own
                               refine GoQ.pure rfl (op_pickT rfl rfl rfl) rfl rfl ?_
                               replace ao := ao.ch eh.ch
                               have Z11 := eg.ch.trans eh.ch
                               replace aq := aq.ch Z11
                               replace ap := ap.ch Z11
                               replace ar := ar.ch Z11
                               replace au := au.ch Z11
                               replace ad := ad.ch Z11
                               replace hB := (hB.trans eg.fr).trans eh.fr
                               exact hX26 _ _ _ H ⟨⟨rfl, rfl, rfl, rfl, rfl, rfl, rfl, trivial⟩, hO, ao, aq, ap, ar, au, ad, hB⟩
                             replace H := ifn gO H
                             refine GoQ.pure rfl (fun w => opB (op_eql rfl rfl w) (decide_eq_false gO)) rfl rfl ?_
                             refine GoQ.pure rfl (op_move rfl) rfl rfl ?_
                             refine GoQ.pure rfl (op_move rfl) rfl rfl ?_
                             refine GoQ.pure rfl (op_move rfl) rfl rfl ?_
                             refine GoQ.call rfl (op_call body11 rfl (walk_green_LeqL hO.lt ao H)) (fun v w hr => by obtain ⟨_, _, hs, _⟩ := hr; assumption) rfl rfl ?_
                             rintro sf sg ⟨r223, rfl, nv, H⟩
                             have en := Stp.same hO nv
                             replace hO := en.own
                             refine GoQ.join (S := Bool) [(44, .pure), (45, .pure), (46, .pure), (47, .pure), (48, .stable), (49, .pure), (50, .pure), (51, .stable), (52, .pure), (53, .stable), (54, .pure), (55, .pure), (56, .stable), (57, .pure), (58, .pure), (59, .pure), (60, .pure), (61, .loud), (62, .pure), (63, .pure), (64, .pure), (65, .pure), (66, .loud), (67, .pure), (68, .pure), (69, .pure), (70, .pure), (71, .pure), (72, .stable), (73, .pure), (74, .pure), (75, .stable), (76, .pure), (77, .stable), (78, .pure), (79, .pure), (80, .stable), (81, .pure), (82, .pure), (83, .stable), (84, .pure), (85, .pure), (86, .stable), (87, .pure), (88, .stable), (89, .pure), (90, .pure), (91, .stable), (92, .pure), (93, .pure), (94, .pure), (95, .stable), (96, .pure), (97, .pure), (98, .stable), (99, .pure), (100, .stable), (101, .pure), (102, .pure), (103, .stable), (104, .pure), (105, .pure), (106, .pure), (107, .pure), (108, .pure), (109, .loud), (110, .pure), (111, .pure)] (fun s σ w => agrees σ [(0, .slice ay a0.length az), (1, .int .i64 a1), (2, .int .i64 a2), (9, .pointer (some ⟨B16, 0, none⟩)), (147, .bool true), (158, .bool false), (168, .bool s)] ∧ (fun Z0 => Owns w0.heap.size w Z0 A ∧ ISl (Rp.sl (Rp.int .i64)) (bl Z0 ++ A) w ay az a0 ∧ ISl (Rp.int .i64) (bl Z0 ++ A) w ae af r9.R ∧ ISl (Rp.int .i64) (bl Z0 ++ A) w ag ah r9.L ∧ ISl (Rp.int .i64) (bl Z0 ++ A) w ai aj r9.J ∧ ISl (Rp.int .i64) (bl Z0 ++ A) w ak am r9.H ∧ ISl (Rp.sl (Rp.bool)) (bl Z0 ++ A) w aa ab r9.Below ∧ Fr (bl []) w0 (bl Z0) w) [.blk B16 (.cells #[.slice ae r9.R.length af, .slice ag r9.L.length ah, .slice ai r9.J.length aj, .slice ak r9.H.length am, .slice aa r9.Below.length ab] 29 (0, 0))]) H ?_ ?_
                             ·replace ao := ao.ch en.ch
                              replace aq := aq.ch en.ch
                              replace ap := ap.ch en.ch
                              replace ar := ar.ch en.ch
                              replace au := au.ch en.ch
                              replace ad := ad.ch en.ch
                              replace hB := hB.trans en.fr
                              rintro jb27_230 σ si H ⟨hag, hO, ao, aq, ap, ar, au, ad, hB⟩
                              unfold law15_GreenOrders_J27 at H
                              refine GoQ.keep [(0, .slice ay a0.length az), (1, .int .i64 a1), (2, .int .i64 a2), (9, .pointer (some ⟨B16, 0, none⟩)), (147, .bool true), (158, .bool false), (168, .bool jb27_230)] hag ?_
                              as_aux_lemma =>
                               cases jb27_230
                               ·replace H := ifn Bool.false_ne_true H
                                refine GoQ.pure rfl (op_eqlB Try.underlying4 rfl rfl) rfl rfl ?_
                                refine GoQ.pure rfl (op_pickT rfl rfl rfl) rfl rfl ?_
                                exact hX11 _ _ _ H ⟨⟨rfl, rfl, rfl, rfl, rfl, trivial⟩, hO, ao, aq, ap, ar, au, ad, hB⟩
                               replace H := ifp rfl H
                               refine GoQ.pure rfl (op_eqlB Try.underlying4 rfl rfl) rfl rfl ?_
                               refine GoQ.pure rfl (op_pickT rfl rfl rfl) rfl rfl ?_
                               exact hX11 _ _ _ H ⟨⟨rfl, rfl, rfl, rfl, rfl, trivial⟩, hO, ao, aq, ap, ar, au, ad, hB⟩
                             ·intro X27 hX27 H
                              refine GoQ.pure rfl (op_move rfl) rfl rfl ?_
                              cases r223
                              ·replace H := ifn Bool.false_ne_true H
                               refine GoQ.pass rfl rfl rfl ?_
                               refine GoQ.pass rfl rfl rfl ?_
                               refine GoQ.pass rfl rfl rfl ?_
                               refine GoQ.pass rfl rfl rfl ?_
                               refine GoQ.pure rfl (op_pickF rfl rfl rfl) rfl rfl ?_
                               replace ao := ao.ch en.ch
                               replace aq := aq.ch en.ch
                               replace ap := ap.ch en.ch
                               replace ar := ar.ch en.ch
                               replace au := au.ch en.ch
                               replace ad := ad.ch en.ch
                               replace hB := hB.trans en.fr
                               exact hX27 _ _ _ H ⟨⟨rfl, rfl, rfl, rfl, rfl, rfl, rfl, trivial⟩, hO, ao, aq, ap, ar, au, ad, hB⟩
                              replace H := ifp rfl H
                              refine GoQ.pure rfl (op_move rfl) rfl rfl ?_
                              refine GoQ.pure rfl (op_move rfl) rfl rfl ?_
                              refine GoQ.pure rfl (op_move rfl) rfl rfl ?_
                              replace ao := ao.ch en.ch
                              refine GoQ.call rfl (op_call body11 rfl (walk_green_LeqL hO.lt ao H)) (fun v w hr => by obtain ⟨_, _, hs, _⟩ := hr; assumption) rfl rfl ?_
                              rintro sj sk ⟨r231, rfl, nw, H⟩
                              have eo := Stp.same hO nw
                              replace hO := eo.own
                              refine GoQ.pure rfl (op_pickT rfl rfl rfl) rfl rfl ?_
                              replace ao := ao.ch eo.ch
                              have Z12 := en.ch.trans eo.ch
                              replace aq := aq.ch Z12
                              replace ap := ap.ch Z12
                              replace ar := ar.ch Z12
                              replace au := au.ch Z12
                              replace ad := ad.ch Z12
                              replace hB := (hB.trans en.fr).trans eo.fr
                              exact hX27 _ _ _ H ⟨⟨rfl, rfl, rfl, rfl, rfl, rfl, rfl, trivial⟩, hO, ao, aq, ap, ar, au, ad, hB⟩
                            replace H := ifp rfl H
                            refine GoQ.pure rfl (op_eqlB Try.underlying4 rfl rfl) rfl rfl ?_
                            refine GoQ.pure rfl (op_move rfl) rfl rfl ?_
                            refine GoQ.pass rfl rfl rfl ?_
                            refine GoQ.pass rfl rfl rfl ?_
                            refine GoQ.pass rfl rfl rfl ?_
                            refine GoQ.pass rfl rfl rfl ?_
                            refine GoQ.pass rfl rfl rfl ?_
                            refine GoQ.pass rfl rfl rfl ?_
                            refine GoQ.pass rfl rfl rfl ?_
                            refine GoQ.pass rfl rfl rfl ?_
                            refine GoQ.pass rfl rfl rfl ?_
                            refine GoQ.pass rfl rfl rfl ?_
                            refine GoQ.pass rfl rfl rfl ?_
                            refine GoQ.pass rfl rfl rfl ?_
                            refine GoQ.pass rfl rfl rfl ?_
                            refine GoQ.pass rfl rfl rfl ?_
                            refine GoQ.pass rfl rfl rfl ?_
                            refine GoQ.join (S := Unit) [(44, .pure), (45, .pure), (46, .pure), (47, .pure), (48, .stable), (49, .pure), (50, .pure), (51, .stable), (52, .pure), (53, .stable), (54, .pure), (55, .pure), (56, .stable), (57, .pure), (58, .pure), (59, .pure), (60, .pure), (61, .loud), (62, .pure), (63, .pure), (64, .pure), (65, .pure), (66, .loud), (67, .pure), (68, .pure), (69, .pure), (70, .pure), (71, .pure), (72, .stable), (73, .pure), (74, .pure), (75, .stable), (76, .pure), (77, .stable), (78, .pure), (79, .pure), (80, .stable), (81, .pure), (82, .pure), (83, .stable), (84, .pure), (85, .pure), (86, .stable), (87, .pure), (88, .stable), (89, .pure), (90, .pure), (91, .stable), (92, .pure), (93, .pure), (94, .pure), (95, .stable), (96, .pure), (97, .pure), (98, .stable), (99, .pure), (100, .stable), (101, .pure), (102, .pure), (103, .stable), (104, .pure), (105, .pure), (106, .pure), (107, .pure), (108, .pure), (109, .loud), (110, .pure), (111, .pure)] (fun s σ w => agrees σ [(0, .slice ay a0.length az), (1, .int .i64 a1), (2, .int .i64 a2), (9, .pointer (some ⟨B16, 0, none⟩)), (147, .bool false)] ∧ (fun Z0 => Owns w0.heap.size w Z0 A ∧ ISl (Rp.sl (Rp.int .i64)) (bl Z0 ++ A) w ay az a0 ∧ ISl (Rp.int .i64) (bl Z0 ++ A) w ae af r9.R ∧ ISl (Rp.int .i64) (bl Z0 ++ A) w ag ah r9.L ∧ ISl (Rp.int .i64) (bl Z0 ++ A) w ai aj r9.J ∧ ISl (Rp.int .i64) (bl Z0 ++ A) w ak am r9.H ∧ ISl (Rp.sl (Rp.bool)) (bl Z0 ++ A) w aa ab r9.Below ∧ Fr (bl []) w0 (bl Z0) w) [.blk B16 (.cells #[.slice ae r9.R.length af, .slice ag r9.L.length ah, .slice ai r9.J.length aj, .slice ak r9.H.length am, .slice aa r9.Below.length ab] 29 (0, 0))]) H ?_ ?_
                            ·rintro _ σ sm H ⟨hag, hO, ao, aq, ap, ar, au, ad, hB⟩
                             unfold law15_GreenOrders_J28 at H
                             refine GoQ.keep [(0, .slice ay a0.length az), (1, .int .i64 a1), (2, .int .i64 a2), (9, .pointer (some ⟨B16, 0, none⟩)), (147, .bool false)] hag ?_
                             as_aux_lemma =>
                              refine GoQ.pass rfl rfl rfl ?_
                              refine GoQ.pure rfl (op_pickF rfl rfl rfl) rfl rfl ?_
                              exact hX11 _ _ _ H ⟨⟨rfl, rfl, rfl, rfl, rfl, trivial⟩, hO, ao, aq, ap, ar, au, ad, hB⟩
                            ·intro X28 hX28 H
                             dsimp only at H
                             refine GoQ.pass rfl rfl rfl ?_
                             refine GoQ.pass rfl rfl rfl ?_
                             refine GoQ.pass rfl rfl rfl ?_
                             refine GoQ.pass rfl rfl rfl ?_
                             refine GoQ.pass rfl rfl rfl ?_
                             refine GoQ.pass rfl rfl rfl ?_
                             exact hX28 _ _ _ H ⟨⟨rfl, rfl, rfl, rfl, rfl, trivial⟩, hO, ao, aq, ap, ar, au, ad, hB⟩
                          ·intro X25 hX25 H
                           refine GoQ.pure rfl (op_move rfl) rfl rfl ?_
                           cases r196
                           ·replace H := ifn Bool.false_ne_true H
                            refine GoQ.pass rfl rfl rfl ?_
                            refine GoQ.pass rfl rfl rfl ?_
                            refine GoQ.pass rfl rfl rfl ?_
                            refine GoQ.pass rfl rfl rfl ?_
                            refine GoQ.pure rfl (op_pickF rfl rfl rfl) rfl rfl ?_
                            replace ao := ao.ch d9.ch
                            replace aq := aq.ch d9.ch
                            have Z13 := bV.ch.trans d9.ch
                            replace ap := ap.ch Z13
                            replace ar := ar.ch Z13
                            replace au := au.ch Z13
                            replace ad := ad.ch Z13
                            replace hB := (hB.trans bV.fr).trans d9.fr
                            exact hX25 _ _ _ H ⟨⟨rfl, rfl, rfl, rfl, rfl, rfl, trivial⟩, hO, ao, aq, ap, ar, au, ad, hB⟩
                           replace H := ifp rfl H
                           refine GoQ.pure rfl (op_move rfl) rfl rfl ?_
                           refine GoQ.pure rfl (op_move rfl) rfl rfl ?_
                           refine GoQ.pure rfl (op_move rfl) rfl rfl ?_
                           replace ao := ao.ch d9.ch
                           refine GoQ.call rfl (op_call body10 rfl (walk_green_LeqR hO.lt ao H)) (fun v w hr => by obtain ⟨_, _, hs, _⟩ := hr; assumption) rfl rfl ?_
                           rintro sn sq ⟨r238, rfl, ny, H⟩
                           have er := Stp.same hO ny
                           replace hO := er.own
                           refine GoQ.pure rfl (op_pickT rfl rfl rfl) rfl rfl ?_
                           replace ao := ao.ch er.ch
                           replace aq := (aq.ch d9.ch).ch er.ch
                           have Z14 := (bV.ch.trans d9.ch).trans er.ch
                           replace ap := ap.ch Z14
                           replace ar := ar.ch Z14
                           replace au := au.ch Z14
                           replace ad := ad.ch Z14
                           replace hB := ((hB.trans bV.fr).trans d9.fr).trans er.fr
                           exact hX25 _ _ _ H ⟨⟨rfl, rfl, rfl, rfl, rfl, rfl, trivial⟩, hO, ao, aq, ap, ar, au, ad, hB⟩
                        replace H := ifp rfl H
                        refine zt rfl rfl (zq ?_)
                        refine Go1.cut [] trivial ?_
                        intro σ _
                        refine zr (za rfl (zn ?_))
                        refine Go1.ret1 Try.func3 rfl ?_
                        exact ⟨false, rfl, hB.same, H⟩
                      ·intro X10 hX10 H
                       refine zm rfl ?_
                       cases jb9_59
                       ·replace H := ifn Bool.false_ne_true H
                        refine zm rfl (zm rfl (zm rfl ?_))
                        refine GoR.call (op_call body12 rfl (walk_green_LeqJ hO.lt ao H)) rfl rfl ?_
                        rintro sr ss ⟨r244, rfl, nA, H⟩
                        have eA := Stp.same hO nA
                        replace hO := eA.own
                        refine GoR.join (S := Bool) 28 (fun s σ w => agrees σ [(0, .slice ay a0.length az), (1, .int .i64 a1), (2, .int .i64 a2), (3, .int .i64 a3), (9, .pointer (some ⟨B16, 0, none⟩)), (106, .bool false), (116, .bool s)] ∧ (fun Z0 => Owns w0.heap.size w Z0 A ∧ ISl (Rp.sl (Rp.int .i64)) (bl Z0 ++ A) w ay az a0 ∧ ISl (Rp.int .i64) (bl Z0 ++ A) w ae af r9.R ∧ ISl (Rp.int .i64) (bl Z0 ++ A) w ag ah r9.L ∧ ISl (Rp.int .i64) (bl Z0 ++ A) w ai aj r9.J ∧ ISl (Rp.int .i64) (bl Z0 ++ A) w ak am r9.H ∧ ISl (Rp.sl (Rp.bool)) (bl Z0 ++ A) w aa ab r9.Below ∧ Fr (bl []) w0 (bl Z0) w) [.blk B16 (.cells #[.slice ae r9.R.length af, .slice ag r9.L.length ah, .slice ai r9.J.length aj, .slice ak r9.H.length am, .slice aa r9.Below.length ab] 29 (0, 0))]) H ?_ ?_
                        ·replace ao := ao.ch eA.ch
                         replace aq := aq.ch eA.ch
                         replace ap := ap.ch eA.ch
                         replace ar := ar.ch eA.ch
                         replace au := au.ch eA.ch
                         replace ad := ad.ch eA.ch
                         replace hB := hB.trans eA.fr
                         rintro jb29_251 σ su H ⟨hag, hO, ao, aq, ap, ar, au, ad, hB⟩
                         unfold law15_GreenOrders_J29 at H
                         refine GoR.keep [(0, .slice ay a0.length az), (1, .int .i64 a1), (2, .int .i64 a2), (3, .int .i64 a3), (9, .pointer (some ⟨B16, 0, none⟩)), (106, .bool false), (116, .bool jb29_251)] hag ?_
                         as_aux_lemma =>
                          refine GoR.join (S := Bool) 35 (fun s σ w => agrees σ [(0, .slice ay a0.length az), (1, .int .i64 a1), (2, .int .i64 a2), (9, .pointer (some ⟨B16, 0, none⟩)), (106, .bool false), (123, .bool s)] ∧ (fun Z0 => Owns w0.heap.size w Z0 A ∧ ISl (Rp.sl (Rp.int .i64)) (bl Z0 ++ A) w ay az a0 ∧ ISl (Rp.int .i64) (bl Z0 ++ A) w ae af r9.R ∧ ISl (Rp.int .i64) (bl Z0 ++ A) w ag ah r9.L ∧ ISl (Rp.int .i64) (bl Z0 ++ A) w ai aj r9.J ∧ ISl (Rp.int .i64) (bl Z0 ++ A) w ak am r9.H ∧ ISl (Rp.sl (Rp.bool)) (bl Z0 ++ A) w aa ab r9.Below ∧ Fr (bl []) w0 (bl Z0) w) [.blk B16 (.cells #[.slice ae r9.R.length af, .slice ag r9.L.length ah, .slice ai r9.J.length aj, .slice ak r9.H.length am, .slice aa r9.Below.length ab] 29 (0, 0))]) H ?_ ?_
                          ·rintro jb30_253 σ sv H ⟨hag, hO, ao, aq, ap, ar, au, ad, hB⟩
                           unfold law15_GreenOrders_J30 at H
                           refine GoR.keep [(0, .slice ay a0.length az), (1, .int .i64 a1), (2, .int .i64 a2), (9, .pointer (some ⟨B16, 0, none⟩)), (106, .bool false), (123, .bool jb30_253)] hag ?_
                           as_aux_lemma =>
                            refine zo (op_pickF rfl rfl rfl) ?_
                            exact hX10 _ _ _ H ⟨⟨rfl, rfl, rfl, rfl, rfl, trivial⟩, hO, ao, aq, ap, ar, au, ad, hB⟩
                          ·intro X30 hX30 H
                           refine zm rfl ?_
                           cases jb29_251
                           ·replace H := ifn Bool.false_ne_true H
                            refine zp (zp (zp (zp (zp (zo (op_pickF rfl rfl rfl) ?_)))))
                            exact hX30 _ _ _ H ⟨⟨rfl, rfl, rfl, rfl, rfl, rfl, trivial⟩, hO, ao, aq, ap, ar, au, ad, hB⟩
                           replace H := ifp rfl H
                           refine zm rfl (zm rfl (zm rfl ?_))
                           refine GoR.call (op_call body12 rfl (walk_green_LeqJ hO.lt ao H)) rfl rfl ?_
                           rintro sw sx ⟨r254, rfl, nB, H⟩
                           have eB := Stp.same hO nB
                           replace hO := eB.own
                           cases r254
                           ·replace H := ifn Bool.false_ne_true H
                            refine zo (op_not rfl) (zo (op_pickT rfl rfl rfl) ?_)
                            replace ao := ao.ch eB.ch
                            replace aq := aq.ch eB.ch
                            replace ap := ap.ch eB.ch
                            replace ar := ar.ch eB.ch
                            replace au := au.ch eB.ch
                            replace ad := ad.ch eB.ch
                            replace hB := hB.trans eB.fr
                            exact hX30 _ _ _ H ⟨⟨rfl, rfl, rfl, rfl, rfl, rfl, trivial⟩, hO, ao, aq, ap, ar, au, ad, hB⟩
                           replace H := ifp rfl H
                           refine zo (op_not rfl) (zo (op_pickT rfl rfl rfl) ?_)
                           replace ao := ao.ch eB.ch
                           replace aq := aq.ch eB.ch
                           replace ap := ap.ch eB.ch
                           replace ar := ar.ch eB.ch
                           replace au := au.ch eB.ch
                           replace ad := ad.ch eB.ch
                           replace hB := hB.trans eB.fr
                           exact hX30 _ _ _ H ⟨⟨rfl, rfl, rfl, rfl, rfl, rfl, trivial⟩, hO, ao, aq, ap, ar, au, ad, hB⟩
                        ·intro X29 hX29 H
                         refine zm rfl ?_
                         cases r244
                         ·replace H := ifn Bool.false_ne_true H
                          refine zp (zp (zp (zp (zo (op_pickF rfl rfl rfl) ?_))))
                          replace ao := ao.ch eA.ch
                          replace aq := aq.ch eA.ch
                          replace ap := ap.ch eA.ch
                          replace ar := ar.ch eA.ch
                          replace au := au.ch eA.ch
                          replace ad := ad.ch eA.ch
                          replace hB := hB.trans eA.fr
                          exact hX29 _ _ _ H ⟨⟨rfl, rfl, rfl, rfl, rfl, rfl, rfl, trivial⟩, hO, ao, aq, ap, ar, au, ad, hB⟩
                         replace H := ifp rfl H
                         refine zm rfl (zm rfl (zm rfl ?_))
                         replace ao := ao.ch eA.ch
                         refine GoR.call (op_call body12 rfl (walk_green_LeqJ hO.lt ao H)) rfl rfl ?_
                         rintro sy sA ⟨r260, rfl, nC, H⟩
                         have eC := Stp.same hO nC
                         replace hO := eC.own
                         refine zo (op_pickT rfl rfl rfl) ?_
                         replace ao := ao.ch eC.ch
                         have Z15 := eA.ch.trans eC.ch
                         replace aq := aq.ch Z15
                         replace ap := ap.ch Z15
                         replace ar := ar.ch Z15
                         replace au := au.ch Z15
                         replace ad := ad.ch Z15
                         replace hB := (hB.trans eA.fr).trans eC.fr
                         exact hX29 _ _ _ H ⟨⟨rfl, rfl, rfl, rfl, rfl, rfl, rfl, trivial⟩, hO, ao, aq, ap, ar, au, ad, hB⟩
                       replace H := ifp rfl H
                       refine zp (zp (zp (zp ?_)))
                       refine GoR.join (S := Unit) 28 (fun s σ w => agrees σ [(0, .slice ay a0.length az), (1, .int .i64 a1), (2, .int .i64 a2), (3, .int .i64 a3), (9, .pointer (some ⟨B16, 0, none⟩)), (106, .bool true)] ∧ (fun Z0 => Owns w0.heap.size w Z0 A ∧ ISl (Rp.sl (Rp.int .i64)) (bl Z0 ++ A) w ay az a0 ∧ ISl (Rp.int .i64) (bl Z0 ++ A) w ae af r9.R ∧ ISl (Rp.int .i64) (bl Z0 ++ A) w ag ah r9.L ∧ ISl (Rp.int .i64) (bl Z0 ++ A) w ai aj r9.J ∧ ISl (Rp.int .i64) (bl Z0 ++ A) w ak am r9.H ∧ ISl (Rp.sl (Rp.bool)) (bl Z0 ++ A) w aa ab r9.Below ∧ Fr (bl []) w0 (bl Z0) w) [.blk B16 (.cells #[.slice ae r9.R.length af, .slice ag r9.L.length ah, .slice ai r9.J.length aj, .slice ak r9.H.length am, .slice aa r9.Below.length ab] 29 (0, 0))]) H ?_ ?_
                       ·rintro _ σ sB H ⟨hag, hO, ao, aq, ap, ar, au, ad, hB⟩
                        unfold law15_GreenOrders_J31 at H
                        refine GoR.keep [(0, .slice ay a0.length az), (1, .int .i64 a1), (2, .int .i64 a2), (3, .int .i64 a3), (9, .pointer (some ⟨B16, 0, none⟩)), (106, .bool true)] hag ?_
                        as_aux_lemma =>
                         refine GoR.join (S := Unit) 35 (fun s σ w => agrees σ [(0, .slice ay a0.length az), (1, .int .i64 a1), (2, .int .i64 a2), (9, .pointer (some ⟨B16, 0, none⟩)), (106, .bool true)] ∧ (fun Z0 => Owns w0.heap.size w Z0 A ∧ ISl (Rp.sl (Rp.int .i64)) (bl Z0 ++ A) w ay az a0 ∧ ISl (Rp.int .i64) (bl Z0 ++ A) w ae af r9.R ∧ ISl (Rp.int .i64) (bl Z0 ++ A) w ag ah r9.L ∧ ISl (Rp.int .i64) (bl Z0 ++ A) w ai aj r9.J ∧ ISl (Rp.int .i64) (bl Z0 ++ A) w ak am r9.H ∧ ISl (Rp.sl (Rp.bool)) (bl Z0 ++ A) w aa ab r9.Below ∧ Fr (bl []) w0 (bl Z0) w) [.blk B16 (.cells #[.slice ae r9.R.length af, .slice ag r9.L.length ah, .slice ai r9.J.length aj, .slice ak r9.H.length am, .slice aa r9.Below.length ab] 29 (0, 0))]) H ?_ ?_
                         ·rintro _ σ sC H ⟨hag, hO, ao, aq, ap, ar, au, ad, hB⟩
                          unfold law15_GreenOrders_J32 at H
                          refine GoR.keep [(0, .slice ay a0.length az), (1, .int .i64 a1), (2, .int .i64 a2), (9, .pointer (some ⟨B16, 0, none⟩)), (106, .bool true)] hag ?_
                          as_aux_lemma =>
                           refine zo (op_pickT rfl rfl rfl) ?_
                           exact hX10 _ _ _ H ⟨⟨rfl, rfl, rfl, rfl, rfl, trivial⟩, hO, ao, aq, ap, ar, au, ad, hB⟩
                         ·intro X32 hX32 H
                          dsimp only at H
                          refine zp (zp (zp (zp (zp (zp ?_)))))
                          refine zp ?_
                          exact hX32 _ _ _ H ⟨⟨rfl, rfl, rfl, rfl, rfl, trivial⟩, hO, ao, aq, ap, ar, au, ad, hB⟩
                       ·intro X31 hX31 H
                        dsimp only at H
                        refine zp (zp (zp (zp (zp (zp ?_)))))
                        exact hX31 _ _ _ H ⟨⟨rfl, rfl, rfl, rfl, rfl, rfl, trivial⟩, hO, ao, aq, ap, ar, au, ad, hB⟩
                    ·intro X9 hX9 H
                     refine zm rfl ?_
                     cases jb8_57
                     ·replace H := ifn Bool.false_ne_true H
                      refine zp (zp (zp (zp (zp (zo (op_pickF rfl rfl rfl) ?_)))))
                      exact hX9 _ _ _ H ⟨⟨rfl, rfl, rfl, rfl, rfl, rfl, trivial⟩, hO, ao, aq, ap, ar, au, ad, hB⟩
                     replace H := ifp rfl H
                     refine zm rfl (zm rfl (zm rfl ?_))
                     refine GoR.call (op_call body10 rfl (walk_green_LeqR hO.lt ao H)) rfl rfl ?_
                     rintro sD sE ⟨r268, rfl, nD, H⟩
                     have eF := Stp.same hO nD
                     replace hO := eF.own
                     cases r268
                     ·replace H := ifn Bool.false_ne_true H
                      refine zo (op_not rfl) (zo (op_pickT rfl rfl rfl) ?_)
                      replace ao := ao.ch eF.ch
                      replace aq := aq.ch eF.ch
                      replace ap := ap.ch eF.ch
                      replace ar := ar.ch eF.ch
                      replace au := au.ch eF.ch
                      replace ad := ad.ch eF.ch
                      replace hB := hB.trans eF.fr
                      exact hX9 _ _ _ H ⟨⟨rfl, rfl, rfl, rfl, rfl, rfl, trivial⟩, hO, ao, aq, ap, ar, au, ad, hB⟩
                     replace H := ifp rfl H
                     refine zo (op_not rfl) (zo (op_pickT rfl rfl rfl) ?_)
                     replace ao := ao.ch eF.ch
                     replace aq := aq.ch eF.ch
                     replace ap := ap.ch eF.ch
                     replace ar := ar.ch eF.ch
                     replace au := au.ch eF.ch
                     replace ad := ad.ch eF.ch
                     replace hB := hB.trans eF.fr
                     exact hX9 _ _ _ H ⟨⟨rfl, rfl, rfl, rfl, rfl, rfl, trivial⟩, hO, ao, aq, ap, ar, au, ad, hB⟩
                  ·intro X8 hX8 H
                   refine zm rfl ?_
                   cases r50
                   ·replace H := ifn Bool.false_ne_true H
                    refine zp (zp (zp (zp (zo (op_pickF rfl rfl rfl) ?_))))
                    replace ao := ao.ch ft.ch
                    replace aq := aq.ch ft.ch
                    replace ap := ap.ch ft.ch
                    replace ar := ar.ch ft.ch
                    replace au := au.ch ft.ch
                    replace ad := ad.ch ft.ch
                    replace hB := hB.trans ft.fr
                    exact hX8 _ _ _ H ⟨⟨rfl, rfl, rfl, rfl, rfl, rfl, trivial⟩, hO, ao, aq, ap, ar, au, ad, hB⟩
                   replace H := ifp rfl H
                   refine zm rfl (zm rfl (zm rfl ?_))
                   replace ao := ao.ch ft.ch
                   refine GoR.call (op_call body10 rfl (walk_green_LeqR hO.lt ao H)) rfl rfl ?_
                   rintro sF sG ⟨r274, rfl, nE, H⟩
                   have eG := Stp.same hO nE
                   replace hO := eG.own
                   refine zo (op_pickT rfl rfl rfl) ?_
                   replace ao := ao.ch eG.ch
                   have Z16 := ft.ch.trans eG.ch
                   replace aq := aq.ch Z16
                   replace ap := ap.ch Z16
                   replace ar := ar.ch Z16
                   replace au := au.ch Z16
                   replace ad := ad.ch Z16
                   replace hB := (hB.trans ft.fr).trans eG.fr
                   exact hX8 _ _ _ H ⟨⟨rfl, rfl, rfl, rfl, rfl, rfl, trivial⟩, hO, ao, aq, ap, ar, au, ad, hB⟩
                 replace H := ifp rfl H
                 refine zt rfl rfl (zq ?_)
                 refine Go1.cut [] trivial ?_
                 intro σ _
                 refine zr (za rfl (zn ?_))
                 refine Go1.ret1 Try.func3 rfl ?_
                 exact ⟨false, rfl, hB.same, H⟩
               ·intro X7 hX7 H
                refine zm rfl ?_
                cases jb6_47
                ·replace H := ifn Bool.false_ne_true H
                 refine zm rfl (zm rfl (zm rfl ?_))
                 refine GoR.call (op_call body12 rfl (walk_green_LeqJ hO.lt ao H)) rfl rfl ?_
                 rintro sH sI ⟨r280, rfl, nF, H⟩
                 have eH := Stp.same hO nF
                 replace hO := eH.own
                 cases r280
                 ·replace H := ifn Bool.false_ne_true H
                  refine zo (op_not rfl) (zo (op_pickF rfl rfl rfl) ?_)
                  replace ao := ao.ch eH.ch
                  replace aq := aq.ch eH.ch
                  replace ap := ap.ch eH.ch
                  replace ar := ar.ch eH.ch
                  replace au := au.ch eH.ch
                  replace ad := ad.ch eH.ch
                  replace hB := hB.trans eH.fr
                  exact hX7 _ _ _ H ⟨⟨rfl, rfl, rfl, rfl, rfl, rfl, trivial⟩, hO, ao, aq, ap, ar, au, ad, hB⟩
                 replace H := ifp rfl H
                 refine zo (op_not rfl) (zo (op_pickF rfl rfl rfl) ?_)
                 replace ao := ao.ch eH.ch
                 replace aq := aq.ch eH.ch
                 replace ap := ap.ch eH.ch
                 replace ar := ar.ch eH.ch
                 replace au := au.ch eH.ch
                 replace ad := ad.ch eH.ch
                 replace hB := hB.trans eH.fr
                 exact hX7 _ _ _ H ⟨⟨rfl, rfl, rfl, rfl, rfl, rfl, trivial⟩, hO, ao, aq, ap, ar, au, ad, hB⟩
                replace H := ifp rfl H
                refine zp (zp (zp (zp (zp (zo (op_pickT rfl rfl rfl) ?_)))))
                exact hX7 _ _ _ H ⟨⟨rfl, rfl, rfl, rfl, rfl, rfl, trivial⟩, hO, ao, aq, ap, ar, au, ad, hB⟩
             ·intro X6 hX6 H
              refine zm rfl ?_
              cases jb5_45
              ·replace H := ifn Bool.false_ne_true H
               refine zm rfl (zm rfl (zm rfl ?_))
               refine GoR.call (op_call body12 rfl (walk_green_LeqJ hO.lt ao H)) rfl rfl ?_
               rintro sJ sK ⟨r286, rfl, nG, H⟩
               have eI := Stp.same hO nG
               replace hO := eI.own
               cases r286
               ·replace H := ifn Bool.false_ne_true H
                refine zo (op_not rfl) (zo (op_pickF rfl rfl rfl) ?_)
                replace ao := ao.ch eI.ch
                replace aq := aq.ch eI.ch
                replace ap := ap.ch eI.ch
                replace ar := ar.ch eI.ch
                replace au := au.ch eI.ch
                replace ad := ad.ch eI.ch
                replace hB := hB.trans eI.fr
                exact hX6 _ _ _ H ⟨⟨rfl, rfl, rfl, rfl, rfl, rfl, rfl, trivial⟩, hO, ao, aq, ap, ar, au, ad, hB⟩
               replace H := ifp rfl H
               refine zo (op_not rfl) (zo (op_pickF rfl rfl rfl) ?_)
               replace ao := ao.ch eI.ch
               replace aq := aq.ch eI.ch
               replace ap := ap.ch eI.ch
               replace ar := ar.ch eI.ch
               replace au := au.ch eI.ch
               replace ad := ad.ch eI.ch
               replace hB := hB.trans eI.fr
               exact hX6 _ _ _ H ⟨⟨rfl, rfl, rfl, rfl, rfl, rfl, rfl, trivial⟩, hO, ao, aq, ap, ar, au, ad, hB⟩
              replace H := ifp rfl H
              refine zp (zp (zp (zp (zp (zo (op_pickT rfl rfl rfl) ?_)))))
              exact hX6 _ _ _ H ⟨⟨rfl, rfl, rfl, rfl, rfl, rfl, rfl, trivial⟩, hO, ao, aq, ap, ar, au, ad, hB⟩
           ·intro X5 hX5 H
            cases r38
            ·replace H := ifn Bool.false_ne_true H
             refine zo (op_not rfl) (zm rfl (zp (zp (zp (zp ?_)))))
             refine zp (zo (op_pickT rfl rfl rfl) ?_)
             replace ao := ao.ch b9.ch
             replace aq := aq.ch b9.ch
             replace ap := ap.ch b9.ch
             replace ar := ar.ch b9.ch
             replace au := au.ch b9.ch
             replace ad := ad.ch b9.ch
             replace hB := hB.trans b9.fr
             exact hX5 _ _ _ H ⟨⟨rfl, rfl, rfl, rfl, rfl, rfl, rfl, trivial⟩, hO, ao, aq, ap, ar, au, ad, hB⟩
            replace H := ifp rfl H
            refine zo (op_not rfl) (zm rfl (zm rfl (zm rfl (zm rfl ?_))))
            replace ao := ao.ch b9.ch
            refine GoR.call (op_call body11 rfl (walk_green_LeqL hO.lt ao H)) rfl rfl ?_
            rintro sL sM ⟨r292, rfl, nH, H⟩
            have dE := Stp.same hO nH
            replace hO := dE.own
            cases r292
            ·replace H := ifn Bool.false_ne_true H
             refine zo (op_not rfl) (zo (op_pickF rfl rfl rfl) ?_)
             replace ao := ao.ch dE.ch
             have Z17 := b9.ch.trans dE.ch
             replace aq := aq.ch Z17
             replace ap := ap.ch Z17
             replace ar := ar.ch Z17
             replace au := au.ch Z17
             replace ad := ad.ch Z17
             replace hB := (hB.trans b9.fr).trans dE.fr
             exact hX5 _ _ _ H ⟨⟨rfl, rfl, rfl, rfl, rfl, rfl, rfl, trivial⟩, hO, ao, aq, ap, ar, au, ad, hB⟩
            replace H := ifp rfl H
            refine zo (op_not rfl) (zo (op_pickF rfl rfl rfl) ?_)
            replace ao := ao.ch dE.ch
            have Z18 := b9.ch.trans dE.ch
            replace aq := aq.ch Z18
            replace ap := ap.ch Z18
            replace ar := ar.ch Z18
            replace au := au.ch Z18
            replace ad := ad.ch Z18
            replace hB := (hB.trans b9.fr).trans dE.fr
            exact hX5 _ _ _ H ⟨⟨rfl, rfl, rfl, rfl, rfl, rfl, rfl, trivial⟩, hO, ao, aq, ap, ar, au, ad, hB⟩
          replace H := ifp rfl H
          refine zt rfl rfl (zq ?_)
          refine Go1.cut [] trivial ?_
          intro σ _
          refine zr (za rfl (zn ?_))
          refine Go1.ret1 Try.func3 rfl ?_
          exact ⟨false, rfl, hB.same, H⟩
        ·intro X4 hX4 H
         refine zm rfl ?_
         cases jb3_27
         ·replace H := ifn Bool.false_ne_true H
          refine zo (op_fieldAddr Try.underlying29 rfl ti26 rfl (by decide)) (zs (oblk (i := 3) 0 hO rfl rfl Try.underlying26 rfl rfl) (zo (op_len Try.underlying26 rfl) ?_))
          replace H := H au.bd
          refine zm rfl (zo (op_len Try.underlying22 rfl) ?_)
          by_cases i6 : (r9.H.length : Int) = (a0.length : Int)
          ·replace H := ifp i6 H
           refine zo (fun w => opB (op_neq rfl rfl w) (ndT i6)) (zo (op_pickF rfl rfl rfl) ?_)
           exact hX4 _ _ _ H ⟨⟨rfl, rfl, rfl, rfl, rfl, rfl, trivial⟩, hO, ao, aq, ap, ar, au, ad, hB⟩
          replace H := ifn i6 H
          refine zo (fun w => opB (op_neq rfl rfl w) (ndF i6)) (zo (op_pickF rfl rfl rfl) ?_)
          exact hX4 _ _ _ H ⟨⟨rfl, rfl, rfl, rfl, rfl, rfl, trivial⟩, hO, ao, aq, ap, ar, au, ad, hB⟩
         replace H := ifp rfl H
         refine zp (zp (zp (zp (zp (zp ?_)))))
         refine zo (op_pickT rfl rfl rfl) ?_
         exact hX4 _ _ _ H ⟨⟨rfl, rfl, rfl, rfl, rfl, rfl, trivial⟩, hO, ao, aq, ap, ar, au, ad, hB⟩
      ·intro X3 hX3 H
       refine zm rfl ?_
       cases jb2_25
       ·replace H := ifn Bool.false_ne_true H
        refine zo (op_fieldAddr Try.underlying29 rfl ti26 rfl (by decide)) (zs (oblk (i := 2) 0 hO rfl rfl Try.underlying26 rfl rfl) (zo (op_len Try.underlying26 rfl) ?_))
        replace H := H ar.bd
        refine zm rfl (zo (op_len Try.underlying22 rfl) ?_)
        by_cases i7 : (r9.J.length : Int) = (a0.length : Int)
        ·replace H := ifp i7 H
         refine zo (fun w => opB (op_neq rfl rfl w) (ndT i7)) (zo (op_pickF rfl rfl rfl) ?_)
         exact hX3 _ _ _ H ⟨⟨rfl, rfl, rfl, rfl, rfl, rfl, trivial⟩, hO, ao, aq, ap, ar, au, ad, hB⟩
        replace H := ifn i7 H
        refine zo (fun w => opB (op_neq rfl rfl w) (ndF i7)) (zo (op_pickF rfl rfl rfl) ?_)
        exact hX3 _ _ _ H ⟨⟨rfl, rfl, rfl, rfl, rfl, rfl, trivial⟩, hO, ao, aq, ap, ar, au, ad, hB⟩
       replace H := ifp rfl H
       refine zp (zp (zp (zp (zp (zp ?_)))))
       refine zo (op_pickT rfl rfl rfl) ?_
       exact hX3 _ _ _ H ⟨⟨rfl, rfl, rfl, rfl, rfl, rfl, trivial⟩, hO, ao, aq, ap, ar, au, ad, hB⟩
    ·intro X2 hX2 H
     by_cases i8 : (r9.R.length : Int) = (a0.length : Int)
     ·replace H := ifp i8 H
      refine zo (fun w => opB (op_neq rfl rfl w) (ndT i8)) (zm rfl (zo (op_fieldAddr Try.underlying29 rfl ti26 rfl (by decide)) (zs (oblk (i := 1) 0 hO rfl rfl Try.underlying26 rfl rfl) (zo (op_len Try.underlying26 rfl) ?_))))
      replace ap := (ap.ch cS.ch).ch fq.ch
      replace H := H ap.bd
      refine zm rfl (zo (op_len Try.underlying22 rfl) ?_)
      by_cases i9 : (r9.L.length : Int) = (a0.length : Int)
      ·replace H := ifp i9 H
       refine zo (fun w => opB (op_neq rfl rfl w) (ndT i9)) (zo (op_pickF rfl rfl rfl) ?_)
       have Z19 := cS.ch.trans fq.ch
       replace ar := ar.ch Z19
       replace au := au.ch Z19
       replace ad := ad.ch Z19
       replace hB := ((hB.trans dh.fr).trans cS.fr).trans fq.fr
       exact hX2 _ _ _ H ⟨⟨rfl, rfl, rfl, rfl, rfl, rfl, trivial⟩, hO, ao, aq, ap, ar, au, ad, hB⟩
      replace H := ifn i9 H
      refine zo (fun w => opB (op_neq rfl rfl w) (ndF i9)) (zo (op_pickF rfl rfl rfl) ?_)
      have Z20 := cS.ch.trans fq.ch
      replace ar := ar.ch Z20
      replace au := au.ch Z20
      replace ad := ad.ch Z20
      replace hB := ((hB.trans dh.fr).trans cS.fr).trans fq.fr
      exact hX2 _ _ _ H ⟨⟨rfl, rfl, rfl, rfl, rfl, rfl, trivial⟩, hO, ao, aq, ap, ar, au, ad, hB⟩
     replace H := ifn i8 H
     refine zo (fun w => opB (op_neq rfl rfl w) (ndF i8)) (zm rfl (zp (zp (zp (zp ?_)))))
     refine zp (zp (zo (op_pickT rfl rfl rfl) ?_))
     have Z21 := cS.ch.trans fq.ch
     replace ap := ap.ch Z21
     replace ar := ar.ch Z21
     replace au := au.ch Z21
     replace ad := ad.ch Z21
     replace hB := ((hB.trans dh.fr).trans cS.fr).trans fq.fr
     exact hX2 _ _ _ H ⟨⟨rfl, rfl, rfl, rfl, rfl, rfl, trivial⟩, hO, ao, aq, ap, ar, au, ad, hB⟩
   replace H := ifp rfl H
   refine zt rfl rfl (zq ?_)
   refine Go1.cut [] trivial ?_
   intro σ _
   refine zr ?_
   refine GoR.call (op_call body8 rfl (walk_law15_awake hO.lt H)) rfl rfl ?_
   rintro sN sO ⟨r302, rfl, nI, H⟩
   have ir := Stp.same hO nI
   replace hO := ir.own
   refine za rfl (zn ?_)
   refine Go1.ret1 Try.func3 rfl ?_
   replace hB := hB.trans ir.fr
   exact ⟨r302, rfl, hB.same, H⟩
 ·intro X1 hX1 H
  cases r1
  ·replace H := ifn Bool.false_ne_true H
   refine zo (op_not rfl) (zm rfl (zp (zp (zp (zp ?_)))))
   refine zp (zp (zp (zo (op_pickT rfl rfl rfl) ?_)))
   replace ao := ao.ch aV.ch
   replace hB := hB.trans aV.fr
   exact hX1 _ _ _ H ⟨⟨rfl, rfl, rfl, rfl, rfl, trivial⟩, hO, ao, hB⟩
  replace H := ifp rfl H
  refine zo (op_not rfl) (zm rfl (zm rfl (zm rfl (zm rfl (zm rfl ?_)))))
  have hobt := obuild (r := Rp.int .i64) (n := 3) (parts := [(0, .int .i64 a1), (1, .int .i64 a2), (2, .int .i64 a3)]) (vs := [.int .i64 a1, .int .i64 a2, .int .i64 a3]) (xs := [a1, a2, a3]) rfl Try.underlying26 ti3 hO (by decide) (by kernel_rfl) (Els.cons rfl rfl (Els.cons rfl rfl (Els.cons rfl rfl (Els.nil _ _ _) (by simp [mx])) (by simp [mx])) (by simp [mx])) rfl
  obtain ⟨sP, lM, iu, ja, qr, lN⟩ := hobt
  refine zg (lN rfl) ?_
  replace hO := iu.own
  have hobt := rowlend 0 hO rfl ja
  obtain ⟨nJ, nK⟩ := hobt
  have hOc317 := hO.drop 0
  replace ao := (ao.ch aV.ch).ch iu.ch
  refine GoR.call (op_call body7 (show ([.slice ay a0.length az, .slice lM 3 3] : List Value) = [.slice ay a0.length az, .slice lM ([a1, a2, a3]).length 3] from by rw [← nK]) (walk_ref14_In hOc317.lt (ao.ch (Owns.dropCh _ _ 0)) nJ H)) rfl rfl ?_
  rintro sQ sR ⟨r318, rfl, nM, H⟩
  have gL := Stp.same hO nM
  replace hO := gL.own
  cases r318
  ·replace H := ifn Bool.false_ne_true H
   refine zo (op_not rfl) (zo (op_pickF rfl rfl rfl) ?_)
   replace hO := hO.drop 0
   replace ao := (ao.ch gL.ch).ch (Owns.dropCh _ _ 0)
   replace hB := (((hB.trans aV.fr).trans iu.fr).trans gL.fr).trans (Owns.dropFr _ _ 0)
   exact hX1 _ _ _ H ⟨⟨rfl, rfl, rfl, rfl, rfl, trivial⟩, hO, ao, hB⟩
  replace H := ifp rfl H
  refine zo (op_not rfl) (zo (op_pickF rfl rfl rfl) ?_)
  replace hO := hO.drop 0
  replace ao := (ao.ch gL.ch).ch (Owns.dropCh _ _ 0)
  replace hB := (((hB.trans aV.fr).trans iu.fr).trans gL.fr).trans (Owns.dropFr _ _ 0)
  exact hX1 _ _ _ H ⟨⟨rfl, rfl, rfl, rfl, rfl, trivial⟩, hO, ao, hB⟩
end Sg
