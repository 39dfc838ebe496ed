/- -/
import Derived.Test.YtdcibmiaiijjpaaVd
namespace Sg
open Go Go.RowKit Go.Proofs
set_option linter.unusedVariables false
set_option linter.unusedSimpArgs false
set_option maxRecDepth 100000
set_option maxHeartbeats 4000000
theorem body46 : Body Try.prog 46 := ⟨Try.f46, Try.func46, rfl, by kernel_rfl⟩
theorem J3T {A : List Nat} {w0 : World} {p_t : Option Addr} {c_t : Nat} {t : List (List Int)} (hA : ∀ b ∈ A, b < w0.heap.size) (h_t : ISl (Rp.sl (Rp.int .i64)) A w0 p_t c_t t) {K : Int → Prop} (H : J28 t K) :
    CallsV Try.prog 46 #[.slice p_t t.length c_t] w0 (fun v w' => ∃ (r0 : Int), v = .int .i64 r0 ∧ Same w0 w' ∧ K r0) := by
 refine cal hA Try.func46 Try.ntmps46 fun hO hB => ?_
 unfold J28 at H
 refine sln0 ?_
 refine scm (H h_t.bd) (fun h1 H => ?_) fun h1 H => ?_
 ·refine au ?_
  refine Go1.ret1 Try.func46 rfl ⟨_, er, frs, H⟩
 refine sln0 ?_
 refine scm H (fun h2 H => ?_) fun h2 H => ?_
 ·refine au ?_
  refine Go1.ret1 Try.func46 rfl ⟨_, er, frs, H⟩
 refine sln0 ?_
 refine au ?_
 refine lv [0, 13, 14] hO H (fun E k1_4 σ w => Lo A w0 σ w [(15, .int .i64 (k1_4 : Int))] []) ⟨agr, hO, fr⟩ ?_
 refine fun X1 => fun k1_4 => fun H hX1 σ w3 hk => lh hk fun hO hB => ?_
 refine scm H (fun h5 H => ?_) fun h5 H => ?_
 ·refine sxls hO h_t.u H.1 H.2.1 fun p6 c7 hi8 => ?_
  refine sln0 ?_
  refine sln0 ?_
  have h9 := H.1
  have h10 := H.2.1
  refine scm (H.2.2 hi8.bd) (fun h11 H => ?_) fun h11 H => ?_
  ·refine sln0 ?_
   refine au ?_
   refine lv [0, 13, 14, 15, 24, 25] hO H (fun E k2_13 σ w => (fun Z => Lo A w0 σ w [(26, .int .i64 (k2_13 : Int))] Z ∧ ISl (Rp.int .i64) (bl Z ++ A) w p6 c7 (ix t (k1_4 : Int))) []) ⟨⟨agr, hO, fr⟩, hi8.u⟩ ?_
   refine fun X2 => fun k2_13 => fun H hX2 σ w12 hk => d1 fun hL => fun hi8 => lh hk (fun hO hB => ?_) hL
   revert hO; repeat (rename Owns .. => q; clear q)
   intro hO; repeat (rename Sq .. => q; clear q)
   refine scm H (fun h14 H => ?_) fun h14 H => ?_
   ·refine sxl hO hi8 H.1 H.2.1 ?_
    refine au ?_
    have h15 := H.1
    have h16 := H.2.1
    refine scm H.2.2 (fun h17 H => ?_) fun h17 H => ?_
    ·refine au ?_
     refine Go1.ret1 Try.func46 rfl ⟨_, er, frs, H⟩
    refine sln0 ?_
    refine scm H (fun h18 H => ?_) fun h18 H => ?_
    ·refine au ?_
     refine Go1.ret1 Try.func46 rfl ⟨_, er, frs, H⟩
    refine sinc (natbd h14 hi8.bd) ?_
    refine au ?_
    exact hX2 _ H _ _ agr ⟨⟨agr, hO, fr⟩, hi8⟩
   refine sinc (natbd h5 h_t.bd) ?_
   refine au ?_
   exact hX1 _ H _ _ agr ⟨agr, hO, fr⟩
  refine au ?_
  refine Go1.ret1 Try.func46 rfl ⟨_, er, frs, H⟩
 refine au ?_
 refine Go1.ret1 Try.func46 rfl ⟨_, er, frs, H⟩
theorem body67 : Body Try.prog 67 := ⟨Try.f67, Try.func67, rfl, by kernel_rfl⟩
theorem body48 : Body Try.prog 48 := ⟨Try.f48, Try.func48, rfl, by kernel_rfl⟩
theorem J3q {A : List Nat} {w0 : World} {bn : Option Addr} {bo : Nat} {a0 : List (List Int)} (hA : ∀ b ∈ A, b < w0.heap.size) (ai : ISl (Rp.sl (Rp.int .i64)) A w0 bn bo a0) {K : List Int → Prop} (H : J1d a0 K) :
    CallsV Try.prog 48 #[.slice bn a0.length bo] w0 (fun v w' => ∃ (r0 : List Int), ∃ (bw : Option Addr), ∃ (bx : Nat), v = .slice bw r0.length bx ∧ Same w0 w' ∧ ISl (Rp.int .i64) A w' bw bx r0 ∧ K r0) := by
 refine cal hA Try.func48 Try.ntmps48 fun hO hB => ?_
 unfold J1d at H
 refine sal hO fun w1 B2 s hO => ?_
 refine sln0 ?_
 refine smk Fl.bool (H ai.bd) hO fun w4 p5 s hO => ?_
 refine sal hO fun w7 B8 s hO => ?_
 refine sbs 0 hO fun w10 s hO => ?_
 refine au ?_
 refine zo (J3V (vs := [.pointer (some ⟨B8, 0, none⟩), .pointer (some ⟨B2, 0, none⟩)]) rfl) ?_
 refine sln0 ?_
 refine au ?_
 refine snil Fl.i 3 hO fun s hO => ?_
 refine snil Fl.i 3 hO fun s hO => ?_
 refine lv [0, 4, 5, 6, 17] hO (H ai.bd).2.2 (fun E (k1_14, k1_15, d_16, d_20, d_24) σ w => ∃ n19 p17 c18 n23 p21 c22, Lo A w0 σ w [(3, .slice p21 n23 c22), (7, .int .i64 (k1_14 : Int)), (18, .int .i64 (k1_15 : Int))] [t1 Fl.i 3 p17 n19 c18 d_16, t1 Fl.i 3 p21 n23 c22 d_20, .blk B8 (.cells #[.slice p5 a0.length a0.length] 42 (0, 0)), t1 Fl.bool 4 p5 a0.length a0.length d_24, .blk B2 (.cells #[.slice p17 n19 c18] 26 (0, 0))]) ⟨_, _, _, _, _, _, ⟨agr, hO, fr⟩⟩ ?_
 refine fun X1 => p1 fun k1_14 => p3 fun k1_15 d_16 d_20 d_24 => fun H hX1 σ w13 hk => e4 fun n19 p17 c18 n23 => e2 fun p21 c22 => lh hk fun hO hB => ?_
 dsimp only at H
 revert hO; repeat (rename Owns .. => q; clear q)
 intro hO; repeat (rename Sq .. => q; clear q)
 refine scm H (fun h25 H => ?_) fun h25 H => ?_
 ·refine au ?_
  have h26 := H.1
  have h27 := H.2.1
  refine sxb1 3 hO H.1 H.2.1 H.2.2 (fun h28 H => ?_) fun h28 H => ?_
  ·refine sinc (natbd h25 ai.bd) ?_
   refine au ?_
   exact hX1 _ H _ _ agr ⟨_, _, _, _, _, _, ⟨agr, hO, fr⟩⟩
  refine au ?_
  refine sap1 ((k1_15 : Int)) 1 hO H fun _ w29 p30 c31 s hO => ?_
  refine au ?_
  refine GoR.inl (vs := [.int .i64 (k1_15 : Int)]) (caps := [.pointer (some ⟨B8, 0, none⟩), .pointer (some ⟨B2, 0, none⟩)]) rfl rfl body67 Try.func67 rfl Try.ntmps67 rfl rfl rfl ?_
  intro RhR32 hR32
  refine sxl1 3 hO H.2.1 H.2.2.1 ?_
  rw [Bool.eq_false_iff.2 h28]
  refine six1 3 hO H.2.2.2.1 H.2.2.2.2.1 ?_
  refine sst (u := true) 3 hO H.2.2.2.1 H.2.2.2.2.1 fun w33 s hO => ?_
  refine au ?_
  refine sap1 ((k1_15 : Int)) 0 hO H.2.2.2.2.2 fun _ w34 p35 c36 s hO => ?_
  refine sbs 4 hO fun w37 s hO => ?_
  refine au ?_
  refine Go1.fin0V Try.func67 rfl ?_
  refine hR32 _ _ ?_
  refine au ?_
  refine lv [0, 3, 4, 5, 6, 17, 18] hO H.2.2.2.2.2.2 (fun E (k2_39, d_40, d_44) σ w => ∃ n43 p41 c42, Lo A w0 σ w [(7, .int .i64 (k2_39 : Int))] (esets E [(0, t1 Fl.i 3 p41 n43 c42 d_40), (3, t1 Fl.bool 4 p5 a0.length a0.length d_44), (4, .blk B2 (.cells #[.slice p41 n43 c42] 26 (0, 0)))])) ⟨_, _, _, ⟨agr, hO, fr⟩⟩ ?_
  refine fun X2 => p2 fun k2_39 d_40 d_44 => fun H hX2 σ w38 hk => e3 fun n43 p41 c42 => lh hk fun hO hB => ?_
  dsimp only [esets, sS, sZ] at hO hB
  dsimp only at H
  revert hO; repeat (rename Owns .. => q; clear q)
  intro hO; repeat (rename Sq .. => q; clear q)
  refine sln1 0 hO ?_
  refine scm H (fun h45 H => ?_) fun h45 H => ?_
  ·refine sxl1 0 hO H.1 H.2.1 ?_
   refine sinc (natbd h45 (t1b 0 hO)) ?_
   refine op1 0 hO fun zQ s hO pW => ?_
   have h48 := H.1
   have h49 := H.2.1
   replace H := H.2.2
   obtain ⟨h50, H⟩ := H
   obtain ⟨h51, H⟩ := H
   have hal52 := AL.start 0 hO rfl pW.u ((k2_39 + 1 : Int)).toNat
   refine zo (J4k Try.underlying26 ti3 rfl rfl h50 (Els.lec 0 hO rfl pW.u h51)) ?_
   refine zo (J2v Try.underlying26 rfl (takeLen h50 h51)) ?_
   refine au ?_
   refine lv [0, 3, 4, 5, 6, 7, 9, 17, 18, 45, 46] hO H (fun E (k3_54, d_55, d_61) σ w => ∃ n60 p58 c59 oh, (fun Z => Lo A w0 σ w [(47, .int .i64 (k3_54 : Int))] Z ∧ Els (Rp.int .i64) (bl Z ++ A) w oh d_55 ∧ AL (Rp.int .i64) (bl Z ++ A) w p58 d_55 p41 c42 (d_40.take ((k2_39 + 1 : Int)).toNat)) (esets E [(0, .row 3 1 p58 n60 c59 oh), (3, t1 Fl.bool 4 p5 a0.length a0.length d_61), (4, .blk B2 (.cells #[.slice p58 n60 c59] 26 (0, 0)))])) ⟨_, _, _, _, ⟨agr, hO, fr⟩, pW.u, hal52⟩ ?_
   refine fun X3 => p2 fun k3_54 d_55 d_61 => fun H hX3 σ w53 hk => e4 fun n60 p58 c59 oh => d1 fun hL => d1 fun lQ hal52 => lh hk (fun hO hB => ?_) hL
   dsimp only [esets, sS, sZ] at hO hB lQ hal52
   dsimp only at H
   revert hO; repeat (rename Owns .. => q; clear q)
   intro hO; repeat (rename Sq .. => q; clear q)
   refine scm H (fun h62 H => ?_) fun h62 H => ?_
   ·refine au ?_
    obtain ⟨h63, H⟩ := H
    obtain ⟨h64, H⟩ := H
    refine zo (J01 Try.underlying26 ti3 rfl rfl h63 (ltn (takeLen h50 h51) h64) (hal52.some_ h63 h64)) ?_
    refine zs (AL.int 0 hO rfl lQ hal52 h63 h64 Try.underlying3 rfl rfl) ?_
    refine sxls hO ai.u H.1 H.2.1 fun p65 c66 pX => ?_
    refine sxl hO pX.u H.2.2.1 H.2.2.2.1 ?_
    refine GoR.inl (vs := [.int .i64 (ix (ix a0 (ix d_40 (k2_39 : Int))) (ix (d_40.take ((k2_39 + 1 : Int)).toNat) (k3_54 : Int)))]) (caps := [.pointer (some ⟨B8, 0, none⟩), .pointer (some ⟨B2, 0, none⟩)]) rfl rfl body67 Try.func67 rfl Try.ntmps67 rfl rfl rfl ?_
    intro RhR68 hR68
    refine au ?_
    have h69 := H.2.2.2.2.1
    have h70 := H.2.2.2.2.2.1
    refine sxb1 3 hO H.2.2.2.2.1 H.2.2.2.2.2.1 H.2.2.2.2.2.2 (fun h71 H => ?_) fun h71 H => ?_
    ·refine au ?_
     refine Go1.fin0V Try.func67 rfl ?_
     refine hR68 _ _ ?_
     refine sxls hO ai.u H.1 H.2.1 fun p72 c73 wX => ?_
     refine sxl hO wX.u H.2.2.1 H.2.2.2.1 ?_
     refine GoR.inl (vs := [.int .i64 (ix (ix a0 (ix (d_40.take ((k2_39 + 1 : Int)).toNat) (k3_54 : Int))) (ix d_40 (k2_39 : Int)))]) (caps := [.pointer (some ⟨B8, 0, none⟩), .pointer (some ⟨B2, 0, none⟩)]) rfl rfl body67 Try.func67 rfl Try.ntmps67 rfl rfl rfl ?_
     intro RhR75 hR75
     refine au ?_
     have h76 := H.2.2.2.2.1
     have h77 := H.2.2.2.2.2.1
     refine sxb1 3 hO H.2.2.2.2.1 H.2.2.2.2.2.1 H.2.2.2.2.2.2 (fun h78 H => ?_) fun h78 H => ?_
     ·refine au ?_
      refine Go1.fin0V Try.func67 rfl ?_
      refine hR75 _ _ ?_
      refine au ?_
      obtain ⟨h79, H⟩ := H
      refine zo (J06 rfl rfl (wrap_i64 h79)) ?_
      refine au ?_
      exact hX3 _ H _ _ agr ⟨_, _, _, _, ⟨agr, hO, fr⟩, lQ, hal52⟩
     refine six1 3 hO H.1 H.2.1 ?_
     refine sst (u := true) 3 hO H.1 H.2.1 fun w80 s hO => ?_
     refine sbu Fl.i 3 [(ix (ix a0 (ix (d_40.take ((k2_39 + 1 : Int)).toNat) (k3_54 : Int))) (ix d_40 (k2_39 : Int)))] hO fun w81 p82 s hO => ?_
     refine sfz 0 hO fun s hO wY xa => ?_
     have h86 := H.1
     have h87 := H.2.1
     replace H := H.2.2
     obtain ⟨h88, H⟩ := H
     have zz := oapp2 Try.underlying26 ti3 rfl 0 hO rfl lQ.u wY xa h88 (by decide)
     obtain ⟨w89, p90, c91, zR, sR, tg, hold96, uD⟩ := zz
     dsimp only [sS, sZ] at tg hold96
     refine zg (uD (by exact rfl) (by exact rfl)) ?_
     replace hal52 := hal52.u.app (us := [(ix (ix a0 (ix (d_40.take ((k2_39 + 1 : Int)).toNat) (k3_54 : Int))) (ix d_40 (k2_39 : Int)))]) (nstc sR) hold96
     refine nst sR fun s hO => ?_
     refine sbs 4 hO fun w97 s hO => ?_
     refine au ?_
     refine Go1.fin0V Try.func67 rfl ?_
     refine hR75 _ _ ?_
     refine au ?_
     obtain ⟨h98, H⟩ := H
     refine zo (J06 rfl rfl (wrap_i64 h98)) ?_
     refine au ?_
     exact hX3 _ H _ _ agr ⟨_, _, _, _, ⟨agr, hO, fr⟩, tg.u, hal52.u⟩
    refine six1 3 hO H.1 H.2.1 ?_
    refine sst (u := true) 3 hO H.1 H.2.1 fun w99 s hO => ?_
    refine sbu Fl.i 3 [(ix (ix a0 (ix d_40 (k2_39 : Int))) (ix (d_40.take ((k2_39 + 1 : Int)).toNat) (k3_54 : Int)))] hO fun xb zS s hO => ?_
    refine sfz 0 hO fun s hO uE uF => ?_
    have tj := H.1
    have nJ := H.2.1
    replace H := H.2.2
    obtain ⟨nK, H⟩ := H
    have zz := oapp2 Try.underlying26 ti3 rfl 0 hO rfl lQ.u uE uF nK (by decide)
    obtain ⟨zT, zU, zV, zu, pE, ol, hold115, tm⟩ := zz
    dsimp only [sS, sZ] at ol hold115
    refine zg (tm (by exact rfl) (by exact rfl)) ?_
    replace hal52 := hal52.u.app (us := [(ix (ix a0 (ix d_40 (k2_39 : Int))) (ix (d_40.take ((k2_39 + 1 : Int)).toNat) (k3_54 : Int)))]) (nstc pE) hold115
    refine nst pE fun s hO => ?_
    refine sbs 4 hO fun xc s hO => ?_
    refine au ?_
    refine Go1.fin0V Try.func67 rfl ?_
    refine hR68 _ _ ?_
    refine sxls hO ai.u H.1 H.2.1 fun zW zX uG => ?_
    refine sxl hO uG.u H.2.2.1 H.2.2.2.1 ?_
    refine GoR.inl (vs := [.int .i64 (ix (ix a0 (ix (d_40.take ((k2_39 + 1 : Int)).toNat) (k3_54 : Int))) (ix d_40 (k2_39 : Int)))]) (caps := [.pointer (some ⟨B8, 0, none⟩), .pointer (some ⟨B2, 0, none⟩)]) rfl rfl body67 Try.func67 rfl Try.ntmps67 rfl rfl rfl ?_
    intro RhR120 hR120
    refine au ?_
    have om := H.2.2.2.2.1
    have oo := H.2.2.2.2.2.1
    refine sxb1 3 hO H.2.2.2.2.1 H.2.2.2.2.2.1 H.2.2.2.2.2.2 (fun nM H => ?_) fun nM H => ?_
    ·refine au ?_
     refine Go1.fin0V Try.func67 rfl ?_
     refine hR120 _ _ ?_
     refine au ?_
     obtain ⟨nO, H⟩ := H
     refine zo (J06 rfl rfl (wrap_i64 nO)) ?_
     refine au ?_
     exact hX3 _ H _ _ agr ⟨_, _, _, _, ⟨agr, hO, fr⟩, ol.u, hal52.u⟩
    refine six1 3 hO H.1 H.2.1 ?_
    refine sst (u := true) 3 hO H.1 H.2.1 fun xd s hO => ?_
    refine sbu Fl.i 3 [(ix (ix a0 (ix (d_40.take ((k2_39 + 1 : Int)).toNat) (k3_54 : Int))) (ix d_40 (k2_39 : Int)))] hO fun zY z3 s hO => ?_
    refine sfz 0 hO fun s hO uH uI => ?_
    have z4 := H.1
    have tn := H.2.1
    replace H := H.2.2
    obtain ⟨xe, H⟩ := H
    have zz := oapp2 Try.underlying26 ti3 rfl 0 hO rfl ol.u uH uI xe (by decide)
    obtain ⟨z5, z6, z7, zw, pF, sT, hold141, tp⟩ := zz
    dsimp only [sS, sZ] at sT hold141
    refine zg (tp (by exact rfl) (by exact rfl)) ?_
    replace hal52 := hal52.u.app (us := [(ix (ix a0 (ix (d_40.take ((k2_39 + 1 : Int)).toNat) (k3_54 : Int))) (ix d_40 (k2_39 : Int)))]) (nstc pF) hold141
    refine nst pF fun s hO => ?_
    refine sbs 4 hO fun z8 s hO => ?_
    refine au ?_
    refine Go1.fin0V Try.func67 rfl ?_
    refine hR120 _ _ ?_
    refine au ?_
    obtain ⟨xg, H⟩ := H
    refine zo (J06 rfl rfl (wrap_i64 xg)) ?_
    refine au ?_
    exact hX3 _ H _ _ agr ⟨_, _, _, _, ⟨agr, hO, fr⟩, sT.u, hal52.u⟩
   refine au ?_
   obtain ⟨xh, H⟩ := H
   refine zo (J06 rfl rfl (wrap_i64 xh)) ?_
   refine au ?_
   refine cl1 Fl.i 0 hO lQ.u fun s hO => ?_
   exact hX2 _ H _ _ agr ⟨_, _, _, ⟨agr, hO, fr⟩⟩
  refine sinc (natbd h25 ai.bd) ?_
  refine au ?_
  exact hX1 _ H _ _ agr ⟨_, _, _, _, _, _, ⟨agr, hO, fr⟩⟩
 refine au ?_
 refine sfz 1 hO fun s hO ag uJ => ?_
 refine Go1.ret1 Try.func48 rfl ⟨_, _, _, ?_, frs, ag.r, H⟩
 exact (congrArg (fun nn => Value.slice p21 nn c22) uJ)
theorem body47 : Body Try.prog 47 := ⟨Try.f47, Try.func47, rfl, by kernel_rfl⟩
theorem J2K {A : List Nat} {w0 : World} {p_t : Option Addr} {c_t : Nat} {pG : Option Addr} {pI : Nat} {t : List (List Int)} {gens : List Int} (hA : ∀ b ∈ A, b < w0.heap.size) (h_t : ISl (Rp.sl (Rp.int .i64)) A w0 p_t c_t t) (mw : ISl (Rp.int .i64) A w0 pG pI gens) {K : Bool → Prop} (H : J0C t gens K) :
    CallsV Try.prog 47 #[.slice p_t t.length c_t, .slice pG gens.length pI] w0 (fun v w' => ∃ (r0 : Bool), v = .bool r0 ∧ Same w0 w' ∧ K r0) := by
 refine cal hA Try.func47 Try.ntmps47 fun hO hB => ?_
 unfold J0C at H
 refine sln0 ?_
 refine smk Fl.bool (H h_t.bd) hO fun w1 p4 s hO => ?_
 refine sln0 ?_
 refine au ?_
 refine lv [0, 5, 16, 17] hO ((H h_t.bd).2.2 mw.bd) (fun E (k1_7, tried1_8) σ w => Lo A w0 σ w [(18, .int .i64 (k1_7 : Int))] [t1 Fl.bool 4 p4 t.length t.length tried1_8]) ⟨agr, hO, fr⟩ ?_
 refine fun X1 => p1 fun k1_7 tried1_8 => fun H hX1 σ w6 hk => lh hk fun hO hB => ?_
 dsimp only at H
 revert hO; repeat (rename Owns .. => q; clear q)
 intro hO; repeat (rename Sq .. => q; clear q)
 refine scm H (fun h9 H => ?_) fun h9 H => ?_
 ·refine sxl hO mw.u H.1 H.2.1 ?_
  refine au ?_
  have h10 := H.1
  have h11 := H.2.1
  have h12 := H.2.2.1
  have h13 := H.2.2.2.1
  refine sxb1 0 hO H.2.2.1 H.2.2.2.1 H.2.2.2.2 (fun h14 H => ?_) fun h14 H => ?_
  ·refine sinc (natbd h9 mw.bd) ?_
   refine au ?_
   exact hX1 _ H _ _ agr ⟨agr, hO, fr⟩
  refine six1 0 hO H.1 H.2.1 ?_
  refine sst (u := true) 0 hO H.1 H.2.1 fun w15 s hO => ?_
  refine sln0 ?_
  refine au ?_
  have h18 := H.1
  have h19 := H.2.1
  refine lv [0, 5, 7, 16, 17, 18, 29, 30] hO H.2.2 (fun E k2_17 σ w => Lo A w0 σ w [(31, .int .i64 (k2_17 : Int))] E) ⟨agr, hO, fr⟩ ?_
  refine fun X2 => fun k2_17 => fun H hX2 σ w16 hk => lh hk fun hO hB => ?_
  revert hO; repeat (rename Owns .. => q; clear q)
  intro hO; repeat (rename Sq .. => q; clear q)
  refine scm H (fun h20 H => ?_) fun h20 H => ?_
  ·refine sxls hO h_t.u H.1 H.2.1 fun p21 c22 nP => ?_
   refine sxl hO nP.u H.2.2.1 H.2.2.2.1 ?_
   refine sxls hO h_t.u H.2.2.2.2.1 H.2.2.2.2.2.1 fun p24 c25 mX => ?_
   refine sxls hO h_t.u H.2.2.2.2.2.2.1 H.2.2.2.2.2.2.2.1 fun p27 c28 lT => ?_
   refine sln0 ?_
   refine au ?_
   have h32 := H.1
   have h33 := H.2.1
   have h34 := H.2.2.1
   have h35 := H.2.2.2.1
   have h36 := H.2.2.2.2.1
   have h37 := H.2.2.2.2.2.1
   have h38 := H.2.2.2.2.2.2.1
   have h39 := H.2.2.2.2.2.2.2.1
   refine lv [0, 5, 7, 9, 10, 16, 17, 18, 29, 30, 31, 45, 46] hO (H.2.2.2.2.2.2.2.2 lT.bd) (fun E k3_31 σ w => (fun Z => Lo A w0 σ w [(47, .int .i64 (k3_31 : Int))] Z ∧ ISl (Rp.int .i64) (bl Z ++ A) w p21 c22 (ix t (k2_17 : Int)) ∧ ISl (Rp.int .i64) (bl Z ++ A) w p24 c25 (ix t (ix (ix t (k2_17 : Int)) (ix gens (k1_7 : Int)))) ∧ ISl (Rp.int .i64) (bl Z ++ A) w p27 c28 (ix t (ix gens (k1_7 : Int)))) E) ⟨⟨agr, hO, fr⟩, nP.u, mX.u, lT.u⟩ ?_
   refine fun X3 => fun k3_31 => fun H hX3 σ w30 hk => d1 fun hL => d2 fun nP mX lT => lh hk (fun hO hB => ?_) hL
   revert hO; repeat (rename Owns .. => q; clear q)
   intro hO; repeat (rename Sq .. => q; clear q)
   refine scm H (fun h40 H => ?_) fun h40 H => ?_
   ·refine sxl hO lT H.1 H.2.1 ?_
    refine au ?_
    refine drs 0 [q0, q0, q0, q1, q0, q0, q0, q1, q0] hO fun w41 s hO => ?_
    refine sxl hO mX.u H.2.2.1 H.2.2.2.1 ?_
    refine sxl hO nP.u H.2.2.2.2.1 H.2.2.2.2.2.1 ?_
    have h42 := H.1
    have h43 := H.2.1
    have h44 := H.2.2.1
    have h45 := H.2.2.2.1
    have h46 := H.2.2.2.2.1
    have h47 := H.2.2.2.2.2.1
    refine scm H.2.2.2.2.2.2 (fun h48 H => ?_) fun h48 H => ?_
    ·refine sinc (natbd h40 lT.bd) ?_
     refine au ?_
     exact hX3 _ H _ _ agr ⟨⟨agr, hO, fr⟩, nP.u, mX.u, lT.u⟩
    refine au ?_
    refine Go1.ret1 Try.func47 rfl ⟨_, er, frs, H⟩
   refine sinc (natbd h20 h_t.bd) ?_
   refine au ?_
   exact hX2 _ H _ _ agr ⟨agr, hO, fr⟩
  refine sinc (natbd h9 mw.bd) ?_
  refine au ?_
  exact hX1 _ H _ _ agr ⟨agr, hO, fr⟩
 refine au ?_
 refine Go1.ret1 Try.func47 rfl ⟨_, er, frs, H⟩
theorem body24 : Body Try.prog 24 := ⟨Try.f24, Try.func24, rfl, by kernel_rfl⟩
theorem J18 {A : List Nat} {w0 : World} {p_t : Option Addr} {c_t : Nat} {t : List (List Int)} (hA : ∀ b ∈ A, b < w0.heap.size) (h_t : ISl (Rp.sl (Rp.int .i64)) A w0 p_t c_t t) {K : Int → Prop} (H : J0t t K) :
    CallsV Try.prog 24 #[.slice p_t t.length c_t] w0 (fun v w' => ∃ (r0 : Int), v = .int .i64 r0 ∧ Same w0 w' ∧ K r0) := by
 refine cal hA Try.func24 Try.ntmps24 fun hO hB => ?_
 unfold J0t at H
 refine au ?_
 refine zcr (J05 body46 rfl (J3T hO.lt h_t.u H)) fun _ w2 => e1 fun r1 => sc0 hO fun s hO => fun H => ?_
 refine scm H (fun h3 H => ?_) fun h3 H => ?_
 ·refine au ?_
  refine zcr (J05 body48 rfl (J3q hO.lt h_t.u H)) fun _ w5 => e3 fun r4 z9 Aa => sc0 hO fun s hO => d1 fun xi H => ?_
  refine zcr (J05 body47 rfl (J2K hO.lt h_t.u xi H)) fun _ w7 => e1 fun r6 => sc0 hO fun s hO => fun H => ?_
  cases r6
  ·refine au ?_
   refine Go1.ret1 Try.func24 rfl ⟨_, er, frs, (iF H)⟩
  refine au ?_
  refine Go1.ret1 Try.func24 rfl ⟨_, er, frs, (iT H)⟩
 refine au ?_
 refine Go1.ret1 Try.func24 rfl ⟨_, er, frs, H⟩
theorem body49 : Body Try.prog 49 := ⟨Try.f49, Try.func49, rfl, by kernel_rfl⟩
theorem J14 {A : List Nat} {w0 : World} {n : Int} (hA : ∀ b ∈ A, b < w0.heap.size) {K : List Int → Prop} (H : J0k n K) :
    CallsV Try.prog 49 #[.int .i64 n] w0 (fun v w' => ∃ (r0 : List Int), ∃ (tq : Nat), ∃ (bw : Option Addr), ∃ (bx : Nat), v = .slice bw tq bx ∧ Same w0 w' ∧ Owns w0.heap.size w' [t1 (Fl.int .u64) 77 bw tq bx r0] A ∧ K r0) := by
 refine cal hA Try.func49 Try.ntmps49 fun hO hB => ?_
 unfold J0k at H
 refine au ?_
 obtain ⟨h1, H⟩ := H
 refine zo (J06 rfl rfl (wrap_i64 h1)) ?_
 obtain ⟨h2, H⟩ := H
 refine zo (J7h rfl rfl (by decide) (wrap_i64 h2)) ?_
 refine smk (Fl.int .u64) H hO fun w3 p4 s hO => ?_
 refine au ?_
 refine Go1.ret1 Try.func49 rfl ⟨_, _, _, _, er, frs, hO, H.2.2⟩
theorem body50 : Body Try.prog 50 := ⟨Try.f50, Try.func50, rfl, by kernel_rfl⟩
theorem body25 : Body Try.prog 25 := ⟨Try.f25, Try.func25, rfl, by kernel_rfl⟩
theorem J2l {A : List Nat} {w0 : World} {p_t : Option Addr} {c_t : Nat} {t : List (List Int)} (hA : ∀ b ∈ A, b < w0.heap.size) (h_t : ISl (Rp.sl (Rp.int .i64)) A w0 p_t c_t t) {K : List (List Int) → Prop} (H : J0p t K) :
    CallsV Try.prog 25 #[.slice p_t t.length c_t] w0 (fun v w' => ∃ (r0 : List (List Int)), ∃ (bw : Option Addr), ∃ (bx : Nat), v = .slice bw r0.length bx ∧ Same w0 w' ∧ ISl (Rp.sl (Rp.int .u64)) A w' bw bx r0 ∧ K r0) := by
 refine cal hA Try.func25 Try.ntmps25 fun hO hB => ?_
 unfold J0p at H
 refine sln0 ?_
 replace H := (H h_t.bd)
 obtain ⟨h10, H⟩ := H
 obtain ⟨h11, H⟩ := H
 have zz := t2makeS (m := (t.length : Int)) (e' := 77) (Fl.int .u64) Try.underlying49 ti56 hO h10 h11 (by decide)
 obtain ⟨w1, p4, jS, hs8, nQ, hz13⟩ := zz
 refine zg (nQ rfl rfl) ?_
 refine nst jS fun s hO => ?_
 refine sln0 ?_
 refine au ?_
 refine lv [0, 3, 11, 12] hO H (fun E (k1_15, ideals1_16) σ w => ∃ bI, Lo A w0 σ w [(13, .int .i64 (k1_15 : Int))] [t2 (Fl.int .u64) 56 77 p4 t.length t.length bI ideals1_16]) ⟨_, ⟨agr, hO, fr⟩⟩ ?_
 refine fun X1 => p1 fun k1_15 ideals1_16 => fun H hX1 σ w14 hk => e1 fun bI => lh hk fun hO hB => ?_
 dsimp only at H
 revert hO; repeat (rename Owns .. => q; clear q)
 intro hO; repeat (rename Sq .. => q; clear q)
 refine scm H (fun h18 H => ?_) fun h18 H => ?_
 ·refine sxls hO h_t.u H.1 H.2.1 fun p19 c20 mY => ?_
  refine sln0 ?_
  have h25 := H.1
  have h26 := H.2.1
  refine zcr (J05 body49 rfl (J14 hO.lt H.2.2)) fun _ w24 => e4 fun r22 zx my mz => sc1 hO fun s hO => fun H => ?_
  obtain ⟨h28, H⟩ := H
  obtain ⟨h29, H⟩ := H
  refine zo (J01 Try.underlying49 ti56 rfl rfl h28 (ltn (t2neq 1 hO rfl) h29) (t2some 1 hO rfl h28 h29)) ?_
  refine op1 0 hO fun Ab s hO xk => ?_
  refine sfr 1 hO fun s hO => ?_
  refine sfr 1 hO fun s hO => ?_
  have zz := t2put (hf := (Fl.int .u64)) hO xk.u h28 h29
  obtain ⟨w32, jT, mA⟩ := zz
  refine zg (mA Try.underlying56 rfl ti56 (by exact rfl) (by exact rfl)) ?_
  refine nst jT fun s hO => ?_
  refine au ?_
  obtain ⟨h35, H⟩ := H
  obtain ⟨h36, H⟩ := H
  refine zo (J01 Try.underlying49 ti56 rfl rfl h35 (ltn (t2neq 0 hO rfl) h36) (t2some 0 hO rfl h35 h36)) ?_
  refine zs (t2head 0 hO rfl h35 h36 Try.underlying56 rfl rfl) ?_
  refine au ?_
  refine GoR.inl (vs := [.slice ((hup bI (k1_15 : Int).toNat (my, mz)) (k1_15 : Int).toNat).1 ((ix (st ideals1_16 (k1_15 : Int) r22) (k1_15 : Int)).length) ((hup bI (k1_15 : Int).toNat (my, mz)) (k1_15 : Int).toNat).2, .int .i64 (k1_15 : Int)]) (caps := []) rfl rfl body50 Try.func50 rfl Try.ntmps50 rfl rfl rfl ?_
  intro RhR37 hR37
  refine drs 1 [q0, q0, q0, q0, q1, q0, q0, q0, q0, q0, q3] hO fun w38 s hO => ?_
  refine au ?_
  refine GoQ.pure rfl (J3U rfl rfl (by decide) rfl) rfl rfl ?_
  obtain ⟨h39, H⟩ := H
  obtain ⟨h40, H⟩ := H
  refine GoQ.pure rfl (J01 Try.underlying56 ti77 rfl rfl h39 h40 (t2isome 0 hO rfl h35 h36 h39 h40)) rfl rfl ?_
  refine GoQ.stable rfl (t2Int 0 hO rfl h35 h36 h39 h40 Try.underlying77 rfl rfl) rfl rfl ?_
  refine au ?_
  refine GoQ.pure rfl (J4o rfl rfl) rfl rfl ?_
  obtain ⟨h41, H⟩ := H
  refine GoQ.pure rfl (J5u rfl rfl h41 rfl) rfl rfl ?_
  refine GoQ.pure rfl (op_or rfl rfl) rfl rfl ?_
  obtain ⟨h42, H⟩ := H
  obtain ⟨h43, H⟩ := H
  refine GoQ.pure rfl (J01 Try.underlying56 ti77 rfl rfl h42 h43 (t2isome 0 hO rfl h35 h36 h42 h43)) rfl rfl ?_
  have zz := t2st (r := Rp.int .u64) (hf := (Fl.int .u64)) rfl 0 hO rfl h35 h36 h42 h43 (v := .int .u64 (bits .or .u64 (ix (ix (st ideals1_16 (k1_15 : Int) r22) (k1_15 : Int)) (shrK .i64 (k1_15 : Int) (6 : Int))) (shlK .u64 (1 : Int) (bits .and .i64 (k1_15 : Int) (63 : Int))))) (u := (bits .or .u64 (ix (ix (st ideals1_16 (k1_15 : Int) r22) (k1_15 : Int)) (shrK .i64 (k1_15 : Int) (6 : Int))) (shlK .u64 (1 : Int) (bits .and .i64 (k1_15 : Int) (63 : Int))))) rfl rfl
  obtain ⟨w44, fu, uK⟩ := zz
  refine GoQ.last rfl (uK Try.underlying77 rfl ti77 (by exact rfl) (by exact rfl)) rfl rfl ?_
  refine nst fu fun s hO => ?_
  refine au ?_
  refine Go1.fin0V Try.func50 rfl ?_
  refine hR37 _ _ ?_
  refine sln0 ?_
  refine au ?_
  refine lv [0, 3, 4, 11, 12, 13, 30, 31] hO (H mY.bd) (fun E (k2_48, ideals2_49) σ w => (fun Z => Lo A w0 σ w [(32, .int .i64 (k2_48 : Int))] Z ∧ ISl (Rp.int .i64) (bl Z ++ A) w p19 c20 (ix t (k1_15 : Int))) [t2 (Fl.int .u64) 56 77 p4 t.length t.length (hup bI (k1_15 : Int).toNat (my, mz)) ideals2_49]) ⟨⟨agr, hO, fr⟩, mY.u⟩ ?_
  refine fun X2 => p1 fun k2_48 ideals2_49 => fun H hX2 σ w47 hk => d1 fun hL => fun mY => lh hk (fun hO hB => ?_) hL
  dsimp only at H
  revert hO; repeat (rename Owns .. => q; clear q)
  intro hO; repeat (rename Sq .. => q; clear q)
  refine scm H (fun h50 H => ?_) fun h50 H => ?_
  ·refine sxl hO mY H.1 H.2.1 ?_
   refine au ?_
   have h51 := H.1
   have h52 := H.2.1
   replace H := H.2.2
   obtain ⟨h53, H⟩ := H
   obtain ⟨h54, H⟩ := H
   refine zo (J01 Try.underlying49 ti56 rfl rfl h53 (ltn (t2neq 0 hO rfl) h54) (t2some 0 hO rfl h53 h54)) ?_
   refine zs (t2head 0 hO rfl h53 h54 Try.underlying56 rfl rfl) ?_
   refine au ?_
   refine GoR.inl (vs := [.slice ((hup bI (k1_15 : Int).toNat (my, mz)) (k1_15 : Int).toNat).1 ((ix ideals2_49 (k1_15 : Int)).length) ((hup bI (k1_15 : Int).toNat (my, mz)) (k1_15 : Int).toNat).2, .int .i64 (ix (ix t (k1_15 : Int)) (k2_48 : Int))]) (caps := []) rfl rfl body50 Try.func50 rfl Try.ntmps50 rfl rfl rfl ?_
   intro RhR55 hR55
   refine drs 1 [q0, q0, q0, q0, q1, q0, q0, q0, q0, q0, q3] hO fun w56 s hO => ?_
   refine au ?_
   refine GoQ.pure rfl (J3U rfl rfl (by decide) rfl) rfl rfl ?_
   obtain ⟨h57, H⟩ := H
   obtain ⟨h58, H⟩ := H
   refine GoQ.pure rfl (J01 Try.underlying56 ti77 rfl rfl h57 h58 (t2isome 0 hO rfl h53 h54 h57 h58)) rfl rfl ?_
   refine GoQ.stable rfl (t2Int 0 hO rfl h53 h54 h57 h58 Try.underlying77 rfl rfl) rfl rfl ?_
   refine au ?_
   refine GoQ.pure rfl (J4o rfl rfl) rfl rfl ?_
   obtain ⟨h59, H⟩ := H
   refine GoQ.pure rfl (J5u rfl rfl h59 rfl) rfl rfl ?_
   refine GoQ.pure rfl (op_or rfl rfl) rfl rfl ?_
   obtain ⟨h60, H⟩ := H
   obtain ⟨h61, H⟩ := H
   refine GoQ.pure rfl (J01 Try.underlying56 ti77 rfl rfl h60 h61 (t2isome 0 hO rfl h53 h54 h60 h61)) rfl rfl ?_
   have zz := t2st (r := Rp.int .u64) (hf := (Fl.int .u64)) rfl 0 hO rfl h53 h54 h60 h61 (v := .int .u64 (bits .or .u64 (ix (ix ideals2_49 (k1_15 : Int)) (shrK .i64 (ix (ix t (k1_15 : Int)) (k2_48 : Int)) (6 : Int))) (shlK .u64 (1 : Int) (bits .and .i64 (ix (ix t (k1_15 : Int)) (k2_48 : Int)) (63 : Int))))) (u := (bits .or .u64 (ix (ix ideals2_49 (k1_15 : Int)) (shrK .i64 (ix (ix t (k1_15 : Int)) (k2_48 : Int)) (6 : Int))) (shlK .u64 (1 : Int) (bits .and .i64 (ix (ix t (k1_15 : Int)) (k2_48 : Int)) (63 : Int))))) rfl rfl
   obtain ⟨w62, uL, uM⟩ := zz
   refine GoQ.last rfl (uM Try.underlying77 rfl ti77 (by exact rfl) (by exact rfl)) rfl rfl ?_
   refine nst uL fun s hO => ?_
   refine au ?_
   refine Go1.fin0V Try.func50 rfl ?_
   refine hR55 _ _ ?_
   refine sinc (natbd h50 mY.bd) ?_
   refine au ?_
   exact hX2 _ H _ _ agr ⟨⟨agr, hO, fr⟩, mY.u⟩
  refine sinc (natbd h18 h_t.bd) ?_
  refine au ?_
  exact hX1 _ H _ _ agr ⟨_, ⟨agr, hO, fr⟩⟩
 refine au ?_
 refine sfz2 0 hO fun s hO xm xn => ?_
 refine Go1.ret1 Try.func25 rfl ⟨_, _, _, ?_, frs, xm.r, H⟩
 exact (congrArg (fun nn => Value.slice p4 nn t.length) xn)
theorem body26 : Body Try.prog 26 := ⟨Try.f26, Try.func26, rfl, by kernel_rfl⟩
theorem J2s {A : List Nat} {w0 : World} {p_t : Option Addr} {c_t : Nat} {t : List (List Int)} (hA : ∀ b ∈ A, b < w0.heap.size) (h_t : ISl (Rp.sl (Rp.int .i64)) A w0 p_t c_t t) {K : List (List Int) → Prop} (H : J0u t K) :
    CallsV Try.prog 26 #[.slice p_t t.length c_t] w0 (fun v w' => ∃ (r0 : List (List Int)), ∃ (bw : Option Addr), ∃ (bx : Nat), v = .slice bw r0.length bx ∧ Same w0 w' ∧ ISl (Rp.sl (Rp.int .u64)) A w' bw bx r0 ∧ K r0) := by
 refine cal hA Try.func26 Try.ntmps26 fun hO hB => ?_
 unfold J0u at H
 refine sln0 ?_
 replace H := (H h_t.bd)
 obtain ⟨h10, H⟩ := H
 obtain ⟨h11, H⟩ := H
 have zz := t2makeS (m := (t.length : Int)) (e' := 77) (Fl.int .u64) Try.underlying49 ti56 hO h10 h11 (by decide)
 obtain ⟨w1, p4, jS, hs8, nQ, hz13⟩ := zz
 refine zg (nQ rfl rfl) ?_
 refine nst jS fun s hO => ?_
 refine sln0 ?_
 refine au ?_
 refine lv [0, 3, 11] hO H (fun E (k1_15, ideals1_16) σ w => ∃ bI, Lo A w0 σ w [(12, .int .i64 (k1_15 : Int))] [t2 (Fl.int .u64) 56 77 p4 t.length t.length bI ideals1_16]) ⟨_, ⟨agr, hO, fr⟩⟩ ?_
 refine fun X1 => p1 fun k1_15 ideals1_16 => fun H hX1 σ w14 hk => e1 fun bI => lh hk fun hO hB => ?_
 dsimp only at H
 revert hO; repeat (rename Owns .. => q; clear q)
 intro hO; repeat (rename Sq .. => q; clear q)
 refine scm H (fun h18 H => ?_) fun h18 H => ?_
 ·refine sln0 ?_
  refine zcr (J05 body49 rfl (J14 hO.lt H)) fun _ w21 => e4 fun r19 uN ke kg => sc1 hO fun s hO => fun H => ?_
  obtain ⟨h23, H⟩ := H
  obtain ⟨h24, H⟩ := H
  refine zo (J01 Try.underlying49 ti56 rfl rfl h23 (ltn (t2neq 1 hO rfl) h24) (t2some 1 hO rfl h23 h24)) ?_
  refine op1 0 hO fun xo s hO pY => ?_
  refine sfr 1 hO fun s hO => ?_
  refine sfr 1 hO fun s hO => ?_
  have zz := t2put (hf := (Fl.int .u64)) hO pY.u h23 h24
  obtain ⟨w27, bP, oq⟩ := zz
  refine zg (oq Try.underlying56 rfl ti56 (by exact rfl) (by exact rfl)) ?_
  refine nst bP fun s hO => ?_
  refine au ?_
  obtain ⟨h30, H⟩ := H
  obtain ⟨h31, H⟩ := H
  refine zo (J01 Try.underlying49 ti56 rfl rfl h30 (ltn (t2neq 0 hO rfl) h31) (t2some 0 hO rfl h30 h31)) ?_
  refine zs (t2head 0 hO rfl h30 h31 Try.underlying56 rfl rfl) ?_
  refine au ?_
  refine GoR.inl (vs := [.slice ((hup bI (k1_15 : Int).toNat (ke, kg)) (k1_15 : Int).toNat).1 ((ix (st ideals1_16 (k1_15 : Int) r19) (k1_15 : Int)).length) ((hup bI (k1_15 : Int).toNat (ke, kg)) (k1_15 : Int).toNat).2, .int .i64 (k1_15 : Int)]) (caps := []) rfl rfl body50 Try.func50 rfl Try.ntmps50 rfl rfl rfl ?_
  intro RhR32 hR32
  refine drs 1 [q0, q0, q0, q0, q1, q0, q0, q0, q0, q0, q3] hO fun w33 s hO => ?_
  refine au ?_
  refine GoQ.pure rfl (J3U rfl rfl (by decide) rfl) rfl rfl ?_
  obtain ⟨h34, H⟩ := H
  obtain ⟨h35, H⟩ := H
  refine GoQ.pure rfl (J01 Try.underlying56 ti77 rfl rfl h34 h35 (t2isome 0 hO rfl h30 h31 h34 h35)) rfl rfl ?_
  refine GoQ.stable rfl (t2Int 0 hO rfl h30 h31 h34 h35 Try.underlying77 rfl rfl) rfl rfl ?_
  refine au ?_
  refine GoQ.pure rfl (J4o rfl rfl) rfl rfl ?_
  obtain ⟨h36, H⟩ := H
  refine GoQ.pure rfl (J5u rfl rfl h36 rfl) rfl rfl ?_
  refine GoQ.pure rfl (op_or rfl rfl) rfl rfl ?_
  obtain ⟨h37, H⟩ := H
  obtain ⟨h38, H⟩ := H
  refine GoQ.pure rfl (J01 Try.underlying56 ti77 rfl rfl h37 h38 (t2isome 0 hO rfl h30 h31 h37 h38)) rfl rfl ?_
  have zz := t2st (r := Rp.int .u64) (hf := (Fl.int .u64)) rfl 0 hO rfl h30 h31 h37 h38 (v := .int .u64 (bits .or .u64 (ix (ix (st ideals1_16 (k1_15 : Int) r19) (k1_15 : Int)) (shrK .i64 (k1_15 : Int) (6 : Int))) (shlK .u64 (1 : Int) (bits .and .i64 (k1_15 : Int) (63 : Int))))) (u := (bits .or .u64 (ix (ix (st ideals1_16 (k1_15 : Int) r19) (k1_15 : Int)) (shrK .i64 (k1_15 : Int) (6 : Int))) (shlK .u64 (1 : Int) (bits .and .i64 (k1_15 : Int) (63 : Int))))) rfl rfl
  obtain ⟨w39, ot, ou⟩ := zz
  refine GoQ.last rfl (ou Try.underlying77 rfl ti77 (by exact rfl) (by exact rfl)) rfl rfl ?_
  refine nst ot fun s hO => ?_
  refine au ?_
  refine Go1.fin0V Try.func50 rfl ?_
  refine hR32 _ _ ?_
  refine sln0 ?_
  refine au ?_
  refine lv [0, 3, 4, 11, 12, 27, 28] hO H (fun E (k2_43, ideals2_44) σ w => Lo A w0 σ w [(29, .int .i64 (k2_43 : Int))] [t2 (Fl.int .u64) 56 77 p4 t.length t.length (hup bI (k1_15 : Int).toNat (ke, kg)) ideals2_44]) ⟨agr, hO, fr⟩ ?_
  refine fun X2 => p1 fun k2_43 ideals2_44 => fun H hX2 σ w42 hk => lh hk fun hO hB => ?_
  dsimp only at H
  revert hO; repeat (rename Owns .. => q; clear q)
  intro hO; repeat (rename Sq .. => q; clear q)
  refine scm H (fun h45 H => ?_) fun h45 H => ?_
  ·refine sxls hO h_t.u H.1 H.2.1 fun p46 c47 xp => ?_
   refine au ?_
   refine drs 1 [q0, q0, q0, q1, q0, q0, q0, q1, q3] hO fun w49 s hO => ?_
   refine au ?_
   have h50 := H.1
   have h51 := H.2.1
   replace H := H.2.2
   obtain ⟨h52, H⟩ := H
   obtain ⟨h53, H⟩ := H
   refine GoQ.pure rfl (J01 Try.underlying49 ti56 rfl rfl h52 (ltn (t2neq 0 hO rfl) h53) (t2some 0 hO rfl h52 h53)) rfl rfl ?_
   refine GoQ.stable rfl (t2head 0 hO rfl h52 h53 Try.underlying56 rfl rfl) rfl rfl ?_
   refine sxl hO xp.u H.1 H.2.1 ?_
   refine GoQ.inl (vs := [.slice ((hup bI (k1_15 : Int).toNat (ke, kg)) (k1_15 : Int).toNat).1 ((ix ideals2_44 (k1_15 : Int)).length) ((hup bI (k1_15 : Int).toNat (ke, kg)) (k1_15 : Int).toNat).2, .int .i64 (ix (ix t (k2_43 : Int)) (k1_15 : Int))]) (caps := []) rfl rfl rfl body50 Try.func50 rfl Try.ntmps50 rfl rfl rfl ?_
   intro RhR54 hR54
   refine drs 1 [q0, q0, q0, q0, q1, q0, q0, q0, q0, q0, q3] hO fun w55 s hO => ?_
   refine au ?_
   refine GoQ.pure rfl (J3U rfl rfl (by decide) rfl) rfl rfl ?_
   replace H := H.2.2
   obtain ⟨h56, H⟩ := H
   obtain ⟨h57, H⟩ := H
   refine GoQ.pure rfl (J01 Try.underlying56 ti77 rfl rfl h56 h57 (t2isome 0 hO rfl h52 h53 h56 h57)) rfl rfl ?_
   refine GoQ.stable rfl (t2Int 0 hO rfl h52 h53 h56 h57 Try.underlying77 rfl rfl) rfl rfl ?_
   refine au ?_
   refine GoQ.pure rfl (J4o rfl rfl) rfl rfl ?_
   obtain ⟨h58, H⟩ := H
   refine GoQ.pure rfl (J5u rfl rfl h58 rfl) rfl rfl ?_
   refine GoQ.pure rfl (op_or rfl rfl) rfl rfl ?_
   obtain ⟨h59, H⟩ := H
   obtain ⟨h60, H⟩ := H
   refine GoQ.pure rfl (J01 Try.underlying56 ti77 rfl rfl h59 h60 (t2isome 0 hO rfl h52 h53 h59 h60)) rfl rfl ?_
   have zz := t2st (r := Rp.int .u64) (hf := (Fl.int .u64)) rfl 0 hO rfl h52 h53 h59 h60 (v := .int .u64 (bits .or .u64 (ix (ix ideals2_44 (k1_15 : Int)) (shrK .i64 (ix (ix t (k2_43 : Int)) (k1_15 : Int)) (6 : Int))) (shlK .u64 (1 : Int) (bits .and .i64 (ix (ix t (k2_43 : Int)) (k1_15 : Int)) (63 : Int))))) (u := (bits .or .u64 (ix (ix ideals2_44 (k1_15 : Int)) (shrK .i64 (ix (ix t (k2_43 : Int)) (k1_15 : Int)) (6 : Int))) (shlK .u64 (1 : Int) (bits .and .i64 (ix (ix t (k2_43 : Int)) (k1_15 : Int)) (63 : Int))))) rfl rfl
   obtain ⟨w61, uO, uP⟩ := zz
   refine GoQ.last rfl (uP Try.underlying77 rfl ti77 (by exact rfl) (by exact rfl)) rfl rfl ?_
   refine nst uO fun s hO => ?_
   refine au ?_
   refine Go1.fin0V Try.func50 rfl ?_
   refine hR54 _ _ ?_
   refine sinc (natbd h45 h_t.bd) ?_
   refine au ?_
   exact hX2 _ H _ _ agr ⟨agr, hO, fr⟩
  refine sinc (natbd h18 h_t.bd) ?_
  refine au ?_
  exact hX1 _ H _ _ agr ⟨_, ⟨agr, hO, fr⟩⟩
 refine au ?_
 refine sfz2 0 hO fun s hO p9 xq => ?_
 refine Go1.ret1 Try.func26 rfl ⟨_, _, _, ?_, frs, p9.r, H⟩
 exact (congrArg (fun nn => Value.slice p4 nn t.length) xq)
theorem body31 : Body Try.prog 31 := ⟨Try.f31, Try.func31, rfl, by kernel_rfl⟩
theorem J0o {A : List Nat} {w0 : World} {bD : Option Addr} {bC : Nat} {s_ : List Int} {x : Int} (hA : ∀ b ∈ A, b < w0.heap.size) (xt : ISl (Rp.int .u64) A w0 bD bC s_) {K : Bool → Prop} (H : J0a s_ x K) :
    CallsV Try.prog 31 #[.slice bD s_.length bC, .int .i64 x] w0 (fun v w' => ∃ (r0 : Bool), v = .bool r0 ∧ Same w0 w' ∧ K r0) := by
 refine cal hA Try.func31 Try.ntmps31 fun hO hB => ?_
 unfold J0a at H
 refine au ?_
 refine zo (J3U rfl rfl (by decide) rfl) ?_
 refine sxl hO xt.u H.1 H.2.1 ?_
 refine au ?_
 refine zo (J4o rfl rfl) ?_
 have h1 := H.1
 have h2 := H.2.1
 replace H := H.2.2
 obtain ⟨h3, H⟩ := H
 refine zo (J3U rfl rfl h3 rfl) ?_
 refine zo (J4o rfl rfl) ?_
 refine scm H (fun h4 H => ?_) fun h4 H => ?_
 ·refine au ?_
  refine Go1.ret1 Try.func31 rfl ⟨_, er, frs, H⟩
 refine au ?_
 refine Go1.ret1 Try.func31 rfl ⟨_, er, frs, H⟩
theorem body51 : Body Try.prog 51 := ⟨Try.f51, Try.func51, rfl, by kernel_rfl⟩
theorem body27 : Body Try.prog 27 := ⟨Try.f27, Try.func27, rfl, by kernel_rfl⟩
theorem J2P {A : List Nat} {w0 : World} {oe : Option Addr} {og : Nat} {pK : Option Addr} {pM : Nat} {right : List (List Int)} {left : List (List Int)} (hA : ∀ b ∈ A, b < w0.heap.size) (l5 : ISl (Rp.sl (Rp.int .u64)) A w0 oe og right) (tt : ISl (Rp.sl (Rp.int .u64)) A w0 pK pM left) {K : List (List Int) → Prop} (H : J0U right left K) :
    CallsV Try.prog 27 #[.slice oe right.length og, .slice pK left.length pM] w0 (fun v w' => ∃ (r0 : List (List Int)), ∃ (bw : Option Addr), ∃ (bx : Nat), v = .slice bw r0.length bx ∧ Same w0 w' ∧ ISl (Rp.sl (Rp.int .u64)) A w' bw bx r0 ∧ K r0) := by
 refine cal hA Try.func27 Try.ntmps27 fun hO hB => ?_
 unfold J0U at H
 refine sln0 ?_
 replace H := (H l5.bd)
 obtain ⟨h10, H⟩ := H
 obtain ⟨h11, H⟩ := H
 have zz := t2makeS (m := (right.length : Int)) (e' := 77) (Fl.int .u64) Try.underlying49 ti56 hO h10 h11 (by decide)
 obtain ⟨w1, p4, jS, hs8, nQ, hz13⟩ := zz
 refine zg (nQ rfl rfl) ?_
 refine nst jS fun s hO => ?_
 refine au ?_
 refine zo (J2v Try.underlying49 rfl (t2neq 0 hO rfl)) ?_
 refine au ?_
 refine lv [0, 1, 5, 12] hO H (fun E (k1_15, ideals1_16) σ w => ∃ bI, Lo A w0 σ w [(13, .int .i64 (k1_15 : Int))] [t2 (Fl.int .u64) 56 77 p4 right.length right.length bI ideals1_16]) ⟨_, ⟨agr, hO, fr⟩⟩ ?_
 refine fun X1 => p1 fun k1_15 ideals1_16 => fun H hX1 σ w14 hk => e1 fun bI => lh hk fun hO hB => ?_
 dsimp only at H
 revert hO; repeat (rename Owns .. => q; clear q)
 intro hO; repeat (rename Sq .. => q; clear q)
 refine scm H (fun h18 H => ?_) fun h18 H => ?_
 ·refine sln0 ?_
  refine zcr (J05 body49 rfl (J14 hO.lt H)) fun _ w21 => e4 fun r19 uN ke kg => sc1 hO fun s hO => fun H => ?_
  obtain ⟨h23, H⟩ := H
  obtain ⟨h24, H⟩ := H
  refine zo (J01 Try.underlying49 ti56 rfl rfl h23 (ltn (t2neq 1 hO rfl) h24) (t2some 1 hO rfl h23 h24)) ?_
  refine op1 0 hO fun xo s hO pY => ?_
  refine sfr 1 hO fun s hO => ?_
  refine sfr 1 hO fun s hO => ?_
  have zz := t2put (hf := (Fl.int .u64)) hO pY.u h23 h24
  obtain ⟨w27, bP, oq⟩ := zz
  refine zg (oq Try.underlying56 rfl ti56 (by exact rfl) (by exact rfl)) ?_
  refine nst bP fun s hO => ?_
  refine sln0 ?_
  refine au ?_
  refine lv [0, 1, 5, 6, 12, 13, 23] hO H (fun E (k2_31, ideals2_32) σ w => Lo A w0 σ w [(24, .int .i64 (k2_31 : Int))] [t2 (Fl.int .u64) 56 77 p4 right.length right.length (hup bI (k1_15 : Int).toNat (ke, kg)) ideals2_32]) ⟨agr, hO, fr⟩ ?_
  refine fun X2 => p1 fun k2_31 ideals2_32 => fun H hX2 σ w30 hk => lh hk fun hO hB => ?_
  dsimp only at H
  revert hO; repeat (rename Owns .. => q; clear q)
  intro hO; repeat (rename Sq .. => q; clear q)
  refine scm H (fun h33 H => ?_) fun h33 H => ?_
  ·refine sxls hO tt.u H.1 H.2.1 fun p34 c35 xv => ?_
   refine au ?_
   have h39 := H.1
   have h40 := H.2.1
   refine zcr (J05 body31 rfl (J0o hO.lt xv.u H.2.2)) fun _ w38 => e1 fun r37 => sc0 hO fun s hO => fun H => ?_
   refine au ?_
   cases r37
   ·refine sinc (natbd h33 l5.bd) ?_
    refine au ?_
    exact hX2 _ (iF H) _ _ agr ⟨agr, hO, fr⟩
   refine au ?_
   refine drs 1 [q0, q0, q0, q1, q0, q0, q0, q1, q3] hO fun w41 s hO => ?_
   refine au ?_
   replace H := (iT H)
   obtain ⟨h42, H⟩ := H
   obtain ⟨h43, H⟩ := H
   refine GoQ.pure rfl (J01 Try.underlying49 ti56 rfl rfl h42 (ltn (t2neq 0 hO rfl) h43) (t2some 0 hO rfl h42 h43)) rfl rfl ?_
   refine GoQ.stable rfl (t2head 0 hO rfl h42 h43 Try.underlying56 rfl rfl) rfl rfl ?_
   refine sxls hO l5.u H.1 H.2.1 fun p44 c45 ov => ?_
   refine GoQ.inl (vs := [.slice ((hup bI (k1_15 : Int).toNat (ke, kg)) (k1_15 : Int).toNat).1 ((ix ideals2_32 (k1_15 : Int)).length) ((hup bI (k1_15 : Int).toNat (ke, kg)) (k1_15 : Int).toNat).2, .slice p44 ((ix right (k2_31 : Int)).length) c45]) (caps := []) rfl rfl rfl body51 Try.func51 rfl Try.ntmps51 rfl rfl rfl ?_
   intro RhR47 hR47
   refine au ?_
   refine zo (J27 Try.underlying56 rfl) ?_
   refine au ?_
   refine lv [0, 1, 6] hO H.2.2 (fun E (k3_49, d_50) σ w => (fun Z => Lo A w0 σ w [(7, .int .i64 (k3_49 : Int))] Z ∧ ISl (Rp.int .u64) (bl Z ++ A) w p44 c45 (ix right (k2_31 : Int))) [t2 (Fl.int .u64) 56 77 p4 right.length right.length (hup bI (k1_15 : Int).toNat (ke, kg)) d_50]) ⟨⟨agr, hO, fr⟩, ov.u⟩ ?_
   refine fun X3 => p1 fun k3_49 d_50 => fun H hX3 σ w48 hk => d1 fun hL => fun ov => lh hk (fun hO hB => ?_) hL
   dsimp only at H
   revert hO; repeat (rename Owns .. => q; clear q)
   intro hO; repeat (rename Sq .. => q; clear q)
   refine scm H (fun h51 H => ?_) fun h51 H => ?_
   ·refine au ?_
    refine drs 1 [q0, q0, q0, q1, q0, q0, q0, q1, q0, q0, q3] hO fun w52 s hO => ?_
    refine au ?_
    obtain ⟨h53, H⟩ := H
    obtain ⟨h54, H⟩ := H
    obtain ⟨h55, H⟩ := H
    obtain ⟨h56, H⟩ := H
    refine GoQ.pure rfl (J01 Try.underlying56 ti77 rfl rfl h53 h54 (t2isome 0 hO rfl h42 h55 h53 h56)) rfl rfl ?_
    refine GoQ.stable rfl (t2Int 0 hO rfl h42 h55 h53 h56 Try.underlying77 rfl rfl) rfl rfl ?_
    refine sxl hO ov.u H.1 H.2.1 ?_
    refine GoQ.pure rfl (op_or rfl rfl) rfl rfl ?_
    have h57 := H.1
    have h58 := H.2.1
    replace H := H.2.2
    obtain ⟨h59, H⟩ := H
    obtain ⟨h60, H⟩ := H
    obtain ⟨h61, H⟩ := H
    obtain ⟨h62, H⟩ := H
    refine GoQ.pure rfl (J01 Try.underlying56 ti77 rfl rfl h59 h60 (t2isome 0 hO rfl h42 h61 h59 h62)) rfl rfl ?_
    have zz := t2st (r := Rp.int .u64) (hf := (Fl.int .u64)) rfl 0 hO rfl h42 h61 h59 h62 (v := .int .u64 (bits .or .u64 (ix (ix d_50 (k1_15 : Int)) (k3_49 : Int)) (ix (ix right (k2_31 : Int)) (k3_49 : Int)))) (u := (bits .or .u64 (ix (ix d_50 (k1_15 : Int)) (k3_49 : Int)) (ix (ix right (k2_31 : Int)) (k3_49 : Int)))) rfl rfl
    obtain ⟨w63, uR, uS⟩ := zz
    refine GoQ.last rfl (uS Try.underlying77 rfl ti77 (by exact rfl) (by exact rfl)) rfl rfl ?_
    refine nst uR fun s hO => ?_
    refine au ?_
    obtain ⟨h66, H⟩ := H
    refine zo (J06 rfl rfl (wrap_i64 h66)) ?_
    refine au ?_
    exact hX3 _ H _ _ agr ⟨⟨agr, hO, fr⟩, ov.u⟩
   refine au ?_
   refine Go1.fin0V Try.func51 rfl ?_
   refine hR47 _ _ ?_
   refine sinc (natbd h33 l5.bd) ?_
   refine au ?_
   exact hX2 _ H _ _ agr ⟨agr, hO, fr⟩
  refine au ?_
  obtain ⟨h67, H⟩ := H
  refine zo (J06 rfl rfl (wrap_i64 h67)) ?_
  refine au ?_
  exact hX1 _ H _ _ agr ⟨_, ⟨agr, hO, fr⟩⟩
 refine au ?_
 refine sfz2 0 hO fun s hO xw xz => ?_
 refine Go1.ret1 Try.func27 rfl ⟨_, _, _, ?_, frs, xw.r, H⟩
 exact (congrArg (fun nn => Value.slice p4 nn right.length) xz)
theorem body68 : Body Try.prog 68 := ⟨Try.f68, Try.func68, rfl, by kernel_rfl⟩
theorem J1N {A : List Nat} {w0 : World} {p_l : Option Addr} {c_l : Nat} {l : List Int} (hA : ∀ b ∈ A, b < w0.heap.size) (h_l : ISl (Rp.int .i64) A w0 p_l c_l l) {K : List Int → Prop} (H : J09 l K) :
    CallsV Try.prog 68 #[.slice p_l l.length c_l] w0 (fun v w' => ∃ (r0 : List Int), ∃ (bw : Option Addr), ∃ (bx : Nat), v = .slice bw r0.length bx ∧ Same w0 w' ∧ ISl (Rp.int .i64) A w' bw bx r0 ∧ K r0) := by
 refine cal hA Try.func68 Try.ntmps68 fun hO hB => ?_
 unfold J09 at H
 refine sln0 ?_
 refine smk Fl.i (H h_l.bd) hO fun w1 p4 s hO => ?_
 refine au ?_
 have zz := omakeMap (fun a : Int => Value.int .i64 a) (fun a : Int => Value.int .i64 a) hO
 obtain ⟨w6, B7, nS, hs9, ow⟩ := zz
 refine zg ow ?_
 refine nst nS fun s hO => ?_
 refine sln0 ?_
 refine au ?_
 refine lv [3, 4, 13, 14] hO (H h_l.bd).2.2 (fun E (k1_13, m1_14, p1_15) σ w => Lo A w0 σ w [(15, .int .i64 (k1_13 : Int))] [.any (mapE (fun a : Int => Value.int .i64 a) (fun a : Int => Value.int .i64 a) B7 m1_14), t1 Fl.i 3 p4 l.length l.length p1_15]) ⟨agr, hO, fr⟩ ?_
 refine fun X1 => p2 fun k1_13 m1_14 p1_15 => fun H hX1 σ w12 hk => lh hk fun hO hB => ?_
 dsimp only at H
 revert hO; repeat (rename Owns .. => q; clear q)
 intro hO; repeat (rename Sq .. => q; clear q)
 refine scm H (fun h16 H => ?_) fun h16 H => ?_
 ·refine sxl hO h_l.u H.1 H.2.1 ?_
  refine au ?_
  have h17 := H.1
  have h18 := H.2.1
  replace H := H.2.2
  by_cases h19 : mhas m1_14 ((ix l (k1_13 : Int))) = true
  ·refine zs (olookT (a := (ix l (k1_13 : Int))) (MK.int Try.underlying3) 0 hO rfl Try.underlying95 rfl rfl h19) ?_
   refine six1 1 hO (ifp h19 H).1 (ifp h19 H).2.1 ?_
   refine sst (u := (mgt m1_14 ((ix l (k1_13 : Int))))) 1 hO (ifp h19 H).1 (ifp h19 H).2.1 fun w20 s hO => ?_
   refine sinc (natbd h16 h_l.bd) ?_
   refine au ?_
   exact hX1 _ (ifp h19 H).2.2 _ _ agr ⟨agr, hO, fr⟩
  refine zs (olookF (a := (ix l (k1_13 : Int))) (MK.int Try.underlying3) 0 hO rfl Try.underlying95 ti3 rfl rfl h19) ?_
  refine au ?_
  refine zs (omapLen 0 hO rfl Try.underlying95 rfl) ?_
  refine au ?_
  have zz := omapUpd (MK.int Try.underlying3) 0 hO rfl Try.underlying95 (ix l (k1_13 : Int)) (m1_14.length : Int)
  obtain ⟨w21, kh, oA⟩ := zz
  refine zg (oA (by exact rfl) (by exact rfl) (by exact rfl)) ?_
  refine nst kh fun s hO => ?_
  refine six1 1 hO (ifn h19 H).1 (ifn h19 H).2.1 ?_
  refine sst (u := (m1_14.length : Int)) 1 hO (ifn h19 H).1 (ifn h19 H).2.1 fun w24 s hO => ?_
  refine sinc (natbd h16 h_l.bd) ?_
  refine au ?_
  exact hX1 _ (ifn h19 H).2.2 _ _ agr ⟨agr, hO, fr⟩
 refine au ?_
 refine sfz 1 hO fun s hO nT nU => ?_
 refine Go1.ret1 Try.func68 rfl ⟨_, _, _, ?_, frs, nT.r, H⟩
 exact (congrArg (fun nn => Value.slice p4 nn l.length) nU)
theorem body52 : Body Try.prog 52 := ⟨Try.f52, Try.func52, rfl, by kernel_rfl⟩
theorem J24 {A : List Nat} {w0 : World} {p_l : Option Addr} {c_l : Nat} {l : List Int} (hA : ∀ b ∈ A, b < w0.heap.size) (h_l : ISl (Rp.int .i64) A w0 p_l c_l l) {K : List Int → Prop} (H : J0f l K) :
    CallsV Try.prog 52 #[.slice p_l l.length c_l] w0 (fun v w' => ∃ (r0 : List Int), ∃ (bw : Option Addr), ∃ (bx : Nat), v = .slice bw r0.length bx ∧ Same w0 w' ∧ ISl (Rp.int .i64) A w' bw bx r0 ∧ K r0) := by
 refine cal hA Try.func52 Try.ntmps52 fun hO hB => ?_
 unfold J0f at H
 refine sln0 ?_
 refine scm (H h_l.bd) (fun h1 H => ?_) fun h1 H => ?_
 ·refine au ?_
  refine Go1.ret1 Try.func52 rfl ⟨_, _, _, er, frs, (ISl.null _ _ _), H⟩
 refine au ?_
 refine zcr (J05 body68 rfl (J1N hO.lt h_l.u H)) fun _ w3 => e3 fun r2 Ac Ad => sc0 hO fun s hO => d1 fun xA H => ?_
 refine au ?_
 refine Go1.ret1 Try.func52 rfl ⟨_, _, _, er, frs, xA.r, H⟩
theorem body28 : Body Try.prog 28 := ⟨Try.f28, Try.func28, rfl, by kernel_rfl⟩
theorem J1m {A : List Nat} {w0 : World} {nV : Option Addr} {nW : Nat} {ideals : List (List Int)} (hA : ∀ b ∈ A, b < w0.heap.size) (jQ : ISl (Rp.sl (Rp.int .u64)) A w0 nV nW ideals) {K : List Int → Prop} (H : J0E ideals K) :
    CallsV Try.prog 28 #[.slice nV ideals.length nW] w0 (fun v w' => ∃ (r0 : List Int), ∃ (bw : Option Addr), ∃ (bx : Nat), v = .slice bw r0.length bx ∧ Same w0 w' ∧ ISl (Rp.int .i64) A w' bw bx r0 ∧ K r0) := by
 refine cal hA Try.func28 Try.ntmps28 fun hO hB => ?_
 unfold J0E at H
 refine sln0 ?_
 refine smk Fl.i (H jQ.bd) hO fun w1 p4 s hO => ?_
 refine sln0 ?_
 refine au ?_
 refine lv [0, 3, 10] hO (H jQ.bd).2.2 (fun E (k1_7, class1_8) σ w => Lo A w0 σ w [(11, .int .i64 (k1_7 : Int))] [t1 Fl.i 3 p4 ideals.length ideals.length class1_8]) ⟨agr, hO, fr⟩ ?_
 refine fun X1 => p1 fun k1_7 class1_8 => fun H hX1 σ w6 hk => lh hk fun hO hB => ?_
 dsimp only at H
 revert hO; repeat (rename Owns .. => q; clear q)
 intro hO; repeat (rename Sq .. => q; clear q)
 refine scm H (fun h9 H => ?_) fun h9 H => ?_
 ·refine six1 0 hO H.1 H.2.1 ?_
  refine sst (u := (k1_7 : Int)) 0 hO H.1 H.2.1 fun w10 s hO => ?_
  refine au ?_
  have h13 := H.1
  have h14 := H.2.1
  refine lv [0, 3, 4, 10, 11, 18] hO H.2.2 (fun E k2_12 σ w => Lo A w0 σ w [(19, .int .i64 (k2_12 : Int))] E) ⟨agr, hO, fr⟩ ?_
  refine fun X2 => fun k2_12 => fun H hX2 σ w11 hk => lh hk fun hO hB => ?_
  revert hO; repeat (rename Owns .. => q; clear q)
  intro hO; repeat (rename Sq .. => q; clear q)
  refine scm H (fun h15 H => ?_) fun h15 H => ?_
  ·refine sxls hO jQ.u H.1 H.2.1 fun p16 c17 xB => ?_
   refine au ?_
   have h21 := H.1
   have h22 := H.2.1
   refine zcr (J05 body31 rfl (J0o hO.lt xB.u H.2.2)) fun _ w20 => e1 fun r19 => sc0 hO fun s hO => fun H => ?_
   refine au ?_
   cases r19
   ·refine au ?_
    replace H := (iF H)
    obtain ⟨h23, H⟩ := H
    refine zo (J06 rfl rfl (wrap_i64 h23)) ?_
    refine au ?_
    exact hX2 _ H _ _ agr ⟨agr, hO, fr⟩
   refine six jQ (iT H).1 (iT H).2.1 ?_
   refine slds hO jQ.u (iT H).1 (iT H).2.1 fun p24 c25 mX => ?_
   refine au ?_
   have h29 := (iT H).1
   have h30 := (iT H).2.1
   refine zcr (J05 body31 rfl (J0o hO.lt mX.u (iT H).2.2)) fun _ w28 => e1 fun r27 => sc0 hO fun s hO => fun H => ?_
   refine au ?_
   cases r27
   ·refine au ?_
    replace H := (iF H)
    obtain ⟨h31, H⟩ := H
    refine zo (J06 rfl rfl (wrap_i64 h31)) ?_
    refine au ?_
    exact hX2 _ H _ _ agr ⟨agr, hO, fr⟩
   refine six1 0 hO (iT H).1 (iT H).2.1 ?_
   refine sst (u := (k2_12 : Int)) 0 hO (iT H).1 (iT H).2.1 fun w32 s hO => ?_
   refine sinc (natbd h9 jQ.bd) ?_
   refine au ?_
   exact hX1 _ (iT H).2.2 _ _ agr ⟨agr, hO, fr⟩
  refine sinc (natbd h9 jQ.bd) ?_
  refine au ?_
  exact hX1 _ H _ _ agr ⟨agr, hO, fr⟩
 refine au ?_
 refine sfz 0 hO fun s hO nX qa => ?_
 refine zcr (J05 body52 (by rw [qa]; exact rfl) (J24 hO.lt nX H)) fun _ w36 => e3 fun r35 zy zA => sc0 hO fun s hO => d1 fun uT H => ?_
 refine au ?_
 refine Go1.ret1 Try.func28 rfl ⟨_, _, _, er, frs, uT.r, H⟩
theorem body55 : Body Try.prog 55 := ⟨Try.f55, Try.func55, rfl, by kernel_rfl⟩
theorem J0l {A : List Nat} {w0 : World} {p_p : Option Addr} {c_p : Nat} {p : List Int} (hA : ∀ b ∈ A, b < w0.heap.size) (h_p : ISl (Rp.int .i64) A w0 p_p c_p p) {K : Bool → Prop} (H : J0b p K) :
    CallsV Try.prog 55 #[.slice p_p p.length c_p] w0 (fun v w' => ∃ (r0 : Bool), v = .bool r0 ∧ Same w0 w' ∧ K r0) := by
 refine cal hA Try.func55 Try.ntmps55 fun hO hB => ?_
 unfold J0b at H
 refine sln0 ?_
 refine scm (H h_p.bd) (fun h1 H => ?_) fun h1 H => ?_
 ·refine au ?_
  refine Go1.ret1 Try.func55 rfl ⟨_, er, frs, H⟩
 refine sln0 ?_
 refine au ?_
 refine lv [9, 10] hO H (fun E (count1_3, k1_4) σ w => Lo A w0 σ w [(3, .int .i64 (count1_3 : Int)), (11, .int .i64 (k1_4 : Int))] []) ⟨agr, hO, fr⟩ ?_
 refine fun X1 => p1 fun count1_3 k1_4 => fun H hX1 σ w2 hk => lh hk fun hO hB => ?_
 dsimp only at H
 refine scm H (fun h5 H => ?_) fun h5 H => ?_
 ·refine sxl hO h_p.u H.1 H.2.1 ?_
  refine au ?_
  have h6 := H.1
  have h7 := H.2.1
  refine scm H.2.2 (fun h8 H => ?_) fun h8 H => ?_
  ·refine au ?_
   refine Go1.ret1 Try.func55 rfl ⟨_, er, frs, H⟩
  refine scm H (fun h9 H => ?_) fun h9 H => ?_
  ·refine au ?_
   refine Go1.ret1 Try.func55 rfl ⟨_, er, frs, H⟩
  refine scm H (fun h10 H => ?_) fun h10 H => ?_
  ·refine au ?_
   obtain ⟨h11, H⟩ := H
   refine zo (J06 rfl rfl (wrap_i64 h11)) ?_
   refine sinc (natbd h5 h_p.bd) ?_
   refine au ?_
   exact hX1 _ H _ _ agr ⟨agr, hO, fr⟩
  refine sinc (natbd h5 h_p.bd) ?_
  refine au ?_
  exact hX1 _ H _ _ agr ⟨agr, hO, fr⟩
 refine au ?_
 refine Go1.ret1 Try.func55 rfl ⟨_, er, frs, H⟩
theorem body53 : Body Try.prog 53 := ⟨Try.f53, Try.func53, rfl, by kernel_rfl⟩
theorem J2b {A : List Nat} {w0 : World} {p_p : Option Addr} {c_p : Nat} {p_q : Option Addr} {c_q : Nat} {p : List Int} {q : List Int} (hA : ∀ b ∈ A, b < w0.heap.size) (h_p : ISl (Rp.int .i64) A w0 p_p c_p p) (h_q : ISl (Rp.int .i64) A w0 p_q c_q q) {K : Bool → Prop} (H : J0A p q K) :
    CallsV Try.prog 53 #[.slice p_p p.length c_p, .slice p_q q.length c_q] w0 (fun v w' => ∃ (r0 : Bool), v = .bool r0 ∧ Same w0 w' ∧ K r0) := by
 refine cal hA Try.func53 Try.ntmps53 fun hO hB => ?_
 unfold J0A at H
 refine sln0 ?_
 refine sln0 ?_
 refine scm ((H h_p.bd) h_q.bd) (fun h1 H => ?_) fun h1 H => ?_
 ·refine au ?_
  refine zcr (J05 body55 rfl (J0l hO.lt h_p.u H)) fun _ w3 => e1 fun r2 => sc0 hO fun s hO => fun H => ?_
  refine au ?_
  cases r2
  ·refine au ?_
   refine Go1.ret1 Try.func53 rfl ⟨_, er, frs, (iF H)⟩
  refine au ?_
  refine zcr (J05 body55 rfl (J0l hO.lt h_q.u (iT H))) fun _ w5 => e1 fun r4 => sc0 hO fun s hO => fun H => ?_
  refine au ?_
  refine Go1.ret1 Try.func53 rfl ⟨_, er, frs, H⟩
 refine au ?_
 refine Go1.ret1 Try.func53 rfl ⟨_, er, frs, H⟩
theorem body54 : Body Try.prog 54 := ⟨Try.f54, Try.func54, rfl, by kernel_rfl⟩
theorem J1x {A : List Nat} {w0 : World} {p_l : Option Addr} {c_l : Nat} {l : List (Int × Int)} (hA : ∀ b ∈ A, b < w0.heap.size) (h_l : ISl (rpP2 .i64) A w0 p_l c_l l) {K : List Int → Prop} (H : J08 l K) :
    CallsV Try.prog 54 #[.slice p_l l.length c_l] w0 (fun v w' => ∃ (r0 : List Int), ∃ (bw : Option Addr), ∃ (bx : Nat), v = .slice bw r0.length bx ∧ Same w0 w' ∧ ISl (Rp.int .i64) A w' bw bx r0 ∧ K r0) := by
 refine cal hA Try.func54 Try.ntmps54 fun hO hB => ?_
 unfold J08 at H
 refine sln0 ?_
 refine smk Fl.i (H h_l.bd) hO fun w1 p4 s hO => ?_
 refine au ?_
 have zz := omakeMap (fun a : Int × Int => Value.agg #[.int .i64 a.1, .int .i64 a.2]) (fun a : Int => Value.int .i64 a) hO
 obtain ⟨w6, B7, nS, hs9, ow⟩ := zz
 refine zg ow ?_
 refine nst nS fun s hO => ?_
 refine sln0 ?_
 refine au ?_
 refine lv [3, 4, 13, 14] hO (H h_l.bd).2.2 (fun E (k1_13, m1_14, p1_15) σ w => Lo A w0 σ w [(15, .int .i64 (k1_13 : Int))] [.any (mapE (fun a : Int × Int => Value.agg #[.int .i64 a.1, .int .i64 a.2]) (fun a : Int => Value.int .i64 a) B7 m1_14), t1 Fl.i 3 p4 l.length l.length p1_15]) ⟨agr, hO, fr⟩ ?_
 refine fun X1 => p2 fun k1_13 m1_14 p1_15 => fun H hX1 σ w12 hk => lh hk fun hO hB => ?_
 dsimp only at H
 revert hO; repeat (rename Owns .. => q; clear q)
 intro hO; repeat (rename Sq .. => q; clear q)
 refine scm H (fun h16 H => ?_) fun h16 H => ?_
 ·refine six h_l H.1 H.2.1 ?_
  have h17 := H.1
  have h18 := H.2.1
  replace H := H.2.2
  refine zs (ldFlat h_l.u h17 h18 Try.underlying73 rfl ti73 rfl) ?_
  refine sal hO fun w19 B20 s hO => ?_
  refine sba 0 hO fun w22 s hO => ?_
  refine sag 0 hO ?_
  by_cases h23 : mhas m1_14 ((ix l (k1_13 : Int))) = true
  ·refine zs (olookT (a := (ix l (k1_13 : Int))) (MK.arr2 Try.underlying73 Try.underlying3 ti3) 1 hO rfl Try.underlying84 rfl rfl h23) ?_
   refine six1 2 hO (ifp h23 H).1 (ifp h23 H).2.1 ?_
   refine sst (u := (mgt m1_14 ((ix l (k1_13 : Int))))) 2 hO (ifp h23 H).1 (ifp h23 H).2.1 fun w24 s hO => ?_
   refine sinc (natbd h16 h_l.bd) ?_
   refine au ?_
   refine sdr [0] hO fun s hO => ?_
   exact hX1 _ (ifp h23 H).2.2 _ _ agr ⟨agr, hO, fr⟩
  refine zs (olookF (a := (ix l (k1_13 : Int))) (MK.arr2 Try.underlying73 Try.underlying3 ti3) 1 hO rfl Try.underlying84 ti3 rfl rfl h23) ?_
  refine au ?_
  refine zs (omapLen 1 hO rfl Try.underlying84 rfl) ?_
  refine sag 0 hO ?_
  refine au ?_
  have zz := omapUpd (MK.arr2 Try.underlying73 Try.underlying3 ti3) 1 hO rfl Try.underlying84 (ix l (k1_13 : Int)) (m1_14.length : Int)
  obtain ⟨w25, uU, uV⟩ := zz
  refine zg (uV (by exact rfl) (by exact rfl) (by exact rfl)) ?_
  refine nst uU fun s hO => ?_
  refine six1 2 hO (ifn h23 H).1 (ifn h23 H).2.1 ?_
  refine sst (u := (m1_14.length : Int)) 2 hO (ifn h23 H).1 (ifn h23 H).2.1 fun w28 s hO => ?_
  refine sinc (natbd h16 h_l.bd) ?_
  refine au ?_
  refine sdr [0] hO fun s hO => ?_
  exact hX1 _ (ifn h23 H).2.2 _ _ agr ⟨agr, hO, fr⟩
 refine au ?_
 refine sfz 1 hO fun s hO lT xC => ?_
 refine Go1.ret1 Try.func54 rfl ⟨_, _, _, ?_, frs, lT.r, H⟩
 exact (congrArg (fun nn => Value.slice p4 nn l.length) xC)
theorem body29 : Body Try.prog 29 := ⟨Try.f29, Try.func29, rfl, by kernel_rfl⟩
theorem J2X {A : List Nat} {w0 : World} {p_p : Option Addr} {c_p : Nat} {p_q : Option Addr} {c_q : Nat} {p : List Int} {q : List Int} (hA : ∀ b ∈ A, b < w0.heap.size) (h_p : ISl (Rp.int .i64) A w0 p_p c_p p) (h_q : ISl (Rp.int .i64) A w0 p_q c_q q) {K : List Int → Prop} (H : J0T p q K) :
    CallsV Try.prog 29 #[.slice p_p p.length c_p, .slice p_q q.length c_q] w0 (fun v w' => ∃ (r0 : List Int), ∃ (bw : Option Addr), ∃ (bx : Nat), v = .slice bw r0.length bx ∧ Same w0 w' ∧ ISl (Rp.int .i64) A w' bw bx r0 ∧ K r0) := by
 refine CallsV.of (l := [.slice p_p p.length c_p, .slice p_q q.length c_q]) Try.func29 rfl Try.ntmps29 rfl ?_
 have hO := Owns.start hA
 have hB := Fr.refl (bl []) w0
 unfold J0T at H
 replace h_p := h_p.ch (Ch.start A w0)
 replace h_q := h_q.ch (Ch.start A w0)
 refine Go1.seq ?_
 refine Go1.region ?_
 refine GoR.op ((J04 rfl) _) rfl rfl ?_
 refine GoR.nil ?_
 refine Go1.seq ?_
 refine Go1.seq ?_
 refine Go1.region ?_
 refine GoR.op ((J00 rfl) _) rfl rfl ?_
 refine GoR.op ((J00 rfl) _) rfl rfl ?_
 refine GoR.call (J05 body53 rfl (J2b hO.lt h_p h_q H)) rfl rfl ?_
 rintro v5 w2 ⟨r1, rfl, hs3, H⟩
 have jS := Stp.same hO hs3
 replace hO := jS.own
 replace h_p := h_p.ch jS.ch
 replace h_q := h_q.ch jS.ch
 replace hB := hB.trans jS.fr
 cases r1
 ·replace H := ifn Bool.false_ne_true H
  refine GoR.op ((J61 rfl) _) rfl rfl ?_
  refine GoR.nil ?_
  refine Go1.condT rfl rfl ?_
  refine Go1.seq ?_
  refine Go1.region ?_
  refine GoR.op ((J04 rfl) _) rfl rfl ?_
  refine GoR.nil ?_
  refine Go1.ret1 Try.func29 rfl ?_
  exact ⟨([] : List Int), none, 0, rfl, hB.same, (ISl.null _ _ _), H⟩
 replace H := ifp rfl H
 refine GoR.op ((J61 rfl) _) rfl rfl ?_
 refine GoR.nil ?_
 refine Go1.condF rfl rfl ?_
 refine Go1.skip ?_
 refine Go1.seq ?_
 refine Go1.region ?_
 refine GoR.op ((J00 rfl) _) rfl rfl ?_
 refine GoR.op ((J27 Try.underlying26 rfl) _) rfl rfl ?_
 replace H := H h_p.bd
 obtain ⟨h14, H⟩ := H
 obtain ⟨h15, H⟩ := H
 have hobt := omake (n := (p.length : Int)) (r := rpP2 .i64) (d := ((0, 0) : Int × Int)) Try.underlying72 ti73 (fun _ _ => ⟨trivial, fun ii _ => J5X ii⟩) rfl hO h14 h15 (by decide)
 obtain ⟨w7, p8, vs9, kQ, xD, Ae, uW⟩ := hobt
 refine GoR.op (uW rfl rfl) rfl rfl ?_
 replace hO := kQ.own
 replace h_p := h_p.ch kQ.ch
 replace h_q := h_q.ch kQ.ch
 replace hB := hB.trans kQ.fr
 refine GoR.op ((J04 rfl) _) rfl rfl ?_
 refine GoR.nil ?_
 refine Go1.seq ?_
 refine Go1.seq ?_
 refine Go1.region ?_
 refine GoR.op ((J00 rfl) _) rfl rfl ?_
 refine GoR.op ((J27 Try.underlying26 rfl) _) rfl rfl ?_
 refine GoR.op ((J00 rfl) _) rfl rfl ?_
 refine GoR.nil ?_
 refine Go1.block ?_
 refine Go1.loopW (S := Nat × (List (Int × Int))) (fun s σ w => match s with | (k1_18, pairs1_19) => ∃ (mt : List Value), agrees σ [(0, .slice p_p p.length c_p), (1, .slice p_q q.length c_q), (5, .slice p8 p.length p.length), (15, .int .i64 (p.length : Int)), (16, .int .i64 (k1_18 : Int))] ∧ Owns w0.heap.size w [.row 73 2 p8 p.length p.length mt] A ∧ Els (rpP2 .i64) (bl [.row 73 2 p8 p.length p.length mt] ++ A) w mt pairs1_19 ∧ ISl (Rp.int .i64) (bl [.row 73 2 p8 p.length p.length mt] ++ A) w p_p c_p p ∧ ISl (Rp.int .i64) (bl [.row 73 2 p8 p.length p.length mt] ++ A) w p_q c_q q ∧ Fr (bl []) w0 (bl [.row 73 2 p8 p.length p.length mt]) w) H ⟨vs9, ⟨rfl, rfl, rfl, rfl, rfl, trivial⟩, hO, xD, h_p, h_q, hB⟩ ?_
 intro X1
 refine prE fun k1_18 => fun pairs1_19 => ?_
 intro H hX1 σ w17
 refine exE fun mt => andE fun hag => andE fun hO => andE fun lU => andE fun h_p => andE fun h_q => fun hB => ?_
 dsimp only at H
 refine Go1.keep [(0, .slice p_p p.length c_p), (1, .slice p_q q.length c_q), (5, .slice p8 p.length p.length), (15, .int .i64 (p.length : Int)), (16, .int .i64 (k1_18 : Int))] hag ?_
 refine Go1.seq ?_
 refine Go1.region ?_
 by_cases h22 : (k1_18 : Int) < (p.length : Int)
 ·replace H := ifp h22 H
  refine GoR.op ((fun w => opB (J0s rfl rfl w) (decide_eq_true h22)) _) rfl rfl ?_
  refine GoR.nil ?_
  refine Go1.seq ?_
  refine Go1.condT rfl rfl ?_
  refine Go1.skip ?_
  refine Go1.seq ?_
  refine Go1.block ?_
  refine Go1.seq ?_
  refine Go1.region ?_
  refine GoR.op ((J00 rfl) _) rfl rfl ?_
  refine GoR.op ((J04 rfl) _) rfl rfl ?_
  refine GoR.nil ?_
  refine Go1.drawS 1 [(0, .pure), (1, .pure), (2, .pure), (3, .pure), (4, .pure), (5, .stable), (6, .pure), (7, .pure), (8, .pure), (9, .stable), (10, .pure), (11, .pure), (12, .last)] mixed (by kernel_rfl) ?_
  intro w23 xE
  have mB := Stp.same hO xE
  replace lU := lU.ch mB.ch
  replace hO := mB.own
  replace h_p := h_p.ch mB.ch
  replace h_q := h_q.ch mB.ch
  replace hB := hB.trans mB.fr
  refine GoQ.pure rfl (J00 rfl) rfl rfl ?_
  refine GoQ.pure rfl (J00 rfl) rfl rfl ?_
  refine GoQ.pure rfl (J00 rfl) rfl rfl ?_
  refine GoQ.pure rfl (J00 rfl) rfl rfl ?_
  obtain ⟨h26, H⟩ := H
  obtain ⟨h27, H⟩ := H
  refine GoQ.pure rfl (J01 Try.underlying26 ti3 rfl rfl h26 h27 (h_p.some_ h26 h27)) rfl rfl ?_
  refine GoQ.stable rfl (ldInt h_p h26 h27 Try.underlying3 rfl rfl) rfl rfl ?_
  refine GoQ.pure rfl (J00 rfl) rfl rfl ?_
  refine GoQ.pure rfl (J00 rfl) rfl rfl ?_
  obtain ⟨h28, H⟩ := H
  obtain ⟨h29, H⟩ := H
  refine GoQ.pure rfl (J01 Try.underlying26 ti3 rfl rfl h28 h29 (h_q.some_ h28 h29)) rfl rfl ?_
  refine GoQ.stable rfl (ldInt h_q h28 h29 Try.underlying3 rfl rfl) rfl rfl ?_
  refine GoQ.pure rfl (J57 Try.underlying73 ti73 ti3 (vs := [(0, .int .i64 (ix p (k1_18 : Int))), (1, .int .i64 (ix q (k1_18 : Int)))]) (cs := #[.int .i64 (ix p (k1_18 : Int)), .int .i64 (ix q (k1_18 : Int))]) rfl (by kernel_rfl)) rfl rfl ?_
  obtain ⟨h30, H⟩ := H
  obtain ⟨h31, H⟩ := H
  refine GoQ.pure rfl (J01 Try.underlying72 ti73 rfl rfl h30 (ltn (lU.neq hO 0 rfl) h31) (lU.psome hO 0 rfl h30 h31)) rfl rfl ?_
  have hobt := ostFlat 0 hO rfl lU h30 h31 ((ix p (k1_18 : Int)), (ix q (k1_18 : Int))) trivial
  obtain ⟨w32, xF, l7, xG, oB⟩ := hobt
  refine GoQ.last rfl (oB ti73 (by exact rfl) (by exact rfl) rfl) rfl rfl ?_
  replace hO := l7.own
  replace h_p := h_p.ch l7.ch
  replace h_q := h_q.ch l7.ch
  replace hB := hB.trans l7.fr
  refine GoQ.nil ?_
  refine Go1.inBlock ?_
  refine Go1.region ?_
  refine GoR.op ((J06 rfl rfl (wrap_i64 (natbd h22 h_p.bd))) _) rfl rfl ?_
  refine GoR.op ((J00 rfl) _) rfl rfl ?_
  refine GoR.nil ?_
  exact hX1 _ H _ _ ⟨xF, ⟨rfl, rfl, rfl, rfl, rfl, trivial⟩, hO, xG, h_p, h_q, hB⟩
 replace H := ifn h22 H
 refine GoR.op ((fun w => opB (J0s rfl rfl w) (decide_eq_false h22)) _) rfl rfl ?_
 refine GoR.nil ?_
 refine Go1.seq ?_
 refine Go1.condF rfl rfl ?_
 refine Go1.exit rfl ?_
 refine Go1.seq ?_
 refine Go1.region ?_
 refine GoR.op ((J00 rfl) _) rfl rfl ?_
 have hobt := freeze 0 hO rfl lU
 obtain ⟨hO1, tu, qb, xH⟩ := hobt
 replace h_p := h_p.ch tu
 replace h_q := h_q.ch tu
 replace hB := hB.trans (Owns.J0W _ _ 0)
 replace hO := hO1; clear hO1
 refine GoR.call (J05 body54 (show ([.slice p8 p.length p.length] : List Value) = [.slice p8 pairs1_19.length p.length] from by rw [← xH]) (J1x hO.lt qb H)) rfl rfl ?_
 rintro v44 w41 ⟨r40, uX, uY, rfl, xI, u0, H⟩
 have fu := Stp.same hO xI
 replace hO := fu.own
 replace h_p := h_p.ch fu.ch
 replace h_q := h_q.ch fu.ch
 replace qb := qb.ch fu.ch
 replace hB := hB.trans fu.fr
 refine GoR.op ((J04 rfl) _) rfl rfl ?_
 refine GoR.nil ?_
 refine Go1.ret1 Try.func29 rfl ?_
 exact ⟨r40, uX, uY, rfl, hB.same, (u0.ch (Ch.weak _ _ _)), H⟩
theorem body56 : Body Try.prog 56 := ⟨Try.f56, Try.func56, rfl, by kernel_rfl⟩
theorem J2I {A : List Nat} {w0 : World} {p_p : Option Addr} {c_p : Nat} {p : List Int} (hA : ∀ b ∈ A, b < w0.heap.size) (h_p : ISl (Rp.int .i64) A w0 p_p c_p p) {K : Int → Prop} (H : J0F p K) :
    CallsV Try.prog 56 #[.slice p_p p.length c_p] w0 (fun v w' => ∃ (r0 : Int), v = .int .i64 r0 ∧ Same w0 w' ∧ K r0) := by
 refine cal hA Try.func56 Try.ntmps56 fun hO hB => ?_
 unfold J0F at H
 refine au ?_
 refine zcr (J05 body55 rfl (J0l hO.lt h_p.u H)) fun _ w2 => e1 fun r1 => sc0 hO fun s hO => fun H => ?_
 cases r1
 ·refine au ?_
  refine Go1.ret1 Try.func56 rfl ⟨_, er, frs, (iF H)⟩
 refine sln0 ?_
 refine au ?_
 refine lv [9, 10] hO ((iT H) h_p.bd) (fun E (count1_4, k1_5) σ w => Lo A w0 σ w [(3, .int .i64 count1_4), (11, .int .i64 (k1_5 : Int))] []) ⟨agr, hO, fr⟩ ?_
 refine fun X1 => p1 fun count1_4 k1_5 => fun H hX1 σ w3 hk => lh hk fun hO hB => ?_
 dsimp only at H
 revert hO; repeat (rename Owns .. => q; clear q)
 intro hO; repeat (rename Sq .. => q; clear q)
 refine scm H (fun h6 H => ?_) fun h6 H => ?_
 ·refine sxl hO h_p.u H.1 H.2.1 ?_
  refine au ?_
  have h7 := H.1
  have h8 := H.2.1
  replace H := H.2.2
  obtain ⟨h9, H⟩ := H
  refine zo (J06 rfl rfl (wrap_i64 h9)) ?_
  by_cases h10 : count1_4 < ((ix p (k1_5 : Int)) + (1 : Int))
  ·refine zo (J5T rfl rfl h10) ?_
   refine sinc (natbd h6 h_p.bd) ?_
   refine au ?_
   exact hX1 _ (ifp h10 H) _ _ agr ⟨agr, hO, fr⟩
  refine zo (J5R rfl rfl h10) ?_
  refine sinc (natbd h6 h_p.bd) ?_
  refine au ?_
  exact hX1 _ (ifn h10 H) _ _ agr ⟨agr, hO, fr⟩
 refine au ?_
 refine Go1.ret1 Try.func56 rfl ⟨_, er, frs, H⟩
theorem body30 : Body Try.prog 30 := ⟨Try.f30, Try.func30, rfl, by kernel_rfl⟩
theorem J2m {A : List Nat} {w0 : World} {p_p : Option Addr} {c_p : Nat} {p : List Int} (hA : ∀ b ∈ A, b < w0.heap.size) (h_p : ISl (Rp.int .i64) A w0 p_p c_p p) {K : List (List Int) → Prop} (H : J0q p K) :
    CallsV Try.prog 30 #[.slice p_p p.length c_p] w0 (fun v w' => ∃ (r0 : List (List Int)), ∃ (bw : Option Addr), ∃ (bx : Nat), v = .slice bw r0.length bx ∧ Same w0 w' ∧ ISl (Rp.sl (Rp.int .i64)) A w' bw bx r0 ∧ K r0) := by
 refine cal hA Try.func30 Try.ntmps30 fun hO hB => ?_
 unfold J0q at H
 refine au ?_
 refine zcr (J05 body55 rfl (J0l hO.lt h_p.u H)) fun _ w2 => e1 fun r1 => sc0 hO fun s hO => fun H => ?_
 cases r1
 ·refine au ?_
  refine Go1.ret1 Try.func30 rfl ⟨_, _, _, er, frs, (ISl.null _ _ _), (iF H)⟩
 refine au ?_
 refine zcr (J05 body56 rfl (J2I hO.lt h_p.u (iT H))) fun _ w4 => e1 fun r3 => sc0 hO fun s hO => fun H => ?_
 obtain ⟨h12, H⟩ := H
 obtain ⟨h13, H⟩ := H
 have zz := t2makeS (m := r3) (e' := 3) Fl.i Try.underlying22 ti26 hO h12 h13 (by decide)
 obtain ⟨w5, p6, nS, xJ, oC, hz15⟩ := zz
 refine zg (oC rfl rfl) ?_
 refine nst nS fun s hO => ?_
 refine sln0 ?_
 refine au ?_
 refine lv [3, 12, 13] hO (H h_p.bd) (fun E (k1_17, classes1_18) σ w => ∃ tv, Lo A w0 σ w [(14, .int .i64 (k1_17 : Int))] [t2 Fl.i 26 3 p6 r3.toNat r3.toNat tv classes1_18]) ⟨_, ⟨agr, hO, fr⟩⟩ ?_
 refine fun X1 => p1 fun k1_17 classes1_18 => fun H hX1 σ w16 hk => e1 fun tv => lh hk fun hO hB => ?_
 dsimp only at H
 revert hO; repeat (rename Owns .. => q; clear q)
 intro hO; repeat (rename Sq .. => q; clear q)
 refine scm H (fun h20 H => ?_) fun h20 H => ?_
 ·refine sxl hO h_p.u H.1 H.2.1 ?_
  refine au ?_
  have h21 := H.1
  have h22 := H.2.1
  replace H := H.2.2
  obtain ⟨h23, H⟩ := H
  obtain ⟨h24, H⟩ := H
  refine zo (J01 Try.underlying22 ti26 rfl rfl h23 (ltn (t2neq 0 hO rfl) h24) (t2some 0 hO rfl h23 h24)) ?_
  refine zs (t2head 0 hO rfl h23 h24 Try.underlying26 rfl rfl) ?_
  refine sbu Fl.i 3 [(k1_17 : Int)] hO fun w25 p26 s hO => ?_
  refine sfr 1 hO fun s hO => ?_
  have zz := t2take (hf := Fl.i) hO h23 h24
  obtain ⟨Af, u4, xK⟩ := zz
  refine nst u4 fun s hO => ?_
  have xL := elX hO (xK _)
  refine sfz 2 hO fun s hO nX qa => ?_
  obtain ⟨h35, H⟩ := H
  have zz := oapp Try.underlying26 ti3 rfl 0 hO rfl xL.u nX qa h35 (by decide)
  obtain ⟨w36, p37, c38, Ag, ot, tw, u5⟩ := zz
  dsimp only [sS, sZ] at tw
  refine zg (u5 (by exact rfl) (by exact rfl)) ?_
  refine nst ot fun s hO => ?_
  obtain ⟨h44, H⟩ := H
  obtain ⟨h45, H⟩ := H
  refine zo (J01 Try.underlying22 ti26 rfl rfl h44 (ltn (t2neqH 1 hO rfl) h45) (t2someH 1 hO rfl h44 h45)) ?_
  refine sfr 1 hO fun s hO => ?_
  refine sfr 1 hO fun s hO => ?_
  have zz := t2fix (hf := Fl.i) hO tw.u h44 h45 rfl
  obtain ⟨w46, jU, u6⟩ := zz
  refine zg (u6 Try.underlying26 rfl ti26 (by exact rfl) (by exact rfl)) ?_
  refine nst jU fun s hO => ?_
  refine sinc (natbd h20 h_p.bd) ?_
  refine au ?_
  exact hX1 _ H _ _ agr ⟨_, ⟨agr, hO, fr⟩⟩
 refine au ?_
 refine sfz2 0 hO fun s hO xM xN => ?_
 refine Go1.ret1 Try.func30 rfl ⟨_, _, _, ?_, frs, xM.r, H⟩
 exact (congrArg (fun nn => Value.slice p6 nn r3.toNat) xN)
theorem body9 : Body Try.prog 9 := ⟨Try.f9, Try.func9, rfl, by kernel_rfl⟩
theorem J0B {A : List Nat} {w0 : World} {bn : Option Addr} {bo : Nat} {a0 : List (List Int)} (hA : ∀ b ∈ A, b < w0.heap.size) (ai : ISl (Rp.sl (Rp.int .i64)) A w0 bn bo a0) {K : Green → Prop} (H : J0j a0 K) :
    CallsV Try.prog 9 #[.slice bn a0.length bo] w0 (fun v w' => ∃ (r0 : Green), ∃ (pN : Option Addr), ∃ (pO : Nat), ∃ (pP : Option Addr), ∃ (pQ : Nat), ∃ (pS : Option Addr), ∃ (pT : Nat), ∃ (pU : Option Addr), ∃ (pV : Nat), ∃ (mC : Option Addr), ∃ (mD : Nat), v = .agg #[.slice pN r0.R.length pO, .slice pP r0.L.length pQ, .slice pS r0.J.length pT, .slice pU r0.H.length pV, .slice mC r0.Below.length mD] ∧ Same w0 w' ∧ ISl (Rp.int .i64) A w' pN pO r0.R ∧ ISl (Rp.int .i64) A w' pP pQ r0.L ∧ ISl (Rp.int .i64) A w' pS pT r0.J ∧ ISl (Rp.int .i64) A w' pU pV r0.H ∧ ISl (Rp.sl (Rp.bool)) A w' mC mD r0.Below ∧ K r0) := by
 refine cal hA Try.func9 Try.ntmps9 fun hO hB => ?_
 unfold J0j at H
 refine sal hO fun w1 B2 s hO => ?_
 refine au ?_
 refine zcr (J05 body24 rfl (J18 hO.lt ai.u H)) fun _ w5 => e1 fun r4 => sc0 hO fun s hO => fun H => ?_
 refine scm H (fun h6 H => ?_) fun h6 H => ?_
 ·refine au ?_
  refine zcr (J05 body25 rfl (J2l hO.lt ai.u H)) fun _ w8 => e3 fun r7 Ah Ai => sc0 hO fun s hO => d1 fun tx H => ?_
  refine au ?_
  refine zcr (J05 body26 rfl (J2s hO.lt ai.u H)) fun _ w10 => e3 fun r9 Aj Ak => sc0 hO fun s hO => d1 fun tz H => ?_
  refine au ?_
  refine zcr (J05 body27 rfl (J2P hO.lt tx.u tz H)) fun _ w12 => e3 fun r11 sU sV => sc0 hO fun s hO => d1 fun ki H => ?_
  refine au ?_
  refine zcr (J05 body28 rfl (J1m hO.lt tx.u H)) fun _ w14 => e3 fun r13 nB nC => sc0 hO fun s hO => d1 fun kj H => ?_
  refine au ?_
  refine zcr (J05 body28 rfl (J1m hO.lt tz.u H)) fun _ w16 => e3 fun r15 nE nF => sc0 hO fun s hO => d1 fun kl H => ?_
  refine au ?_
  refine zcr (J05 body28 rfl (J1m hO.lt ki.u H)) fun _ w18 => e3 fun r17 nG nH => sc0 hO fun s hO => d1 fun km H => ?_
  refine zo (J3k Try.underlying29 ti29 (pl := [(0, 1), (1, 1), (2, 1), (3, 1), (4, 1)]) (vs := [(0, .slice nB r13.length nC), (1, .slice nE r15.length nF), (2, .slice nG r17.length nH)]) (cs := #[.slice nB r13.length nC, .slice nE r15.length nF, .slice nG r17.length nH, .slice none 0 0, .slice none 0 0]) (by kernel_rfl) rfl (by kernel_rfl)) ?_
  refine sal hO fun w19 B20 s hO => ?_
  refine sba 0 hO fun w22 s hO => ?_
  refine au ?_
  refine zcr (J05 body29 rfl (J2X hO.lt kj.u kl.u H)) fun _ w24 => e3 fun r23 sW sX => sc0 hO fun s hO => d1 fun kF H => ?_
  refine sbs 0 hO fun w25 s hO => ?_
  refine au ?_
  refine zcr (J05 body30 rfl (J2m hO.lt km.u H)) fun _ w27 => e3 fun r26 sY ta => sc0 hO fun s hO => d1 fun ji H => ?_
  refine sln0 ?_
  replace H := (H ji.bd)
  obtain ⟨h35, H⟩ := H
  obtain ⟨h36, H⟩ := H
  have zz := t2makeS (m := (r26.length : Int)) (e' := 4) Fl.bool Try.underlying27 ti42 hO h35 h36 (by decide)
  obtain ⟨w28, p29, kn, Am, mA, hz38⟩ := zz
  refine zg (mA rfl rfl) ?_
  refine nst kn fun s hO => ?_
  refine sbs 1 hO fun w39 s hO => ?_
  refine sln0 ?_
  refine au ?_
  refine lv [2, 5, 6, 7, 43, 44] hO H (fun E (k1_41, d_42) σ w => ∃ qc, (fun Z => Lo A w0 σ w [(45, .int .i64 (k1_41 : Int))] Z ∧ ISl (Rp.sl (Rp.int .u64)) (bl Z ++ A) w sU sV r11 ∧ ISl (Rp.int .i64) (bl Z ++ A) w nB nC r13 ∧ ISl (Rp.int .i64) (bl Z ++ A) w nE nF r15 ∧ ISl (Rp.int .i64) (bl Z ++ A) w nG nH r17 ∧ ISl (Rp.int .i64) (bl Z ++ A) w sW sX r23 ∧ ISl (Rp.sl (Rp.int .i64)) (bl Z ++ A) w sY ta r26) (E.set 0 (t2 Fl.bool 42 4 p29 r26.length r26.length qc d_42))) ⟨_, ⟨agr, hO, fr⟩, ki.u, kj.u, kl.u, km.u, kF.u, ji.u⟩ ?_
  refine fun X1 => p1 fun k1_41 d_42 => fun H hX1 σ w40 hk => e1 fun qc => d1 fun hL => d1 fun ki => d4 fun kj kl km kF ji => lh hk (fun hO hB => ?_) hL
  dsimp only [esets, sS, sZ] at hO hB ki kj kl km kF ji
  dsimp only at H
  revert hO; repeat (rename Owns .. => q; clear q)
  intro hO; repeat (rename Sq .. => q; clear q)
  refine scm H (fun h44 H => ?_) fun h44 H => ?_
  ·refine sxls hO ji H.1 H.2.1 fun p45 c46 nY => ?_
   refine au ?_
   refine drs 1 [q0, q1, q0, q0, q0, q2, q0, q3] hO fun w48 s hO => ?_
   refine sln0 ?_
   refine smk Fl.bool H.2.2 hO fun w49 p50 s hO => ?_
   have h52 := H.1
   have h53 := H.2.1
   replace H := H.2.2.2.2
   obtain ⟨h54, H⟩ := H
   obtain ⟨h55, H⟩ := H
   refine GoQ.pure rfl (J01 Try.underlying27 ti42 rfl rfl h54 (ltn (t2neq 1 hO rfl) h55) (t2some 1 hO rfl h54 h55)) rfl rfl ?_
   refine op1 0 hO fun oh s hO lQ => ?_
   refine sfr 1 hO fun s hO => ?_
   refine sfr 1 hO fun s hO => ?_
   have zz := t2put (hf := Fl.bool) hO lQ.u h54 h55
   obtain ⟨w58, u7, u9⟩ := zz
   refine GoQ.last rfl (u9 Try.underlying42 rfl ti42 (by exact rfl) (by exact rfl)) rfl rfl ?_
   refine nst u7 fun s hO => ?_
   refine sln0 ?_
   refine au ?_
   refine lv [2, 5, 6, 7, 8, 9, 43, 44, 45, 57, 58] hO H (fun E (k2_62, d_63) σ w => (fun Z => Lo A w0 σ w [(59, .int .i64 (k2_62 : Int))] Z ∧ ISl (Rp.sl (Rp.int .u64)) (bl Z ++ A) w sU sV r11 ∧ ISl (Rp.int .i64) (bl Z ++ A) w nB nC r13 ∧ ISl (Rp.int .i64) (bl Z ++ A) w nE nF r15 ∧ ISl (Rp.int .i64) (bl Z ++ A) w nG nH r17 ∧ ISl (Rp.int .i64) (bl Z ++ A) w sW sX r23 ∧ ISl (Rp.sl (Rp.int .i64)) (bl Z ++ A) w sY ta r26 ∧ ISl (Rp.int .i64) (bl Z ++ A) w p45 c46 (ix r26 (k1_41 : Int))) (E.set 0 (t2 Fl.bool 42 4 p29 r26.length r26.length (hup qc (k1_41 : Int).toNat (p50, r26.length)) d_63))) ⟨⟨agr, hO, fr⟩, ki.u, kj.u, kl.u, km.u, kF.u, ji.u, nY.u⟩ ?_
   refine fun X2 => p1 fun k2_62 d_63 => fun H hX2 σ w61 hk => d1 fun hL => d1 fun ki => d1 fun kj => d4 fun kl km kF ji nY => lh hk (fun hO hB => ?_) hL
   dsimp only [esets, sS, sZ] at hO hB ki kj kl km kF ji nY
   dsimp only at H
   revert hO; repeat (rename Owns .. => q; clear q)
   intro hO; repeat (rename Sq .. => q; clear q)
   refine scm H (fun h64 H => ?_) fun h64 H => ?_
   ·refine sxls hO ji H.1 H.2.1 fun p65 c66 pX => ?_
    refine au ?_
    refine drs 1 [q0, q1, q0, q0, q1, q0, q0, q0, q0, q1, q0, q1, q0, q0, q1, q2, q0, q3] hO fun w68 s hO => ?_
    refine au ?_
    have h69 := H.1
    have h70 := H.2.1
    replace H := H.2.2
    obtain ⟨h71, H⟩ := H
    obtain ⟨h72, H⟩ := H
    refine GoQ.pure rfl (J01 Try.underlying27 ti42 rfl rfl h71 (ltn (t2neq 0 hO rfl) h72) (t2some 0 hO rfl h71 h72)) rfl rfl ?_
    refine GoQ.stable rfl (t2head 0 hO rfl h71 h72 Try.underlying42 rfl rfl) rfl rfl ?_
    refine sxl hO pX.u H.1 H.2.1 ?_
    refine sxls hO ki.u H.2.2.1 H.2.2.2.1 fun p73 c74 xO => ?_
    refine sxl hO nY.u H.2.2.2.2.1 H.2.2.2.2.2.1 ?_
    have h78 := H.1
    have h79 := H.2.1
    have h80 := H.2.2.1
    have h81 := H.2.2.2.1
    have h82 := H.2.2.2.2.1
    have h83 := H.2.2.2.2.2.1
    refine zcq rfl (J05 body31 rfl (J0o hO.lt xO.u H.2.2.2.2.2.2)) fun _ w77 => e1 fun r76 => sq0 hO fun s hO => fun H => ?_
    obtain ⟨h84, H⟩ := H
    obtain ⟨h85, H⟩ := H
    refine GoQ.pure rfl (J01 Try.underlying42 ti4 rfl rfl h84 h85 (t2isome 0 hO rfl h71 h72 h84 h85)) rfl rfl ?_
    have zz := t2st (r := Rp.bool) (hf := Fl.bool) rfl 0 hO rfl h71 h72 h84 h85 (v := .bool r76) (u := r76) rfl rfl
    obtain ⟨w86, jj, va⟩ := zz
    refine GoQ.last rfl (va Try.underlying4 rfl ti4 (by exact rfl) (by exact rfl)) rfl rfl ?_
    refine nst jj fun s hO => ?_
    refine sinc (natbd h64 ji.bd) ?_
    refine au ?_
    exact hX2 _ H _ _ agr ⟨⟨agr, hO, fr⟩, ki.u, kj.u, kl.u, km.u, kF.u, ji.u, nY.u⟩
   refine sinc (natbd h44 ji.bd) ?_
   refine au ?_
   exact hX1 _ H _ _ agr ⟨_, ⟨agr, hO, fr⟩, ki.u, kj.u, kl.u, km.u, kF.u, ji.u⟩
  refine sag 1 hO ?_
  refine sba 2 hO fun w89 s hO => ?_
  refine au ?_
  refine sfz2 0 hO fun s hO xP xQ => ?_
  refine Go1.retC1 Try.func9 rfl rfl (rlb 1 hO) ⟨((⟨r13, r15, r17, r23, d_42⟩ : Green)), _, _, _, _, _, _, _, _, _, _, ?_, frs, kj.r, kl.r, km.r, kF.r, xP.r, H⟩
  exact (congrArg (fun l => Value.agg (List.toArray l)) (J1p rfl (J1p rfl (J1p rfl (J1p rfl (J1p (congrArg (fun nn => Value.slice p29 nn r26.length) xQ) rfl))))))
 refine au ?_
 refine zo (J3k Try.underlying29 ti29 (pl := [(0, 1), (1, 1), (2, 1), (3, 1), (4, 1)]) (vs := []) (cs := #[.slice none 0 0, .slice none 0 0, .slice none 0 0, .slice none 0 0, .slice none 0 0]) (by kernel_rfl) rfl (by kernel_rfl)) ?_
 refine sba 0 hO fun w92 s hO => ?_
 refine au ?_
 refine Go1.retC1 Try.func9 rfl rfl (rlb 0 hO) ⟨((⟨([] : List Int), ([] : List Int), ([] : List Int), ([] : List Int), ([] : List (List Bool))⟩ : Green)), _, _, _, _, _, _, _, _, _, _, er, frs, (ISl.null _ _ _), (ISl.null _ _ _), (ISl.null _ _ _), (ISl.null _ _ _), (ISl.null _ _ _), H⟩
theorem body35 : Body Try.prog 35 := ⟨Try.f35, Try.func35, rfl, by kernel_rfl⟩
theorem J1a {A : List Nat} {n0 : Nat} {w0 : World} {bK : Nat} {bD : Option Addr} {bC : Nat} {jN : List Value} {s_ : List Int} (hO : Owns n0 w0 [.row 3 1 bD bK bC jN] A) (bH : Els (Rp.int .i64) (bl [.row 3 1 bD bK bC jN] ++ A) w0 jN s_) {K : List Int → Prop} (H : J0d s_ K) :
    CallsV Try.prog 35 #[.slice bD bK bC] w0 (fun v w' => ∃ r0 : List Int, v = .slice bD r0.length bC ∧ Owns n0 w' [] A ∧ Fr (bl [.row 3 1 bD bK bC jN]) w0 (bl []) w' ∧ ISl (Rp.int .i64) (bl [] ++ A) w' bD bC r0 ∧ K r0) := by
 refine CallsV.of (l := [.slice bD bK bC]) Try.func35 rfl Try.ntmps35 rfl ?_
 have hB := Fr.refl (bl [.row 3 1 bD bK bC jN]) w0
 unfold J0d at H
 refine Go1.seq ?_
 refine Go1.region ?_
 refine GoR.op ((J04 rfl) _) rfl rfl ?_
 refine GoR.nil ?_
 refine Go1.seq ?_
 refine Go1.seq ?_
 refine Go1.region ?_
 refine GoR.op ((J00 rfl) _) rfl rfl ?_
 refine GoR.op ((J2v Try.underlying26 rfl (bH.neq hO 0 rfl)) _) rfl rfl ?_
 by_cases h1 : (s_.length : Int) < (2 : Int)
 ·replace H := ifp h1 H
  refine GoR.op ((fun w => opB (J0s rfl rfl w) (decide_eq_true h1)) _) rfl rfl ?_
  refine GoR.nil ?_
  refine Go1.condT rfl rfl ?_
  refine Go1.seq ?_
  refine Go1.region ?_
  refine GoR.op ((J00 rfl) _) rfl rfl ?_
  refine GoR.op ((J04 rfl) _) rfl rfl ?_
  refine GoR.nil ?_
  have hobt := freeze 0 hO rfl bH
  obtain ⟨hO1, hc4, hi2, hn3⟩ := hobt
  replace hB := hB.trans (Owns.J0W _ _ 0)
  replace hO := hO1; clear hO1
  refine Go1.ret1 Try.func35 rfl ?_
  exact ⟨s_, (congrArg (fun nn => Value.slice bD nn bC) hn3), hO, hB, hi2, H⟩
 replace H := ifn h1 H
 refine GoR.op ((fun w => opB (J0s rfl rfl w) (decide_eq_false h1)) _) rfl rfl ?_
 refine GoR.nil ?_
 refine Go1.condF rfl rfl ?_
 refine Go1.skip ?_
 refine Go1.seq ?_
 refine Go1.seq ?_
 refine Go1.region ?_
 refine GoR.op ((J04 rfl) _) rfl rfl ?_
 refine GoR.nil ?_
 refine Go1.block ?_
 refine Go1.loopW (S := Nat) (fun s σ w => agrees σ [(0, .slice bD bK bC), (3, .int .i64 (s : Int))] ∧ Owns n0 w [.row 3 1 bD bK bC jN] A ∧ Els (Rp.int .i64) (bl [.row 3 1 bD bK bC jN] ++ A) w jN s_ ∧ Fr (bl [.row 3 1 bD bK bC jN]) w0 (bl [.row 3 1 bD bK bC jN]) w) H ⟨⟨rfl, rfl, trivial⟩, hO, bH, hB⟩ ?_
 intro X1 k1_6
 intro H hX1 σ w5
 refine andE fun hag => andE fun hO => andE fun bH => fun hB => ?_
 refine Go1.keep [(0, .slice bD bK bC), (3, .int .i64 (k1_6 : Int))] hag ?_
 refine Go1.seq ?_
 refine Go1.seq ?_
 refine Go1.region ?_
 refine GoR.op ((J00 rfl) _) rfl rfl ?_
 refine GoR.op ((J00 rfl) _) rfl rfl ?_
 refine GoR.op ((J2v Try.underlying26 rfl (bH.neq hO 0 rfl)) _) rfl rfl ?_
 by_cases h7 : (k1_6 : Int) < (s_.length : Int)
 ·replace H := ifp h7 H
  refine GoR.op ((fun w => opB (J0s rfl rfl w) (decide_eq_true h7)) _) rfl rfl ?_
  refine GoR.nil ?_
  refine Go1.condT rfl rfl ?_
  refine Go1.skip ?_
  refine Go1.seq ?_
  refine Go1.block ?_
  refine Go1.seq ?_
  refine Go1.drawS 0 [(0, .pure), (1, .pure), (2, .pure), (3, .stable), (4, .pure), (5, .pure), (6, .pure), (7, .pure), (8, .stable), (9, .pure)] mixed (by kernel_rfl) ?_
  intro w8 hs9
  have kQ := Stp.same hO hs9
  replace bH := bH.ch kQ.ch
  replace hO := kQ.own
  replace hB := hB.trans kQ.fr
  refine GoQ.pure rfl (J00 rfl) rfl rfl ?_
  refine GoQ.pure rfl (J00 rfl) rfl rfl ?_
  obtain ⟨h11, H⟩ := H
  obtain ⟨h12, H⟩ := H
  refine GoQ.pure rfl (J01 Try.underlying26 ti3 rfl rfl h11 (ltn (bH.neq hO 0 rfl) h12) (bH.psome hO 0 rfl h11 h12)) rfl rfl ?_
  refine GoQ.stable rfl (oldInt 0 hO rfl bH h11 h12 Try.underlying3 rfl rfl) rfl rfl ?_
  refine GoQ.pure rfl (J00 rfl) rfl rfl ?_
  refine GoQ.pure rfl (J00 rfl) rfl rfl ?_
  obtain ⟨h13, H⟩ := H
  refine GoQ.pure rfl (J62 rfl rfl (wrap_i64 h13)) rfl rfl ?_
  obtain ⟨h14, H⟩ := H
  obtain ⟨h15, H⟩ := H
  refine GoQ.pure rfl (J01 Try.underlying26 ti3 rfl rfl h14 (ltn (bH.neq hO 0 rfl) h15) (bH.psome hO 0 rfl h14 h15)) rfl rfl ?_
  refine GoQ.stable rfl (oldInt 0 hO rfl bH h14 h15 Try.underlying3 rfl rfl) rfl rfl ?_
  by_cases h16 : (ix s_ (k1_6 : Int)) = (ix s_ ((k1_6 : Int) - (1 : Int)))
  ·replace H := ifp h16 H
   refine GoQ.pure rfl (fun w => opB (J15 rfl rfl w) (decide_eq_true h16)) rfl rfl ?_
   refine GoQ.nil ?_
   refine Go1.condT rfl rfl ?_
   refine Go1.seq ?_
   refine Go1.region ?_
   refine GoR.op ((J00 rfl) _) rfl rfl ?_
   refine GoR.op ((J00 rfl) _) rfl rfl ?_
   obtain ⟨h17, H⟩ := H
   obtain ⟨h18, H⟩ := H
   refine GoR.op ((J3w Try.underlying26 ti3 rfl rfl h17 (lenle (bH.neq hO 0 rfl) h18)) _) rfl rfl ?_
   refine GoR.op ((J04 rfl) _) rfl rfl ?_
   refine GoR.nil ?_
   refine Go1.seq ?_
   refine Go1.seq ?_
   refine Go1.region ?_
   refine GoR.op ((J04 rfl) _) rfl rfl ?_
   refine GoR.nil ?_
   refine Go1.block ?_
   refine Go1.loopW (S := Nat × Nat × List Int) (fun s σ w => match s with | (k2_20, k22_21, s2_22) => ∃ (m6 : List Value), agrees σ [(0, .slice bD bK bC), (3, .int .i64 (k2_20 : Int)), (4, .slice (tailp bD (k1_6 : Int).toNat bC) (bK - (k1_6 : Int).toNat) (bC - (k1_6 : Int).toNat)), (5, .int .i64 (k22_21 : Int))] ∧ Owns n0 w [.row 3 1 bD bK bC m6] A ∧ Els (Rp.int .i64) (bl [.row 3 1 bD bK bC m6] ++ A) w m6 s2_22 ∧ Fr (bl [.row 3 1 bD bK bC jN]) w0 (bl [.row 3 1 bD bK bC m6]) w) H ⟨jN, ⟨rfl, rfl, rfl, rfl, trivial⟩, hO, bH, hB⟩ ?_
   intro X2
   refine prE fun k2_20 => prE fun k22_21 => fun s2_22 => ?_
   intro H hX2 σ w19
   refine exE fun m6 => andE fun hag => andE fun hO => andE fun iq => fun hB => ?_
   dsimp only at H
   refine Go1.keep [(0, .slice bD bK bC), (3, .int .i64 (k2_20 : Int)), (4, .slice (tailp bD (k1_6 : Int).toNat bC) (bK - (k1_6 : Int).toNat) (bC - (k1_6 : Int).toNat)), (5, .int .i64 (k22_21 : Int))] hag ?_
   refine Go1.seq ?_
   refine Go1.seq ?_
   refine Go1.region ?_
   refine GoR.op ((J00 rfl) _) rfl rfl ?_
   refine GoR.op ((J00 rfl) _) rfl rfl ?_
   refine GoR.op ((J2v Try.underlying26 rfl (congrArg (fun nn => nn - (k1_6 : Int).toNat) (iq.neq hO 0 rfl))) _) rfl rfl ?_
   by_cases h25 : (k22_21 : Int) < ((s2_22.length - (k1_6 : Int).toNat : Nat) : Int)
   ·replace H := ifp h25 H
    refine GoR.op ((fun w => opB (J0s rfl rfl w) (decide_eq_true h25)) _) rfl rfl ?_
    refine GoR.nil ?_
    refine Go1.condT rfl rfl ?_
    refine Go1.skip ?_
    refine Go1.seq ?_
    refine Go1.block ?_
    refine Go1.seq ?_
    refine Go1.drawS 0 [(0, .pure), (1, .pure), (2, .pure), (3, .stable), (4, .pure), (5, .pure), (6, .pure), (7, .pure), (8, .stable), (9, .pure)] mixed (by kernel_rfl) ?_
    intro w26 xR
    have bP := Stp.same hO xR
    replace iq := iq.ch bP.ch
    replace hO := bP.own
    replace hB := hB.trans bP.fr
    refine GoQ.pure rfl (J00 rfl) rfl rfl ?_
    refine GoQ.pure rfl (J00 rfl) rfl rfl ?_
    obtain ⟨h29, H⟩ := H
    obtain ⟨h30, H⟩ := H
    refine GoQ.pure rfl (J01 Try.underlying26 ti3 rfl rfl h29 (tailLt (iq.neq hO 0 rfl) h17 h30) (J3L 0 hO rfl iq h17 h29 h30).2) rfl rfl ?_
    refine GoQ.stable rfl (tlInt 0 hO rfl iq h17 h29 h30 Try.underlying3 rfl rfl) rfl rfl ?_
    refine GoQ.pure rfl (J00 rfl) rfl rfl ?_
    refine GoQ.pure rfl (J00 rfl) rfl rfl ?_
    obtain ⟨h31, H⟩ := H
    refine GoQ.pure rfl (J62 rfl rfl (wrap_i64 h31)) rfl rfl ?_
    obtain ⟨h32, H⟩ := H
    obtain ⟨h33, H⟩ := H
    refine GoQ.pure rfl (J01 Try.underlying26 ti3 rfl rfl h32 (tailLt (iq.neq hO 0 rfl) h17 h33) (J3L 0 hO rfl iq h17 h32 h33).2) rfl rfl ?_
    refine GoQ.stable rfl (tlInt 0 hO rfl iq h17 h32 h33 Try.underlying3 rfl rfl) rfl rfl ?_
    by_cases h34 : (ix s2_22 ((k1_6 : Int) + (k22_21 : Int))) = (ix s2_22 ((k1_6 : Int) + ((k22_21 : Int) - (1 : Int))))
    ·replace H := ifp h34 H
     refine GoQ.pure rfl (fun w => opB (J3y rfl rfl w) (ndT h34)) rfl rfl ?_
     refine GoQ.nil ?_
     refine Go1.condF rfl rfl ?_
     refine Go1.skip ?_
     refine Go1.inBlock ?_
     refine Go1.region ?_
     refine GoR.op ((J00 rfl) _) rfl rfl ?_
     obtain ⟨h35, H⟩ := H
     refine GoR.op ((J06 rfl rfl (wrap_i64 h35)) _) rfl rfl ?_
     refine GoR.op ((J04 rfl) _) rfl rfl ?_
     refine GoR.nil ?_
     exact hX2 _ H _ _ ⟨m6, ⟨rfl, rfl, rfl, rfl, trivial⟩, hO, iq, hB⟩
    replace H := ifn h34 H
    refine GoQ.pure rfl (fun w => opB (J3y rfl rfl w) (ndF h34)) rfl rfl ?_
    refine GoQ.nil ?_
    refine Go1.condT rfl rfl ?_
    refine Go1.seq ?_
    refine Go1.region ?_
    refine GoR.op ((J00 rfl) _) rfl rfl ?_
    refine GoR.op ((J00 rfl) _) rfl rfl ?_
    refine GoR.op ((J00 rfl) _) rfl rfl ?_
    refine GoR.op ((J00 rfl) _) rfl rfl ?_
    obtain ⟨h36, H⟩ := H
    obtain ⟨h37, H⟩ := H
    refine GoR.op ((J01 Try.underlying26 ti3 rfl rfl h36 (tailLt (iq.neq hO 0 rfl) h17 h37) (J3L 0 hO rfl iq h17 h36 h37).2) _) rfl rfl ?_
    refine GoR.op ((tlInt 0 hO rfl iq h17 h36 h37 Try.underlying3 rfl rfl) _ (Same.refl _)) rfl rfl ?_
    obtain ⟨h38, H⟩ := H
    obtain ⟨h39, H⟩ := H
    refine GoR.op ((J01 Try.underlying26 ti3 rfl rfl h38 (ltn (iq.neq hO 0 rfl) h39) (iq.psome hO 0 rfl h38 h39)) _) rfl rfl ?_
    have hobt := ost (r := Rp.int .i64) rfl 0 hO rfl iq h38 h39 (v := .int .i64 (ix s2_22 ((k1_6 : Int) + (k22_21 : Int)))) (u := (ix s2_22 ((k1_6 : Int) + (k22_21 : Int)))) rfl rfl
    obtain ⟨w40, xS, tc, xT, vb⟩ := hobt
    refine GoR.op (vb Try.underlying3 rfl ti3 (by exact rfl) (by exact rfl)) rfl rfl ?_
    replace hO := tc.own
    replace hB := hB.trans tc.fr
    refine GoR.nil ?_
    refine Go1.cut [(0, .slice bD bK bC), (3, .int .i64 (k2_20 : Int)), (4, .slice (tailp bD (k1_6 : Int).toNat bC) (bK - (k1_6 : Int).toNat) (bC - (k1_6 : Int).toNat)), (5, .int .i64 (k22_21 : Int))] ⟨rfl, rfl, rfl, rfl, trivial⟩ ?_
    intro σ _
    refine Go1.region ?_
    refine GoR.op ((J00 rfl) _) rfl rfl ?_
    obtain ⟨h45, H⟩ := H
    refine GoR.op ((J06 rfl rfl (wrap_i64 h45)) _) rfl rfl ?_
    refine GoR.op ((J04 rfl) _) rfl rfl ?_
    refine GoR.nil ?_
    refine Go1.inBlock ?_
    refine Go1.region ?_
    refine GoR.op ((J00 rfl) _) rfl rfl ?_
    obtain ⟨h46, H⟩ := H
    refine GoR.op ((J06 rfl rfl (wrap_i64 h46)) _) rfl rfl ?_
    refine GoR.op ((J04 rfl) _) rfl rfl ?_
    refine GoR.nil ?_
    exact hX2 _ H _ _ ⟨xS, ⟨rfl, rfl, rfl, rfl, trivial⟩, hO, xT, hB⟩
   replace H := ifn h25 H
   refine GoR.op ((fun w => opB (J0s rfl rfl w) (decide_eq_false h25)) _) rfl rfl ?_
   refine GoR.nil ?_
   refine Go1.condF rfl rfl ?_
   refine Go1.exit rfl ?_
   refine Go1.seq ?_
   refine Go1.region ?_
   refine GoR.op ((J00 rfl) _) rfl rfl ?_
   refine GoR.op ((J00 rfl) _) rfl rfl ?_
   obtain ⟨h47, H⟩ := H
   obtain ⟨h48, H⟩ := H
   refine GoR.op ((J3w Try.underlying26 ti3 rfl rfl h47 (lenle (iq.neq hO 0 rfl) h48)) _) rfl rfl ?_
   have hobt := oclear (Fl.int .i64) rfl (d := (0 : Int)) Try.underlying26 ti3 rfl rfl (fun _ _ => rfl) 0 hO rfl iq h47 h48
   obtain ⟨w49, Ao, jV, qd, oD⟩ := hobt
   refine GoR.op (oD rfl) rfl rfl ?_
   replace hO := jV.own
   replace hB := hB.trans jV.fr
   refine GoR.nil ?_
   refine Go1.seq ?_
   refine Go1.region ?_
   refine GoR.op ((J00 rfl) _) rfl rfl ?_
   refine GoR.op ((J00 rfl) _) rfl rfl ?_
   obtain ⟨h54, H⟩ := H
   obtain ⟨h55, H⟩ := H
   have hal56 := AL.start 0 hO rfl qd ((k2_20 : Int)).toNat
   refine GoR.op ((J4k Try.underlying26 ti3 rfl rfl h54 (Els.lec 0 hO rfl qd h55)) _) rfl rfl ?_
   refine GoR.op ((J04 rfl) _) rfl rfl ?_
   refine GoR.nil ?_
   have hobt := freezeHead 0 hO rfl qd ((k2_20 : Int)).toNat
   obtain ⟨hO1, Ap, xU⟩ := hobt
   replace hB := hB.trans (Owns.J0W _ _ 0)
   replace hO := hO1; clear hO1
   refine Go1.ret1 Try.func35 rfl ?_
   exact ⟨(s2_22.take (k2_20 : Int).toNat ++ List.replicate (s2_22.length - (k2_20 : Int).toNat) ((0 : Int))).take ((k2_20 : Int)).toNat, (congrArg (fun nn => Value.slice bD nn bC) (takeLen h54 h55)), hO, hB, xU, H⟩
  replace H := ifn h16 H
  refine GoQ.pure rfl (fun w => opB (J15 rfl rfl w) (decide_eq_false h16)) rfl rfl ?_
  refine GoQ.nil ?_
  refine Go1.condF rfl rfl ?_
  refine Go1.skip ?_
  refine Go1.inBlock ?_
  refine Go1.region ?_
  refine GoR.op ((J00 rfl) _) rfl rfl ?_
  refine GoR.op ((J06 rfl rfl (wrap_i64 (natbd h7 bH.bd))) _) rfl rfl ?_
  refine GoR.op ((J04 rfl) _) rfl rfl ?_
  refine GoR.nil ?_
  exact hX1 _ H _ _ ⟨⟨rfl, rfl, trivial⟩, hO, bH, hB⟩
 replace H := ifn h7 H
 refine GoR.op ((fun w => opB (J0s rfl rfl w) (decide_eq_false h7)) _) rfl rfl ?_
 refine GoR.nil ?_
 refine Go1.condF rfl rfl ?_
 refine Go1.exit rfl ?_
 refine Go1.seq ?_
 refine Go1.region ?_
 refine GoR.op ((J00 rfl) _) rfl rfl ?_
 refine GoR.op ((J04 rfl) _) rfl rfl ?_
 refine GoR.nil ?_
 have hobt := freeze 0 hO rfl bH
 obtain ⟨hO1, Aq, xV, xW⟩ := hobt
 replace hB := hB.trans (Owns.J0W _ _ 0)
 replace hO := hO1; clear hO1
 refine Go1.ret1 Try.func35 rfl ?_
 exact ⟨s_, (congrArg (fun nn => Value.slice bD nn bC) xW), hO, hB, xV, H⟩
theorem body79 : Body Try.prog 79 := ⟨Try.f79, Try.func79, rfl, by kernel_rfl⟩
theorem J1Z {A : List Nat} {w0 : World} {x : Int} (hA : ∀ b ∈ A, b < w0.heap.size) {K : Bool → Prop} (H : J1c x K) :
    CallsV Try.prog 79 #[.int .i64 x] w0 (fun v w' => ∃ (r0 : Bool), v = .bool r0 ∧ Same w0 w' ∧ K r0) := by
 refine cal hA Try.func79 Try.ntmps79 fun hO hB => ?_
 unfold J1c at H
 refine scm H (fun h1 H => ?_) fun h1 H => ?_
 ·refine au ?_
  refine Go1.ret1 Try.func79 rfl ⟨_, er, frs, H⟩
 refine au ?_
 refine Go1.ret1 Try.func79 rfl ⟨_, er, frs, H⟩
theorem body59 : Body Try.prog 59 := ⟨Try.f59, Try.func59, rfl, by kernel_rfl⟩
theorem J3u {A : List Nat} {w0 : World} {x : Int} {y : Int} (hA : ∀ b ∈ A, b < w0.heap.size) {K : Bool → Prop} (H : J1u x y K) :
    CallsV Try.prog 59 #[.int .i64 x, .int .i64 y] w0 (fun v w' => ∃ (r0 : Bool), v = .bool r0 ∧ Same w0 w' ∧ K r0) := by
 refine cal hA Try.func59 Try.ntmps59 fun hO hB => ?_
 unfold J1u at H
 refine au ?_
 refine zcr (J05 body79 rfl (J1Z hO.lt H)) fun _ w2 => e1 fun r1 => sc0 hO fun s hO => fun H => ?_
 refine au ?_
 cases r1
 ·refine scm (iF H) (fun h3 H => ?_) fun h3 H => ?_
  ·refine au ?_
   refine Go1.ret1 Try.func59 rfl ⟨_, er, frs, H⟩
  refine au ?_
  refine Go1.ret1 Try.func59 rfl ⟨_, er, frs, H⟩
 refine au ?_
 refine zcr (J05 body79 rfl (J1Z hO.lt (iT H))) fun _ w5 => e1 fun r4 => sc0 hO fun s hO => fun H => ?_
 cases r4
 ·refine au ?_
  refine Go1.ret1 Try.func59 rfl ⟨_, er, frs, (iF H)⟩
 refine scm (iT H) (fun h6 H => ?_) fun h6 H => ?_
 ·refine au ?_
  refine Go1.ret1 Try.func59 rfl ⟨_, er, frs, H⟩
 refine au ?_
 refine Go1.ret1 Try.func59 rfl ⟨_, er, frs, H⟩
theorem body60 : Body Try.prog 60 := ⟨Try.f60, Try.func60, rfl, by kernel_rfl⟩
theorem J1v {A : List Nat} {w0 : World} {x : Int} (hA : ∀ b ∈ A, b < w0.heap.size) {K : Bool → Prop} (H : J0X x K) :
    CallsV Try.prog 60 #[.int .i64 x] w0 (fun v w' => ∃ (r0 : Bool), v = .bool r0 ∧ Same w0 w' ∧ K r0) := by
 refine cal hA Try.func60 Try.ntmps60 fun hO hB => ?_
 unfold J0X at H
 refine scm H (fun h1 H => ?_) fun h1 H => ?_
 ·refine au ?_
  refine Go1.ret1 Try.func60 rfl ⟨_, er, frs, H⟩
 refine au ?_
 refine Go1.ret1 Try.func60 rfl ⟨_, er, frs, H⟩
theorem body36 : Body Try.prog 36 := ⟨Try.f36, Try.func36, rfl, by kernel_rfl⟩
theorem J0z {A : List Nat} {w0 : World} {p_x : Option Addr} {c_x : Nat} {x : List Int} {target : Int} (hA : ∀ b ∈ A, b < w0.heap.size) (h_x : ISl (Rp.int .i64) A w0 p_x c_x x) {K : Int → Bool → Prop} (H : J07 x target K) :
    CallsV Try.prog 36 #[.slice p_x x.length c_x, .int .i64 target] w0 (fun v w' => ∃ (r0 : Int), ∃ (r1 : Bool), v = .tuple #[.int .i64 r0, .bool r1] ∧ Same w0 w' ∧ K r0 r1) := by
 refine cal hA Try.func36 Try.ntmps36 fun hO hB => ?_
 unfold J07 at H
 refine sln0 ?_
 refine au ?_
 refine lv [0, 1, 6] hO (H h_x.bd) (fun E (i1_2, j1_3) σ w => Lo A w0 σ w [(7, .int .i64 i1_2), (8, .int .i64 j1_3)] []) ⟨agr, hO, fr⟩ ?_
 refine fun X1 => p1 fun i1_2 j1_3 => fun H hX1 σ w1 hk => lh hk fun hO hB => ?_
 dsimp only at H
 refine scm H (fun h4 H => ?_) fun h4 H => ?_
 ·refine au ?_
  obtain ⟨h5, H⟩ := H
  refine zo (J06 rfl rfl (wrap_i64 h5)) ?_
  refine zo (J6j Try.underlying3 Try.underlying78 rfl rfl) ?_
  refine zo (J3U rfl rfl (by decide) rfl) ?_
  refine zo (J6j Try.underlying78 Try.underlying3 rfl rfl) ?_
  refine sxl hO h_x.u H.1 H.2.1 ?_
  refine au ?_
  have h8 := H.1
  have h9 := H.2.1
  refine zcr (J05 body59 rfl (J3u hO.lt H.2.2)) fun _ w7 => e1 fun r6 => sc0 hO fun s hO => fun H => ?_
  refine au ?_
  cases r6
  ·refine au ?_
   exact hX1 _ (iF H) _ _ agr ⟨agr, hO, fr⟩
  refine au ?_
  replace H := (iT H)
  obtain ⟨h10, H⟩ := H
  refine zo (J06 rfl rfl (wrap_i64 h10)) ?_
  refine au ?_
  exact hX1 _ H _ _ agr ⟨agr, hO, fr⟩
 refine scm H (fun h11 H => ?_) fun h11 H => ?_
 ·refine six h_x H.1 H.2.1 ?_
  refine sld hO h_x.u H.1 H.2.1 ?_
  refine au ?_
  have h12 := H.1
  have h13 := H.2.1
  refine scm H.2.2 (fun h14 H => ?_) fun h14 H => ?_
  ·refine au ?_
   refine Go1.ret2 Try.func36 rfl ⟨_, _, er, frs, H⟩
  refine six h_x H.1 H.2.1 ?_
  refine sld hO h_x.u H.1 H.2.1 ?_
  have h17 := H.1
  have h18 := H.2.1
  refine zcr (J05 body60 rfl (J1v hO.lt H.2.2)) fun _ w16 => e1 fun r15 => sc0 hO fun s hO => fun H => ?_
  refine au ?_
  cases r15
  ·refine au ?_
   refine Go1.ret2 Try.func36 rfl ⟨_, _, er, frs, (iF H)⟩
  refine au ?_
  refine zcr (J05 body60 rfl (J1v hO.lt (iT H))) fun _ w20 => e1 fun r19 => sc0 hO fun s hO => fun H => ?_
  refine au ?_
  refine Go1.ret2 Try.func36 rfl ⟨_, _, er, frs, H⟩
 refine au ?_
 refine Go1.ret2 Try.func36 rfl ⟨_, _, er, frs, H⟩
end Sg
