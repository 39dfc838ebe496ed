/- -/
import Derived.Test.YtlneebpmblkllaaVd
namespace Sg
open Go Go.RowKit Go.Proofs
set_option linter.unusedVariables false
set_option linter.unusedSimpArgs false
set_option maxRecDepth 100000
set_option maxHeartbeats 4000000
theorem body91 : Body Try.prog 91 := ⟨Try.f91, Try.func91, rfl, by kernel_rfl⟩
theorem J4Y {A : List Nat} {w0 : World} {p_t : Option Addr} {c_t : Nat} {t : List (List Int)} (hA : ∀ b ∈ A, b < w0.heap.size) (h_t : ISl (Rp.sl (Rp.int .i64)) A w0 p_t c_t t) {K : Int → Prop} (H : J2F t K) :
    CallsV Try.prog 91 #[.slice p_t t.length c_t] w0 (fun v w' => ∃ (r0 : Int), v = .int .i64 r0 ∧ Same w0 w' ∧ K r0) := by
 refine CallsV.of (l := [.slice p_t t.length c_t]) Try.func91 rfl Try.ntmps91 rfl ?_
 have hO := Owns.start hA
 have hB := Fr.refl (bl []) w0
 unfold J2F at H
 refine sln0 ?_
 refine scm (H h_t.bd) (fun h1 H => ?_) fun h1 H => ?_
 ·refine au ?_
  refine Go1.ret1 Try.func91 rfl ⟨_, ?_, frs, H⟩
  exact rfl
 refine sln0 ?_
 refine scm H (fun h2 H => ?_) fun h2 H => ?_
 ·refine au ?_
  refine Go1.ret1 Try.func91 rfl ⟨_, ?_, frs, H⟩
  exact rfl
 refine sln0 ?_
 refine au ?_
 refine lw H (fun k1_4 σ w => (fun Z => agrees σ [(0, .slice p_t t.length c_t), (13, .slice p_t t.length c_t), (14, .int .i64 (t.length : Int)), (15, .int .i64 (k1_4 : Int))] ∧ Owns w0.heap.size w Z A ∧ Fr (bl []) w0 (bl Z) w) []) ⟨agr, hO, fr⟩ ?_
 refine fun X1 => fun k1_4 => fun H hX1 σ w3 => d2 fun hag hO hB => ?_
 refine Go1.keep _ hag ?_
 refine scm H (fun h5 H => ?_) fun h5 H => ?_
 ·refine sxls hO h_t.u H.1 H.2.1 fun p6 c7 hi8 => ?_
  refine sln0 ?_
  refine sln0 ?_
  have h9 := H.1
  have h10 := H.2.1
  refine scm (H.2.2 hi8.bd) (fun h11 H => ?_) fun h11 H => ?_
  ·refine sln0 ?_
   refine au ?_
   refine lw H (fun iB σ w => (fun Z => agrees σ [(0, .slice p_t t.length c_t), (13, .slice p_t t.length c_t), (14, .int .i64 (t.length : Int)), (15, .int .i64 (k1_4 : Int)), (24, .slice p6 ((ix t (k1_4 : Int)).length) c7), (25, .int .i64 ((ix t (k1_4 : Int)).length : Int)), (26, .int .i64 (iB : Int))] ∧ Owns w0.heap.size w Z A ∧ ISl (Rp.int .i64) (bl Z ++ A) w p6 c7 (ix t (k1_4 : Int)) ∧ Fr (bl []) w0 (bl Z) w) []) ⟨agr, hO, hi8.u, fr⟩ ?_
   refine fun X2 => fun iB => fun H hX2 σ w12 => d3 fun hag hO hi8 hB => ?_
   refine Go1.keep _ hag ?_
   revert hO; repeat (rename Owns _ _ _ _ => q; clear q)
   intro hO; repeat (rename Sq _ _ _ _ _ _ => q; clear q)
   refine scm H (fun h14 H => ?_) fun h14 H => ?_
   ·refine sxl hO hi8 H.1 H.2.1 ?_
    refine au ?_
    have h15 := H.1
    have h16 := H.2.1
    refine scm H.2.2 (fun h17 H => ?_) fun h17 H => ?_
    ·refine au ?_
     refine Go1.ret1 Try.func91 rfl ⟨_, ?_, frs, H⟩
     exact rfl
    refine sln0 ?_
    refine scm H (fun h18 H => ?_) fun h18 H => ?_
    ·refine au ?_
     refine Go1.ret1 Try.func91 rfl ⟨_, ?_, frs, H⟩
     exact rfl
    refine sinc (natbd h14 hi8.bd) ?_
    refine au ?_
    exact hX2 _ H _ _ ⟨agr, hO, hi8, fr⟩
   refine sinc (natbd h5 h_t.bd) ?_
   refine au ?_
   exact hX1 _ H _ _ ⟨agr, hO, fr⟩
  refine au ?_
  refine Go1.ret1 Try.func91 rfl ⟨_, ?_, frs, H⟩
  exact rfl
 refine au ?_
 refine Go1.ret1 Try.func91 rfl ⟨_, ?_, frs, H⟩
 exact rfl
theorem body127 : Body Try.prog 127 := ⟨Try.f127, Try.func127, rfl, by kernel_rfl⟩
theorem body93 : Body Try.prog 93 := ⟨Try.f93, Try.func93, rfl, by kernel_rfl⟩
theorem J3X {A : List Nat} {w0 : World} {fq : Option Addr} {ft : Nat} {a0 : List (List Int)} (hA : ∀ b ∈ A, b < w0.heap.size) (eX : ISl (Rp.sl (Rp.int .i64)) A w0 fq ft a0) {K : List Int → Prop} (H : J1f a0 K) :
    CallsV Try.prog 93 #[.slice fq a0.length ft] w0 (fun v w' => ∃ (r0 : List Int) (p_r0 : Option Addr) (c_r0 : Nat), v = .slice p_r0 r0.length c_r0 ∧ Same w0 w' ∧ ISl (Rp.int .i64) A w' p_r0 c_r0 r0 ∧ K r0) := by
 refine CallsV.of (l := [.slice fq a0.length ft]) Try.func93 rfl Try.ntmps93 rfl ?_
 have hO := Owns.start hA
 have hB := Fr.refl (bl []) w0
 unfold J1f at H
 refine sal hO fun w1 B2 s hO => ?_
 refine sln0 ?_
 refine smk Fl.bool (H eX.bd) hO fun w4 p5 s hO => ?_
 refine sal hO fun w7 B8 s hO => ?_
 refine sbs 0 hO fun w10 s hO => ?_
 refine au ?_
 refine zo (J2P (vs := [.pointer (some ⟨B8, 0, none⟩), .pointer (some ⟨B2, 0, none⟩)]) rfl) ?_
 refine sln0 ?_
 refine au ?_
 refine snil Fl.i 3 hO fun s hO => ?_
 refine snil Fl.i 3 hO fun s hO => ?_
 refine lw (H eX.bd).2.2 (fun (k1_14, k1_15, d_16, kQ, rS) σ w => ∃ n19 p17 c18 n23 p21 c22, (fun Z => agrees σ [(0, .slice fq a0.length ft), (3, .slice p21 n23 c22), (4, .pointer (some ⟨B2, 0, none⟩)), (5, .pointer (some ⟨B8, 0, none⟩)), (6, .func (.func 127) #[] #[.pointer (some ⟨B8, 0, none⟩), .pointer (some ⟨B2, 0, none⟩)]), (7, .int .i64 (k1_14 : Int)), (17, .int .i64 (a0.length : Int)), (18, .int .i64 (k1_15 : Int))] ∧ Owns w0.heap.size w Z A ∧ Fr (bl []) w0 (bl Z) w) [t1 Fl.i 3 p17 n19 c18 d_16, t1 Fl.i 3 p21 n23 c22 kQ, .blk B8 (.cells #[.slice p5 a0.length a0.length] 22 (0, 0)), t1 Fl.bool 4 p5 a0.length a0.length rS, .blk B2 (.cells #[.slice p17 n19 c18] 31 (0, 0))]) ⟨_, _, _, _, _, _, agr, hO, fr⟩ ?_
 refine fun X1 => p1 fun k1_14 => p3 fun k1_15 d_16 kQ rS => fun H hX1 σ w13 => e4 fun n19 p17 c18 n23 => e2 fun p21 c22 => d2 fun hag hO hB => ?_
 dsimp only at H
 refine Go1.keep _ hag ?_
 revert hO; repeat (rename Owns _ _ _ _ => q; clear q)
 intro hO; repeat (rename Sq _ _ _ _ _ _ => q; clear q)
 refine scm H (fun h25 H => ?_) fun h25 H => ?_
 ·refine au ?_
  have h26 := H.1
  have h27 := H.2.1
  refine sxb1 3 hO H.1 H.2.1 H.2.2 (fun h28 H => ?_) fun h28 H => ?_
  ·refine sinc (natbd h25 eX.bd) ?_
   refine au ?_
   exact hX1 _ H _ _ ⟨_, _, _, _, _, _, agr, hO, fr⟩
  refine au ?_
  refine sap1 ((k1_15 : Int)) 1 hO H fun _ w29 p30 c31 s hO => ?_
  refine au ?_
  refine GoR.inl (vs := [.int .i64 (k1_15 : Int)]) (caps := [.pointer (some ⟨B8, 0, none⟩), .pointer (some ⟨B2, 0, none⟩)]) rfl rfl body127 Try.func127 rfl Try.ntmps127 rfl rfl rfl ?_
  intro RhR32 hR32
  refine sxl1 3 hO H.2.1 H.2.2.1 ?_
  rw [Bool.eq_false_iff.2 h28]
  refine six1 3 hO H.2.2.2.1 H.2.2.2.2.1 ?_
  refine sst (u := true) 3 hO H.2.2.2.1 H.2.2.2.2.1 fun w33 s hO => ?_
  refine au ?_
  refine sap1 ((k1_15 : Int)) 0 hO H.2.2.2.2.2 fun _ w34 p35 c36 s hO => ?_
  refine sbs 4 hO fun w37 s hO => ?_
  refine au ?_
  refine Go1.fin0V Try.func127 rfl ?_
  refine hR32 _ _ ?_
  refine au ?_
  refine lw H.2.2.2.2.2.2 (fun (b8, d_40, d_44) σ w => ∃ n43 p41 c42, (fun Z => agrees σ [(0, .slice fq a0.length ft), (3, .slice p30 (n23 + 1) c31), (4, .pointer (some ⟨B2, 0, none⟩)), (5, .pointer (some ⟨B8, 0, none⟩)), (6, .func (.func 127) #[] #[.pointer (some ⟨B8, 0, none⟩), .pointer (some ⟨B2, 0, none⟩)]), (7, .int .i64 (b8 : Int)), (17, .int .i64 (a0.length : Int)), (18, .int .i64 (k1_15 : Int))] ∧ Owns w0.heap.size w Z A ∧ Fr (bl []) w0 (bl Z) w) [t1 Fl.i 3 p41 n43 c42 d_40, t1 Fl.i 3 p30 (n23 + 1) c31 (kQ ++ ([(k1_15 : Int)])), .blk B8 (.cells #[.slice p5 a0.length a0.length] 22 (0, 0)), t1 Fl.bool 4 p5 a0.length a0.length d_44, .blk B2 (.cells #[.slice p41 n43 c42] 31 (0, 0))]) ⟨_, _, _, agr, hO, fr⟩ ?_
  refine fun X2 => p2 fun b8 d_40 d_44 => fun H hX2 σ w38 => e3 fun n43 p41 c42 => d2 fun hag hO hB => ?_
  dsimp only at H
  refine Go1.keep _ hag ?_
  revert hO; repeat (rename Owns _ _ _ _ => q; clear q)
  intro hO; repeat (rename Sq _ _ _ _ _ _ => q; clear q)
  refine sln1 0 hO ?_
  refine scm H (fun h45 H => ?_) fun h45 H => ?_
  ·refine sxl1 0 hO H.1 H.2.1 ?_
   refine sinc (natbd h45 (t1b 0 hO)) ?_
   refine op1 0 hO fun ES s hO jt => ?_
   have h48 := H.1
   have h49 := H.2.1
   replace H := H.2.2
   obtain ⟨h50, H⟩ := H
   obtain ⟨h51, H⟩ := H
   have hal52 := AL.start 0 hO rfl jt.u ((b8 + 1 : Int)).toNat
   refine zo (J75 Try.underlying31 ti3 rfl rfl h50 (Els.lec 0 hO rfl jt.u h51)) ?_
   refine zo (J0S Try.underlying31 rfl (takeLen h50 h51)) ?_
   refine au ?_
   refine lw H (fun (eh, d_55, d_61) σ w => ∃ n60 p58 c59 nM, (fun Z => agrees σ [(0, .slice fq a0.length ft), (3, .slice p30 (n23 + 1) c31), (4, .pointer (some ⟨B2, 0, none⟩)), (5, .pointer (some ⟨B8, 0, none⟩)), (6, .func (.func 127) #[] #[.pointer (some ⟨B8, 0, none⟩), .pointer (some ⟨B2, 0, none⟩)]), (7, .int .i64 (b8 : Int)), (9, .int .i64 (ix d_40 (b8 : Int))), (17, .int .i64 (a0.length : Int)), (18, .int .i64 (k1_15 : Int)), (45, .slice p41 (((b8 + 1 : Int)).toNat) c42), (46, .int .i64 ((d_40.take ((b8 + 1 : Int)).toNat).length : Int)), (47, .int .i64 (eh : Int))] ∧ Owns w0.heap.size w Z A ∧ Els (Rp.int .i64) (bl Z ++ A) w nM d_55 ∧ AL (Rp.int .i64) (bl Z ++ A) w p58 d_55 p41 c42 (d_40.take ((b8 + 1 : Int)).toNat) ∧ Fr (bl []) w0 (bl Z) w) [.row 3 1 p58 n60 c59 nM, t1 Fl.i 3 p30 (n23 + 1) c31 (kQ ++ ([(k1_15 : Int)])), .blk B8 (.cells #[.slice p5 a0.length a0.length] 22 (0, 0)), t1 Fl.bool 4 p5 a0.length a0.length d_61, .blk B2 (.cells #[.slice p58 n60 c59] 31 (0, 0))]) ⟨_, _, _, _, agr, hO, jt.u, hal52, fr⟩ ?_
   refine fun X3 => p2 fun eh d_55 d_61 => fun H hX3 σ w53 => e4 fun n60 p58 c59 nM => d4 fun hag hO jK hal52 hB => ?_
   dsimp only at H
   refine Go1.keep _ hag ?_
   revert hO; repeat (rename Owns _ _ _ _ => q; clear q)
   intro hO; repeat (rename Sq _ _ _ _ _ _ => q; clear q)
   refine scm H (fun h62 H => ?_) fun h62 H => ?_
   ·refine au ?_
    obtain ⟨h63, H⟩ := H
    obtain ⟨h64, H⟩ := H
    refine zo (J01 Try.underlying31 ti3 rfl rfl h63 (ltn (takeLen h50 h51) h64) (hal52.some_ h63 h64)) ?_
    refine zs (AL.int 0 hO rfl jK hal52 h63 h64 Try.underlying3 rfl rfl) ?_
    refine sxls hO eX.u H.1 H.2.1 fun p65 c66 yD => ?_
    refine sxl hO yD.u H.2.2.1 H.2.2.2.1 ?_
    refine GoR.inl (vs := [.int .i64 (ix (ix a0 (ix d_40 (b8 : Int))) (ix (d_40.take ((b8 + 1 : Int)).toNat) (eh : Int)))]) (caps := [.pointer (some ⟨B8, 0, none⟩), .pointer (some ⟨B2, 0, none⟩)]) rfl rfl body127 Try.func127 rfl Try.ntmps127 rfl rfl rfl ?_
    intro RhR68 hR68
    refine au ?_
    have h69 := H.2.2.2.2.1
    have h70 := H.2.2.2.2.2.1
    refine sxb1 3 hO H.2.2.2.2.1 H.2.2.2.2.2.1 H.2.2.2.2.2.2 (fun h71 H => ?_) fun h71 H => ?_
    ·refine au ?_
     refine Go1.fin0V Try.func127 rfl ?_
     refine hR68 _ _ ?_
     refine sxls hO eX.u H.1 H.2.1 fun p72 c73 lD => ?_
     refine sxl hO lD.u H.2.2.1 H.2.2.2.1 ?_
     refine GoR.inl (vs := [.int .i64 (ix (ix a0 (ix (d_40.take ((b8 + 1 : Int)).toNat) (eh : Int))) (ix d_40 (b8 : Int)))]) (caps := [.pointer (some ⟨B8, 0, none⟩), .pointer (some ⟨B2, 0, none⟩)]) rfl rfl body127 Try.func127 rfl Try.ntmps127 rfl rfl rfl ?_
     intro RhR75 hR75
     refine au ?_
     have h76 := H.2.2.2.2.1
     have h77 := H.2.2.2.2.2.1
     refine sxb1 3 hO H.2.2.2.2.1 H.2.2.2.2.2.1 H.2.2.2.2.2.2 (fun h78 H => ?_) fun h78 H => ?_
     ·refine au ?_
      refine Go1.fin0V Try.func127 rfl ?_
      refine hR75 _ _ ?_
      refine au ?_
      obtain ⟨h79, H⟩ := H
      refine zo (J0p rfl rfl (wrap_i64 h79)) ?_
      refine au ?_
      exact hX3 _ H _ _ ⟨_, _, _, _, agr, hO, jK, hal52, fr⟩
     refine six1 3 hO H.1 H.2.1 ?_
     refine sst (u := true) 3 hO H.1 H.2.1 fun w80 s hO => ?_
     refine sbu Fl.i 3 [(ix (ix a0 (ix (d_40.take ((b8 + 1 : Int)).toNat) (eh : Int))) (ix d_40 (b8 : Int)))] hO fun w81 p82 s hO => ?_
     refine sfz 0 hO fun s hO yE yF => ?_
     have h86 := H.1
     have h87 := H.2.1
     replace H := H.2.2
     obtain ⟨h88, H⟩ := H
     have zz := oapp2 Try.underlying31 ti3 rfl 0 hO rfl jK.u yE yF h88 (by decide)
     obtain ⟨w89, p90, c91, ET, oR, rT, hold96, vA⟩ := zz
     dsimp only [sS, sZ] at rT hold96
     refine zg (vA (by exact rfl) (by exact rfl)) ?_
     replace hal52 := hal52.u.app (us := [(ix (ix a0 (ix (d_40.take ((b8 + 1 : Int)).toNat) (eh : Int))) (ix d_40 (b8 : Int)))]) (nstc oR) hold96
     refine nst oR fun s hO => ?_
     refine sbs 4 hO fun w97 s hO => ?_
     refine au ?_
     refine Go1.fin0V Try.func127 rfl ?_
     refine hR75 _ _ ?_
     refine au ?_
     obtain ⟨h98, H⟩ := H
     refine zo (J0p rfl rfl (wrap_i64 h98)) ?_
     refine au ?_
     exact hX3 _ H _ _ ⟨_, _, _, _, agr, hO, rT.u, hal52.u, fr⟩
    refine six1 3 hO H.1 H.2.1 ?_
    refine sst (u := true) 3 hO H.1 H.2.1 fun w99 s hO => ?_
    refine sbu Fl.i 3 [(ix (ix a0 (ix d_40 (b8 : Int))) (ix (d_40.take ((b8 + 1 : Int)).toNat) (eh : Int)))] hO fun EU km s hO => ?_
    refine sfz 0 hO fun s hO vB vC => ?_
    have kn := H.1
    have jf := H.2.1
    replace H := H.2.2
    obtain ⟨gG, H⟩ := H
    have zz := oapp2 Try.underlying31 ti3 rfl 0 hO rfl jK.u vB vC gG (by decide)
    obtain ⟨EV, EW, EX, zS, lh, kS, hold115, rU⟩ := zz
    dsimp only [sS, sZ] at kS hold115
    refine zg (rU (by exact rfl) (by exact rfl)) ?_
    replace hal52 := hal52.u.app (us := [(ix (ix a0 (ix d_40 (b8 : Int))) (ix (d_40.take ((b8 + 1 : Int)).toNat) (eh : Int)))]) (nstc lh) hold115
    refine nst lh fun s hO => ?_
    refine sbs 4 hO fun EY s hO => ?_
    refine au ?_
    refine Go1.fin0V Try.func127 rfl ?_
    refine hR68 _ _ ?_
    refine sxls hO eX.u H.1 H.2.1 fun E0 E3 vD => ?_
    refine sxl hO vD.u H.2.2.1 H.2.2.2.1 ?_
    refine GoR.inl (vs := [.int .i64 (ix (ix a0 (ix (d_40.take ((b8 + 1 : Int)).toNat) (eh : Int))) (ix d_40 (b8 : Int)))]) (caps := [.pointer (some ⟨B8, 0, none⟩), .pointer (some ⟨B2, 0, none⟩)]) rfl rfl body127 Try.func127 rfl Try.ntmps127 rfl rfl rfl ?_
    intro RhR120 hR120
    refine au ?_
    have kC := H.2.2.2.2.1
    have E4 := H.2.2.2.2.2.1
    refine sxb1 3 hO H.2.2.2.2.1 H.2.2.2.2.2.1 H.2.2.2.2.2.2 (fun yG H => ?_) fun yG H => ?_
    ·refine au ?_
     refine Go1.fin0V Try.func127 rfl ?_
     refine hR120 _ _ ?_
     refine au ?_
     obtain ⟨yH, H⟩ := H
     refine zo (J0p rfl rfl (wrap_i64 yH)) ?_
     refine au ?_
     exact hX3 _ H _ _ ⟨_, _, _, _, agr, hO, kS.u, hal52.u, fr⟩
    refine six1 3 hO H.1 H.2.1 ?_
    refine sst (u := true) 3 hO H.1 H.2.1 fun wU s hO => ?_
    refine sbu Fl.i 3 [(ix (ix a0 (ix (d_40.take ((b8 + 1 : Int)).toNat) (eh : Int))) (ix d_40 (b8 : Int)))] hO fun x4 E5 s hO => ?_
    refine sfz 0 hO fun s hO vE vF => ?_
    have E6 := H.1
    have qg := H.2.1
    replace H := H.2.2
    obtain ⟨yI, H⟩ := H
    have zz := oapp2 Try.underlying31 ti3 rfl 0 hO rfl kS.u vE vF yI (by decide)
    obtain ⟨wW, E7, E8, zT, ii, i8, hold141, rV⟩ := zz
    dsimp only [sS, sZ] at i8 hold141
    refine zg (rV (by exact rfl) (by exact rfl)) ?_
    replace hal52 := hal52.u.app (us := [(ix (ix a0 (ix (d_40.take ((b8 + 1 : Int)).toNat) (eh : Int))) (ix d_40 (b8 : Int)))]) (nstc ii) hold141
    refine nst ii fun s hO => ?_
    refine sbs 4 hO fun xE s hO => ?_
    refine au ?_
    refine Go1.fin0V Try.func127 rfl ?_
    refine hR120 _ _ ?_
    refine au ?_
    obtain ⟨yJ, H⟩ := H
    refine zo (J0p rfl rfl (wrap_i64 yJ)) ?_
    refine au ?_
    exact hX3 _ H _ _ ⟨_, _, _, _, agr, hO, i8.u, hal52.u, fr⟩
   refine au ?_
   obtain ⟨yK, H⟩ := H
   refine zo (J0p rfl rfl (wrap_i64 yK)) ?_
   refine au ?_
   refine cl1 Fl.i 0 hO jK.u fun s hO => ?_
   exact hX2 _ H _ _ ⟨_, _, _, agr, hO, fr⟩
  refine sinc (natbd h25 eX.bd) ?_
  refine au ?_
  exact hX1 _ H _ _ ⟨_, _, _, _, _, _, agr, hO, fr⟩
 refine au ?_
 refine sfz 1 hO fun s hO vG vH => ?_
 refine Go1.ret1 Try.func93 rfl ⟨_, _, _, ?_, frs, vG.r, H⟩
 exact (congrArg (fun nn => Value.slice p21 nn c22) vH)
theorem body92 : Body Try.prog 92 := ⟨Try.f92, Try.func92, rfl, by kernel_rfl⟩
theorem J3w {A : List Nat} {w0 : World} {p_t dg : Option Addr} {c_t dh : Nat} {t : List (List Int)} {gens : List Int} (hA : ∀ b ∈ A, b < w0.heap.size) (h_t : ISl (Rp.sl (Rp.int .i64)) A w0 p_t c_t t) (dD : ISl (Rp.int .i64) A w0 dg dh gens) {K : Bool → Prop} (H : J0M t gens K) :
    CallsV Try.prog 92 #[.slice p_t t.length c_t, .slice dg gens.length dh] w0 (fun v w' => ∃ (r0 : Bool), v = .bool r0 ∧ Same w0 w' ∧ K r0) := by
 refine CallsV.of (l := [.slice p_t t.length c_t, .slice dg gens.length dh]) Try.func92 rfl Try.ntmps92 rfl ?_
 have hO := Owns.start hA
 have hB := Fr.refl (bl []) w0
 unfold J0M at H
 refine sln0 ?_
 refine smk Fl.bool (H h_t.bd) hO fun w1 p4 s hO => ?_
 refine sln0 ?_
 refine au ?_
 refine lw ((H h_t.bd).2.2 dD.bd) (fun (bc, tried1_8) σ w => (fun Z => agrees σ [(0, .slice p_t t.length c_t), (5, .slice p4 t.length t.length), (16, .slice dg gens.length dh), (17, .int .i64 (gens.length : Int)), (18, .int .i64 (bc : Int))] ∧ Owns w0.heap.size w Z A ∧ Fr (bl []) w0 (bl Z) w) [t1 Fl.bool 4 p4 t.length t.length tried1_8]) ⟨agr, hO, fr⟩ ?_
 refine fun X1 => p1 fun bc tried1_8 => fun H hX1 σ w6 => d2 fun hag hO hB => ?_
 dsimp only at H
 refine Go1.keep _ hag ?_
 revert hO; repeat (rename Owns _ _ _ _ => q; clear q)
 intro hO; repeat (rename Sq _ _ _ _ _ _ => q; clear q)
 refine scm H (fun h9 H => ?_) fun h9 H => ?_
 ·refine sxl hO dD.u H.1 H.2.1 ?_
  refine au ?_
  have h10 := H.1
  have h11 := H.2.1
  have h12 := H.2.2.1
  have h13 := H.2.2.2.1
  refine sxb1 0 hO H.2.2.1 H.2.2.2.1 H.2.2.2.2 (fun h14 H => ?_) fun h14 H => ?_
  ·refine sinc (natbd h9 dD.bd) ?_
   refine au ?_
   exact hX1 _ H _ _ ⟨agr, hO, fr⟩
  refine six1 0 hO H.1 H.2.1 ?_
  refine sst (u := true) 0 hO H.1 H.2.1 fun w15 s hO => ?_
  refine sln0 ?_
  refine au ?_
  have h18 := H.1
  have h19 := H.2.1
  refine lw H.2.2 (fun fT σ w => (fun Z => agrees σ [(0, .slice p_t t.length c_t), (5, .slice p4 t.length t.length), (7, .int .i64 (ix gens (bc : Int))), (16, .slice dg gens.length dh), (17, .int .i64 (gens.length : Int)), (18, .int .i64 (bc : Int)), (29, .slice p_t t.length c_t), (30, .int .i64 (t.length : Int)), (31, .int .i64 (fT : Int))] ∧ Owns w0.heap.size w Z A ∧ Fr (bl []) w0 (bl Z) w) [t1 Fl.bool 4 p4 t.length t.length (st tried1_8 (ix gens (bc : Int)) true)]) ⟨agr, hO, fr⟩ ?_
  refine fun X2 => fun fT => fun H hX2 σ w16 => d2 fun hag hO hB => ?_
  refine Go1.keep _ hag ?_
  revert hO; repeat (rename Owns _ _ _ _ => q; clear q)
  intro hO; repeat (rename Sq _ _ _ _ _ _ => q; clear q)
  refine scm H (fun h20 H => ?_) fun h20 H => ?_
  ·refine sxls hO h_t.u H.1 H.2.1 fun p21 c22 jL => ?_
   refine sxl hO jL.u H.2.2.1 H.2.2.2.1 ?_
   refine sxls hO h_t.u H.2.2.2.2.1 H.2.2.2.2.2.1 fun p24 c25 iJ => ?_
   refine sxls hO h_t.u H.2.2.2.2.2.2.1 H.2.2.2.2.2.2.2.1 fun p27 c28 iO => ?_
   refine sln0 ?_
   refine au ?_
   have h32 := H.1
   have h33 := H.2.1
   have h34 := H.2.2.1
   have h35 := H.2.2.2.1
   have h36 := H.2.2.2.2.1
   have h37 := H.2.2.2.2.2.1
   have h38 := H.2.2.2.2.2.2.1
   have h39 := H.2.2.2.2.2.2.2.1
   refine lw (H.2.2.2.2.2.2.2.2 iO.bd) (fun oS σ w => (fun Z => agrees σ [(0, .slice p_t t.length c_t), (5, .slice p4 t.length t.length), (7, .int .i64 (ix gens (bc : Int))), (9, .slice p21 ((ix t (fT : Int)).length) c22), (10, .slice p24 ((ix t (ix (ix t (fT : Int)) (ix gens (bc : Int)))).length) c25), (16, .slice dg gens.length dh), (17, .int .i64 (gens.length : Int)), (18, .int .i64 (bc : Int)), (29, .slice p_t t.length c_t), (30, .int .i64 (t.length : Int)), (31, .int .i64 (fT : Int)), (45, .slice p27 ((ix t (ix gens (bc : Int))).length) c28), (46, .int .i64 ((ix t (ix gens (bc : Int))).length : Int)), (47, .int .i64 (oS : Int))] ∧ Owns w0.heap.size w Z A ∧ ISl (Rp.int .i64) (bl Z ++ A) w p21 c22 (ix t (fT : Int)) ∧ ISl (Rp.int .i64) (bl Z ++ A) w p24 c25 (ix t (ix (ix t (fT : Int)) (ix gens (bc : Int)))) ∧ ISl (Rp.int .i64) (bl Z ++ A) w p27 c28 (ix t (ix gens (bc : Int))) ∧ Fr (bl []) w0 (bl Z) w) [t1 Fl.bool 4 p4 t.length t.length (st tried1_8 (ix gens (bc : Int)) true)]) ⟨agr, hO, jL.u, iJ.u, iO.u, fr⟩ ?_
   refine fun X3 => fun oS => fun H hX3 σ w30 => d1 fun hag => d4 fun hO jL iJ iO hB => ?_
   refine Go1.keep _ hag ?_
   revert hO; repeat (rename Owns _ _ _ _ => q; clear q)
   intro hO; repeat (rename Sq _ _ _ _ _ _ => q; clear q)
   refine scm H (fun h40 H => ?_) fun h40 H => ?_
   ·refine sxl hO iO H.1 H.2.1 ?_
    refine au ?_
    refine drw 0 [(0, .pure), (1, .pure), (2, .pure), (3, .stable), (4, .pure), (5, .pure), (6, .pure), (7, .stable), (8, .pure)] hO fun w41 s hO => ?_
    refine sxl hO iJ.u H.2.2.1 H.2.2.2.1 ?_
    refine sxl hO jL.u H.2.2.2.2.1 H.2.2.2.2.2.1 ?_
    have h42 := H.1
    have h43 := H.2.1
    have h44 := H.2.2.1
    have h45 := H.2.2.2.1
    have h46 := H.2.2.2.2.1
    have h47 := H.2.2.2.2.2.1
    refine scm H.2.2.2.2.2.2 (fun h48 H => ?_) fun h48 H => ?_
    ·refine sinc (natbd h40 iO.bd) ?_
     refine au ?_
     exact hX3 _ H _ _ ⟨agr, hO, jL.u, iJ.u, iO.u, fr⟩
    refine au ?_
    refine Go1.ret1 Try.func92 rfl ⟨_, ?_, frs, H⟩
    exact rfl
   refine sinc (natbd h20 h_t.bd) ?_
   refine au ?_
   exact hX2 _ H _ _ ⟨agr, hO, fr⟩
  refine sinc (natbd h9 dD.bd) ?_
  refine au ?_
  exact hX1 _ H _ _ ⟨agr, hO, fr⟩
 refine au ?_
 refine Go1.ret1 Try.func92 rfl ⟨_, ?_, frs, H⟩
 exact rfl
theorem body54 : Body Try.prog 54 := ⟨Try.f54, Try.func54, rfl, by kernel_rfl⟩
theorem J2n {A : List Nat} {w0 : World} {p_t : Option Addr} {c_t : Nat} {t : List (List Int)} (hA : ∀ b ∈ A, b < w0.heap.size) (h_t : ISl (Rp.sl (Rp.int .i64)) A w0 p_t c_t t) {K : Int → Prop} (H : J0P t K) :
    CallsV Try.prog 54 #[.slice p_t t.length c_t] w0 (fun v w' => ∃ (r0 : Int), v = .int .i64 r0 ∧ Same w0 w' ∧ K r0) := by
 refine CallsV.of (l := [.slice p_t t.length c_t]) Try.func54 rfl Try.ntmps54 rfl ?_
 have hO := Owns.start hA
 have hB := Fr.refl (bl []) w0
 unfold J0P at H
 refine au ?_
 refine zcr (J00 body91 rfl (J4Y hO.lt h_t.u H)) fun _ w2 => e1 fun r1 => sc0 hO fun s hO => fun H => ?_
 refine scm H (fun h3 H => ?_) fun h3 H => ?_
 ·refine au ?_
  refine zcr (J00 body93 rfl (J3X hO.lt h_t.u H)) fun _ w5 => e3 fun r4 E9 Fa => sc0 hO fun s hO => d1 fun yL H => ?_
  refine zcr (J00 body92 rfl (J3w hO.lt h_t.u yL H)) fun _ w7 => e1 fun r6 => sc0 hO fun s hO => fun H => ?_
  cases r6
  ·refine au ?_
   refine Go1.ret1 Try.func54 rfl ⟨_, ?_, frs, (iF H)⟩
   exact rfl
  refine au ?_
  refine Go1.ret1 Try.func54 rfl ⟨_, ?_, frs, (iT H)⟩
  exact rfl
 refine au ?_
 refine Go1.ret1 Try.func54 rfl ⟨_, ?_, frs, H⟩
 exact rfl
end Sg
