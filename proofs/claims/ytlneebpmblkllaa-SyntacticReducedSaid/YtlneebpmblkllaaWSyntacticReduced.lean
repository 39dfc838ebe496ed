/- -/
import Derived.Test.YtlneebpmblkllaaVd
import Derived.Test.YtlneebpmblkllaaWSyntacticAutomata
import Derived.Test.YtlneebpmblkllaaWSyntacticMonoids
import Derived.Test.YtlneebpmblkllaaWSyntacticMonoidsc
import Derived.Test.YtlneebpmblkllaaWSyntacticMonoidse
import Derived.Test.YtlneebpmblkllaaWSyntacticMonoidsf
namespace Sg
open Go Go.RowKit Go.Proofs
set_option linter.unusedVariables false
set_option linter.unusedSimpArgs false
set_option maxRecDepth 100000
set_option maxHeartbeats 4000000
theorem body46 : Body Try.prog 46 := ⟨Try.f46, Try.func46, rfl, by kernel_rfl⟩
theorem J3p {A : List Nat} {w0 : World} {aa : Option Addr} {ad : Nat} {af : Option Addr} {ag : Nat} {d : DFA} (hA : ∀ b ∈ A, b < w0.heap.size) (aO : ISl (Rp.bool) A w0 aa ad d.Final) (bQ : ISl (Rp.sl (Rp.int .i64)) A w0 af ag d.Next) {K : DFA → Prop} (H : J0R d K) :
    CallsV Try.prog 46 #[.agg #[.int .i64 d.Letters, .int .i64 d.Start, .slice aa d.Final.length ad, .slice af d.Next.length ag]] w0 (fun v w' => ∃ (r0 : DFA), ∃ (cj : Option Addr), ∃ (ck : Nat), ∃ (cz : Option Addr), ∃ (cA : Nat), v = .agg #[.int .i64 r0.Letters, .int .i64 r0.Start, .slice cj r0.Final.length ck, .slice cz r0.Next.length cA] ∧ Same w0 w' ∧ ISl (Rp.bool) A w' cj ck r0.Final ∧ ISl (Rp.sl (Rp.int .i64)) A w' cz cA r0.Next ∧ K r0) := by
 refine CallsV.of (l := [.agg #[.int .i64 d.Letters, .int .i64 d.Start, .slice aa d.Final.length ad, .slice af d.Next.length ag]]) Try.func46 rfl Try.ntmps46 rfl ?_
 have hO := Owns.start hA
 have hB := Fr.refl (bl []) w0
 unfold J0R at H
 refine au ?_
 refine sbx hO fun w1 B2 s hO => ?_
 refine sal hO fun w4 B5 s hO => ?_
 refine au ?_
 refine zs (J0g (vs := [.int .i64 d.Letters, .int .i64 d.Start, .slice aa d.Final.length ad, .slice af d.Next.length ag]) (i := 0) 1 hO rfl rfl Try.underlying25 rfl ti25 rfl) ?_
 refine zcr (J00 body61 rfl (J0s hO.lt aO.u bQ.u H)) fun _ w8 => e1 fun r7 => sc0 hO fun s hO => fun H => ?_
 refine scm H (fun h9 H => ?_) fun h9 H => ?_
 ·refine au ?_
  refine zo (J0c Try.underlying25 ti25 (pl := [(0, 1), (1, 1), (2, 1), (3, 1)]) (vs := [(0, .int .i64 d.Letters), (1, .int .i64 d.Start)]) (cs := #[.int .i64 d.Letters, .int .i64 d.Start, .slice none 0 0, .slice none 0 0]) (by kernel_rfl) rfl (by kernel_rfl)) ?_
  refine sal hO fun w10 B11 s hO => ?_
  refine sba 0 hO fun w13 s hO => ?_
  refine au ?_
  refine sln0 ?_
  refine au ?_
  refine snil Fl.bool 4 hO fun s hO => ?_
  have vB := Stp.nil (e := 31) (r := 1) hO
  refine nst vB fun s hO => ?_
  have yF := Els.nil (Rp.sl (Rp.int .i64)) (bl (.row 31 1 none 0 0 [] :: [t1 Fl.bool 4 none 0 0 (([] : List Bool)), .blk B11 (.cells #[.int .i64 d.Letters, .int .i64 d.Start, .slice none 0 0, .slice none 0 0] 25 (0, 0)), .blk B5 (.cells #[.int .i64 (0 : Int), .int .i64 (0 : Int), .slice none 0 0, .slice none 0 0] 25 (0, 0)), .blk B2 (.cells #[.int .i64 d.Letters, .int .i64 d.Start, .slice aa d.Final.length ad, .slice af d.Next.length ag] 25 (0, 0))]) ++ A) w13
  refine lw (H aO.bd) (fun (k1_19, fN, fC) σ w => ∃ n25 p23 c24 nB n29 p27 c28, (fun Z => agrees σ [(1, .pointer (some ⟨B2, 0, none⟩)), (2, .pointer (some ⟨B5, 0, none⟩)), (3, .pointer (some ⟨B11, 0, none⟩)), (16, .slice aa d.Final.length ad), (17, .int .i64 (d.Final.length : Int)), (18, .int .i64 (k1_19 : Int))] ∧ Owns w0.heap.size w Z A ∧ Els (Rp.sl (Rp.int .i64)) (bl Z ++ A) w nB fN ∧ Fr (bl []) w0 (bl Z) w) [.row 31 1 p23 n25 c24 nB, t1 Fl.bool 4 p27 n29 c28 fC, .blk B11 (.cells #[.int .i64 d.Letters, .int .i64 d.Start, .slice p27 n29 c28, .slice p23 n25 c24] 25 (0, 0)), .blk B5 (.cells #[.int .i64 (0 : Int), .int .i64 (0 : Int), .slice none 0 0, .slice none 0 0] 25 (0, 0)), .blk B2 (.cells #[.int .i64 d.Letters, .int .i64 d.Start, .slice aa d.Final.length ad, .slice af d.Next.length ag] 25 (0, 0))]) ⟨_, _, _, _, _, _, _, agr, hO, yF.u, fr⟩ ?_
  refine fun X1 => p2 fun k1_19 fN fC => fun H hX1 σ w18 => e4 fun n25 p23 c24 nB => e3 fun n29 p27 c28 => d3 fun hag hO nC hB => ?_
  dsimp only at H
  refine Go1.keep _ hag ?_
  revert hO; repeat (rename Owns _ _ _ _ => q; clear q)
  intro hO; repeat (rename Sq _ _ _ _ _ _ => q; clear q)
  refine au ?_
  refine scm H (fun h30 H => ?_) fun h30 H => ?_
  ·refine au ?_
   have h31 := H.1
   have h32 := H.2.1
   refine sxb hO aO.u H.1 H.2.1 H.2.2 (fun h33 H => ?_) fun h33 H => ?_
   ·refine au ?_
    refine sap1 false 1 hO H fun _ w34 p35 c36 s hO => ?_
    refine au ?_
    refine sbs 2 hO fun w37 s hO => ?_
    refine au ?_
    refine drw 4 [(0, .pure), (1, .stable), (2, .pure), (3, .stable), (4, .pure), (5, .pure), (6, .stable), (7, .loud), (8, .loud), (9, .last), (10, .pure), (11, .last)] hO fun w38 s hO => ?_
    refine au ?_
    refine sxls hO bQ.u H.2.1 H.2.2.1 fun p39 c40 mr => ?_
    have h45 := H.2.1
    have h46 := H.2.2.1
    refine zcq rfl (J00 body86 rfl (J07 hO.lt mr.u H.2.2.2)) fun _ w44 => e4 fun r42 oI ja jb => sq1 hO fun s hO => fun H => ?_
    refine sfz 0 hO fun s hO yG yH => ?_
    have zz := J1Y (r := Rp.sl (Rp.int .i64)) (n := 1) (parts := [(0, .slice ja oI jb)]) (vs := [.slice ja oI jb]) (xs := [r42]) rfl Try.underlying23 ti31 hO (by decide) (by kernel_rfl) (Els.cons rfl ⟨ja, jb, congrArg some (congrArg (fun nn => Value.slice ja nn jb) yH), yG.u⟩ (Els.nil _ _ _) (by simp [mx])) rfl
    obtain ⟨w50, p51, vC, yI, po, ku⟩ := zz
    refine GoQ.loud rfl (ku rfl) po rfl rfl ?_
    refine nst vC fun s hO => ?_
    refine sfzR 0 hO yI fun s hO yJ yK => ?_
    obtain ⟨h59, H⟩ := H
    have zz := oapp Try.underlying23 ti31 rfl 0 hO rfl nC.u yJ yK h59 (by decide)
    obtain ⟨w60, p61, c62, sd, kK, iI, vD⟩ := zz
    dsimp only [sS, sZ] at iI
    refine GoQ.last rfl (vD (by exact rfl) (by exact rfl)) rfl rfl ?_
    refine nst kK fun s hO => ?_
    refine au ?_
    refine sbs 2 hO fun w68 s hO => ?_
    refine au ?_
    refine sinc (natbd h30 aO.bd) ?_
    refine au ?_
    exact hX1 _ H _ _ ⟨_, _, _, _, _, _, _, agr, hO, iI.u, fr⟩
   refine au ?_
   refine sap1 true 1 hO H fun _ w69 p70 c71 s hO => ?_
   refine au ?_
   refine sbs 2 hO fun w72 s hO => ?_
   refine au ?_
   refine drw 4 [(0, .pure), (1, .stable), (2, .pure), (3, .stable), (4, .pure), (5, .pure), (6, .stable), (7, .loud), (8, .loud), (9, .last), (10, .pure), (11, .last)] hO fun w73 s hO => ?_
   refine au ?_
   refine sxls hO bQ.u H.2.1 H.2.2.1 fun p74 c75 yL => ?_
   have h80 := H.2.1
   have h81 := H.2.2.1
   refine zcq rfl (J00 body86 rfl (J07 hO.lt yL.u H.2.2.2)) fun _ w79 => e4 fun r77 oJ jc jd => sq1 hO fun s hO => fun H => ?_
   refine sfz 0 hO fun s hO mG mH => ?_
   have zz := J1Y (r := Rp.sl (Rp.int .i64)) (n := 1) (parts := [(0, .slice jc oJ jd)]) (vs := [.slice jc oJ jd]) (xs := [r77]) rfl Try.underlying23 ti31 hO (by decide) (by kernel_rfl) (Els.cons rfl ⟨jc, jd, congrArg some (congrArg (fun nn => Value.slice jc nn jd) mH), mG⟩ (Els.nil _ _ _) (by simp [mx])) rfl
   obtain ⟨w85, p86, vE, yM, yN, vF⟩ := zz
   refine GoQ.loud rfl (vF rfl) yN rfl rfl ?_
   refine nst vE fun s hO => ?_
   refine sfzR 0 hO yM fun s hO yO yP => ?_
   obtain ⟨h94, H⟩ := H
   have zz := oapp Try.underlying23 ti31 rfl 0 hO rfl nC.u yO yP h94 (by decide)
   obtain ⟨w95, p96, c97, E3, vG, fD, se⟩ := zz
   dsimp only [sS, sZ] at fD
   refine GoQ.last rfl (se (by exact rfl) (by exact rfl)) rfl rfl ?_
   refine nst vG fun s hO => ?_
   refine au ?_
   refine sbs 2 hO fun pt s hO => ?_
   refine au ?_
   refine sinc (natbd h30 aO.bd) ?_
   refine au ?_
   exact hX1 _ H _ _ ⟨_, _, _, _, _, _, _, agr, hO, fD.u, fr⟩
  refine au ?_
  refine zs (J0g (vs := [.int .i64 d.Letters, .int .i64 d.Start, .slice p27 n29 c28, .slice p23 n25 c24]) (i := 0) 2 hO rfl rfl Try.underlying25 rfl ti25 rfl) ?_
  refine sba 3 hO fun mb s hO => ?_
  refine au ?_
  refine sfz 1 hO fun s hO kF kG => ?_
  refine sfzR 0 hO nC.u fun s hO vH vI => ?_
  refine Go1.retC1 Try.func46 rfl rfl (J01 (vs := [.int .i64 d.Letters, .int .i64 d.Start, .slice p27 n29 c28, .slice p23 n25 c24]) 1 hO rfl rfl Try.underlying25 rfl ti25) ⟨((⟨d.Letters, d.Start, fC, fN⟩ : DFA)), _, _, _, _, ?_, frs, kF.r, vH.r, H⟩
  exact (congrArg (fun l => Value.agg (List.toArray l)) (J03 rfl (J03 rfl (J03 (congrArg (fun nn => Value.slice p27 nn c28) kG) (J03 (congrArg (fun nn => Value.slice p23 nn c24) vI) rfl)))))
 refine au ?_
 refine zo (J0c Try.underlying25 ti25 (pl := [(0, 1), (1, 1), (2, 1), (3, 1)]) (vs := []) (cs := #[.int .i64 (0 : Int), .int .i64 (0 : Int), .slice none 0 0, .slice none 0 0]) (by kernel_rfl) rfl (by kernel_rfl)) ?_
 refine sba 0 hO fun ww s hO => ?_
 refine au ?_
 refine Go1.retC1 Try.func46 rfl rfl (J01 (vs := [.int .i64 (0 : Int), .int .i64 (0 : Int), .slice none 0 0, .slice none 0 0]) 0 hO rfl rfl Try.underlying25 rfl ti25) ⟨((⟨(0 : Int), (0 : Int), ([] : List Bool), ([] : List (List Int))⟩ : DFA)), _, _, _, _, ?_, frs, (ISl.null _ _ _), (ISl.null _ _ _), H⟩
 exact rfl
theorem body91 : Body Try.prog 91 := ⟨Try.f91, Try.func91, rfl, by kernel_rfl⟩
theorem J4q {A : List Nat} {w0 : World} {p_t : Option Addr} {c_t : Nat} {t : List (List Int)} (hA : ∀ b ∈ A, b < w0.heap.size) (h_t : ISl (Rp.sl (Rp.int .i64)) A w0 p_t c_t t) {K : Int → Prop} (H : J2l t K) :
    CallsV Try.prog 91 #[.slice p_t t.length c_t] w0 (fun v w' => ∃ (r0 : Int), v = .int .i64 r0 ∧ Same w0 w' ∧ K r0) := by
 refine CallsV.of (l := [.slice p_t t.length c_t]) Try.func91 rfl Try.ntmps91 rfl ?_
 have hO := Owns.start hA
 have hB := Fr.refl (bl []) w0
 unfold J2l at H
 refine au ?_
 refine sln0 ?_
 refine scm (H h_t.bd) (fun h1 H => ?_) fun h1 H => ?_
 ·refine au ?_
  refine Go1.ret1 Try.func91 rfl ⟨_, ?_, frs, H⟩
  exact rfl
 refine au ?_
 refine sln0 ?_
 refine scm H (fun h2 H => ?_) fun h2 H => ?_
 ·refine au ?_
  refine Go1.ret1 Try.func91 rfl ⟨_, ?_, frs, H⟩
  exact rfl
 refine au ?_
 refine sln0 ?_
 refine au ?_
 refine lw H (fun k1_4 σ w => (fun Z => agrees σ [(0, .slice p_t t.length c_t), (13, .slice p_t t.length c_t), (14, .int .i64 (t.length : Int)), (15, .int .i64 (k1_4 : Int))] ∧ Owns w0.heap.size w Z A ∧ Fr (bl []) w0 (bl Z) w) []) ⟨agr, hO, fr⟩ ?_
 refine fun X1 => fun k1_4 => fun H hX1 σ w3 => d2 fun hag hO hB => ?_
 refine Go1.keep _ hag ?_
 refine au ?_
 refine scm H (fun h5 H => ?_) fun h5 H => ?_
 ·refine au ?_
  refine sxls hO h_t.u H.1 H.2.1 fun p6 c7 hi8 => ?_
  refine au ?_
  refine sln0 ?_
  refine au ?_
  refine sln0 ?_
  have h9 := H.1
  have h10 := H.2.1
  refine scm (H.2.2 hi8.bd) (fun h11 H => ?_) fun h11 H => ?_
  ·refine au ?_
   refine sln0 ?_
   refine au ?_
   refine lw H (fun ia σ w => (fun Z => agrees σ [(0, .slice p_t t.length c_t), (13, .slice p_t t.length c_t), (14, .int .i64 (t.length : Int)), (15, .int .i64 (k1_4 : Int)), (24, .slice p6 ((ix t (k1_4 : Int)).length) c7), (25, .int .i64 ((ix t (k1_4 : Int)).length : Int)), (26, .int .i64 (ia : Int))] ∧ Owns w0.heap.size w Z A ∧ ISl (Rp.int .i64) (bl Z ++ A) w p6 c7 (ix t (k1_4 : Int)) ∧ Fr (bl []) w0 (bl Z) w) []) ⟨agr, hO, hi8.u, fr⟩ ?_
   refine fun X2 => fun ia => fun H hX2 σ w12 => d3 fun hag hO hi8 hB => ?_
   refine Go1.keep _ hag ?_
   revert hO; repeat (rename Owns _ _ _ _ => q; clear q)
   intro hO; repeat (rename Sq _ _ _ _ _ _ => q; clear q)
   refine au ?_
   refine scm H (fun h14 H => ?_) fun h14 H => ?_
   ·refine au ?_
    refine sxl hO hi8 H.1 H.2.1 ?_
    refine au ?_
    have h15 := H.1
    have h16 := H.2.1
    refine scm H.2.2 (fun h17 H => ?_) fun h17 H => ?_
    ·refine au ?_
     refine Go1.ret1 Try.func91 rfl ⟨_, ?_, frs, H⟩
     exact rfl
    refine au ?_
    refine sln0 ?_
    refine scm H (fun h18 H => ?_) fun h18 H => ?_
    ·refine au ?_
     refine Go1.ret1 Try.func91 rfl ⟨_, ?_, frs, H⟩
     exact rfl
    refine au ?_
    refine sinc (natbd h14 hi8.bd) ?_
    refine au ?_
    exact hX2 _ H _ _ ⟨agr, hO, hi8, fr⟩
   refine au ?_
   refine sinc (natbd h5 h_t.bd) ?_
   refine au ?_
   exact hX1 _ H _ _ ⟨agr, hO, fr⟩
  refine au ?_
  refine Go1.ret1 Try.func91 rfl ⟨_, ?_, frs, H⟩
  exact rfl
 refine au ?_
 refine Go1.ret1 Try.func91 rfl ⟨_, ?_, frs, H⟩
 exact rfl
theorem body127 : Body Try.prog 127 := ⟨Try.f127, Try.func127, rfl, by kernel_rfl⟩
theorem body93 : Body Try.prog 93 := ⟨Try.f93, Try.func93, rfl, by kernel_rfl⟩
theorem J3y {A : List Nat} {w0 : World} {cS : Option Addr} {cU : Nat} {a0 : List (List Int)} (hA : ∀ b ∈ A, b < w0.heap.size) (cR : ISl (Rp.sl (Rp.int .i64)) A w0 cS cU a0) {K : List Int → Prop} (H : J1b a0 K) :
    CallsV Try.prog 93 #[.slice cS a0.length cU] w0 (fun v w' => ∃ (r0 : List Int), ∃ (cC : Option Addr), ∃ (cD : Nat), v = .slice cC r0.length cD ∧ Same w0 w' ∧ ISl (Rp.int .i64) A w' cC cD r0 ∧ K r0) := by
 refine CallsV.of (l := [.slice cS a0.length cU]) Try.func93 rfl Try.ntmps93 rfl ?_
 have hO := Owns.start hA
 have hB := Fr.refl (bl []) w0
 unfold J1b at H
 refine au ?_
 refine sal hO fun w1 B2 s hO => ?_
 refine au ?_
 refine sln0 ?_
 refine smk Fl.bool (H cR.bd) hO fun w4 p5 s hO => ?_
 refine sal hO fun w7 B8 s hO => ?_
 refine sbs 0 hO fun w10 s hO => ?_
 refine au ?_
 refine zo (J3q (vs := [.pointer (some ⟨B8, 0, none⟩), .pointer (some ⟨B2, 0, none⟩)]) rfl) ?_
 refine au ?_
 refine sln0 ?_
 refine au ?_
 refine snil Fl.i 3 hO fun s hO => ?_
 refine snil Fl.i 3 hO fun s hO => ?_
 refine lw (H cR.bd).2.2 (fun (k1_14, k1_15, d_16, fN, sf) σ w => ∃ n19 p17 c18 n23 p21 c22, (fun Z => agrees σ [(0, .slice cS a0.length cU), (3, .slice p21 n23 c22), (4, .pointer (some ⟨B2, 0, none⟩)), (5, .pointer (some ⟨B8, 0, none⟩)), (6, .func (.func 127) #[] #[.pointer (some ⟨B8, 0, none⟩), .pointer (some ⟨B2, 0, none⟩)]), (7, .int .i64 (k1_14 : Int)), (17, .int .i64 (a0.length : Int)), (18, .int .i64 (k1_15 : Int))] ∧ Owns w0.heap.size w Z A ∧ Fr (bl []) w0 (bl Z) w) [t1 Fl.i 3 p17 n19 c18 d_16, t1 Fl.i 3 p21 n23 c22 fN, .blk B8 (.cells #[.slice p5 a0.length a0.length] 22 (0, 0)), t1 Fl.bool 4 p5 a0.length a0.length sf, .blk B2 (.cells #[.slice p17 n19 c18] 31 (0, 0))]) ⟨_, _, _, _, _, _, agr, hO, fr⟩ ?_
 refine fun X1 => p1 fun k1_14 => p3 fun k1_15 d_16 fN sf => fun H hX1 σ w13 => e4 fun n19 p17 c18 n23 => e2 fun p21 c22 => d2 fun hag hO hB => ?_
 dsimp only at H
 refine Go1.keep _ hag ?_
 revert hO; repeat (rename Owns _ _ _ _ => q; clear q)
 intro hO; repeat (rename Sq _ _ _ _ _ _ => q; clear q)
 refine au ?_
 refine scm H (fun h25 H => ?_) fun h25 H => ?_
 ·refine au ?_
  have h26 := H.1
  have h27 := H.2.1
  refine sxb1 3 hO H.1 H.2.1 H.2.2 (fun h28 H => ?_) fun h28 H => ?_
  ·refine au ?_
   refine sinc (natbd h25 cR.bd) ?_
   refine au ?_
   exact hX1 _ H _ _ ⟨_, _, _, _, _, _, agr, hO, fr⟩
  refine au ?_
  refine sap1 ((k1_15 : Int)) 1 hO H fun _ w29 p30 c31 s hO => ?_
  refine au ?_
  refine GoR.inl (vs := [.int .i64 (k1_15 : Int)]) (caps := [.pointer (some ⟨B8, 0, none⟩), .pointer (some ⟨B2, 0, none⟩)]) rfl rfl body127 Try.func127 rfl Try.ntmps127 rfl rfl rfl ?_
  intro RhR32 hR32
  refine au ?_
  refine sxl1 3 hO H.2.1 H.2.2.1 ?_
  rw [Bool.eq_false_iff.2 h28]
  refine au ?_
  refine six1 3 hO H.2.2.2.1 H.2.2.2.2.1 ?_
  refine sst (u := true) 3 hO H.2.2.2.1 H.2.2.2.2.1 fun w33 s hO => ?_
  refine au ?_
  refine sap1 ((k1_15 : Int)) 0 hO H.2.2.2.2.2 fun _ w34 p35 c36 s hO => ?_
  refine sbs 4 hO fun w37 s hO => ?_
  refine au ?_
  refine Go1.fin0V Try.func127 rfl ?_
  refine hR32 _ _ ?_
  refine au ?_
  refine lw H.2.2.2.2.2.2 (fun (cB, d_40, d_44) σ w => ∃ n43 p41 c42, (fun Z => agrees σ [(0, .slice cS a0.length cU), (3, .slice p30 (n23 + 1) c31), (4, .pointer (some ⟨B2, 0, none⟩)), (5, .pointer (some ⟨B8, 0, none⟩)), (6, .func (.func 127) #[] #[.pointer (some ⟨B8, 0, none⟩), .pointer (some ⟨B2, 0, none⟩)]), (7, .int .i64 (cB : Int)), (17, .int .i64 (a0.length : Int)), (18, .int .i64 (k1_15 : Int))] ∧ Owns w0.heap.size w Z A ∧ Fr (bl []) w0 (bl Z) w) [t1 Fl.i 3 p41 n43 c42 d_40, t1 Fl.i 3 p30 (n23 + 1) c31 (fN ++ ([(k1_15 : Int)])), .blk B8 (.cells #[.slice p5 a0.length a0.length] 22 (0, 0)), t1 Fl.bool 4 p5 a0.length a0.length d_44, .blk B2 (.cells #[.slice p41 n43 c42] 31 (0, 0))]) ⟨_, _, _, agr, hO, fr⟩ ?_
  refine fun X2 => p2 fun cB d_40 d_44 => fun H hX2 σ w38 => e3 fun n43 p41 c42 => d2 fun hag hO hB => ?_
  dsimp only at H
  refine Go1.keep _ hag ?_
  revert hO; repeat (rename Owns _ _ _ _ => q; clear q)
  intro hO; repeat (rename Sq _ _ _ _ _ _ => q; clear q)
  refine au ?_
  refine sln1 0 hO ?_
  refine scm H (fun h45 H => ?_) fun h45 H => ?_
  ·refine au ?_
   refine sxl1 0 hO H.1 H.2.1 ?_
   refine au ?_
   refine sinc (natbd h45 (t1b 0 hO)) ?_
   refine op1 0 hO fun E4 s hO jq => ?_
   have h48 := H.1
   have h49 := H.2.1
   replace H := H.2.2
   obtain ⟨h50, H⟩ := H
   obtain ⟨h51, H⟩ := H
   have hal52 := AL.start 0 hO rfl jq.u ((cB + 1 : Int)).toNat
   refine zo (J6p Try.underlying31 ti3 rfl rfl h50 (Els.lec 0 hO rfl jq.u h51)) ?_
   refine zo (J0O Try.underlying31 rfl (takeLen h50 h51)) ?_
   refine au ?_
   refine lw H (fun (d5, d_55, d_61) σ w => ∃ n60 p58 c59 nE, (fun Z => agrees σ [(0, .slice cS a0.length cU), (3, .slice p30 (n23 + 1) c31), (4, .pointer (some ⟨B2, 0, none⟩)), (5, .pointer (some ⟨B8, 0, none⟩)), (6, .func (.func 127) #[] #[.pointer (some ⟨B8, 0, none⟩), .pointer (some ⟨B2, 0, none⟩)]), (7, .int .i64 (cB : Int)), (9, .int .i64 (ix d_40 (cB : Int))), (17, .int .i64 (a0.length : Int)), (18, .int .i64 (k1_15 : Int)), (45, .slice p41 (((cB + 1 : Int)).toNat) c42), (46, .int .i64 ((d_40.take ((cB + 1 : Int)).toNat).length : Int)), (47, .int .i64 (d5 : Int))] ∧ Owns w0.heap.size w Z A ∧ Els (Rp.int .i64) (bl Z ++ A) w nE d_55 ∧ AL (Rp.int .i64) (bl Z ++ A) w p58 d_55 p41 c42 (d_40.take ((cB + 1 : Int)).toNat) ∧ Fr (bl []) w0 (bl Z) w) [.row 3 1 p58 n60 c59 nE, t1 Fl.i 3 p30 (n23 + 1) c31 (fN ++ ([(k1_15 : Int)])), .blk B8 (.cells #[.slice p5 a0.length a0.length] 22 (0, 0)), t1 Fl.bool 4 p5 a0.length a0.length d_61, .blk B2 (.cells #[.slice p58 n60 c59] 31 (0, 0))]) ⟨_, _, _, _, agr, hO, jq.u, hal52, fr⟩ ?_
   refine fun X3 => p2 fun d5 d_55 d_61 => fun H hX3 σ w53 => e4 fun n60 p58 c59 nE => d4 fun hag hO j9 hal52 hB => ?_
   dsimp only at H
   refine Go1.keep _ hag ?_
   revert hO; repeat (rename Owns _ _ _ _ => q; clear q)
   intro hO; repeat (rename Sq _ _ _ _ _ _ => q; clear q)
   refine au ?_
   refine scm H (fun h62 H => ?_) fun h62 H => ?_
   ·refine au ?_
    obtain ⟨h63, H⟩ := H
    obtain ⟨h64, H⟩ := H
    refine zo (J02 Try.underlying31 ti3 rfl rfl h63 (ltn (takeLen h50 h51) h64) (hal52.some_ h63 h64)) ?_
    refine zs (AL.int 0 hO rfl j9 hal52 h63 h64 Try.underlying3 rfl rfl) ?_
    refine au ?_
    refine sxls hO cR.u H.1 H.2.1 fun p65 c66 yQ => ?_
    refine au ?_
    refine sxl hO yQ.u H.2.2.1 H.2.2.2.1 ?_
    refine GoR.inl (vs := [.int .i64 (ix (ix a0 (ix d_40 (cB : Int))) (ix (d_40.take ((cB + 1 : Int)).toNat) (d5 : Int)))]) (caps := [.pointer (some ⟨B8, 0, none⟩), .pointer (some ⟨B2, 0, none⟩)]) rfl rfl body127 Try.func127 rfl Try.ntmps127 rfl rfl rfl ?_
    intro RhR68 hR68
    refine au ?_
    have h69 := H.2.2.2.2.1
    have h70 := H.2.2.2.2.2.1
    refine sxb1 3 hO H.2.2.2.2.1 H.2.2.2.2.2.1 H.2.2.2.2.2.2 (fun h71 H => ?_) fun h71 H => ?_
    ·refine au ?_
     refine Go1.fin0V Try.func127 rfl ?_
     refine hR68 _ _ ?_
     refine au ?_
     refine sxls hO cR.u H.1 H.2.1 fun p72 c73 lT => ?_
     refine au ?_
     refine sxl hO lT.u H.2.2.1 H.2.2.2.1 ?_
     refine GoR.inl (vs := [.int .i64 (ix (ix a0 (ix (d_40.take ((cB + 1 : Int)).toNat) (d5 : Int))) (ix d_40 (cB : Int)))]) (caps := [.pointer (some ⟨B8, 0, none⟩), .pointer (some ⟨B2, 0, none⟩)]) rfl rfl body127 Try.func127 rfl Try.ntmps127 rfl rfl rfl ?_
     intro RhR75 hR75
     refine au ?_
     have h76 := H.2.2.2.2.1
     have h77 := H.2.2.2.2.2.1
     refine sxb1 3 hO H.2.2.2.2.1 H.2.2.2.2.2.1 H.2.2.2.2.2.2 (fun h78 H => ?_) fun h78 H => ?_
     ·refine au ?_
      refine Go1.fin0V Try.func127 rfl ?_
      refine hR75 _ _ ?_
      refine au ?_
      obtain ⟨h79, H⟩ := H
      refine zo (J0e rfl rfl (wrap_i64 h79)) ?_
      refine au ?_
      exact hX3 _ H _ _ ⟨_, _, _, _, agr, hO, j9, hal52, fr⟩
     refine au ?_
     refine six1 3 hO H.1 H.2.1 ?_
     refine sst (u := true) 3 hO H.1 H.2.1 fun w80 s hO => ?_
     refine au ?_
     refine sbu Fl.i 3 [(ix (ix a0 (ix (d_40.take ((cB + 1 : Int)).toNat) (d5 : Int))) (ix d_40 (cB : Int)))] hO fun w81 p82 s hO => ?_
     refine sfz 0 hO fun s hO yR yS => ?_
     have h86 := H.1
     have h87 := H.2.1
     replace H := H.2.2
     obtain ⟨h88, H⟩ := H
     have zz := oapp2 Try.underlying31 ti3 rfl 0 hO rfl j9.u yR yS h88 (by decide)
     obtain ⟨w89, p90, c91, E5, oK, sj, hold96, vJ⟩ := zz
     dsimp only [sS, sZ] at sj hold96
     refine zg (vJ (by exact rfl) (by exact rfl)) ?_
     replace hal52 := hal52.u.app (us := [(ix (ix a0 (ix (d_40.take ((cB + 1 : Int)).toNat) (d5 : Int))) (ix d_40 (cB : Int)))]) (nstc oK) hold96
     refine nst oK fun s hO => ?_
     refine sbs 4 hO fun w97 s hO => ?_
     refine au ?_
     refine Go1.fin0V Try.func127 rfl ?_
     refine hR75 _ _ ?_
     refine au ?_
     obtain ⟨h98, H⟩ := H
     refine zo (J0e rfl rfl (wrap_i64 h98)) ?_
     refine au ?_
     exact hX3 _ H _ _ ⟨_, _, _, _, agr, hO, sj.u, hal52.u, fr⟩
    refine au ?_
    refine six1 3 hO H.1 H.2.1 ?_
    refine sst (u := true) 3 hO H.1 H.2.1 fun w99 s hO => ?_
    refine au ?_
    refine sbu Fl.i 3 [(ix (ix a0 (ix d_40 (cB : Int))) (ix (d_40.take ((cB + 1 : Int)).toNat) (d5 : Int)))] hO fun E6 iJ s hO => ?_
    refine sfz 0 hO fun s hO vK vL => ?_
    have kQ := H.1
    have ji := H.2.1
    replace H := H.2.2
    obtain ⟨gy, H⟩ := H
    have zz := oapp2 Try.underlying31 ti3 rfl 0 hO rfl j9.u vK vL gy (by decide)
    obtain ⟨E7, E8, E9, Am, lK, lp, hold115, sk⟩ := zz
    dsimp only [sS, sZ] at lp hold115
    refine zg (sk (by exact rfl) (by exact rfl)) ?_
    replace hal52 := hal52.u.app (us := [(ix (ix a0 (ix d_40 (cB : Int))) (ix (d_40.take ((cB + 1 : Int)).toNat) (d5 : Int)))]) (nstc lK) hold115
    refine nst lK fun s hO => ?_
    refine sbs 4 hO fun Fa s hO => ?_
    refine au ?_
    refine Go1.fin0V Try.func127 rfl ?_
    refine hR68 _ _ ?_
    refine au ?_
    refine sxls hO cR.u H.1 H.2.1 fun Fb Fc vM => ?_
    refine au ?_
    refine sxl hO vM.u H.2.2.1 H.2.2.2.1 ?_
    refine GoR.inl (vs := [.int .i64 (ix (ix a0 (ix (d_40.take ((cB + 1 : Int)).toNat) (d5 : Int))) (ix d_40 (cB : Int)))]) (caps := [.pointer (some ⟨B8, 0, none⟩), .pointer (some ⟨B2, 0, none⟩)]) rfl rfl body127 Try.func127 rfl Try.ntmps127 rfl rfl rfl ?_
    intro RhR120 hR120
    refine au ?_
    have ld := H.2.2.2.2.1
    have Fd := H.2.2.2.2.2.1
    refine sxb1 3 hO H.2.2.2.2.1 H.2.2.2.2.2.1 H.2.2.2.2.2.2 (fun yT H => ?_) fun yT H => ?_
    ·refine au ?_
     refine Go1.fin0V Try.func127 rfl ?_
     refine hR120 _ _ ?_
     refine au ?_
     obtain ⟨yU, H⟩ := H
     refine zo (J0e rfl rfl (wrap_i64 yU)) ?_
     refine au ?_
     exact hX3 _ H _ _ ⟨_, _, _, _, agr, hO, lp.u, hal52.u, fr⟩
    refine au ?_
    refine six1 3 hO H.1 H.2.1 ?_
    refine sst (u := true) 3 hO H.1 H.2.1 fun xi s hO => ?_
    refine au ?_
    refine sbu Fl.i 3 [(ix (ix a0 (ix (d_40.take ((cB + 1 : Int)).toNat) (d5 : Int))) (ix d_40 (cB : Int)))] hO fun qV Fe s hO => ?_
    refine sfz 0 hO fun s hO vN vO => ?_
    have Ff := H.1
    have qn := H.2.1
    replace H := H.2.2
    obtain ⟨yV, H⟩ := H
    have zz := oapp2 Try.underlying31 ti3 rfl 0 hO rfl lp.u vN vO yV (by decide)
    obtain ⟨xj, Fg, Fh, Ao, g5, i6, hold141, sn⟩ := zz
    dsimp only [sS, sZ] at i6 hold141
    refine zg (sn (by exact rfl) (by exact rfl)) ?_
    replace hal52 := hal52.u.app (us := [(ix (ix a0 (ix (d_40.take ((cB + 1 : Int)).toNat) (d5 : Int))) (ix d_40 (cB : Int)))]) (nstc g5) hold141
    refine nst g5 fun s hO => ?_
    refine sbs 4 hO fun xS s hO => ?_
    refine au ?_
    refine Go1.fin0V Try.func127 rfl ?_
    refine hR120 _ _ ?_
    refine au ?_
    obtain ⟨sq, H⟩ := H
    refine zo (J0e rfl rfl (wrap_i64 sq)) ?_
    refine au ?_
    exact hX3 _ H _ _ ⟨_, _, _, _, agr, hO, i6.u, hal52.u, fr⟩
   refine au ?_
   obtain ⟨nF, H⟩ := H
   refine zo (J0e rfl rfl (wrap_i64 nF)) ?_
   refine au ?_
   refine cl1 Fl.i 0 hO j9.u fun s hO => ?_
   exact hX2 _ H _ _ ⟨_, _, _, agr, hO, fr⟩
  refine au ?_
  refine sinc (natbd h25 cR.bd) ?_
  refine au ?_
  exact hX1 _ H _ _ ⟨_, _, _, _, _, _, agr, hO, fr⟩
 refine au ?_
 refine sfz 1 hO fun s hO vP vQ => ?_
 refine Go1.ret1 Try.func93 rfl ⟨_, _, _, ?_, frs, vP.r, H⟩
 exact (congrArg (fun nn => Value.slice p21 nn c22) vQ)
theorem body92 : Body Try.prog 92 := ⟨Try.f92, Try.func92, rfl, by kernel_rfl⟩
theorem J3c {A : List Nat} {w0 : World} {p_t : Option Addr} {c_t : Nat} {dG : Option Addr} {dH : Nat} {t : List (List Int)} {gens : List Int} (hA : ∀ b ∈ A, b < w0.heap.size) (h_t : ISl (Rp.sl (Rp.int .i64)) A w0 p_t c_t t) (fv : ISl (Rp.int .i64) A w0 dG dH gens) {K : Bool → Prop} (H : J0G t gens K) :
    CallsV Try.prog 92 #[.slice p_t t.length c_t, .slice dG gens.length dH] w0 (fun v w' => ∃ (r0 : Bool), v = .bool r0 ∧ Same w0 w' ∧ K r0) := by
 refine CallsV.of (l := [.slice p_t t.length c_t, .slice dG gens.length dH]) Try.func92 rfl Try.ntmps92 rfl ?_
 have hO := Owns.start hA
 have hB := Fr.refl (bl []) w0
 unfold J0G at H
 refine au ?_
 refine sln0 ?_
 refine smk Fl.bool (H h_t.bd) hO fun w1 p4 s hO => ?_
 refine au ?_
 refine sln0 ?_
 refine au ?_
 refine lw ((H h_t.bd).2.2 fv.bd) (fun (bj, tried1_8) σ w => (fun Z => agrees σ [(0, .slice p_t t.length c_t), (5, .slice p4 t.length t.length), (16, .slice dG gens.length dH), (17, .int .i64 (gens.length : Int)), (18, .int .i64 (bj : Int))] ∧ Owns w0.heap.size w Z A ∧ Fr (bl []) w0 (bl Z) w) [t1 Fl.bool 4 p4 t.length t.length tried1_8]) ⟨agr, hO, fr⟩ ?_
 refine fun X1 => p1 fun bj tried1_8 => fun H hX1 σ w6 => d2 fun hag hO hB => ?_
 dsimp only at H
 refine Go1.keep _ hag ?_
 revert hO; repeat (rename Owns _ _ _ _ => q; clear q)
 intro hO; repeat (rename Sq _ _ _ _ _ _ => q; clear q)
 refine au ?_
 refine scm H (fun h9 H => ?_) fun h9 H => ?_
 ·refine au ?_
  refine sxl hO fv.u H.1 H.2.1 ?_
  refine au ?_
  have h10 := H.1
  have h11 := H.2.1
  have h12 := H.2.2.1
  have h13 := H.2.2.2.1
  refine sxb1 0 hO H.2.2.1 H.2.2.2.1 H.2.2.2.2 (fun h14 H => ?_) fun h14 H => ?_
  ·refine au ?_
   refine sinc (natbd h9 fv.bd) ?_
   refine au ?_
   exact hX1 _ H _ _ ⟨agr, hO, fr⟩
  refine au ?_
  refine six1 0 hO H.1 H.2.1 ?_
  refine sst (u := true) 0 hO H.1 H.2.1 fun w15 s hO => ?_
  refine au ?_
  refine sln0 ?_
  refine au ?_
  have h18 := H.1
  have h19 := H.2.1
  refine lw H.2.2 (fun fG σ w => (fun Z => agrees σ [(0, .slice p_t t.length c_t), (5, .slice p4 t.length t.length), (7, .int .i64 (ix gens (bj : Int))), (16, .slice dG gens.length dH), (17, .int .i64 (gens.length : Int)), (18, .int .i64 (bj : Int)), (29, .slice p_t t.length c_t), (30, .int .i64 (t.length : Int)), (31, .int .i64 (fG : Int))] ∧ Owns w0.heap.size w Z A ∧ Fr (bl []) w0 (bl Z) w) [t1 Fl.bool 4 p4 t.length t.length (st tried1_8 (ix gens (bj : Int)) true)]) ⟨agr, hO, fr⟩ ?_
  refine fun X2 => fun fG => fun H hX2 σ w16 => d2 fun hag hO hB => ?_
  refine Go1.keep _ hag ?_
  revert hO; repeat (rename Owns _ _ _ _ => q; clear q)
  intro hO; repeat (rename Sq _ _ _ _ _ _ => q; clear q)
  refine au ?_
  refine scm H (fun h20 H => ?_) fun h20 H => ?_
  ·refine au ?_
   refine sxls hO h_t.u H.1 H.2.1 fun p21 c22 ka => ?_
   refine au ?_
   refine sxl hO ka.u H.2.2.1 H.2.2.2.1 ?_
   refine sxls hO h_t.u H.2.2.2.2.1 H.2.2.2.2.2.1 fun p24 c25 iC => ?_
   refine au ?_
   refine sxls hO h_t.u H.2.2.2.2.2.2.1 H.2.2.2.2.2.2.2.1 fun p27 c28 iL => ?_
   refine sln0 ?_
   refine au ?_
   have h32 := H.1
   have h33 := H.2.1
   have h34 := H.2.2.1
   have h35 := H.2.2.2.1
   have h36 := H.2.2.2.2.1
   have h37 := H.2.2.2.2.2.1
   have h38 := H.2.2.2.2.2.2.1
   have h39 := H.2.2.2.2.2.2.2.1
   refine lw (H.2.2.2.2.2.2.2.2 iL.bd) (fun oL σ w => (fun Z => agrees σ [(0, .slice p_t t.length c_t), (5, .slice p4 t.length t.length), (7, .int .i64 (ix gens (bj : Int))), (9, .slice p21 ((ix t (fG : Int)).length) c22), (10, .slice p24 ((ix t (ix (ix t (fG : Int)) (ix gens (bj : Int)))).length) c25), (16, .slice dG gens.length dH), (17, .int .i64 (gens.length : Int)), (18, .int .i64 (bj : Int)), (29, .slice p_t t.length c_t), (30, .int .i64 (t.length : Int)), (31, .int .i64 (fG : Int)), (45, .slice p27 ((ix t (ix gens (bj : Int))).length) c28), (46, .int .i64 ((ix t (ix gens (bj : Int))).length : Int)), (47, .int .i64 (oL : Int))] ∧ Owns w0.heap.size w Z A ∧ ISl (Rp.int .i64) (bl Z ++ A) w p21 c22 (ix t (fG : Int)) ∧ ISl (Rp.int .i64) (bl Z ++ A) w p24 c25 (ix t (ix (ix t (fG : Int)) (ix gens (bj : Int)))) ∧ ISl (Rp.int .i64) (bl Z ++ A) w p27 c28 (ix t (ix gens (bj : Int))) ∧ Fr (bl []) w0 (bl Z) w) [t1 Fl.bool 4 p4 t.length t.length (st tried1_8 (ix gens (bj : Int)) true)]) ⟨agr, hO, ka.u, iC.u, iL.u, fr⟩ ?_
   refine fun X3 => fun oL => fun H hX3 σ w30 => d1 fun hag => d4 fun hO ka iC iL hB => ?_
   refine Go1.keep _ hag ?_
   revert hO; repeat (rename Owns _ _ _ _ => q; clear q)
   intro hO; repeat (rename Sq _ _ _ _ _ _ => q; clear q)
   refine au ?_
   refine scm H (fun h40 H => ?_) fun h40 H => ?_
   ·refine au ?_
    refine sxl hO iL H.1 H.2.1 ?_
    refine au ?_
    refine drw 0 [(0, .pure), (1, .pure), (2, .pure), (3, .stable), (4, .pure), (5, .pure), (6, .pure), (7, .stable), (8, .pure)] hO fun w41 s hO => ?_
    refine au ?_
    refine sxl hO iC.u H.2.2.1 H.2.2.2.1 ?_
    refine au ?_
    refine sxl hO ka.u H.2.2.2.2.1 H.2.2.2.2.2.1 ?_
    have h42 := H.1
    have h43 := H.2.1
    have h44 := H.2.2.1
    have h45 := H.2.2.2.1
    have h46 := H.2.2.2.2.1
    have h47 := H.2.2.2.2.2.1
    refine scm H.2.2.2.2.2.2 (fun h48 H => ?_) fun h48 H => ?_
    ·refine au ?_
     refine sinc (natbd h40 iL.bd) ?_
     refine au ?_
     exact hX3 _ H _ _ ⟨agr, hO, ka.u, iC.u, iL.u, fr⟩
    refine au ?_
    refine Go1.ret1 Try.func92 rfl ⟨_, ?_, frs, H⟩
    exact rfl
   refine au ?_
   refine sinc (natbd h20 h_t.bd) ?_
   refine au ?_
   exact hX2 _ H _ _ ⟨agr, hO, fr⟩
  refine au ?_
  refine sinc (natbd h9 fv.bd) ?_
  refine au ?_
  exact hX1 _ H _ _ ⟨agr, hO, fr⟩
 refine au ?_
 refine Go1.ret1 Try.func92 rfl ⟨_, ?_, frs, H⟩
 exact rfl
theorem body54 : Body Try.prog 54 := ⟨Try.f54, Try.func54, rfl, by kernel_rfl⟩
theorem J3x {A : List Nat} {w0 : World} {p_t : Option Addr} {c_t : Nat} {t : List (List Int)} (hA : ∀ b ∈ A, b < w0.heap.size) (h_t : ISl (Rp.sl (Rp.int .i64)) A w0 p_t c_t t) {K : Int → Prop} (H : J19 t K) :
    CallsV Try.prog 54 #[.slice p_t t.length c_t] w0 (fun v w' => ∃ (r0 : Int), v = .int .i64 r0 ∧ Same w0 w' ∧ K r0) := by
 refine CallsV.of (l := [.slice p_t t.length c_t]) Try.func54 rfl Try.ntmps54 rfl ?_
 have hO := Owns.start hA
 have hB := Fr.refl (bl []) w0
 unfold J19 at H
 refine au ?_
 refine zcr (J00 body91 rfl (J4q hO.lt h_t.u H)) fun _ w2 => e1 fun r1 => sc0 hO fun s hO => fun H => ?_
 refine au ?_
 refine scm H (fun h3 H => ?_) fun h3 H => ?_
 ·refine au ?_
  refine zcr (J00 body93 rfl (J3y hO.lt h_t.u H)) fun _ w5 => e3 fun r4 Fi Fj => sc0 hO fun s hO => d1 fun yW H => ?_
  refine zcr (J00 body92 rfl (J3c hO.lt h_t.u yW H)) fun _ w7 => e1 fun r6 => sc0 hO fun s hO => fun H => ?_
  cases r6
  ·refine au ?_
   refine Go1.ret1 Try.func54 rfl ⟨_, ?_, frs, (iF H)⟩
   exact rfl
  refine au ?_
  refine Go1.ret1 Try.func54 rfl ⟨_, ?_, frs, (iT H)⟩
  exact rfl
 refine au ?_
 refine Go1.ret1 Try.func54 rfl ⟨_, ?_, frs, H⟩
 exact rfl
theorem body120 : Body Try.prog 120 := ⟨Try.f120, Try.func120, rfl, by kernel_rfl⟩
theorem J3V {A : List Nat} {w0 : World} {p_t : Option Addr} {c_t : Nat} {t : List (List Int)} (hA : ∀ b ∈ A, b < w0.heap.size) (h_t : ISl (Rp.sl (Rp.int .i64)) A w0 p_t c_t t) {K : Bool → Prop} (H : J1s t K) :
    CallsV Try.prog 120 #[.slice p_t t.length c_t] w0 (fun v w' => ∃ (r0 : Bool), v = .bool r0 ∧ Same w0 w' ∧ K r0) := by
 refine CallsV.of (l := [.slice p_t t.length c_t]) Try.func120 rfl Try.ntmps120 rfl ?_
 have hO := Owns.start hA
 have hB := Fr.refl (bl []) w0
 unfold J1s at H
 refine au ?_
 refine sln0 ?_
 refine scm (H h_t.bd) (fun h1 H => ?_) fun h1 H => ?_
 ·refine au ?_
  refine Go1.ret1 Try.func120 rfl ⟨_, ?_, frs, H⟩
  exact rfl
 refine au ?_
 refine sln0 ?_
 refine scm H (fun h2 H => ?_) fun h2 H => ?_
 ·refine au ?_
  refine Go1.ret1 Try.func120 rfl ⟨_, ?_, frs, H⟩
  exact rfl
 refine au ?_
 refine sln0 ?_
 refine au ?_
 refine lw H (fun k1_4 σ w => (fun Z => agrees σ [(0, .slice p_t t.length c_t), (15, .slice p_t t.length c_t), (16, .int .i64 (t.length : Int)), (17, .int .i64 (k1_4 : Int))] ∧ Owns w0.heap.size w Z A ∧ Fr (bl []) w0 (bl Z) w) []) ⟨agr, hO, fr⟩ ?_
 refine fun X1 => fun k1_4 => fun H hX1 σ w3 => d2 fun hag hO hB => ?_
 refine Go1.keep _ hag ?_
 refine au ?_
 refine scm H (fun h5 H => ?_) fun h5 H => ?_
 ·refine au ?_
  refine sxls hO h_t.u H.1 H.2.1 fun p6 c7 hi8 => ?_
  refine au ?_
  refine sln0 ?_
  refine au ?_
  refine sln0 ?_
  have h9 := H.1
  have h10 := H.2.1
  refine scm (H.2.2 hi8.bd) (fun h11 H => ?_) fun h11 H => ?_
  ·refine au ?_
   refine sln0 ?_
   refine au ?_
   refine lw H (fun ia σ w => (fun Z => agrees σ [(0, .slice p_t t.length c_t), (15, .slice p_t t.length c_t), (16, .int .i64 (t.length : Int)), (17, .int .i64 (k1_4 : Int)), (26, .slice p6 ((ix t (k1_4 : Int)).length) c7), (27, .int .i64 ((ix t (k1_4 : Int)).length : Int)), (28, .int .i64 (ia : Int))] ∧ Owns w0.heap.size w Z A ∧ ISl (Rp.int .i64) (bl Z ++ A) w p6 c7 (ix t (k1_4 : Int)) ∧ Fr (bl []) w0 (bl Z) w) []) ⟨agr, hO, hi8.u, fr⟩ ?_
   refine fun X2 => fun ia => fun H hX2 σ w12 => d3 fun hag hO hi8 hB => ?_
   refine Go1.keep _ hag ?_
   revert hO; repeat (rename Owns _ _ _ _ => q; clear q)
   intro hO; repeat (rename Sq _ _ _ _ _ _ => q; clear q)
   refine au ?_
   refine scm H (fun h14 H => ?_) fun h14 H => ?_
   ·refine au ?_
    refine sxl hO hi8 H.1 H.2.1 ?_
    refine au ?_
    have h15 := H.1
    have h16 := H.2.1
    refine scm H.2.2 (fun h17 H => ?_) fun h17 H => ?_
    ·refine au ?_
     refine Go1.ret1 Try.func120 rfl ⟨_, ?_, frs, H⟩
     exact rfl
    refine au ?_
    refine sln0 ?_
    refine scm H (fun h18 H => ?_) fun h18 H => ?_
    ·refine au ?_
     refine Go1.ret1 Try.func120 rfl ⟨_, ?_, frs, H⟩
     exact rfl
    refine au ?_
    refine sinc (natbd h14 hi8.bd) ?_
    refine au ?_
    exact hX2 _ H _ _ ⟨agr, hO, hi8, fr⟩
   refine au ?_
   refine sinc (natbd h5 h_t.bd) ?_
   refine au ?_
   exact hX1 _ H _ _ ⟨agr, hO, fr⟩
  refine au ?_
  refine Go1.ret1 Try.func120 rfl ⟨_, ?_, frs, H⟩
  exact rfl
 refine au ?_
 refine Go1.ret1 Try.func120 rfl ⟨_, ?_, frs, H⟩
 exact rfl
theorem body121 : Body Try.prog 121 := ⟨Try.f121, Try.func121, rfl, by kernel_rfl⟩
theorem J1C {A : List Nat} {w0 : World} {p_p : Option Addr} {c_p : Nat} {p : List Int} (hA : ∀ b ∈ A, b < w0.heap.size) (h_p : ISl (Rp.int .i64) A w0 p_p c_p p) {K : Bool → Prop} (H : J0r p K) :
    CallsV Try.prog 121 #[.slice p_p p.length c_p] w0 (fun v w' => ∃ (r0 : Bool), v = .bool r0 ∧ Same w0 w' ∧ K r0) := by
 refine CallsV.of (l := [.slice p_p p.length c_p]) Try.func121 rfl Try.ntmps121 rfl ?_
 have hO := Owns.start hA
 have hB := Fr.refl (bl []) w0
 unfold J0r at H
 refine au ?_
 refine sln0 ?_
 refine scm (H h_p.bd) (fun h1 H => ?_) fun h1 H => ?_
 ·refine au ?_
  refine Go1.ret1 Try.func121 rfl ⟨_, ?_, frs, H⟩
  exact rfl
 refine au ?_
 refine sln0 ?_
 refine au ?_
 refine lw H (fun (count1_3, k1_4) σ w => (fun Z => agrees σ [(3, .int .i64 (count1_3 : Int)), (9, .slice p_p p.length c_p), (10, .int .i64 (p.length : Int)), (11, .int .i64 (k1_4 : Int))] ∧ Owns w0.heap.size w Z A ∧ Fr (bl []) w0 (bl Z) w) []) ⟨agr, hO, fr⟩ ?_
 refine fun X1 => p1 fun count1_3 k1_4 => fun H hX1 σ w2 => d2 fun hag hO hB => ?_
 dsimp only at H
 refine Go1.keep _ hag ?_
 refine au ?_
 refine scm H (fun h5 H => ?_) fun h5 H => ?_
 ·refine au ?_
  refine sxl hO h_p.u H.1 H.2.1 ?_
  refine au ?_
  have h6 := H.1
  have h7 := H.2.1
  refine scm H.2.2 (fun h8 H => ?_) fun h8 H => ?_
  ·refine au ?_
   refine Go1.ret1 Try.func121 rfl ⟨_, ?_, frs, H⟩
   exact rfl
  refine au ?_
  refine scm H (fun h9 H => ?_) fun h9 H => ?_
  ·refine au ?_
   refine Go1.ret1 Try.func121 rfl ⟨_, ?_, frs, H⟩
   exact rfl
  refine au ?_
  refine scm H (fun h10 H => ?_) fun h10 H => ?_
  ·refine au ?_
   obtain ⟨h11, H⟩ := H
   refine zo (J0e rfl rfl (wrap_i64 h11)) ?_
   refine au ?_
   refine sinc (natbd h5 h_p.bd) ?_
   refine au ?_
   exact hX1 _ H _ _ ⟨agr, hO, fr⟩
  refine au ?_
  refine sinc (natbd h5 h_p.bd) ?_
  refine au ?_
  exact hX1 _ H _ _ ⟨agr, hO, fr⟩
 refine au ?_
 refine Go1.ret1 Try.func121 rfl ⟨_, ?_, frs, H⟩
 exact rfl
theorem body122 : Body Try.prog 122 := ⟨Try.f122, Try.func122, rfl, by kernel_rfl⟩
theorem J37 {A : List Nat} {w0 : World} {p_p : Option Addr} {c_p : Nat} {p : List Int} (hA : ∀ b ∈ A, b < w0.heap.size) (h_p : ISl (Rp.int .i64) A w0 p_p c_p p) {K : Int → Prop} (H : J0E p K) :
    CallsV Try.prog 122 #[.slice p_p p.length c_p] w0 (fun v w' => ∃ (r0 : Int), v = .int .i64 r0 ∧ Same w0 w' ∧ K r0) := by
 refine CallsV.of (l := [.slice p_p p.length c_p]) Try.func122 rfl Try.ntmps122 rfl ?_
 have hO := Owns.start hA
 have hB := Fr.refl (bl []) w0
 unfold J0E at H
 refine au ?_
 refine zcr (J00 body121 rfl (J1C hO.lt h_p.u H)) fun _ w2 => e1 fun r1 => sc0 hO fun s hO => fun H => ?_
 cases r1
 ·refine au ?_
  refine Go1.ret1 Try.func122 rfl ⟨_, ?_, frs, (iF H)⟩
  exact rfl
 refine au ?_
 refine sln0 ?_
 refine au ?_
 refine lw ((iT H) h_p.bd) (fun (count1_4, k1_5) σ w => (fun Z => agrees σ [(3, .int .i64 count1_4), (9, .slice p_p p.length c_p), (10, .int .i64 (p.length : Int)), (11, .int .i64 (k1_5 : Int))] ∧ Owns w0.heap.size w Z A ∧ Fr (bl []) w0 (bl Z) w) []) ⟨agr, hO, fr⟩ ?_
 refine fun X1 => p1 fun count1_4 k1_5 => fun H hX1 σ w3 => d2 fun hag hO hB => ?_
 dsimp only at H
 refine Go1.keep _ hag ?_
 revert hO; repeat (rename Owns _ _ _ _ => q; clear q)
 intro hO; repeat (rename Sq _ _ _ _ _ _ => q; clear q)
 refine au ?_
 refine scm H (fun h6 H => ?_) fun h6 H => ?_
 ·refine au ?_
  refine sxl hO h_p.u H.1 H.2.1 ?_
  refine au ?_
  have h7 := H.1
  have h8 := H.2.1
  replace H := H.2.2
  obtain ⟨h9, H⟩ := H
  refine zo (J0e rfl rfl (wrap_i64 h9)) ?_
  by_cases h10 : count1_4 < ((ix p (k1_5 : Int)) + (1 : Int))
  ·refine zo (J7V rfl rfl h10) ?_
   refine au ?_
   refine sinc (natbd h6 h_p.bd) ?_
   refine au ?_
   exact hX1 _ (ifp h10 H) _ _ ⟨agr, hO, fr⟩
  refine zo (J7W rfl rfl h10) ?_
  refine au ?_
  refine sinc (natbd h6 h_p.bd) ?_
  refine au ?_
  exact hX1 _ (ifn h10 H) _ _ ⟨agr, hO, fr⟩
 refine au ?_
 refine Go1.ret1 Try.func122 rfl ⟨_, ?_, frs, H⟩
 exact rfl
theorem body123 : Body Try.prog 123 := ⟨Try.f123, Try.func123, rfl, by kernel_rfl⟩
theorem J2M {A : List Nat} {w0 : World} {cS : Option Addr} {cU : Nat} {a0 : List (List Int)} (hA : ∀ b ∈ A, b < w0.heap.size) (cR : ISl (Rp.sl (Rp.int .i64)) A w0 cS cU a0) {K : List Int → Prop} (H : J0v a0 K) :
    CallsV Try.prog 123 #[.slice cS a0.length cU] w0 (fun v w' => ∃ (r0 : List Int), ∃ (cC : Option Addr), ∃ (cD : Nat), v = .slice cC r0.length cD ∧ Same w0 w' ∧ ISl (Rp.int .i64) A w' cC cD r0 ∧ K r0) := by
 refine CallsV.of (l := [.slice cS a0.length cU]) Try.func123 rfl Try.ntmps123 rfl ?_
 have hO := Owns.start hA
 have hB := Fr.refl (bl []) w0
 unfold J0v at H
 refine au ?_
 refine sln0 ?_
 refine smk Fl.bool (H cR.bd) hO fun w1 p4 s hO => ?_
 refine au ?_
 refine sln0 ?_
 refine smk Fl.i (H cR.bd).2.2 hO fun w6 p7 s hO => ?_
 refine au ?_
 refine sln0 ?_
 refine au ?_
 refine snil Fl.i 3 hO fun s hO => ?_
 refine snil Fl.i 3 hO fun s hO => ?_
 refine lw (H cR.bd).2.2.2.2 (fun (k1_12, d_13, kc, sr, d_22) σ w => ∃ n16 p14 c15 n20 p18 c19, (fun Z => agrees σ [(0, .slice cS a0.length cU), (3, .slice p18 n20 c19), (4, .slice p14 n16 c15), (5, .slice p4 a0.length a0.length), (6, .slice p7 a0.length a0.length), (18, .int .i64 (a0.length : Int)), (19, .int .i64 (k1_12 : Int))] ∧ Owns w0.heap.size w Z A ∧ Fr (bl []) w0 (bl Z) w) [t1 Fl.i 3 p14 n16 c15 d_13, t1 Fl.i 3 p18 n20 c19 kc, t1 Fl.i 3 p7 a0.length a0.length sr, t1 Fl.bool 4 p4 a0.length a0.length d_22]) ⟨_, _, _, _, _, _, agr, hO, fr⟩ ?_
 refine fun X1 => p1 fun k1_12 => p3 fun d_13 kc sr d_22 => fun H hX1 σ w11 => e4 fun n16 p14 c15 n20 => e2 fun p18 c19 => d2 fun hag hO hB => ?_
 dsimp only at H
 refine Go1.keep _ hag ?_
 revert hO; repeat (rename Owns _ _ _ _ => q; clear q)
 intro hO; repeat (rename Sq _ _ _ _ _ _ => q; clear q)
 refine au ?_
 refine scm H (fun h23 H => ?_) fun h23 H => ?_
 ·refine au ?_
  have h24 := H.1
  have h25 := H.2.1
  refine sxb1 3 hO H.1 H.2.1 H.2.2 (fun h26 H => ?_) fun h26 H => ?_
  ·refine au ?_
   refine sinc (natbd h23 cR.bd) ?_
   refine au ?_
   exact hX1 _ H _ _ ⟨_, _, _, _, _, _, agr, hO, fr⟩
  refine au ?_
  refine six1 3 hO H.1 H.2.1 ?_
  refine sst (u := true) 3 hO H.1 H.2.1 fun w27 s hO => ?_
  refine au ?_
  refine sap1 ((k1_12 : Int)) 1 hO H.2.2 fun _ w28 p29 c30 s hO => ?_
  refine au ?_
  refine sap1 ((k1_12 : Int)) 0 hO H.2.2.2 fun _ w31 p32 c33 s hO => ?_
  refine au ?_
  have h42 := H.1
  have h43 := H.2.1
  refine lw H.2.2.2.2 (fun (fm, cK, d_40, d_41) σ w => ∃ n39 p37 c38, (fun Z => agrees σ [(0, .slice cS a0.length cU), (3, .slice p29 (n20 + 1) c30), (4, .slice p37 n39 c38), (5, .slice p4 a0.length a0.length), (6, .slice p7 a0.length a0.length), (8, .int .i64 (fm : Int)), (18, .int .i64 (a0.length : Int)), (19, .int .i64 (k1_12 : Int))] ∧ Owns w0.heap.size w Z A ∧ Fr (bl []) w0 (bl Z) w) [t1 Fl.i 3 p37 n39 c38 cK, t1 Fl.i 3 p29 (n20 + 1) c30 (kc ++ ([(k1_12 : Int)])), t1 Fl.i 3 p7 a0.length a0.length d_40, t1 Fl.bool 4 p4 a0.length a0.length d_41]) ⟨_, _, _, agr, hO, fr⟩ ?_
  refine fun X2 => p3 fun fm cK d_40 d_41 => fun H hX2 σ w34 => e3 fun n39 p37 c38 => d2 fun hag hO hB => ?_
  dsimp only at H
  refine Go1.keep _ hag ?_
  revert hO; repeat (rename Owns _ _ _ _ => q; clear q)
  intro hO; repeat (rename Sq _ _ _ _ _ _ => q; clear q)
  refine au ?_
  refine sln1 0 hO ?_
  refine scm H (fun h44 H => ?_) fun h44 H => ?_
  ·refine au ?_
   refine sxl1 0 hO H.1 H.2.1 ?_
   refine au ?_
   have h52 := H.1
   have h53 := H.2.1
   refine lw H.2.2 (fun (d_46, kd, ss) σ w => ∃ n49 p47 c48, (fun Z => agrees σ [(0, .slice cS a0.length cU), (3, .slice p29 (n20 + 1) c30), (4, .slice p47 n49 c48), (5, .slice p4 a0.length a0.length), (6, .slice p7 a0.length a0.length), (8, .int .i64 (fm : Int)), (9, .int .i64 (ix cK (fm : Int))), (18, .int .i64 (a0.length : Int)), (19, .int .i64 (k1_12 : Int))] ∧ Owns w0.heap.size w Z A ∧ Fr (bl []) w0 (bl Z) w) [t1 Fl.i 3 p47 n49 c48 d_46, t1 Fl.i 3 p29 (n20 + 1) c30 (kc ++ ([(k1_12 : Int)])), t1 Fl.i 3 p7 a0.length a0.length kd, t1 Fl.bool 4 p4 a0.length a0.length ss]) ⟨_, _, _, agr, hO, fr⟩ ?_
   refine fun X3 => p2 fun d_46 kd ss => fun H hX3 σ w45 => e3 fun n49 p47 c48 => d2 fun hag hO hB => ?_
   dsimp only at H
   refine Go1.keep _ hag ?_
   revert hO; repeat (rename Owns _ _ _ _ => q; clear q)
   intro hO; repeat (rename Sq _ _ _ _ _ _ => q; clear q)
   refine au ?_
   refine sxl1 2 hO H.1 H.2.1 ?_
   refine au ?_
   refine sln1 1 hO ?_
   have h54 := H.1
   have h55 := H.2.1
   refine scm H.2.2 (fun h56 H => ?_) fun h56 H => ?_
   ·refine au ?_
    refine drw 0 [(0, .pure), (1, .pure), (2, .pure), (3, .stable), (4, .pure), (5, .pure), (6, .pure), (7, .pure), (8, .stable), (9, .pure), (10, .stable), (11, .pure), (12, .stable), (13, .pure)] hO fun w57 s hO => ?_
    refine au ?_
    refine sxls hO cR.u H.1 H.2.1 fun p58 c59 yX => ?_
    refine au ?_
    refine sxl1 2 hO H.2.2.1 H.2.2.2.1 ?_
    refine sxl1 1 hO H.2.2.2.2.1 H.2.2.2.2.2.1 ?_
    refine sxl hO yX.u H.2.2.2.2.2.2.1 H.2.2.2.2.2.2.2.1 ?_
    refine au ?_
    have h61 := H.1
    have h62 := H.2.1
    have h63 := H.2.2.1
    have h64 := H.2.2.2.1
    have h65 := H.2.2.2.2.1
    have h66 := H.2.2.2.2.2.1
    have h67 := H.2.2.2.2.2.2.1
    have h68 := H.2.2.2.2.2.2.2.1
    have h69 := H.2.2.2.2.2.2.2.2.1
    have h70 := H.2.2.2.2.2.2.2.2.2.1
    refine sxb1 3 hO H.2.2.2.2.2.2.2.2.1 H.2.2.2.2.2.2.2.2.2.1 H.2.2.2.2.2.2.2.2.2.2 (fun h71 H => ?_) fun h71 H => ?_
    ·refine au ?_
     refine sxl1 2 hO H.1 H.2.1 ?_
     have h72 := H.1
     have h73 := H.2.1
     replace H := H.2.2
     obtain ⟨h74, H⟩ := H
     refine zo (J0e rfl rfl (wrap_i64 h74)) ?_
     refine six1 2 hO H.1 H.2.1 ?_
     refine sst (u := ((ix kd (ix cK (fm : Int))) + (1 : Int))) 2 hO H.1 H.2.1 fun w75 s hO => ?_
     refine au ?_
     exact hX3 _ H.2.2 _ _ ⟨_, _, _, agr, hO, fr⟩
    refine au ?_
    refine six1 3 hO H.1 H.2.1 ?_
    refine sst (u := true) 3 hO H.1 H.2.1 fun w76 s hO => ?_
    refine au ?_
    refine sap1 ((ix (ix a0 (ix cK (fm : Int))) (ix (kc ++ ([(k1_12 : Int)])) (ix kd (ix cK (fm : Int)))))) 0 hO H.2.2 fun _ w77 p78 c79 s hO => ?_
    refine au ?_
    refine sxl1 2 hO H.2.2.2.1 H.2.2.2.2.1 ?_
    have h80 := H.1
    have h81 := H.2.1
    have h82 := H.2.2.2.1
    have h83 := H.2.2.2.2.1
    replace H := H.2.2.2.2.2
    obtain ⟨h84, H⟩ := H
    refine zo (J0e rfl rfl (wrap_i64 h84)) ?_
    refine six1 2 hO H.1 H.2.1 ?_
    refine sst (u := ((ix kd (ix cK (fm : Int))) + (1 : Int))) 2 hO H.1 H.2.1 fun w85 s hO => ?_
    refine au ?_
    exact hX3 _ H.2.2 _ _ ⟨_, _, _, agr, hO, fr⟩
   refine au ?_
   obtain ⟨h86, H⟩ := H
   refine zo (J0e rfl rfl (wrap_i64 h86)) ?_
   refine au ?_
   exact hX2 _ H _ _ ⟨_, _, _, agr, hO, fr⟩
  refine au ?_
  refine sinc (natbd h23 cR.bd) ?_
  refine au ?_
  exact hX1 _ H _ _ ⟨_, _, _, _, _, _, agr, hO, fr⟩
 refine au ?_
 refine sfz 1 hO fun s hO yY y3 => ?_
 refine Go1.ret1 Try.func123 rfl ⟨_, _, _, ?_, frs, yY.r, H⟩
 exact (congrArg (fun nn => Value.slice p18 nn c19) y3)
theorem body124 : Body Try.prog 124 := ⟨Try.f124, Try.func124, rfl, by kernel_rfl⟩
theorem body87 : Body Try.prog 87 := ⟨Try.f87, Try.func87, rfl, by kernel_rfl⟩
theorem J3f {A : List Nat} {w0 : World} {cS : Option Addr} {cU : Nat} {nG : Option Addr} {nH : Nat} {a0 : List (List Int)} {a1 : List Int} (hA : ∀ b ∈ A, b < w0.heap.size) (cR : ISl (Rp.sl (Rp.int .i64)) A w0 cS cU a0) (lr : ISl (Rp.int .i64) A w0 nG nH a1) {K : List Int → Prop} (H : J0T a0 a1 K) :
    CallsV Try.prog 87 #[.slice cS a0.length cU, .slice nG a1.length nH] w0 (fun v w' => ∃ (r0 : List Int), ∃ (cC : Option Addr), ∃ (cD : Nat), v = .slice cC r0.length cD ∧ Same w0 w' ∧ ISl (Rp.int .i64) A w' cC cD r0 ∧ K r0) := by
 refine CallsV.of (l := [.slice cS a0.length cU, .slice nG a1.length nH]) Try.func87 rfl Try.ntmps87 rfl ?_
 have hO := Owns.start hA
 have hB := Fr.refl (bl []) w0
 unfold J0T at H
 refine au ?_
 refine zcr (J00 body120 rfl (J3V hO.lt cR.u H)) fun _ w2 => e1 fun r1 => sc0 hO fun s hO => fun H => ?_
 cases r1
 ·refine au ?_
  refine Go1.ret1 Try.func87 rfl ⟨_, _, _, ?_, frs, (ISl.null _ _ _), (iF H)⟩
  exact rfl
 refine au ?_
 refine sln0 ?_
 refine au ?_
 refine sln0 ?_
 refine scm (((iT H) lr.bd) cR.bd) (fun h3 H => ?_) fun h3 H => ?_
 ·refine au ?_
  refine zcr (J00 body121 rfl (J1C hO.lt lr.u H)) fun _ w5 => e1 fun r4 => sc0 hO fun s hO => fun H => ?_
  cases r4
  ·refine au ?_
   refine Go1.ret1 Try.func87 rfl ⟨_, _, _, ?_, frs, (ISl.null _ _ _), (iF H)⟩
   exact rfl
  refine au ?_
  refine sln0 ?_
  refine au ?_
  refine drA Same.tr 0 [(0, .pure), (2, .pure), (4, .pure), (5, .pure), (6, .pure), (8, .pure), (9, .pure), (10, .pure), (1, .loud), (3, .alloc), (7, .alloc), (11, .alloc), (12, .pure), (13, .alloc), (14, .last)] hO fun w6 s hO => ?_
  have hn7 := hO.le
  have hw8 := (fr : Fr (bl []) w0 _ w6).ch.size
  refine au ?_
  refine au ?_
  refine au ?_
  refine au ?_
  replace H := (iT H)
  obtain ⟨h9, H⟩ := H
  refine GoQA.pure rfl (J60 rfl rfl (wrap_i64 h9)) rfl rfl ?_
  refine au ?_
  refine au ?_
  obtain ⟨h10, H⟩ := H
  refine GoQA.pure rfl (J60 rfl rfl (wrap_i64 h10)) rfl rfl ?_
  refine GoQA.loudI rfl rfl fun w11 A12 y4 => ?_
  refine sgw y4 hO fun s hO => ?_
  refine GoAt.call (J00 body86 rfl (J07 hO.lt lr.u H)) (fun _ _ hr => ⟨fun _ => saq hr, Same.kp hO (saq hr)⟩) rfl fun _ w16 => e4 fun r14 dk cx cy => sA1 hO fun s hO => fun H => ?_
  obtain ⟨h28, H⟩ := H
  obtain ⟨h29, H⟩ := H
  have zz := alMakeE (n := (a0.length : Int)) (r := Rp.int .i64) (d := (0 : Int)) Try.underlying31 ti3 (fun _ _ => rfl) rfl h28 h29 (by decide)
  obtain ⟨y5, hal32, y6⟩ := zz
  refine GoQA.alloc rfl rfl (hal32 rfl rfl) ?_
  intro w19 A20 b21 A22 y7 y8 hd25 hnb26 hh27
  refine sgw y7 hO fun s hO => ?_
  have iK := y6 (bl [t1 Fl.i 3 cx dk cy r14] ++ A20) w19
  refine sgn (e := .row 3 1 (some ⟨b21, 0, none⟩) a0.length a0.length y5) y8 hO hn7 hw8 hnb26 rfl hh27 hd25 (fr : Fr (bl []) w0 _ w19) fun s hO hB => ?_
  replace iK := iK.ch s.ch
  refine cl1 Fl.i 0 hO iK.u fun s hO => ?_
  obtain ⟨h44, H⟩ := H
  obtain ⟨h45, H⟩ := H
  have zz := alMakeE (n := ((a0.length : Int) * (a0.length : Int))) (r := Rp.int .i64) (d := (0 : Int)) Try.underlying31 ti3 (fun _ _ => rfl) rfl h44 h45 (by decide)
  obtain ⟨y9, hal48, zc⟩ := zz
  refine GoQA.alloc rfl rfl (hal48 rfl rfl) ?_
  intro w35 A36 b37 A38 zd zh hd41 hnb42 hh43
  refine sgw zd hO fun s hO => ?_
  have nI := zc (bl [t1 Fl.i 3 (some ⟨b21, 0, none⟩) a0.length a0.length (List.replicate a0.length ((0 : Int))), t1 Fl.i 3 cx dk cy r14] ++ A36) w35
  refine sgn (e := .row 3 1 (some ⟨b37, 0, none⟩) (((a0.length : Int) * (a0.length : Int)).toNat) (((a0.length : Int) * (a0.length : Int)).toNat) y9) zh hO hn7 hw8 hnb42 rfl hh43 hd41 (fr : Fr (bl []) w0 _ w35) fun s hO hB => ?_
  replace nI := nI.ch s.ch
  refine cl1 Fl.i 0 hO nI.u fun s hO => ?_
  obtain ⟨h60, H⟩ := H
  obtain ⟨h61, H⟩ := H
  have zz := alMakeE (n := ((a0.length : Int) * (a0.length : Int))) (r := Rp.int .i64) (d := (0 : Int)) Try.underlying31 ti3 (fun _ _ => rfl) rfl h60 h61 (by decide)
  obtain ⟨sd, hal64, iI⟩ := zz
  refine GoQA.alloc rfl rfl (hal64 rfl rfl) ?_
  intro w51 A52 b53 A54 zj zl hd57 hnb58 hh59
  refine sgw zj hO fun s hO => ?_
  have nJ := iI (bl [t1 Fl.i 3 (some ⟨b37, 0, none⟩) (((a0.length : Int) * (a0.length : Int)).toNat) (((a0.length : Int) * (a0.length : Int)).toNat) (List.replicate (((a0.length : Int) * (a0.length : Int)).toNat) ((0 : Int))), t1 Fl.i 3 (some ⟨b21, 0, none⟩) a0.length a0.length (List.replicate a0.length ((0 : Int))), t1 Fl.i 3 cx dk cy r14] ++ A52) w51
  refine sgn (e := .row 3 1 (some ⟨b53, 0, none⟩) (((a0.length : Int) * (a0.length : Int)).toNat) (((a0.length : Int) * (a0.length : Int)).toNat) sd) zl hO hn7 hw8 hnb58 rfl hh59 hd57 (fr : Fr (bl []) w0 _ w51) fun s hO hB => ?_
  replace nJ := nJ.ch s.ch
  refine cl1 Fl.i 0 hO nJ.u fun s hO => ?_
  refine GoQA.pure rfl (J0c Try.underlying145 ti145 (pl := [(0, 1), (1, 1), (2, 1), (3, 1), (4, 1), (5, 1)]) (vs := [(0, .slice cx dk cy), (1, .slice (some ⟨b21, 0, none⟩) a0.length a0.length), (4, .slice (some ⟨b37, 0, none⟩) (((a0.length : Int) * (a0.length : Int)).toNat) (((a0.length : Int) * (a0.length : Int)).toNat)), (5, .slice (some ⟨b53, 0, none⟩) (((a0.length : Int) * (a0.length : Int)).toNat) (((a0.length : Int) * (a0.length : Int)).toNat))]) (cs := #[.slice cx dk cy, .slice (some ⟨b21, 0, none⟩) a0.length a0.length, .int .i64 (0 : Int), .int .i64 (0 : Int), .slice (some ⟨b37, 0, none⟩) (((a0.length : Int) * (a0.length : Int)).toNat) (((a0.length : Int) * (a0.length : Int)).toNat), .slice (some ⟨b53, 0, none⟩) (((a0.length : Int) * (a0.length : Int)).toNat) (((a0.length : Int) * (a0.length : Int)).toNat)]) (by kernel_rfl) rfl (by kernel_rfl)) rfl rfl ?_
  refine GoQA.alloc rfl rfl (alAlloc (cs := #[.slice none 0 0, .slice none 0 0, .int .i64 (0 : Int), .int .i64 (0 : Int), .slice none 0 0, .slice none 0 0]) ti145 rfl) ?_
  intro w67 A68 b69 A70 zu zw hd73 hnb74 hh75
  refine sgw zu hO fun s hO => ?_
  refine sgn (e := .blk b69 (.cells #[.slice none 0 0, .slice none 0 0, .int .i64 (0 : Int), .int .i64 (0 : Int), .slice none 0 0, .slice none 0 0] 145 (0, 0))) zw hO hn7 hw8 hnb74 rfl hh75 hd73 (fr : Fr (bl []) w0 _ w67) fun s hO hB => ?_
  refine GoQA.lastI rfl rfl fun w76 A77 zx => ?_
  refine sgw zx hO fun s hO => ?_
  refine sba 0 hO fun w79 s hO => ?_
  refine GoQA.nil fun w80 A81 zy zA => ?_
  refine sgw zy hO fun s hO => ?_
  refine spm zA hO fun s hO => ?_
  refine au ?_
  refine zcr (J00 body122 rfl (J37 hO.lt lr.u H)) fun _ w85 => e1 fun r84 => sc0 hO fun s hO => fun H => ?_
  refine au ?_
  refine sbs 0 hO fun w86 s hO => ?_
  refine au ?_
  refine zcr (J00 body123 rfl (J2M hO.lt cR.u H)) fun _ w88 => e3 fun r87 eA eB => sc0 hO fun s hO => d1 fun cL H => ?_
  refine au ?_
  refine smk Fl.i H hO fun w89 p90 s hO => ?_
  refine au ?_
  have hB := (fr : Fr (bl []) w0 _ w89)
  replace cL := cL.o hO
  revert hO; repeat (rename Owns _ _ _ _ => q; clear q)
  intro hO; repeat (rename Sq _ _ _ _ _ _ => q; clear q)
  refine au ?_
  refine lw H.2.2 (fun (oM, je, oN, d_96, su, d_98, d_99, d_100) σ w => (fun Z => agrees σ [(0, .slice cS a0.length cU), (6, .pointer (some ⟨b69, 0, none⟩)), (7, .slice eA r87.length eB), (8, .slice p90 a0.length a0.length), (9, .int .i64 oM)] ∧ Owns w0.heap.size w Z A ∧ ISl (Rp.int .i64) (bl Z ++ A) w eA eB r87 ∧ Fr (bl []) w0 (bl Z) w) [t1 Fl.i 3 p90 a0.length a0.length d_96, .blk b69 (.cells #[.slice cx dk cy, .slice (some ⟨b21, 0, none⟩) a0.length a0.length, .int .i64 je, .int .i64 oN, .slice (some ⟨b37, 0, none⟩) (((a0.length : Int) * (a0.length : Int)).toNat) (((a0.length : Int) * (a0.length : Int)).toNat), .slice (some ⟨b53, 0, none⟩) (((a0.length : Int) * (a0.length : Int)).toNat) (((a0.length : Int) * (a0.length : Int)).toNat)] 145 (0, 0)), t1 Fl.i 3 (some ⟨b53, 0, none⟩) (((a0.length : Int) * (a0.length : Int)).toNat) (((a0.length : Int) * (a0.length : Int)).toNat) su, t1 Fl.i 3 (some ⟨b37, 0, none⟩) (((a0.length : Int) * (a0.length : Int)).toNat) (((a0.length : Int) * (a0.length : Int)).toNat) d_98, t1 Fl.i 3 (some ⟨b21, 0, none⟩) a0.length a0.length d_99, t1 Fl.i 3 cx dk cy d_100]) ⟨agr, hO, cL.u, fr⟩ ?_
  refine fun X1 => p1 fun oM => p1 fun je => p1 fun oN => p1 fun d_96 => p3 fun su d_98 d_99 d_100 => fun H hX1 σ w92 => d3 fun hag hO cL hB => ?_
  dsimp only at H
  refine Go1.keep _ hag ?_
  refine au ?_
  refine scm H (fun pr H => ?_) fun pr H => ?_
  ·refine au ?_
   refine sfz 5 hO fun s hO vR vS => ?_
   refine Go1.ret1 Try.func87 rfl ⟨_, _, _, ?_, frs, vR.r, H⟩
   exact (congrArg (fun nn => Value.slice cx nn cy) vS)
  refine au ?_
  refine sln0 ?_
  refine au ?_
  refine lw (H cL.bd) (fun (dr, k2_106, fd, d_108, oO, d_110, d_111, lv) σ w => (fun Z => agrees σ [(0, .slice cS a0.length cU), (6, .pointer (some ⟨b69, 0, none⟩)), (7, .slice eA r87.length eB), (8, .slice p90 a0.length a0.length), (9, .int .i64 je), (56, .slice eA r87.length eB), (57, .int .i64 (r87.length : Int)), (58, .int .i64 (dr : Int))] ∧ Owns w0.heap.size w Z A ∧ ISl (Rp.int .i64) (bl Z ++ A) w eA eB r87 ∧ Fr (bl []) w0 (bl Z) w) [t1 Fl.i 3 p90 a0.length a0.length d_108, .blk b69 (.cells #[.slice cx dk cy, .slice (some ⟨b21, 0, none⟩) a0.length a0.length, .int .i64 k2_106, .int .i64 fd, .slice (some ⟨b37, 0, none⟩) (((a0.length : Int) * (a0.length : Int)).toNat) (((a0.length : Int) * (a0.length : Int)).toNat), .slice (some ⟨b53, 0, none⟩) (((a0.length : Int) * (a0.length : Int)).toNat) (((a0.length : Int) * (a0.length : Int)).toNat)] 145 (0, 0)), t1 Fl.i 3 (some ⟨b53, 0, none⟩) (((a0.length : Int) * (a0.length : Int)).toNat) (((a0.length : Int) * (a0.length : Int)).toNat) oO, t1 Fl.i 3 (some ⟨b37, 0, none⟩) (((a0.length : Int) * (a0.length : Int)).toNat) (((a0.length : Int) * (a0.length : Int)).toNat) d_110, t1 Fl.i 3 (some ⟨b21, 0, none⟩) a0.length a0.length d_111, t1 Fl.i 3 cx dk cy lv]) ⟨agr, hO, cL.u, fr⟩ ?_
  refine fun X2 => p1 fun dr => p1 fun k2_106 => p1 fun fd => p1 fun d_108 => p3 fun oO d_110 d_111 lv => fun H hX2 σ mb => d3 fun hag hO cL hB => ?_
  dsimp only at H
  refine Go1.keep _ hag ?_
  revert hO; repeat (rename Owns _ _ _ _ => q; clear q)
  intro hO; repeat (rename Sq _ _ _ _ _ _ => q; clear q)
  refine au ?_
  refine scm H (fun ft H => ?_) fun ft H => ?_
  ·refine au ?_
   refine sxl hO cL H.1 H.2.1 ?_
   refine au ?_
   refine sxls hO cR.u H.2.2.1 H.2.2.2.1 fun Fk Fm vT => ?_
   refine op1 0 hO fun Ap s hO vU => ?_
   have hobt := ocopy Fl.i rfl Try.underlying31 ti3 0 hO rfl vU.u vT.u
   obtain ⟨lU, Aq, fH, kl, sv⟩ := hobt
   refine zg (sv (by exact rfl) (by exact rfl)) ?_
   refine nst fH fun s hO => ?_
   refine au ?_
   refine GoR.inl (vs := [.pointer (some ⟨b69, 0, none⟩), .slice p90 a0.length a0.length]) (caps := []) rfl rfl body124 Try.func124 rfl Try.ntmps124 rfl rfl rfl ?_
   intro RhR124 hR124
   refine au ?_
   replace H := H.2.2.2.2
   obtain ⟨mW, H⟩ := H
   refine zo (J0e rfl rfl (wrap_i64 mW)) ?_
   refine au ?_
   refine sbs 1 hO fun qV s hO => ?_
   refine au ?_
   refine sbs 1 hO fun Fo s hO => ?_
   refine au ?_
   refine sln1 5 hO ?_
   refine au ?_
   refine cl1 Fl.i 0 hO kl.u fun s hO => ?_
   refine lw H (fun (eF, fO, ic, lA, d_133, dM) σ w => (fun Z => agrees σ [(0, .pointer (some ⟨b69, 0, none⟩)), (1, .slice p90 a0.length a0.length), (4, .slice (some ⟨b21, 0, none⟩) a0.length a0.length), (25, .slice cx dk cy), (26, .int .i64 (lv.length : Int)), (27, .int .i64 (eF : Int))] ∧ Owns w0.heap.size w Z A ∧ ISl (Rp.int .i64) (bl Z ++ A) w eA eB r87 ∧ Fr (bl []) w0 (bl Z) w) [t1 Fl.i 3 p90 a0.length a0.length ((ix a0 (ix r87 (dr : Int))).take d_108.length ++ d_108.drop (ix a0 (ix r87 (dr : Int))).length), .blk b69 (.cells #[.slice cx dk cy, .slice (some ⟨b21, 0, none⟩) a0.length a0.length, .int .i64 fO, .int .i64 (fd + (1 : Int)), .slice (some ⟨b37, 0, none⟩) (((a0.length : Int) * (a0.length : Int)).toNat) (((a0.length : Int) * (a0.length : Int)).toNat), .slice (some ⟨b53, 0, none⟩) (((a0.length : Int) * (a0.length : Int)).toNat) (((a0.length : Int) * (a0.length : Int)).toNat)] 145 (0, 0)), t1 Fl.i 3 (some ⟨b53, 0, none⟩) (((a0.length : Int) * (a0.length : Int)).toNat) (((a0.length : Int) * (a0.length : Int)).toNat) ic, t1 Fl.i 3 (some ⟨b37, 0, none⟩) (((a0.length : Int) * (a0.length : Int)).toNat) (((a0.length : Int) * (a0.length : Int)).toNat) lA, t1 Fl.i 3 (some ⟨b21, 0, none⟩) a0.length a0.length d_133, t1 Fl.i 3 cx dk cy dM]) ⟨agr, hO, cL.u, fr⟩ ?_
   refine fun X3 => p1 fun eF => p1 fun fO => p3 fun ic lA d_133 dM => fun H hX3 σ mf => d3 fun hag hO cL hB => ?_
   dsimp only at H
   refine Go1.keep _ hag ?_
   revert hO; repeat (rename Owns _ _ _ _ => q; clear q)
   intro hO; repeat (rename Sq _ _ _ _ _ _ => q; clear q)
   refine au ?_
   refine scm H (fun zB H => ?_) fun zB H => ?_
   ·refine au ?_
    refine sxl1 5 hO H.1 H.2.1 ?_
    refine au ?_
    refine drw 0 [(0, .pure), (1, .pure), (2, .pure), (3, .pure), (4, .stable), (5, .pure), (6, .pure), (7, .pure), (8, .pure), (9, .pure), (10, .stable), (11, .pure), (12, .pure), (13, .pure), (14, .stable), (15, .pure), (16, .stable), (17, .pure), (18, .pure)] hO fun Fp s hO => ?_
    refine au ?_
    refine sln1 5 hO ?_
    have Fq := H.1
    have Fs := H.2.1
    replace H := H.2.2
    obtain ⟨zC, H⟩ := H
    refine GoQ.pure rfl (J60 rfl rfl (wrap_i64 zC)) rfl rfl ?_
    refine au ?_
    refine sxl1 0 hO H.1 H.2.1 ?_
    refine sxl1 5 hO H.2.2.1 H.2.2.2.1 ?_
    have qY := H.1
    have Ft := H.2.1
    have Fu := H.2.2.1
    have sq := H.2.2.2.1
    replace H := H.2.2.2.2
    obtain ⟨nF, H⟩ := H
    refine GoQ.pure rfl (J0e rfl rfl (wrap_i64 nF)) rfl rfl ?_
    refine au ?_
    refine drw 0 [(0, .pure), (1, .pure), (2, .pure), (3, .stable), (4, .pure), (5, .pure), (6, .stable), (7, .pure), (8, .pure), (9, .pure), (10, .stable), (11, .pure)] hO fun pI s hO => ?_
    refine au ?_
    refine sxl1 3 hO H.1 H.2.1 ?_
    refine au ?_
    have Fv := H.1
    have Fw := H.2.1
    refine scm H.2.2 (fun zD H => ?_) fun zD H => ?_
    ·refine au ?_
     refine sxl1 2 hO H.1 H.2.1 ?_
     refine six1 4 hO H.2.2.1 H.2.2.2.1 ?_
     refine sst (u := (ix ic (((ix dM (eF : Int)) * (dM.length : Int)) + (ix dM (ix ((ix a0 (ix r87 (dr : Int))).take d_108.length ++ d_108.drop (ix a0 (ix r87 (dr : Int))).length) (eF : Int)))))) 4 hO H.2.2.1 H.2.2.2.1 fun qt s hO => ?_
     refine au ?_
     have rf := H.1
     have Fx := H.2.1
     have o5 := H.2.2.1
     have Fy := H.2.2.2.1
     replace H := H.2.2.2.2
     obtain ⟨mg, H⟩ := H
     refine zo (J0e rfl rfl (wrap_i64 mg)) ?_
     refine au ?_
     exact hX3 _ H _ _ ⟨agr, hO, cL.u, fr⟩
    refine au ?_
    refine drw 1 [(0, .pure), (1, .pure), (2, .pure), (3, .stable), (4, .pure), (5, .pure), (6, .pure), (7, .pure), (8, .stable), (9, .pure), (10, .last)] hO fun o7 s hO => ?_
    refine au ?_
    refine six1 3 hO H.1 H.2.1 ?_
    refine sst (u := (fd + (1 : Int))) 3 hO H.1 H.2.1 fun wz s hO => ?_
    refine au ?_
    refine drw 1 [(0, .pure), (1, .pure), (2, .pure), (3, .stable), (4, .pure), (5, .pure), (6, .pure), (7, .pure), (8, .stable), (9, .pure), (10, .last)] hO fun xT s hO => ?_
    refine au ?_
    refine six1 2 hO H.2.2.1 H.2.2.2.1 ?_
    refine sst (u := fO) 2 hO H.2.2.1 H.2.2.2.1 fun xU s hO => ?_
    refine au ?_
    have kX := H.1
    have kY := H.2.1
    have Fz := H.2.2.1
    have FA := H.2.2.2.1
    replace H := H.2.2.2.2
    obtain ⟨zE, H⟩ := H
    refine zo (J0e rfl rfl (wrap_i64 zE)) ?_
    refine au ?_
    refine sbs 1 hO fun pP s hO => ?_
    refine au ?_
    refine sxl1 2 hO H.1 H.2.1 ?_
    refine six1 4 hO H.2.2.1 H.2.2.2.1 ?_
    refine sst (u := (ix (st ic (((ix dM (eF : Int)) * (dM.length : Int)) + (ix dM (ix ((ix a0 (ix r87 (dr : Int))).take d_108.length ++ d_108.drop (ix a0 (ix r87 (dr : Int))).length) (eF : Int)))) fO) (((ix dM (eF : Int)) * (dM.length : Int)) + (ix dM (ix ((ix a0 (ix r87 (dr : Int))).take d_108.length ++ d_108.drop (ix a0 (ix r87 (dr : Int))).length) (eF : Int)))))) 4 hO H.2.2.1 H.2.2.2.1 fun FB s hO => ?_
    refine au ?_
    have kq := H.1
    have FC := H.2.1
    have wC := H.2.2.1
    have wD := H.2.2.2.1
    replace H := H.2.2.2.2
    obtain ⟨lV, H⟩ := H
    refine zo (J0e rfl rfl (wrap_i64 lV)) ?_
    refine au ?_
    exact hX3 _ H _ _ ⟨agr, hO, cL.u, fr⟩
   refine au ?_
   refine sbs 1 hO fun lW s hO => ?_
   refine au ?_
   refine sbs 1 hO fun mh s hO => ?_
   refine au ?_
   refine Go1.fin0V Try.func124 rfl ?_
   refine hR124 _ _ ?_
   refine au ?_
   refine sln0 ?_
   refine au ?_
   refine lw H (fun (ke, fY) σ w => (fun Z => agrees σ [(0, .slice cS a0.length cU), (6, .pointer (some ⟨b69, 0, none⟩)), (7, .slice eA r87.length eB), (8, .slice p90 a0.length a0.length), (9, .int .i64 je), (11, .int .i64 (ix r87 (dr : Int))), (56, .slice eA r87.length eB), (57, .int .i64 (r87.length : Int)), (58, .int .i64 (dr : Int)), (71, .int .i64 (a0.length : Int)), (72, .int .i64 (ke : Int))] ∧ Owns w0.heap.size w Z A ∧ ISl (Rp.int .i64) (bl Z ++ A) w eA eB r87 ∧ Fr (bl []) w0 (bl Z) w) [t1 Fl.i 3 p90 a0.length a0.length fY, .blk b69 (.cells #[.slice (some ⟨b21, 0, none⟩) a0.length a0.length, .slice cx dk cy, .int .i64 fO, .int .i64 (fd + (1 : Int)), .slice (some ⟨b37, 0, none⟩) (((a0.length : Int) * (a0.length : Int)).toNat) (((a0.length : Int) * (a0.length : Int)).toNat), .slice (some ⟨b53, 0, none⟩) (((a0.length : Int) * (a0.length : Int)).toNat) (((a0.length : Int) * (a0.length : Int)).toNat)] 145 (0, 0)), t1 Fl.i 3 (some ⟨b53, 0, none⟩) (((a0.length : Int) * (a0.length : Int)).toNat) (((a0.length : Int) * (a0.length : Int)).toNat) ic, t1 Fl.i 3 (some ⟨b37, 0, none⟩) (((a0.length : Int) * (a0.length : Int)).toNat) (((a0.length : Int) * (a0.length : Int)).toNat) lA, t1 Fl.i 3 (some ⟨b21, 0, none⟩) a0.length a0.length d_133, t1 Fl.i 3 cx dk cy dM]) ⟨agr, hO, cL.u, fr⟩ ?_
   refine fun X4 => p1 fun ke fY => fun H hX4 σ rk => d3 fun hag hO cL hB => ?_
   dsimp only at H
   refine Go1.keep _ hag ?_
   revert hO; repeat (rename Owns _ _ _ _ => q; clear q)
   intro hO; repeat (rename Sq _ _ _ _ _ _ => q; clear q)
   refine au ?_
   refine scm H (fun sw H => ?_) fun sw H => ?_
   ·refine au ?_
    refine sxls hO cR.u H.1 H.2.1 fun xm xn gF => ?_
    refine au ?_
    refine sxl hO gF.u H.2.2.1 H.2.2.2.1 ?_
    refine six1 0 hO H.2.2.2.2.1 H.2.2.2.2.2.1 ?_
    refine sst (u := (ix (ix a0 (ke : Int)) (ix r87 (dr : Int)))) 0 hO H.2.2.2.2.1 H.2.2.2.2.2.1 fun xp s hO => ?_
    refine au ?_
    refine sinc (natbd sw cR.bd) ?_
    refine au ?_
    exact hX4 _ H.2.2.2.2.2.2 _ _ ⟨agr, hO, cL.u, fr⟩
   refine au ?_
   refine GoR.inl (vs := [.pointer (some ⟨b69, 0, none⟩), .slice p90 a0.length a0.length]) (caps := []) rfl rfl body124 Try.func124 rfl Try.ntmps124 rfl rfl rfl ?_
   intro RhR181 hR181
   refine au ?_
   obtain ⟨zF, H⟩ := H
   refine zo (J0e rfl rfl (wrap_i64 zF)) ?_
   refine au ?_
   refine sbs 1 hO fun pc s hO => ?_
   refine au ?_
   refine sbs 1 hO fun pe s hO => ?_
   refine au ?_
   refine sln1 4 hO ?_
   refine au ?_
   refine lw H (fun (eG, ie, jf, oP, d6, oQ) σ w => (fun Z => agrees σ [(0, .pointer (some ⟨b69, 0, none⟩)), (1, .slice p90 a0.length a0.length), (4, .slice cx dk cy), (25, .slice (some ⟨b21, 0, none⟩) a0.length a0.length), (26, .int .i64 (d_133.length : Int)), (27, .int .i64 (eG : Int))] ∧ Owns w0.heap.size w Z A ∧ ISl (Rp.int .i64) (bl Z ++ A) w eA eB r87 ∧ Fr (bl []) w0 (bl Z) w) [t1 Fl.i 3 p90 a0.length a0.length fY, .blk b69 (.cells #[.slice (some ⟨b21, 0, none⟩) a0.length a0.length, .slice cx dk cy, .int .i64 ie, .int .i64 ((fd + (1 : Int)) + (1 : Int)), .slice (some ⟨b37, 0, none⟩) (((a0.length : Int) * (a0.length : Int)).toNat) (((a0.length : Int) * (a0.length : Int)).toNat), .slice (some ⟨b53, 0, none⟩) (((a0.length : Int) * (a0.length : Int)).toNat) (((a0.length : Int) * (a0.length : Int)).toNat)] 145 (0, 0)), t1 Fl.i 3 (some ⟨b53, 0, none⟩) (((a0.length : Int) * (a0.length : Int)).toNat) (((a0.length : Int) * (a0.length : Int)).toNat) jf, t1 Fl.i 3 (some ⟨b37, 0, none⟩) (((a0.length : Int) * (a0.length : Int)).toNat) (((a0.length : Int) * (a0.length : Int)).toNat) oP, t1 Fl.i 3 (some ⟨b21, 0, none⟩) a0.length a0.length d6, t1 Fl.i 3 cx dk cy oQ]) ⟨agr, hO, cL.u, fr⟩ ?_
   refine fun X5 => p1 fun eG => p1 fun ie => p3 fun jf oP d6 oQ => fun H hX5 σ FD => d3 fun hag hO cL hB => ?_
   dsimp only at H
   refine Go1.keep _ hag ?_
   revert hO; repeat (rename Owns _ _ _ _ => q; clear q)
   intro hO; repeat (rename Sq _ _ _ _ _ _ => q; clear q)
   refine au ?_
   refine scm H (fun zG H => ?_) fun zG H => ?_
   ·refine au ?_
    refine sxl1 4 hO H.1 H.2.1 ?_
    refine au ?_
    refine drw 0 [(0, .pure), (1, .pure), (2, .pure), (3, .pure), (4, .stable), (5, .pure), (6, .pure), (7, .pure), (8, .pure), (9, .pure), (10, .stable), (11, .pure), (12, .pure), (13, .pure), (14, .stable), (15, .pure), (16, .stable), (17, .pure), (18, .pure)] hO fun xr s hO => ?_
    refine au ?_
    refine sln1 4 hO ?_
    have pg := H.1
    have FE := H.2.1
    replace H := H.2.2
    obtain ⟨ph, H⟩ := H
    refine GoQ.pure rfl (J60 rfl rfl (wrap_i64 ph)) rfl rfl ?_
    refine au ?_
    refine sxl1 0 hO H.1 H.2.1 ?_
    refine sxl1 4 hO H.2.2.1 H.2.2.2.1 ?_
    have wJ := H.1
    have ks := H.2.1
    have ro := H.2.2.1
    have FF := H.2.2.2.1
    replace H := H.2.2.2.2
    obtain ⟨zH, H⟩ := H
    refine GoQ.pure rfl (J0e rfl rfl (wrap_i64 zH)) rfl rfl ?_
    refine au ?_
    refine drw 0 [(0, .pure), (1, .pure), (2, .pure), (3, .stable), (4, .pure), (5, .pure), (6, .stable), (7, .pure), (8, .pure), (9, .pure), (10, .stable), (11, .pure)] hO fun xW s hO => ?_
    refine au ?_
    refine sxl1 3 hO H.1 H.2.1 ?_
    refine au ?_
    have FG := H.1
    have FH := H.2.1
    refine scm H.2.2 (fun zI H => ?_) fun zI H => ?_
    ·refine au ?_
     refine sxl1 2 hO H.1 H.2.1 ?_
     refine six1 5 hO H.2.2.1 H.2.2.2.1 ?_
     refine sst (u := (ix jf (((ix d6 (eG : Int)) * (d6.length : Int)) + (ix d6 (ix fY (eG : Int)))))) 5 hO H.2.2.1 H.2.2.2.1 fun xX s hO => ?_
     refine au ?_
     have FI := H.1
     have pY := H.2.1
     have FJ := H.2.2.1
     have rp := H.2.2.2.1
     replace H := H.2.2.2.2
     obtain ⟨mX, H⟩ := H
     refine zo (J0e rfl rfl (wrap_i64 mX)) ?_
     refine au ?_
     exact hX5 _ H _ _ ⟨agr, hO, cL.u, fr⟩
    refine au ?_
    refine drw 1 [(0, .pure), (1, .pure), (2, .pure), (3, .stable), (4, .pure), (5, .pure), (6, .pure), (7, .pure), (8, .stable), (9, .pure), (10, .last)] hO fun FK s hO => ?_
    refine au ?_
    refine six1 3 hO H.1 H.2.1 ?_
    refine sst (u := ((fd + (1 : Int)) + (1 : Int))) 3 hO H.1 H.2.1 fun FL s hO => ?_
    refine au ?_
    refine drw 1 [(0, .pure), (1, .pure), (2, .pure), (3, .stable), (4, .pure), (5, .pure), (6, .pure), (7, .pure), (8, .stable), (9, .pure), (10, .last)] hO fun FM s hO => ?_
    refine au ?_
    refine six1 2 hO H.2.2.1 H.2.2.2.1 ?_
    refine sst (u := ie) 2 hO H.2.2.1 H.2.2.2.1 fun FN s hO => ?_
    refine au ?_
    have FO := H.1
    have FP := H.2.1
    have FQ := H.2.2.1
    have qD := H.2.2.2.1
    replace H := H.2.2.2.2
    obtain ⟨zJ, H⟩ := H
    refine zo (J0e rfl rfl (wrap_i64 zJ)) ?_
    refine au ?_
    refine sbs 1 hO fun FS s hO => ?_
    refine au ?_
    refine sxl1 2 hO H.1 H.2.1 ?_
    refine six1 5 hO H.2.2.1 H.2.2.2.1 ?_
    refine sst (u := (ix (st jf (((ix d6 (eG : Int)) * (d6.length : Int)) + (ix d6 (ix fY (eG : Int)))) ie) (((ix d6 (eG : Int)) * (d6.length : Int)) + (ix d6 (ix fY (eG : Int)))))) 5 hO H.2.2.1 H.2.2.2.1 fun xv s hO => ?_
    refine au ?_
    have FT := H.1
    have FU := H.2.1
    have FV := H.2.2.1
    have rs := H.2.2.2.1
    replace H := H.2.2.2.2
    obtain ⟨mY, H⟩ := H
    refine zo (J0e rfl rfl (wrap_i64 mY)) ?_
    refine au ?_
    exact hX5 _ H _ _ ⟨agr, hO, cL.u, fr⟩
   refine au ?_
   refine sbs 1 hO fun xY s hO => ?_
   refine au ?_
   refine sbs 1 hO fun xw s hO => ?_
   refine au ?_
   refine Go1.fin0V Try.func124 rfl ?_
   refine hR181 _ _ ?_
   refine au ?_
   refine sinc (natbd ft cL.bd) ?_
   refine au ?_
   exact hX2 _ H _ _ ⟨agr, hO, cL.u, fr⟩
  refine au ?_
  exact hX1 _ H _ _ ⟨agr, hO, cL.u, fr⟩
 refine au ?_
 refine Go1.ret1 Try.func87 rfl ⟨_, _, _, ?_, frs, (ISl.null _ _ _), H⟩
 exact rfl
theorem body50 : Body Try.prog 50 := ⟨Try.f50, Try.func50, rfl, by kernel_rfl⟩
theorem J35 {A : List Nat} {w0 : World} {p_t : Option Addr} {c_t : Nat} {ig : Option Addr} {ii : Nat} {t : List (List Int)} {set_ : List Bool} (hA : ∀ b ∈ A, b < w0.heap.size) (h_t : ISl (Rp.sl (Rp.int .i64)) A w0 p_t c_t t) (ik : ISl (Rp.bool) A w0 ig ii set_) {K : List Int → Prop} (H : J0I t set_ K) :
    CallsV Try.prog 50 #[.slice p_t t.length c_t, .slice ig set_.length ii] w0 (fun v w' => ∃ (r0 : List Int), ∃ (cC : Option Addr), ∃ (cD : Nat), v = .slice cC r0.length cD ∧ Same w0 w' ∧ ISl (Rp.int .i64) A w' cC cD r0 ∧ K r0) := by
 refine CallsV.of (l := [.slice p_t t.length c_t, .slice ig set_.length ii]) Try.func50 rfl Try.ntmps50 rfl ?_
 have hO := Owns.start hA
 have hB := Fr.refl (bl []) w0
 unfold J0I at H
 refine au ?_
 refine sln0 ?_
 refine au ?_
 refine sln0 ?_
 refine scm ((H ik.bd) h_t.bd) (fun h1 H => ?_) fun h1 H => ?_
 ·refine au ?_
  refine zcr (J00 body54 rfl (J3x hO.lt h_t.u H)) fun _ w3 => e1 fun r2 => sc0 hO fun s hO => fun H => ?_
  refine scm H (fun h4 H => ?_) fun h4 H => ?_
  ·refine au ?_
   refine sln0 ?_
   refine smk Fl.i H hO fun w5 p6 s hO => ?_
   refine au ?_
   refine sln0 ?_
   refine au ?_
   refine lw H.2.2 (fun (k1_9, labels1_10) σ w => (fun Z => agrees σ [(0, .slice p_t t.length c_t), (5, .slice p6 t.length t.length), (21, .slice ig set_.length ii), (22, .int .i64 (set_.length : Int)), (23, .int .i64 (k1_9 : Int))] ∧ Owns w0.heap.size w Z A ∧ Fr (bl []) w0 (bl Z) w) [t1 Fl.i 3 p6 t.length t.length labels1_10]) ⟨agr, hO, fr⟩ ?_
   refine fun X1 => p1 fun k1_9 labels1_10 => fun H hX1 σ w8 => d2 fun hag hO hB => ?_
   dsimp only at H
   refine Go1.keep _ hag ?_
   revert hO; repeat (rename Owns _ _ _ _ => q; clear q)
   intro hO; repeat (rename Sq _ _ _ _ _ _ => q; clear q)
   refine au ?_
   refine scm H (fun h11 H => ?_) fun h11 H => ?_
   ·refine au ?_
    have h12 := H.1
    have h13 := H.2.1
    refine sxb hO ik.u H.1 H.2.1 H.2.2 (fun h14 H => ?_) fun h14 H => ?_
    ·refine au ?_
     refine six1 0 hO H.1 H.2.1 ?_
     refine sst (u := (1 : Int)) 0 hO H.1 H.2.1 fun w15 s hO => ?_
     refine au ?_
     refine sinc (natbd h11 ik.bd) ?_
     refine au ?_
     exact hX1 _ H.2.2 _ _ ⟨agr, hO, fr⟩
    refine au ?_
    refine sinc (natbd h11 ik.bd) ?_
    refine au ?_
    exact hX1 _ H _ _ ⟨agr, hO, fr⟩
   refine au ?_
   refine sfz 0 hO fun s hO fq lQ => ?_
   refine zcr (J00 body88 (show ([.slice p6 t.length t.length] : List Value) = [.slice p6 labels1_10.length t.length] from by rw [← lQ]) (J2m hO.lt fq H)) fun _ w19 => e3 fun r18 Ar At => sc0 hO fun s hO => d1 fun vV H => ?_
   refine zcr (J00 body87 rfl (J3f hO.lt h_t.u vV H)) fun _ w21 => e3 fun r20 Au Aw => sc0 hO fun s hO => d1 fun vW H => ?_
   refine au ?_
   refine Go1.ret1 Try.func50 rfl ⟨_, _, _, ?_, frs, vW.r, H⟩
   exact rfl
  refine au ?_
  refine Go1.ret1 Try.func50 rfl ⟨_, _, _, ?_, frs, (ISl.null _ _ _), H⟩
  exact rfl
 refine au ?_
 refine Go1.ret1 Try.func50 rfl ⟨_, _, _, ?_, frs, (ISl.null _ _ _), H⟩
 exact rfl
theorem J1Q {A : List Nat} {w0 : World} {aS : Option Addr} {aT : Nat} {aY : Option Addr} {a8 : Nat} {a0 : DFA} (hA : ∀ b ∈ A, b < w0.heap.size) (b7 : ISl (Rp.bool) A w0 aS aT a0.Final) (cQ : ISl (Rp.sl (Rp.int .i64)) A w0 aY a8 a0.Next) {K : Bool → Prop} (H : law21_SyntacticReduced a0 K) :
    CallsV Try.prog 13 #[.agg #[.int .i64 a0.Letters, .int .i64 a0.Start, .slice aS a0.Final.length aT, .slice aY a0.Next.length a8]] w0 (fun v w' => ∃ (r0 : Bool), v = .bool r0 ∧ Same w0 w' ∧ K r0) := by
 refine CallsV.of (l := [.agg #[.int .i64 a0.Letters, .int .i64 a0.Start, .slice aS a0.Final.length aT, .slice aY a0.Next.length a8]]) Try.func13 rfl Try.ntmps13 rfl ?_
 have hO := Owns.start hA
 have hB := Fr.refl (bl []) w0
 unfold law21_SyntacticReduced at H
 refine au ?_
 refine sbx hO fun w1 B2 s hO => ?_
 refine au ?_
 refine zs (J0g (vs := [.int .i64 a0.Letters, .int .i64 a0.Start, .slice aS a0.Final.length aT, .slice aY a0.Next.length a8]) (i := 0) 0 hO rfl rfl Try.underlying25 rfl ti25 rfl) ?_
 refine zcr (J00 body17 rfl (J49 hO.lt b7.u cQ.u H)) fun _ w5 => e1 fun r4 => sc0 hO fun s hO => fun H => ?_
 cases r4
 ·refine au ?_
  refine zcr (J00 body18 rfl (J1v hO.lt (iF H))) fun _ w7 => e1 fun r6 => sc0 hO fun s hO => fun H => ?_
  refine au ?_
  refine Go1.ret1 Try.func13 rfl ⟨_, ?_, frs, H⟩
  exact rfl
 refine au ?_
 refine zs (J0g (vs := [.int .i64 a0.Letters, .int .i64 a0.Start, .slice aS a0.Final.length aT, .slice aY a0.Next.length a8]) (i := 0) 0 hO rfl rfl Try.underlying25 rfl ti25 rfl) ?_
 refine zcr (J00 body19 rfl (J1o hO.lt b7.u cQ.u (iT H))) fun _ w10 => e4 fun r8 r9 io ip => e4 fun iq iu gj gk => e4 fun gm gn iU iV => sc0 hO fun s hO => d1 fun dm => d4 fun d7 eC cP fo H => ?_
 refine au ?_
 refine sal hO fun w11 B12 s hO => ?_
 refine sba 0 hO fun w14 s hO => ?_
 refine au ?_
 refine zs (J0g (vs := [.int .i64 a0.Letters, .int .i64 a0.Start, .slice aS a0.Final.length aT, .slice aY a0.Next.length a8]) (i := 0) 1 hO rfl rfl Try.underlying25 rfl ti25 rfl) ?_
 refine zcr (J00 body46 rfl (J3p hO.lt b7.u cQ.u H)) fun _ w16 => e4 fun r15 sM sN vX => e1 fun vY => sc0 hO fun s hO => d2 fun kh lB H => ?_
 refine zcr (J00 body19 rfl (J1o hO.lt kh lB H)) fun _ w19 => e4 fun r17 r18 gq gt => e4 fun gv gx fP fQ => e4 fun fR fS iv iw => sc0 hO fun s hO => d1 fun du => d4 fun dJ d8 c8 eO H => ?_
 refine au ?_
 refine sal hO fun w20 B21 s hO => ?_
 refine sba 0 hO fun w23 s hO => ?_
 refine au ?_
 refine scm H (fun h24 H => ?_) fun h24 H => ?_
 ·refine au ?_
  refine sln0 ?_
  refine scm (H dm.bd) (fun h25 H => ?_) fun h25 H => ?_
  ·refine au ?_
   refine zcr (J00 body47 rfl (J1N hO.lt dm.u du.u H)) fun _ w27 => e1 fun r26 => sc0 hO fun s hO => fun H => ?_
   refine au ?_
   cases r26
   ·refine au ?_
    refine Go1.ret1 Try.func13 rfl ⟨_, ?_, frs, (iF H)⟩
    exact rfl
   refine zcr (J00 body18 rfl (J1v hO.lt (iT H))) fun _ w29 => e1 fun r28 => sc0 hO fun s hO => fun H => ?_
   refine au ?_
   refine Go1.ret1 Try.func13 rfl ⟨_, ?_, frs, H⟩
   exact rfl
  refine au ?_
  refine zo (fun w => opB (J3I rfl rfl w) (ndT h24)) ?_
  refine au ?_
  refine scm H (fun h30 H => ?_) fun h30 H => ?_
  ·refine au ?_
   refine zcr (J00 body47 rfl (J1N hO.lt dm.u du.u H)) fun _ w32 => e1 fun r31 => sc0 hO fun s hO => fun H => ?_
   cases r31
   ·refine au ?_
    refine Go1.ret1 Try.func13 rfl ⟨_, ?_, frs, (iF H)⟩
    exact rfl
   refine au ?_
   refine zcr (J00 body48 rfl (J2T hO.lt d7.u dJ.u (iT H))) fun _ w34 => e1 fun r33 => sc0 hO fun s hO => fun H => ?_
   cases r33
   ·refine au ?_
    refine Go1.ret1 Try.func13 rfl ⟨_, ?_, frs, (iF H)⟩
    exact rfl
   refine au ?_
   refine sln0 ?_
   refine au ?_
   refine sln0 ?_
   refine scm (((iT H) cP.bd) c8.bd) (fun h35 H => ?_) fun h35 H => ?_
   ·refine au ?_
    refine sln0 ?_
    refine au ?_
    refine sdr [2] hO fun s hO => ?_
    refine lw H (fun oR σ w => (fun Z => agrees σ [(3, .pointer (some ⟨B12, 0, none⟩)), (5, .pointer (some ⟨B21, 0, none⟩)), (72, .int .i64 (r8.Accept.length : Int)), (73, .int .i64 (oR : Int))] ∧ Owns w0.heap.size w Z A ∧ ISl (Rp.sl (Rp.int .i64)) (bl Z ++ A) w io ip r8.Table ∧ ISl (Rp.str) (bl Z ++ A) w iq iu r8.Words ∧ ISl (Rp.int .i64) (bl Z ++ A) w gj gk r8.Images ∧ ISl (Rp.bool) (bl Z ++ A) w gm gn r8.Accept ∧ ISl (Rp.bool) (bl Z ++ A) w iU iV r8.Plus ∧ ISl (Rp.sl (Rp.int .i64)) (bl Z ++ A) w gq gt r17.Table ∧ ISl (Rp.str) (bl Z ++ A) w gv gx r17.Words ∧ ISl (Rp.int .i64) (bl Z ++ A) w fP fQ r17.Images ∧ ISl (Rp.bool) (bl Z ++ A) w fR fS r17.Accept ∧ ISl (Rp.bool) (bl Z ++ A) w iv iw r17.Plus ∧ Fr (bl []) w0 (bl Z) w) [.blk B21 (.cells #[.int .i64 r17.Letters, .slice gq r17.Table.length gt, .slice gv r17.Words.length gx, .slice fP r17.Images.length fQ, .slice fR r17.Accept.length fS, .slice iv r17.Plus.length iw] 33 (0, 0)), .blk B12 (.cells #[.int .i64 r8.Letters, .slice io r8.Table.length ip, .slice iq r8.Words.length iu, .slice gj r8.Images.length gk, .slice gm r8.Accept.length gn, .slice iU r8.Plus.length iV] 33 (0, 0))]) ⟨agr, hO, dm.u, d7.u, eC.u, cP.u, fo.u, du.u, dJ.u, d8.u, c8.u, eO.u, fr⟩ ?_
    refine fun X1 => fun oR => fun H hX1 σ w36 => d1 fun hag => d1 fun hO => d1 fun dm => d1 fun d7 => d1 fun eC => d1 fun cP => d1 fun fo => d1 fun du => d4 fun dJ d8 c8 eO hB => ?_
    refine Go1.keep _ hag ?_
    revert hO; repeat (rename Owns _ _ _ _ => q; clear q)
    intro hO; repeat (rename Sq _ _ _ _ _ _ => q; clear q)
    refine au ?_
    refine scm H (fun h38 H => ?_) fun h38 H => ?_
    ·refine au ?_
     refine drw 0 [(0, .pure), (1, .stable), (2, .pure), (3, .pure), (4, .stable), (5, .pure), (6, .stable), (7, .pure), (8, .pure), (9, .stable), (10, .pure)] hO fun w39 s hO => ?_
     refine au ?_
     have h40 := H.1
     have h41 := H.2.1
     refine sxb hO cP.u H.1 H.2.1 H.2.2 (fun h42 H => ?_) fun h42 H => ?_
     ·refine au ?_
      have h43 := H.1
      have h44 := H.2.1
      refine sxb hO c8.u H.1 H.2.1 H.2.2 (fun h45 H => ?_) fun h45 H => ?_
      ·refine GoQ.pure rfl (J4T Try.underlying4 rfl rfl) rfl rfl ?_
       refine au ?_
       refine Go1.ret1 Try.func13 rfl ⟨_, ?_, frs, H⟩
       exact rfl
      refine GoQ.pure rfl (J4T Try.underlying4 rfl rfl) rfl rfl ?_
      refine au ?_
      refine sinc (natbd h38 cP.bd) ?_
      refine au ?_
      exact hX1 _ H _ _ ⟨agr, hO, dm.u, d7.u, eC.u, cP.u, fo.u, du.u, dJ.u, d8.u, c8.u, eO.u, fr⟩
     refine au ?_
     have h46 := H.1
     have h47 := H.2.1
     refine sxb hO c8.u H.1 H.2.1 H.2.2 (fun h48 H => ?_) fun h48 H => ?_
     ·refine GoQ.pure rfl (J4T Try.underlying4 rfl rfl) rfl rfl ?_
      refine au ?_
      refine sinc (natbd h38 cP.bd) ?_
      refine au ?_
      exact hX1 _ H _ _ ⟨agr, hO, dm.u, d7.u, eC.u, cP.u, fo.u, du.u, dJ.u, d8.u, c8.u, eO.u, fr⟩
     refine GoQ.pure rfl (J4T Try.underlying4 rfl rfl) rfl rfl ?_
     refine au ?_
     refine Go1.ret1 Try.func13 rfl ⟨_, ?_, frs, H⟩
     exact rfl
    refine au ?_
    refine drw 0 [(0, .pure), (1, .stable), (2, .pure), (3, .stable), (5, .pure), (6, .stable), (7, .pure), (4, .loud), (8, .loud), (9, .loud), (10, .pure), (11, .pure), (12, .stable), (13, .pure), (14, .pure), (15, .pure), (16, .pure), (17, .loud), (18, .pure), (19, .pure)] hO fun w49 s hO => ?_
    refine au ?_
    refine sln0 ?_
    refine zcq rfl (J00 body50 rfl (J35 hO.lt dm.u cP.u H)) fun _ w51 => e3 fun r50 Ax Ay => sq0 hO fun s hO => d1 fun v5 H => ?_
    refine zcq rfl (J00 body51 rfl (J3n hO.lt H)) fun _ w53 => e3 fun r52 Az AA => sq0 hO fun s hO => d1 fun v6 H => ?_
    refine zcq rfl (J00 body49 rfl (J2U hO.lt v5.u v6 H)) fun _ w55 => e1 fun r54 => sq0 hO fun s hO => fun H => ?_
    refine au ?_
    cases r54
    ·refine au ?_
     refine Go1.ret1 Try.func13 rfl ⟨_, ?_, frs, (iF H)⟩
     exact rfl
    refine au ?_
    refine sln0 ?_
    refine scm (iT H) (fun h56 H => ?_) fun h56 H => ?_
    ·refine au ?_
     refine zcq rfl (J00 body18 rfl (J1v hO.lt H)) fun _ w58 => e1 fun r57 => sq0 hO fun s hO => fun H => ?_
     refine au ?_
     refine Go1.ret1 Try.func13 rfl ⟨_, ?_, frs, H⟩
     exact rfl
    refine au ?_
    refine Go1.ret1 Try.func13 rfl ⟨_, ?_, frs, H⟩
    exact rfl
   refine au ?_
   refine Go1.ret1 Try.func13 rfl ⟨_, ?_, frs, H⟩
   exact rfl
  refine au ?_
  refine Go1.ret1 Try.func13 rfl ⟨_, ?_, frs, H⟩
  exact rfl
 refine au ?_
 refine zo (fun w => opB (J3I rfl rfl w) (ndF h24)) ?_
 refine au ?_
 refine Go1.ret1 Try.func13 rfl ⟨_, ?_, frs, H⟩
 exact rfl
end Sg
