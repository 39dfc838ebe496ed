/- -/
import Derived.Test.YtlneebpmblkllaaVd
import Derived.Test.YtlneebpmblkllaaWSyntacticMonoids
namespace Sg
open Go Go.RowKit Go.Proofs
set_option linter.unusedVariables false
set_option linter.unusedSimpArgs false
set_option maxRecDepth 100000
set_option maxHeartbeats 4000000
theorem body155 : Body Try.prog 155 := ⟨Try.f155, Try.func155, rfl, by kernel_rfl⟩
theorem body131 : Body Try.prog 131 := ⟨Try.f131, Try.func131, rfl, by kernel_rfl⟩
theorem J3d {A : List Nat} {w0 : World} {jD : Option Addr} {jE : Nat} {a0 : List (List Int)} {a1 : Bool} (hA : ∀ b ∈ A, b < w0.heap.size) (jF : ISl (Rp.sl (Rp.int .i64)) A w0 jD jE a0) {K : Option run → Int → Prop} (H : J0T a0 a1 K) :
    CallsV Try.prog 131 #[.slice jD a0.length jE, .bool a1] w0 (fun v w' => (∃ (r1 : Int), v = .tuple #[.pointer none, .int .i64 r1] ∧ Same w0 w' ∧ K none r1) ∨ (∃ (q : run) (r1 : Int) (b_q aH : Nat) (aI : Option Addr) (aJ : Nat) (cb : List Value) (av : Nat) (aw : Option Addr) (ax : Nat) (bN : List Value) (am : Nat) (ao : Option Addr) (ap aK : Nat) (aL : Option Addr) (aM ay : Nat) (az : Option Addr) (aA : Nat) (bO : List Value) (aB : Nat) (aC : Option Addr) (aD dn cf : Nat) (cg : Option Addr) (ci bF : Nat) (bG : Option Addr) (bH bI : Nat) (bK : Option Addr) (bM : Nat), v = .tuple #[.pointer (some ⟨b_q, 0, none⟩), .int .i64 r1] ∧ Same w0 w' ∧ Owns w0.heap.size w' [.blk b_q (.cells #[.int .i64 q.Enum.Points, .bool q.Enum.Monoid, .slice aI aH aJ, .slice aw av ax, .slice ao am ap, .slice aL aK aM, .slice az ay aA, .slice aC aB aD, .int .i64 q.Enum.Done, .map (some dn), .slice cg cf ci, .slice bG bF bH, .slice bK bI bM] 156 (0, 0)), .row 31 1 aI aH aJ cb, .row 31 1 aw av ax bN, t1 Fl.i 3 ao am ap q.Enum.Prefix, t1 Fl.i 3 aL aK aM q.Enum.Last, .row 31 1 az ay aA bO, t1 (id Fl.fl : Fl rpRule) 185 aC aB aD q.Enum.Rules, t1 Fl.str 9 cg cf ci q.words, t1 Fl.i 3 bG bF bH q.behind, t1 Fl.i 3 bK bI bM q.single, .any (mapE (fun a : List UInt8 => Value.string (gstr a)) (fun a : Int => Value.int .i64 a) dn q.number)] A ∧ Els (Rp.sl (Rp.int .i64)) (bl [.blk b_q (.cells #[.int .i64 q.Enum.Points, .bool q.Enum.Monoid, .slice aI aH aJ, .slice aw av ax, .slice ao am ap, .slice aL aK aM, .slice az ay aA, .slice aC aB aD, .int .i64 q.Enum.Done, .map (some dn), .slice cg cf ci, .slice bG bF bH, .slice bK bI bM] 156 (0, 0)), .row 31 1 aI aH aJ cb, .row 31 1 aw av ax bN, t1 Fl.i 3 ao am ap q.Enum.Prefix, t1 Fl.i 3 aL aK aM q.Enum.Last, .row 31 1 az ay aA bO, t1 (id Fl.fl : Fl rpRule) 185 aC aB aD q.Enum.Rules, t1 Fl.str 9 cg cf ci q.words, t1 Fl.i 3 bG bF bH q.behind, t1 Fl.i 3 bK bI bM q.single, .any (mapE (fun a : List UInt8 => Value.string (gstr a)) (fun a : Int => Value.int .i64 a) dn q.number)] ++ A) w' cb q.Enum.Gens ∧ Els (Rp.sl (Rp.int .i64)) (bl [.blk b_q (.cells #[.int .i64 q.Enum.Points, .bool q.Enum.Monoid, .slice aI aH aJ, .slice aw av ax, .slice ao am ap, .slice aL aK aM, .slice az ay aA, .slice aC aB aD, .int .i64 q.Enum.Done, .map (some dn), .slice cg cf ci, .slice bG bF bH, .slice bK bI bM] 156 (0, 0)), .row 31 1 aI aH aJ cb, .row 31 1 aw av ax bN, t1 Fl.i 3 ao am ap q.Enum.Prefix, t1 Fl.i 3 aL aK aM q.Enum.Last, .row 31 1 az ay aA bO, t1 (id Fl.fl : Fl rpRule) 185 aC aB aD q.Enum.Rules, t1 Fl.str 9 cg cf ci q.words, t1 Fl.i 3 bG bF bH q.behind, t1 Fl.i 3 bK bI bM q.single, .any (mapE (fun a : List UInt8 => Value.string (gstr a)) (fun a : Int => Value.int .i64 a) dn q.number)] ++ A) w' bN q.Enum.Elems ∧ Els (Rp.sl (Rp.int .i64)) (bl [.blk b_q (.cells #[.int .i64 q.Enum.Points, .bool q.Enum.Monoid, .slice aI aH aJ, .slice aw av ax, .slice ao am ap, .slice aL aK aM, .slice az ay aA, .slice aC aB aD, .int .i64 q.Enum.Done, .map (some dn), .slice cg cf ci, .slice bG bF bH, .slice bK bI bM] 156 (0, 0)), .row 31 1 aI aH aJ cb, .row 31 1 aw av ax bN, t1 Fl.i 3 ao am ap q.Enum.Prefix, t1 Fl.i 3 aL aK aM q.Enum.Last, .row 31 1 az ay aA bO, t1 (id Fl.fl : Fl rpRule) 185 aC aB aD q.Enum.Rules, t1 Fl.str 9 cg cf ci q.words, t1 Fl.i 3 bG bF bH q.behind, t1 Fl.i 3 bK bI bM q.single, .any (mapE (fun a : List UInt8 => Value.string (gstr a)) (fun a : Int => Value.int .i64 a) dn q.number)] ++ A) w' bO q.Enum.Right ∧ K (some q) r1)) := by
 refine CallsV.of (l := [.slice jD a0.length jE, .bool a1]) Try.func131 rfl Try.ntmps131 rfl ?_
 have hO := Owns.start hA
 have hB := Fr.refl (bl []) w0
 unfold J0T at H
 refine sln0 ?_
 refine scm (H jF.bd) (fun h1 H => ?_) fun h1 H => ?_
 ·refine au ?_
  refine Go1.ret2 Try.func131 rfl (Or.inl ⟨_, ?_, frs, H⟩)
  exact rfl
 refine sln0 ?_
 refine scm H (fun h2 H => ?_) fun h2 H => ?_
 ·refine au ?_
  refine Go1.ret2 Try.func131 rfl (Or.inl ⟨_, ?_, frs, H⟩)
  exact rfl
 refine au ?_
 have zz := omakeMap (fun a : List UInt8 => Value.string (gstr a)) (fun a : Int => Value.int .i64 a) hO
 obtain ⟨w3, B4, vN, hs6, vO⟩ := zz
 refine zg vO ?_
 refine nst vN fun s hO => ?_
 refine zo (J0a Try.underlying156 ti156 (pl := [(0, 9), (9, 1), (10, 1), (11, 1), (12, 1)]) (vs := [(1, .map (some B4))]) (cs := #[.int .i64 (0 : Int), .bool false, .slice none 0 0, .slice none 0 0, .slice none 0 0, .slice none 0 0, .slice none 0 0, .slice none 0 0, .int .i64 (0 : Int), .map (some B4), .slice none 0 0, .slice none 0 0, .slice none 0 0]) (by kernel_rfl) rfl (by kernel_rfl)) ?_
 refine sbx hO fun w9 B10 s hO => ?_
 refine sxls hO jF.u H.1 H.2.1 fun p12 c13 iQ => ?_
 refine sln0 ?_
 refine sbs 0 hO fun w15 s hO => ?_
 refine sbs 0 hO fun w16 s hO => ?_
 refine sln0 ?_
 refine au ?_
 have sw := Stp.nil (e := 31) (r := 1) hO
 refine nst sw fun s hO => ?_
 have vP := elN (Rp.sl (Rp.int .i64)) hO
 refine lw (H.2.2 iQ.bd) (fun (k1_21, d_22) σ w => ∃ n27 p25 c26 gi, (fun Z => agrees σ [(1, .bool a1), (6, .pointer (some ⟨B10, 0, none⟩)), (39, .slice jD a0.length jE), (40, .int .i64 (a0.length : Int)), (41, .int .i64 (k1_21 : Int))] ∧ Owns w0.heap.size w Z A ∧ Els (Rp.sl (Rp.int .i64)) (bl Z ++ A) w gi d_22 ∧ Fr (bl []) w0 (bl Z) w) [.row 31 1 p25 n27 c26 gi, .blk B10 (.cells #[.int .i64 ((ix a0 (0 : Int)).length : Int), .bool a1, .slice p25 n27 c26, .slice none 0 0, .slice none 0 0, .slice none 0 0, .slice none 0 0, .slice none 0 0, .int .i64 (0 : Int), .map (some B4), .slice none 0 0, .slice none 0 0, .slice none 0 0] 156 (0, 0)), .any (mapE (fun a : List UInt8 => Value.string (gstr a)) (fun a : Int => Value.int .i64 a) B4 (([] : List (Str × Int))))]) ⟨_, _, _, _, agr, hO, vP.u, fr⟩ ?_
 refine fun X1 => p1 fun k1_21 d_22 => fun H hX1 σ w20 => e4 fun n27 p25 c26 gi => d3 fun hag hO de hB => ?_
 dsimp only at H
 refine Go1.keep _ hag ?_
 revert hO; repeat (rename Owns _ _ _ _ => q; clear q)
 intro hO; repeat (rename Sq _ _ _ _ _ _ => q; clear q)
 refine scm H (fun h28 H => ?_) fun h28 H => ?_
 ·refine sxls hO jF.u H.1 H.2.1 fun p29 c30 kI => ?_
  refine sln0 ?_
  refine au ?_
  have h32 := H.1
  have h33 := H.2.1
  refine scm (H.2.2 kI.bd) (fun h34 H => ?_) fun h34 H => ?_
  ·refine au ?_
   refine zcr (J00 body154 rfl (J1D hO.lt kI.u H)) fun _ w36 => e1 fun r35 => sc0 hO fun s hO => fun H => ?_
   cases r35
   ·refine au ?_
    refine Go1.ret2 Try.func131 rfl (Or.inl ⟨_, ?_, frs, (iF H)⟩)
    exact rfl
   refine au ?_
   refine drw 1 [(0, .pure), (1, .pure), (2, .pure), (3, .pure), (4, .pure), (5, .stable), (6, .pure), (7, .loud), (8, .loud), (9, .last), (10, .pure), (11, .pure), (12, .pure), (13, .last)] hO fun w37 s hO => ?_
   refine au ?_
   refine zcq rfl (J00 body86 rfl (J0s hO.lt kI.u (iT H))) fun _ w40 => e4 fun r38 m7 iu iv => sq1 hO fun s hO => fun H => ?_
   refine sfz 0 hO fun s hO vQ vR => ?_
   have zz := J2p (r := Rp.sl (Rp.int .i64)) (n := 1) (parts := [(0, .slice iu m7 iv)]) (vs := [.slice iu m7 iv]) (xs := [r38]) rfl Try.underlying23 ti31 hO (by decide) (by kernel_rfl) (Els.cons rfl ⟨iu, iv, congrArg some (congrArg (fun nn => Value.slice iu nn iv) vR), vQ⟩ (Els.nil _ _ _) (by simp [mx])) rfl
   obtain ⟨w44, p45, sx, vS, vT, sy⟩ := zz
   refine GoQ.loud rfl (sy rfl) vT rfl rfl ?_
   refine nst sx fun s hO => ?_
   refine sfzR 0 hO vS fun s hO vU vV => ?_
   obtain ⟨h53, H⟩ := H
   have zz := oapp Try.underlying23 ti31 rfl 0 hO rfl de.u vU vV h53 (by decide)
   obtain ⟨w54, p55, c56, zy, jv, ou, sA⟩ := zz
   dsimp only [sS, sZ] at ou
   refine GoQ.last rfl (sA (by exact rfl) (by exact rfl)) rfl rfl ?_
   refine nst jv fun s hO => ?_
   refine sbs 1 hO fun w62 s hO => ?_
   refine sinc (natbd h28 jF.bd) ?_
   refine au ?_
   exact hX1 _ H _ _ ⟨_, _, _, _, agr, hO, ou.u, fr⟩
  refine au ?_
  refine Go1.ret2 Try.func131 rfl (Or.inl ⟨_, ?_, frs, H⟩)
  exact rfl
 refine au ?_
 cases a1
 ·refine au ?_
  refine zo (J18 Try.underlying23 rfl (Els.neqW de.u hO 0 rfl)) ?_
  refine au ?_
  have sB := Stp.nil (e := 31) (r := 1) hO
  refine nst sB fun s hO => ?_
  have vW := elN (Rp.sl (Rp.int .i64)) hO
  refine snil Fl.i 3 hO fun s hO => ?_
  refine snil Fl.i 3 hO fun s hO => ?_
  refine snil (id Fl.fl : Fl rpRule) 185 hO fun s hO => ?_
  refine snil Fl.str 9 hO fun s hO => ?_
  refine snil Fl.i 3 hO fun s hO => ?_
  refine snil Fl.i 3 hO fun s hO => ?_
  refine lw (iF H) (fun (eB, kK, kM, d_82, d_86, kN, d_94, d_98, eh) σ w => ∃ n77 p75 c76 n81 p79 c80 n85 p83 c84 n89 p87 c88 n93 p91 c92 n97 p95 c96 kO kP kQ kS, (fun Z => agrees σ [(6, .pointer (some ⟨B10, 0, none⟩)), (9, .int .i64 (-1 : Int)), (85, .slice p25 n27 c26), (86, .int .i64 (d_22.length : Int)), (87, .int .i64 (eB : Int))] ∧ Owns w0.heap.size w Z A ∧ Els (Rp.sl (Rp.int .i64)) (bl Z ++ A) w kS d_98 ∧ Els (Rp.sl (Rp.int .i64)) (bl Z ++ A) w gi d_22 ∧ Fr (bl []) w0 (bl Z) w) [t1 Fl.i 3 p75 n77 c76 kK, t1 Fl.i 3 p79 n81 c80 kM, t1 Fl.str 9 p83 n85 c84 d_82, t1 (id Fl.fl : Fl rpRule) 185 p87 n89 c88 d_86, t1 Fl.i 3 p91 n93 c92 kN, t1 Fl.i 3 p95 n97 c96 d_94, .row 31 1 kP kO kQ kS, .row 31 1 p25 n27 c26 gi, .blk B10 (.cells #[.int .i64 ((ix a0 (0 : Int)).length : Int), .bool false, .slice p25 n27 c26, .slice kP kO kQ, .slice p95 n97 c96, .slice p91 n93 c92, .slice none 0 0, .slice p87 n89 c88, .int .i64 (0 : Int), .map (some B4), .slice p83 n85 c84, .slice p79 n81 c80, .slice p75 n77 c76] 156 (0, 0)), .any (mapE (fun a : List UInt8 => Value.string (gstr a)) (fun a : Int => Value.int .i64 a) B4 eh)]) ⟨_, _, _, _, _, _, _, _, _, _, _, _, _, _, _, _, _, _, _, _, _, _, agr, hO, vW.u, de.u, fr⟩ ?_
  refine fun X2 => p1 fun eB => p1 fun kK => p1 fun kM => p1 fun d_82 => p1 fun d_86 => p3 fun kN d_94 d_98 eh => fun H hX2 σ w72 => e4 fun n77 p75 c76 n81 => e4 fun p79 c80 n85 p83 => e4 fun c84 n89 p87 c88 => e4 fun n93 p91 c92 n97 => e4 fun p95 c96 kO kP => e2 fun kQ kS => d4 fun hag hO iw de hB => ?_
  dsimp only at H
  refine Go1.keep _ hag ?_
  revert hO; repeat (rename Owns _ _ _ _ => q; clear q)
  intro hO; repeat (rename Sq _ _ _ _ _ _ => q; clear q)
  refine scm H (fun iU H => ?_) fun iU H => ?_
  ·refine au ?_
   obtain ⟨gY, H⟩ := H
   obtain ⟨f9, H⟩ := H
   refine zo (J01 Try.underlying23 ti31 rfl rfl gY (ltn (Els.neqW de hO 7 rfl) f9) (Els.psomeW de hO 7 rfl gY f9)) ?_
   have zz := oldSl 7 hO rfl de gY f9
   obtain ⟨zA, zB, m8, sC⟩ := zz
   refine zs (sC Try.underlying31 rfl rfl) ?_
   refine au ?_
   obtain ⟨fy, H⟩ := H
   refine zo (J0l rfl rfl (wrap_i64 fy)) ?_
   refine zo (J2Z Try.underlying3 Try.underlying21 rfl rfl) ?_
   obtain ⟨gh, H⟩ := H
   obtain ⟨vX, H⟩ := H
   refine zo (J3B Try.underlying21 Try.underlying9 rfl gh vX) ?_
   refine au ?_
   refine drw 0 [(0, .pure), (1, .pure), (2, .pure), (3, .stable), (4, .pure), (5, .loud), (6, .stable), (7, .pure), (8, .pure), (9, .pure), (10, .pure), (11, .pure)] hO fun zC s hO => ?_
   refine au ?_
   refine zcq rfl (J00 body157 rfl (J05 hO.lt m8.u H)) fun _ vY => e1 fun gj => sq0 hO fun s hO => d1 fun x7 H => ?_
   by_cases fq : mhas eh gj = true
   ·refine GoQ.stable rfl (olookT (a := gj) (MK.str Try.underlying9) 9 hO rfl Try.underlying154 rfl rfl fq) rfl rfl ?_
    refine au ?_
    refine drw 5 [(0, .pure), (1, .pure), (2, .pure), (3, .pure), (4, .pure), (5, .stable), (6, .pure), (7, .pure), (8, .pure), (9, .pure), (10, .stable), (11, .pure), (12, .pure), (13, .stable), (14, .pure), (15, .loud), (16, .last), (17, .pure), (18, .pure), (19, .pure), (20, .last)] hO fun n8 s hO => ?_
    refine sxl1 2 hO (ifp fq H).1 (ifp fq H).2.1 ?_
    have hle120 := t1le 2 hO (ifp fq H).1 (ifp fq H).2.1
    refine GoQ.pure rfl (J0a Try.underlying185 ti185 (pl := [(0, 1), (1, 1)]) (vs := [(0, .string (gstr (chr (IntKind.i32.wrap ((97 : Int) + (eB : Int)))))), (1, .string (gstr (ix d_82 (mgt eh gj))))]) (cs := #[.string (gstr (chr (IntKind.i32.wrap ((97 : Int) + (eB : Int))))), .string (gstr (ix d_82 (mgt eh gj)))]) (by kernel_rfl) rfl (by kernel_rfl)) rfl rfl ?_
    refine sapF (⟨(chr (IntKind.i32.wrap ((97 : Int) + (eB : Int)))), ix d_82 (mgt eh gj)⟩ : Rule) 3 hO (ifp fq H).2.2 (fun _ zD zE zF s hO => ?_) (hok := by exact ⟨(J6b _), hle120⟩)
    refine sbs 8 hO fun zG s hO => ?_
    refine au ?_
    refine sap1 ((mgt eh gj)) 0 hO (ifp fq H).2.2.2 fun _ zH zI zJ s hO => ?_
    refine sbs 8 hO fun v5 s hO => ?_
    refine sinc (natbd iU de.bd) ?_
    refine au ?_
    exact hX2 _ (ifp fq H).2.2.2.2 _ _ ⟨_, _, _, _, _, _, _, _, _, _, _, _, _, _, _, _, _, _, _, _, _, _, agr, hO, iw.u, de.u, fr⟩
   refine GoQ.stable rfl (olookF (a := gj) (MK.str Try.underlying9) 9 hO rfl Try.underlying154 ti3 rfl rfl fq) rfl rfl ?_
   refine au ?_
   refine zcr (J00 body86 rfl (J0s hO.lt m8.u (ifn fq H))) fun _ zK => e4 fun r129 gy eM eN => sc1 hO fun s hO => fun H => ?_
   refine au ?_
   refine GoR.inl (vs := [.pointer (some ⟨B10, 0, none⟩), .slice eM gy eN, .int .i64 (-1 : Int), .int .i64 (eB : Int), .string (gstr (chr (IntKind.i32.wrap ((97 : Int) + (eB : Int))))), .int .i64 (-1 : Int)]) (caps := []) rfl rfl body155 Try.func155 rfl Try.ntmps155 rfl rfl rfl ?_
   intro RhR133 hR133
   refine au ?_
   refine zo (J18 Try.underlying23 rfl (Els.neqW iw.u hO 7 rfl)) ?_
   refine au ?_
   refine drw 1 [(0, .pure), (1, .pure), (2, .pure), (3, .stable), (4, .pure), (6, .pure), (5, .loud), (7, .last)] hO fun zL s hO => ?_
   refine au ?_
   have sD := t1lend 0 hO
   have jG := t1n 0 hO
   have hOc137 := hO.drop 0
   refine zcq rfl (J00 body157 (show ([.slice eM gy eN] : List Value) = [.slice eM r129.length eN] from by rw [← jG]) (J05 hOc137.lt sD H)) fun _ zM => e1 fun v6 => sq0 hO fun s hO => d1 fun x8 H => ?_
   have zz := omapUpd (MK.str Try.underlying9) 10 hO rfl Try.underlying154 v6 (d_98.length : Int)
   obtain ⟨zN, ov, ow⟩ := zz
   refine GoQ.last rfl (ow (by exact rfl) (by exact rfl) (by exact rfl)) rfl rfl ?_
   refine nst ov fun s hO => ?_
   refine au ?_
   refine sfz 0 hO fun s hO sE sF => ?_
   have zz := J2p (r := Rp.sl (Rp.int .i64)) (n := 1) (parts := [(0, .slice eM gy eN)]) (vs := [.slice eM gy eN]) (xs := [r129]) rfl Try.underlying23 ti31 hO (by decide) (by kernel_rfl) (Els.cons rfl ⟨eM, eN, congrArg some (congrArg (fun nn => Value.slice eM nn eN) sF), sE⟩ (Els.nil _ _ _) (by simp [mx])) rfl
   obtain ⟨v7, zO, oA, sG, yo, oB⟩ := zz
   refine zg (oB rfl) ?_
   refine nst oA fun s hO => ?_
   refine sfzR 0 hO sG.u fun s hO sH sI => ?_
   obtain ⟨v8, H⟩ := H
   have zz := oapp Try.underlying23 ti31 rfl 6 hO rfl iw.u sH sI v8 (by decide)
   obtain ⟨ve, zP, zQ, yr, oC, m9, oD⟩ := zz
   dsimp only [sS, sZ] at m9
   refine zg (oD (by exact rfl) (by exact rfl)) ?_
   refine nst oC fun s hO => ?_
   refine sbs 8 hO fun vh s hO => ?_
   refine au ?_
   refine sap1 ((-1 : Int)) 5 hO H fun _ v9 zR zS s hO => ?_
   refine sbs 8 hO fun oe s hO => ?_
   refine au ?_
   refine sap1 ((eB : Int)) 4 hO H.2 fun _ oE zT zU s hO => ?_
   refine sbs 8 hO fun og s hO => ?_
   refine au ?_
   refine sap1 ((chr (IntKind.i32.wrap ((97 : Int) + (eB : Int))))) 2 hO H.2.2 (fun _ oF wa zV s hO => ?_) (hR := by exact fun _ _ => ⟨rfl, (J6b _)⟩)
   refine sbs 8 hO fun vj s hO => ?_
   refine au ?_
   refine sap1 ((-1 : Int)) 1 hO H.2.2.2 fun _ vk zW zX s hO => ?_
   refine sbs 8 hO fun wc s hO => ?_
   refine au ?_
   refine Go1.ret1V Try.func155 rfl (show _ = .int .i64 (d_98.length : Int) from rfl) ?_
   refine hR133 _ _ ?_
   refine au ?_
   refine sap1 ((d_98.length : Int)) 0 hO H.2.2.2.2 fun _ zY z3 z4 s hO => ?_
   refine sbs 8 hO fun vm s hO => ?_
   refine sinc (natbd iU de.bd) ?_
   refine au ?_
   exact hX2 _ H.2.2.2.2.2 _ _ ⟨_, _, _, _, _, _, _, _, _, _, _, _, _, _, _, _, _, _, _, _, _, _, agr, hO, m9.u, de.u, fr⟩
  refine au ?_
  have oG := Stp.nil (e := 31) (r := 1) hO
  refine nst oG fun s hO => ?_
  have sJ := elN (Rp.sl (Rp.int .i64)) hO
  refine sfr 10 hO fun s hO => ?_
  refine sfr 2 hO fun s hO => ?_
  refine sfr 3 hO fun s hO => ?_
  refine sfr 4 hO fun s hO => ?_
  refine sfr 5 hO fun s hO => ?_
  refine sfr 5 hO fun s hO => ?_
  refine sfr 6 hO fun s hO => ?_
  refine sfr 7 hO fun s hO => ?_
  refine sfr 8 hO fun s hO => ?_
  refine sfr 9 hO fun s hO => ?_
  refine sfr 10 hO fun s hO => ?_
  refine Go1.ret2 Try.func131 rfl (Or.inr ⟨(⟨(⟨((ix a0 (0 : Int)).length : Int), false, d_22, d_98, d_94, kN, ([] : List (List Int)), d_86, (0 : Int)⟩ : Enum), eh, d_82, kM, kK⟩ : run), _, _, _, _, _, _, _, _, _, _, _, _, _, _, _, _, _, _, _, _, _, _, _, _, _, _, _, _, _, _, _, _, _, ?_, frs, hO, de.u, iw.u, sJ.u, H⟩)
  exact rfl
 refine au ?_
 refine zcr (J00 body156 rfl (J3l hO.lt (iT H))) fun _ vo => e3 fun r187 gz gA => sc0 hO fun s hO => d1 fun ki H => ?_
 refine GoR.inl (vs := [.pointer (some ⟨B10, 0, none⟩), .slice gz r187.length gA, .int .i64 (-1 : Int), .int .i64 (-1 : Int), .string (gstr (([] : Str))), .int .i64 (-1 : Int)]) (caps := []) rfl rfl body155 Try.func155 rfl Try.ntmps155 rfl rfl rfl ?_
 intro RhR189 hR189
 refine sln0 ?_
 refine au ?_
 refine drw 1 [(0, .pure), (1, .pure), (2, .pure), (3, .stable), (4, .pure), (6, .pure), (5, .loud), (7, .last)] hO fun we s hO => ?_
 refine au ?_
 refine zcq rfl (J00 body157 rfl (J05 hO.lt ki.u H)) fun _ z5 => e1 fun r191 => sq0 hO fun s hO => d1 fun x9 H => ?_
 have zz := omapUpd (MK.str Try.underlying9) 2 hO rfl Try.underlying154 r191 (0 : Int)
 obtain ⟨z6, oH, oI⟩ := zz
 refine GoQ.last rfl (oI (by exact rfl) (by exact rfl) (by exact rfl)) rfl rfl ?_
 refine nst oH fun s hO => ?_
 refine au ?_
 have zz := J2p (r := Rp.sl (Rp.int .i64)) (n := 1) (parts := [(0, .slice gz r187.length gA)]) (vs := [.slice gz r187.length gA]) (xs := [r187]) rfl Try.underlying23 ti31 hO (by decide) (by kernel_rfl) (Els.cons rfl ⟨gz, gA, rfl, ki.u⟩ (Els.nil _ _ _) (by simp [mx])) rfl
 obtain ⟨z7, z8, oJ, sK, yu, oK⟩ := zz
 refine zg (oK rfl) ?_
 refine nst oJ fun s hO => ?_
 refine sfzR 0 hO sK fun s hO sL sM => ?_
 have oL := Stp.nil (e := 31) (r := 1) hO
 refine nst oL fun s hO => ?_
 have sN := elN (Rp.sl (Rp.int .i64)) hO
 obtain ⟨wg, H⟩ := H
 have zz := oapp Try.underlying23 ti31 rfl 0 hO rfl sN sL.u sM wg (by decide)
 obtain ⟨z9, Aa, Ab, yv, oM, na, iV⟩ := zz
 dsimp only [sS, sZ] at na
 refine zg (iV (by exact rfl) (by exact rfl)) ?_
 refine nst oM fun s hO => ?_
 refine sbs 2 hO fun kT s hO => ?_
 refine au ?_
 refine snil Fl.i 3 hO fun s hO => ?_
 refine sap1 ((-1 : Int)) 0 hO H fun _ Ac Ad Ae s hO => ?_
 refine sbs 3 hO fun Af s hO => ?_
 refine au ?_
 refine snil Fl.i 3 hO fun s hO => ?_
 refine sap1 ((-1 : Int)) 0 hO H.2 fun _ Ag Ah Ai s hO => ?_
 refine sbs 4 hO fun Aj s hO => ?_
 refine au ?_
 refine snil Fl.str 9 hO fun s hO => ?_
 refine sap1 ((([] : Str))) 0 hO H.2.2 (fun _ Ak Am Ao s hO => ?_) (hR := by exact fun _ _ => ⟨rfl, (by decide)⟩)
 refine sbs 5 hO fun Ap s hO => ?_
 refine au ?_
 refine snil Fl.i 3 hO fun s hO => ?_
 refine sap1 ((-1 : Int)) 0 hO H.2.2.2 fun _ Aq Ar At s hO => ?_
 refine sbs 6 hO fun Au s hO => ?_
 refine au ?_
 refine Go1.ret1V Try.func155 rfl (show _ = .int .i64 (0 : Int) from rfl) ?_
 refine hR189 _ _ ?_
 refine au ?_
 refine zo (J18 Try.underlying23 rfl (Els.neqW de.u hO 5 rfl)) ?_
 refine au ?_
 refine snil (id Fl.fl : Fl rpRule) 185 hO fun s hO => ?_
 refine snil Fl.i 3 hO fun s hO => ?_
 refine lw H.2.2.2.2 (fun (dT, jH, d_246, jI, fK, d_258, jJ, fL, en) σ w => ∃ kU kV kW kX kY k8 k9 ld lg lh li lj lk lm lr lv lA lB lC lD lE iA, (fun Z => agrees σ [(6, .pointer (some ⟨B10, 0, none⟩)), (9, .int .i64 (0 : Int)), (85, .slice p25 n27 c26), (86, .int .i64 (d_22.length : Int)), (87, .int .i64 (dT : Int))] ∧ Owns w0.heap.size w Z A ∧ Els (Rp.sl (Rp.int .i64)) (bl Z ++ A) w iA fL ∧ Els (Rp.sl (Rp.int .i64)) (bl Z ++ A) w gi d_22 ∧ Fr (bl []) w0 (bl Z) w) [t1 Fl.i 3 kV kU kW jH, t1 (id Fl.fl : Fl rpRule) 185 kY kX k8 d_246, t1 Fl.i 3 ld k9 lg jI, t1 Fl.str 9 li lh lj fK, t1 Fl.i 3 lm lk lr d_258, t1 Fl.i 3 lA lv lB jJ, .row 31 1 lD lC lE iA, .row 31 1 p25 n27 c26 gi, .blk B10 (.cells #[.int .i64 ((ix a0 (0 : Int)).length : Int), .bool true, .slice p25 n27 c26, .slice lD lC lE, .slice lA lv lB, .slice lm lk lr, .slice none 0 0, .slice kY kX k8, .int .i64 (0 : Int), .map (some B4), .slice li lh lj, .slice ld k9 lg, .slice kV kU kW] 156 (0, 0)), .any (mapE (fun a : List UInt8 => Value.string (gstr a)) (fun a : Int => Value.int .i64 a) B4 en)]) ⟨_, _, _, _, _, _, _, _, _, _, _, _, _, _, _, _, _, _, _, _, _, _, agr, hO, na.u, de.u, fr⟩ ?_
 refine fun X3 => p1 fun dT => p1 fun jH => p1 fun d_246 => p1 fun jI => p1 fun fK => p3 fun d_258 jJ fL en => fun H hX3 σ Aw => e4 fun kU kV kW kX => e4 fun kY k8 k9 ld => e4 fun lg lh li lj => e4 fun lk lm lr lv => e4 fun lA lB lC lD => e2 fun lE iA => d4 fun hag hO fd de hB => ?_
 dsimp only at H
 refine Go1.keep _ hag ?_
 revert hO; repeat (rename Owns _ _ _ _ => q; clear q)
 intro hO; repeat (rename Sq _ _ _ _ _ _ => q; clear q)
 refine scm H (fun lF H => ?_) fun lF H => ?_
 ·refine au ?_
  obtain ⟨lG, H⟩ := H
  obtain ⟨lH, H⟩ := H
  refine zo (J01 Try.underlying23 ti31 rfl rfl lG (ltn (Els.neqW de hO 7 rfl) lH) (Els.psomeW de hO 7 rfl lG lH)) ?_
  have zz := oldSl 7 hO rfl de lG lH
  obtain ⟨Ax, Ay, nb, sO⟩ := zz
  refine zs (sO Try.underlying31 rfl rfl) ?_
  refine au ?_
  obtain ⟨wh, H⟩ := H
  refine zo (J0l rfl rfl (wrap_i64 wh)) ?_
  refine zo (J2Z Try.underlying3 Try.underlying21 rfl rfl) ?_
  obtain ⟨wi, H⟩ := H
  obtain ⟨wj, H⟩ := H
  refine zo (J3B Try.underlying21 Try.underlying9 rfl wi wj) ?_
  refine au ?_
  refine drw 0 [(0, .pure), (1, .pure), (2, .pure), (3, .stable), (4, .pure), (5, .loud), (6, .stable), (7, .pure), (8, .pure), (9, .pure), (10, .pure), (11, .pure)] hO fun Az s hO => ?_
  refine au ?_
  refine zcq rfl (J00 body157 rfl (J05 hO.lt nb.u H)) fun _ AA => e1 fun gk => sq0 hO fun s hO => d1 fun ya H => ?_
  by_cases eO : mhas en gk = true
  ·refine GoQ.stable rfl (olookT (a := gk) (MK.str Try.underlying9) 9 hO rfl Try.underlying154 rfl rfl eO) rfl rfl ?_
   refine au ?_
   refine drw 5 [(0, .pure), (1, .pure), (2, .pure), (3, .pure), (4, .pure), (5, .stable), (6, .pure), (7, .pure), (8, .pure), (9, .pure), (10, .stable), (11, .pure), (12, .pure), (13, .stable), (14, .pure), (15, .loud), (16, .last), (17, .pure), (18, .pure), (19, .pure), (20, .last)] hO fun AB s hO => ?_
   refine sxl1 3 hO (ifp eO H).1 (ifp eO H).2.1 ?_
   have hle288 := t1le 3 hO (ifp eO H).1 (ifp eO H).2.1
   refine GoQ.pure rfl (J0a Try.underlying185 ti185 (pl := [(0, 1), (1, 1)]) (vs := [(0, .string (gstr (chr (IntKind.i32.wrap ((97 : Int) + (dT : Int)))))), (1, .string (gstr (ix fK (mgt en gk))))]) (cs := #[.string (gstr (chr (IntKind.i32.wrap ((97 : Int) + (dT : Int))))), .string (gstr (ix fK (mgt en gk)))]) (by kernel_rfl) rfl (by kernel_rfl)) rfl rfl ?_
   refine sapF (⟨(chr (IntKind.i32.wrap ((97 : Int) + (dT : Int)))), ix fK (mgt en gk)⟩ : Rule) 1 hO (ifp eO H).2.2 (fun _ wk AC AD s hO => ?_) (hok := by exact ⟨(J6b _), hle288⟩)
   refine sbs 8 hO fun AE s hO => ?_
   refine au ?_
   refine sap1 ((mgt en gk)) 0 hO (ifp eO H).2.2.2 fun _ AF AG AH s hO => ?_
   refine sbs 8 hO fun AI s hO => ?_
   refine sinc (natbd lF de.bd) ?_
   refine au ?_
   exact hX3 _ (ifp eO H).2.2.2.2 _ _ ⟨_, _, _, _, _, _, _, _, _, _, _, _, _, _, _, _, _, _, _, _, _, _, agr, hO, fd.u, de.u, fr⟩
  refine GoQ.stable rfl (olookF (a := gk) (MK.str Try.underlying9) 9 hO rfl Try.underlying154 ti3 rfl rfl eO) rfl rfl ?_
  refine au ?_
  refine zcr (J00 body86 rfl (J0s hO.lt nb.u (ifn eO H))) fun _ wm => e4 fun oN gB eP eQ => sc1 hO fun s hO => fun H => ?_
  refine au ?_
  refine GoR.inl (vs := [.pointer (some ⟨B10, 0, none⟩), .slice eP gB eQ, .int .i64 (0 : Int), .int .i64 (dT : Int), .string (gstr (chr (IntKind.i32.wrap ((97 : Int) + (dT : Int))))), .int .i64 (0 : Int)]) (caps := []) rfl rfl body155 Try.func155 rfl Try.ntmps155 rfl rfl rfl ?_
  intro RhR301 hR301
  refine au ?_
  refine zo (J18 Try.underlying23 rfl (Els.neqW fd.u hO 7 rfl)) ?_
  refine au ?_
  refine drw 1 [(0, .pure), (1, .pure), (2, .pure), (3, .stable), (4, .pure), (6, .pure), (5, .loud), (7, .last)] hO fun AJ s hO => ?_
  refine au ?_
  have sP := t1lend 0 hO
  have sQ := t1n 0 hO
  have hOc305 := hO.drop 0
  refine zcq rfl (J00 body157 (show ([.slice eP gB eQ] : List Value) = [.slice eP oN.length eQ] from by rw [← sQ]) (J05 hOc305.lt sP H)) fun _ AK => e1 fun r306 => sq0 hO fun s hO => d1 fun yb H => ?_
  have zz := omapUpd (MK.str Try.underlying9) 10 hO rfl Try.underlying154 r306 (fL.length : Int)
  obtain ⟨AM, oO, oP⟩ := zz
  refine GoQ.last rfl (oP (by exact rfl) (by exact rfl) (by exact rfl)) rfl rfl ?_
  refine nst oO fun s hO => ?_
  refine au ?_
  refine sfz 0 hO fun s hO sR sT => ?_
  have zz := J2p (r := Rp.sl (Rp.int .i64)) (n := 1) (parts := [(0, .slice eP gB eQ)]) (vs := [.slice eP gB eQ]) (xs := [oN]) rfl Try.underlying23 ti31 hO (by decide) (by kernel_rfl) (Els.cons rfl ⟨eP, eQ, congrArg some (congrArg (fun nn => Value.slice eP nn eQ) sT), sR⟩ (Els.nil _ _ _) (by simp [mx])) rfl
  obtain ⟨wn, AO, oQ, sU, yw, oR⟩ := zz
  refine zg (oR rfl) ?_
  refine nst oQ fun s hO => ?_
  refine sfzR 0 hO sU fun s hO sV sW => ?_
  obtain ⟨wo, H⟩ := H
  have zz := oapp Try.underlying23 ti31 rfl 6 hO rfl fd.u sV sW wo (by decide)
  obtain ⟨AP, AQ, AR, yz, oS, nc, oT⟩ := zz
  dsimp only [sS, sZ] at nc
  refine zg (oT (by exact rfl) (by exact rfl)) ?_
  refine nst oS fun s hO => ?_
  refine sbs 8 hO fun AT s hO => ?_
  refine au ?_
  refine sap1 ((0 : Int)) 5 hO H fun _ AU AV AW s hO => ?_
  refine sbs 8 hO fun AX s hO => ?_
  refine au ?_
  refine sap1 ((dT : Int)) 4 hO H.2 fun _ AY A4 A5 s hO => ?_
  refine sbs 8 hO fun wq s hO => ?_
  refine au ?_
  refine sap1 ((chr (IntKind.i32.wrap ((97 : Int) + (dT : Int))))) 3 hO H.2.2 (fun _ wr oU A6 s hO => ?_) (hR := by exact fun _ _ => ⟨rfl, (J6b _)⟩)
  refine sbs 8 hO fun A7 s hO => ?_
  refine au ?_
  refine sap1 ((0 : Int)) 2 hO H.2.2.2 fun _ A8 A9 Ba s hO => ?_
  refine sbs 8 hO fun Bb s hO => ?_
  refine au ?_
  refine Go1.ret1V Try.func155 rfl (show _ = .int .i64 (fL.length : Int) from rfl) ?_
  refine hR301 _ _ ?_
  refine au ?_
  refine sap1 ((fL.length : Int)) 0 hO H.2.2.2.2 fun _ Bc Bd Be s hO => ?_
  refine sbs 8 hO fun Bf s hO => ?_
  refine sinc (natbd lF de.bd) ?_
  refine au ?_
  exact hX3 _ H.2.2.2.2.2 _ _ ⟨_, _, _, _, _, _, _, _, _, _, _, _, _, _, _, _, _, _, _, _, _, _, agr, hO, nc.u, de.u, fr⟩
 refine au ?_
 have oV := Stp.nil (e := 31) (r := 1) hO
 refine nst oV fun s hO => ?_
 have sX := elN (Rp.sl (Rp.int .i64)) hO
 refine sfr 10 hO fun s hO => ?_
 refine sfr 2 hO fun s hO => ?_
 refine sfr 4 hO fun s hO => ?_
 refine sfr 5 hO fun s hO => ?_
 refine sfr 5 hO fun s hO => ?_
 refine sfr 5 hO fun s hO => ?_
 refine sfr 6 hO fun s hO => ?_
 refine sfr 7 hO fun s hO => ?_
 refine sfr 8 hO fun s hO => ?_
 refine sfr 9 hO fun s hO => ?_
 refine sfr 10 hO fun s hO => ?_
 refine Go1.ret2 Try.func131 rfl (Or.inr ⟨(⟨(⟨((ix a0 (0 : Int)).length : Int), true, d_22, fL, jJ, d_258, ([] : List (List Int)), d_246, (0 : Int)⟩ : Enum), en, fK, jI, jH⟩ : run), _, _, _, _, _, _, _, _, _, _, _, _, _, _, _, _, _, _, _, _, _, _, _, _, _, _, _, _, _, _, _, _, _, ?_, frs, hO, de.u, fd.u, sX.u, H⟩)
 exact rfl
theorem body158 : Body Try.prog 158 := ⟨Try.f158, Try.func158, rfl, by kernel_rfl⟩
theorem J3D {A : List Nat} {w0 : World} {p_f p_g : Option Addr} {c_f c_g : Nat} {f g : List Int} (hA : ∀ b ∈ A, b < w0.heap.size) (h_f : ISl (Rp.int .i64) A w0 p_f c_f f) (h_g : ISl (Rp.int .i64) A w0 p_g c_g g) {K : List Int → Prop} (H : J1j f g K) :
    CallsV Try.prog 158 #[.slice p_f f.length c_f, .slice p_g g.length c_g] w0 (fun v w' => ∃ (r0 : List Int) (p_r0 : Option Addr) (c_r0 : Nat), v = .slice p_r0 r0.length c_r0 ∧ Same w0 w' ∧ ISl (Rp.int .i64) A w' p_r0 c_r0 r0 ∧ K r0) := by
 refine CallsV.of (l := [.slice p_f f.length c_f, .slice p_g g.length c_g]) Try.func158 rfl Try.ntmps158 rfl ?_
 have hO := Owns.start hA
 have hB := Fr.refl (bl []) w0
 unfold J1j at H
 refine sln0 ?_
 refine sln0 ?_
 refine scm ((H h_f.bd) h_g.bd) (fun h1 H => ?_) fun h1 H => ?_
 ·refine au ?_
  refine zcr (J00 body154 rfl (J1D hO.lt h_f.u H)) fun _ w3 => e1 fun r2 => sc0 hO fun s hO => fun H => ?_
  cases r2
  ·refine au ?_
   refine Go1.ret1 Try.func158 rfl ⟨_, _, _, ?_, frs, (ISl.null _ _ _), (iF H)⟩
   exact rfl
  refine au ?_
  refine zcr (J00 body154 rfl (J1D hO.lt h_g.u (iT H))) fun _ w5 => e1 fun r4 => sc0 hO fun s hO => fun H => ?_
  cases r4
  ·refine au ?_
   refine Go1.ret1 Try.func158 rfl ⟨_, _, _, ?_, frs, (ISl.null _ _ _), (iF H)⟩
   exact rfl
  refine sln0 ?_
  refine smk Fl.i (iT H) hO fun w6 p7 s hO => ?_
  refine sln0 ?_
  refine au ?_
  refine lw (iT H).2.2 (fun (jK, ne) σ w => (fun Z => agrees σ [(1, .slice p_g g.length c_g), (5, .slice p7 f.length f.length), (26, .slice p_f f.length c_f), (27, .int .i64 (f.length : Int)), (28, .int .i64 (jK : Int))] ∧ Owns w0.heap.size w Z A ∧ Fr (bl []) w0 (bl Z) w) [t1 Fl.i 3 p7 f.length f.length ne]) ⟨agr, hO, fr⟩ ?_
  refine fun X1 => p1 fun jK ne => fun H hX1 σ w9 => d2 fun hag hO hB => ?_
  dsimp only at H
  refine Go1.keep _ hag ?_
  revert hO; repeat (rename Owns _ _ _ _ => q; clear q)
  intro hO; repeat (rename Sq _ _ _ _ _ _ => q; clear q)
  refine scm H (fun h12 H => ?_) fun h12 H => ?_
  ·refine sxl hO h_f.u H.1 H.2.1 ?_
   refine sxl hO h_g.u H.2.2.1 H.2.2.2.1 ?_
   refine six1 0 hO H.2.2.2.2.1 H.2.2.2.2.2.1 ?_
   refine sst (u := (ix g (ix f (jK : Int)))) 0 hO H.2.2.2.2.1 H.2.2.2.2.2.1 fun w13 s hO => ?_
   refine sinc (natbd h12 h_f.bd) ?_
   refine au ?_
   exact hX1 _ H.2.2.2.2.2.2 _ _ ⟨agr, hO, fr⟩
  refine au ?_
  refine sfz 0 hO fun s hO iQ iR => ?_
  refine Go1.ret1 Try.func158 rfl ⟨_, _, _, ?_, frs, iQ.r, H⟩
  exact (congrArg (fun nn => Value.slice p7 nn f.length) iR)
 refine au ?_
 refine Go1.ret1 Try.func158 rfl ⟨_, _, _, ?_, frs, (ISl.null _ _ _), H⟩
 exact rfl
theorem body159 : Body Try.prog 159 := ⟨Try.f159, Try.func159, rfl, by kernel_rfl⟩
theorem body160 : Body Try.prog 160 := ⟨Try.f160, Try.func160, rfl, by kernel_rfl⟩
theorem body133 : Body Try.prog 133 := ⟨Try.f133, Try.func133, rfl, by kernel_rfl⟩
theorem J2a {A : List Nat} {n0 dp aU aW bi bk aY a9 bz bB aN aP bm bo ar cH cJ cq cw bX b7 : Nat} {w0 : World} {aV bj a8 bA aO bn cI cv bY : Option Addr} {cp cM co : List Value} {a0 : run} (hO : Owns n0 w0 [.blk dp (.cells #[.int .i64 a0.Enum.Points, .bool a0.Enum.Monoid, .slice aV aU aW, .slice bj bi bk, .slice a8 aY a9, .slice bA bz bB, .slice aO aN aP, .slice bn bm bo, .int .i64 a0.Enum.Done, .map (some ar), .slice cI cH cJ, .slice cv cq cw, .slice bY bX b7] 156 (0, 0)), .row 31 1 aV aU aW cp, .row 31 1 bj bi bk cM, t1 Fl.i 3 a8 aY a9 a0.Enum.Prefix, t1 Fl.i 3 bA bz bB a0.Enum.Last, .row 31 1 aO aN aP co, t1 (id Fl.fl : Fl rpRule) 185 bn bm bo a0.Enum.Rules, t1 Fl.str 9 cI cH cJ a0.words, t1 Fl.i 3 cv cq cw a0.behind, t1 Fl.i 3 bY bX b7 a0.single, .any (mapE (fun a : List UInt8 => Value.string (gstr a)) (fun a : Int => Value.int .i64 a) ar a0.number)] A) (aa : Els (Rp.sl (Rp.int .i64)) (bl [.blk dp (.cells #[.int .i64 a0.Enum.Points, .bool a0.Enum.Monoid, .slice aV aU aW, .slice bj bi bk, .slice a8 aY a9, .slice bA bz bB, .slice aO aN aP, .slice bn bm bo, .int .i64 a0.Enum.Done, .map (some ar), .slice cI cH cJ, .slice cv cq cw, .slice bY bX b7] 156 (0, 0)), .row 31 1 aV aU aW cp, .row 31 1 bj bi bk cM, t1 Fl.i 3 a8 aY a9 a0.Enum.Prefix, t1 Fl.i 3 bA bz bB a0.Enum.Last, .row 31 1 aO aN aP co, t1 (id Fl.fl : Fl rpRule) 185 bn bm bo a0.Enum.Rules, t1 Fl.str 9 cI cH cJ a0.words, t1 Fl.i 3 cv cq cw a0.behind, t1 Fl.i 3 bY bX b7 a0.single, .any (mapE (fun a : List UInt8 => Value.string (gstr a)) (fun a : Int => Value.int .i64 a) ar a0.number)] ++ A) w0 cp a0.Enum.Gens) (gm : Els (Rp.sl (Rp.int .i64)) (bl [.blk dp (.cells #[.int .i64 a0.Enum.Points, .bool a0.Enum.Monoid, .slice aV aU aW, .slice bj bi bk, .slice a8 aY a9, .slice bA bz bB, .slice aO aN aP, .slice bn bm bo, .int .i64 a0.Enum.Done, .map (some ar), .slice cI cH cJ, .slice cv cq cw, .slice bY bX b7] 156 (0, 0)), .row 31 1 aV aU aW cp, .row 31 1 bj bi bk cM, t1 Fl.i 3 a8 aY a9 a0.Enum.Prefix, t1 Fl.i 3 bA bz bB a0.Enum.Last, .row 31 1 aO aN aP co, t1 (id Fl.fl : Fl rpRule) 185 bn bm bo a0.Enum.Rules, t1 Fl.str 9 cI cH cJ a0.words, t1 Fl.i 3 cv cq cw a0.behind, t1 Fl.i 3 bY bX b7 a0.single, .any (mapE (fun a : List UInt8 => Value.string (gstr a)) (fun a : Int => Value.int .i64 a) ar a0.number)] ++ A) w0 cM a0.Enum.Elems) (ak : Els (Rp.sl (Rp.int .i64)) (bl [.blk dp (.cells #[.int .i64 a0.Enum.Points, .bool a0.Enum.Monoid, .slice aV aU aW, .slice bj bi bk, .slice a8 aY a9, .slice bA bz bB, .slice aO aN aP, .slice bn bm bo, .int .i64 a0.Enum.Done, .map (some ar), .slice cI cH cJ, .slice cv cq cw, .slice bY bX b7] 156 (0, 0)), .row 31 1 aV aU aW cp, .row 31 1 bj bi bk cM, t1 Fl.i 3 a8 aY a9 a0.Enum.Prefix, t1 Fl.i 3 bA bz bB a0.Enum.Last, .row 31 1 aO aN aP co, t1 (id Fl.fl : Fl rpRule) 185 bn bm bo a0.Enum.Rules, t1 Fl.str 9 cI cH cJ a0.words, t1 Fl.i 3 cv cq cw a0.behind, t1 Fl.i 3 bY bX b7 a0.single, .any (mapE (fun a : List UInt8 => Value.string (gstr a)) (fun a : Int => Value.int .i64 a) ar a0.number)] ++ A) w0 co a0.Enum.Right) {K : Int → run → Prop} (H : J0d a0 K) :
    CallsV Try.prog 133 #[.pointer (some ⟨dp, 0, none⟩)] w0 (fun v w' => ∃ (r0 : Int) (q : run) (aH : Nat) (aI : Option Addr) (aJ : Nat) (cb : List Value) (av : Nat) (aw : Option Addr) (ax : Nat) (bN : List Value) (am : Nat) (ao : Option Addr) (ap aK : Nat) (aL : Option Addr) (aM ay : Nat) (az : Option Addr) (aA : Nat) (bO : List Value) (aB : Nat) (aC : Option Addr) (aD cf : Nat) (cg : Option Addr) (ci bF : Nat) (bG : Option Addr) (bH bI : Nat) (bK : Option Addr) (bM : Nat), v = .int .i64 r0 ∧ Owns n0 w' [.blk dp (.cells #[.int .i64 q.Enum.Points, .bool q.Enum.Monoid, .slice aI aH aJ, .slice aw av ax, .slice ao am ap, .slice aL aK aM, .slice az ay aA, .slice aC aB aD, .int .i64 q.Enum.Done, .map (some ar), .slice cg cf ci, .slice bG bF bH, .slice bK bI bM] 156 (0, 0)), .row 31 1 aI aH aJ cb, .row 31 1 aw av ax bN, t1 Fl.i 3 ao am ap q.Enum.Prefix, t1 Fl.i 3 aL aK aM q.Enum.Last, .row 31 1 az ay aA bO, t1 (id Fl.fl : Fl rpRule) 185 aC aB aD q.Enum.Rules, t1 Fl.str 9 cg cf ci q.words, t1 Fl.i 3 bG bF bH q.behind, t1 Fl.i 3 bK bI bM q.single, .any (mapE (fun a : List UInt8 => Value.string (gstr a)) (fun a : Int => Value.int .i64 a) ar q.number)] A ∧ Els (Rp.sl (Rp.int .i64)) (bl [.blk dp (.cells #[.int .i64 q.Enum.Points, .bool q.Enum.Monoid, .slice aI aH aJ, .slice aw av ax, .slice ao am ap, .slice aL aK aM, .slice az ay aA, .slice aC aB aD, .int .i64 q.Enum.Done, .map (some ar), .slice cg cf ci, .slice bG bF bH, .slice bK bI bM] 156 (0, 0)), .row 31 1 aI aH aJ cb, .row 31 1 aw av ax bN, t1 Fl.i 3 ao am ap q.Enum.Prefix, t1 Fl.i 3 aL aK aM q.Enum.Last, .row 31 1 az ay aA bO, t1 (id Fl.fl : Fl rpRule) 185 aC aB aD q.Enum.Rules, t1 Fl.str 9 cg cf ci q.words, t1 Fl.i 3 bG bF bH q.behind, t1 Fl.i 3 bK bI bM q.single, .any (mapE (fun a : List UInt8 => Value.string (gstr a)) (fun a : Int => Value.int .i64 a) ar q.number)] ++ A) w' cb q.Enum.Gens ∧ Els (Rp.sl (Rp.int .i64)) (bl [.blk dp (.cells #[.int .i64 q.Enum.Points, .bool q.Enum.Monoid, .slice aI aH aJ, .slice aw av ax, .slice ao am ap, .slice aL aK aM, .slice az ay aA, .slice aC aB aD, .int .i64 q.Enum.Done, .map (some ar), .slice cg cf ci, .slice bG bF bH, .slice bK bI bM] 156 (0, 0)), .row 31 1 aI aH aJ cb, .row 31 1 aw av ax bN, t1 Fl.i 3 ao am ap q.Enum.Prefix, t1 Fl.i 3 aL aK aM q.Enum.Last, .row 31 1 az ay aA bO, t1 (id Fl.fl : Fl rpRule) 185 aC aB aD q.Enum.Rules, t1 Fl.str 9 cg cf ci q.words, t1 Fl.i 3 bG bF bH q.behind, t1 Fl.i 3 bK bI bM q.single, .any (mapE (fun a : List UInt8 => Value.string (gstr a)) (fun a : Int => Value.int .i64 a) ar q.number)] ++ A) w' bN q.Enum.Elems ∧ Els (Rp.sl (Rp.int .i64)) (bl [.blk dp (.cells #[.int .i64 q.Enum.Points, .bool q.Enum.Monoid, .slice aI aH aJ, .slice aw av ax, .slice ao am ap, .slice aL aK aM, .slice az ay aA, .slice aC aB aD, .int .i64 q.Enum.Done, .map (some ar), .slice cg cf ci, .slice bG bF bH, .slice bK bI bM] 156 (0, 0)), .row 31 1 aI aH aJ cb, .row 31 1 aw av ax bN, t1 Fl.i 3 ao am ap q.Enum.Prefix, t1 Fl.i 3 aL aK aM q.Enum.Last, .row 31 1 az ay aA bO, t1 (id Fl.fl : Fl rpRule) 185 aC aB aD q.Enum.Rules, t1 Fl.str 9 cg cf ci q.words, t1 Fl.i 3 bG bF bH q.behind, t1 Fl.i 3 bK bI bM q.single, .any (mapE (fun a : List UInt8 => Value.string (gstr a)) (fun a : Int => Value.int .i64 a) ar q.number)] ++ A) w' bO q.Enum.Right ∧ Fr (bl [.blk dp (.cells #[.int .i64 a0.Enum.Points, .bool a0.Enum.Monoid, .slice aV aU aW, .slice bj bi bk, .slice a8 aY a9, .slice bA bz bB, .slice aO aN aP, .slice bn bm bo, .int .i64 a0.Enum.Done, .map (some ar), .slice cI cH cJ, .slice cv cq cw, .slice bY bX b7] 156 (0, 0)), .row 31 1 aV aU aW cp, .row 31 1 bj bi bk cM, t1 Fl.i 3 a8 aY a9 a0.Enum.Prefix, t1 Fl.i 3 bA bz bB a0.Enum.Last, .row 31 1 aO aN aP co, t1 (id Fl.fl : Fl rpRule) 185 bn bm bo a0.Enum.Rules, t1 Fl.str 9 cI cH cJ a0.words, t1 Fl.i 3 cv cq cw a0.behind, t1 Fl.i 3 bY bX b7 a0.single, .any (mapE (fun a : List UInt8 => Value.string (gstr a)) (fun a : Int => Value.int .i64 a) ar a0.number)]) w0 (bl [.blk dp (.cells #[.int .i64 q.Enum.Points, .bool q.Enum.Monoid, .slice aI aH aJ, .slice aw av ax, .slice ao am ap, .slice aL aK aM, .slice az ay aA, .slice aC aB aD, .int .i64 q.Enum.Done, .map (some ar), .slice cg cf ci, .slice bG bF bH, .slice bK bI bM] 156 (0, 0)), .row 31 1 aI aH aJ cb, .row 31 1 aw av ax bN, t1 Fl.i 3 ao am ap q.Enum.Prefix, t1 Fl.i 3 aL aK aM q.Enum.Last, .row 31 1 az ay aA bO, t1 (id Fl.fl : Fl rpRule) 185 aC aB aD q.Enum.Rules, t1 Fl.str 9 cg cf ci q.words, t1 Fl.i 3 bG bF bH q.behind, t1 Fl.i 3 bK bI bM q.single, .any (mapE (fun a : List UInt8 => Value.string (gstr a)) (fun a : Int => Value.int .i64 a) ar q.number)]) w' ∧ K r0 q) := by
 refine CallsV.of (l := [.pointer (some ⟨dp, 0, none⟩)]) Try.func133 rfl Try.ntmps133 rfl ?_
 have hB := Fr.refl (bl [.blk dp (.cells #[.int .i64 a0.Enum.Points, .bool a0.Enum.Monoid, .slice aV aU aW, .slice bj bi bk, .slice a8 aY a9, .slice bA bz bB, .slice aO aN aP, .slice bn bm bo, .int .i64 a0.Enum.Done, .map (some ar), .slice cI cH cJ, .slice cv cq cw, .slice bY bX b7] 156 (0, 0)), .row 31 1 aV aU aW cp, .row 31 1 bj bi bk cM, t1 Fl.i 3 a8 aY a9 a0.Enum.Prefix, t1 Fl.i 3 bA bz bB a0.Enum.Last, .row 31 1 aO aN aP co, t1 (id Fl.fl : Fl rpRule) 185 bn bm bo a0.Enum.Rules, t1 Fl.str 9 cI cH cJ a0.words, t1 Fl.i 3 cv cq cw a0.behind, t1 Fl.i 3 bY bX b7 a0.single, .any (mapE (fun a : List UInt8 => Value.string (gstr a)) (fun a : Int => Value.int .i64 a) ar a0.number)]) w0
 unfold J0d at H
 refine au ?_
 refine zo (J18 Try.underlying23 rfl (Els.neqW aa hO 1 rfl)) ?_
 refine smk Fl.i H hO fun w1 p4 s hO => ?_
 refine au ?_
 refine zo (J18 Try.underlying23 rfl (Els.neqW aa.u hO 2 rfl)) ?_
 refine au ?_
 refine lw H.2.2 (fun (cL, d_8, d_9, jL, jM, jN, d_27, eU, dg) σ w => ∃ n14 p12 c13 lI n18 p16 c17 n22 p20 c21 n26 p24 c25 n30 p28 c29 n34 p32 c33, (fun Z => agrees σ [(0, .pointer (some ⟨dp, 0, none⟩)), (3, .int .i64 a0.Enum.Done), (4, .slice p4 a0.Enum.Gens.length a0.Enum.Gens.length), (27, .slice aV aU aW), (28, .int .i64 (a0.Enum.Gens.length : Int)), (29, .int .i64 (cL : Int))] ∧ Owns n0 w Z A ∧ Els (Rp.sl (Rp.int .i64)) (bl Z ++ A) w cp a0.Enum.Gens ∧ Els (Rp.sl (Rp.int .i64)) (bl Z ++ A) w lI d_9 ∧ Els (Rp.sl (Rp.int .i64)) (bl Z ++ A) w co a0.Enum.Right ∧ Fr (bl [.blk dp (.cells #[.int .i64 a0.Enum.Points, .bool a0.Enum.Monoid, .slice aV aU aW, .slice bj bi bk, .slice a8 aY a9, .slice bA bz bB, .slice aO aN aP, .slice bn bm bo, .int .i64 a0.Enum.Done, .map (some ar), .slice cI cH cJ, .slice cv cq cw, .slice bY bX b7] 156 (0, 0)), .row 31 1 aV aU aW cp, .row 31 1 bj bi bk cM, t1 Fl.i 3 a8 aY a9 a0.Enum.Prefix, t1 Fl.i 3 bA bz bB a0.Enum.Last, .row 31 1 aO aN aP co, t1 (id Fl.fl : Fl rpRule) 185 bn bm bo a0.Enum.Rules, t1 Fl.str 9 cI cH cJ a0.words, t1 Fl.i 3 cv cq cw a0.behind, t1 Fl.i 3 bY bX b7 a0.single, .any (mapE (fun a : List UInt8 => Value.string (gstr a)) (fun a : Int => Value.int .i64 a) ar a0.number)]) w0 (bl Z) w) [t1 Fl.i 3 p4 a0.Enum.Gens.length a0.Enum.Gens.length d_8, .blk dp (.cells #[.int .i64 a0.Enum.Points, .bool a0.Enum.Monoid, .slice aV aU aW, .slice p12 n14 c13, .slice p16 n18 c17, .slice p20 n22 c21, .slice aO aN aP, .slice p24 n26 c25, .int .i64 a0.Enum.Done, .map (some ar), .slice p28 n30 c29, .slice p32 n34 c33, .slice bY bX b7] 156 (0, 0)), .row 31 1 aV aU aW cp, .row 31 1 p12 n14 c13 lI, t1 Fl.i 3 p16 n18 c17 jL, t1 Fl.i 3 p20 n22 c21 jM, .row 31 1 aO aN aP co, t1 (id Fl.fl : Fl rpRule) 185 p24 n26 c25 jN, t1 Fl.str 9 p28 n30 c29 d_27, t1 Fl.i 3 p32 n34 c33 eU, t1 Fl.i 3 bY bX b7 a0.single, .any (mapE (fun a : List UInt8 => Value.string (gstr a)) (fun a : Int => Value.int .i64 a) ar dg)]) ⟨_, _, _, _, _, _, _, _, _, _, _, _, _, _, _, _, _, _, _, agr, hO, aa.u, gm.u, ak.u, fr⟩ ?_
 refine fun X1 => p1 fun cL => p1 fun d_8 => p1 fun d_9 => p1 fun jL => p1 fun jM => p3 fun jN d_27 eU dg => fun H hX1 σ w6 => e4 fun n14 p12 c13 lI => e4 fun n18 p16 c17 n22 => e4 fun p20 c21 n26 p24 => e4 fun c25 n30 p28 c29 => e3 fun n34 p32 c33 => d1 fun hag => d4 fun hO aa dx ak hB => ?_
 dsimp only at H
 refine Go1.keep _ hag ?_
 revert hO; repeat (rename Owns _ _ _ _ => q; clear q)
 intro hO; repeat (rename Sq _ _ _ _ _ _ => q; clear q)
 refine scm H (fun h36 H => ?_) fun h36 H => ?_
 ·refine au ?_
  obtain ⟨h37, H⟩ := H
  obtain ⟨h38, H⟩ := H
  refine zo (J01 Try.underlying23 ti31 rfl rfl h37 (ltn (Els.neqW aa hO 2 rfl) h38) (Els.psomeW aa hO 2 rfl h37 h38)) ?_
  have zz := oldSl 2 hO rfl aa h37 h38
  obtain ⟨p39, c40, lJ, ws⟩ := zz
  refine zs (ws Try.underlying31 rfl rfl) ?_
  refine au ?_
  obtain ⟨h43, H⟩ := H
  obtain ⟨h44, H⟩ := H
  refine zo (J01 Try.underlying23 ti31 rfl rfl h43 (ltn (Els.neqW dx hO 3 rfl) h44) (Els.psomeW dx hO 3 rfl h43 h44)) ?_
  have zz := oldSl 3 hO rfl dx h43 h44
  obtain ⟨p45, c46, wt, wu⟩ := zz
  refine zs (wu Try.underlying31 rfl rfl) ?_
  refine au ?_
  refine zcr (J00 body158 rfl (J3D hO.lt wt lJ H)) fun _ w50 => e3 fun r49 fe fh => sc0 hO fun s hO => d1 fun gC H => ?_
  refine au ?_
  refine drw 0 [(0, .pure), (1, .pure), (2, .pure), (3, .stable), (4, .pure), (5, .loud), (6, .stable), (7, .pure), (8, .pure), (9, .pure), (10, .pure), (11, .pure)] hO fun w51 s hO => ?_
  refine au ?_
  refine zcq rfl (J00 body157 rfl (J05 hO.lt gC.u H)) fun _ w53 => e1 fun r52 => sq0 hO fun s hO => d1 fun yg H => ?_
  by_cases h54 : mhas dg r52 = true
  ·refine GoQ.stable rfl (olookT (a := r52) (MK.str Try.underlying9) 11 hO rfl Try.underlying154 rfl rfl h54) rfl rfl ?_
   refine sxl1 8 hO (ifp h54 H).1 (ifp h54 H).2.1 ?_
   have hle55 := t1le 8 hO (ifp h54 H).1 (ifp h54 H).2.1
   refine au ?_
   have h56 := (ifp h54 H).1
   have h57 := (ifp h54 H).2.1
   replace H := (ifp h54 H).2.2
   obtain ⟨h58, H⟩ := H
   refine zo (J0l rfl rfl (wrap_i64 h58)) ?_
   refine zo (J2Z Try.underlying3 Try.underlying21 rfl rfl) ?_
   obtain ⟨h59, H⟩ := H
   obtain ⟨h60, H⟩ := H
   refine zo (J3B Try.underlying21 Try.underlying9 rfl h59 h60) ?_
   obtain ⟨h61, H⟩ := H
   refine zo (J1i rfl rfl h61) ?_
   refine sxl1 8 hO H.1 H.2.1 ?_
   have hle62 := t1le 8 hO H.1 H.2.1
   have h63 := H.1
   have h64 := H.2.1
   refine scm H.2.2 (fun h65 H => ?_) fun h65 H => ?_
   ·refine six1 0 hO H.1 H.2.1 ?_
    refine sst (u := (mgt dg r52)) 0 hO H.1 H.2.1 fun w66 s hO => ?_
    refine sinc (natbd h36 aa.bd) ?_
    refine au ?_
    exact hX1 _ H.2.2 _ _ ⟨_, _, _, _, _, _, _, _, _, _, _, _, _, _, _, _, _, _, _, agr, hO, aa.u, dx.u, ak.u, fr⟩
   refine six1 9 hO H.1 H.2.1 ?_
   refine sld1 9 hO H.1 H.2.1 ?_
   refine au ?_
   refine GoR.inl (vs := [.pointer (some ⟨dp, 0, none⟩), .int .i64 (ix eU a0.Enum.Done), .int .i64 (cL : Int)]) (caps := []) rfl rfl body160 Try.func160 rfl Try.ntmps160 rfl rfl rfl ?_
   intro RhR67 hR67
   refine au ?_
   refine GoR.inl (vs := [.pointer (some ⟨dp, 0, none⟩), .int .i64 (ix eU a0.Enum.Done), .int .i64 (cL : Int)]) (caps := []) rfl rfl body159 Try.func159 rfl Try.ntmps159 rfl rfl rfl ?_
   intro RhR68 hR68
   refine scm H.2.2 (fun h69 H => ?_) fun h69 H => ?_
   ·refine sxl1 10 hO H.1 H.2.1 ?_
    refine au ?_
    refine Go1.ret1V Try.func159 rfl (show _ = .int .i64 (ix a0.single (cL : Int)) from rfl) ?_
    refine hR68 _ _ ?_
    refine sxl1 4 hO H.2.2.1 H.2.2.2.1 ?_
    refine au ?_
    have h70 := H.2.2.1
    have h71 := H.2.2.2.1
    refine scm H.2.2.2.2 (fun h72 H => ?_) fun h72 H => ?_
    ·refine six1 5 hO H.1 H.2.1 ?_
     refine sld1 5 hO H.1 H.2.1 ?_
     refine au ?_
     have h73 := H.1
     have h74 := H.2.1
     refine scm H.2.2 (fun h75 H => ?_) fun h75 H => ?_
     ·refine au ?_
      refine Go1.ret1V Try.func160 rfl (show _ = .bool true from rfl) ?_
      refine hR67 _ _ ?_
      refine au ?_
      refine drw 5 [(0, .pure), (1, .pure), (2, .pure), (3, .pure), (4, .pure), (5, .stable), (6, .pure), (7, .pure), (8, .pure), (9, .pure), (10, .stable), (11, .pure), (12, .pure), (13, .stable), (14, .pure), (15, .loud), (16, .last), (17, .pure), (18, .pure), (19, .pure), (20, .last)] hO fun w76 s hO => ?_
      refine sxl1 8 hO H.1 H.2.1 ?_
      have hle77 := t1le 8 hO H.1 H.2.1
      refine GoQ.pure rfl (J0a Try.underlying185 ti185 (pl := [(0, 1), (1, 1)]) (vs := [(0, .string (gstr ((ix d_27 a0.Enum.Done) ++ (chr (IntKind.i32.wrap ((97 : Int) + (cL : Int))))))), (1, .string (gstr (ix d_27 (mgt dg r52))))]) (cs := #[.string (gstr ((ix d_27 a0.Enum.Done) ++ (chr (IntKind.i32.wrap ((97 : Int) + (cL : Int)))))), .string (gstr (ix d_27 (mgt dg r52)))]) (by kernel_rfl) rfl (by kernel_rfl)) rfl rfl ?_
      refine sapF (⟨((ix d_27 a0.Enum.Done) ++ (chr (IntKind.i32.wrap ((97 : Int) + (cL : Int))))), ix d_27 (mgt dg r52)⟩ : Rule) 7 hO H.2.2 (fun _ w78 p79 c80 s hO => ?_) (hok := by exact ⟨(lenApp h61), hle77⟩)
      refine sbs 1 hO fun w81 s hO => ?_
      refine six1 0 hO H.2.2.2.1 H.2.2.2.2.1 ?_
      refine sst (u := (mgt dg r52)) 0 hO H.2.2.2.1 H.2.2.2.2.1 fun w82 s hO => ?_
      refine sinc (natbd h36 aa.bd) ?_
      refine au ?_
      exact hX1 _ H.2.2.2.2.2 _ _ ⟨_, _, _, _, _, _, _, _, _, _, _, _, _, _, _, _, _, _, _, agr, hO, aa.u, dx.u, ak.u, fr⟩
     refine au ?_
     refine Go1.ret1V Try.func160 rfl (show _ = .bool false from rfl) ?_
     refine hR67 _ _ ?_
     refine six1 0 hO H.1 H.2.1 ?_
     refine sst (u := (mgt dg r52)) 0 hO H.1 H.2.1 fun w83 s hO => ?_
     refine sinc (natbd h36 aa.bd) ?_
     refine au ?_
     exact hX1 _ H.2.2 _ _ ⟨_, _, _, _, _, _, _, _, _, _, _, _, _, _, _, _, _, _, _, agr, hO, aa.u, dx.u, ak.u, fr⟩
    refine au ?_
    refine Go1.ret1V Try.func160 rfl (show _ = .bool false from rfl) ?_
    refine hR67 _ _ ?_
    refine six1 0 hO H.1 H.2.1 ?_
    refine sst (u := (mgt dg r52)) 0 hO H.1 H.2.1 fun w84 s hO => ?_
    refine sinc (natbd h36 aa.bd) ?_
    refine au ?_
    exact hX1 _ H.2.2 _ _ ⟨_, _, _, _, _, _, _, _, _, _, _, _, _, _, _, _, _, _, _, agr, hO, aa.u, dx.u, ak.u, fr⟩
   refine au ?_
   obtain ⟨h85, H⟩ := H
   obtain ⟨h86, H⟩ := H
   refine zo (J01 Try.underlying23 ti31 rfl rfl h85 (ltn (Els.neqW ak.u hO 6 rfl) h86) (Els.psomeW ak.u hO 6 rfl h85 h86)) ?_
   have zz := oldSl 6 hO rfl ak.u h85 h86
   obtain ⟨p87, c88, kC, ww⟩ := zz
   refine zs (ww Try.underlying31 rfl rfl) ?_
   refine sxl hO kC H.1 H.2.1 ?_
   refine au ?_
   refine Go1.ret1V Try.func159 rfl (show _ = .int .i64 (ix (ix a0.Enum.Right (ix eU a0.Enum.Done)) (cL : Int)) from rfl) ?_
   refine hR68 _ _ ?_
   refine sxl1 4 hO H.2.2.1 H.2.2.2.1 ?_
   refine au ?_
   have h91 := H.2.2.1
   have h92 := H.2.2.2.1
   refine scm H.2.2.2.2 (fun h93 H => ?_) fun h93 H => ?_
   ·refine six1 5 hO H.1 H.2.1 ?_
    refine sld1 5 hO H.1 H.2.1 ?_
    refine au ?_
    have h94 := H.1
    have h95 := H.2.1
    refine scm H.2.2 (fun h96 H => ?_) fun h96 H => ?_
    ·refine au ?_
     refine Go1.ret1V Try.func160 rfl (show _ = .bool true from rfl) ?_
     refine hR67 _ _ ?_
     refine au ?_
     refine drw 5 [(0, .pure), (1, .pure), (2, .pure), (3, .pure), (4, .pure), (5, .stable), (6, .pure), (7, .pure), (8, .pure), (9, .pure), (10, .stable), (11, .pure), (12, .pure), (13, .stable), (14, .pure), (15, .loud), (16, .last), (17, .pure), (18, .pure), (19, .pure), (20, .last)] hO fun w97 s hO => ?_
     refine sxl1 8 hO H.1 H.2.1 ?_
     have hle98 := t1le 8 hO H.1 H.2.1
     refine GoQ.pure rfl (J0a Try.underlying185 ti185 (pl := [(0, 1), (1, 1)]) (vs := [(0, .string (gstr ((ix d_27 a0.Enum.Done) ++ (chr (IntKind.i32.wrap ((97 : Int) + (cL : Int))))))), (1, .string (gstr (ix d_27 (mgt dg r52))))]) (cs := #[.string (gstr ((ix d_27 a0.Enum.Done) ++ (chr (IntKind.i32.wrap ((97 : Int) + (cL : Int)))))), .string (gstr (ix d_27 (mgt dg r52)))]) (by kernel_rfl) rfl (by kernel_rfl)) rfl rfl ?_
     refine sapF (⟨((ix d_27 a0.Enum.Done) ++ (chr (IntKind.i32.wrap ((97 : Int) + (cL : Int))))), ix d_27 (mgt dg r52)⟩ : Rule) 7 hO H.2.2 (fun _ w99 Bg Bi s hO => ?_) (hok := by exact ⟨(lenApp h61), hle98⟩)
     refine sbs 1 hO fun Bj s hO => ?_
     refine six1 0 hO H.2.2.2.1 H.2.2.2.2.1 ?_
     refine sst (u := (mgt dg r52)) 0 hO H.2.2.2.1 H.2.2.2.2.1 fun vL s hO => ?_
     refine sinc (natbd h36 aa.bd) ?_
     refine au ?_
     exact hX1 _ H.2.2.2.2.2 _ _ ⟨_, _, _, _, _, _, _, _, _, _, _, _, _, _, _, _, _, _, _, agr, hO, aa.u, dx.u, ak.u, fr⟩
    refine au ?_
    refine Go1.ret1V Try.func160 rfl (show _ = .bool false from rfl) ?_
    refine hR67 _ _ ?_
    refine six1 0 hO H.1 H.2.1 ?_
    refine sst (u := (mgt dg r52)) 0 hO H.1 H.2.1 fun vM s hO => ?_
    refine sinc (natbd h36 aa.bd) ?_
    refine au ?_
    exact hX1 _ H.2.2 _ _ ⟨_, _, _, _, _, _, _, _, _, _, _, _, _, _, _, _, _, _, _, agr, hO, aa.u, dx.u, ak.u, fr⟩
   refine au ?_
   refine Go1.ret1V Try.func160 rfl (show _ = .bool false from rfl) ?_
   refine hR67 _ _ ?_
   refine six1 0 hO H.1 H.2.1 ?_
   refine sst (u := (mgt dg r52)) 0 hO H.1 H.2.1 fun u9 s hO => ?_
   refine sinc (natbd h36 aa.bd) ?_
   refine au ?_
   exact hX1 _ H.2.2 _ _ ⟨_, _, _, _, _, _, _, _, _, _, _, _, _, _, _, _, _, _, _, agr, hO, aa.u, dx.u, ak.u, fr⟩
  refine GoQ.stable rfl (olookF (a := r52) (MK.str Try.underlying9) 11 hO rfl Try.underlying154 ti3 rfl rfl h54) rfl rfl ?_
  refine sxl1 8 hO (ifn h54 H).1 (ifn h54 H).2.1 ?_
  have hle106 := t1le 8 hO (ifn h54 H).1 (ifn h54 H).2.1
  refine au ?_
  have f9 := (ifn h54 H).1
  have n7 := (ifn h54 H).2.1
  replace H := (ifn h54 H).2.2
  obtain ⟨wz, H⟩ := H
  refine zo (J0l rfl rfl (wrap_i64 wz)) ?_
  refine zo (J2Z Try.underlying3 Try.underlying21 rfl rfl) ?_
  obtain ⟨wA, H⟩ := H
  obtain ⟨gf, H⟩ := H
  refine zo (J3B Try.underlying21 Try.underlying9 rfl wA gf) ?_
  obtain ⟨fy, H⟩ := H
  refine zo (J1i rfl rfl fy) ?_
  refine au ?_
  refine zo (J18 Try.underlying23 rfl (Els.neqW dx.u hO 3 rfl)) ?_
  refine scm H (fun gh H => ?_) fun gh H => ?_
  ·refine au ?_
   refine sdr [0] hO fun s hO => ?_
   refine Go1.ret1 Try.func133 rfl ⟨_, (⟨(⟨a0.Enum.Points, a0.Enum.Monoid, a0.Enum.Gens, d_9, jL, jM, a0.Enum.Right, jN, a0.Enum.Done⟩ : Enum), dg, d_27, eU, a0.single⟩ : run), _, _, _, _, _, _, _, _, _, _, _, _, _, _, _, _, _, _, _, _, _, _, _, _, _, _, _, _, _, _, ?_, hO, aa.u, dx.u, ak.u, fr, H⟩
   exact rfl
  refine sxl1 9 hO H.1 H.2.1 ?_
  refine au ?_
  refine GoR.inl (vs := [.pointer (some ⟨dp, 0, none⟩), .int .i64 (ix eU a0.Enum.Done), .int .i64 (cL : Int)]) (caps := []) rfl rfl body159 Try.func159 rfl Try.ntmps159 rfl rfl rfl ?_
  intro RhR114 hR114
  refine scm H.2.2 (fun wB H => ?_) fun wB H => ?_
  ·refine sxl1 10 hO H.1 H.2.1 ?_
   refine au ?_
   refine Go1.ret1V Try.func159 rfl (show _ = .int .i64 (ix a0.single (cL : Int)) from rfl) ?_
   refine hR114 _ _ ?_
   refine GoR.inl (vs := [.pointer (some ⟨dp, 0, none⟩), .slice fe r49.length fh, .int .i64 a0.Enum.Done, .int .i64 (cL : Int), .string (gstr ((ix d_27 a0.Enum.Done) ++ (chr (IntKind.i32.wrap ((97 : Int) + (cL : Int)))))), .int .i64 (ix a0.single (cL : Int))]) (caps := []) rfl rfl body155 Try.func155 rfl Try.ntmps155 rfl rfl rfl ?_
   intro RhR116 hR116
   refine au ?_
   refine zo (J18 Try.underlying23 rfl (Els.neqW dx.u hO 3 rfl)) ?_
   refine au ?_
   refine drw 1 [(0, .pure), (1, .pure), (2, .pure), (3, .stable), (4, .pure), (6, .pure), (5, .loud), (7, .last)] hO fun vY s hO => ?_
   refine au ?_
   refine zcq rfl (J00 body157 rfl (J05 hO.lt gC.u H.2.2)) fun _ n8 => e1 fun wC => sq0 hO fun s hO => d1 fun yc H => ?_
   have zz := omapUpd (MK.str Try.underlying9) 11 hO rfl Try.underlying154 wC (d_9.length : Int)
   obtain ⟨Bk, iI, oW⟩ := zz
   refine GoQ.last rfl (oW (by exact rfl) (by exact rfl) (by exact rfl)) rfl rfl ?_
   refine nst iI fun s hO => ?_
   refine au ?_
   have zz := J2p (r := Rp.sl (Rp.int .i64)) (n := 1) (parts := [(0, .slice fe r49.length fh)]) (vs := [.slice fe r49.length fh]) (xs := [r49]) rfl Try.underlying23 ti31 hO (by decide) (by kernel_rfl) (Els.cons rfl ⟨fe, fh, rfl, gC.u⟩ (Els.nil _ _ _) (by simp [mx])) rfl
   obtain ⟨Bl, Bm, oX, sY, yA, oY⟩ := zz
   refine zg (oY rfl) ?_
   refine nst oX fun s hO => ?_
   refine sfzR 0 hO sY fun s hO ta tc => ?_
   obtain ⟨wD, H⟩ := H
   have zz := oapp Try.underlying23 ti31 rfl 3 hO rfl dx.u ta tc wD (by decide)
   obtain ⟨Bn, Bo, Bp, yB, o3, nf, o4⟩ := zz
   dsimp only [sS, sZ] at nf
   refine zg (o4 (by exact rfl) (by exact rfl)) ?_
   refine nst o3 fun s hO => ?_
   refine sbs 1 hO fun wE s hO => ?_
   refine au ?_
   refine sap1 a0.Enum.Done 4 hO H fun _ Bq Br Bs s hO => ?_
   refine sbs 1 hO fun v7 s hO => ?_
   refine au ?_
   refine sap1 ((cL : Int)) 5 hO H.2 fun _ Bt Bu Bv s hO => ?_
   refine sbs 1 hO fun wF s hO => ?_
   refine au ?_
   refine sap1 (((ix d_27 a0.Enum.Done) ++ (chr (IntKind.i32.wrap ((97 : Int) + (cL : Int)))))) 8 hO H.2.2 (fun _ Bw Bx By s hO => ?_) (hR := by exact fun _ _ => ⟨rfl, (lenApp fy)⟩)
   refine sbs 1 hO fun od s hO => ?_
   refine au ?_
   refine sap1 ((ix a0.single (cL : Int))) 9 hO H.2.2.2 fun _ Bz BA BB s hO => ?_
   refine sbs 1 hO fun BC s hO => ?_
   refine au ?_
   refine Go1.ret1V Try.func155 rfl (show _ = .int .i64 (d_9.length : Int) from rfl) ?_
   refine hR116 _ _ ?_
   refine six1 0 hO H.2.2.2.2.1 H.2.2.2.2.2.1 ?_
   refine sst (u := (d_9.length : Int)) 0 hO H.2.2.2.2.1 H.2.2.2.2.2.1 fun BD s hO => ?_
   refine sinc (natbd h36 aa.bd) ?_
   refine au ?_
   exact hX1 _ H.2.2.2.2.2.2 _ _ ⟨_, _, _, _, _, _, _, _, _, _, _, _, _, _, _, _, _, _, _, agr, hO, aa.u, nf.u, ak.u, fr⟩
  refine au ?_
  obtain ⟨h159, H⟩ := H
  obtain ⟨lK, H⟩ := H
  refine zo (J01 Try.underlying23 ti31 rfl rfl h159 (ltn (Els.neqW ak.u hO 6 rfl) lK) (Els.psomeW ak.u hO 6 rfl h159 lK)) ?_
  have zz := oldSl 6 hO rfl ak.u h159 lK
  obtain ⟨g5, BE, te, tf⟩ := zz
  refine zs (tf Try.underlying31 rfl rfl) ?_
  refine sxl hO te H.1 H.2.1 ?_
  refine au ?_
  refine Go1.ret1V Try.func159 rfl (show _ = .int .i64 (ix (ix a0.Enum.Right (ix eU a0.Enum.Done)) (cL : Int)) from rfl) ?_
  refine hR114 _ _ ?_
  refine GoR.inl (vs := [.pointer (some ⟨dp, 0, none⟩), .slice fe r49.length fh, .int .i64 a0.Enum.Done, .int .i64 (cL : Int), .string (gstr ((ix d_27 a0.Enum.Done) ++ (chr (IntKind.i32.wrap ((97 : Int) + (cL : Int)))))), .int .i64 (ix (ix a0.Enum.Right (ix eU a0.Enum.Done)) (cL : Int))]) (caps := []) rfl rfl body155 Try.func155 rfl Try.ntmps155 rfl rfl rfl ?_
  intro RhR165 hR165
  refine au ?_
  refine zo (J18 Try.underlying23 rfl (Els.neqW dx.u hO 3 rfl)) ?_
  refine au ?_
  refine drw 1 [(0, .pure), (1, .pure), (2, .pure), (3, .stable), (4, .pure), (6, .pure), (5, .loud), (7, .last)] hO fun BG s hO => ?_
  refine au ?_
  refine zcq rfl (J00 body157 rfl (J05 hO.lt gC.u H.2.2)) fun _ oE => e1 fun r167 => sq0 hO fun s hO => d1 fun yd H => ?_
  have zz := omapUpd (MK.str Try.underlying9) 11 hO rfl Try.underlying154 r167 (d_9.length : Int)
  obtain ⟨BH, o5, o6⟩ := zz
  refine GoQ.last rfl (o6 (by exact rfl) (by exact rfl) (by exact rfl)) rfl rfl ?_
  refine nst o5 fun s hO => ?_
  refine au ?_
  have zz := J2p (r := Rp.sl (Rp.int .i64)) (n := 1) (parts := [(0, .slice fe r49.length fh)]) (vs := [.slice fe r49.length fh]) (xs := [r49]) rfl Try.underlying23 ti31 hO (by decide) (by kernel_rfl) (Els.cons rfl ⟨fe, fh, rfl, gC.u⟩ (Els.nil _ _ _) (by simp [mx])) rfl
  obtain ⟨oF, wa, o7, tg, yC, o8⟩ := zz
  refine zg (o8 rfl) ?_
  refine nst o7 fun s hO => ?_
  refine sfzR 0 hO tg fun s hO jt ju => ?_
  obtain ⟨wG, H⟩ := H
  have zz := oapp Try.underlying23 ti31 rfl 3 hO rfl dx.u jt ju wG (by decide)
  obtain ⟨BJ, BK, BL, yD, o9, ng, pc⟩ := zz
  dsimp only [sS, sZ] at ng
  refine zg (pc (by exact rfl) (by exact rfl)) ?_
  refine nst o9 fun s hO => ?_
  refine sbs 1 hO fun we s hO => ?_
  refine au ?_
  refine sap1 a0.Enum.Done 4 hO H fun _ vr BM BN s hO => ?_
  refine sbs 1 hO fun BO s hO => ?_
  refine au ?_
  refine sap1 ((cL : Int)) 5 hO H.2 fun _ vw BP BQ s hO => ?_
  refine sbs 1 hO fun BR s hO => ?_
  refine au ?_
  refine sap1 (((ix d_27 a0.Enum.Done) ++ (chr (IntKind.i32.wrap ((97 : Int) + (cL : Int)))))) 8 hO H.2.2 (fun _ vy BS BT s hO => ?_) (hR := by exact fun _ _ => ⟨rfl, (lenApp fy)⟩)
  refine sbs 1 hO fun BU s hO => ?_
  refine au ?_
  refine sap1 ((ix (ix a0.Enum.Right (ix eU a0.Enum.Done)) (cL : Int))) 9 hO H.2.2.2 fun _ vz BV BW s hO => ?_
  refine sbs 1 hO fun BX s hO => ?_
  refine au ?_
  refine Go1.ret1V Try.func155 rfl (show _ = .int .i64 (d_9.length : Int) from rfl) ?_
  refine hR165 _ _ ?_
  refine six1 0 hO H.2.2.2.2.1 H.2.2.2.2.2.1 ?_
  refine sst (u := (d_9.length : Int)) 0 hO H.2.2.2.2.1 H.2.2.2.2.2.1 fun BY s hO => ?_
  refine sinc (natbd h36 aa.bd) ?_
  refine au ?_
  exact hX1 _ H.2.2.2.2.2.2 _ _ ⟨_, _, _, _, _, _, _, _, _, _, _, _, _, _, _, _, _, _, _, agr, hO, aa.u, ng.u, ak.u, fr⟩
 refine au ?_
 refine sfz 0 hO fun s hO tj tm => ?_
 have zz := J2p (r := Rp.sl (Rp.int .i64)) (n := 1) (parts := [(0, .slice p4 a0.Enum.Gens.length a0.Enum.Gens.length)]) (vs := [.slice p4 a0.Enum.Gens.length a0.Enum.Gens.length]) (xs := [d_8]) rfl Try.underlying23 ti31 hO (by decide) (by kernel_rfl) (Els.cons rfl ⟨p4, a0.Enum.Gens.length, congrArg some (congrArg (fun nn => Value.slice p4 nn a0.Enum.Gens.length) tm), tj⟩ (Els.nil _ _ _) (by simp [mx])) rfl
 obtain ⟨B1, B3, pe, tn, yE, iV⟩ := zz
 refine zg (iV rfl) ?_
 refine nst pe fun s hO => ?_
 refine sfzR 0 hO tn fun s hO tp tq => ?_
 obtain ⟨wH, H⟩ := H
 have zz := oapp Try.underlying23 ti31 rfl 5 hO rfl ak.u tp tq wH (by decide)
 obtain ⟨B6, B8, Ca, yF, pg, nh, ph⟩ := zz
 dsimp only [sS, sZ] at nh
 refine zg (ph (by exact rfl) (by exact rfl)) ?_
 refine nst pg fun s hO => ?_
 refine sbs 0 hO fun Cb s hO => ?_
 refine au ?_
 obtain ⟨wI, H⟩ := H
 refine zo (J0l rfl rfl (wrap_i64 wI)) ?_
 refine sbs 0 hO fun Cc s hO => ?_
 refine au ?_
 refine Go1.ret1 Try.func133 rfl ⟨_, (⟨(⟨a0.Enum.Points, a0.Enum.Monoid, a0.Enum.Gens, d_9, jL, jM, a0.Enum.Right ++ ([d_8]), jN, (a0.Enum.Done + (1 : Int))⟩ : Enum), dg, d_27, eU, a0.single⟩ : run), _, _, _, _, _, _, _, _, _, _, _, _, _, _, _, _, _, _, _, _, _, _, _, _, _, _, _, _, _, _, ?_, hO, aa.u, dx.u, nh.u, fr, H⟩
 exact rfl
theorem body132 : Body Try.prog 132 := ⟨Try.f132, Try.func132, rfl, by kernel_rfl⟩
theorem body101 : Body Try.prog 101 := ⟨Try.f101, Try.func101, rfl, by kernel_rfl⟩
theorem J3e {A : List Nat} {w0 : World} {iW : Option Addr} {iX : Nat} {gens : List (List Int)} {monoid : Bool} (hA : ∀ b ∈ A, b < w0.heap.size) (pk : ISl (Rp.sl (Rp.int .i64)) A w0 iW iX gens) {K : Enum → Int → Prop} (H : J0U gens monoid K) :
    CallsV Try.prog 101 #[.slice iW gens.length iX, .bool monoid] w0 (fun v w' => ∃ (r0 : Enum) (r1 : Int) (ic : Option Addr) (ie : Nat) (gD : Option Addr) (gE : Nat) (fS : Option Addr) (fT : Nat) (ig : Option Addr) (ii : Nat) (gF : Option Addr) (gG : Nat) (gH : Option Addr) (gI : Nat), v = .tuple #[.agg #[.int .i64 r0.Points, .bool r0.Monoid, .slice ic r0.Gens.length ie, .slice gD r0.Elems.length gE, .slice fS r0.Prefix.length fT, .slice ig r0.Last.length ii, .slice gF r0.Right.length gG, .slice gH r0.Rules.length gI, .int .i64 r0.Done], .int .i64 r1] ∧ Same w0 w' ∧ ISl (Rp.sl (Rp.int .i64)) A w' ic ie r0.Gens ∧ ISl (Rp.sl (Rp.int .i64)) A w' gD gE r0.Elems ∧ ISl (Rp.int .i64) A w' fS fT r0.Prefix ∧ ISl (Rp.int .i64) A w' ig ii r0.Last ∧ ISl (Rp.sl (Rp.int .i64)) A w' gF gG r0.Right ∧ ISl (rpRule) A w' gH gI r0.Rules ∧ K r0 r1) := by
 refine CallsV.of (l := [.slice iW gens.length iX, .bool monoid]) Try.func101 rfl Try.ntmps101 rfl ?_
 have hO := Owns.start hA
 have hB := Fr.refl (bl []) w0
 unfold J0U at H
 refine sal hO fun w1 B2 s hO => ?_
 refine au ?_
 refine zcr (J00 body131 rfl (J3d hO.lt pk.u H)) fun _ w6 hc => Or.elim hc ?_ ?_
 ·refine e1 fun r5 => d2 fun hv hs H => ?_
  subst hv; clear hc
  replace H := oElimN H
  refine sm hO hs fun s hO => ?_
  refine scm H (fun h7 H => ?_) fun h7 H => ?_
  ·refine au ?_
   refine lw H (fun _ σ w => (fun Z => agrees σ [(4, .pointer (some ⟨B2, 0, none⟩)), (6, .pointer none)] ∧ Owns w0.heap.size w Z A ∧ Fr (bl []) w0 (bl Z) w) [.blk B2 (.cells #[.int .i64 (0 : Int), .bool false, .slice none 0 0, .slice none 0 0, .slice none 0 0, .slice none 0 0, .slice none 0 0, .slice none 0 0, .int .i64 (0 : Int)] 123 (0, 0))]) ⟨agr, hO, fr⟩ ?_
   refine fun X1 => fun _ => fun H hX1 σ w8 => d2 fun hag hO hB => ?_
   refine Go1.keep _ hag ?_
   revert hO; repeat (rename Owns _ _ _ _ => q; clear q)
   intro hO; repeat (rename Sq _ _ _ _ _ _ => q; clear q)
   refine au ?_
   refine GoR.inl (vs := [.pointer none]) (caps := []) rfl rfl body132 Try.func132 rfl Try.ntmps132 rfl rfl rfl ?_
   intro RhR9 hR9
   refine au ?_
   refine drw 0 [(0, .pure), (1, .pure), (2, .pure), (3, .pure), (4, .stable), (5, .pure), (6, .pure), (7, .pure), (8, .pure), (9, .stable), (10, .pure), (11, .pure), (12, .pure)] hO fun w10 s hO => ?_
   refine au ?_
   exact (H).elim
  refine au ?_
  refine zo (J0a Try.underlying123 ti123 (pl := [(0, 1), (1, 1), (2, 1), (3, 1), (4, 1), (5, 1), (6, 1), (7, 1), (8, 1)]) (vs := []) (cs := #[.int .i64 (0 : Int), .bool false, .slice none 0 0, .slice none 0 0, .slice none 0 0, .slice none 0 0, .slice none 0 0, .slice none 0 0, .int .i64 (0 : Int)]) (by kernel_rfl) rfl (by kernel_rfl)) ?_
  refine sba 0 hO fun w11 s hO => ?_
  refine au ?_
  refine Go1.retC2 Try.func101 rfl rfl (rlb 0 hO) ⟨((⟨(0 : Int), false, ([] : List (List Int)), ([] : List (List Int)), ([] : List Int), ([] : List Int), ([] : List (List Int)), ([] : List Rule), (0 : Int)⟩ : Enum)), _, _, _, _, _, _, _, _, _, _, _, _, _, ?_, frs, (ISl.null _ _ _), (ISl.null _ _ _), (ISl.null _ _ _), (ISl.null _ _ _), (ISl.null _ _ _), (ISl.null _ _ _), H⟩
  exact rfl
 refine e4 fun r4 r5 lL nM => e4 fun nO nP ni nj => e4 fun nk nr lM lN => e4 fun lO lP nQ nS => e4 fun nT ns nt nu => e4 fun lQ nw ny nA => e4 fun fU tt tu tv => e4 fun qN qO qP qQ => e2 fun qR qS => d1 fun hv => d1 fun hs => d4 fun hN dU dN dO H => ?_
 subst hv; clear hc
 refine smr hO hs hN fun s hO c => ?_
 replace H := oElimS H
 replace dU := dU.ch c
 replace dN := dN.ch c
 replace dO := dO.ch c
 refine scm H (fun h23 H => ?_) fun h23 H => ?_
 ·refine au ?_
  refine lw H (fun (gJ, gK, k2_27, d_28, d_34, d_40, d_44, d_48, jO, d_58, lR, lT, jP) σ w => ∃ n33 p31 c32 lU n39 p37 c38 lV n43 p41 c42 n47 p45 c46 n53 p51 c52 lW n57 p55 c56 n61 p59 c60 n65 p63 c64 n69 p67 c68, (fun Z => agrees σ [(4, .pointer (some ⟨B2, 0, none⟩)), (6, .pointer (some ⟨lL, 0, none⟩))] ∧ Owns w0.heap.size w Z A ∧ Els (Rp.sl (Rp.int .i64)) (bl Z ++ A) w lU d_28 ∧ Els (Rp.sl (Rp.int .i64)) (bl Z ++ A) w lV d_34 ∧ Els (Rp.sl (Rp.int .i64)) (bl Z ++ A) w lW d_48 ∧ Fr (bl []) w0 (bl Z) w) [.blk lL (.cells #[.int .i64 gJ, .bool gK, .slice p31 n33 c32, .slice p37 n39 c38, .slice p41 n43 c42, .slice p45 n47 c46, .slice p51 n53 c52, .slice p55 n57 c56, .int .i64 k2_27, .map (some fU), .slice p59 n61 c60, .slice p63 n65 c64, .slice p67 n69 c68] 156 (0, 0)), .row 31 1 p31 n33 c32 lU, .row 31 1 p37 n39 c38 lV, t1 Fl.i 3 p41 n43 c42 d_40, t1 Fl.i 3 p45 n47 c46 d_44, .row 31 1 p51 n53 c52 lW, t1 (id Fl.fl : Fl rpRule) 185 p55 n57 c56 jO, t1 Fl.str 9 p59 n61 c60 d_58, t1 Fl.i 3 p63 n65 c64 lR, t1 Fl.i 3 p67 n69 c68 lT, .any (mapE (fun a : List UInt8 => Value.string (gstr a)) (fun a : Int => Value.int .i64 a) fU jP), .blk B2 (.cells #[.int .i64 (0 : Int), .bool false, .slice none 0 0, .slice none 0 0, .slice none 0 0, .slice none 0 0, .slice none 0 0, .slice none 0 0, .int .i64 (0 : Int)] 123 (0, 0))]) ⟨_, _, _, _, _, _, _, _, _, _, _, _, _, _, _, _, _, _, _, _, _, _, _, _, _, _, _, _, _, _, agr, hO, dU.u, dN.u, dO.u, fr⟩ ?_
  refine fun X2 => p1 fun gJ => p1 fun gK => p1 fun k2_27 => p1 fun d_28 => p1 fun d_34 => p1 fun d_40 => p1 fun d_44 => p1 fun d_48 => p1 fun jO => p3 fun d_58 lR lT jP => fun H hX2 σ w24 => e4 fun n33 p31 c32 lU => e4 fun n39 p37 c38 lV => e4 fun n43 p41 c42 n47 => e4 fun p45 c46 n53 p51 => e4 fun c52 lW n57 p55 => e4 fun c56 n61 p59 c60 => e4 fun n65 p63 c64 n69 => e2 fun p67 c68 => d1 fun hag => d4 fun hO po lX pp hB => ?_
  dsimp only at H
  refine Go1.keep _ hag ?_
  revert hO; repeat (rename Owns _ _ _ _ => q; clear q)
  intro hO; repeat (rename Sq _ _ _ _ _ _ => q; clear q)
  refine au ?_
  refine GoR.inl (vs := [.pointer (some ⟨lL, 0, none⟩)]) (caps := []) rfl rfl body132 Try.func132 rfl Try.ntmps132 rfl rfl rfl ?_
  intro RhR71 hR71
  refine au ?_
  refine drw 0 [(0, .pure), (1, .pure), (2, .pure), (3, .pure), (4, .stable), (5, .pure), (6, .pure), (7, .pure), (8, .pure), (9, .stable), (10, .pure), (11, .pure), (12, .pure)] hO fun w72 s hO => ?_
  refine au ?_
  refine GoQ.pure rfl (J18 Try.underlying23 rfl (Els.neqW lX.u hO 2 rfl)) rfl rfl ?_
  refine scm H (fun h73 H => ?_) fun h73 H => ?_
  ·refine au ?_
   refine Go1.ret1V Try.func132 rfl (show _ = .bool true from rfl) ?_
   refine hR71 _ _ ?_
   refine au ?_
   refine zs (J5a (vs := [.int .i64 gJ, .bool gK, .slice p31 n33 c32, .slice p37 n39 c38, .slice p41 n43 c42, .slice p45 n47 c46, .slice p51 n53 c52, .slice p55 n57 c56, .int .i64 k2_27]) (i := 0) 0 hO rfl rfl Try.underlying123 rfl ti123 rfl) ?_
   refine sba 11 hO fun w74 s hO => ?_
   refine au ?_
   refine sfzR 1 hO po.u fun s hO wJ wK => ?_
   refine sfzR 1 hO lX.u fun s hO wL wM => ?_
   refine sfz 1 hO fun s hO kE kF => ?_
   refine sfz 1 hO fun s hO iP kG => ?_
   refine sfzR 1 hO pp.u fun s hO wN wO => ?_
   refine sfz 1 hO fun s hO lY l5 => ?_
   refine Go1.retC2 Try.func101 rfl rfl (rlb 5 hO) ⟨((⟨gJ, gK, d_28, d_34, d_40, d_44, d_48, jO, k2_27⟩ : Enum)), _, _, _, _, _, _, _, _, _, _, _, _, _, ?_, frs, wJ.r, wL.r, kE.r, iP.r, wN.r, lY.r, H⟩
   exact (congrArg (fun l => Value.tuple (List.toArray l)) (J02 (congrArg (fun l => Value.agg (List.toArray l)) (J02 rfl (J02 rfl (J02 (congrArg (fun nn => Value.slice p31 nn c32) wK) (J02 (congrArg (fun nn => Value.slice p37 nn c38) wM) (J02 (congrArg (fun nn => Value.slice p41 nn c42) kF) (J02 (congrArg (fun nn => Value.slice p45 nn c46) kG) (J02 (congrArg (fun nn => Value.slice p51 nn c52) wO) (J02 (congrArg (fun nn => Value.slice p55 nn c56) l5) (J02 rfl rfl)))))))))) (J02 rfl rfl)))
  refine au ?_
  refine Go1.ret1V Try.func132 rfl (show _ = .bool false from rfl) ?_
  refine hR71 _ _ ?_
  refine au ?_
  refine sob 11 hO fun sg hO1 => ?_
  refine zcr (J00 body133 rfl (J2a (a0 := (⟨(⟨gJ, gK, d_28, d_34, d_40, d_44, d_48, jO, k2_27⟩ : Enum), jP, d_58, lR, lT⟩ : run)) hO1 po.u lX.u pp.u H)) fun _ w89 => e4 fun r87 q88 nB nC => e4 fun nE l7 l8 l9 => e4 fun ma ko kq kr => e4 fun ks nF nG nH => e4 fun mb mc mf kt => e4 fun mg mh mj qT => e4 fun qU qV pq pt => e4 fun pv pC pD pE => d1 fun hv => d1 fun hN90 => d4 fun dP dC dD hF91 H => ?_
  subst hv; clear sg hO1
  refine sjn hO hN90 hF91 fun s hO c => ?_
  replace dP := dP.ch c
  replace dC := dC.ch c
  replace dD := dD.ch c
  refine scm H (fun h92 H => ?_) fun h92 H => ?_
  ·refine au ?_
   exact hX2 _ H _ _ ⟨_, _, _, _, _, _, _, _, _, _, _, _, _, _, _, _, _, _, _, _, _, _, _, _, _, _, _, _, _, _, agr, hO, dP, dC, dD, fr⟩
  refine au ?_
  refine zo (J0a Try.underlying123 ti123 (pl := [(0, 1), (1, 1), (2, 1), (3, 1), (4, 1), (5, 1), (6, 1), (7, 1), (8, 1)]) (vs := []) (cs := #[.int .i64 (0 : Int), .bool false, .slice none 0 0, .slice none 0 0, .slice none 0 0, .slice none 0 0, .slice none 0 0, .slice none 0 0, .int .i64 (0 : Int)]) (by kernel_rfl) rfl (by kernel_rfl)) ?_
  refine sba 11 hO fun w93 s hO => ?_
  refine au ?_
  refine Go1.retC2 Try.func101 rfl rfl (rlb 11 hO) ⟨((⟨(0 : Int), false, ([] : List (List Int)), ([] : List (List Int)), ([] : List Int), ([] : List Int), ([] : List (List Int)), ([] : List Rule), (0 : Int)⟩ : Enum)), _, _, _, _, _, _, _, _, _, _, _, _, _, ?_, frs, (ISl.null _ _ _), (ISl.null _ _ _), (ISl.null _ _ _), (ISl.null _ _ _), (ISl.null _ _ _), (ISl.null _ _ _), H⟩
  exact rfl
 refine au ?_
 refine zo (J0a Try.underlying123 ti123 (pl := [(0, 1), (1, 1), (2, 1), (3, 1), (4, 1), (5, 1), (6, 1), (7, 1), (8, 1)]) (vs := []) (cs := #[.int .i64 (0 : Int), .bool false, .slice none 0 0, .slice none 0 0, .slice none 0 0, .slice none 0 0, .slice none 0 0, .slice none 0 0, .int .i64 (0 : Int)]) (by kernel_rfl) rfl (by kernel_rfl)) ?_
 refine sba 11 hO fun w94 s hO => ?_
 refine au ?_
 refine Go1.retC2 Try.func101 rfl rfl (rlb 11 hO) ⟨((⟨(0 : Int), false, ([] : List (List Int)), ([] : List (List Int)), ([] : List Int), ([] : List Int), ([] : List (List Int)), ([] : List Rule), (0 : Int)⟩ : Enum)), _, _, _, _, _, _, _, _, _, _, _, _, _, ?_, frs, (ISl.null _ _ _), (ISl.null _ _ _), (ISl.null _ _ _), (ISl.null _ _ _), (ISl.null _ _ _), (ISl.null _ _ _), H⟩
 exact rfl
theorem body134 : Body Try.prog 134 := ⟨Try.f134, Try.func134, rfl, by kernel_rfl⟩
theorem J2M {A : List Nat} {w0 : World} {dq : Option Addr} {dA : Nat} {s_ : List Int} {v : Int} (hA : ∀ b ∈ A, b < w0.heap.size) (eK : ISl (Rp.int .i64) A w0 dq dA s_) {K : Int → Prop} (H : J13 s_ v K) :
    CallsV Try.prog 134 #[.slice dq s_.length dA, .int .i64 v] w0 (fun v w' => ∃ (r0 : Int), v = .int .i64 r0 ∧ Same w0 w' ∧ K r0) := by
 refine CallsV.of (l := [.slice dq s_.length dA, .int .i64 v]) Try.func134 rfl Try.ntmps134 rfl ?_
 have hO := Owns.start hA
 have hB := Fr.refl (bl []) w0
 unfold J13 at H
 refine sln0 ?_
 refine au ?_
 refine lw (H eK.bd) (fun k1_2 σ w => (fun Z => agrees σ [(0, .slice dq s_.length dA), (1, .int .i64 v), (7, .int .i64 (s_.length : Int)), (8, .int .i64 (k1_2 : Int))] ∧ Owns w0.heap.size w Z A ∧ Fr (bl []) w0 (bl Z) w) []) ⟨agr, hO, fr⟩ ?_
 refine fun X1 => fun k1_2 => fun H hX1 σ w1 => d2 fun hag hO hB => ?_
 refine Go1.keep _ hag ?_
 refine scm H (fun h3 H => ?_) fun h3 H => ?_
 ·refine sxl hO eK.u H.1 H.2.1 ?_
  have h4 := H.1
  have h5 := H.2.1
  refine scm H.2.2 (fun h6 H => ?_) fun h6 H => ?_
  ·refine au ?_
   refine Go1.ret1 Try.func134 rfl ⟨_, ?_, frs, H⟩
   exact rfl
  refine sinc (natbd h3 eK.bd) ?_
  refine au ?_
  exact hX1 _ H _ _ ⟨agr, hO, fr⟩
 refine au ?_
 refine Go1.ret1 Try.func134 rfl ⟨_, ?_, frs, H⟩
 exact rfl
theorem body102 : Body Try.prog 102 := ⟨Try.f102, Try.func102, rfl, by kernel_rfl⟩
theorem J2r {A : List Nat} {w0 : World} {dq : Option Addr} {dA : Nat} {s_ : List Int} {v : Int} (hA : ∀ b ∈ A, b < w0.heap.size) (eK : ISl (Rp.int .i64) A w0 dq dA s_) {K : Bool → Prop} (H : J0n s_ v K) :
    CallsV Try.prog 102 #[.slice dq s_.length dA, .int .i64 v] w0 (fun v w' => ∃ (r0 : Bool), v = .bool r0 ∧ Same w0 w' ∧ K r0) := by
 refine CallsV.of (l := [.slice dq s_.length dA, .int .i64 v]) Try.func102 rfl Try.ntmps102 rfl ?_
 have hO := Owns.start hA
 have hB := Fr.refl (bl []) w0
 unfold J0n at H
 refine au ?_
 refine zcr (J00 body134 rfl (J2M hO.lt eK.u H)) fun _ w2 => e1 fun r1 => sc0 hO fun s hO => fun H => ?_
 refine scm H (fun h3 H => ?_) fun h3 H => ?_
 ·refine au ?_
  refine Go1.ret1 Try.func102 rfl ⟨_, ?_, frs, H⟩
  exact rfl
 refine au ?_
 refine Go1.ret1 Try.func102 rfl ⟨_, ?_, frs, H⟩
 exact rfl
theorem body103 : Body Try.prog 103 := ⟨Try.f103, Try.func103, rfl, by kernel_rfl⟩
theorem J2b {A : List Nat} {w0 : World} {fH p_f : Option Addr} {fI c_f : Nat} {p : part} {f : List Int} (hA : ∀ b ∈ A, b < w0.heap.size) (kj : ISl (Rp.bool) A w0 fH fI p.final) (h_f : ISl (Rp.int .i64) A w0 p_f c_f f) {K : Bool → Prop} (H : J0q p f K) :
    CallsV Try.prog 103 #[.agg #[.int .i64 p.start, .slice fH p.final.length fI, .int .i64 p.shift], .slice p_f f.length c_f] w0 (fun v w' => ∃ (r0 : Bool), v = .bool r0 ∧ Same w0 w' ∧ K r0) := by
 refine CallsV.of (l := [.agg #[.int .i64 p.start, .slice fH p.final.length fI, .int .i64 p.shift], .slice p_f f.length c_f]) Try.func103 rfl Try.ntmps103 rfl ?_
 have hO := Owns.start hA
 have hB := Fr.refl (bl []) w0
 unfold J0q at H
 refine sbx hO fun w1 B2 s hO => ?_
 refine au ?_
 refine drw 0 [(0, .pure), (1, .stable), (2, .pure), (3, .pure), (4, .stable), (5, .pure), (6, .stable), (7, .pure), (8, .stable), (9, .pure), (10, .pure), (11, .stable), (12, .pure)] hO fun w4 s hO => ?_
 refine sxl hO h_f.u H.1 H.2.1 ?_
 refine au ?_
 have h5 := H.1
 have h6 := H.2.1
 replace H := H.2.2
 obtain ⟨h7, H⟩ := H
 refine GoQ.pure rfl (J2v rfl rfl (wrap_i64 h7)) rfl rfl ?_
 refine sxl hO kj.u H.1 H.2.1 ?_
 refine au ?_
 refine Go1.ret1 Try.func103 rfl ⟨_, ?_, frs, H.2.2⟩
 exact rfl
end Sg
