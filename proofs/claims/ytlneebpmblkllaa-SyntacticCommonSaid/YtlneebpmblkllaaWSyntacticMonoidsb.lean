/- -/
import Derived.Test.YtlneebpmblkllaaVd
import Derived.Test.YtlneebpmblkllaaWSyntacticMonoids
namespace Sg
open Go Go.RowKit Go.Proofs
set_option linter.unusedVariables false
set_option linter.unusedSimpArgs false
set_option maxRecDepth 100000
set_option maxHeartbeats 4000000
theorem body155 : Body Try.prog 155 := ⟨Try.f155, Try.func155, rfl, by kernel_rfl⟩
theorem body131 : Body Try.prog 131 := ⟨Try.f131, Try.func131, rfl, by kernel_rfl⟩
theorem J3R {A : List Nat} {w0 : World} {eG : Option Addr} {eH : Nat} {a0 : List (List Int)} {a1 : Bool} (hA : ∀ b ∈ A, b < w0.heap.size) (dj : ISl (Rp.sl (Rp.int .i64)) A w0 eG eH a0) {K : Option run → Int → Prop} (H : J0V a0 a1 K) :
    CallsV Try.prog 131 #[.slice eG a0.length eH, .bool a1] w0 (fun v w' => (∃ (r1 : Int), v = .tuple #[.pointer none, .int .i64 r1] ∧ Same w0 w' ∧ K none r1) ∨ (∃ (q : run) (r1 : Int) (b_q aN : Nat) (aO : Option Addr) (aP : Nat) (ck : List Value) (aA : Nat) (aB : Option Addr) (aC : Nat) (bV : List Value) (av : Nat) (aw : Option Addr) (ax aQ : Nat) (aR : Option Addr) (aS aD : Nat) (aE : Option Addr) (aF : Nat) (bW : List Value) (aG : Nat) (aH : Option Addr) (aI eh cq : Nat) (cv : Option Addr) (cw bM : Nat) (bN : Option Addr) (bO bP : Nat) (bQ : Option Addr) (bS : Nat), v = .tuple #[.pointer (some ⟨b_q, 0, none⟩), .int .i64 r1] ∧ Same w0 w' ∧ Owns w0.heap.size w' [.blk b_q (.cells #[.int .i64 q.Enum.Points, .bool q.Enum.Monoid, .slice aO aN aP, .slice aB aA aC, .slice aw av ax, .slice aR aQ aS, .slice aE aD aF, .slice aH aG aI, .int .i64 q.Enum.Done, .map (some eh), .slice cv cq cw, .slice bN bM bO, .slice bQ bP bS] 156 (0, 0)), .row 31 1 aO aN aP ck, .row 31 1 aB aA aC bV, t1 Fl.i 3 aw av ax q.Enum.Prefix, t1 Fl.i 3 aR aQ aS q.Enum.Last, .row 31 1 aE aD aF bW, t1 (id Fl.fl : Fl rpRule) 185 aH aG aI q.Enum.Rules, t1 Fl.str 9 cv cq cw q.words, t1 Fl.i 3 bN bM bO q.behind, t1 Fl.i 3 bQ bP bS q.single, .any (mapE (fun a : List UInt8 => Value.string (gstr a)) (fun a : Int => Value.int .i64 a) eh q.number)] A ∧ Els (Rp.sl (Rp.int .i64)) (bl [.blk b_q (.cells #[.int .i64 q.Enum.Points, .bool q.Enum.Monoid, .slice aO aN aP, .slice aB aA aC, .slice aw av ax, .slice aR aQ aS, .slice aE aD aF, .slice aH aG aI, .int .i64 q.Enum.Done, .map (some eh), .slice cv cq cw, .slice bN bM bO, .slice bQ bP bS] 156 (0, 0)), .row 31 1 aO aN aP ck, .row 31 1 aB aA aC bV, t1 Fl.i 3 aw av ax q.Enum.Prefix, t1 Fl.i 3 aR aQ aS q.Enum.Last, .row 31 1 aE aD aF bW, t1 (id Fl.fl : Fl rpRule) 185 aH aG aI q.Enum.Rules, t1 Fl.str 9 cv cq cw q.words, t1 Fl.i 3 bN bM bO q.behind, t1 Fl.i 3 bQ bP bS q.single, .any (mapE (fun a : List UInt8 => Value.string (gstr a)) (fun a : Int => Value.int .i64 a) eh q.number)] ++ A) w' ck q.Enum.Gens ∧ Els (Rp.sl (Rp.int .i64)) (bl [.blk b_q (.cells #[.int .i64 q.Enum.Points, .bool q.Enum.Monoid, .slice aO aN aP, .slice aB aA aC, .slice aw av ax, .slice aR aQ aS, .slice aE aD aF, .slice aH aG aI, .int .i64 q.Enum.Done, .map (some eh), .slice cv cq cw, .slice bN bM bO, .slice bQ bP bS] 156 (0, 0)), .row 31 1 aO aN aP ck, .row 31 1 aB aA aC bV, t1 Fl.i 3 aw av ax q.Enum.Prefix, t1 Fl.i 3 aR aQ aS q.Enum.Last, .row 31 1 aE aD aF bW, t1 (id Fl.fl : Fl rpRule) 185 aH aG aI q.Enum.Rules, t1 Fl.str 9 cv cq cw q.words, t1 Fl.i 3 bN bM bO q.behind, t1 Fl.i 3 bQ bP bS q.single, .any (mapE (fun a : List UInt8 => Value.string (gstr a)) (fun a : Int => Value.int .i64 a) eh q.number)] ++ A) w' bV q.Enum.Elems ∧ Els (Rp.sl (Rp.int .i64)) (bl [.blk b_q (.cells #[.int .i64 q.Enum.Points, .bool q.Enum.Monoid, .slice aO aN aP, .slice aB aA aC, .slice aw av ax, .slice aR aQ aS, .slice aE aD aF, .slice aH aG aI, .int .i64 q.Enum.Done, .map (some eh), .slice cv cq cw, .slice bN bM bO, .slice bQ bP bS] 156 (0, 0)), .row 31 1 aO aN aP ck, .row 31 1 aB aA aC bV, t1 Fl.i 3 aw av ax q.Enum.Prefix, t1 Fl.i 3 aR aQ aS q.Enum.Last, .row 31 1 aE aD aF bW, t1 (id Fl.fl : Fl rpRule) 185 aH aG aI q.Enum.Rules, t1 Fl.str 9 cv cq cw q.words, t1 Fl.i 3 bN bM bO q.behind, t1 Fl.i 3 bQ bP bS q.single, .any (mapE (fun a : List UInt8 => Value.string (gstr a)) (fun a : Int => Value.int .i64 a) eh q.number)] ++ A) w' bW q.Enum.Right ∧ K (some q) r1)) := by
 refine CallsV.of (l := [.slice eG a0.length eH, .bool a1]) Try.func131 rfl Try.ntmps131 rfl ?_
 have hO := Owns.start hA
 have hB := Fr.refl (bl []) w0
 unfold J0V at H
 refine sln0 ?_
 refine scm (H dj.bd) (fun h1 H => ?_) fun h1 H => ?_
 ·refine au ?_
  refine Go1.ret2 Try.func131 rfl (Or.inl ⟨_, ?_, frs, H⟩)
  exact rfl
 refine sln0 ?_
 refine scm H (fun h2 H => ?_) fun h2 H => ?_
 ·refine au ?_
  refine Go1.ret2 Try.func131 rfl (Or.inl ⟨_, ?_, frs, H⟩)
  exact rfl
 refine au ?_
 have zz := omakeMap (fun a : List UInt8 => Value.string (gstr a)) (fun a : Int => Value.int .i64 a) hO
 obtain ⟨w3, B4, Fi, hs6, Fj⟩ := zz
 refine zg Fj ?_
 refine nst Fi fun s hO => ?_
 refine zo (J06 Try.underlying156 ti156 (pl := [(0, 9), (9, 1), (10, 1), (11, 1), (12, 1)]) (vs := [(1, .map (some B4))]) (cs := #[.int .i64 (0 : Int), .bool false, .slice none 0 0, .slice none 0 0, .slice none 0 0, .slice none 0 0, .slice none 0 0, .slice none 0 0, .int .i64 (0 : Int), .map (some B4), .slice none 0 0, .slice none 0 0, .slice none 0 0]) (by kernel_rfl) rfl (by kernel_rfl)) ?_
 refine sbx hO fun w9 B10 s hO => ?_
 refine sxls hO dj.u H.1 H.2.1 fun p12 c13 lQ => ?_
 refine sln0 ?_
 refine sbs 0 hO fun w15 s hO => ?_
 refine sbs 0 hO fun w16 s hO => ?_
 refine sln0 ?_
 refine au ?_
 have AP := Stp.nil (e := 31) (r := 1) hO
 refine nst AP fun s hO => ?_
 have Fk := elN (Rp.sl (Rp.int .i64)) hO
 refine lw (H.2.2 lQ.bd) (fun (k1_21, d_22) σ w => ∃ n27 p25 c26 ju, (fun Z => agrees σ [(1, .bool a1), (6, .pointer (some ⟨B10, 0, none⟩)), (39, .slice eG a0.length eH), (40, .int .i64 (a0.length : Int)), (41, .int .i64 (k1_21 : Int))] ∧ Owns w0.heap.size w Z A ∧ Els (Rp.sl (Rp.int .i64)) (bl Z ++ A) w ju d_22 ∧ Fr (bl []) w0 (bl Z) w) [.row 31 1 p25 n27 c26 ju, .blk B10 (.cells #[.int .i64 ((ix a0 (0 : Int)).length : Int), .bool a1, .slice p25 n27 c26, .slice none 0 0, .slice none 0 0, .slice none 0 0, .slice none 0 0, .slice none 0 0, .int .i64 (0 : Int), .map (some B4), .slice none 0 0, .slice none 0 0, .slice none 0 0] 156 (0, 0)), .any (mapE (fun a : List UInt8 => Value.string (gstr a)) (fun a : Int => Value.int .i64 a) B4 (([] : List (Str × Int))))]) ⟨_, _, _, _, agr, hO, Fk.u, fr⟩ ?_
 refine fun X1 => p1 fun k1_21 d_22 => fun H hX1 σ w20 => e4 fun n27 p25 c26 ju => d3 fun hag hO dW hB => ?_
 dsimp only at H
 refine Go1.keep _ hag ?_
 revert hO; repeat (rename Owns _ _ _ _ => q; clear q)
 intro hO; repeat (rename Sq _ _ _ _ _ _ => q; clear q)
 refine scm H (fun h28 H => ?_) fun h28 H => ?_
 ·refine sxls hO dj.u H.1 H.2.1 fun p29 c30 kQ => ?_
  refine sln0 ?_
  refine au ?_
  have h32 := H.1
  have h33 := H.2.1
  refine scm (H.2.2 kQ.bd) (fun h34 H => ?_) fun h34 H => ?_
  ·refine au ?_
   refine zcr (J00 body154 rfl (J23 hO.lt kQ.u H)) fun _ w36 => e1 fun r35 => sc0 hO fun s hO => fun H => ?_
   cases r35
   ·refine au ?_
    refine Go1.ret2 Try.func131 rfl (Or.inl ⟨_, ?_, frs, (iF H)⟩)
    exact rfl
   refine au ?_
   refine drw 1 [(0, .pure), (1, .pure), (2, .pure), (3, .pure), (4, .pure), (5, .stable), (6, .pure), (7, .loud), (8, .loud), (9, .last), (10, .pure), (11, .pure), (12, .pure), (13, .last)] hO fun w37 s hO => ?_
   refine au ?_
   refine zcq rfl (J00 body86 rfl (J0j hO.lt kQ.u (iT H))) fun _ w40 => e4 fun r38 sb kE kF => sq1 hO fun s hO => fun H => ?_
   refine sfz 0 hO fun s hO Fm Fo => ?_
   have zz := J2Y (r := Rp.sl (Rp.int .i64)) (n := 1) (parts := [(0, .slice kE sb kF)]) (vs := [.slice kE sb kF]) (xs := [r38]) rfl Try.underlying23 ti31 hO (by decide) (by kernel_rfl) (Els.cons rfl ⟨kE, kF, congrArg some (congrArg (fun nn => Value.slice kE nn kF) Fo), Fm⟩ (Els.nil _ _ _) (by simp [mx])) rfl
   obtain ⟨w44, p45, AQ, lT, Fp, AR⟩ := zz
   refine GoQ.loud rfl (AR rfl) Fp rfl rfl ?_
   refine nst AQ fun s hO => ?_
   refine sfzR 0 hO lT fun s hO Fq Fs => ?_
   obtain ⟨h53, H⟩ := H
   have zz := oapp Try.underlying23 ti31 rfl 0 hO rfl dW.u Fq Fs h53 (by decide)
   obtain ⟨w54, p55, c56, Le, mQ, vG, AT⟩ := zz
   dsimp only [sS, sZ] at vG
   refine GoQ.last rfl (AT (by exact rfl) (by exact rfl)) rfl rfl ?_
   refine nst mQ fun s hO => ?_
   refine sbs 1 hO fun w62 s hO => ?_
   refine sinc (natbd h28 dj.bd) ?_
   refine au ?_
   exact hX1 _ H _ _ ⟨_, _, _, _, agr, hO, vG.u, fr⟩
  refine au ?_
  refine Go1.ret2 Try.func131 rfl (Or.inl ⟨_, ?_, frs, H⟩)
  exact rfl
 refine au ?_
 cases a1
 ·refine au ?_
  refine zo (J0E Try.underlying23 rfl (Els.neqW dW.u hO 0 rfl)) ?_
  refine au ?_
  have AU := Stp.nil (e := 31) (r := 1) hO
  refine nst AU fun s hO => ?_
  have Ft := elN (Rp.sl (Rp.int .i64)) hO
  refine snil Fl.i 3 hO fun s hO => ?_
  refine snil Fl.i 3 hO fun s hO => ?_
  refine snil (id Fl.fl : Fl rpRule) 185 hO fun s hO => ?_
  refine snil Fl.str 9 hO fun s hO => ?_
  refine snil Fl.i 3 hO fun s hO => ?_
  refine snil Fl.i 3 hO fun s hO => ?_
  refine lw (iF H) (fun (gH, pq, pt, d_82, d_86, pv, d_94, d_98, gA) σ w => ∃ n77 p75 c76 n81 p79 c80 n85 p83 c84 n89 p87 c88 n93 p91 c92 n97 p95 c96 pC m3 pD pE, (fun Z => agrees σ [(6, .pointer (some ⟨B10, 0, none⟩)), (9, .int .i64 (-1 : Int)), (85, .slice p25 n27 c26), (86, .int .i64 (d_22.length : Int)), (87, .int .i64 (gH : Int))] ∧ Owns w0.heap.size w Z A ∧ Els (Rp.sl (Rp.int .i64)) (bl Z ++ A) w pE d_98 ∧ Els (Rp.sl (Rp.int .i64)) (bl Z ++ A) w ju d_22 ∧ Fr (bl []) w0 (bl Z) w) [t1 Fl.i 3 p75 n77 c76 pq, t1 Fl.i 3 p79 n81 c80 pt, t1 Fl.str 9 p83 n85 c84 d_82, t1 (id Fl.fl : Fl rpRule) 185 p87 n89 c88 d_86, t1 Fl.i 3 p91 n93 c92 pv, t1 Fl.i 3 p95 n97 c96 d_94, .row 31 1 m3 pC pD pE, .row 31 1 p25 n27 c26 ju, .blk B10 (.cells #[.int .i64 ((ix a0 (0 : Int)).length : Int), .bool false, .slice p25 n27 c26, .slice m3 pC pD, .slice p95 n97 c96, .slice p91 n93 c92, .slice none 0 0, .slice p87 n89 c88, .int .i64 (0 : Int), .map (some B4), .slice p83 n85 c84, .slice p79 n81 c80, .slice p75 n77 c76] 156 (0, 0)), .any (mapE (fun a : List UInt8 => Value.string (gstr a)) (fun a : Int => Value.int .i64 a) B4 gA)]) ⟨_, _, _, _, _, _, _, _, _, _, _, _, _, _, _, _, _, _, _, _, _, _, agr, hO, Ft.u, dW.u, fr⟩ ?_
  refine fun X2 => p1 fun gH => p1 fun pq => p1 fun pt => p1 fun d_82 => p1 fun d_86 => p3 fun pv d_94 d_98 gA => fun H hX2 σ w72 => e4 fun n77 p75 c76 n81 => e4 fun p79 c80 n85 p83 => e4 fun c84 n89 p87 c88 => e4 fun n93 p91 c92 n97 => e4 fun p95 c96 pC m3 => e2 fun pD pE => d4 fun hag hO kG dW hB => ?_
  dsimp only at H
  refine Go1.keep _ hag ?_
  revert hO; repeat (rename Owns _ _ _ _ => q; clear q)
  intro hO; repeat (rename Sq _ _ _ _ _ _ => q; clear q)
  refine scm H (fun kS H => ?_) fun kS H => ?_
  ·refine au ?_
   obtain ⟨j8, H⟩ := H
   obtain ⟨iM, H⟩ := H
   refine zo (J01 Try.underlying23 ti31 rfl rfl j8 (ltn (Els.neqW dW hO 7 rfl) iM) (Els.psomeW dW hO 7 rfl j8 iM)) ?_
   have zz := oldSl 7 hO rfl dW j8 iM
   obtain ⟨Lf, Lg, sd, AV⟩ := zz
   refine zs (AV Try.underlying31 rfl rfl) ?_
   refine au ?_
   obtain ⟨jr, H⟩ := H
   refine zo (J0i rfl rfl (wrap_i64 jr)) ?_
   refine zo (J35 Try.underlying3 Try.underlying21 rfl rfl) ?_
   obtain ⟨jt, H⟩ := H
   obtain ⟨Fu, H⟩ := H
   refine zo (J4d Try.underlying21 Try.underlying9 rfl jt Fu) ?_
   refine au ?_
   refine drw 0 [(0, .pure), (1, .pure), (2, .pure), (3, .stable), (4, .pure), (5, .loud), (6, .stable), (7, .pure), (8, .pure), (9, .pure), (10, .pure), (11, .pure)] hO fun DT s hO => ?_
   refine au ?_
   refine zcq rfl (J00 body157 rfl (J0a hO.lt sd.u H)) fun _ Fv => e1 fun jv => sq0 hO fun s hO => d1 fun GP H => ?_
   by_cases gD : mhas gA jv = true
   ·refine GoQ.stable rfl (olookT (a := jv) (MK.str Try.underlying9) 9 hO rfl Try.underlying154 rfl rfl gD) rfl rfl ?_
    refine au ?_
    refine drw 5 [(0, .pure), (1, .pure), (2, .pure), (3, .pure), (4, .pure), (5, .stable), (6, .pure), (7, .pure), (8, .pure), (9, .pure), (10, .stable), (11, .pure), (12, .pure), (13, .stable), (14, .pure), (15, .loud), (16, .last), (17, .pure), (18, .pure), (19, .pure), (20, .last)] hO fun nY s hO => ?_
    refine sxl1 2 hO (ifp gD H).1 (ifp gD H).2.1 ?_
    have hle120 := t1le 2 hO (ifp gD H).1 (ifp gD H).2.1
    refine GoQ.pure rfl (J06 Try.underlying185 ti185 (pl := [(0, 1), (1, 1)]) (vs := [(0, .string (gstr (chr (IntKind.i32.wrap ((97 : Int) + (gH : Int)))))), (1, .string (gstr (ix d_82 (mgt gA jv))))]) (cs := #[.string (gstr (chr (IntKind.i32.wrap ((97 : Int) + (gH : Int))))), .string (gstr (ix d_82 (mgt gA jv)))]) (by kernel_rfl) rfl (by kernel_rfl)) rfl rfl ?_
    refine sapF (⟨(chr (IntKind.i32.wrap ((97 : Int) + (gH : Int)))), ix d_82 (mgt gA jv)⟩ : Rule) 3 hO (ifp gD H).2.2 (fun _ tz Lh Li s hO => ?_) (hok := by exact ⟨(J7i _), hle120⟩)
    refine sbs 8 hO fun Lj s hO => ?_
    refine au ?_
    refine sap1 ((mgt gA jv)) 0 hO (ifp gD H).2.2.2 fun _ tB Lk Ll s hO => ?_
    refine sbs 8 hO fun tC s hO => ?_
    refine sinc (natbd kS dW.bd) ?_
    refine au ?_
    exact hX2 _ (ifp gD H).2.2.2.2 _ _ ⟨_, _, _, _, _, _, _, _, _, _, _, _, _, _, _, _, _, _, _, _, _, _, agr, hO, kG.u, dW.u, fr⟩
   refine GoQ.stable rfl (olookF (a := jv) (MK.str Try.underlying9) 9 hO rfl Try.underlying154 ti3 rfl rfl gD) rfl rfl ?_
   refine au ?_
   refine zcr (J00 body86 rfl (J0j hO.lt sd.u (ifn gD H))) fun _ tD => e4 fun r129 jD gQ gR => sc1 hO fun s hO => fun H => ?_
   refine au ?_
   refine GoR.inl (vs := [.pointer (some ⟨B10, 0, none⟩), .slice gQ jD gR, .int .i64 (-1 : Int), .int .i64 (gH : Int), .string (gstr (chr (IntKind.i32.wrap ((97 : Int) + (gH : Int))))), .int .i64 (-1 : Int)]) (caps := []) rfl rfl body155 Try.func155 rfl Try.ntmps155 rfl rfl rfl ?_
   intro RhR133 hR133
   refine au ?_
   refine zo (J0E Try.underlying23 rfl (Els.neqW kG.u hO 7 rfl)) ?_
   refine au ?_
   refine drw 1 [(0, .pure), (1, .pure), (2, .pure), (3, .stable), (4, .pure), (6, .pure), (5, .loud), (7, .last)] hO fun tE s hO => ?_
   refine au ?_
   have AW := t1lend 0 hO
   have m5 := t1n 0 hO
   have hOc137 := hO.drop 0
   refine zcq rfl (J00 body157 (show ([.slice gQ jD gR] : List Value) = [.slice gQ r129.length gR] from by rw [← m5]) (J0a hOc137.lt AW H)) fun _ Ln => e1 fun Fw => sq0 hO fun s hO => d1 fun GQ H => ?_
   have zz := omapUpd (MK.str Try.underlying9) 10 hO rfl Try.underlying154 Fw (d_98.length : Int)
   obtain ⟨Lo, vH, vI⟩ := zz
   refine GoQ.last rfl (vI (by exact rfl) (by exact rfl) (by exact rfl)) rfl rfl ?_
   refine nst vH fun s hO => ?_
   refine au ?_
   refine sfz 0 hO fun s hO AX AY => ?_
   have zz := J2Y (r := Rp.sl (Rp.int .i64)) (n := 1) (parts := [(0, .slice gQ jD gR)]) (vs := [.slice gQ jD gR]) (xs := [r129]) rfl Try.underlying23 ti31 hO (by decide) (by kernel_rfl) (Els.cons rfl ⟨gQ, gR, congrArg some (congrArg (fun nn => Value.slice gQ nn gR) AY), AX⟩ (Els.nil _ _ _) (by simp [mx])) rfl
   obtain ⟨Fx, Lp, kV, mC, Hs, vJ⟩ := zz
   refine zg (vJ rfl) ?_
   refine nst kV fun s hO => ?_
   refine sfzR 0 hO mC.u fun s hO A4 A5 => ?_
   obtain ⟨Fy, H⟩ := H
   have zz := oapp Try.underlying23 ti31 rfl 6 hO rfl kG.u A4 A5 Fy (by decide)
   obtain ⟨tI, Do, Dp, Ht, vK, se, vL⟩ := zz
   dsimp only [sS, sZ] at se
   refine zg (vL (by exact rfl) (by exact rfl)) ?_
   refine nst vK fun s hO => ?_
   refine sbs 8 hO fun EW s hO => ?_
   refine au ?_
   refine sap1 ((-1 : Int)) 5 hO H fun _ tX Lr Lt s hO => ?_
   refine sbs 8 hO fun oo s hO => ?_
   refine au ?_
   refine sap1 ((gH : Int)) 4 hO H.2 fun _ oc Lu Lv s hO => ?_
   refine sbs 8 hO fun vA s hO => ?_
   refine au ?_
   refine sap1 ((chr (IntKind.i32.wrap ((97 : Int) + (gH : Int))))) 2 hO H.2.2 (fun _ vM Fz Lw s hO => ?_) (hR := by exact fun _ _ => ⟨rfl, (J7i _)⟩)
   refine sbs 8 hO fun tK s hO => ?_
   refine au ?_
   refine sap1 ((-1 : Int)) 1 hO H.2.2.2 fun _ EY Lx Ly s hO => ?_
   refine sbs 8 hO fun tL s hO => ?_
   refine au ?_
   refine Go1.ret1V Try.func155 rfl (show _ = .int .i64 (d_98.length : Int) from rfl) ?_
   refine hR133 _ _ ?_
   refine au ?_
   refine sap1 ((d_98.length : Int)) 0 hO H.2.2.2.2 fun _ Lz LA LB s hO => ?_
   refine sbs 8 hO fun E0 s hO => ?_
   refine sinc (natbd kS dW.bd) ?_
   refine au ?_
   exact hX2 _ H.2.2.2.2.2 _ _ ⟨_, _, _, _, _, _, _, _, _, _, _, _, _, _, _, _, _, _, _, _, _, _, agr, hO, se.u, dW.u, fr⟩
  refine au ?_
  have vN := Stp.nil (e := 31) (r := 1) hO
  refine nst vN fun s hO => ?_
  have A6 := elN (Rp.sl (Rp.int .i64)) hO
  refine sfr 10 hO fun s hO => ?_
  refine sfr 2 hO fun s hO => ?_
  refine sfr 3 hO fun s hO => ?_
  refine sfr 4 hO fun s hO => ?_
  refine sfr 5 hO fun s hO => ?_
  refine sfr 5 hO fun s hO => ?_
  refine sfr 6 hO fun s hO => ?_
  refine sfr 7 hO fun s hO => ?_
  refine sfr 8 hO fun s hO => ?_
  refine sfr 9 hO fun s hO => ?_
  refine sfr 10 hO fun s hO => ?_
  refine Go1.ret2 Try.func131 rfl (Or.inr ⟨(⟨(⟨((ix a0 (0 : Int)).length : Int), false, d_22, d_98, d_94, pv, ([] : List (List Int)), d_86, (0 : Int)⟩ : Enum), gA, d_82, pt, pq⟩ : run), _, _, _, _, _, _, _, _, _, _, _, _, _, _, _, _, _, _, _, _, _, _, _, _, _, _, _, _, _, _, _, _, _, ?_, frs, hO, dW.u, kG.u, A6.u, H⟩)
  exact rfl
 refine au ?_
 refine zcr (J00 body156 rfl (J4c hO.lt (iT H))) fun _ oe => e3 fun r187 jE jF => sc0 hO fun s hO => d1 fun nG H => ?_
 refine GoR.inl (vs := [.pointer (some ⟨B10, 0, none⟩), .slice jE r187.length jF, .int .i64 (-1 : Int), .int .i64 (-1 : Int), .string (gstr (([] : Str))), .int .i64 (-1 : Int)]) (caps := []) rfl rfl body155 Try.func155 rfl Try.ntmps155 rfl rfl rfl ?_
 intro RhR189 hR189
 refine sln0 ?_
 refine au ?_
 refine drw 1 [(0, .pure), (1, .pure), (2, .pure), (3, .stable), (4, .pure), (6, .pure), (5, .loud), (7, .last)] hO fun tM s hO => ?_
 refine au ?_
 refine zcq rfl (J00 body157 rfl (J0a hO.lt nG.u H)) fun _ DA => e1 fun r191 => sq0 hO fun s hO => d1 fun GR H => ?_
 have zz := omapUpd (MK.str Try.underlying9) 2 hO rfl Try.underlying154 r191 (0 : Int)
 obtain ⟨LD, vO, vP⟩ := zz
 refine GoQ.last rfl (vP (by exact rfl) (by exact rfl) (by exact rfl)) rfl rfl ?_
 refine nst vO fun s hO => ?_
 refine au ?_
 have zz := J2Y (r := Rp.sl (Rp.int .i64)) (n := 1) (parts := [(0, .slice jE r187.length jF)]) (vs := [.slice jE r187.length jF]) (xs := [r187]) rfl Try.underlying23 ti31 hO (by decide) (by kernel_rfl) (Els.cons rfl ⟨jE, jF, rfl, nG.u⟩ (Els.nil _ _ _) (by simp [mx])) rfl
 obtain ⟨LE, LF, vQ, A7, Hu, vR⟩ := zz
 refine zg (vR rfl) ?_
 refine nst vQ fun s hO => ?_
 refine sfzR 0 hO A7 fun s hO A8 A9 => ?_
 have vS := Stp.nil (e := 31) (r := 1) hO
 refine nst vS fun s hO => ?_
 have Ba := elN (Rp.sl (Rp.int .i64)) hO
 obtain ⟨kW, H⟩ := H
 have zz := oapp Try.underlying23 ti31 rfl 0 hO rfl Ba A8.u A9 kW (by decide)
 obtain ⟨tO, LG, LH, Hv, vT, sf, lU⟩ := zz
 dsimp only [sS, sZ] at sf
 refine zg (lU (by exact rfl) (by exact rfl)) ?_
 refine nst vT fun s hO => ?_
 refine sbs 2 hO fun pF s hO => ?_
 refine au ?_
 refine snil Fl.i 3 hO fun s hO => ?_
 refine sap1 ((-1 : Int)) 0 hO H fun _ LI LJ LK s hO => ?_
 refine sbs 3 hO fun LN s hO => ?_
 refine au ?_
 refine snil Fl.i 3 hO fun s hO => ?_
 refine sap1 ((-1 : Int)) 0 hO H.2 fun _ LO LP LQ s hO => ?_
 refine sbs 4 hO fun LS s hO => ?_
 refine au ?_
 refine snil Fl.str 9 hO fun s hO => ?_
 refine sap1 ((([] : Str))) 0 hO H.2.2 (fun _ LT LU LV s hO => ?_) (hR := by exact fun _ _ => ⟨rfl, (by decide)⟩)
 refine sbs 5 hO fun LX s hO => ?_
 refine au ?_
 refine snil Fl.i 3 hO fun s hO => ?_
 refine sap1 ((-1 : Int)) 0 hO H.2.2.2 fun _ LY L5 L6 s hO => ?_
 refine sbs 6 hO fun L7 s hO => ?_
 refine au ?_
 refine Go1.ret1V Try.func155 rfl (show _ = .int .i64 (0 : Int) from rfl) ?_
 refine hR189 _ _ ?_
 refine au ?_
 refine zo (J0E Try.underlying23 rfl (Els.neqW dW.u hO 5 rfl)) ?_
 refine au ?_
 refine snil (id Fl.fl : Fl rpRule) 185 hO fun s hO => ?_
 refine snil Fl.i 3 hO fun s hO => ?_
 refine lw H.2.2.2.2 (fun (fX, m6, d_246, i4, i6, d_258, m7, i7, gB) σ w => ∃ pG pI pK pM pN pO pP pQ pS pT pU pV pW pX pY p9 qa qb qc qd qe kI, (fun Z => agrees σ [(6, .pointer (some ⟨B10, 0, none⟩)), (9, .int .i64 (0 : Int)), (85, .slice p25 n27 c26), (86, .int .i64 (d_22.length : Int)), (87, .int .i64 (fX : Int))] ∧ Owns w0.heap.size w Z A ∧ Els (Rp.sl (Rp.int .i64)) (bl Z ++ A) w kI i7 ∧ Els (Rp.sl (Rp.int .i64)) (bl Z ++ A) w ju d_22 ∧ Fr (bl []) w0 (bl Z) w) [t1 Fl.i 3 pI pG pK m6, t1 (id Fl.fl : Fl rpRule) 185 pN pM pO d_246, t1 Fl.i 3 pQ pP pS i4, t1 Fl.str 9 pU pT pV i6, t1 Fl.i 3 pX pW pY d_258, t1 Fl.i 3 qa p9 qb m7, .row 31 1 qd qc qe kI, .row 31 1 p25 n27 c26 ju, .blk B10 (.cells #[.int .i64 ((ix a0 (0 : Int)).length : Int), .bool true, .slice p25 n27 c26, .slice qd qc qe, .slice qa p9 qb, .slice pX pW pY, .slice none 0 0, .slice pN pM pO, .int .i64 (0 : Int), .map (some B4), .slice pU pT pV, .slice pQ pP pS, .slice pI pG pK] 156 (0, 0)), .any (mapE (fun a : List UInt8 => Value.string (gstr a)) (fun a : Int => Value.int .i64 a) B4 gB)]) ⟨_, _, _, _, _, _, _, _, _, _, _, _, _, _, _, _, _, _, _, _, _, _, agr, hO, sf.u, dW.u, fr⟩ ?_
 refine fun X3 => p1 fun fX => p1 fun m6 => p1 fun d_246 => p1 fun i4 => p1 fun i6 => p3 fun d_258 m7 i7 gB => fun H hX3 σ L8 => e4 fun pG pI pK pM => e4 fun pN pO pP pQ => e4 fun pS pT pU pV => e4 fun pW pX pY p9 => e4 fun qa qb qc qd => e2 fun qe kI => d4 fun hag hO g9 dW hB => ?_
 dsimp only at H
 refine Go1.keep _ hag ?_
 revert hO; repeat (rename Owns _ _ _ _ => q; clear q)
 intro hO; repeat (rename Sq _ _ _ _ _ _ => q; clear q)
 refine scm H (fun qf H => ?_) fun qf H => ?_
 ·refine au ?_
  obtain ⟨qg, H⟩ := H
  obtain ⟨qh, H⟩ := H
  refine zo (J01 Try.underlying23 ti31 rfl rfl qg (ltn (Els.neqW dW hO 7 rfl) qh) (Els.psomeW dW hO 7 rfl qg qh)) ?_
  have zz := oldSl 7 hO rfl dW qg qh
  obtain ⟨L9, Ma, kz, Bb⟩ := zz
  refine zs (Bb Try.underlying31 rfl rfl) ?_
  refine au ?_
  obtain ⟨ou, H⟩ := H
  refine zo (J0i rfl rfl (wrap_i64 ou)) ?_
  refine zo (J35 Try.underlying3 Try.underlying21 rfl rfl) ?_
  obtain ⟨FA, H⟩ := H
  obtain ⟨FB, H⟩ := H
  refine zo (J4d Try.underlying21 Try.underlying9 rfl FA FB) ?_
  refine au ?_
  refine drw 0 [(0, .pure), (1, .pure), (2, .pure), (3, .stable), (4, .pure), (5, .loud), (6, .stable), (7, .pure), (8, .pure), (9, .pure), (10, .pure), (11, .pure)] hO fun Mc s hO => ?_
  refine au ?_
  refine zcq rfl (J00 body157 rfl (J0a hO.lt kz.u H)) fun _ Me => e1 fun jw => sq0 hO fun s hO => d1 fun GT H => ?_
  by_cases gS : mhas gB jw = true
  ·refine GoQ.stable rfl (olookT (a := jw) (MK.str Try.underlying9) 9 hO rfl Try.underlying154 rfl rfl gS) rfl rfl ?_
   refine au ?_
   refine drw 5 [(0, .pure), (1, .pure), (2, .pure), (3, .pure), (4, .pure), (5, .stable), (6, .pure), (7, .pure), (8, .pure), (9, .pure), (10, .stable), (11, .pure), (12, .pure), (13, .stable), (14, .pure), (15, .loud), (16, .last), (17, .pure), (18, .pure), (19, .pure), (20, .last)] hO fun Mf s hO => ?_
   refine sxl1 3 hO (ifp gS H).1 (ifp gS H).2.1 ?_
   have hle288 := t1le 3 hO (ifp gS H).1 (ifp gS H).2.1
   refine GoQ.pure rfl (J06 Try.underlying185 ti185 (pl := [(0, 1), (1, 1)]) (vs := [(0, .string (gstr (chr (IntKind.i32.wrap ((97 : Int) + (fX : Int)))))), (1, .string (gstr (ix i6 (mgt gB jw))))]) (cs := #[.string (gstr (chr (IntKind.i32.wrap ((97 : Int) + (fX : Int))))), .string (gstr (ix i6 (mgt gB jw)))]) (by kernel_rfl) rfl (by kernel_rfl)) rfl rfl ?_
   refine sapF (⟨(chr (IntKind.i32.wrap ((97 : Int) + (fX : Int)))), ix i6 (mgt gB jw)⟩ : Rule) 1 hO (ifp gS H).2.2 (fun _ FC Mg Mh s hO => ?_) (hok := by exact ⟨(J7i _), hle288⟩)
   refine sbs 8 hO fun Mi s hO => ?_
   refine au ?_
   refine sap1 ((mgt gB jw)) 0 hO (ifp gS H).2.2.2 fun _ Mj Mk Ml s hO => ?_
   refine sbs 8 hO fun Mm s hO => ?_
   refine sinc (natbd qf dW.bd) ?_
   refine au ?_
   exact hX3 _ (ifp gS H).2.2.2.2 _ _ ⟨_, _, _, _, _, _, _, _, _, _, _, _, _, _, _, _, _, _, _, _, _, _, agr, hO, g9.u, dW.u, fr⟩
  refine GoQ.stable rfl (olookF (a := jw) (MK.str Try.underlying9) 9 hO rfl Try.underlying154 ti3 rfl rfl gS) rfl rfl ?_
  refine au ?_
  refine zcr (J00 body86 rfl (J0j hO.lt kz.u (ifn gS H))) fun _ FD => e4 fun vU jG gT gU => sc1 hO fun s hO => fun H => ?_
  refine au ?_
  refine GoR.inl (vs := [.pointer (some ⟨B10, 0, none⟩), .slice gT jG gU, .int .i64 (0 : Int), .int .i64 (fX : Int), .string (gstr (chr (IntKind.i32.wrap ((97 : Int) + (fX : Int))))), .int .i64 (0 : Int)]) (caps := []) rfl rfl body155 Try.func155 rfl Try.ntmps155 rfl rfl rfl ?_
  intro RhR301 hR301
  refine au ?_
  refine zo (J0E Try.underlying23 rfl (Els.neqW g9.u hO 7 rfl)) ?_
  refine au ?_
  refine drw 1 [(0, .pure), (1, .pure), (2, .pure), (3, .stable), (4, .pure), (6, .pure), (5, .loud), (7, .last)] hO fun Mn s hO => ?_
  refine au ?_
  have Bc := t1lend 0 hO
  have Bd := t1n 0 hO
  have hOc305 := hO.drop 0
  refine zcq rfl (J00 body157 (show ([.slice gT jG gU] : List Value) = [.slice gT vU.length gU] from by rw [← Bd]) (J0a hOc305.lt Bc H)) fun _ Mo => e1 fun r306 => sq0 hO fun s hO => d1 fun GU H => ?_
  have zz := omapUpd (MK.str Try.underlying9) 10 hO rfl Try.underlying154 r306 (i7.length : Int)
  obtain ⟨Mp, k8, vV⟩ := zz
  refine GoQ.last rfl (vV (by exact rfl) (by exact rfl) (by exact rfl)) rfl rfl ?_
  refine nst k8 fun s hO => ?_
  refine au ?_
  refine sfz 0 hO fun s hO Be Bf => ?_
  have zz := J2Y (r := Rp.sl (Rp.int .i64)) (n := 1) (parts := [(0, .slice gT jG gU)]) (vs := [.slice gT jG gU]) (xs := [vU]) rfl Try.underlying23 ti31 hO (by decide) (by kernel_rfl) (Els.cons rfl ⟨gT, gU, congrArg some (congrArg (fun nn => Value.slice gT nn gU) Bf), Be⟩ (Els.nil _ _ _) (by simp [mx])) rfl
  obtain ⟨FE, Mq, vW, Bg, Hw, vX⟩ := zz
  refine zg (vX rfl) ?_
  refine nst vW fun s hO => ?_
  refine sfzR 0 hO Bg fun s hO Bi Bj => ?_
  obtain ⟨FF, H⟩ := H
  have zz := oapp Try.underlying23 ti31 rfl 6 hO rfl g9.u Bi Bj FF (by decide)
  obtain ⟨Mu, Mv, Mw, Hx, vY, sj, v5⟩ := zz
  dsimp only [sS, sZ] at sj
  refine zg (v5 (by exact rfl) (by exact rfl)) ?_
  refine nst vY fun s hO => ?_
  refine sbs 8 hO fun Mx s hO => ?_
  refine au ?_
  refine sap1 ((0 : Int)) 5 hO H fun _ My Mz MA s hO => ?_
  refine sbs 8 hO fun MB s hO => ?_
  refine au ?_
  refine sap1 ((fX : Int)) 4 hO H.2 fun _ Ej MC MD s hO => ?_
  refine sbs 8 hO fun FG s hO => ?_
  refine au ?_
  refine sap1 ((chr (IntKind.i32.wrap ((97 : Int) + (fX : Int))))) 3 hO H.2.2 (fun _ uI v6 ME s hO => ?_) (hR := by exact fun _ _ => ⟨rfl, (J7i _)⟩)
  refine sbs 8 hO fun MF s hO => ?_
  refine au ?_
  refine sap1 ((0 : Int)) 2 hO H.2.2.2 fun _ MG MH MJ s hO => ?_
  refine sbs 8 hO fun ML s hO => ?_
  refine au ?_
  refine Go1.ret1V Try.func155 rfl (show _ = .int .i64 (i7.length : Int) from rfl) ?_
  refine hR301 _ _ ?_
  refine au ?_
  refine sap1 ((i7.length : Int)) 0 hO H.2.2.2.2 fun _ MM MO MP s hO => ?_
  refine sbs 8 hO fun MQ s hO => ?_
  refine sinc (natbd qf dW.bd) ?_
  refine au ?_
  exact hX3 _ H.2.2.2.2.2 _ _ ⟨_, _, _, _, _, _, _, _, _, _, _, _, _, _, _, _, _, _, _, _, _, _, agr, hO, sj.u, dW.u, fr⟩
 refine au ?_
 have v7 := Stp.nil (e := 31) (r := 1) hO
 refine nst v7 fun s hO => ?_
 have Bk := elN (Rp.sl (Rp.int .i64)) hO
 refine sfr 10 hO fun s hO => ?_
 refine sfr 2 hO fun s hO => ?_
 refine sfr 4 hO fun s hO => ?_
 refine sfr 5 hO fun s hO => ?_
 refine sfr 5 hO fun s hO => ?_
 refine sfr 5 hO fun s hO => ?_
 refine sfr 6 hO fun s hO => ?_
 refine sfr 7 hO fun s hO => ?_
 refine sfr 8 hO fun s hO => ?_
 refine sfr 9 hO fun s hO => ?_
 refine sfr 10 hO fun s hO => ?_
 refine Go1.ret2 Try.func131 rfl (Or.inr ⟨(⟨(⟨((ix a0 (0 : Int)).length : Int), true, d_22, i7, m7, d_258, ([] : List (List Int)), d_246, (0 : Int)⟩ : Enum), gB, i6, i4, m6⟩ : run), _, _, _, _, _, _, _, _, _, _, _, _, _, _, _, _, _, _, _, _, _, _, _, _, _, _, _, _, _, _, _, _, _, ?_, frs, hO, dW.u, g9.u, Bk.u, H⟩)
 exact rfl
theorem body158 : Body Try.prog 158 := ⟨Try.f158, Try.func158, rfl, by kernel_rfl⟩
theorem J4z {A : List Nat} {w0 : World} {p_f p_g : Option Addr} {c_f c_g : Nat} {f g : List Int} (hA : ∀ b ∈ A, b < w0.heap.size) (h_f : ISl (Rp.int .i64) A w0 p_f c_f f) (h_g : ISl (Rp.int .i64) A w0 p_g c_g g) {K : List Int → Prop} (H : J1n f g K) :
    CallsV Try.prog 158 #[.slice p_f f.length c_f, .slice p_g g.length c_g] w0 (fun v w' => ∃ (r0 : List Int) (p_r0 : Option Addr) (c_r0 : Nat), v = .slice p_r0 r0.length c_r0 ∧ Same w0 w' ∧ ISl (Rp.int .i64) A w' p_r0 c_r0 r0 ∧ K r0) := by
 refine CallsV.of (l := [.slice p_f f.length c_f, .slice p_g g.length c_g]) Try.func158 rfl Try.ntmps158 rfl ?_
 have hO := Owns.start hA
 have hB := Fr.refl (bl []) w0
 unfold J1n at H
 refine sln0 ?_
 refine sln0 ?_
 refine scm ((H h_f.bd) h_g.bd) (fun h1 H => ?_) fun h1 H => ?_
 ·refine au ?_
  refine zcr (J00 body154 rfl (J23 hO.lt h_f.u H)) fun _ w3 => e1 fun r2 => sc0 hO fun s hO => fun H => ?_
  cases r2
  ·refine au ?_
   refine Go1.ret1 Try.func158 rfl ⟨_, _, _, ?_, frs, (ISl.null _ _ _), (iF H)⟩
   exact rfl
  refine au ?_
  refine zcr (J00 body154 rfl (J23 hO.lt h_g.u (iT H))) fun _ w5 => e1 fun r4 => sc0 hO fun s hO => fun H => ?_
  cases r4
  ·refine au ?_
   refine Go1.ret1 Try.func158 rfl ⟨_, _, _, ?_, frs, (ISl.null _ _ _), (iF H)⟩
   exact rfl
  refine sln0 ?_
  refine smk Fl.i (iT H) hO fun w6 p7 s hO => ?_
  refine sln0 ?_
  refine au ?_
  refine lw (iT H).2.2 (fun (m8, sk) σ w => (fun Z => agrees σ [(1, .slice p_g g.length c_g), (5, .slice p7 f.length f.length), (26, .slice p_f f.length c_f), (27, .int .i64 (f.length : Int)), (28, .int .i64 (m8 : Int))] ∧ Owns w0.heap.size w Z A ∧ Fr (bl []) w0 (bl Z) w) [t1 Fl.i 3 p7 f.length f.length sk]) ⟨agr, hO, fr⟩ ?_
  refine fun X1 => p1 fun m8 sk => fun H hX1 σ w9 => d2 fun hag hO hB => ?_
  dsimp only at H
  refine Go1.keep _ hag ?_
  revert hO; repeat (rename Owns _ _ _ _ => q; clear q)
  intro hO; repeat (rename Sq _ _ _ _ _ _ => q; clear q)
  refine scm H (fun h12 H => ?_) fun h12 H => ?_
  ·refine sxl hO h_f.u H.1 H.2.1 ?_
   refine sxl hO h_g.u H.2.2.1 H.2.2.2.1 ?_
   refine six1 0 hO H.2.2.2.2.1 H.2.2.2.2.2.1 ?_
   refine sst (u := (ix g (ix f (m8 : Int)))) 0 hO H.2.2.2.2.1 H.2.2.2.2.2.1 fun w13 s hO => ?_
   refine sinc (natbd h12 h_f.bd) ?_
   refine au ?_
   exact hX1 _ H.2.2.2.2.2.2 _ _ ⟨agr, hO, fr⟩
  refine au ?_
  refine sfz 0 hO fun s hO lQ lR => ?_
  refine Go1.ret1 Try.func158 rfl ⟨_, _, _, ?_, frs, lQ.r, H⟩
  exact (congrArg (fun nn => Value.slice p7 nn f.length) lR)
 refine au ?_
 refine Go1.ret1 Try.func158 rfl ⟨_, _, _, ?_, frs, (ISl.null _ _ _), H⟩
 exact rfl
theorem body159 : Body Try.prog 159 := ⟨Try.f159, Try.func159, rfl, by kernel_rfl⟩
theorem body160 : Body Try.prog 160 := ⟨Try.f160, Try.func160, rfl, by kernel_rfl⟩
theorem body133 : Body Try.prog 133 := ⟨Try.f133, Try.func133, rfl, by kernel_rfl⟩
theorem J2C {A : List Nat} {n0 eB aX a8 bm bo bg bi bG bI aT aV bu bx az cU cW cJ cL ce cg : Nat} {w0 : World} {aY bn bh bH aU bw cV cK cf : Option Addr} {cI cY cC : List Value} {a0 : run} (hO : Owns n0 w0 [.blk eB (.cells #[.int .i64 a0.Enum.Points, .bool a0.Enum.Monoid, .slice aY aX a8, .slice bn bm bo, .slice bh bg bi, .slice bH bG bI, .slice aU aT aV, .slice bw bu bx, .int .i64 a0.Enum.Done, .map (some az), .slice cV cU cW, .slice cK cJ cL, .slice cf ce cg] 156 (0, 0)), .row 31 1 aY aX a8 cI, .row 31 1 bn bm bo cY, t1 Fl.i 3 bh bg bi a0.Enum.Prefix, t1 Fl.i 3 bH bG bI a0.Enum.Last, .row 31 1 aU aT aV cC, t1 (id Fl.fl : Fl rpRule) 185 bw bu bx a0.Enum.Rules, t1 Fl.str 9 cV cU cW a0.words, t1 Fl.i 3 cK cJ cL a0.behind, t1 Fl.i 3 cf ce cg a0.single, .any (mapE (fun a : List UInt8 => Value.string (gstr a)) (fun a : Int => Value.int .i64 a) az a0.number)] A) (aa : Els (Rp.sl (Rp.int .i64)) (bl [.blk eB (.cells #[.int .i64 a0.Enum.Points, .bool a0.Enum.Monoid, .slice aY aX a8, .slice bn bm bo, .slice bh bg bi, .slice bH bG bI, .slice aU aT aV, .slice bw bu bx, .int .i64 a0.Enum.Done, .map (some az), .slice cV cU cW, .slice cK cJ cL, .slice cf ce cg] 156 (0, 0)), .row 31 1 aY aX a8 cI, .row 31 1 bn bm bo cY, t1 Fl.i 3 bh bg bi a0.Enum.Prefix, t1 Fl.i 3 bH bG bI a0.Enum.Last, .row 31 1 aU aT aV cC, t1 (id Fl.fl : Fl rpRule) 185 bw bu bx a0.Enum.Rules, t1 Fl.str 9 cV cU cW a0.words, t1 Fl.i 3 cK cJ cL a0.behind, t1 Fl.i 3 cf ce cg a0.single, .any (mapE (fun a : List UInt8 => Value.string (gstr a)) (fun a : Int => Value.int .i64 a) az a0.number)] ++ A) w0 cI a0.Enum.Gens) (jx : Els (Rp.sl (Rp.int .i64)) (bl [.blk eB (.cells #[.int .i64 a0.Enum.Points, .bool a0.Enum.Monoid, .slice aY aX a8, .slice bn bm bo, .slice bh bg bi, .slice bH bG bI, .slice aU aT aV, .slice bw bu bx, .int .i64 a0.Enum.Done, .map (some az), .slice cV cU cW, .slice cK cJ cL, .slice cf ce cg] 156 (0, 0)), .row 31 1 aY aX a8 cI, .row 31 1 bn bm bo cY, t1 Fl.i 3 bh bg bi a0.Enum.Prefix, t1 Fl.i 3 bH bG bI a0.Enum.Last, .row 31 1 aU aT aV cC, t1 (id Fl.fl : Fl rpRule) 185 bw bu bx a0.Enum.Rules, t1 Fl.str 9 cV cU cW a0.words, t1 Fl.i 3 cK cJ cL a0.behind, t1 Fl.i 3 cf ce cg a0.single, .any (mapE (fun a : List UInt8 => Value.string (gstr a)) (fun a : Int => Value.int .i64 a) az a0.number)] ++ A) w0 cY a0.Enum.Elems) (ap : Els (Rp.sl (Rp.int .i64)) (bl [.blk eB (.cells #[.int .i64 a0.Enum.Points, .bool a0.Enum.Monoid, .slice aY aX a8, .slice bn bm bo, .slice bh bg bi, .slice bH bG bI, .slice aU aT aV, .slice bw bu bx, .int .i64 a0.Enum.Done, .map (some az), .slice cV cU cW, .slice cK cJ cL, .slice cf ce cg] 156 (0, 0)), .row 31 1 aY aX a8 cI, .row 31 1 bn bm bo cY, t1 Fl.i 3 bh bg bi a0.Enum.Prefix, t1 Fl.i 3 bH bG bI a0.Enum.Last, .row 31 1 aU aT aV cC, t1 (id Fl.fl : Fl rpRule) 185 bw bu bx a0.Enum.Rules, t1 Fl.str 9 cV cU cW a0.words, t1 Fl.i 3 cK cJ cL a0.behind, t1 Fl.i 3 cf ce cg a0.single, .any (mapE (fun a : List UInt8 => Value.string (gstr a)) (fun a : Int => Value.int .i64 a) az a0.number)] ++ A) w0 cC a0.Enum.Right) {K : Int → run → Prop} (H : J0k a0 K) :
    CallsV Try.prog 133 #[.pointer (some ⟨eB, 0, none⟩)] w0 (fun v w' => ∃ (r0 : Int) (q : run) (aN : Nat) (aO : Option Addr) (aP : Nat) (ck : List Value) (aA : Nat) (aB : Option Addr) (aC : Nat) (bV : List Value) (av : Nat) (aw : Option Addr) (ax aQ : Nat) (aR : Option Addr) (aS aD : Nat) (aE : Option Addr) (aF : Nat) (bW : List Value) (aG : Nat) (aH : Option Addr) (aI cq : Nat) (cv : Option Addr) (cw bM : Nat) (bN : Option Addr) (bO bP : Nat) (bQ : Option Addr) (bS : Nat), v = .int .i64 r0 ∧ Owns n0 w' [.blk eB (.cells #[.int .i64 q.Enum.Points, .bool q.Enum.Monoid, .slice aO aN aP, .slice aB aA aC, .slice aw av ax, .slice aR aQ aS, .slice aE aD aF, .slice aH aG aI, .int .i64 q.Enum.Done, .map (some az), .slice cv cq cw, .slice bN bM bO, .slice bQ bP bS] 156 (0, 0)), .row 31 1 aO aN aP ck, .row 31 1 aB aA aC bV, t1 Fl.i 3 aw av ax q.Enum.Prefix, t1 Fl.i 3 aR aQ aS q.Enum.Last, .row 31 1 aE aD aF bW, t1 (id Fl.fl : Fl rpRule) 185 aH aG aI q.Enum.Rules, t1 Fl.str 9 cv cq cw q.words, t1 Fl.i 3 bN bM bO q.behind, t1 Fl.i 3 bQ bP bS q.single, .any (mapE (fun a : List UInt8 => Value.string (gstr a)) (fun a : Int => Value.int .i64 a) az q.number)] A ∧ Els (Rp.sl (Rp.int .i64)) (bl [.blk eB (.cells #[.int .i64 q.Enum.Points, .bool q.Enum.Monoid, .slice aO aN aP, .slice aB aA aC, .slice aw av ax, .slice aR aQ aS, .slice aE aD aF, .slice aH aG aI, .int .i64 q.Enum.Done, .map (some az), .slice cv cq cw, .slice bN bM bO, .slice bQ bP bS] 156 (0, 0)), .row 31 1 aO aN aP ck, .row 31 1 aB aA aC bV, t1 Fl.i 3 aw av ax q.Enum.Prefix, t1 Fl.i 3 aR aQ aS q.Enum.Last, .row 31 1 aE aD aF bW, t1 (id Fl.fl : Fl rpRule) 185 aH aG aI q.Enum.Rules, t1 Fl.str 9 cv cq cw q.words, t1 Fl.i 3 bN bM bO q.behind, t1 Fl.i 3 bQ bP bS q.single, .any (mapE (fun a : List UInt8 => Value.string (gstr a)) (fun a : Int => Value.int .i64 a) az q.number)] ++ A) w' ck q.Enum.Gens ∧ Els (Rp.sl (Rp.int .i64)) (bl [.blk eB (.cells #[.int .i64 q.Enum.Points, .bool q.Enum.Monoid, .slice aO aN aP, .slice aB aA aC, .slice aw av ax, .slice aR aQ aS, .slice aE aD aF, .slice aH aG aI, .int .i64 q.Enum.Done, .map (some az), .slice cv cq cw, .slice bN bM bO, .slice bQ bP bS] 156 (0, 0)), .row 31 1 aO aN aP ck, .row 31 1 aB aA aC bV, t1 Fl.i 3 aw av ax q.Enum.Prefix, t1 Fl.i 3 aR aQ aS q.Enum.Last, .row 31 1 aE aD aF bW, t1 (id Fl.fl : Fl rpRule) 185 aH aG aI q.Enum.Rules, t1 Fl.str 9 cv cq cw q.words, t1 Fl.i 3 bN bM bO q.behind, t1 Fl.i 3 bQ bP bS q.single, .any (mapE (fun a : List UInt8 => Value.string (gstr a)) (fun a : Int => Value.int .i64 a) az q.number)] ++ A) w' bV q.Enum.Elems ∧ Els (Rp.sl (Rp.int .i64)) (bl [.blk eB (.cells #[.int .i64 q.Enum.Points, .bool q.Enum.Monoid, .slice aO aN aP, .slice aB aA aC, .slice aw av ax, .slice aR aQ aS, .slice aE aD aF, .slice aH aG aI, .int .i64 q.Enum.Done, .map (some az), .slice cv cq cw, .slice bN bM bO, .slice bQ bP bS] 156 (0, 0)), .row 31 1 aO aN aP ck, .row 31 1 aB aA aC bV, t1 Fl.i 3 aw av ax q.Enum.Prefix, t1 Fl.i 3 aR aQ aS q.Enum.Last, .row 31 1 aE aD aF bW, t1 (id Fl.fl : Fl rpRule) 185 aH aG aI q.Enum.Rules, t1 Fl.str 9 cv cq cw q.words, t1 Fl.i 3 bN bM bO q.behind, t1 Fl.i 3 bQ bP bS q.single, .any (mapE (fun a : List UInt8 => Value.string (gstr a)) (fun a : Int => Value.int .i64 a) az q.number)] ++ A) w' bW q.Enum.Right ∧ Fr (bl [.blk eB (.cells #[.int .i64 a0.Enum.Points, .bool a0.Enum.Monoid, .slice aY aX a8, .slice bn bm bo, .slice bh bg bi, .slice bH bG bI, .slice aU aT aV, .slice bw bu bx, .int .i64 a0.Enum.Done, .map (some az), .slice cV cU cW, .slice cK cJ cL, .slice cf ce cg] 156 (0, 0)), .row 31 1 aY aX a8 cI, .row 31 1 bn bm bo cY, t1 Fl.i 3 bh bg bi a0.Enum.Prefix, t1 Fl.i 3 bH bG bI a0.Enum.Last, .row 31 1 aU aT aV cC, t1 (id Fl.fl : Fl rpRule) 185 bw bu bx a0.Enum.Rules, t1 Fl.str 9 cV cU cW a0.words, t1 Fl.i 3 cK cJ cL a0.behind, t1 Fl.i 3 cf ce cg a0.single, .any (mapE (fun a : List UInt8 => Value.string (gstr a)) (fun a : Int => Value.int .i64 a) az a0.number)]) w0 (bl [.blk eB (.cells #[.int .i64 q.Enum.Points, .bool q.Enum.Monoid, .slice aO aN aP, .slice aB aA aC, .slice aw av ax, .slice aR aQ aS, .slice aE aD aF, .slice aH aG aI, .int .i64 q.Enum.Done, .map (some az), .slice cv cq cw, .slice bN bM bO, .slice bQ bP bS] 156 (0, 0)), .row 31 1 aO aN aP ck, .row 31 1 aB aA aC bV, t1 Fl.i 3 aw av ax q.Enum.Prefix, t1 Fl.i 3 aR aQ aS q.Enum.Last, .row 31 1 aE aD aF bW, t1 (id Fl.fl : Fl rpRule) 185 aH aG aI q.Enum.Rules, t1 Fl.str 9 cv cq cw q.words, t1 Fl.i 3 bN bM bO q.behind, t1 Fl.i 3 bQ bP bS q.single, .any (mapE (fun a : List UInt8 => Value.string (gstr a)) (fun a : Int => Value.int .i64 a) az q.number)]) w' ∧ K r0 q) := by
 refine CallsV.of (l := [.pointer (some ⟨eB, 0, none⟩)]) Try.func133 rfl Try.ntmps133 rfl ?_
 have hB := Fr.refl (bl [.blk eB (.cells #[.int .i64 a0.Enum.Points, .bool a0.Enum.Monoid, .slice aY aX a8, .slice bn bm bo, .slice bh bg bi, .slice bH bG bI, .slice aU aT aV, .slice bw bu bx, .int .i64 a0.Enum.Done, .map (some az), .slice cV cU cW, .slice cK cJ cL, .slice cf ce cg] 156 (0, 0)), .row 31 1 aY aX a8 cI, .row 31 1 bn bm bo cY, t1 Fl.i 3 bh bg bi a0.Enum.Prefix, t1 Fl.i 3 bH bG bI a0.Enum.Last, .row 31 1 aU aT aV cC, t1 (id Fl.fl : Fl rpRule) 185 bw bu bx a0.Enum.Rules, t1 Fl.str 9 cV cU cW a0.words, t1 Fl.i 3 cK cJ cL a0.behind, t1 Fl.i 3 cf ce cg a0.single, .any (mapE (fun a : List UInt8 => Value.string (gstr a)) (fun a : Int => Value.int .i64 a) az a0.number)]) w0
 unfold J0k at H
 refine au ?_
 refine zo (J0E Try.underlying23 rfl (Els.neqW aa hO 1 rfl)) ?_
 refine smk Fl.i H hO fun w1 p4 s hO => ?_
 refine au ?_
 refine zo (J0E Try.underlying23 rfl (Els.neqW aa.u hO 2 rfl)) ?_
 refine au ?_
 refine lw H.2.2 (fun (a9, d_8, d_9, m9, na, nb, d_27, gV, dX) σ w => ∃ n14 p12 c13 qi n18 p16 c17 n22 p20 c21 n26 p24 c25 n30 p28 c29 n34 p32 c33, (fun Z => agrees σ [(0, .pointer (some ⟨eB, 0, none⟩)), (3, .int .i64 a0.Enum.Done), (4, .slice p4 a0.Enum.Gens.length a0.Enum.Gens.length), (27, .slice aY aX a8), (28, .int .i64 (a0.Enum.Gens.length : Int)), (29, .int .i64 (a9 : Int))] ∧ Owns n0 w Z A ∧ Els (Rp.sl (Rp.int .i64)) (bl Z ++ A) w cI a0.Enum.Gens ∧ Els (Rp.sl (Rp.int .i64)) (bl Z ++ A) w qi d_9 ∧ Els (Rp.sl (Rp.int .i64)) (bl Z ++ A) w cC a0.Enum.Right ∧ Fr (bl [.blk eB (.cells #[.int .i64 a0.Enum.Points, .bool a0.Enum.Monoid, .slice aY aX a8, .slice bn bm bo, .slice bh bg bi, .slice bH bG bI, .slice aU aT aV, .slice bw bu bx, .int .i64 a0.Enum.Done, .map (some az), .slice cV cU cW, .slice cK cJ cL, .slice cf ce cg] 156 (0, 0)), .row 31 1 aY aX a8 cI, .row 31 1 bn bm bo cY, t1 Fl.i 3 bh bg bi a0.Enum.Prefix, t1 Fl.i 3 bH bG bI a0.Enum.Last, .row 31 1 aU aT aV cC, t1 (id Fl.fl : Fl rpRule) 185 bw bu bx a0.Enum.Rules, t1 Fl.str 9 cV cU cW a0.words, t1 Fl.i 3 cK cJ cL a0.behind, t1 Fl.i 3 cf ce cg a0.single, .any (mapE (fun a : List UInt8 => Value.string (gstr a)) (fun a : Int => Value.int .i64 a) az a0.number)]) w0 (bl Z) w) [t1 Fl.i 3 p4 a0.Enum.Gens.length a0.Enum.Gens.length d_8, .blk eB (.cells #[.int .i64 a0.Enum.Points, .bool a0.Enum.Monoid, .slice aY aX a8, .slice p12 n14 c13, .slice p16 n18 c17, .slice p20 n22 c21, .slice aU aT aV, .slice p24 n26 c25, .int .i64 a0.Enum.Done, .map (some az), .slice p28 n30 c29, .slice p32 n34 c33, .slice cf ce cg] 156 (0, 0)), .row 31 1 aY aX a8 cI, .row 31 1 p12 n14 c13 qi, t1 Fl.i 3 p16 n18 c17 m9, t1 Fl.i 3 p20 n22 c21 na, .row 31 1 aU aT aV cC, t1 (id Fl.fl : Fl rpRule) 185 p24 n26 c25 nb, t1 Fl.str 9 p28 n30 c29 d_27, t1 Fl.i 3 p32 n34 c33 gV, t1 Fl.i 3 cf ce cg a0.single, .any (mapE (fun a : List UInt8 => Value.string (gstr a)) (fun a : Int => Value.int .i64 a) az dX)]) ⟨_, _, _, _, _, _, _, _, _, _, _, _, _, _, _, _, _, _, _, agr, hO, aa.u, jx.u, ap.u, fr⟩ ?_
 refine fun X1 => p1 fun a9 => p1 fun d_8 => p1 fun d_9 => p1 fun m9 => p1 fun na => p3 fun nb d_27 gV dX => fun H hX1 σ w6 => e4 fun n14 p12 c13 qi => e4 fun n18 p16 c17 n22 => e4 fun p20 c21 n26 p24 => e4 fun c25 n30 p28 c29 => e3 fun n34 p32 c33 => d1 fun hag => d4 fun hO aa fh ap hB => ?_
 dsimp only at H
 refine Go1.keep _ hag ?_
 revert hO; repeat (rename Owns _ _ _ _ => q; clear q)
 intro hO; repeat (rename Sq _ _ _ _ _ _ => q; clear q)
 refine scm H (fun h36 H => ?_) fun h36 H => ?_
 ·refine au ?_
  obtain ⟨h37, H⟩ := H
  obtain ⟨h38, H⟩ := H
  refine zo (J01 Try.underlying23 ti31 rfl rfl h37 (ltn (Els.neqW aa hO 2 rfl) h38) (Els.psomeW aa hO 2 rfl h37 h38)) ?_
  have zz := oldSl 2 hO rfl aa h37 h38
  obtain ⟨p39, c40, FH, FI⟩ := zz
  refine zs (FI Try.underlying31 rfl rfl) ?_
  refine au ?_
  obtain ⟨h43, H⟩ := H
  obtain ⟨h44, H⟩ := H
  refine zo (J01 Try.underlying23 ti31 rfl rfl h43 (ltn (Els.neqW fh hO 3 rfl) h44) (Els.psomeW fh hO 3 rfl h43 h44)) ?_
  have zz := oldSl 3 hO rfl fh h43 h44
  obtain ⟨p45, c46, tP, FJ⟩ := zz
  refine zs (FJ Try.underlying31 rfl rfl) ?_
  refine au ?_
  refine zcr (J00 body158 rfl (J4z hO.lt tP FH H)) fun _ w50 => e3 fun r49 ia ic => sc0 hO fun s hO => d1 fun jH H => ?_
  refine au ?_
  refine drw 0 [(0, .pure), (1, .pure), (2, .pure), (3, .stable), (4, .pure), (5, .loud), (6, .stable), (7, .pure), (8, .pure), (9, .pure), (10, .pure), (11, .pure)] hO fun w51 s hO => ?_
  refine au ?_
  refine zcq rfl (J00 body157 rfl (J0a hO.lt jH.u H)) fun _ w53 => e1 fun r52 => sq0 hO fun s hO => d1 fun G0 H => ?_
  by_cases h54 : mhas dX r52 = true
  ·refine GoQ.stable rfl (olookT (a := r52) (MK.str Try.underlying9) 11 hO rfl Try.underlying154 rfl rfl h54) rfl rfl ?_
   refine sxl1 8 hO (ifp h54 H).1 (ifp h54 H).2.1 ?_
   have hle55 := t1le 8 hO (ifp h54 H).1 (ifp h54 H).2.1
   refine au ?_
   have h56 := (ifp h54 H).1
   have h57 := (ifp h54 H).2.1
   replace H := (ifp h54 H).2.2
   obtain ⟨h58, H⟩ := H
   refine zo (J0i rfl rfl (wrap_i64 h58)) ?_
   refine zo (J35 Try.underlying3 Try.underlying21 rfl rfl) ?_
   obtain ⟨h59, H⟩ := H
   obtain ⟨h60, H⟩ := H
   refine zo (J4d Try.underlying21 Try.underlying9 rfl h59 h60) ?_
   obtain ⟨h61, H⟩ := H
   refine zo (J65 rfl rfl h61) ?_
   refine sxl1 8 hO H.1 H.2.1 ?_
   have hle62 := t1le 8 hO H.1 H.2.1
   have h63 := H.1
   have h64 := H.2.1
   refine scm H.2.2 (fun h65 H => ?_) fun h65 H => ?_
   ·refine six1 0 hO H.1 H.2.1 ?_
    refine sst (u := (mgt dX r52)) 0 hO H.1 H.2.1 fun w66 s hO => ?_
    refine sinc (natbd h36 aa.bd) ?_
    refine au ?_
    exact hX1 _ H.2.2 _ _ ⟨_, _, _, _, _, _, _, _, _, _, _, _, _, _, _, _, _, _, _, agr, hO, aa.u, fh.u, ap.u, fr⟩
   refine six1 9 hO H.1 H.2.1 ?_
   refine sld1 9 hO H.1 H.2.1 ?_
   refine au ?_
   refine GoR.inl (vs := [.pointer (some ⟨eB, 0, none⟩), .int .i64 (ix gV a0.Enum.Done), .int .i64 (a9 : Int)]) (caps := []) rfl rfl body160 Try.func160 rfl Try.ntmps160 rfl rfl rfl ?_
   intro RhR67 hR67
   refine au ?_
   refine GoR.inl (vs := [.pointer (some ⟨eB, 0, none⟩), .int .i64 (ix gV a0.Enum.Done), .int .i64 (a9 : Int)]) (caps := []) rfl rfl body159 Try.func159 rfl Try.ntmps159 rfl rfl rfl ?_
   intro RhR68 hR68
   refine scm H.2.2 (fun h69 H => ?_) fun h69 H => ?_
   ·refine sxl1 10 hO H.1 H.2.1 ?_
    refine au ?_
    refine Go1.ret1V Try.func159 rfl (show _ = .int .i64 (ix a0.single (a9 : Int)) from rfl) ?_
    refine hR68 _ _ ?_
    refine sxl1 4 hO H.2.2.1 H.2.2.2.1 ?_
    refine au ?_
    have h70 := H.2.2.1
    have h71 := H.2.2.2.1
    refine scm H.2.2.2.2 (fun h72 H => ?_) fun h72 H => ?_
    ·refine six1 5 hO H.1 H.2.1 ?_
     refine sld1 5 hO H.1 H.2.1 ?_
     refine au ?_
     have h73 := H.1
     have h74 := H.2.1
     refine scm H.2.2 (fun h75 H => ?_) fun h75 H => ?_
     ·refine au ?_
      refine Go1.ret1V Try.func160 rfl (show _ = .bool true from rfl) ?_
      refine hR67 _ _ ?_
      refine au ?_
      refine drw 5 [(0, .pure), (1, .pure), (2, .pure), (3, .pure), (4, .pure), (5, .stable), (6, .pure), (7, .pure), (8, .pure), (9, .pure), (10, .stable), (11, .pure), (12, .pure), (13, .stable), (14, .pure), (15, .loud), (16, .last), (17, .pure), (18, .pure), (19, .pure), (20, .last)] hO fun w76 s hO => ?_
      refine sxl1 8 hO H.1 H.2.1 ?_
      have hle77 := t1le 8 hO H.1 H.2.1
      refine GoQ.pure rfl (J06 Try.underlying185 ti185 (pl := [(0, 1), (1, 1)]) (vs := [(0, .string (gstr ((ix d_27 a0.Enum.Done) ++ (chr (IntKind.i32.wrap ((97 : Int) + (a9 : Int))))))), (1, .string (gstr (ix d_27 (mgt dX r52))))]) (cs := #[.string (gstr ((ix d_27 a0.Enum.Done) ++ (chr (IntKind.i32.wrap ((97 : Int) + (a9 : Int)))))), .string (gstr (ix d_27 (mgt dX r52)))]) (by kernel_rfl) rfl (by kernel_rfl)) rfl rfl ?_
      refine sapF (⟨((ix d_27 a0.Enum.Done) ++ (chr (IntKind.i32.wrap ((97 : Int) + (a9 : Int))))), ix d_27 (mgt dX r52)⟩ : Rule) 7 hO H.2.2 (fun _ w78 p79 c80 s hO => ?_) (hok := by exact ⟨(lenApp h61), hle77⟩)
      refine sbs 1 hO fun w81 s hO => ?_
      refine six1 0 hO H.2.2.2.1 H.2.2.2.2.1 ?_
      refine sst (u := (mgt dX r52)) 0 hO H.2.2.2.1 H.2.2.2.2.1 fun w82 s hO => ?_
      refine sinc (natbd h36 aa.bd) ?_
      refine au ?_
      exact hX1 _ H.2.2.2.2.2 _ _ ⟨_, _, _, _, _, _, _, _, _, _, _, _, _, _, _, _, _, _, _, agr, hO, aa.u, fh.u, ap.u, fr⟩
     refine au ?_
     refine Go1.ret1V Try.func160 rfl (show _ = .bool false from rfl) ?_
     refine hR67 _ _ ?_
     refine six1 0 hO H.1 H.2.1 ?_
     refine sst (u := (mgt dX r52)) 0 hO H.1 H.2.1 fun w83 s hO => ?_
     refine sinc (natbd h36 aa.bd) ?_
     refine au ?_
     exact hX1 _ H.2.2 _ _ ⟨_, _, _, _, _, _, _, _, _, _, _, _, _, _, _, _, _, _, _, agr, hO, aa.u, fh.u, ap.u, fr⟩
    refine au ?_
    refine Go1.ret1V Try.func160 rfl (show _ = .bool false from rfl) ?_
    refine hR67 _ _ ?_
    refine six1 0 hO H.1 H.2.1 ?_
    refine sst (u := (mgt dX r52)) 0 hO H.1 H.2.1 fun w84 s hO => ?_
    refine sinc (natbd h36 aa.bd) ?_
    refine au ?_
    exact hX1 _ H.2.2 _ _ ⟨_, _, _, _, _, _, _, _, _, _, _, _, _, _, _, _, _, _, _, agr, hO, aa.u, fh.u, ap.u, fr⟩
   refine au ?_
   obtain ⟨h85, H⟩ := H
   obtain ⟨h86, H⟩ := H
   refine zo (J01 Try.underlying23 ti31 rfl rfl h85 (ltn (Els.neqW ap.u hO 6 rfl) h86) (Els.psomeW ap.u hO 6 rfl h85 h86)) ?_
   have zz := oldSl 6 hO rfl ap.u h85 h86
   obtain ⟨p87, c88, pe, FK⟩ := zz
   refine zs (FK Try.underlying31 rfl rfl) ?_
   refine sxl hO pe H.1 H.2.1 ?_
   refine au ?_
   refine Go1.ret1V Try.func159 rfl (show _ = .int .i64 (ix (ix a0.Enum.Right (ix gV a0.Enum.Done)) (a9 : Int)) from rfl) ?_
   refine hR68 _ _ ?_
   refine sxl1 4 hO H.2.2.1 H.2.2.2.1 ?_
   refine au ?_
   have h91 := H.2.2.1
   have h92 := H.2.2.2.1
   refine scm H.2.2.2.2 (fun h93 H => ?_) fun h93 H => ?_
   ·refine six1 5 hO H.1 H.2.1 ?_
    refine sld1 5 hO H.1 H.2.1 ?_
    refine au ?_
    have h94 := H.1
    have h95 := H.2.1
    refine scm H.2.2 (fun h96 H => ?_) fun h96 H => ?_
    ·refine au ?_
     refine Go1.ret1V Try.func160 rfl (show _ = .bool true from rfl) ?_
     refine hR67 _ _ ?_
     refine au ?_
     refine drw 5 [(0, .pure), (1, .pure), (2, .pure), (3, .pure), (4, .pure), (5, .stable), (6, .pure), (7, .pure), (8, .pure), (9, .pure), (10, .stable), (11, .pure), (12, .pure), (13, .stable), (14, .pure), (15, .loud), (16, .last), (17, .pure), (18, .pure), (19, .pure), (20, .last)] hO fun w97 s hO => ?_
     refine sxl1 8 hO H.1 H.2.1 ?_
     have hle98 := t1le 8 hO H.1 H.2.1
     refine GoQ.pure rfl (J06 Try.underlying185 ti185 (pl := [(0, 1), (1, 1)]) (vs := [(0, .string (gstr ((ix d_27 a0.Enum.Done) ++ (chr (IntKind.i32.wrap ((97 : Int) + (a9 : Int))))))), (1, .string (gstr (ix d_27 (mgt dX r52))))]) (cs := #[.string (gstr ((ix d_27 a0.Enum.Done) ++ (chr (IntKind.i32.wrap ((97 : Int) + (a9 : Int)))))), .string (gstr (ix d_27 (mgt dX r52)))]) (by kernel_rfl) rfl (by kernel_rfl)) rfl rfl ?_
     refine sapF (⟨((ix d_27 a0.Enum.Done) ++ (chr (IntKind.i32.wrap ((97 : Int) + (a9 : Int))))), ix d_27 (mgt dX r52)⟩ : Rule) 7 hO H.2.2 (fun _ w99 MR MS s hO => ?_) (hok := by exact ⟨(lenApp h61), hle98⟩)
     refine sbs 1 hO fun MT s hO => ?_
     refine six1 0 hO H.2.2.2.1 H.2.2.2.2.1 ?_
     refine sst (u := (mgt dX r52)) 0 hO H.2.2.2.1 H.2.2.2.2.1 fun Fg s hO => ?_
     refine sinc (natbd h36 aa.bd) ?_
     refine au ?_
     exact hX1 _ H.2.2.2.2.2 _ _ ⟨_, _, _, _, _, _, _, _, _, _, _, _, _, _, _, _, _, _, _, agr, hO, aa.u, fh.u, ap.u, fr⟩
    refine au ?_
    refine Go1.ret1V Try.func160 rfl (show _ = .bool false from rfl) ?_
    refine hR67 _ _ ?_
    refine six1 0 hO H.1 H.2.1 ?_
    refine sst (u := (mgt dX r52)) 0 hO H.1 H.2.1 fun Fh s hO => ?_
    refine sinc (natbd h36 aa.bd) ?_
    refine au ?_
    exact hX1 _ H.2.2 _ _ ⟨_, _, _, _, _, _, _, _, _, _, _, _, _, _, _, _, _, _, _, agr, hO, aa.u, fh.u, ap.u, fr⟩
   refine au ?_
   refine Go1.ret1V Try.func160 rfl (show _ = .bool false from rfl) ?_
   refine hR67 _ _ ?_
   refine six1 0 hO H.1 H.2.1 ?_
   refine sst (u := (mgt dX r52)) 0 hO H.1 H.2.1 fun ER s hO => ?_
   refine sinc (natbd h36 aa.bd) ?_
   refine au ?_
   exact hX1 _ H.2.2 _ _ ⟨_, _, _, _, _, _, _, _, _, _, _, _, _, _, _, _, _, _, _, agr, hO, aa.u, fh.u, ap.u, fr⟩
  refine GoQ.stable rfl (olookF (a := r52) (MK.str Try.underlying9) 11 hO rfl Try.underlying154 ti3 rfl rfl h54) rfl rfl ?_
  refine sxl1 8 hO (ifn h54 H).1 (ifn h54 H).2.1 ?_
  have hle106 := t1le 8 hO (ifn h54 H).1 (ifn h54 H).2.1
  refine au ?_
  have iM := (ifn h54 H).1
  have nW := (ifn h54 H).2.1
  replace H := (ifn h54 H).2.2
  obtain ⟨nX, H⟩ := H
  refine zo (J0i rfl rfl (wrap_i64 nX)) ?_
  refine zo (J35 Try.underlying3 Try.underlying21 rfl rfl) ?_
  obtain ⟨FL, H⟩ := H
  obtain ⟨lI, H⟩ := H
  refine zo (J4d Try.underlying21 Try.underlying9 rfl FL lI) ?_
  obtain ⟨jr, H⟩ := H
  refine zo (J65 rfl rfl jr) ?_
  refine au ?_
  refine zo (J0E Try.underlying23 rfl (Els.neqW fh.u hO 3 rfl)) ?_
  refine scm H (fun jt H => ?_) fun jt H => ?_
  ·refine au ?_
   refine sdr [0] hO fun s hO => ?_
   refine Go1.ret1 Try.func133 rfl ⟨_, (⟨(⟨a0.Enum.Points, a0.Enum.Monoid, a0.Enum.Gens, d_9, m9, na, a0.Enum.Right, nb, a0.Enum.Done⟩ : Enum), dX, d_27, gV, a0.single⟩ : run), _, _, _, _, _, _, _, _, _, _, _, _, _, _, _, _, _, _, _, _, _, _, _, _, _, _, _, _, _, _, ?_, hO, aa.u, fh.u, ap.u, fr, H⟩
   exact rfl
  refine sxl1 9 hO H.1 H.2.1 ?_
  refine au ?_
  refine GoR.inl (vs := [.pointer (some ⟨eB, 0, none⟩), .int .i64 (ix gV a0.Enum.Done), .int .i64 (a9 : Int)]) (caps := []) rfl rfl body159 Try.func159 rfl Try.ntmps159 rfl rfl rfl ?_
  intro RhR114 hR114
  refine scm H.2.2 (fun FM H => ?_) fun FM H => ?_
  ·refine sxl1 10 hO H.1 H.2.1 ?_
   refine au ?_
   refine Go1.ret1V Try.func159 rfl (show _ = .int .i64 (ix a0.single (a9 : Int)) from rfl) ?_
   refine hR114 _ _ ?_
   refine GoR.inl (vs := [.pointer (some ⟨eB, 0, none⟩), .slice ia r49.length ic, .int .i64 a0.Enum.Done, .int .i64 (a9 : Int), .string (gstr ((ix d_27 a0.Enum.Done) ++ (chr (IntKind.i32.wrap ((97 : Int) + (a9 : Int)))))), .int .i64 (ix a0.single (a9 : Int))]) (caps := []) rfl rfl body155 Try.func155 rfl Try.ntmps155 rfl rfl rfl ?_
   intro RhR116 hR116
   refine au ?_
   refine zo (J0E Try.underlying23 rfl (Els.neqW fh.u hO 3 rfl)) ?_
   refine au ?_
   refine drw 1 [(0, .pure), (1, .pure), (2, .pure), (3, .stable), (4, .pure), (6, .pure), (5, .loud), (7, .last)] hO fun Fv s hO => ?_
   refine au ?_
   refine zcq rfl (J00 body157 rfl (J0a hO.lt jH.u H.2.2)) fun _ nY => e1 fun tx => sq0 hO fun s hO => d1 fun GW H => ?_
   have zz := omapUpd (MK.str Try.underlying9) 11 hO rfl Try.underlying154 tx (d_9.length : Int)
   obtain ⟨DW, lJ, v8⟩ := zz
   refine GoQ.last rfl (v8 (by exact rfl) (by exact rfl) (by exact rfl)) rfl rfl ?_
   refine nst lJ fun s hO => ?_
   refine au ?_
   have zz := J2Y (r := Rp.sl (Rp.int .i64)) (n := 1) (parts := [(0, .slice ia r49.length ic)]) (vs := [.slice ia r49.length ic]) (xs := [r49]) rfl Try.underlying23 ti31 hO (by decide) (by kernel_rfl) (Els.cons rfl ⟨ia, ic, rfl, jH.u⟩ (Els.nil _ _ _) (by simp [mx])) rfl
   obtain ⟨MU, MV, v9, Bl, Hy, wa⟩ := zz
   refine zg (wa rfl) ?_
   refine nst v9 fun s hO => ?_
   refine sfzR 0 hO Bl fun s hO Bm Bn => ?_
   obtain ⟨wc, H⟩ := H
   have zz := oapp Try.underlying23 ti31 rfl 3 hO rfl fh.u Bm Bn wc (by decide)
   obtain ⟨Dg, MW, MX, Hz, we, sn, wg⟩ := zz
   dsimp only [sS, sZ] at sn
   refine zg (wg (by exact rfl) (by exact rfl)) ?_
   refine nst we fun s hO => ?_
   refine sbs 1 hO fun tG s hO => ?_
   refine au ?_
   refine sap1 a0.Enum.Done 4 hO H fun _ FN MY M0 s hO => ?_
   refine sbs 1 hO fun Fx s hO => ?_
   refine au ?_
   refine sap1 ((a9 : Int)) 5 hO H.2 fun _ M1 M2 M3 s hO => ?_
   refine sbs 1 hO fun FO s hO => ?_
   refine au ?_
   refine sap1 (((ix d_27 a0.Enum.Done) ++ (chr (IntKind.i32.wrap ((97 : Int) + (a9 : Int)))))) 8 hO H.2.2 (fun _ Dk M4 M5 s hO => ?_) (hR := by exact fun _ _ => ⟨rfl, (lenApp jr)⟩)
   refine sbs 1 hO fun n9 s hO => ?_
   refine au ?_
   refine sap1 ((ix a0.single (a9 : Int))) 9 hO H.2.2.2 fun _ D5 D6 D7 s hO => ?_
   refine sbs 1 hO fun M6 s hO => ?_
   refine au ?_
   refine Go1.ret1V Try.func155 rfl (show _ = .int .i64 (d_9.length : Int) from rfl) ?_
   refine hR116 _ _ ?_
   refine six1 0 hO H.2.2.2.2.1 H.2.2.2.2.2.1 ?_
   refine sst (u := (d_9.length : Int)) 0 hO H.2.2.2.2.1 H.2.2.2.2.2.1 fun M7 s hO => ?_
   refine sinc (natbd h36 aa.bd) ?_
   refine au ?_
   exact hX1 _ H.2.2.2.2.2.2 _ _ ⟨_, _, _, _, _, _, _, _, _, _, _, _, _, _, _, _, _, _, _, agr, hO, aa.u, sn.u, ap.u, fr⟩
  refine au ?_
  obtain ⟨h159, H⟩ := H
  obtain ⟨mt, H⟩ := H
  refine zo (J01 Try.underlying23 ti31 rfl rfl h159 (ltn (Els.neqW ap.u hO 6 rfl) mt) (Els.psomeW ap.u hO 6 rfl h159 mt)) ?_
  have zz := oldSl 6 hO rfl ap.u h159 mt
  obtain ⟨kh, M8, Bo, Bp⟩ := zz
  refine zs (Bp Try.underlying31 rfl rfl) ?_
  refine sxl hO Bo H.1 H.2.1 ?_
  refine au ?_
  refine Go1.ret1V Try.func159 rfl (show _ = .int .i64 (ix (ix a0.Enum.Right (ix gV a0.Enum.Done)) (a9 : Int)) from rfl) ?_
  refine hR114 _ _ ?_
  refine GoR.inl (vs := [.pointer (some ⟨eB, 0, none⟩), .slice ia r49.length ic, .int .i64 a0.Enum.Done, .int .i64 (a9 : Int), .string (gstr ((ix d_27 a0.Enum.Done) ++ (chr (IntKind.i32.wrap ((97 : Int) + (a9 : Int)))))), .int .i64 (ix (ix a0.Enum.Right (ix gV a0.Enum.Done)) (a9 : Int))]) (caps := []) rfl rfl body155 Try.func155 rfl Try.ntmps155 rfl rfl rfl ?_
  intro RhR165 hR165
  refine au ?_
  refine zo (J0E Try.underlying23 rfl (Els.neqW fh.u hO 3 rfl)) ?_
  refine au ?_
  refine drw 1 [(0, .pure), (1, .pure), (2, .pure), (3, .stable), (4, .pure), (6, .pure), (5, .loud), (7, .last)] hO fun Dr s hO => ?_
  refine au ?_
  refine zcq rfl (J00 body157 rfl (J0a hO.lt jH.u H.2.2)) fun _ oc => e1 fun r167 => sq0 hO fun s hO => d1 fun GX H => ?_
  have zz := omapUpd (MK.str Try.underlying9) 11 hO rfl Try.underlying154 r167 (d_9.length : Int)
  obtain ⟨M9, wh, wi⟩ := zz
  refine GoQ.last rfl (wi (by exact rfl) (by exact rfl) (by exact rfl)) rfl rfl ?_
  refine nst wh fun s hO => ?_
  refine au ?_
  have zz := J2Y (r := Rp.sl (Rp.int .i64)) (n := 1) (parts := [(0, .slice ia r49.length ic)]) (vs := [.slice ia r49.length ic]) (xs := [r49]) rfl Try.underlying23 ti31 hO (by decide) (by kernel_rfl) (Els.cons rfl ⟨ia, ic, rfl, jH.u⟩ (Els.nil _ _ _) (by simp [mx])) rfl
  obtain ⟨vM, Fz, wj, Bq, HA, wk⟩ := zz
  refine zg (wk rfl) ?_
  refine nst wj fun s hO => ?_
  refine sfzR 0 hO Bq fun s hO mO mP => ?_
  obtain ⟨FP, H⟩ := H
  have zz := oapp Try.underlying23 ti31 rfl 3 hO rfl fh.u mO mP FP (by decide)
  obtain ⟨Dx, Na, Nb, HB, wm, sq, wn⟩ := zz
  dsimp only [sS, sZ] at sq
  refine zg (wn (by exact rfl) (by exact rfl)) ?_
  refine nst wm fun s hO => ?_
  refine sbs 1 hO fun tM s hO => ?_
  refine au ?_
  refine sap1 a0.Enum.Done 4 hO H fun _ E4 Nc Nd s hO => ?_
  refine sbs 1 hO fun Nf s hO => ?_
  refine au ?_
  refine sap1 ((a9 : Int)) 5 hO H.2 fun _ tN Ng Nh s hO => ?_
  refine sbs 1 hO fun Ni s hO => ?_
  refine au ?_
  refine sap1 (((ix d_27 a0.Enum.Done) ++ (chr (IntKind.i32.wrap ((97 : Int) + (a9 : Int)))))) 8 hO H.2.2 (fun _ ud D8 D9 s hO => ?_) (hR := by exact fun _ _ => ⟨rfl, (lenApp jr)⟩)
  refine sbs 1 hO fun Nj s hO => ?_
  refine au ?_
  refine sap1 ((ix (ix a0.Enum.Right (ix gV a0.Enum.Done)) (a9 : Int))) 9 hO H.2.2.2 fun _ E6 Nk Nl s hO => ?_
  refine sbs 1 hO fun Nm s hO => ?_
  refine au ?_
  refine Go1.ret1V Try.func155 rfl (show _ = .int .i64 (d_9.length : Int) from rfl) ?_
  refine hR165 _ _ ?_
  refine six1 0 hO H.2.2.2.2.1 H.2.2.2.2.2.1 ?_
  refine sst (u := (d_9.length : Int)) 0 hO H.2.2.2.2.1 H.2.2.2.2.2.1 fun DF s hO => ?_
  refine sinc (natbd h36 aa.bd) ?_
  refine au ?_
  exact hX1 _ H.2.2.2.2.2.2 _ _ ⟨_, _, _, _, _, _, _, _, _, _, _, _, _, _, _, _, _, _, _, agr, hO, aa.u, sq.u, ap.u, fr⟩
 refine au ?_
 refine sfz 0 hO fun s hO Br Bs => ?_
 have zz := J2Y (r := Rp.sl (Rp.int .i64)) (n := 1) (parts := [(0, .slice p4 a0.Enum.Gens.length a0.Enum.Gens.length)]) (vs := [.slice p4 a0.Enum.Gens.length a0.Enum.Gens.length]) (xs := [d_8]) rfl Try.underlying23 ti31 hO (by decide) (by kernel_rfl) (Els.cons rfl ⟨p4, a0.Enum.Gens.length, congrArg some (congrArg (fun nn => Value.slice p4 nn a0.Enum.Gens.length) Bs), Br⟩ (Els.nil _ _ _) (by simp [mx])) rfl
 obtain ⟨Nn, Np, wo, Bt, HC, lU⟩ := zz
 refine zg (lU rfl) ?_
 refine nst wo fun s hO => ?_
 refine sfzR 0 hO Bt fun s hO Bu Bv => ?_
 obtain ⟨FQ, H⟩ := H
 have zz := oapp Try.underlying23 ti31 rfl 5 hO rfl ap.u Bu Bv FQ (by decide)
 obtain ⟨Nq, Nr, Nt, HD, wq, sr, wr⟩ := zz
 dsimp only [sS, sZ] at sr
 refine zg (wr (by exact rfl) (by exact rfl)) ?_
 refine nst wq fun s hO => ?_
 refine sbs 0 hO fun Nu s hO => ?_
 refine au ?_
 obtain ⟨FS, H⟩ := H
 refine zo (J0i rfl rfl (wrap_i64 FS)) ?_
 refine sbs 0 hO fun Nv s hO => ?_
 refine au ?_
 refine Go1.ret1 Try.func133 rfl ⟨_, (⟨(⟨a0.Enum.Points, a0.Enum.Monoid, a0.Enum.Gens, d_9, m9, na, a0.Enum.Right ++ ([d_8]), nb, (a0.Enum.Done + (1 : Int))⟩ : Enum), dX, d_27, gV, a0.single⟩ : run), _, _, _, _, _, _, _, _, _, _, _, _, _, _, _, _, _, _, _, _, _, _, _, _, _, _, _, _, _, _, ?_, hO, aa.u, fh.u, sr.u, fr, H⟩
 exact rfl
theorem body132 : Body Try.prog 132 := ⟨Try.f132, Try.func132, rfl, by kernel_rfl⟩
theorem body101 : Body Try.prog 101 := ⟨Try.f101, Try.func101, rfl, by kernel_rfl⟩
theorem J26 {A : List Nat} {w0 : World} {fG : Option Addr} {fH : Nat} {gens : List (List Int)} {monoid : Bool} (hA : ∀ b ∈ A, b < w0.heap.size) (ik : ISl (Rp.sl (Rp.int .i64)) A w0 fG fH gens) {K : Enum → Int → Prop} (H : J0u gens monoid K) :
    CallsV Try.prog 101 #[.slice fG gens.length fH, .bool monoid] w0 (fun v w' => ∃ (r0 : Enum) (r1 : Int) (kq : Option Addr) (kr : Nat) (jI : Option Addr) (jJ : Nat) (je : Option Addr) (jf : Nat) (ks : Option Addr) (kt : Nat) (jK : Option Addr) (jL : Nat) (jM : Option Addr) (jN : Nat), v = .tuple #[.agg #[.int .i64 r0.Points, .bool r0.Monoid, .slice kq r0.Gens.length kr, .slice jI r0.Elems.length jJ, .slice je r0.Prefix.length jf, .slice ks r0.Last.length kt, .slice jK r0.Right.length jL, .slice jM r0.Rules.length jN, .int .i64 r0.Done], .int .i64 r1] ∧ Same w0 w' ∧ ISl (Rp.sl (Rp.int .i64)) A w' kq kr r0.Gens ∧ ISl (Rp.sl (Rp.int .i64)) A w' jI jJ r0.Elems ∧ ISl (Rp.int .i64) A w' je jf r0.Prefix ∧ ISl (Rp.int .i64) A w' ks kt r0.Last ∧ ISl (Rp.sl (Rp.int .i64)) A w' jK jL r0.Right ∧ ISl (rpRule) A w' jM jN r0.Rules ∧ K r0 r1) := by
 refine CallsV.of (l := [.slice fG gens.length fH, .bool monoid]) Try.func101 rfl Try.ntmps101 rfl ?_
 have hO := Owns.start hA
 have hB := Fr.refl (bl []) w0
 unfold J0u at H
 refine sal hO fun w1 B2 s hO => ?_
 refine au ?_
 refine zcr (J00 body131 rfl (J3R hO.lt ik.u H)) fun _ w6 hc => Or.elim hc ?_ ?_
 ·refine e1 fun r5 => d2 fun hv hs H => ?_
  subst hv; clear hc
  replace H := oElimN H
  refine sm hO hs fun s hO => ?_
  refine scm H (fun h7 H => ?_) fun h7 H => ?_
  ·refine au ?_
   refine lw H (fun _ σ w => (fun Z => agrees σ [(4, .pointer (some ⟨B2, 0, none⟩)), (6, .pointer none)] ∧ Owns w0.heap.size w Z A ∧ Fr (bl []) w0 (bl Z) w) [.blk B2 (.cells #[.int .i64 (0 : Int), .bool false, .slice none 0 0, .slice none 0 0, .slice none 0 0, .slice none 0 0, .slice none 0 0, .slice none 0 0, .int .i64 (0 : Int)] 123 (0, 0))]) ⟨agr, hO, fr⟩ ?_
   refine fun X1 => fun _ => fun H hX1 σ w8 => d2 fun hag hO hB => ?_
   refine Go1.keep _ hag ?_
   revert hO; repeat (rename Owns _ _ _ _ => q; clear q)
   intro hO; repeat (rename Sq _ _ _ _ _ _ => q; clear q)
   refine au ?_
   refine GoR.inl (vs := [.pointer none]) (caps := []) rfl rfl body132 Try.func132 rfl Try.ntmps132 rfl rfl rfl ?_
   intro RhR9 hR9
   refine au ?_
   refine drw 0 [(0, .pure), (1, .pure), (2, .pure), (3, .pure), (4, .stable), (5, .pure), (6, .pure), (7, .pure), (8, .pure), (9, .stable), (10, .pure), (11, .pure), (12, .pure)] hO fun w10 s hO => ?_
   refine au ?_
   exact (H).elim
  refine au ?_
  refine zo (J06 Try.underlying123 ti123 (pl := [(0, 1), (1, 1), (2, 1), (3, 1), (4, 1), (5, 1), (6, 1), (7, 1), (8, 1)]) (vs := []) (cs := #[.int .i64 (0 : Int), .bool false, .slice none 0 0, .slice none 0 0, .slice none 0 0, .slice none 0 0, .slice none 0 0, .slice none 0 0, .int .i64 (0 : Int)]) (by kernel_rfl) rfl (by kernel_rfl)) ?_
  refine sba 0 hO fun w11 s hO => ?_
  refine au ?_
  refine Go1.retC2 Try.func101 rfl rfl (rlb 0 hO) ⟨((⟨(0 : Int), false, ([] : List (List Int)), ([] : List (List Int)), ([] : List Int), ([] : List Int), ([] : List (List Int)), ([] : List Rule), (0 : Int)⟩ : Enum)), _, _, _, _, _, _, _, _, _, _, _, _, _, ?_, frs, (ISl.null _ _ _), (ISl.null _ _ _), (ISl.null _ _ _), (ISl.null _ _ _), (ISl.null _ _ _), (ISl.null _ _ _), H⟩
  exact rfl
 refine e4 fun r4 r5 qj sQ => e4 fun sR sT ss su => e4 fun sv sw qk ql => e4 fun qm qn sU sV => e4 fun sW sx sy sA => e4 fun qo sB sC sD => e4 fun jg Bw Bx By => e4 fun xQ xR xS xT => e2 fun xU xV => d1 fun hv => d1 fun hs => d4 fun hN fY fL fM H => ?_
 subst hv; clear hc
 refine smr hO hs hN fun s hO c => ?_
 replace H := oElimS H
 replace fY := fY.ch c
 replace fL := fL.ch c
 replace fM := fM.ch c
 refine scm H (fun h23 H => ?_) fun h23 H => ?_
 ·refine au ?_
  refine lw H (fun (jO, jP, k2_27, d_28, d_34, d_40, d_44, d_48, nc, d_58, qr, qt, ne) σ w => ∃ n33 p31 c32 qu n39 p37 c38 qv n43 p41 c42 n47 p45 c46 n53 p51 c52 qw n57 p55 c56 n61 p59 c60 n65 p63 c64 n69 p67 c68, (fun Z => agrees σ [(4, .pointer (some ⟨B2, 0, none⟩)), (6, .pointer (some ⟨qj, 0, none⟩))] ∧ Owns w0.heap.size w Z A ∧ Els (Rp.sl (Rp.int .i64)) (bl Z ++ A) w qu d_28 ∧ Els (Rp.sl (Rp.int .i64)) (bl Z ++ A) w qv d_34 ∧ Els (Rp.sl (Rp.int .i64)) (bl Z ++ A) w qw d_48 ∧ Fr (bl []) w0 (bl Z) w) [.blk qj (.cells #[.int .i64 jO, .bool jP, .slice p31 n33 c32, .slice p37 n39 c38, .slice p41 n43 c42, .slice p45 n47 c46, .slice p51 n53 c52, .slice p55 n57 c56, .int .i64 k2_27, .map (some jg), .slice p59 n61 c60, .slice p63 n65 c64, .slice p67 n69 c68] 156 (0, 0)), .row 31 1 p31 n33 c32 qu, .row 31 1 p37 n39 c38 qv, t1 Fl.i 3 p41 n43 c42 d_40, t1 Fl.i 3 p45 n47 c46 d_44, .row 31 1 p51 n53 c52 qw, t1 (id Fl.fl : Fl rpRule) 185 p55 n57 c56 nc, t1 Fl.str 9 p59 n61 c60 d_58, t1 Fl.i 3 p63 n65 c64 qr, t1 Fl.i 3 p67 n69 c68 qt, .any (mapE (fun a : List UInt8 => Value.string (gstr a)) (fun a : Int => Value.int .i64 a) jg ne), .blk B2 (.cells #[.int .i64 (0 : Int), .bool false, .slice none 0 0, .slice none 0 0, .slice none 0 0, .slice none 0 0, .slice none 0 0, .slice none 0 0, .int .i64 (0 : Int)] 123 (0, 0))]) ⟨_, _, _, _, _, _, _, _, _, _, _, _, _, _, _, _, _, _, _, _, _, _, _, _, _, _, _, _, _, _, agr, hO, fY.u, fL.u, fM.u, fr⟩ ?_
  refine fun X2 => p1 fun jO => p1 fun jP => p1 fun k2_27 => p1 fun d_28 => p1 fun d_34 => p1 fun d_40 => p1 fun d_44 => p1 fun d_48 => p1 fun nc => p3 fun d_58 qr qt ne => fun H hX2 σ w24 => e4 fun n33 p31 c32 qu => e4 fun n39 p37 c38 qv => e4 fun n43 p41 c42 n47 => e4 fun p45 c46 n53 p51 => e4 fun c52 qw n57 p55 => e4 fun c56 n61 p59 c60 => e4 fun n65 p63 c64 n69 => e2 fun p67 c68 => d1 fun hag => d4 fun hO ws qz wt hB => ?_
  dsimp only at H
  refine Go1.keep _ hag ?_
  revert hO; repeat (rename Owns _ _ _ _ => q; clear q)
  intro hO; repeat (rename Sq _ _ _ _ _ _ => q; clear q)
  refine au ?_
  refine GoR.inl (vs := [.pointer (some ⟨qj, 0, none⟩)]) (caps := []) rfl rfl body132 Try.func132 rfl Try.ntmps132 rfl rfl rfl ?_
  intro RhR71 hR71
  refine au ?_
  refine drw 0 [(0, .pure), (1, .pure), (2, .pure), (3, .pure), (4, .stable), (5, .pure), (6, .pure), (7, .pure), (8, .pure), (9, .stable), (10, .pure), (11, .pure), (12, .pure)] hO fun w72 s hO => ?_
  refine au ?_
  refine GoQ.pure rfl (J0E Try.underlying23 rfl (Els.neqW qz.u hO 2 rfl)) rfl rfl ?_
  refine scm H (fun h73 H => ?_) fun h73 H => ?_
  ·refine au ?_
   refine Go1.ret1V Try.func132 rfl (show _ = .bool true from rfl) ?_
   refine hR71 _ _ ?_
   refine au ?_
   refine zs (J5W (vs := [.int .i64 jO, .bool jP, .slice p31 n33 c32, .slice p37 n39 c38, .slice p41 n43 c42, .slice p45 n47 c46, .slice p51 n53 c52, .slice p55 n57 c56, .int .i64 k2_27]) (i := 0) 0 hO rfl rfl Try.underlying123 rfl ti123 rfl) ?_
   refine sba 11 hO fun w74 s hO => ?_
   refine au ?_
   refine sfzR 1 hO ws.u fun s hO FT FU => ?_
   refine sfzR 1 hO qz.u fun s hO FV FW => ?_
   refine sfz 1 hO fun s hO ph pk => ?_
   refine sfz 1 hO fun s hO po pp => ?_
   refine sfzR 1 hO wt.u fun s hO FX FY => ?_
   refine sfz 1 hO fun s hO qA qB => ?_
   refine Go1.retC2 Try.func101 rfl rfl (rlb 5 hO) ⟨((⟨jO, jP, d_28, d_34, d_40, d_44, d_48, nc, k2_27⟩ : Enum)), _, _, _, _, _, _, _, _, _, _, _, _, _, ?_, frs, FT.r, FV.r, ph.r, po.r, FX.r, qA.r, H⟩
   exact (congrArg (fun l => Value.tuple (List.toArray l)) (J05 (congrArg (fun l => Value.agg (List.toArray l)) (J05 rfl (J05 rfl (J05 (congrArg (fun nn => Value.slice p31 nn c32) FU) (J05 (congrArg (fun nn => Value.slice p37 nn c38) FW) (J05 (congrArg (fun nn => Value.slice p41 nn c42) pk) (J05 (congrArg (fun nn => Value.slice p45 nn c46) pp) (J05 (congrArg (fun nn => Value.slice p51 nn c52) FY) (J05 (congrArg (fun nn => Value.slice p55 nn c56) qB) (J05 rfl rfl)))))))))) (J05 rfl rfl)))
  refine au ?_
  refine Go1.ret1V Try.func132 rfl (show _ = .bool false from rfl) ?_
  refine hR71 _ _ ?_
  refine au ?_
  refine sob 11 hO fun sg hO1 => ?_
  refine zcr (J00 body133 rfl (J2C (a0 := (⟨(⟨jO, jP, d_28, d_34, d_40, d_44, d_48, nc, k2_27⟩ : Enum), ne, d_58, qr, qt⟩ : run)) hO1 ws.u qz.u wt.u H)) fun _ w89 => e4 fun r87 q88 sE sF => e4 fun sG qC qD qE => e4 fun qF nO nP nQ => e4 fun nS sH sI sJ => e4 fun qG qH qI nT => e4 fun qJ qK qL xW => e4 fun xX xY wu ww => e4 fun wz wA wB wC => d1 fun hv => d1 fun hN90 => d4 fun fN fu fv hF91 H => ?_
  subst hv; clear sg hO1
  refine sjn hO hN90 hF91 fun s hO c => ?_
  replace fN := fN.ch c
  replace fu := fu.ch c
  replace fv := fv.ch c
  refine scm H (fun h92 H => ?_) fun h92 H => ?_
  ·refine au ?_
   exact hX2 _ H _ _ ⟨_, _, _, _, _, _, _, _, _, _, _, _, _, _, _, _, _, _, _, _, _, _, _, _, _, _, _, _, _, _, agr, hO, fN, fu, fv, fr⟩
  refine au ?_
  refine zo (J06 Try.underlying123 ti123 (pl := [(0, 1), (1, 1), (2, 1), (3, 1), (4, 1), (5, 1), (6, 1), (7, 1), (8, 1)]) (vs := []) (cs := #[.int .i64 (0 : Int), .bool false, .slice none 0 0, .slice none 0 0, .slice none 0 0, .slice none 0 0, .slice none 0 0, .slice none 0 0, .int .i64 (0 : Int)]) (by kernel_rfl) rfl (by kernel_rfl)) ?_
  refine sba 11 hO fun w93 s hO => ?_
  refine au ?_
  refine Go1.retC2 Try.func101 rfl rfl (rlb 11 hO) ⟨((⟨(0 : Int), false, ([] : List (List Int)), ([] : List (List Int)), ([] : List Int), ([] : List Int), ([] : List (List Int)), ([] : List Rule), (0 : Int)⟩ : Enum)), _, _, _, _, _, _, _, _, _, _, _, _, _, ?_, frs, (ISl.null _ _ _), (ISl.null _ _ _), (ISl.null _ _ _), (ISl.null _ _ _), (ISl.null _ _ _), (ISl.null _ _ _), H⟩
  exact rfl
 refine au ?_
 refine zo (J06 Try.underlying123 ti123 (pl := [(0, 1), (1, 1), (2, 1), (3, 1), (4, 1), (5, 1), (6, 1), (7, 1), (8, 1)]) (vs := []) (cs := #[.int .i64 (0 : Int), .bool false, .slice none 0 0, .slice none 0 0, .slice none 0 0, .slice none 0 0, .slice none 0 0, .slice none 0 0, .int .i64 (0 : Int)]) (by kernel_rfl) rfl (by kernel_rfl)) ?_
 refine sba 11 hO fun w94 s hO => ?_
 refine au ?_
 refine Go1.retC2 Try.func101 rfl rfl (rlb 11 hO) ⟨((⟨(0 : Int), false, ([] : List (List Int)), ([] : List (List Int)), ([] : List Int), ([] : List Int), ([] : List (List Int)), ([] : List Rule), (0 : Int)⟩ : Enum)), _, _, _, _, _, _, _, _, _, _, _, _, _, ?_, frs, (ISl.null _ _ _), (ISl.null _ _ _), (ISl.null _ _ _), (ISl.null _ _ _), (ISl.null _ _ _), (ISl.null _ _ _), H⟩
 exact rfl
theorem body134 : Body Try.prog 134 := ⟨Try.f134, Try.func134, rfl, by kernel_rfl⟩
theorem J3J {A : List Nat} {w0 : World} {eF : Option Addr} {fo : Nat} {s_ : List Int} {v : Int} (hA : ∀ b ∈ A, b < w0.heap.size) (gN : ISl (Rp.int .i64) A w0 eF fo s_) {K : Int → Prop} (H : J15 s_ v K) :
    CallsV Try.prog 134 #[.slice eF s_.length fo, .int .i64 v] w0 (fun v w' => ∃ (r0 : Int), v = .int .i64 r0 ∧ Same w0 w' ∧ K r0) := by
 refine CallsV.of (l := [.slice eF s_.length fo, .int .i64 v]) Try.func134 rfl Try.ntmps134 rfl ?_
 have hO := Owns.start hA
 have hB := Fr.refl (bl []) w0
 unfold J15 at H
 refine sln0 ?_
 refine au ?_
 refine lw (H gN.bd) (fun k1_2 σ w => (fun Z => agrees σ [(0, .slice eF s_.length fo), (1, .int .i64 v), (7, .int .i64 (s_.length : Int)), (8, .int .i64 (k1_2 : Int))] ∧ Owns w0.heap.size w Z A ∧ Fr (bl []) w0 (bl Z) w) []) ⟨agr, hO, fr⟩ ?_
 refine fun X1 => fun k1_2 => fun H hX1 σ w1 => d2 fun hag hO hB => ?_
 refine Go1.keep _ hag ?_
 refine scm H (fun h3 H => ?_) fun h3 H => ?_
 ·refine sxl hO gN.u H.1 H.2.1 ?_
  have h4 := H.1
  have h5 := H.2.1
  refine scm H.2.2 (fun h6 H => ?_) fun h6 H => ?_
  ·refine au ?_
   refine Go1.ret1 Try.func134 rfl ⟨_, ?_, frs, H⟩
   exact rfl
  refine sinc (natbd h3 gN.bd) ?_
  refine au ?_
  exact hX1 _ H _ _ ⟨agr, hO, fr⟩
 refine au ?_
 refine Go1.ret1 Try.func134 rfl ⟨_, ?_, frs, H⟩
 exact rfl
theorem body102 : Body Try.prog 102 := ⟨Try.f102, Try.func102, rfl, by kernel_rfl⟩
theorem J1f {A : List Nat} {w0 : World} {eF : Option Addr} {fo : Nat} {s_ : List Int} {v : Int} (hA : ∀ b ∈ A, b < w0.heap.size) (gN : ISl (Rp.int .i64) A w0 eF fo s_) {K : Bool → Prop} (H : J0h s_ v K) :
    CallsV Try.prog 102 #[.slice eF s_.length fo, .int .i64 v] w0 (fun v w' => ∃ (r0 : Bool), v = .bool r0 ∧ Same w0 w' ∧ K r0) := by
 refine CallsV.of (l := [.slice eF s_.length fo, .int .i64 v]) Try.func102 rfl Try.ntmps102 rfl ?_
 have hO := Owns.start hA
 have hB := Fr.refl (bl []) w0
 unfold J0h at H
 refine au ?_
 refine zcr (J00 body134 rfl (J3J hO.lt gN.u H)) fun _ w2 => e1 fun r1 => sc0 hO fun s hO => fun H => ?_
 refine scm H (fun h3 H => ?_) fun h3 H => ?_
 ·refine au ?_
  refine Go1.ret1 Try.func102 rfl ⟨_, ?_, frs, H⟩
  exact rfl
 refine au ?_
 refine Go1.ret1 Try.func102 rfl ⟨_, ?_, frs, H⟩
 exact rfl
theorem body103 : Body Try.prog 103 := ⟨Try.f103, Try.func103, rfl, by kernel_rfl⟩
theorem J10 {A : List Nat} {w0 : World} {iV p_f : Option Addr} {iW c_f : Nat} {p : part} {f : List Int} (hA : ∀ b ∈ A, b < w0.heap.size) (nH : ISl (Rp.bool) A w0 iV iW p.final) (h_f : ISl (Rp.int .i64) A w0 p_f c_f f) {K : Bool → Prop} (H : J0e p f K) :
    CallsV Try.prog 103 #[.agg #[.int .i64 p.start, .slice iV p.final.length iW, .int .i64 p.shift], .slice p_f f.length c_f] w0 (fun v w' => ∃ (r0 : Bool), v = .bool r0 ∧ Same w0 w' ∧ K r0) := by
 refine CallsV.of (l := [.agg #[.int .i64 p.start, .slice iV p.final.length iW, .int .i64 p.shift], .slice p_f f.length c_f]) Try.func103 rfl Try.ntmps103 rfl ?_
 have hO := Owns.start hA
 have hB := Fr.refl (bl []) w0
 unfold J0e at H
 refine sbx hO fun w1 B2 s hO => ?_
 refine au ?_
 refine drw 0 [(0, .pure), (1, .stable), (2, .pure), (3, .pure), (4, .stable), (5, .pure), (6, .stable), (7, .pure), (8, .stable), (9, .pure), (10, .pure), (11, .stable), (12, .pure)] hO fun w4 s hO => ?_
 refine sxl hO h_f.u H.1 H.2.1 ?_
 refine au ?_
 have h5 := H.1
 have h6 := H.2.1
 replace H := H.2.2
 obtain ⟨h7, H⟩ := H
 refine GoQ.pure rfl (J5l rfl rfl (wrap_i64 h7)) rfl rfl ?_
 refine sxl hO nH.u H.1 H.2.1 ?_
 refine au ?_
 refine Go1.ret1 Try.func103 rfl ⟨_, ?_, frs, H.2.2⟩
 exact rfl
end Sg
