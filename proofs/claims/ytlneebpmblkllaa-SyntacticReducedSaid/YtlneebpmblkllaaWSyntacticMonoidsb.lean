/- -/
import Derived.Test.YtlneebpmblkllaaVd
import Derived.Test.YtlneebpmblkllaaWSyntacticMonoids
namespace Sg
open Go Go.RowKit Go.Proofs
set_option linter.unusedVariables false
set_option linter.unusedSimpArgs false
set_option maxRecDepth 100000
set_option maxHeartbeats 4000000
theorem body155 : Body Try.prog 155 := ⟨Try.f155, Try.func155, rfl, by kernel_rfl⟩
theorem body131 : Body Try.prog 131 := ⟨Try.f131, Try.func131, rfl, by kernel_rfl⟩
theorem J34 {A : List Nat} {w0 : World} {cS : Option Addr} {cU : Nat} {a0 : List (List Int)} {a1 : Bool} (hA : ∀ b ∈ A, b < w0.heap.size) (cR : ISl (Rp.sl (Rp.int .i64)) A w0 cS cU a0) {K : Option run → Int → Prop} (H : J0F a0 a1 K) :
    CallsV Try.prog 131 #[.slice cS a0.length cU, .bool a1] w0 (fun v w' => (∃ (r1 : Int), v = .tuple #[.pointer none, .int .i64 r1] ∧ Same w0 w' ∧ K none r1) ∨ (∃ (q : run), ∃ (r1 : Int), ∃ (b_q : Nat), ∃ (aF : Nat), ∃ (aG : Option Addr), ∃ (aH : Nat), ∃ (bS : List Value), ∃ (ar : Nat), ∃ (av : Option Addr), ∃ (aw : Nat), ∃ (bF : List Value), ∃ (am : Nat), ∃ (ao : Option Addr), ∃ (ap : Nat), ∃ (aI : Nat), ∃ (aJ : Option Addr), ∃ (aK : Nat), ∃ (ax : Nat), ∃ (ay : Option Addr), ∃ (az : Nat), ∃ (bG : List Value), ∃ (aA : Nat), ∃ (aB : Option Addr), ∃ (aC : Nat), ∃ (dj : Nat), ∃ (bT : Nat), ∃ (bU : Option Addr), ∃ (bV : Nat), ∃ (bw : Nat), ∃ (bx : Option Addr), ∃ (bz : Nat), ∃ (bA : Nat), ∃ (bB : Option Addr), ∃ (bC : Nat), v = .tuple #[.pointer (some ⟨b_q, 0, none⟩), .int .i64 r1] ∧ Same w0 w' ∧ Owns w0.heap.size w' [.blk b_q (.cells #[.int .i64 q.Enum.Points, .bool q.Enum.Monoid, .slice aG aF aH, .slice av ar aw, .slice ao am ap, .slice aJ aI aK, .slice ay ax az, .slice aB aA aC, .int .i64 q.Enum.Done, .map (some dj), .slice bU bT bV, .slice bx bw bz, .slice bB bA bC] 156 (0, 0)), .row 31 1 aG aF aH bS, .row 31 1 av ar aw bF, t1 Fl.i 3 ao am ap q.Enum.Prefix, t1 Fl.i 3 aJ aI aK q.Enum.Last, .row 31 1 ay ax az bG, t1 (id Fl.fl : Fl rpRule) 185 aB aA aC q.Enum.Rules, t1 Fl.str 9 bU bT bV q.words, t1 Fl.i 3 bx bw bz q.behind, t1 Fl.i 3 bB bA bC q.single, .any (mapE (fun a : List UInt8 => Value.string (gstr a)) (fun a : Int => Value.int .i64 a) dj q.number)] A ∧ Els (Rp.sl (Rp.int .i64)) (bl [.blk b_q (.cells #[.int .i64 q.Enum.Points, .bool q.Enum.Monoid, .slice aG aF aH, .slice av ar aw, .slice ao am ap, .slice aJ aI aK, .slice ay ax az, .slice aB aA aC, .int .i64 q.Enum.Done, .map (some dj), .slice bU bT bV, .slice bx bw bz, .slice bB bA bC] 156 (0, 0)), .row 31 1 aG aF aH bS, .row 31 1 av ar aw bF, t1 Fl.i 3 ao am ap q.Enum.Prefix, t1 Fl.i 3 aJ aI aK q.Enum.Last, .row 31 1 ay ax az bG, t1 (id Fl.fl : Fl rpRule) 185 aB aA aC q.Enum.Rules, t1 Fl.str 9 bU bT bV q.words, t1 Fl.i 3 bx bw bz q.behind, t1 Fl.i 3 bB bA bC q.single, .any (mapE (fun a : List UInt8 => Value.string (gstr a)) (fun a : Int => Value.int .i64 a) dj q.number)] ++ A) w' bS q.Enum.Gens ∧ Els (Rp.sl (Rp.int .i64)) (bl [.blk b_q (.cells #[.int .i64 q.Enum.Points, .bool q.Enum.Monoid, .slice aG aF aH, .slice av ar aw, .slice ao am ap, .slice aJ aI aK, .slice ay ax az, .slice aB aA aC, .int .i64 q.Enum.Done, .map (some dj), .slice bU bT bV, .slice bx bw bz, .slice bB bA bC] 156 (0, 0)), .row 31 1 aG aF aH bS, .row 31 1 av ar aw bF, t1 Fl.i 3 ao am ap q.Enum.Prefix, t1 Fl.i 3 aJ aI aK q.Enum.Last, .row 31 1 ay ax az bG, t1 (id Fl.fl : Fl rpRule) 185 aB aA aC q.Enum.Rules, t1 Fl.str 9 bU bT bV q.words, t1 Fl.i 3 bx bw bz q.behind, t1 Fl.i 3 bB bA bC q.single, .any (mapE (fun a : List UInt8 => Value.string (gstr a)) (fun a : Int => Value.int .i64 a) dj q.number)] ++ A) w' bF q.Enum.Elems ∧ Els (Rp.sl (Rp.int .i64)) (bl [.blk b_q (.cells #[.int .i64 q.Enum.Points, .bool q.Enum.Monoid, .slice aG aF aH, .slice av ar aw, .slice ao am ap, .slice aJ aI aK, .slice ay ax az, .slice aB aA aC, .int .i64 q.Enum.Done, .map (some dj), .slice bU bT bV, .slice bx bw bz, .slice bB bA bC] 156 (0, 0)), .row 31 1 aG aF aH bS, .row 31 1 av ar aw bF, t1 Fl.i 3 ao am ap q.Enum.Prefix, t1 Fl.i 3 aJ aI aK q.Enum.Last, .row 31 1 ay ax az bG, t1 (id Fl.fl : Fl rpRule) 185 aB aA aC q.Enum.Rules, t1 Fl.str 9 bU bT bV q.words, t1 Fl.i 3 bx bw bz q.behind, t1 Fl.i 3 bB bA bC q.single, .any (mapE (fun a : List UInt8 => Value.string (gstr a)) (fun a : Int => Value.int .i64 a) dj q.number)] ++ A) w' bG q.Enum.Right ∧ K (some q) r1)) := by
 refine CallsV.of (l := [.slice cS a0.length cU, .bool a1]) Try.func131 rfl Try.ntmps131 rfl ?_
 have hO := Owns.start hA
 have hB := Fr.refl (bl []) w0
 unfold J0F at H
 refine au ?_
 refine sln0 ?_
 refine scm (H cR.bd) (fun h1 H => ?_) fun h1 H => ?_
 ·refine au ?_
  refine Go1.ret2 Try.func131 rfl (Or.inl ⟨_, ?_, frs, H⟩)
  exact rfl
 refine au ?_
 refine sln0 ?_
 refine scm H (fun h2 H => ?_) fun h2 H => ?_
 ·refine au ?_
  refine Go1.ret2 Try.func131 rfl (Or.inl ⟨_, ?_, frs, H⟩)
  exact rfl
 refine au ?_
 have zz := omakeMap (fun a : List UInt8 => Value.string (gstr a)) (fun a : Int => Value.int .i64 a) hO
 obtain ⟨w3, B4, wW, hs6, wX⟩ := zz
 refine zg wX ?_
 refine nst wW fun s hO => ?_
 refine zo (J0c Try.underlying156 ti156 (pl := [(0, 9), (9, 1), (10, 1), (11, 1), (12, 1)]) (vs := [(1, .map (some B4))]) (cs := #[.int .i64 (0 : Int), .bool false, .slice none 0 0, .slice none 0 0, .slice none 0 0, .slice none 0 0, .slice none 0 0, .slice none 0 0, .int .i64 (0 : Int), .map (some B4), .slice none 0 0, .slice none 0 0, .slice none 0 0]) (by kernel_rfl) rfl (by kernel_rfl)) ?_
 refine sbx hO fun w9 B10 s hO => ?_
 refine au ?_
 refine sxls hO cR.u H.1 H.2.1 fun p12 c13 gA => ?_
 refine sln0 ?_
 refine au ?_
 refine sbs 0 hO fun w15 s hO => ?_
 refine au ?_
 refine sbs 0 hO fun w16 s hO => ?_
 refine au ?_
 refine sln0 ?_
 refine au ?_
 have tL := Stp.nil (e := 31) (r := 1) hO
 refine nst tL fun s hO => ?_
 have wY := Els.nil (Rp.sl (Rp.int .i64)) (bl (.row 31 1 none 0 0 [] :: [.blk B10 (.cells #[.int .i64 ((ix a0 (0 : Int)).length : Int), .bool a1, .slice none 0 0, .slice none 0 0, .slice none 0 0, .slice none 0 0, .slice none 0 0, .slice none 0 0, .int .i64 (0 : Int), .map (some B4), .slice none 0 0, .slice none 0 0, .slice none 0 0] 156 (0, 0)), .any (mapE (fun a : List UInt8 => Value.string (gstr a)) (fun a : Int => Value.int .i64 a) B4 (([] : List (Str × Int))))]) ++ A) w16
 refine lw (H.2.2 gA.bd) (fun (nV, d_22) σ w => ∃ n27 p25 c26 eP, (fun Z => agrees σ [(1, .bool a1), (6, .pointer (some ⟨B10, 0, none⟩)), (39, .slice cS a0.length cU), (40, .int .i64 (a0.length : Int)), (41, .int .i64 (nV : Int))] ∧ Owns w0.heap.size w Z A ∧ Els (Rp.sl (Rp.int .i64)) (bl Z ++ A) w eP d_22 ∧ Fr (bl []) w0 (bl Z) w) [.row 31 1 p25 n27 c26 eP, .blk B10 (.cells #[.int .i64 ((ix a0 (0 : Int)).length : Int), .bool a1, .slice p25 n27 c26, .slice none 0 0, .slice none 0 0, .slice none 0 0, .slice none 0 0, .slice none 0 0, .int .i64 (0 : Int), .map (some B4), .slice none 0 0, .slice none 0 0, .slice none 0 0] 156 (0, 0)), .any (mapE (fun a : List UInt8 => Value.string (gstr a)) (fun a : Int => Value.int .i64 a) B4 (([] : List (Str × Int))))]) ⟨_, _, _, _, agr, hO, wY.u, fr⟩ ?_
 refine fun X1 => p1 fun nV d_22 => fun H hX1 σ w20 => e4 fun n27 p25 c26 eP => d3 fun hag hO cY hB => ?_
 dsimp only at H
 refine Go1.keep _ hag ?_
 revert hO; repeat (rename Owns _ _ _ _ => q; clear q)
 intro hO; repeat (rename Sq _ _ _ _ _ _ => q; clear q)
 refine au ?_
 refine scm H (fun h28 H => ?_) fun h28 H => ?_
 ·refine au ?_
  refine sxls hO cR.u H.1 H.2.1 fun p29 c30 mc => ?_
  refine au ?_
  refine sln0 ?_
  refine au ?_
  have h32 := H.1
  have h33 := H.2.1
  refine scm (H.2.2 mc.bd) (fun h34 H => ?_) fun h34 H => ?_
  ·refine au ?_
   refine zcr (J00 body154 rfl (J1u hO.lt mc.u H)) fun _ w36 => e1 fun r35 => sc0 hO fun s hO => fun H => ?_
   cases r35
   ·refine au ?_
    refine Go1.ret2 Try.func131 rfl (Or.inl ⟨_, ?_, frs, (iF H)⟩)
    exact rfl
   refine au ?_
   refine drw 1 [(0, .pure), (1, .pure), (2, .pure), (3, .pure), (4, .pure), (5, .stable), (6, .pure), (7, .loud), (8, .loud), (9, .last), (10, .pure), (11, .pure), (12, .pure), (13, .last)] hO fun w37 s hO => ?_
   refine au ?_
   refine zcq rfl (J00 body86 rfl (J07 hO.lt mc.u (iT H))) fun _ w40 => e4 fun r38 nW iW iX => sq1 hO fun s hO => fun H => ?_
   refine sfz 0 hO fun s hO xa xb => ?_
   have zz := J1Y (r := Rp.sl (Rp.int .i64)) (n := 1) (parts := [(0, .slice iW nW iX)]) (vs := [.slice iW nW iX]) (xs := [r38]) rfl Try.underlying23 ti31 hO (by decide) (by kernel_rfl) (Els.cons rfl ⟨iW, iX, congrArg some (congrArg (fun nn => Value.slice iW nn iX) xb), xa⟩ (Els.nil _ _ _) (by simp [mx])) rfl
   obtain ⟨w44, p45, tM, jq, xc, tN⟩ := zz
   refine GoQ.loud rfl (tN rfl) xc rfl rfl ?_
   refine nst tM fun s hO => ?_
   refine sfzR 0 hO jq fun s hO xd xe => ?_
   obtain ⟨h53, H⟩ := H
   have zz := oapp Try.underlying23 ti31 rfl 0 hO rfl cY.u xd xe h53 (by decide)
   obtain ⟨w54, p55, c56, AY, kw, pE, tO⟩ := zz
   dsimp only [sS, sZ] at pE
   refine GoQ.last rfl (tO (by exact rfl) (by exact rfl)) rfl rfl ?_
   refine nst kw fun s hO => ?_
   refine au ?_
   refine sbs 1 hO fun w62 s hO => ?_
   refine au ?_
   refine sinc (natbd h28 cR.bd) ?_
   refine au ?_
   exact hX1 _ H _ _ ⟨_, _, _, _, agr, hO, pE.u, fr⟩
  refine au ?_
  refine Go1.ret2 Try.func131 rfl (Or.inl ⟨_, ?_, frs, H⟩)
  exact rfl
 refine au ?_
 cases a1
 ·refine au ?_
  refine zo (J0O Try.underlying23 rfl (Els.neqW cY.u hO 0 rfl)) ?_
  refine au ?_
  have kK := Stp.nil (e := 31) (r := 1) hO
  refine nst kK fun s hO => ?_
  have iI := Els.nil (Rp.sl (Rp.int .i64)) (bl (.row 31 1 none 0 0 [] :: [.row 31 1 p25 n27 c26 eP, .blk B10 (.cells #[.int .i64 ((ix a0 (0 : Int)).length : Int), .bool false, .slice p25 n27 c26, .slice none 0 0, .slice none 0 0, .slice none 0 0, .slice none 0 0, .slice none 0 0, .int .i64 (0 : Int), .map (some B4), .slice none 0 0, .slice none 0 0, .slice none 0 0] 156 (0, 0)), .any (mapE (fun a : List UInt8 => Value.string (gstr a)) (fun a : Int => Value.int .i64 a) B4 (([] : List (Str × Int))))]) ++ A) w20
  refine snil Fl.i 3 hO fun s hO => ?_
  refine snil Fl.i 3 hO fun s hO => ?_
  refine snil (id Fl.fl : Fl rpRule) 185 hO fun s hO => ?_
  refine snil Fl.str 9 hO fun s hO => ?_
  refine snil Fl.i 3 hO fun s hO => ?_
  refine snil Fl.i 3 hO fun s hO => ?_
  refine lw (iF H) (fun (eM, kM, kN, d_82, d_86, kO, d_94, d_98, dV) σ w => ∃ n77 p75 c76 n81 p79 c80 n85 p83 c84 n89 p87 c88 n93 p91 c92 n97 p95 c96 jr iJ jt kP, (fun Z => agrees σ [(6, .pointer (some ⟨B10, 0, none⟩)), (9, .int .i64 (-1 : Int)), (85, .slice p25 n27 c26), (86, .int .i64 (d_22.length : Int)), (87, .int .i64 (eM : Int))] ∧ Owns w0.heap.size w Z A ∧ Els (Rp.sl (Rp.int .i64)) (bl Z ++ A) w kP d_98 ∧ Els (Rp.sl (Rp.int .i64)) (bl Z ++ A) w eP d_22 ∧ Fr (bl []) w0 (bl Z) w) [t1 Fl.i 3 p75 n77 c76 kM, t1 Fl.i 3 p79 n81 c80 kN, t1 Fl.str 9 p83 n85 c84 d_82, t1 (id Fl.fl : Fl rpRule) 185 p87 n89 c88 d_86, t1 Fl.i 3 p91 n93 c92 kO, t1 Fl.i 3 p95 n97 c96 d_94, .row 31 1 iJ jr jt kP, .row 31 1 p25 n27 c26 eP, .blk B10 (.cells #[.int .i64 ((ix a0 (0 : Int)).length : Int), .bool false, .slice p25 n27 c26, .slice iJ jr jt, .slice p95 n97 c96, .slice p91 n93 c92, .slice none 0 0, .slice p87 n89 c88, .int .i64 (0 : Int), .map (some B4), .slice p83 n85 c84, .slice p79 n81 c80, .slice p75 n77 c76] 156 (0, 0)), .any (mapE (fun a : List UInt8 => Value.string (gstr a)) (fun a : Int => Value.int .i64 a) B4 dV)]) ⟨_, _, _, _, _, _, _, _, _, _, _, _, _, _, _, _, _, _, _, _, _, _, agr, hO, iI.u, cY.u, fr⟩ ?_
  refine fun X2 => p1 fun eM => p1 fun kM => p1 fun kN => p1 fun d_82 => p1 fun d_86 => p3 fun kO d_94 d_98 dV => fun H hX2 σ w72 => e4 fun n77 p75 c76 n81 => e4 fun p79 c80 n85 p83 => e4 fun c84 n89 p87 c88 => e4 fun n93 p91 c92 n97 => e4 fun p95 c96 jr iJ => e2 fun jt kP => d4 fun hag hO fD cY hB => ?_
  dsimp only at H
  refine Go1.keep _ hag ?_
  revert hO; repeat (rename Owns _ _ _ _ => q; clear q)
  intro hO; repeat (rename Sq _ _ _ _ _ _ => q; clear q)
  refine au ?_
  refine scm H (fun kQ H => ?_) fun kQ H => ?_
  ·refine au ?_
   obtain ⟨ji, H⟩ := H
   obtain ⟨gy, H⟩ := H
   refine zo (J02 Try.underlying23 ti31 rfl rfl ji (ltn (Els.neqW cY hO 7 rfl) gy) (Els.psomeW cY hO 7 rfl ji gy)) ?_
   have zz := oldSl 7 hO rfl cY ji gy
   obtain ⟨A4, A5, nX, tP⟩ := zz
   refine zs (tP Try.underlying31 rfl rfl) ?_
   refine au ?_
   obtain ⟨gz, H⟩ := H
   refine zo (J0e rfl rfl (wrap_i64 gz)) ?_
   refine zo (J3R Try.underlying3 Try.underlying21 rfl rfl) ?_
   obtain ⟨ft, H⟩ := H
   obtain ⟨xg, H⟩ := H
   refine zo (J3B Try.underlying21 Try.underlying9 rfl ft xg) ?_
   refine au ?_
   refine drw 0 [(0, .pure), (1, .pure), (2, .pure), (3, .stable), (4, .pure), (5, .loud), (6, .stable), (7, .pure), (8, .pure), (9, .pure), (10, .pure), (11, .pure)] hO fun A6 s hO => ?_
   refine au ?_
   refine zcq rfl (J00 body157 rfl (J06 hO.lt nX.u H)) fun _ xh => e1 fun gC => sq0 hO fun s hO => d1 fun zK H => ?_
   by_cases fu : mhas dV gC = true
   ·refine GoQ.stable rfl (olookT (a := gC) (MK.str Try.underlying9) 9 hO rfl Try.underlying154 rfl rfl fu) rfl rfl ?_
    refine au ?_
    refine drw 5 [(0, .pure), (1, .pure), (2, .pure), (3, .pure), (4, .pure), (5, .stable), (6, .pure), (7, .pure), (8, .pure), (9, .pure), (10, .stable), (11, .pure), (12, .pure), (13, .stable), (14, .pure), (15, .loud), (16, .last), (17, .pure), (18, .pure), (19, .pure), (20, .last)] hO fun lU s hO => ?_
    refine au ?_
    refine sxl1 2 hO (ifp fu H).1 (ifp fu H).2.1 ?_
    have hle120 := t1le 2 hO (ifp fu H).1 (ifp fu H).2.1
    refine GoQ.pure rfl (J0c Try.underlying185 ti185 (pl := [(0, 1), (1, 1)]) (vs := [(0, .string (gstr (chr (IntKind.i32.wrap ((97 : Int) + (eM : Int)))))), (1, .string (gstr (ix d_82 (mgt dV gC))))]) (cs := #[.string (gstr (chr (IntKind.i32.wrap ((97 : Int) + (eM : Int))))), .string (gstr (ix d_82 (mgt dV gC)))]) (by kernel_rfl) rfl (by kernel_rfl)) rfl rfl ?_
    refine sapF (⟨(chr (IntKind.i32.wrap ((97 : Int) + (eM : Int)))), ix d_82 (mgt dV gC)⟩ : Rule) 3 hO (ifp fu H).2.2 (fun _ A7 A8 A9 s hO => ?_) (hok := by exact ⟨(J63 _), hle120⟩)
    refine au ?_
    refine sbs 8 hO fun Ba s hO => ?_
    refine au ?_
    refine sap1 ((mgt dV gC)) 0 hO (ifp fu H).2.2.2 fun _ xi Bb Bc s hO => ?_
    refine au ?_
    refine sbs 8 hO fun mf s hO => ?_
    refine au ?_
    refine sinc (natbd kQ cY.bd) ?_
    refine au ?_
    exact hX2 _ (ifp fu H).2.2.2.2 _ _ ⟨_, _, _, _, _, _, _, _, _, _, _, _, _, _, _, _, _, _, _, _, _, _, agr, hO, fD.u, cY.u, fr⟩
   refine GoQ.stable rfl (olookF (a := gC) (MK.str Try.underlying9) 9 hO rfl Try.underlying154 ti3 rfl rfl fu) rfl rfl ?_
   refine au ?_
   refine zcr (J00 body86 rfl (J07 hO.lt nX.u (ifn fu H))) fun _ Bd => e4 fun r129 gJ eQ eU => sc1 hO fun s hO => fun H => ?_
   refine au ?_
   refine GoR.inl (vs := [.pointer (some ⟨B10, 0, none⟩), .slice eQ gJ eU, .int .i64 (-1 : Int), .int .i64 (eM : Int), .string (gstr (chr (IntKind.i32.wrap ((97 : Int) + (eM : Int))))), .int .i64 (-1 : Int)]) (caps := []) rfl rfl body155 Try.func155 rfl Try.ntmps155 rfl rfl rfl ?_
   intro RhR133 hR133
   refine au ?_
   refine zo (J0O Try.underlying23 rfl (Els.neqW fD.u hO 7 rfl)) ?_
   refine au ?_
   refine drw 1 [(0, .pure), (1, .pure), (2, .pure), (3, .stable), (4, .pure), (6, .pure), (5, .loud), (7, .last)] hO fun xj s hO => ?_
   refine au ?_
   have tQ := t1lend 0 hO
   have kS := t1n 0 hO
   have hOc137 := hO.drop 0
   refine zcq rfl (J00 body157 (show ([.slice eQ gJ eU] : List Value) = [.slice eQ r129.length eU] from by rw [← kS]) (J06 hOc137.lt tQ H)) fun _ Be => e1 fun xk => sq0 hO fun s hO => d1 fun zL H => ?_
   have zz := omapUpd (MK.str Try.underlying9) 10 hO rfl Try.underlying154 xk (d_98.length : Int)
   obtain ⟨Bf, pF, pG⟩ := zz
   refine GoQ.last rfl (pG (by exact rfl) (by exact rfl) (by exact rfl)) rfl rfl ?_
   refine nst pF fun s hO => ?_
   refine au ?_
   refine sfz 0 hO fun s hO tR tS => ?_
   have zz := J1Y (r := Rp.sl (Rp.int .i64)) (n := 1) (parts := [(0, .slice eQ gJ eU)]) (vs := [.slice eQ gJ eU]) (xs := [r129]) rfl Try.underlying23 ti31 hO (by decide) (by kernel_rfl) (Els.cons rfl ⟨eQ, eU, congrArg some (congrArg (fun nn => Value.slice eQ nn eU) tS), tR⟩ (Els.nil _ _ _) (by simp [mx])) rfl
   obtain ⟨pI, Bg, pK, tT, zX, pM⟩ := zz
   refine zg (pM rfl) ?_
   refine nst pK fun s hO => ?_
   refine sfzR 0 hO tT.u fun s hO tU tV => ?_
   obtain ⟨mg, H⟩ := H
   have zz := oapp Try.underlying23 ti31 rfl 6 hO rfl fD.u tU tV mg (by decide)
   obtain ⟨o7, Bi, Bj, zY, pN, nY, pO⟩ := zz
   dsimp only [sS, sZ] at nY
   refine zg (pO (by exact rfl) (by exact rfl)) ?_
   refine nst pN fun s hO => ?_
   refine au ?_
   refine sbs 8 hO fun wB s hO => ?_
   refine au ?_
   refine sap1 ((-1 : Int)) 5 hO H fun _ pP Bk Bl s hO => ?_
   refine au ?_
   refine sbs 8 hO fun o8 s hO => ?_
   refine au ?_
   refine sap1 ((eM : Int)) 4 hO H.2 fun _ pQ Bm Bn s hO => ?_
   refine au ?_
   refine sbs 8 hO fun lW s hO => ?_
   refine au ?_
   refine sap1 ((chr (IntKind.i32.wrap ((97 : Int) + (eM : Int))))) 2 hO H.2.2 (fun _ mh xl Bo s hO => ?_) (hR := by exact fun _ _ => ⟨rfl, (J63 _)⟩)
   refine au ?_
   refine sbs 8 hO fun wE s hO => ?_
   refine au ?_
   refine sap1 ((-1 : Int)) 1 hO H.2.2.2 fun _ wF xm xn s hO => ?_
   refine au ?_
   refine sbs 8 hO fun xo s hO => ?_
   refine au ?_
   refine Go1.ret1V Try.func155 rfl (show _ = .int .i64 (d_98.length : Int) from rfl) ?_
   refine hR133 _ _ ?_
   refine au ?_
   refine sap1 ((d_98.length : Int)) 0 hO H.2.2.2.2 fun _ xp Bp Bq s hO => ?_
   refine au ?_
   refine sbs 8 hO fun pc s hO => ?_
   refine au ?_
   refine sinc (natbd kQ cY.bd) ?_
   refine au ?_
   exact hX2 _ H.2.2.2.2.2 _ _ ⟨_, _, _, _, _, _, _, _, _, _, _, _, _, _, _, _, _, _, _, _, _, _, agr, hO, nY.u, cY.u, fr⟩
  refine au ?_
  have pS := Stp.nil (e := 31) (r := 1) hO
  refine nst pS fun s hO => ?_
  have tW := Els.nil (Rp.sl (Rp.int .i64)) (bl (.row 31 1 none 0 0 [] :: [t1 Fl.i 3 p75 n77 c76 kM, t1 Fl.i 3 p79 n81 c80 kN, t1 Fl.str 9 p83 n85 c84 d_82, t1 (id Fl.fl : Fl rpRule) 185 p87 n89 c88 d_86, t1 Fl.i 3 p91 n93 c92 kO, t1 Fl.i 3 p95 n97 c96 d_94, .row 31 1 iJ jr jt kP, .row 31 1 p25 n27 c26 eP, .blk B10 (.cells #[.int .i64 ((ix a0 (0 : Int)).length : Int), .bool false, .slice p25 n27 c26, .slice iJ jr jt, .slice p95 n97 c96, .slice p91 n93 c92, .slice none 0 0, .slice p87 n89 c88, .int .i64 (0 : Int), .map (some B4), .slice p83 n85 c84, .slice p79 n81 c80, .slice p75 n77 c76] 156 (0, 0)), .any (mapE (fun a : List UInt8 => Value.string (gstr a)) (fun a : Int => Value.int .i64 a) B4 dV)]) ++ A) w72
  refine sfr 10 hO fun s hO => ?_
  refine sfr 2 hO fun s hO => ?_
  refine sfr 3 hO fun s hO => ?_
  refine sfr 4 hO fun s hO => ?_
  refine sfr 5 hO fun s hO => ?_
  refine sfr 5 hO fun s hO => ?_
  refine sfr 6 hO fun s hO => ?_
  refine sfr 7 hO fun s hO => ?_
  refine sfr 8 hO fun s hO => ?_
  refine sfr 9 hO fun s hO => ?_
  refine sfr 10 hO fun s hO => ?_
  refine Go1.ret2 Try.func131 rfl (Or.inr ⟨(⟨(⟨((ix a0 (0 : Int)).length : Int), false, d_22, d_98, d_94, kO, ([] : List (List Int)), d_86, (0 : Int)⟩ : Enum), dV, d_82, kN, kM⟩ : run), _, _, _, _, _, _, _, _, _, _, _, _, _, _, _, _, _, _, _, _, _, _, _, _, _, _, _, _, _, _, _, _, _, ?_, frs, hO, cY.u, fD.u, tW.u, H⟩)
  exact rfl
 refine au ?_
 refine zcr (J00 body156 rfl (J3v hO.lt (iT H))) fun _ wG => e3 fun r187 gK gL => sc0 hO fun s hO => d1 fun lG H => ?_
 refine GoR.inl (vs := [.pointer (some ⟨B10, 0, none⟩), .slice gK r187.length gL, .int .i64 (-1 : Int), .int .i64 (-1 : Int), .string (gstr (([] : Str))), .int .i64 (-1 : Int)]) (caps := []) rfl rfl body155 Try.func155 rfl Try.ntmps155 rfl rfl rfl ?_
 intro RhR189 hR189
 refine au ?_
 refine sln0 ?_
 refine au ?_
 refine drw 1 [(0, .pure), (1, .pure), (2, .pure), (3, .stable), (4, .pure), (6, .pure), (5, .loud), (7, .last)] hO fun xq s hO => ?_
 refine au ?_
 refine zcq rfl (J00 body157 rfl (J06 hO.lt lG.u H)) fun _ Br => e1 fun r191 => sq0 hO fun s hO => d1 fun zM H => ?_
 have zz := omapUpd (MK.str Try.underlying9) 2 hO rfl Try.underlying154 r191 (0 : Int)
 obtain ⟨xr, pT, pU⟩ := zz
 refine GoQ.last rfl (pU (by exact rfl) (by exact rfl) (by exact rfl)) rfl rfl ?_
 refine nst pT fun s hO => ?_
 refine au ?_
 have zz := J1Y (r := Rp.sl (Rp.int .i64)) (n := 1) (parts := [(0, .slice gK r187.length gL)]) (vs := [.slice gK r187.length gL]) (xs := [r187]) rfl Try.underlying23 ti31 hO (by decide) (by kernel_rfl) (Els.cons rfl ⟨gK, gL, rfl, lG.u⟩ (Els.nil _ _ _) (by simp [mx])) rfl
 obtain ⟨xt, Bs, pV, tX, z3, pW⟩ := zz
 refine zg (pW rfl) ?_
 refine nst pV fun s hO => ?_
 refine sfzR 0 hO tX fun s hO tY t5 => ?_
 have pX := Stp.nil (e := 31) (r := 1) hO
 refine nst pX fun s hO => ?_
 have t6 := Els.nil (Rp.sl (Rp.int .i64)) (bl (.row 31 1 none 0 0 [] :: [.row 31 1 p25 n27 c26 eP, .blk B10 (.cells #[.int .i64 ((ix a0 (0 : Int)).length : Int), .bool true, .slice p25 n27 c26, .slice none 0 0, .slice none 0 0, .slice none 0 0, .slice none 0 0, .slice none 0 0, .int .i64 (0 : Int), .map (some B4), .slice none 0 0, .slice none 0 0, .slice none 0 0] 156 (0, 0)), .any (mapE (fun a : List UInt8 => Value.string (gstr a)) (fun a : Int => Value.int .i64 a) B4 (mput (([] : List (Str × Int))) r191 ((0 : Int))))]) ++ A) xt
 obtain ⟨pY, H⟩ := H
 have zz := oapp Try.underlying23 ti31 rfl 0 hO rfl t6 tY.u t5 pY (by decide)
 obtain ⟨Bt, Bu, Bv, z4, qa, n7, ju⟩ := zz
 dsimp only [sS, sZ] at n7
 refine zg (ju (by exact rfl) (by exact rfl)) ?_
 refine nst qa fun s hO => ?_
 refine au ?_
 refine sbs 2 hO fun mj s hO => ?_
 refine au ?_
 refine snil Fl.i 3 hO fun s hO => ?_
 refine sap1 ((-1 : Int)) 0 hO H fun _ Bw Bx By s hO => ?_
 refine au ?_
 refine sbs 3 hO fun xv s hO => ?_
 refine au ?_
 refine snil Fl.i 3 hO fun s hO => ?_
 refine sap1 ((-1 : Int)) 0 hO H.2 fun _ Bz BA BB s hO => ?_
 refine au ?_
 refine sbs 4 hO fun BC s hO => ?_
 refine au ?_
 refine snil Fl.str 9 hO fun s hO => ?_
 refine sap1 ((([] : Str))) 0 hO H.2.2 (fun _ xw BD BE s hO => ?_) (hR := by exact fun _ _ => ⟨rfl, (by decide)⟩)
 refine au ?_
 refine sbs 5 hO fun BG s hO => ?_
 refine au ?_
 refine snil Fl.i 3 hO fun s hO => ?_
 refine sap1 ((-1 : Int)) 0 hO H.2.2.2 fun _ BH BJ BK s hO => ?_
 refine au ?_
 refine sbs 6 hO fun BL s hO => ?_
 refine au ?_
 refine Go1.ret1V Try.func155 rfl (show _ = .int .i64 (0 : Int) from rfl) ?_
 refine hR189 _ _ ?_
 refine au ?_
 refine zo (J0O Try.underlying23 rfl (Els.neqW cY.u hO 5 rfl)) ?_
 refine au ?_
 refine snil (id Fl.fl : Fl rpRule) 185 hO fun s hO => ?_
 refine snil Fl.i 3 hO fun s hO => ?_
 refine lw H.2.2.2.2 (fun (dW, iY, d_246, i4, fE, d_258, i5, fU, dX) σ w => ∃ jv jw jx jy jz jA jB jC jD jE jF jG jH jI jJ jK jL jM jN jO jP gM, (fun Z => agrees σ [(6, .pointer (some ⟨B10, 0, none⟩)), (9, .int .i64 (0 : Int)), (85, .slice p25 n27 c26), (86, .int .i64 (d_22.length : Int)), (87, .int .i64 (dW : Int))] ∧ Owns w0.heap.size w Z A ∧ Els (Rp.sl (Rp.int .i64)) (bl Z ++ A) w gM fU ∧ Els (Rp.sl (Rp.int .i64)) (bl Z ++ A) w eP d_22 ∧ Fr (bl []) w0 (bl Z) w) [t1 Fl.i 3 jw jv jx iY, t1 (id Fl.fl : Fl rpRule) 185 jz jy jA d_246, t1 Fl.i 3 jC jB jD i4, t1 Fl.str 9 jF jE jG fE, t1 Fl.i 3 jI jH jJ d_258, t1 Fl.i 3 jL jK jM i5, .row 31 1 jO jN jP gM, .row 31 1 p25 n27 c26 eP, .blk B10 (.cells #[.int .i64 ((ix a0 (0 : Int)).length : Int), .bool true, .slice p25 n27 c26, .slice jO jN jP, .slice jL jK jM, .slice jI jH jJ, .slice none 0 0, .slice jz jy jA, .int .i64 (0 : Int), .map (some B4), .slice jF jE jG, .slice jC jB jD, .slice jw jv jx] 156 (0, 0)), .any (mapE (fun a : List UInt8 => Value.string (gstr a)) (fun a : Int => Value.int .i64 a) B4 dX)]) ⟨_, _, _, _, _, _, _, _, _, _, _, _, _, _, _, _, _, _, _, _, _, _, agr, hO, n7.u, cY.u, fr⟩ ?_
 refine fun X3 => p1 fun dW => p1 fun iY => p1 fun d_246 => p1 fun i4 => p1 fun fE => p3 fun d_258 i5 fU dX => fun H hX3 σ xz => e4 fun jv jw jx jy => e4 fun jz jA jB jC => e4 fun jD jE jF jG => e4 fun jH jI jJ jK => e4 fun jL jM jN jO => e2 fun jP gM => d4 fun hag hO fe cY hB => ?_
 dsimp only at H
 refine Go1.keep _ hag ?_
 revert hO; repeat (rename Owns _ _ _ _ => q; clear q)
 intro hO; repeat (rename Sq _ _ _ _ _ _ => q; clear q)
 refine au ?_
 refine scm H (fun mm H => ?_) fun mm H => ?_
 ·refine au ?_
  obtain ⟨mo, H⟩ := H
  obtain ⟨mp, H⟩ := H
  refine zo (J02 Try.underlying23 ti31 rfl rfl mo (ltn (Els.neqW cY hO 7 rfl) mp) (Els.psomeW cY hO 7 rfl mo mp)) ?_
  have zz := oldSl 7 hO rfl cY mo mp
  obtain ⟨BM, BN, n8, t7⟩ := zz
  refine zs (t7 Try.underlying31 rfl rfl) ?_
  refine au ?_
  obtain ⟨xA, H⟩ := H
  refine zo (J0e rfl rfl (wrap_i64 xA)) ?_
  refine zo (J3R Try.underlying3 Try.underlying21 rfl rfl) ?_
  obtain ⟨xB, H⟩ := H
  obtain ⟨xC, H⟩ := H
  refine zo (J3B Try.underlying21 Try.underlying9 rfl xB xC) ?_
  refine au ?_
  refine drw 0 [(0, .pure), (1, .pure), (2, .pure), (3, .stable), (4, .pure), (5, .loud), (6, .stable), (7, .pure), (8, .pure), (9, .pure), (10, .pure), (11, .pure)] hO fun BO s hO => ?_
  refine au ?_
  refine zcq rfl (J00 body157 rfl (J06 hO.lt n8.u H)) fun _ BP => e1 fun gD => sq0 hO fun s hO => d1 fun zN H => ?_
  by_cases eV : mhas dX gD = true
  ·refine GoQ.stable rfl (olookT (a := gD) (MK.str Try.underlying9) 9 hO rfl Try.underlying154 rfl rfl eV) rfl rfl ?_
   refine au ?_
   refine drw 5 [(0, .pure), (1, .pure), (2, .pure), (3, .pure), (4, .pure), (5, .stable), (6, .pure), (7, .pure), (8, .pure), (9, .pure), (10, .stable), (11, .pure), (12, .pure), (13, .stable), (14, .pure), (15, .loud), (16, .last), (17, .pure), (18, .pure), (19, .pure), (20, .last)] hO fun BQ s hO => ?_
   refine au ?_
   refine sxl1 3 hO (ifp eV H).1 (ifp eV H).2.1 ?_
   have hle288 := t1le 3 hO (ifp eV H).1 (ifp eV H).2.1
   refine GoQ.pure rfl (J0c Try.underlying185 ti185 (pl := [(0, 1), (1, 1)]) (vs := [(0, .string (gstr (chr (IntKind.i32.wrap ((97 : Int) + (dW : Int)))))), (1, .string (gstr (ix fE (mgt dX gD))))]) (cs := #[.string (gstr (chr (IntKind.i32.wrap ((97 : Int) + (dW : Int))))), .string (gstr (ix fE (mgt dX gD)))]) (by kernel_rfl) rfl (by kernel_rfl)) rfl rfl ?_
   refine sapF (⟨(chr (IntKind.i32.wrap ((97 : Int) + (dW : Int)))), ix fE (mgt dX gD)⟩ : Rule) 1 hO (ifp eV H).2.2 (fun _ xD BR BS s hO => ?_) (hok := by exact ⟨(J63 _), hle288⟩)
   refine au ?_
   refine sbs 8 hO fun BT s hO => ?_
   refine au ?_
   refine sap1 ((mgt dX gD)) 0 hO (ifp eV H).2.2.2 fun _ BU BV BW s hO => ?_
   refine au ?_
   refine sbs 8 hO fun BX s hO => ?_
   refine au ?_
   refine sinc (natbd mm cY.bd) ?_
   refine au ?_
   exact hX3 _ (ifp eV H).2.2.2.2 _ _ ⟨_, _, _, _, _, _, _, _, _, _, _, _, _, _, _, _, _, _, _, _, _, _, agr, hO, fe.u, cY.u, fr⟩
  refine GoQ.stable rfl (olookF (a := gD) (MK.str Try.underlying9) 9 hO rfl Try.underlying154 ti3 rfl rfl eV) rfl rfl ?_
  refine au ?_
  refine zcr (J00 body86 rfl (J07 hO.lt n8.u (ifn eV H))) fun _ xE => e4 fun qb gN eX eY => sc1 hO fun s hO => fun H => ?_
  refine au ?_
  refine GoR.inl (vs := [.pointer (some ⟨B10, 0, none⟩), .slice eX gN eY, .int .i64 (0 : Int), .int .i64 (dW : Int), .string (gstr (chr (IntKind.i32.wrap ((97 : Int) + (dW : Int))))), .int .i64 (0 : Int)]) (caps := []) rfl rfl body155 Try.func155 rfl Try.ntmps155 rfl rfl rfl ?_
  intro RhR301 hR301
  refine au ?_
  refine zo (J0O Try.underlying23 rfl (Els.neqW fe.u hO 7 rfl)) ?_
  refine au ?_
  refine drw 1 [(0, .pure), (1, .pure), (2, .pure), (3, .stable), (4, .pure), (6, .pure), (5, .loud), (7, .last)] hO fun BY s hO => ?_
  refine au ?_
  have t8 := t1lend 0 hO
  have t9 := t1n 0 hO
  have hOc305 := hO.drop 0
  refine zcq rfl (J00 body157 (show ([.slice eX gN eY] : List Value) = [.slice eX qb.length eY] from by rw [← t9]) (J06 hOc305.lt t8 H)) fun _ B1 => e1 fun r306 => sq0 hO fun s hO => d1 fun zO H => ?_
  have zz := omapUpd (MK.str Try.underlying9) 10 hO rfl Try.underlying154 r306 (fU.length : Int)
  obtain ⟨B3, qc, qd⟩ := zz
  refine GoQ.last rfl (qd (by exact rfl) (by exact rfl) (by exact rfl)) rfl rfl ?_
  refine nst qc fun s hO => ?_
  refine au ?_
  refine sfz 0 hO fun s hO ua ub => ?_
  have zz := J1Y (r := Rp.sl (Rp.int .i64)) (n := 1) (parts := [(0, .slice eX gN eY)]) (vs := [.slice eX gN eY]) (xs := [qb]) rfl Try.underlying23 ti31 hO (by decide) (by kernel_rfl) (Els.cons rfl ⟨eX, eY, congrArg some (congrArg (fun nn => Value.slice eX nn eY) ub), ua⟩ (Els.nil _ _ _) (by simp [mx])) rfl
  obtain ⟨xF, B6, qe, uc, z5, qf⟩ := zz
  refine zg (qf rfl) ?_
  refine nst qe fun s hO => ?_
  refine sfzR 0 hO uc fun s hO ud ue => ?_
  obtain ⟨xG, H⟩ := H
  have zz := oapp Try.underlying23 ti31 rfl 6 hO rfl fe.u ud ue xG (by decide)
  obtain ⟨B9, Ca, Cb, z6, qg, n9, qh⟩ := zz
  dsimp only [sS, sZ] at n9
  refine zg (qh (by exact rfl) (by exact rfl)) ?_
  refine nst qg fun s hO => ?_
  refine au ?_
  refine sbs 8 hO fun Cc s hO => ?_
  refine au ?_
  refine sap1 ((0 : Int)) 5 hO H fun _ Cd Ce Cf s hO => ?_
  refine au ?_
  refine sbs 8 hO fun Cg s hO => ?_
  refine au ?_
  refine sap1 ((dW : Int)) 4 hO H.2 fun _ Ci Cj Ck s hO => ?_
  refine au ?_
  refine sbs 8 hO fun xH s hO => ?_
  refine au ?_
  refine sap1 ((chr (IntKind.i32.wrap ((97 : Int) + (dW : Int))))) 3 hO H.2.2 (fun _ xI qi Cl s hO => ?_) (hR := by exact fun _ _ => ⟨rfl, (J63 _)⟩)
  refine au ?_
  refine sbs 8 hO fun Cm s hO => ?_
  refine au ?_
  refine sap1 ((0 : Int)) 2 hO H.2.2.2 fun _ Cn Co Cp s hO => ?_
  refine au ?_
  refine sbs 8 hO fun Cq s hO => ?_
  refine au ?_
  refine Go1.ret1V Try.func155 rfl (show _ = .int .i64 (fU.length : Int) from rfl) ?_
  refine hR301 _ _ ?_
  refine au ?_
  refine sap1 ((fU.length : Int)) 0 hO H.2.2.2.2 fun _ Cr Cs Ct s hO => ?_
  refine au ?_
  refine sbs 8 hO fun Cu s hO => ?_
  refine au ?_
  refine sinc (natbd mm cY.bd) ?_
  refine au ?_
  exact hX3 _ H.2.2.2.2.2 _ _ ⟨_, _, _, _, _, _, _, _, _, _, _, _, _, _, _, _, _, _, _, _, _, _, agr, hO, n9.u, cY.u, fr⟩
 refine au ?_
 have qj := Stp.nil (e := 31) (r := 1) hO
 refine nst qj fun s hO => ?_
 have uf := Els.nil (Rp.sl (Rp.int .i64)) (bl (.row 31 1 none 0 0 [] :: [t1 Fl.i 3 jw jv jx iY, t1 (id Fl.fl : Fl rpRule) 185 jz jy jA d_246, t1 Fl.i 3 jC jB jD i4, t1 Fl.str 9 jF jE jG fE, t1 Fl.i 3 jI jH jJ d_258, t1 Fl.i 3 jL jK jM i5, .row 31 1 jO jN jP gM, .row 31 1 p25 n27 c26 eP, .blk B10 (.cells #[.int .i64 ((ix a0 (0 : Int)).length : Int), .bool true, .slice p25 n27 c26, .slice jO jN jP, .slice jL jK jM, .slice jI jH jJ, .slice none 0 0, .slice jz jy jA, .int .i64 (0 : Int), .map (some B4), .slice jF jE jG, .slice jC jB jD, .slice jw jv jx] 156 (0, 0)), .any (mapE (fun a : List UInt8 => Value.string (gstr a)) (fun a : Int => Value.int .i64 a) B4 dX)]) ++ A) xz
 refine sfr 10 hO fun s hO => ?_
 refine sfr 2 hO fun s hO => ?_
 refine sfr 4 hO fun s hO => ?_
 refine sfr 5 hO fun s hO => ?_
 refine sfr 5 hO fun s hO => ?_
 refine sfr 5 hO fun s hO => ?_
 refine sfr 6 hO fun s hO => ?_
 refine sfr 7 hO fun s hO => ?_
 refine sfr 8 hO fun s hO => ?_
 refine sfr 9 hO fun s hO => ?_
 refine sfr 10 hO fun s hO => ?_
 refine Go1.ret2 Try.func131 rfl (Or.inr ⟨(⟨(⟨((ix a0 (0 : Int)).length : Int), true, d_22, fU, i5, d_258, ([] : List (List Int)), d_246, (0 : Int)⟩ : Enum), dX, fE, i4, iY⟩ : run), _, _, _, _, _, _, _, _, _, _, _, _, _, _, _, _, _, _, _, _, _, _, _, _, _, _, _, _, _, _, _, _, _, ?_, frs, hO, cY.u, fe.u, uf.u, H⟩)
 exact rfl
theorem body158 : Body Try.prog 158 := ⟨Try.f158, Try.func158, rfl, by kernel_rfl⟩
theorem J3J {A : List Nat} {w0 : World} {p_f : Option Addr} {c_f : Nat} {p_g : Option Addr} {c_g : Nat} {f : List Int} {g : List Int} (hA : ∀ b ∈ A, b < w0.heap.size) (h_f : ISl (Rp.int .i64) A w0 p_f c_f f) (h_g : ISl (Rp.int .i64) A w0 p_g c_g g) {K : List Int → Prop} (H : J15 f g K) :
    CallsV Try.prog 158 #[.slice p_f f.length c_f, .slice p_g g.length c_g] w0 (fun v w' => ∃ (r0 : List Int), ∃ (cC : Option Addr), ∃ (cD : Nat), v = .slice cC r0.length cD ∧ Same w0 w' ∧ ISl (Rp.int .i64) A w' cC cD r0 ∧ K r0) := by
 refine CallsV.of (l := [.slice p_f f.length c_f, .slice p_g g.length c_g]) Try.func158 rfl Try.ntmps158 rfl ?_
 have hO := Owns.start hA
 have hB := Fr.refl (bl []) w0
 unfold J15 at H
 refine au ?_
 refine sln0 ?_
 refine au ?_
 refine sln0 ?_
 refine scm ((H h_f.bd) h_g.bd) (fun h1 H => ?_) fun h1 H => ?_
 ·refine au ?_
  refine zcr (J00 body154 rfl (J1u hO.lt h_f.u H)) fun _ w3 => e1 fun r2 => sc0 hO fun s hO => fun H => ?_
  cases r2
  ·refine au ?_
   refine Go1.ret1 Try.func158 rfl ⟨_, _, _, ?_, frs, (ISl.null _ _ _), (iF H)⟩
   exact rfl
  refine au ?_
  refine zcr (J00 body154 rfl (J1u hO.lt h_g.u (iT H))) fun _ w5 => e1 fun r4 => sc0 hO fun s hO => fun H => ?_
  cases r4
  ·refine au ?_
   refine Go1.ret1 Try.func158 rfl ⟨_, _, _, ?_, frs, (ISl.null _ _ _), (iF H)⟩
   exact rfl
  refine au ?_
  refine sln0 ?_
  refine smk Fl.i (iT H) hO fun w6 p7 s hO => ?_
  refine au ?_
  refine sln0 ?_
  refine au ?_
  refine lw (iT H).2.2 (fun (kT, oa) σ w => (fun Z => agrees σ [(1, .slice p_g g.length c_g), (5, .slice p7 f.length f.length), (26, .slice p_f f.length c_f), (27, .int .i64 (f.length : Int)), (28, .int .i64 (kT : Int))] ∧ Owns w0.heap.size w Z A ∧ Fr (bl []) w0 (bl Z) w) [t1 Fl.i 3 p7 f.length f.length oa]) ⟨agr, hO, fr⟩ ?_
  refine fun X1 => p1 fun kT oa => fun H hX1 σ w9 => d2 fun hag hO hB => ?_
  dsimp only at H
  refine Go1.keep _ hag ?_
  revert hO; repeat (rename Owns _ _ _ _ => q; clear q)
  intro hO; repeat (rename Sq _ _ _ _ _ _ => q; clear q)
  refine au ?_
  refine scm H (fun h12 H => ?_) fun h12 H => ?_
  ·refine au ?_
   refine sxl hO h_f.u H.1 H.2.1 ?_
   refine au ?_
   refine sxl hO h_g.u H.2.2.1 H.2.2.2.1 ?_
   refine six1 0 hO H.2.2.2.2.1 H.2.2.2.2.2.1 ?_
   refine sst (u := (ix g (ix f (kT : Int)))) 0 hO H.2.2.2.2.1 H.2.2.2.2.2.1 fun w13 s hO => ?_
   refine au ?_
   refine sinc (natbd h12 h_f.bd) ?_
   refine au ?_
   exact hX1 _ H.2.2.2.2.2.2 _ _ ⟨agr, hO, fr⟩
  refine au ?_
  refine sfz 0 hO fun s hO gA gB => ?_
  refine Go1.ret1 Try.func158 rfl ⟨_, _, _, ?_, frs, gA.r, H⟩
  exact (congrArg (fun nn => Value.slice p7 nn f.length) gB)
 refine au ?_
 refine Go1.ret1 Try.func158 rfl ⟨_, _, _, ?_, frs, (ISl.null _ _ _), H⟩
 exact rfl
theorem body159 : Body Try.prog 159 := ⟨Try.f159, Try.func159, rfl, by kernel_rfl⟩
theorem body160 : Body Try.prog 160 := ⟨Try.f160, Try.func160, rfl, by kernel_rfl⟩
theorem body133 : Body Try.prog 133 := ⟨Try.f133, Try.func133, rfl, by kernel_rfl⟩
theorem J2b {A : List Nat} {n0 : Nat} {w0 : World} {dn : Nat} {aP : Nat} {aQ : Option Addr} {aR : Nat} {b8 : List Value} {a9 : Nat} {ba : Option Addr} {bc : Nat} {cw : List Value} {aV : Nat} {aW : Option Addr} {aX : Nat} {bn : Nat} {bo : Option Addr} {bu : Nat} {aL : Nat} {aM : Option Addr} {aN : Nat} {bY : List Value} {bg : Nat} {bh : Option Addr} {bi : Nat} {aq : Nat} {co : Nat} {cp : Option Addr} {cq : Nat} {b9 : Nat} {ca : Option Addr} {cb : Nat} {bN : Nat} {bO : Option Addr} {bP : Nat} {a0 : run} (hO : Owns n0 w0 [.blk dn (.cells #[.int .i64 a0.Enum.Points, .bool a0.Enum.Monoid, .slice aQ aP aR, .slice ba a9 bc, .slice aW aV aX, .slice bo bn bu, .slice aM aL aN, .slice bh bg bi, .int .i64 a0.Enum.Done, .map (some aq), .slice cp co cq, .slice ca b9 cb, .slice bO bN bP] 156 (0, 0)), .row 31 1 aQ aP aR b8, .row 31 1 ba a9 bc cw, t1 Fl.i 3 aW aV aX a0.Enum.Prefix, t1 Fl.i 3 bo bn bu a0.Enum.Last, .row 31 1 aM aL aN bY, t1 (id Fl.fl : Fl rpRule) 185 bh bg bi a0.Enum.Rules, t1 Fl.str 9 cp co cq a0.words, t1 Fl.i 3 ca b9 cb a0.behind, t1 Fl.i 3 bO bN bP a0.single, .any (mapE (fun a : List UInt8 => Value.string (gstr a)) (fun a : Int => Value.int .i64 a) aq a0.number)] A) (ae : Els (Rp.sl (Rp.int .i64)) (bl [.blk dn (.cells #[.int .i64 a0.Enum.Points, .bool a0.Enum.Monoid, .slice aQ aP aR, .slice ba a9 bc, .slice aW aV aX, .slice bo bn bu, .slice aM aL aN, .slice bh bg bi, .int .i64 a0.Enum.Done, .map (some aq), .slice cp co cq, .slice ca b9 cb, .slice bO bN bP] 156 (0, 0)), .row 31 1 aQ aP aR b8, .row 31 1 ba a9 bc cw, t1 Fl.i 3 aW aV aX a0.Enum.Prefix, t1 Fl.i 3 bo bn bu a0.Enum.Last, .row 31 1 aM aL aN bY, t1 (id Fl.fl : Fl rpRule) 185 bh bg bi a0.Enum.Rules, t1 Fl.str 9 cp co cq a0.words, t1 Fl.i 3 ca b9 cb a0.behind, t1 Fl.i 3 bO bN bP a0.single, .any (mapE (fun a : List UInt8 => Value.string (gstr a)) (fun a : Int => Value.int .i64 a) aq a0.number)] ++ A) w0 b8 a0.Enum.Gens) (gE : Els (Rp.sl (Rp.int .i64)) (bl [.blk dn (.cells #[.int .i64 a0.Enum.Points, .bool a0.Enum.Monoid, .slice aQ aP aR, .slice ba a9 bc, .slice aW aV aX, .slice bo bn bu, .slice aM aL aN, .slice bh bg bi, .int .i64 a0.Enum.Done, .map (some aq), .slice cp co cq, .slice ca b9 cb, .slice bO bN bP] 156 (0, 0)), .row 31 1 aQ aP aR b8, .row 31 1 ba a9 bc cw, t1 Fl.i 3 aW aV aX a0.Enum.Prefix, t1 Fl.i 3 bo bn bu a0.Enum.Last, .row 31 1 aM aL aN bY, t1 (id Fl.fl : Fl rpRule) 185 bh bg bi a0.Enum.Rules, t1 Fl.str 9 cp co cq a0.words, t1 Fl.i 3 ca b9 cb a0.behind, t1 Fl.i 3 bO bN bP a0.single, .any (mapE (fun a : List UInt8 => Value.string (gstr a)) (fun a : Int => Value.int .i64 a) aq a0.number)] ++ A) w0 cw a0.Enum.Elems) (ak : Els (Rp.sl (Rp.int .i64)) (bl [.blk dn (.cells #[.int .i64 a0.Enum.Points, .bool a0.Enum.Monoid, .slice aQ aP aR, .slice ba a9 bc, .slice aW aV aX, .slice bo bn bu, .slice aM aL aN, .slice bh bg bi, .int .i64 a0.Enum.Done, .map (some aq), .slice cp co cq, .slice ca b9 cb, .slice bO bN bP] 156 (0, 0)), .row 31 1 aQ aP aR b8, .row 31 1 ba a9 bc cw, t1 Fl.i 3 aW aV aX a0.Enum.Prefix, t1 Fl.i 3 bo bn bu a0.Enum.Last, .row 31 1 aM aL aN bY, t1 (id Fl.fl : Fl rpRule) 185 bh bg bi a0.Enum.Rules, t1 Fl.str 9 cp co cq a0.words, t1 Fl.i 3 ca b9 cb a0.behind, t1 Fl.i 3 bO bN bP a0.single, .any (mapE (fun a : List UInt8 => Value.string (gstr a)) (fun a : Int => Value.int .i64 a) aq a0.number)] ++ A) w0 bY a0.Enum.Right) {K : Int → run → Prop} (H : J0h a0 K) :
    CallsV Try.prog 133 #[.pointer (some ⟨dn, 0, none⟩)] w0 (fun v w' => ∃ (r0 : Int), ∃ (q : run), ∃ (aF : Nat), ∃ (aG : Option Addr), ∃ (aH : Nat), ∃ (bS : List Value), ∃ (ar : Nat), ∃ (av : Option Addr), ∃ (aw : Nat), ∃ (bF : List Value), ∃ (am : Nat), ∃ (ao : Option Addr), ∃ (ap : Nat), ∃ (aI : Nat), ∃ (aJ : Option Addr), ∃ (aK : Nat), ∃ (ax : Nat), ∃ (ay : Option Addr), ∃ (az : Nat), ∃ (bG : List Value), ∃ (aA : Nat), ∃ (aB : Option Addr), ∃ (aC : Nat), ∃ (bT : Nat), ∃ (bU : Option Addr), ∃ (bV : Nat), ∃ (bw : Nat), ∃ (bx : Option Addr), ∃ (bz : Nat), ∃ (bA : Nat), ∃ (bB : Option Addr), ∃ (bC : Nat), v = .int .i64 r0 ∧ Owns n0 w' [.blk dn (.cells #[.int .i64 q.Enum.Points, .bool q.Enum.Monoid, .slice aG aF aH, .slice av ar aw, .slice ao am ap, .slice aJ aI aK, .slice ay ax az, .slice aB aA aC, .int .i64 q.Enum.Done, .map (some aq), .slice bU bT bV, .slice bx bw bz, .slice bB bA bC] 156 (0, 0)), .row 31 1 aG aF aH bS, .row 31 1 av ar aw bF, t1 Fl.i 3 ao am ap q.Enum.Prefix, t1 Fl.i 3 aJ aI aK q.Enum.Last, .row 31 1 ay ax az bG, t1 (id Fl.fl : Fl rpRule) 185 aB aA aC q.Enum.Rules, t1 Fl.str 9 bU bT bV q.words, t1 Fl.i 3 bx bw bz q.behind, t1 Fl.i 3 bB bA bC q.single, .any (mapE (fun a : List UInt8 => Value.string (gstr a)) (fun a : Int => Value.int .i64 a) aq q.number)] A ∧ Els (Rp.sl (Rp.int .i64)) (bl [.blk dn (.cells #[.int .i64 q.Enum.Points, .bool q.Enum.Monoid, .slice aG aF aH, .slice av ar aw, .slice ao am ap, .slice aJ aI aK, .slice ay ax az, .slice aB aA aC, .int .i64 q.Enum.Done, .map (some aq), .slice bU bT bV, .slice bx bw bz, .slice bB bA bC] 156 (0, 0)), .row 31 1 aG aF aH bS, .row 31 1 av ar aw bF, t1 Fl.i 3 ao am ap q.Enum.Prefix, t1 Fl.i 3 aJ aI aK q.Enum.Last, .row 31 1 ay ax az bG, t1 (id Fl.fl : Fl rpRule) 185 aB aA aC q.Enum.Rules, t1 Fl.str 9 bU bT bV q.words, t1 Fl.i 3 bx bw bz q.behind, t1 Fl.i 3 bB bA bC q.single, .any (mapE (fun a : List UInt8 => Value.string (gstr a)) (fun a : Int => Value.int .i64 a) aq q.number)] ++ A) w' bS q.Enum.Gens ∧ Els (Rp.sl (Rp.int .i64)) (bl [.blk dn (.cells #[.int .i64 q.Enum.Points, .bool q.Enum.Monoid, .slice aG aF aH, .slice av ar aw, .slice ao am ap, .slice aJ aI aK, .slice ay ax az, .slice aB aA aC, .int .i64 q.Enum.Done, .map (some aq), .slice bU bT bV, .slice bx bw bz, .slice bB bA bC] 156 (0, 0)), .row 31 1 aG aF aH bS, .row 31 1 av ar aw bF, t1 Fl.i 3 ao am ap q.Enum.Prefix, t1 Fl.i 3 aJ aI aK q.Enum.Last, .row 31 1 ay ax az bG, t1 (id Fl.fl : Fl rpRule) 185 aB aA aC q.Enum.Rules, t1 Fl.str 9 bU bT bV q.words, t1 Fl.i 3 bx bw bz q.behind, t1 Fl.i 3 bB bA bC q.single, .any (mapE (fun a : List UInt8 => Value.string (gstr a)) (fun a : Int => Value.int .i64 a) aq q.number)] ++ A) w' bF q.Enum.Elems ∧ Els (Rp.sl (Rp.int .i64)) (bl [.blk dn (.cells #[.int .i64 q.Enum.Points, .bool q.Enum.Monoid, .slice aG aF aH, .slice av ar aw, .slice ao am ap, .slice aJ aI aK, .slice ay ax az, .slice aB aA aC, .int .i64 q.Enum.Done, .map (some aq), .slice bU bT bV, .slice bx bw bz, .slice bB bA bC] 156 (0, 0)), .row 31 1 aG aF aH bS, .row 31 1 av ar aw bF, t1 Fl.i 3 ao am ap q.Enum.Prefix, t1 Fl.i 3 aJ aI aK q.Enum.Last, .row 31 1 ay ax az bG, t1 (id Fl.fl : Fl rpRule) 185 aB aA aC q.Enum.Rules, t1 Fl.str 9 bU bT bV q.words, t1 Fl.i 3 bx bw bz q.behind, t1 Fl.i 3 bB bA bC q.single, .any (mapE (fun a : List UInt8 => Value.string (gstr a)) (fun a : Int => Value.int .i64 a) aq q.number)] ++ A) w' bG q.Enum.Right ∧ Fr (bl [.blk dn (.cells #[.int .i64 a0.Enum.Points, .bool a0.Enum.Monoid, .slice aQ aP aR, .slice ba a9 bc, .slice aW aV aX, .slice bo bn bu, .slice aM aL aN, .slice bh bg bi, .int .i64 a0.Enum.Done, .map (some aq), .slice cp co cq, .slice ca b9 cb, .slice bO bN bP] 156 (0, 0)), .row 31 1 aQ aP aR b8, .row 31 1 ba a9 bc cw, t1 Fl.i 3 aW aV aX a0.Enum.Prefix, t1 Fl.i 3 bo bn bu a0.Enum.Last, .row 31 1 aM aL aN bY, t1 (id Fl.fl : Fl rpRule) 185 bh bg bi a0.Enum.Rules, t1 Fl.str 9 cp co cq a0.words, t1 Fl.i 3 ca b9 cb a0.behind, t1 Fl.i 3 bO bN bP a0.single, .any (mapE (fun a : List UInt8 => Value.string (gstr a)) (fun a : Int => Value.int .i64 a) aq a0.number)]) w0 (bl [.blk dn (.cells #[.int .i64 q.Enum.Points, .bool q.Enum.Monoid, .slice aG aF aH, .slice av ar aw, .slice ao am ap, .slice aJ aI aK, .slice ay ax az, .slice aB aA aC, .int .i64 q.Enum.Done, .map (some aq), .slice bU bT bV, .slice bx bw bz, .slice bB bA bC] 156 (0, 0)), .row 31 1 aG aF aH bS, .row 31 1 av ar aw bF, t1 Fl.i 3 ao am ap q.Enum.Prefix, t1 Fl.i 3 aJ aI aK q.Enum.Last, .row 31 1 ay ax az bG, t1 (id Fl.fl : Fl rpRule) 185 aB aA aC q.Enum.Rules, t1 Fl.str 9 bU bT bV q.words, t1 Fl.i 3 bx bw bz q.behind, t1 Fl.i 3 bB bA bC q.single, .any (mapE (fun a : List UInt8 => Value.string (gstr a)) (fun a : Int => Value.int .i64 a) aq q.number)]) w' ∧ K r0 q) := by
 refine CallsV.of (l := [.pointer (some ⟨dn, 0, none⟩)]) Try.func133 rfl Try.ntmps133 rfl ?_
 have hB := Fr.refl (bl [.blk dn (.cells #[.int .i64 a0.Enum.Points, .bool a0.Enum.Monoid, .slice aQ aP aR, .slice ba a9 bc, .slice aW aV aX, .slice bo bn bu, .slice aM aL aN, .slice bh bg bi, .int .i64 a0.Enum.Done, .map (some aq), .slice cp co cq, .slice ca b9 cb, .slice bO bN bP] 156 (0, 0)), .row 31 1 aQ aP aR b8, .row 31 1 ba a9 bc cw, t1 Fl.i 3 aW aV aX a0.Enum.Prefix, t1 Fl.i 3 bo bn bu a0.Enum.Last, .row 31 1 aM aL aN bY, t1 (id Fl.fl : Fl rpRule) 185 bh bg bi a0.Enum.Rules, t1 Fl.str 9 cp co cq a0.words, t1 Fl.i 3 ca b9 cb a0.behind, t1 Fl.i 3 bO bN bP a0.single, .any (mapE (fun a : List UInt8 => Value.string (gstr a)) (fun a : Int => Value.int .i64 a) aq a0.number)]) w0
 unfold J0h at H
 refine au ?_
 refine zo (J0O Try.underlying23 rfl (Els.neqW ae hO 1 rfl)) ?_
 refine smk Fl.i H hO fun w1 p4 s hO => ?_
 refine au ?_
 refine zo (J0O Try.underlying23 rfl (Els.neqW ae.u hO 2 rfl)) ?_
 refine au ?_
 refine lw H.2.2 (fun (bj, d_8, d_9, kU, kV, kW, d_27, e8, db) σ w => ∃ n14 p12 c13 mq n18 p16 c17 n22 p20 c21 n26 p24 c25 n30 p28 c29 n34 p32 c33, (fun Z => agrees σ [(0, .pointer (some ⟨dn, 0, none⟩)), (3, .int .i64 a0.Enum.Done), (4, .slice p4 a0.Enum.Gens.length a0.Enum.Gens.length), (27, .slice aQ aP aR), (28, .int .i64 (a0.Enum.Gens.length : Int)), (29, .int .i64 (bj : Int))] ∧ Owns n0 w Z A ∧ Els (Rp.sl (Rp.int .i64)) (bl Z ++ A) w b8 a0.Enum.Gens ∧ Els (Rp.sl (Rp.int .i64)) (bl Z ++ A) w mq d_9 ∧ Els (Rp.sl (Rp.int .i64)) (bl Z ++ A) w bY a0.Enum.Right ∧ Fr (bl [.blk dn (.cells #[.int .i64 a0.Enum.Points, .bool a0.Enum.Monoid, .slice aQ aP aR, .slice ba a9 bc, .slice aW aV aX, .slice bo bn bu, .slice aM aL aN, .slice bh bg bi, .int .i64 a0.Enum.Done, .map (some aq), .slice cp co cq, .slice ca b9 cb, .slice bO bN bP] 156 (0, 0)), .row 31 1 aQ aP aR b8, .row 31 1 ba a9 bc cw, t1 Fl.i 3 aW aV aX a0.Enum.Prefix, t1 Fl.i 3 bo bn bu a0.Enum.Last, .row 31 1 aM aL aN bY, t1 (id Fl.fl : Fl rpRule) 185 bh bg bi a0.Enum.Rules, t1 Fl.str 9 cp co cq a0.words, t1 Fl.i 3 ca b9 cb a0.behind, t1 Fl.i 3 bO bN bP a0.single, .any (mapE (fun a : List UInt8 => Value.string (gstr a)) (fun a : Int => Value.int .i64 a) aq a0.number)]) w0 (bl Z) w) [t1 Fl.i 3 p4 a0.Enum.Gens.length a0.Enum.Gens.length d_8, .blk dn (.cells #[.int .i64 a0.Enum.Points, .bool a0.Enum.Monoid, .slice aQ aP aR, .slice p12 n14 c13, .slice p16 n18 c17, .slice p20 n22 c21, .slice aM aL aN, .slice p24 n26 c25, .int .i64 a0.Enum.Done, .map (some aq), .slice p28 n30 c29, .slice p32 n34 c33, .slice bO bN bP] 156 (0, 0)), .row 31 1 aQ aP aR b8, .row 31 1 p12 n14 c13 mq, t1 Fl.i 3 p16 n18 c17 kU, t1 Fl.i 3 p20 n22 c21 kV, .row 31 1 aM aL aN bY, t1 (id Fl.fl : Fl rpRule) 185 p24 n26 c25 kW, t1 Fl.str 9 p28 n30 c29 d_27, t1 Fl.i 3 p32 n34 c33 e8, t1 Fl.i 3 bO bN bP a0.single, .any (mapE (fun a : List UInt8 => Value.string (gstr a)) (fun a : Int => Value.int .i64 a) aq db)]) ⟨_, _, _, _, _, _, _, _, _, _, _, _, _, _, _, _, _, _, _, agr, hO, ae.u, gE.u, ak.u, fr⟩ ?_
 refine fun X1 => p1 fun bj => p1 fun d_8 => p1 fun d_9 => p1 fun kU => p1 fun kV => p3 fun kW d_27 e8 db => fun H hX1 σ w6 => e4 fun n14 p12 c13 mq => e4 fun n18 p16 c17 n22 => e4 fun p20 c21 n26 p24 => e4 fun c25 n30 p28 c29 => e3 fun n34 p32 c33 => d1 fun hag => d4 fun hO ae dx ak hB => ?_
 dsimp only at H
 refine Go1.keep _ hag ?_
 revert hO; repeat (rename Owns _ _ _ _ => q; clear q)
 intro hO; repeat (rename Sq _ _ _ _ _ _ => q; clear q)
 refine au ?_
 refine scm H (fun h36 H => ?_) fun h36 H => ?_
 ·refine au ?_
  obtain ⟨h37, H⟩ := H
  obtain ⟨h38, H⟩ := H
  refine zo (J02 Try.underlying23 ti31 rfl rfl h37 (ltn (Els.neqW ae hO 2 rfl) h38) (Els.psomeW ae hO 2 rfl h37 h38)) ?_
  have zz := oldSl 2 hO rfl ae h37 h38
  obtain ⟨p39, c40, mr, xJ⟩ := zz
  refine zs (xJ Try.underlying31 rfl rfl) ?_
  refine au ?_
  obtain ⟨h43, H⟩ := H
  obtain ⟨h44, H⟩ := H
  refine zo (J02 Try.underlying23 ti31 rfl rfl h43 (ltn (Els.neqW dx hO 3 rfl) h44) (Els.psomeW dx hO 3 rfl h43 h44)) ?_
  have zz := oldSl 3 hO rfl dx h43 h44
  obtain ⟨p45, c46, xK, xL⟩ := zz
  refine zs (xL Try.underlying31 rfl rfl) ?_
  refine au ?_
  refine zcr (J00 body158 rfl (J3J hO.lt xK mr H)) fun _ w50 => e3 fun r49 fh fk => sc0 hO fun s hO => d1 fun gO H => ?_
  refine au ?_
  refine drw 0 [(0, .pure), (1, .pure), (2, .pure), (3, .stable), (4, .pure), (5, .loud), (6, .stable), (7, .pure), (8, .pure), (9, .pure), (10, .pure), (11, .pure)] hO fun w51 s hO => ?_
  refine au ?_
  refine zcq rfl (J00 body157 rfl (J06 hO.lt gO.u H)) fun _ w53 => e1 fun r52 => sq0 hO fun s hO => d1 fun zR H => ?_
  by_cases h54 : mhas db r52 = true
  ·refine GoQ.stable rfl (olookT (a := r52) (MK.str Try.underlying9) 11 hO rfl Try.underlying154 rfl rfl h54) rfl rfl ?_
   refine au ?_
   refine sxl1 8 hO (ifp h54 H).1 (ifp h54 H).2.1 ?_
   have hle55 := t1le 8 hO (ifp h54 H).1 (ifp h54 H).2.1
   refine au ?_
   have h56 := (ifp h54 H).1
   have h57 := (ifp h54 H).2.1
   replace H := (ifp h54 H).2.2
   obtain ⟨h58, H⟩ := H
   refine zo (J0e rfl rfl (wrap_i64 h58)) ?_
   refine zo (J3R Try.underlying3 Try.underlying21 rfl rfl) ?_
   obtain ⟨h59, H⟩ := H
   obtain ⟨h60, H⟩ := H
   refine zo (J3B Try.underlying21 Try.underlying9 rfl h59 h60) ?_
   obtain ⟨h61, H⟩ := H
   refine zo (J5R rfl rfl h61) ?_
   refine au ?_
   refine sxl1 8 hO H.1 H.2.1 ?_
   have hle62 := t1le 8 hO H.1 H.2.1
   have h63 := H.1
   have h64 := H.2.1
   refine scm H.2.2 (fun h65 H => ?_) fun h65 H => ?_
   ·refine au ?_
    refine six1 0 hO H.1 H.2.1 ?_
    refine sst (u := (mgt db r52)) 0 hO H.1 H.2.1 fun w66 s hO => ?_
    refine au ?_
    refine sinc (natbd h36 ae.bd) ?_
    refine au ?_
    exact hX1 _ H.2.2 _ _ ⟨_, _, _, _, _, _, _, _, _, _, _, _, _, _, _, _, _, _, _, agr, hO, ae.u, dx.u, ak.u, fr⟩
   refine au ?_
   refine six1 9 hO H.1 H.2.1 ?_
   refine sld1 9 hO H.1 H.2.1 ?_
   refine au ?_
   refine GoR.inl (vs := [.pointer (some ⟨dn, 0, none⟩), .int .i64 (ix e8 a0.Enum.Done), .int .i64 (bj : Int)]) (caps := []) rfl rfl body160 Try.func160 rfl Try.ntmps160 rfl rfl rfl ?_
   intro RhR67 hR67
   refine au ?_
   refine GoR.inl (vs := [.pointer (some ⟨dn, 0, none⟩), .int .i64 (ix e8 a0.Enum.Done), .int .i64 (bj : Int)]) (caps := []) rfl rfl body159 Try.func159 rfl Try.ntmps159 rfl rfl rfl ?_
   intro RhR68 hR68
   refine au ?_
   refine scm H.2.2 (fun h69 H => ?_) fun h69 H => ?_
   ·refine au ?_
    refine sxl1 10 hO H.1 H.2.1 ?_
    refine au ?_
    refine Go1.ret1V Try.func159 rfl (show _ = .int .i64 (ix a0.single (bj : Int)) from rfl) ?_
    refine hR68 _ _ ?_
    refine au ?_
    refine sxl1 4 hO H.2.2.1 H.2.2.2.1 ?_
    refine au ?_
    have h70 := H.2.2.1
    have h71 := H.2.2.2.1
    refine scm H.2.2.2.2 (fun h72 H => ?_) fun h72 H => ?_
    ·refine au ?_
     refine six1 5 hO H.1 H.2.1 ?_
     refine sld1 5 hO H.1 H.2.1 ?_
     refine au ?_
     have h73 := H.1
     have h74 := H.2.1
     refine scm H.2.2 (fun h75 H => ?_) fun h75 H => ?_
     ·refine au ?_
      refine Go1.ret1V Try.func160 rfl (show _ = .bool true from rfl) ?_
      refine hR67 _ _ ?_
      refine au ?_
      refine drw 5 [(0, .pure), (1, .pure), (2, .pure), (3, .pure), (4, .pure), (5, .stable), (6, .pure), (7, .pure), (8, .pure), (9, .pure), (10, .stable), (11, .pure), (12, .pure), (13, .stable), (14, .pure), (15, .loud), (16, .last), (17, .pure), (18, .pure), (19, .pure), (20, .last)] hO fun w76 s hO => ?_
      refine au ?_
      refine sxl1 8 hO H.1 H.2.1 ?_
      have hle77 := t1le 8 hO H.1 H.2.1
      refine GoQ.pure rfl (J0c Try.underlying185 ti185 (pl := [(0, 1), (1, 1)]) (vs := [(0, .string (gstr ((ix d_27 a0.Enum.Done) ++ (chr (IntKind.i32.wrap ((97 : Int) + (bj : Int))))))), (1, .string (gstr (ix d_27 (mgt db r52))))]) (cs := #[.string (gstr ((ix d_27 a0.Enum.Done) ++ (chr (IntKind.i32.wrap ((97 : Int) + (bj : Int)))))), .string (gstr (ix d_27 (mgt db r52)))]) (by kernel_rfl) rfl (by kernel_rfl)) rfl rfl ?_
      refine sapF (⟨((ix d_27 a0.Enum.Done) ++ (chr (IntKind.i32.wrap ((97 : Int) + (bj : Int))))), ix d_27 (mgt db r52)⟩ : Rule) 7 hO H.2.2 (fun _ w78 p79 c80 s hO => ?_) (hok := by exact ⟨(lenApp h61), hle77⟩)
      refine au ?_
      refine sbs 1 hO fun w81 s hO => ?_
      refine au ?_
      refine six1 0 hO H.2.2.2.1 H.2.2.2.2.1 ?_
      refine sst (u := (mgt db r52)) 0 hO H.2.2.2.1 H.2.2.2.2.1 fun w82 s hO => ?_
      refine au ?_
      refine sinc (natbd h36 ae.bd) ?_
      refine au ?_
      exact hX1 _ H.2.2.2.2.2 _ _ ⟨_, _, _, _, _, _, _, _, _, _, _, _, _, _, _, _, _, _, _, agr, hO, ae.u, dx.u, ak.u, fr⟩
     refine au ?_
     refine Go1.ret1V Try.func160 rfl (show _ = .bool false from rfl) ?_
     refine hR67 _ _ ?_
     refine au ?_
     refine six1 0 hO H.1 H.2.1 ?_
     refine sst (u := (mgt db r52)) 0 hO H.1 H.2.1 fun w83 s hO => ?_
     refine au ?_
     refine sinc (natbd h36 ae.bd) ?_
     refine au ?_
     exact hX1 _ H.2.2 _ _ ⟨_, _, _, _, _, _, _, _, _, _, _, _, _, _, _, _, _, _, _, agr, hO, ae.u, dx.u, ak.u, fr⟩
    refine au ?_
    refine Go1.ret1V Try.func160 rfl (show _ = .bool false from rfl) ?_
    refine hR67 _ _ ?_
    refine au ?_
    refine six1 0 hO H.1 H.2.1 ?_
    refine sst (u := (mgt db r52)) 0 hO H.1 H.2.1 fun w84 s hO => ?_
    refine au ?_
    refine sinc (natbd h36 ae.bd) ?_
    refine au ?_
    exact hX1 _ H.2.2 _ _ ⟨_, _, _, _, _, _, _, _, _, _, _, _, _, _, _, _, _, _, _, agr, hO, ae.u, dx.u, ak.u, fr⟩
   refine au ?_
   obtain ⟨h85, H⟩ := H
   obtain ⟨h86, H⟩ := H
   refine zo (J02 Try.underlying23 ti31 rfl rfl h85 (ltn (Els.neqW ak.u hO 6 rfl) h86) (Els.psomeW ak.u hO 6 rfl h85 h86)) ?_
   have zz := oldSl 6 hO rfl ak.u h85 h86
   obtain ⟨p87, c88, lY, xM⟩ := zz
   refine zs (xM Try.underlying31 rfl rfl) ?_
   refine au ?_
   refine sxl hO lY H.1 H.2.1 ?_
   refine au ?_
   refine Go1.ret1V Try.func159 rfl (show _ = .int .i64 (ix (ix a0.Enum.Right (ix e8 a0.Enum.Done)) (bj : Int)) from rfl) ?_
   refine hR68 _ _ ?_
   refine au ?_
   refine sxl1 4 hO H.2.2.1 H.2.2.2.1 ?_
   refine au ?_
   have h91 := H.2.2.1
   have h92 := H.2.2.2.1
   refine scm H.2.2.2.2 (fun h93 H => ?_) fun h93 H => ?_
   ·refine au ?_
    refine six1 5 hO H.1 H.2.1 ?_
    refine sld1 5 hO H.1 H.2.1 ?_
    refine au ?_
    have h94 := H.1
    have h95 := H.2.1
    refine scm H.2.2 (fun h96 H => ?_) fun h96 H => ?_
    ·refine au ?_
     refine Go1.ret1V Try.func160 rfl (show _ = .bool true from rfl) ?_
     refine hR67 _ _ ?_
     refine au ?_
     refine drw 5 [(0, .pure), (1, .pure), (2, .pure), (3, .pure), (4, .pure), (5, .stable), (6, .pure), (7, .pure), (8, .pure), (9, .pure), (10, .stable), (11, .pure), (12, .pure), (13, .stable), (14, .pure), (15, .loud), (16, .last), (17, .pure), (18, .pure), (19, .pure), (20, .last)] hO fun w97 s hO => ?_
     refine au ?_
     refine sxl1 8 hO H.1 H.2.1 ?_
     have hle98 := t1le 8 hO H.1 H.2.1
     refine GoQ.pure rfl (J0c Try.underlying185 ti185 (pl := [(0, 1), (1, 1)]) (vs := [(0, .string (gstr ((ix d_27 a0.Enum.Done) ++ (chr (IntKind.i32.wrap ((97 : Int) + (bj : Int))))))), (1, .string (gstr (ix d_27 (mgt db r52))))]) (cs := #[.string (gstr ((ix d_27 a0.Enum.Done) ++ (chr (IntKind.i32.wrap ((97 : Int) + (bj : Int)))))), .string (gstr (ix d_27 (mgt db r52)))]) (by kernel_rfl) rfl (by kernel_rfl)) rfl rfl ?_
     refine sapF (⟨((ix d_27 a0.Enum.Done) ++ (chr (IntKind.i32.wrap ((97 : Int) + (bj : Int))))), ix d_27 (mgt db r52)⟩ : Rule) 7 hO H.2.2 (fun _ w99 Cv Cw s hO => ?_) (hok := by exact ⟨(lenApp h61), hle98⟩)
     refine au ?_
     refine sbs 1 hO fun Cx s hO => ?_
     refine au ?_
     refine six1 0 hO H.2.2.2.1 H.2.2.2.2.1 ?_
     refine sst (u := (mgt db r52)) 0 hO H.2.2.2.1 H.2.2.2.2.1 fun pt s hO => ?_
     refine au ?_
     refine sinc (natbd h36 ae.bd) ?_
     refine au ?_
     exact hX1 _ H.2.2.2.2.2 _ _ ⟨_, _, _, _, _, _, _, _, _, _, _, _, _, _, _, _, _, _, _, agr, hO, ae.u, dx.u, ak.u, fr⟩
    refine au ?_
    refine Go1.ret1V Try.func160 rfl (show _ = .bool false from rfl) ?_
    refine hR67 _ _ ?_
    refine au ?_
    refine six1 0 hO H.1 H.2.1 ?_
    refine sst (u := (mgt db r52)) 0 hO H.1 H.2.1 fun mb s hO => ?_
    refine au ?_
    refine sinc (natbd h36 ae.bd) ?_
    refine au ?_
    exact hX1 _ H.2.2 _ _ ⟨_, _, _, _, _, _, _, _, _, _, _, _, _, _, _, _, _, _, _, agr, hO, ae.u, dx.u, ak.u, fr⟩
   refine au ?_
   refine Go1.ret1V Try.func160 rfl (show _ = .bool false from rfl) ?_
   refine hR67 _ _ ?_
   refine au ?_
   refine six1 0 hO H.1 H.2.1 ?_
   refine sst (u := (mgt db r52)) 0 hO H.1 H.2.1 fun wv s hO => ?_
   refine au ?_
   refine sinc (natbd h36 ae.bd) ?_
   refine au ?_
   exact hX1 _ H.2.2 _ _ ⟨_, _, _, _, _, _, _, _, _, _, _, _, _, _, _, _, _, _, _, agr, hO, ae.u, dx.u, ak.u, fr⟩
  refine GoQ.stable rfl (olookF (a := r52) (MK.str Try.underlying9) 11 hO rfl Try.underlying154 ti3 rfl rfl h54) rfl rfl ?_
  refine au ?_
  refine sxl1 8 hO (ifn h54 H).1 (ifn h54 H).2.1 ?_
  have hle106 := t1le 8 hO (ifn h54 H).1 (ifn h54 H).2.1
  refine au ?_
  have gy := (ifn h54 H).1
  have oY := (ifn h54 H).2.1
  replace H := (ifn h54 H).2.2
  obtain ⟨xN, H⟩ := H
  refine zo (J0e rfl rfl (wrap_i64 xN)) ?_
  refine zo (J3R Try.underlying3 Try.underlying21 rfl rfl) ?_
  obtain ⟨xO, H⟩ := H
  obtain ⟨jj, H⟩ := H
  refine zo (J3B Try.underlying21 Try.underlying9 rfl xO jj) ?_
  obtain ⟨gz, H⟩ := H
  refine zo (J5R rfl rfl gz) ?_
  refine au ?_
  refine zo (J0O Try.underlying23 rfl (Els.neqW dx.u hO 3 rfl)) ?_
  refine scm H (fun ft H => ?_) fun ft H => ?_
  ·refine au ?_
   refine sdr [0] hO fun s hO => ?_
   refine Go1.ret1 Try.func133 rfl ⟨_, (⟨(⟨a0.Enum.Points, a0.Enum.Monoid, a0.Enum.Gens, d_9, kU, kV, a0.Enum.Right, kW, a0.Enum.Done⟩ : Enum), db, d_27, e8, a0.single⟩ : run), _, _, _, _, _, _, _, _, _, _, _, _, _, _, _, _, _, _, _, _, _, _, _, _, _, _, _, _, _, _, ?_, hO, ae.u, dx.u, ak.u, fr, H⟩
   exact rfl
  refine au ?_
  refine sxl1 9 hO H.1 H.2.1 ?_
  refine au ?_
  refine GoR.inl (vs := [.pointer (some ⟨dn, 0, none⟩), .int .i64 (ix e8 a0.Enum.Done), .int .i64 (bj : Int)]) (caps := []) rfl rfl body159 Try.func159 rfl Try.ntmps159 rfl rfl rfl ?_
  intro RhR114 hR114
  refine au ?_
  refine scm H.2.2 (fun xP H => ?_) fun xP H => ?_
  ·refine au ?_
   refine sxl1 10 hO H.1 H.2.1 ?_
   refine au ?_
   refine Go1.ret1V Try.func159 rfl (show _ = .int .i64 (ix a0.single (bj : Int)) from rfl) ?_
   refine hR114 _ _ ?_
   refine GoR.inl (vs := [.pointer (some ⟨dn, 0, none⟩), .slice fh r49.length fk, .int .i64 a0.Enum.Done, .int .i64 (bj : Int), .string (gstr ((ix d_27 a0.Enum.Done) ++ (chr (IntKind.i32.wrap ((97 : Int) + (bj : Int)))))), .int .i64 (ix a0.single (bj : Int))]) (caps := []) rfl rfl body155 Try.func155 rfl Try.ntmps155 rfl rfl rfl ?_
   intro RhR116 hR116
   refine au ?_
   refine zo (J0O Try.underlying23 rfl (Els.neqW dx.u hO 3 rfl)) ?_
   refine au ?_
   refine drw 1 [(0, .pure), (1, .pure), (2, .pure), (3, .stable), (4, .pure), (6, .pure), (5, .loud), (7, .last)] hO fun xh s hO => ?_
   refine au ?_
   refine zcq rfl (J00 body157 rfl (J06 hO.lt gO.u H.2.2)) fun _ lU => e1 fun xQ => sq0 hO fun s hO => d1 fun zP H => ?_
   have zz := omapUpd (MK.str Try.underlying9) 11 hO rfl Try.underlying154 xQ (d_9.length : Int)
   obtain ⟨Cy, fH, qk⟩ := zz
   refine GoQ.last rfl (qk (by exact rfl) (by exact rfl) (by exact rfl)) rfl rfl ?_
   refine nst fH fun s hO => ?_
   refine au ?_
   have zz := J1Y (r := Rp.sl (Rp.int .i64)) (n := 1) (parts := [(0, .slice fh r49.length fk)]) (vs := [.slice fh r49.length fk]) (xs := [r49]) rfl Try.underlying23 ti31 hO (by decide) (by kernel_rfl) (Els.cons rfl ⟨fh, fk, rfl, gO.u⟩ (Els.nil _ _ _) (by simp [mx])) rfl
   obtain ⟨Cz, CA, ql, ug, z7, qm⟩ := zz
   refine zg (qm rfl) ?_
   refine nst ql fun s hO => ?_
   refine sfzR 0 hO ug fun s hO uh ui => ?_
   obtain ⟨qn, H⟩ := H
   have zz := oapp Try.underlying23 ti31 rfl 3 hO rfl dx.u uh ui qn (by decide)
   obtain ⟨CB, CC, CD, z8, qo, ob, qr⟩ := zz
   dsimp only [sS, sZ] at ob
   refine zg (qr (by exact rfl) (by exact rfl)) ?_
   refine nst qo fun s hO => ?_
   refine au ?_
   refine sbs 1 hO fun xR s hO => ?_
   refine au ?_
   refine sap1 a0.Enum.Done 4 hO H fun _ xS CE CF s hO => ?_
   refine au ?_
   refine sbs 1 hO fun pI s hO => ?_
   refine au ?_
   refine sap1 ((bj : Int)) 5 hO H.2 fun _ CG CH CJ s hO => ?_
   refine au ?_
   refine sbs 1 hO fun qt s hO => ?_
   refine au ?_
   refine sap1 (((ix d_27 a0.Enum.Done) ++ (chr (IntKind.i32.wrap ((97 : Int) + (bj : Int)))))) 8 hO H.2.2 (fun _ CK CM CO s hO => ?_) (hR := by exact fun _ _ => ⟨rfl, (lenApp gz)⟩)
   refine au ?_
   refine sbs 1 hO fun o6 s hO => ?_
   refine au ?_
   refine sap1 ((ix a0.single (bj : Int))) 9 hO H.2.2.2 fun _ CP CQ CR s hO => ?_
   refine au ?_
   refine sbs 1 hO fun xT s hO => ?_
   refine au ?_
   refine Go1.ret1V Try.func155 rfl (show _ = .int .i64 (d_9.length : Int) from rfl) ?_
   refine hR116 _ _ ?_
   refine au ?_
   refine six1 0 hO H.2.2.2.2.1 H.2.2.2.2.2.1 ?_
   refine sst (u := (d_9.length : Int)) 0 hO H.2.2.2.2.1 H.2.2.2.2.2.1 fun xU s hO => ?_
   refine au ?_
   refine sinc (natbd h36 ae.bd) ?_
   refine au ?_
   exact hX1 _ H.2.2.2.2.2.2 _ _ ⟨_, _, _, _, _, _, _, _, _, _, _, _, _, _, _, _, _, _, _, agr, hO, ae.u, ob.u, ak.u, fr⟩
  refine au ?_
  obtain ⟨kX, H⟩ := H
  obtain ⟨kY, H⟩ := H
  refine zo (J02 Try.underlying23 ti31 rfl rfl kX (ltn (Els.neqW ak.u hO 6 rfl) kY) (Els.psomeW ak.u hO 6 rfl kX kY)) ?_
  have zz := oldSl 6 hO rfl ak.u kX kY
  obtain ⟨iB, CT, uj, uk⟩ := zz
  refine zs (uk Try.underlying31 rfl rfl) ?_
  refine au ?_
  refine sxl hO uj H.1 H.2.1 ?_
  refine au ?_
  refine Go1.ret1V Try.func159 rfl (show _ = .int .i64 (ix (ix a0.Enum.Right (ix e8 a0.Enum.Done)) (bj : Int)) from rfl) ?_
  refine hR114 _ _ ?_
  refine GoR.inl (vs := [.pointer (some ⟨dn, 0, none⟩), .slice fh r49.length fk, .int .i64 a0.Enum.Done, .int .i64 (bj : Int), .string (gstr ((ix d_27 a0.Enum.Done) ++ (chr (IntKind.i32.wrap ((97 : Int) + (bj : Int)))))), .int .i64 (ix (ix a0.Enum.Right (ix e8 a0.Enum.Done)) (bj : Int))]) (caps := []) rfl rfl body155 Try.func155 rfl Try.ntmps155 rfl rfl rfl ?_
  intro RhR165 hR165
  refine au ?_
  refine zo (J0O Try.underlying23 rfl (Els.neqW dx.u hO 3 rfl)) ?_
  refine au ?_
  refine drw 1 [(0, .pure), (1, .pure), (2, .pure), (3, .stable), (4, .pure), (6, .pure), (5, .loud), (7, .last)] hO fun CU s hO => ?_
  refine au ?_
  refine zcq rfl (J00 body157 rfl (J06 hO.lt gO.u H.2.2)) fun _ pQ => e1 fun r167 => sq0 hO fun s hO => d1 fun zQ H => ?_
  have zz := omapUpd (MK.str Try.underlying9) 11 hO rfl Try.underlying154 r167 (d_9.length : Int)
  obtain ⟨CV, qu, qv⟩ := zz
  refine GoQ.last rfl (qv (by exact rfl) (by exact rfl) (by exact rfl)) rfl rfl ?_
  refine nst qu fun s hO => ?_
  refine au ?_
  have zz := J1Y (r := Rp.sl (Rp.int .i64)) (n := 1) (parts := [(0, .slice fh r49.length fk)]) (vs := [.slice fh r49.length fk]) (xs := [r49]) rfl Try.underlying23 ti31 hO (by decide) (by kernel_rfl) (Els.cons rfl ⟨fh, fk, rfl, gO.u⟩ (Els.nil _ _ _) (by simp [mx])) rfl
  obtain ⟨mh, xl, qw, ul, z9, qz⟩ := zz
  refine zg (qz rfl) ?_
  refine nst qw fun s hO => ?_
  refine sfzR 0 hO ul fun s hO gF kr => ?_
  obtain ⟨xV, H⟩ := H
  have zz := oapp Try.underlying23 ti31 rfl 3 hO rfl dx.u gF kr xV (by decide)
  obtain ⟨CW, CX, C0, Aa, qA, oc, qB⟩ := zz
  dsimp only [sS, sZ] at oc
  refine zg (qB (by exact rfl) (by exact rfl)) ?_
  refine nst qA fun s hO => ?_
  refine au ?_
  refine sbs 1 hO fun xq s hO => ?_
  refine au ?_
  refine sap1 a0.Enum.Done 4 hO H fun _ wH C1 C2 s hO => ?_
  refine au ?_
  refine sbs 1 hO fun C3 s hO => ?_
  refine au ?_
  refine sap1 ((bj : Int)) 5 hO H.2 fun _ wI C4 C5 s hO => ?_
  refine au ?_
  refine sbs 1 hO fun C6 s hO => ?_
  refine au ?_
  refine sap1 (((ix d_27 a0.Enum.Done) ++ (chr (IntKind.i32.wrap ((97 : Int) + (bj : Int)))))) 8 hO H.2.2 (fun _ wK C7 C8 s hO => ?_) (hR := by exact fun _ _ => ⟨rfl, (lenApp gz)⟩)
  refine au ?_
  refine sbs 1 hO fun xW s hO => ?_
  refine au ?_
  refine sap1 ((ix (ix a0.Enum.Right (ix e8 a0.Enum.Done)) (bj : Int))) 9 hO H.2.2.2 fun _ wL C9 Db s hO => ?_
  refine au ?_
  refine sbs 1 hO fun xX s hO => ?_
  refine au ?_
  refine Go1.ret1V Try.func155 rfl (show _ = .int .i64 (d_9.length : Int) from rfl) ?_
  refine hR165 _ _ ?_
  refine au ?_
  refine six1 0 hO H.2.2.2.2.1 H.2.2.2.2.2.1 ?_
  refine sst (u := (d_9.length : Int)) 0 hO H.2.2.2.2.1 H.2.2.2.2.2.1 fun Dc s hO => ?_
  refine au ?_
  refine sinc (natbd h36 ae.bd) ?_
  refine au ?_
  exact hX1 _ H.2.2.2.2.2.2 _ _ ⟨_, _, _, _, _, _, _, _, _, _, _, _, _, _, _, _, _, _, _, agr, hO, ae.u, oc.u, ak.u, fr⟩
 refine au ?_
 refine sfz 0 hO fun s hO um uo => ?_
 have zz := J1Y (r := Rp.sl (Rp.int .i64)) (n := 1) (parts := [(0, .slice p4 a0.Enum.Gens.length a0.Enum.Gens.length)]) (vs := [.slice p4 a0.Enum.Gens.length a0.Enum.Gens.length]) (xs := [d_8]) rfl Try.underlying23 ti31 hO (by decide) (by kernel_rfl) (Els.cons rfl ⟨p4, a0.Enum.Gens.length, congrArg some (congrArg (fun nn => Value.slice p4 nn a0.Enum.Gens.length) uo), um⟩ (Els.nil _ _ _) (by simp [mx])) rfl
 obtain ⟨Dd, De, qC, uq, Ab, ju⟩ := zz
 refine zg (ju rfl) ?_
 refine nst qC fun s hO => ?_
 refine sfzR 0 hO uq fun s hO ur ut => ?_
 obtain ⟨qD, H⟩ := H
 have zz := oapp Try.underlying23 ti31 rfl 5 hO rfl ak.u ur ut qD (by decide)
 obtain ⟨Df, Dg, Dh, Ac, qE, od, qF⟩ := zz
 dsimp only [sS, sZ] at od
 refine zg (qF (by exact rfl) (by exact rfl)) ?_
 refine nst qE fun s hO => ?_
 refine au ?_
 refine sbs 0 hO fun xY s hO => ?_
 refine au ?_
 obtain ⟨x4, H⟩ := H
 refine zo (J0e rfl rfl (wrap_i64 x4)) ?_
 refine au ?_
 refine sbs 0 hO fun Di s hO => ?_
 refine au ?_
 refine Go1.ret1 Try.func133 rfl ⟨_, (⟨(⟨a0.Enum.Points, a0.Enum.Monoid, a0.Enum.Gens, d_9, kU, kV, a0.Enum.Right ++ ([d_8]), kW, (a0.Enum.Done + (1 : Int))⟩ : Enum), db, d_27, e8, a0.single⟩ : run), _, _, _, _, _, _, _, _, _, _, _, _, _, _, _, _, _, _, _, _, _, _, _, _, _, _, _, _, _, _, ?_, hO, ae.u, dx.u, od.u, fr, H⟩
 exact rfl
theorem body132 : Body Try.prog 132 := ⟨Try.f132, Try.func132, rfl, by kernel_rfl⟩
theorem body101 : Body Try.prog 101 := ⟨Try.f101, Try.func101, rfl, by kernel_rfl⟩
theorem J3b {A : List Nat} {w0 : World} {dG : Option Addr} {dH : Nat} {gens : List (List Int)} {monoid : Bool} (hA : ∀ b ∈ A, b < w0.heap.size) (fv : ISl (Rp.sl (Rp.int .i64)) A w0 dG dH gens) {K : Enum → Int → Prop} (H : J0K gens monoid K) :
    CallsV Try.prog 101 #[.slice dG gens.length dH, .bool monoid] w0 (fun v w' => ∃ (r0 : Enum), ∃ (r1 : Int), ∃ (iM : Option Addr), ∃ (iN : Nat), ∃ (gP : Option Addr), ∃ (gQ : Nat), ∃ (f6 : Option Addr), ∃ (f7 : Nat), ∃ (iO : Option Addr), ∃ (iP : Nat), ∃ (gR : Option Addr), ∃ (gS : Nat), ∃ (gT : Option Addr), ∃ (gU : Nat), v = .tuple #[.agg #[.int .i64 r0.Points, .bool r0.Monoid, .slice iM r0.Gens.length iN, .slice gP r0.Elems.length gQ, .slice f6 r0.Prefix.length f7, .slice iO r0.Last.length iP, .slice gR r0.Right.length gS, .slice gT r0.Rules.length gU, .int .i64 r0.Done], .int .i64 r1] ∧ Same w0 w' ∧ ISl (Rp.sl (Rp.int .i64)) A w' iM iN r0.Gens ∧ ISl (Rp.sl (Rp.int .i64)) A w' gP gQ r0.Elems ∧ ISl (Rp.int .i64) A w' f6 f7 r0.Prefix ∧ ISl (Rp.int .i64) A w' iO iP r0.Last ∧ ISl (Rp.sl (Rp.int .i64)) A w' gR gS r0.Right ∧ ISl (rpRule) A w' gT gU r0.Rules ∧ K r0 r1) := by
 refine CallsV.of (l := [.slice dG gens.length dH, .bool monoid]) Try.func101 rfl Try.ntmps101 rfl ?_
 have hO := Owns.start hA
 have hB := Fr.refl (bl []) w0
 unfold J0K at H
 refine au ?_
 refine sal hO fun w1 B2 s hO => ?_
 refine au ?_
 refine zcr (J00 body131 rfl (J34 hO.lt fv.u H)) fun _ w6 hc => Or.elim hc ?_ ?_
 ·refine e1 fun r5 => d2 fun hv hs H => ?_
  subst hv; clear hc
  replace H := oElimN H
  refine sm hO hs fun s hO => ?_
  refine au ?_
  refine scm H (fun h7 H => ?_) fun h7 H => ?_
  ·refine au ?_
   refine lw H (fun _ σ w => (fun Z => agrees σ [(4, .pointer (some ⟨B2, 0, none⟩)), (6, .pointer none)] ∧ Owns w0.heap.size w Z A ∧ Fr (bl []) w0 (bl Z) w) [.blk B2 (.cells #[.int .i64 (0 : Int), .bool false, .slice none 0 0, .slice none 0 0, .slice none 0 0, .slice none 0 0, .slice none 0 0, .slice none 0 0, .int .i64 (0 : Int)] 123 (0, 0))]) ⟨agr, hO, fr⟩ ?_
   refine fun X1 => fun _ => fun H hX1 σ w8 => d2 fun hag hO hB => ?_
   refine Go1.keep _ hag ?_
   revert hO; repeat (rename Owns _ _ _ _ => q; clear q)
   intro hO; repeat (rename Sq _ _ _ _ _ _ => q; clear q)
   refine au ?_
   refine GoR.inl (vs := [.pointer none]) (caps := []) rfl rfl body132 Try.func132 rfl Try.ntmps132 rfl rfl rfl ?_
   intro RhR9 hR9
   refine au ?_
   refine drw 0 [(0, .pure), (1, .pure), (2, .pure), (3, .pure), (4, .stable), (5, .pure), (6, .pure), (7, .pure), (8, .pure), (9, .stable), (10, .pure), (11, .pure), (12, .pure)] hO fun w10 s hO => ?_
   refine au ?_
   exact (H).elim
  refine au ?_
  refine zo (J0c Try.underlying123 ti123 (pl := [(0, 1), (1, 1), (2, 1), (3, 1), (4, 1), (5, 1), (6, 1), (7, 1), (8, 1)]) (vs := []) (cs := #[.int .i64 (0 : Int), .bool false, .slice none 0 0, .slice none 0 0, .slice none 0 0, .slice none 0 0, .slice none 0 0, .slice none 0 0, .int .i64 (0 : Int)]) (by kernel_rfl) rfl (by kernel_rfl)) ?_
  refine au ?_
  refine sba 0 hO fun w11 s hO => ?_
  refine au ?_
  refine Go1.retC2 Try.func101 rfl rfl (J01 (vs := [.int .i64 (0 : Int), .bool false, .slice none 0 0, .slice none 0 0, .slice none 0 0, .slice none 0 0, .slice none 0 0, .slice none 0 0, .int .i64 (0 : Int)]) 0 hO rfl rfl Try.underlying123 rfl ti123) ⟨((⟨(0 : Int), false, ([] : List (List Int)), ([] : List (List Int)), ([] : List Int), ([] : List Int), ([] : List (List Int)), ([] : List Rule), (0 : Int)⟩ : Enum)), _, _, _, _, _, _, _, _, _, _, _, _, _, ?_, frs, (ISl.null _ _ _), (ISl.null _ _ _), (ISl.null _ _ _), (ISl.null _ _ _), (ISl.null _ _ _), (ISl.null _ _ _), H⟩
  exact rfl
 refine e4 fun r4 r5 ms oS => e4 fun oT oU oe og => e4 fun oh ol mt mv => e4 fun mw my oV oW => e4 fun oX om oo oq => e4 fun mz ot ou ov => e4 fun f8 uu uv uw => e4 fun sx sy sA sB => e2 fun sC sD => d1 fun hv => d1 fun hs => d4 fun hN dY dN dO H => ?_
 subst hv; clear hc
 refine smr hO hs hN fun s hO c => ?_
 replace H := oElimS H
 replace dY := dY.ch c
 replace dN := dN.ch c
 replace dO := dO.ch c
 refine au ?_
 refine scm H (fun h23 H => ?_) fun h23 H => ?_
 ·refine au ?_
  refine lw H (fun (fV, fW, k2_27, d_28, d_34, d_40, d_44, d_48, k8, d_58, mA, mB, k9) σ w => ∃ n33 p31 c32 mC n39 p37 c38 mD n43 p41 c42 n47 p45 c46 n53 p51 c52 mE n57 p55 c56 n61 p59 c60 n65 p63 c64 n69 p67 c68, (fun Z => agrees σ [(4, .pointer (some ⟨B2, 0, none⟩)), (6, .pointer (some ⟨ms, 0, none⟩))] ∧ Owns w0.heap.size w Z A ∧ Els (Rp.sl (Rp.int .i64)) (bl Z ++ A) w mC d_28 ∧ Els (Rp.sl (Rp.int .i64)) (bl Z ++ A) w mD d_34 ∧ Els (Rp.sl (Rp.int .i64)) (bl Z ++ A) w mE d_48 ∧ Fr (bl []) w0 (bl Z) w) [.blk ms (.cells #[.int .i64 fV, .bool fW, .slice p31 n33 c32, .slice p37 n39 c38, .slice p41 n43 c42, .slice p45 n47 c46, .slice p51 n53 c52, .slice p55 n57 c56, .int .i64 k2_27, .map (some f8), .slice p59 n61 c60, .slice p63 n65 c64, .slice p67 n69 c68] 156 (0, 0)), .row 31 1 p31 n33 c32 mC, .row 31 1 p37 n39 c38 mD, t1 Fl.i 3 p41 n43 c42 d_40, t1 Fl.i 3 p45 n47 c46 d_44, .row 31 1 p51 n53 c52 mE, t1 (id Fl.fl : Fl rpRule) 185 p55 n57 c56 k8, t1 Fl.str 9 p59 n61 c60 d_58, t1 Fl.i 3 p63 n65 c64 mA, t1 Fl.i 3 p67 n69 c68 mB, .any (mapE (fun a : List UInt8 => Value.string (gstr a)) (fun a : Int => Value.int .i64 a) f8 k9), .blk B2 (.cells #[.int .i64 (0 : Int), .bool false, .slice none 0 0, .slice none 0 0, .slice none 0 0, .slice none 0 0, .slice none 0 0, .slice none 0 0, .int .i64 (0 : Int)] 123 (0, 0))]) ⟨_, _, _, _, _, _, _, _, _, _, _, _, _, _, _, _, _, _, _, _, _, _, _, _, _, _, _, _, _, _, agr, hO, dY.u, dN.u, dO.u, fr⟩ ?_
  refine fun X2 => p1 fun fV => p1 fun fW => p1 fun k2_27 => p1 fun d_28 => p1 fun d_34 => p1 fun d_40 => p1 fun d_44 => p1 fun d_48 => p1 fun k8 => p3 fun d_58 mA mB k9 => fun H hX2 σ w24 => e4 fun n33 p31 c32 mC => e4 fun n39 p37 c38 mD => e4 fun n43 p41 c42 n47 => e4 fun p45 c46 n53 p51 => e4 fun c52 mE n57 p55 => e4 fun c56 n61 p59 c60 => e4 fun n65 p63 c64 n69 => e2 fun p67 c68 => d1 fun hag => d4 fun hO iK mF qG hB => ?_
  dsimp only at H
  refine Go1.keep _ hag ?_
  revert hO; repeat (rename Owns _ _ _ _ => q; clear q)
  intro hO; repeat (rename Sq _ _ _ _ _ _ => q; clear q)
  refine au ?_
  refine GoR.inl (vs := [.pointer (some ⟨ms, 0, none⟩)]) (caps := []) rfl rfl body132 Try.func132 rfl Try.ntmps132 rfl rfl rfl ?_
  intro RhR71 hR71
  refine au ?_
  refine drw 0 [(0, .pure), (1, .pure), (2, .pure), (3, .pure), (4, .stable), (5, .pure), (6, .pure), (7, .pure), (8, .pure), (9, .stable), (10, .pure), (11, .pure), (12, .pure)] hO fun w72 s hO => ?_
  refine au ?_
  refine GoQ.pure rfl (J0O Try.underlying23 rfl (Els.neqW mF.u hO 2 rfl)) rfl rfl ?_
  refine scm H (fun h73 H => ?_) fun h73 H => ?_
  ·refine au ?_
   refine Go1.ret1V Try.func132 rfl (show _ = .bool true from rfl) ?_
   refine hR71 _ _ ?_
   refine au ?_
   refine zs (J0g (vs := [.int .i64 fV, .bool fW, .slice p31 n33 c32, .slice p37 n39 c38, .slice p41 n43 c42, .slice p45 n47 c46, .slice p51 n53 c52, .slice p55 n57 c56, .int .i64 k2_27]) (i := 0) 0 hO rfl rfl Try.underlying123 rfl ti123 rfl) ?_
   refine sba 11 hO fun w74 s hO => ?_
   refine au ?_
   refine sfzR 1 hO iK.u fun s hO x5 x6 => ?_
   refine sfzR 1 hO mF.u fun s hO x7 x8 => ?_
   refine sfz 1 hO fun s hO l7 l8 => ?_
   refine sfz 1 hO fun s hO l9 ma => ?_
   refine sfzR 1 hO qG.u fun s hO mG mH => ?_
   refine sfz 1 hO fun s hO x9 ya => ?_
   refine Go1.retC2 Try.func101 rfl rfl (J01 (vs := [.int .i64 fV, .bool fW, .slice p31 n33 c32, .slice p37 n39 c38, .slice p41 n43 c42, .slice p45 n47 c46, .slice p51 n53 c52, .slice p55 n57 c56, .int .i64 k2_27]) 5 hO rfl rfl Try.underlying123 rfl ti123) ⟨((⟨fV, fW, d_28, d_34, d_40, d_44, d_48, k8, k2_27⟩ : Enum)), _, _, _, _, _, _, _, _, _, _, _, _, _, ?_, frs, x5.r, x7.r, l7.r, l9.r, mG.r, x9.r, H⟩
   exact (congrArg (fun l => Value.tuple (List.toArray l)) (J03 (congrArg (fun l => Value.agg (List.toArray l)) (J03 rfl (J03 rfl (J03 (congrArg (fun nn => Value.slice p31 nn c32) x6) (J03 (congrArg (fun nn => Value.slice p37 nn c38) x8) (J03 (congrArg (fun nn => Value.slice p41 nn c42) l8) (J03 (congrArg (fun nn => Value.slice p45 nn c46) ma) (J03 (congrArg (fun nn => Value.slice p51 nn c52) mH) (J03 (congrArg (fun nn => Value.slice p55 nn c56) ya) (J03 rfl rfl)))))))))) (J03 rfl rfl)))
  refine au ?_
  refine Go1.ret1V Try.func132 rfl (show _ = .bool false from rfl) ?_
  refine hR71 _ _ ?_
  refine au ?_
  refine sob 11 hO fun sg hO1 => ?_
  refine zcr (J00 body133 rfl (J2b (a0 := (⟨(⟨fV, fW, d_28, d_34, d_40, d_44, d_48, k8, k2_27⟩ : Enum), k9, d_58, mA, mB⟩ : run)) hO1 iK.u mF.u qG.u H)) fun _ w89 => e4 fun r87 q88 ow oA => e4 fun oB mI mJ mK => e4 fun mM lL lM lN => e4 fun lO oC oD oE => e4 fun mO mP mQ lP => e4 fun mS mT mU sE => e4 fun sF sG qH qI => e4 fun qJ qK qL qM => d1 fun hv => d1 fun hN90 => d4 fun dP dB dC hF91 H => ?_
  subst hv; clear sg hO1
  refine sjn hO hN90 hF91 fun s hO c => ?_
  replace dP := dP.ch c
  replace dB := dB.ch c
  replace dC := dC.ch c
  refine au ?_
  refine scm H (fun h92 H => ?_) fun h92 H => ?_
  ·refine au ?_
   exact hX2 _ H _ _ ⟨_, _, _, _, _, _, _, _, _, _, _, _, _, _, _, _, _, _, _, _, _, _, _, _, _, _, _, _, _, _, agr, hO, dP, dB, dC, fr⟩
  refine au ?_
  refine zo (J0c Try.underlying123 ti123 (pl := [(0, 1), (1, 1), (2, 1), (3, 1), (4, 1), (5, 1), (6, 1), (7, 1), (8, 1)]) (vs := []) (cs := #[.int .i64 (0 : Int), .bool false, .slice none 0 0, .slice none 0 0, .slice none 0 0, .slice none 0 0, .slice none 0 0, .slice none 0 0, .int .i64 (0 : Int)]) (by kernel_rfl) rfl (by kernel_rfl)) ?_
  refine au ?_
  refine sba 11 hO fun w93 s hO => ?_
  refine au ?_
  refine Go1.retC2 Try.func101 rfl rfl (J01 (vs := [.int .i64 (0 : Int), .bool false, .slice none 0 0, .slice none 0 0, .slice none 0 0, .slice none 0 0, .slice none 0 0, .slice none 0 0, .int .i64 (0 : Int)]) 11 hO rfl rfl Try.underlying123 rfl ti123) ⟨((⟨(0 : Int), false, ([] : List (List Int)), ([] : List (List Int)), ([] : List Int), ([] : List Int), ([] : List (List Int)), ([] : List Rule), (0 : Int)⟩ : Enum)), _, _, _, _, _, _, _, _, _, _, _, _, _, ?_, frs, (ISl.null _ _ _), (ISl.null _ _ _), (ISl.null _ _ _), (ISl.null _ _ _), (ISl.null _ _ _), (ISl.null _ _ _), H⟩
  exact rfl
 refine au ?_
 refine zo (J0c Try.underlying123 ti123 (pl := [(0, 1), (1, 1), (2, 1), (3, 1), (4, 1), (5, 1), (6, 1), (7, 1), (8, 1)]) (vs := []) (cs := #[.int .i64 (0 : Int), .bool false, .slice none 0 0, .slice none 0 0, .slice none 0 0, .slice none 0 0, .slice none 0 0, .slice none 0 0, .int .i64 (0 : Int)]) (by kernel_rfl) rfl (by kernel_rfl)) ?_
 refine au ?_
 refine sba 11 hO fun w94 s hO => ?_
 refine au ?_
 refine Go1.retC2 Try.func101 rfl rfl (J01 (vs := [.int .i64 (0 : Int), .bool false, .slice none 0 0, .slice none 0 0, .slice none 0 0, .slice none 0 0, .slice none 0 0, .slice none 0 0, .int .i64 (0 : Int)]) 11 hO rfl rfl Try.underlying123 rfl ti123) ⟨((⟨(0 : Int), false, ([] : List (List Int)), ([] : List (List Int)), ([] : List Int), ([] : List Int), ([] : List (List Int)), ([] : List Rule), (0 : Int)⟩ : Enum)), _, _, _, _, _, _, _, _, _, _, _, _, _, ?_, frs, (ISl.null _ _ _), (ISl.null _ _ _), (ISl.null _ _ _), (ISl.null _ _ _), (ISl.null _ _ _), (ISl.null _ _ _), H⟩
 exact rfl
theorem body134 : Body Try.prog 134 := ⟨Try.f134, Try.func134, rfl, by kernel_rfl⟩
theorem J2Q {A : List Nat} {w0 : World} {dU : Option Addr} {eH : Nat} {s_ : List Int} {v : Int} (hA : ∀ b ∈ A, b < w0.heap.size) (fJ : ISl (Rp.int .i64) A w0 dU eH s_) {K : Int → Prop} (H : J0V s_ v K) :
    CallsV Try.prog 134 #[.slice dU s_.length eH, .int .i64 v] w0 (fun v w' => ∃ (r0 : Int), v = .int .i64 r0 ∧ Same w0 w' ∧ K r0) := by
 refine CallsV.of (l := [.slice dU s_.length eH, .int .i64 v]) Try.func134 rfl Try.ntmps134 rfl ?_
 have hO := Owns.start hA
 have hB := Fr.refl (bl []) w0
 unfold J0V at H
 refine au ?_
 refine sln0 ?_
 refine au ?_
 refine lw (H fJ.bd) (fun k1_2 σ w => (fun Z => agrees σ [(0, .slice dU s_.length eH), (1, .int .i64 v), (7, .int .i64 (s_.length : Int)), (8, .int .i64 (k1_2 : Int))] ∧ Owns w0.heap.size w Z A ∧ Fr (bl []) w0 (bl Z) w) []) ⟨agr, hO, fr⟩ ?_
 refine fun X1 => fun k1_2 => fun H hX1 σ w1 => d2 fun hag hO hB => ?_
 refine Go1.keep _ hag ?_
 refine au ?_
 refine scm H (fun h3 H => ?_) fun h3 H => ?_
 ·refine au ?_
  refine sxl hO fJ.u H.1 H.2.1 ?_
  have h4 := H.1
  have h5 := H.2.1
  refine scm H.2.2 (fun h6 H => ?_) fun h6 H => ?_
  ·refine au ?_
   refine Go1.ret1 Try.func134 rfl ⟨_, ?_, frs, H⟩
   exact rfl
  refine au ?_
  refine sinc (natbd h3 fJ.bd) ?_
  refine au ?_
  exact hX1 _ H _ _ ⟨agr, hO, fr⟩
 refine au ?_
 refine Go1.ret1 Try.func134 rfl ⟨_, ?_, frs, H⟩
 exact rfl
theorem body102 : Body Try.prog 102 := ⟨Try.f102, Try.func102, rfl, by kernel_rfl⟩
theorem J2q {A : List Nat} {w0 : World} {dU : Option Addr} {eH : Nat} {s_ : List Int} {v : Int} (hA : ∀ b ∈ A, b < w0.heap.size) (fJ : ISl (Rp.int .i64) A w0 dU eH s_) {K : Bool → Prop} (H : J0m s_ v K) :
    CallsV Try.prog 102 #[.slice dU s_.length eH, .int .i64 v] w0 (fun v w' => ∃ (r0 : Bool), v = .bool r0 ∧ Same w0 w' ∧ K r0) := by
 refine CallsV.of (l := [.slice dU s_.length eH, .int .i64 v]) Try.func102 rfl Try.ntmps102 rfl ?_
 have hO := Owns.start hA
 have hB := Fr.refl (bl []) w0
 unfold J0m at H
 refine au ?_
 refine zcr (J00 body134 rfl (J2Q hO.lt fJ.u H)) fun _ w2 => e1 fun r1 => sc0 hO fun s hO => fun H => ?_
 refine scm H (fun h3 H => ?_) fun h3 H => ?_
 ·refine au ?_
  refine Go1.ret1 Try.func102 rfl ⟨_, ?_, frs, H⟩
  exact rfl
 refine au ?_
 refine Go1.ret1 Try.func102 rfl ⟨_, ?_, frs, H⟩
 exact rfl
theorem body103 : Body Try.prog 103 := ⟨Try.f103, Try.func103, rfl, by kernel_rfl⟩
theorem J2a {A : List Nat} {w0 : World} {fK : Option Addr} {fL : Nat} {p_f : Option Addr} {c_f : Nat} {p : part} {f : List Int} (hA : ∀ b ∈ A, b < w0.heap.size) (lH : ISl (Rp.bool) A w0 fK fL p.final) (h_f : ISl (Rp.int .i64) A w0 p_f c_f f) {K : Bool → Prop} (H : J0p p f K) :
    CallsV Try.prog 103 #[.agg #[.int .i64 p.start, .slice fK p.final.length fL, .int .i64 p.shift], .slice p_f f.length c_f] w0 (fun v w' => ∃ (r0 : Bool), v = .bool r0 ∧ Same w0 w' ∧ K r0) := by
 refine CallsV.of (l := [.agg #[.int .i64 p.start, .slice fK p.final.length fL, .int .i64 p.shift], .slice p_f f.length c_f]) Try.func103 rfl Try.ntmps103 rfl ?_
 have hO := Owns.start hA
 have hB := Fr.refl (bl []) w0
 unfold J0p at H
 refine au ?_
 refine sbx hO fun w1 B2 s hO => ?_
 refine au ?_
 refine drw 0 [(0, .pure), (1, .stable), (2, .pure), (3, .pure), (4, .stable), (5, .pure), (6, .stable), (7, .pure), (8, .stable), (9, .pure), (10, .pure), (11, .stable), (12, .pure)] hO fun w4 s hO => ?_
 refine au ?_
 refine sxl hO h_f.u H.1 H.2.1 ?_
 refine au ?_
 have h5 := H.1
 have h6 := H.2.1
 replace H := H.2.2
 obtain ⟨h7, H⟩ := H
 refine GoQ.pure rfl (J8v rfl rfl (wrap_i64 h7)) rfl rfl ?_
 refine sxl hO lH.u H.1 H.2.1 ?_
 refine au ?_
 refine Go1.ret1 Try.func103 rfl ⟨_, ?_, frs, H.2.2⟩
 exact rfl
end Sg
