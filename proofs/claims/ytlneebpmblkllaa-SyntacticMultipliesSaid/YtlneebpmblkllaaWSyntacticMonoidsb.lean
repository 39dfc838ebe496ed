/- -/
import Derived.Test.YtlneebpmblkllaaVd
import Derived.Test.YtlneebpmblkllaaWSyntacticMonoids
namespace Sg
open Go Go.RowKit Go.Proofs
set_option linter.unusedVariables false
set_option linter.unusedSimpArgs false
set_option maxRecDepth 100000
set_option maxHeartbeats 4000000
theorem body155 : Body Try.prog 155 := ⟨Try.f155, Try.func155, rfl, by kernel_rfl⟩
theorem body131 : Body Try.prog 131 := ⟨Try.f131, Try.func131, rfl, by kernel_rfl⟩
theorem J3v {A : List Nat} {w0 : World} {fq : Option Addr} {ft : Nat} {a0 : List (List Int)} {a1 : Bool} (hA : ∀ b ∈ A, b < w0.heap.size) (eX : ISl (Rp.sl (Rp.int .i64)) A w0 fq ft a0) {K : Option run → Int → Prop} (H : J0J a0 a1 K) :
    CallsV Try.prog 131 #[.slice fq a0.length ft, .bool a1] w0 (fun v w' => (∃ (r1 : Int), v = .tuple #[.pointer none, .int .i64 r1] ∧ Same w0 w' ∧ K none r1) ∨ (∃ (q : run) (r1 : Int) (b_q aF : Nat) (aG : Option Addr) (aH : Nat) (bQ : List Value) (ar : Nat) (av : Option Addr) (aw : Nat) (bA : List Value) (ah : Nat) (ai : Option Addr) (aj aI : Nat) (aJ : Option Addr) (aK ax : Nat) (ay : Option Addr) (az : Nat) (bB : List Value) (aA : Nat) (aB : Option Addr) (aC dr bU : Nat) (bV : Option Addr) (bW bm : Nat) (bn : Option Addr) (bo bu : Nat) (bw : Option Addr) (bx : Nat), v = .tuple #[.pointer (some ⟨b_q, 0, none⟩), .int .i64 r1] ∧ Same w0 w' ∧ Owns w0.heap.size w' [.blk b_q (.cells #[.int .i64 q.Enum.Points, .bool q.Enum.Monoid, .slice aG aF aH, .slice av ar aw, .slice ai ah aj, .slice aJ aI aK, .slice ay ax az, .slice aB aA aC, .int .i64 q.Enum.Done, .map (some dr), .slice bV bU bW, .slice bn bm bo, .slice bw bu bx] 156 (0, 0)), .row 31 1 aG aF aH bQ, .row 31 1 av ar aw bA, t1 Fl.i 3 ai ah aj q.Enum.Prefix, t1 Fl.i 3 aJ aI aK q.Enum.Last, .row 31 1 ay ax az bB, t1 (id Fl.fl : Fl rpRule) 185 aB aA aC q.Enum.Rules, t1 Fl.str 9 bV bU bW q.words, t1 Fl.i 3 bn bm bo q.behind, t1 Fl.i 3 bw bu bx q.single, .any (mapE (fun a : List UInt8 => Value.string (gstr a)) (fun a : Int => Value.int .i64 a) dr q.number)] A ∧ Els (Rp.sl (Rp.int .i64)) (bl [.blk b_q (.cells #[.int .i64 q.Enum.Points, .bool q.Enum.Monoid, .slice aG aF aH, .slice av ar aw, .slice ai ah aj, .slice aJ aI aK, .slice ay ax az, .slice aB aA aC, .int .i64 q.Enum.Done, .map (some dr), .slice bV bU bW, .slice bn bm bo, .slice bw bu bx] 156 (0, 0)), .row 31 1 aG aF aH bQ, .row 31 1 av ar aw bA, t1 Fl.i 3 ai ah aj q.Enum.Prefix, t1 Fl.i 3 aJ aI aK q.Enum.Last, .row 31 1 ay ax az bB, t1 (id Fl.fl : Fl rpRule) 185 aB aA aC q.Enum.Rules, t1 Fl.str 9 bV bU bW q.words, t1 Fl.i 3 bn bm bo q.behind, t1 Fl.i 3 bw bu bx q.single, .any (mapE (fun a : List UInt8 => Value.string (gstr a)) (fun a : Int => Value.int .i64 a) dr q.number)] ++ A) w' bQ q.Enum.Gens ∧ Els (Rp.sl (Rp.int .i64)) (bl [.blk b_q (.cells #[.int .i64 q.Enum.Points, .bool q.Enum.Monoid, .slice aG aF aH, .slice av ar aw, .slice ai ah aj, .slice aJ aI aK, .slice ay ax az, .slice aB aA aC, .int .i64 q.Enum.Done, .map (some dr), .slice bV bU bW, .slice bn bm bo, .slice bw bu bx] 156 (0, 0)), .row 31 1 aG aF aH bQ, .row 31 1 av ar aw bA, t1 Fl.i 3 ai ah aj q.Enum.Prefix, t1 Fl.i 3 aJ aI aK q.Enum.Last, .row 31 1 ay ax az bB, t1 (id Fl.fl : Fl rpRule) 185 aB aA aC q.Enum.Rules, t1 Fl.str 9 bV bU bW q.words, t1 Fl.i 3 bn bm bo q.behind, t1 Fl.i 3 bw bu bx q.single, .any (mapE (fun a : List UInt8 => Value.string (gstr a)) (fun a : Int => Value.int .i64 a) dr q.number)] ++ A) w' bA q.Enum.Elems ∧ Els (Rp.sl (Rp.int .i64)) (bl [.blk b_q (.cells #[.int .i64 q.Enum.Points, .bool q.Enum.Monoid, .slice aG aF aH, .slice av ar aw, .slice ai ah aj, .slice aJ aI aK, .slice ay ax az, .slice aB aA aC, .int .i64 q.Enum.Done, .map (some dr), .slice bV bU bW, .slice bn bm bo, .slice bw bu bx] 156 (0, 0)), .row 31 1 aG aF aH bQ, .row 31 1 av ar aw bA, t1 Fl.i 3 ai ah aj q.Enum.Prefix, t1 Fl.i 3 aJ aI aK q.Enum.Last, .row 31 1 ay ax az bB, t1 (id Fl.fl : Fl rpRule) 185 aB aA aC q.Enum.Rules, t1 Fl.str 9 bV bU bW q.words, t1 Fl.i 3 bn bm bo q.behind, t1 Fl.i 3 bw bu bx q.single, .any (mapE (fun a : List UInt8 => Value.string (gstr a)) (fun a : Int => Value.int .i64 a) dr q.number)] ++ A) w' bB q.Enum.Right ∧ K (some q) r1)) := by
 refine CallsV.of (l := [.slice fq a0.length ft, .bool a1]) Try.func131 rfl Try.ntmps131 rfl ?_
 have hO := Owns.start hA
 have hB := Fr.refl (bl []) w0
 unfold J0J at H
 refine sln0 ?_
 refine scm (H eX.bd) (fun h1 H => ?_) fun h1 H => ?_
 ·refine au ?_
  refine Go1.ret2 Try.func131 rfl (Or.inl ⟨_, ?_, frs, H⟩)
  exact rfl
 refine sln0 ?_
 refine scm H (fun h2 H => ?_) fun h2 H => ?_
 ·refine au ?_
  refine Go1.ret2 Try.func131 rfl (Or.inl ⟨_, ?_, frs, H⟩)
  exact rfl
 refine au ?_
 have zz := omakeMap (fun a : List UInt8 => Value.string (gstr a)) (fun a : Int => Value.int .i64 a) hO
 obtain ⟨w3, B4, wJ, hs6, wK⟩ := zz
 refine zg wK ?_
 refine nst wJ fun s hO => ?_
 refine zo (J09 Try.underlying156 ti156 (pl := [(0, 9), (9, 1), (10, 1), (11, 1), (12, 1)]) (vs := [(1, .map (some B4))]) (cs := #[.int .i64 (0 : Int), .bool false, .slice none 0 0, .slice none 0 0, .slice none 0 0, .slice none 0 0, .slice none 0 0, .slice none 0 0, .int .i64 (0 : Int), .map (some B4), .slice none 0 0, .slice none 0 0, .slice none 0 0]) (by kernel_rfl) rfl (by kernel_rfl)) ?_
 refine sbx hO fun w9 B10 s hO => ?_
 refine sxls hO eX.u H.1 H.2.1 fun p12 c13 jq => ?_
 refine sln0 ?_
 refine sbs 0 hO fun w15 s hO => ?_
 refine sbs 0 hO fun w16 s hO => ?_
 refine sln0 ?_
 refine au ?_
 have tA := Stp.nil (e := 31) (r := 1) hO
 refine nst tA fun s hO => ?_
 have wL := elN (Rp.sl (Rp.int .i64)) hO
 refine lw (H.2.2 jq.bd) (fun (k1_21, d_22) σ w => ∃ n27 p25 c26 gJ, (fun Z => agrees σ [(1, .bool a1), (6, .pointer (some ⟨B10, 0, none⟩)), (39, .slice fq a0.length ft), (40, .int .i64 (a0.length : Int)), (41, .int .i64 (k1_21 : Int))] ∧ Owns w0.heap.size w Z A ∧ Els (Rp.sl (Rp.int .i64)) (bl Z ++ A) w gJ d_22 ∧ Fr (bl []) w0 (bl Z) w) [.row 31 1 p25 n27 c26 gJ, .blk B10 (.cells #[.int .i64 ((ix a0 (0 : Int)).length : Int), .bool a1, .slice p25 n27 c26, .slice none 0 0, .slice none 0 0, .slice none 0 0, .slice none 0 0, .slice none 0 0, .int .i64 (0 : Int), .map (some B4), .slice none 0 0, .slice none 0 0, .slice none 0 0] 156 (0, 0)), .any (mapE (fun a : List UInt8 => Value.string (gstr a)) (fun a : Int => Value.int .i64 a) B4 (([] : List (Str × Int))))]) ⟨_, _, _, _, agr, hO, wL.u, fr⟩ ?_
 refine fun X1 => p1 fun k1_21 d_22 => fun H hX1 σ w20 => e4 fun n27 p25 c26 gJ => d3 fun hag hO de hB => ?_
 dsimp only at H
 refine Go1.keep _ hag ?_
 revert hO; repeat (rename Owns _ _ _ _ => q; clear q)
 intro hO; repeat (rename Sq _ _ _ _ _ _ => q; clear q)
 refine scm H (fun h28 H => ?_) fun h28 H => ?_
 ·refine sxls hO eX.u H.1 H.2.1 fun p29 c30 lQ => ?_
  refine sln0 ?_
  refine au ?_
  have h32 := H.1
  have h33 := H.2.1
  refine scm (H.2.2 lQ.bd) (fun h34 H => ?_) fun h34 H => ?_
  ·refine au ?_
   refine zcr (J00 body154 rfl (J1O hO.lt lQ.u H)) fun _ w36 => e1 fun r35 => sc0 hO fun s hO => fun H => ?_
   cases r35
   ·refine au ?_
    refine Go1.ret2 Try.func131 rfl (Or.inl ⟨_, ?_, frs, (iF H)⟩)
    exact rfl
   refine au ?_
   refine drw 1 [(0, .pure), (1, .pure), (2, .pure), (3, .pure), (4, .pure), (5, .stable), (6, .pure), (7, .loud), (8, .loud), (9, .last), (10, .pure), (11, .pure), (12, .pure), (13, .last)] hO fun w37 s hO => ?_
   refine au ?_
   refine zcq rfl (J00 body86 rfl (J0n hO.lt lQ.u (iT H))) fun _ w40 => e4 fun r38 nY i4 i5 => sq1 hO fun s hO => fun H => ?_
   refine sfz 0 hO fun s hO wM wN => ?_
   have zz := J2B (r := Rp.sl (Rp.int .i64)) (n := 1) (parts := [(0, .slice i4 nY i5)]) (vs := [.slice i4 nY i5]) (xs := [r38]) rfl Try.underlying23 ti31 hO (by decide) (by kernel_rfl) (Els.cons rfl ⟨i4, i5, congrArg some (congrArg (fun nn => Value.slice i4 nn i5) wN), wM⟩ (Els.nil _ _ _) (by simp [mx])) rfl
   obtain ⟨w44, p45, tB, jt, wO, tC⟩ := zz
   refine GoQ.loud rfl (tC rfl) wO rfl rfl ?_
   refine nst tB fun s hO => ?_
   refine sfzR 0 hO jt fun s hO wP wQ => ?_
   obtain ⟨h53, H⟩ := H
   have zz := oapp Try.underlying23 ti31 rfl 0 hO rfl de.u wP wQ h53 (by decide)
   obtain ⟨w54, p55, c56, Aq, j8, pt, tD⟩ := zz
   dsimp only [sS, sZ] at pt
   refine GoQ.last rfl (tD (by exact rfl) (by exact rfl)) rfl rfl ?_
   refine nst j8 fun s hO => ?_
   refine sbs 1 hO fun w62 s hO => ?_
   refine sinc (natbd h28 eX.bd) ?_
   refine au ?_
   exact hX1 _ H _ _ ⟨_, _, _, _, agr, hO, pt.u, fr⟩
  refine au ?_
  refine Go1.ret2 Try.func131 rfl (Or.inl ⟨_, ?_, frs, H⟩)
  exact rfl
 refine au ?_
 cases a1
 ·refine au ?_
  refine zo (J0S Try.underlying23 rfl (Els.neqW de.u hO 0 rfl)) ?_
  refine au ?_
  have tE := Stp.nil (e := 31) (r := 1) hO
  refine nst tE fun s hO => ?_
  have wR := elN (Rp.sl (Rp.int .i64)) hO
  refine snil Fl.i 3 hO fun s hO => ?_
  refine snil Fl.i 3 hO fun s hO => ?_
  refine snil (id Fl.fl : Fl rpRule) 185 hO fun s hO => ?_
  refine snil Fl.str 9 hO fun s hO => ?_
  refine snil Fl.i 3 hO fun s hO => ?_
  refine snil Fl.i 3 hO fun s hO => ?_
  refine lw (iF H) (fun (e9, lR, lT, d_82, d_86, lU, d_94, d_98, eQ) σ w => ∃ n77 p75 c76 n81 p79 c80 n85 p83 c84 n89 p87 c88 n93 p91 c92 n97 p95 c96 lV km lW lX, (fun Z => agrees σ [(6, .pointer (some ⟨B10, 0, none⟩)), (9, .int .i64 (-1 : Int)), (85, .slice p25 n27 c26), (86, .int .i64 (d_22.length : Int)), (87, .int .i64 (e9 : Int))] ∧ Owns w0.heap.size w Z A ∧ Els (Rp.sl (Rp.int .i64)) (bl Z ++ A) w lX d_98 ∧ Els (Rp.sl (Rp.int .i64)) (bl Z ++ A) w gJ d_22 ∧ Fr (bl []) w0 (bl Z) w) [t1 Fl.i 3 p75 n77 c76 lR, t1 Fl.i 3 p79 n81 c80 lT, t1 Fl.str 9 p83 n85 c84 d_82, t1 (id Fl.fl : Fl rpRule) 185 p87 n89 c88 d_86, t1 Fl.i 3 p91 n93 c92 lU, t1 Fl.i 3 p95 n97 c96 d_94, .row 31 1 km lV lW lX, .row 31 1 p25 n27 c26 gJ, .blk B10 (.cells #[.int .i64 ((ix a0 (0 : Int)).length : Int), .bool false, .slice p25 n27 c26, .slice km lV lW, .slice p95 n97 c96, .slice p91 n93 c92, .slice none 0 0, .slice p87 n89 c88, .int .i64 (0 : Int), .map (some B4), .slice p83 n85 c84, .slice p79 n81 c80, .slice p75 n77 c76] 156 (0, 0)), .any (mapE (fun a : List UInt8 => Value.string (gstr a)) (fun a : Int => Value.int .i64 a) B4 eQ)]) ⟨_, _, _, _, _, _, _, _, _, _, _, _, _, _, _, _, _, _, _, _, _, _, agr, hO, wR.u, de.u, fr⟩ ?_
  refine fun X2 => p1 fun e9 => p1 fun lR => p1 fun lT => p1 fun d_82 => p1 fun d_86 => p3 fun lU d_94 d_98 eQ => fun H hX2 σ w72 => e4 fun n77 p75 c76 n81 => e4 fun p79 c80 n85 p83 => e4 fun c84 n89 p87 c88 => e4 fun n93 p91 c92 n97 => e4 fun p95 c96 lV km => e2 fun lW lX => d4 fun hag hO i6 de hB => ?_
  dsimp only at H
  refine Go1.keep _ hag ?_
  revert hO; repeat (rename Owns _ _ _ _ => q; clear q)
  intro hO; repeat (rename Sq _ _ _ _ _ _ => q; clear q)
  refine scm H (fun kn H => ?_) fun kn H => ?_
  ·refine au ?_
   obtain ⟨jf, H⟩ := H
   obtain ⟨gG, H⟩ := H
   refine zo (J01 Try.underlying23 ti31 rfl rfl jf (ltn (Els.neqW de hO 7 rfl) gG) (Els.psomeW de hO 7 rfl jf gG)) ?_
   have zz := oldSl 7 hO rfl de jf gG
   obtain ⟨Ar, At, n8, tF⟩ := zz
   refine zs (tF Try.underlying31 rfl rfl) ?_
   refine au ?_
   obtain ⟨gH, H⟩ := H
   refine zo (J0p rfl rfl (wrap_i64 gH)) ?_
   refine zo (J3e Try.underlying3 Try.underlying21 rfl rfl) ?_
   obtain ⟨gI, H⟩ := H
   obtain ⟨wS, H⟩ := H
   refine zo (J42 Try.underlying21 Try.underlying9 rfl gI wS) ?_
   refine au ?_
   refine drw 0 [(0, .pure), (1, .pure), (2, .pure), (3, .stable), (4, .pure), (5, .loud), (6, .stable), (7, .pure), (8, .pure), (9, .pure), (10, .pure), (11, .pure)] hO fun Au s hO => ?_
   refine au ?_
   refine zcq rfl (J00 body157 rfl (J05 hO.lt n8.u H)) fun _ wT => e1 fun gK => sq0 hO fun s hO => d1 fun y4 H => ?_
   by_cases fL : mhas eQ gK = true
   ·refine GoQ.stable rfl (olookT (a := gK) (MK.str Try.underlying9) 9 hO rfl Try.underlying154 rfl rfl fL) rfl rfl ?_
    refine au ?_
    refine drw 5 [(0, .pure), (1, .pure), (2, .pure), (3, .pure), (4, .pure), (5, .stable), (6, .pure), (7, .pure), (8, .pure), (9, .pure), (10, .stable), (11, .pure), (12, .pure), (13, .stable), (14, .pure), (15, .loud), (16, .last), (17, .pure), (18, .pure), (19, .pure), (20, .last)] hO fun o6 s hO => ?_
    refine sxl1 2 hO (ifp fL H).1 (ifp fL H).2.1 ?_
    have hle120 := t1le 2 hO (ifp fL H).1 (ifp fL H).2.1
    refine GoQ.pure rfl (J09 Try.underlying185 ti185 (pl := [(0, 1), (1, 1)]) (vs := [(0, .string (gstr (chr (IntKind.i32.wrap ((97 : Int) + (e9 : Int)))))), (1, .string (gstr (ix d_82 (mgt eQ gK))))]) (cs := #[.string (gstr (chr (IntKind.i32.wrap ((97 : Int) + (e9 : Int))))), .string (gstr (ix d_82 (mgt eQ gK)))]) (by kernel_rfl) rfl (by kernel_rfl)) rfl rfl ?_
    refine sapF (⟨(chr (IntKind.i32.wrap ((97 : Int) + (e9 : Int)))), ix d_82 (mgt eQ gK)⟩ : Rule) 3 hO (ifp fL H).2.2 (fun _ Aw Ax Ay s hO => ?_) (hok := by exact ⟨(J6T _), hle120⟩)
    refine sbs 8 hO fun Az s hO => ?_
    refine au ?_
    refine sap1 ((mgt eQ gK)) 0 hO (ifp fL H).2.2.2 fun _ wU AA AB s hO => ?_
    refine sbs 8 hO fun wV s hO => ?_
    refine sinc (natbd kn de.bd) ?_
    refine au ?_
    exact hX2 _ (ifp fL H).2.2.2.2 _ _ ⟨_, _, _, _, _, _, _, _, _, _, _, _, _, _, _, _, _, _, _, _, _, _, agr, hO, i6.u, de.u, fr⟩
   refine GoQ.stable rfl (olookF (a := gK) (MK.str Try.underlying9) 9 hO rfl Try.underlying154 ti3 rfl rfl fL) rfl rfl ?_
   refine au ?_
   refine zcr (J00 body86 rfl (J0n hO.lt n8.u (ifn fL H))) fun _ AC => e4 fun r129 gR fu fv => sc1 hO fun s hO => fun H => ?_
   refine au ?_
   refine GoR.inl (vs := [.pointer (some ⟨B10, 0, none⟩), .slice fu gR fv, .int .i64 (-1 : Int), .int .i64 (e9 : Int), .string (gstr (chr (IntKind.i32.wrap ((97 : Int) + (e9 : Int))))), .int .i64 (-1 : Int)]) (caps := []) rfl rfl body155 Try.func155 rfl Try.ntmps155 rfl rfl rfl ?_
   intro RhR133 hR133
   refine au ?_
   refine zo (J0S Try.underlying23 rfl (Els.neqW i6.u hO 7 rfl)) ?_
   refine au ?_
   refine drw 1 [(0, .pure), (1, .pure), (2, .pure), (3, .stable), (4, .pure), (6, .pure), (5, .loud), (7, .last)] hO fun wW s hO => ?_
   refine au ?_
   have tG := t1lend 0 hO
   have ko := t1n 0 hO
   have hOc137 := hO.drop 0
   refine zcq rfl (J00 body157 (show ([.slice fu gR fv] : List Value) = [.slice fu r129.length fv] from by rw [← ko]) (J05 hOc137.lt tG H)) fun _ AD => e1 fun wX => sq0 hO fun s hO => d1 fun y5 H => ?_
   have zz := omapUpd (MK.str Try.underlying9) 10 hO rfl Try.underlying154 wX (d_98.length : Int)
   obtain ⟨AE, pv, pC⟩ := zz
   refine GoQ.last rfl (pC (by exact rfl) (by exact rfl) (by exact rfl)) rfl rfl ?_
   refine nst pv fun s hO => ?_
   refine au ?_
   refine sfz 0 hO fun s hO tH tI => ?_
   have zz := J2B (r := Rp.sl (Rp.int .i64)) (n := 1) (parts := [(0, .slice fu gR fv)]) (vs := [.slice fu gR fv]) (xs := [r129]) rfl Try.underlying23 ti31 hO (by decide) (by kernel_rfl) (Els.cons rfl ⟨fu, fv, congrArg some (congrArg (fun nn => Value.slice fu nn fv) tI), tH⟩ (Els.nil _ _ _) (by simp [mx])) rfl
   obtain ⟨wY, AF, pD, tJ, zx, pE⟩ := zz
   refine zg (pE rfl) ?_
   refine nst pD fun s hO => ?_
   refine sfzR 0 hO tJ.u fun s hO tK tL => ?_
   obtain ⟨xa, H⟩ := H
   have zz := oapp Try.underlying23 ti31 rfl 6 hO rfl i6.u tK tL xa (by decide)
   obtain ⟨wg, AG, AH, zy, pF, n9, pG⟩ := zz
   dsimp only [sS, sZ] at n9
   refine zg (pG (by exact rfl) (by exact rfl)) ?_
   refine nst pF fun s hO => ?_
   refine sbs 8 hO fun wi s hO => ?_
   refine au ?_
   refine sap1 ((-1 : Int)) 5 hO H fun _ xb AI AJ s hO => ?_
   refine sbs 8 hO fun pc s hO => ?_
   refine au ?_
   refine sap1 ((e9 : Int)) 4 hO H.2 fun _ pI AK AM s hO => ?_
   refine sbs 8 hO fun pe s hO => ?_
   refine au ?_
   refine sap1 ((chr (IntKind.i32.wrap ((97 : Int) + (e9 : Int))))) 2 hO H.2.2 (fun _ pK xc AO s hO => ?_) (hR := by exact fun _ _ => ⟨rfl, (J6T _)⟩)
   refine sbs 8 hO fun wk s hO => ?_
   refine au ?_
   refine sap1 ((-1 : Int)) 1 hO H.2.2.2 fun _ wm AP AQ s hO => ?_
   refine sbs 8 hO fun xd s hO => ?_
   refine au ?_
   refine Go1.ret1V Try.func155 rfl (show _ = .int .i64 (d_98.length : Int) from rfl) ?_
   refine hR133 _ _ ?_
   refine au ?_
   refine sap1 ((d_98.length : Int)) 0 hO H.2.2.2.2 fun _ AR AT AU s hO => ?_
   refine sbs 8 hO fun wn s hO => ?_
   refine sinc (natbd kn de.bd) ?_
   refine au ?_
   exact hX2 _ H.2.2.2.2.2 _ _ ⟨_, _, _, _, _, _, _, _, _, _, _, _, _, _, _, _, _, _, _, _, _, _, agr, hO, n9.u, de.u, fr⟩
  refine au ?_
  have pM := Stp.nil (e := 31) (r := 1) hO
  refine nst pM fun s hO => ?_
  have tM := elN (Rp.sl (Rp.int .i64)) hO
  refine sfr 10 hO fun s hO => ?_
  refine sfr 2 hO fun s hO => ?_
  refine sfr 3 hO fun s hO => ?_
  refine sfr 4 hO fun s hO => ?_
  refine sfr 5 hO fun s hO => ?_
  refine sfr 5 hO fun s hO => ?_
  refine sfr 6 hO fun s hO => ?_
  refine sfr 7 hO fun s hO => ?_
  refine sfr 8 hO fun s hO => ?_
  refine sfr 9 hO fun s hO => ?_
  refine sfr 10 hO fun s hO => ?_
  refine Go1.ret2 Try.func131 rfl (Or.inr ⟨(⟨(⟨((ix a0 (0 : Int)).length : Int), false, d_22, d_98, d_94, lU, ([] : List (List Int)), d_86, (0 : Int)⟩ : Enum), eQ, d_82, lT, lR⟩ : run), _, _, _, _, _, _, _, _, _, _, _, _, _, _, _, _, _, _, _, _, _, _, _, _, _, _, _, _, _, _, _, _, _, ?_, frs, hO, de.u, i6.u, tM.u, H⟩)
  exact rfl
 refine au ?_
 refine zcr (J00 body156 rfl (J3T hO.lt (iT H))) fun _ wq => e3 fun r187 gS gT => sc0 hO fun s hO => d1 fun k8 H => ?_
 refine GoR.inl (vs := [.pointer (some ⟨B10, 0, none⟩), .slice gS r187.length gT, .int .i64 (-1 : Int), .int .i64 (-1 : Int), .string (gstr (([] : Str))), .int .i64 (-1 : Int)]) (caps := []) rfl rfl body155 Try.func155 rfl Try.ntmps155 rfl rfl rfl ?_
 intro RhR189 hR189
 refine sln0 ?_
 refine au ?_
 refine drw 1 [(0, .pure), (1, .pure), (2, .pure), (3, .stable), (4, .pure), (6, .pure), (5, .loud), (7, .last)] hO fun xe s hO => ?_
 refine au ?_
 refine zcq rfl (J00 body157 rfl (J05 hO.lt k8.u H)) fun _ AV => e1 fun r191 => sq0 hO fun s hO => d1 fun y6 H => ?_
 have zz := omapUpd (MK.str Try.underlying9) 2 hO rfl Try.underlying154 r191 (0 : Int)
 obtain ⟨AW, pN, pO⟩ := zz
 refine GoQ.last rfl (pO (by exact rfl) (by exact rfl) (by exact rfl)) rfl rfl ?_
 refine nst pN fun s hO => ?_
 refine au ?_
 have zz := J2B (r := Rp.sl (Rp.int .i64)) (n := 1) (parts := [(0, .slice gS r187.length gT)]) (vs := [.slice gS r187.length gT]) (xs := [r187]) rfl Try.underlying23 ti31 hO (by decide) (by kernel_rfl) (Els.cons rfl ⟨gS, gT, rfl, k8.u⟩ (Els.nil _ _ _) (by simp [mx])) rfl
 obtain ⟨AX, AY, pP, tN, zA, pQ⟩ := zz
 refine zg (pQ rfl) ?_
 refine nst pP fun s hO => ?_
 refine sfzR 0 hO tN fun s hO tO tP => ?_
 have pS := Stp.nil (e := 31) (r := 1) hO
 refine nst pS fun s hO => ?_
 have tQ := elN (Rp.sl (Rp.int .i64)) hO
 obtain ⟨xg, H⟩ := H
 have zz := oapp Try.underlying23 ti31 rfl 0 hO rfl tQ tO.u tP xg (by decide)
 obtain ⟨A4, A5, A6, zB, pT, oc, ju⟩ := zz
 dsimp only [sS, sZ] at oc
 refine zg (ju (by exact rfl) (by exact rfl)) ?_
 refine nst pT fun s hO => ?_
 refine sbs 2 hO fun lY s hO => ?_
 refine au ?_
 refine snil Fl.i 3 hO fun s hO => ?_
 refine sap1 ((-1 : Int)) 0 hO H fun _ A7 A8 A9 s hO => ?_
 refine sbs 3 hO fun Ba s hO => ?_
 refine au ?_
 refine snil Fl.i 3 hO fun s hO => ?_
 refine sap1 ((-1 : Int)) 0 hO H.2 fun _ Bb Bc Bd s hO => ?_
 refine sbs 4 hO fun Be s hO => ?_
 refine au ?_
 refine snil Fl.str 9 hO fun s hO => ?_
 refine sap1 ((([] : Str))) 0 hO H.2.2 (fun _ Bf Bg Bi s hO => ?_) (hR := by exact fun _ _ => ⟨rfl, (by decide)⟩)
 refine sbs 5 hO fun Bj s hO => ?_
 refine au ?_
 refine snil Fl.i 3 hO fun s hO => ?_
 refine sap1 ((-1 : Int)) 0 hO H.2.2.2 fun _ Bk Bl Bm s hO => ?_
 refine sbs 6 hO fun Bn s hO => ?_
 refine au ?_
 refine Go1.ret1V Try.func155 rfl (show _ = .int .i64 (0 : Int) from rfl) ?_
 refine hR189 _ _ ?_
 refine au ?_
 refine zo (J0S Try.underlying23 rfl (Els.neqW de.u hO 5 rfl)) ?_
 refine au ?_
 refine snil (id Fl.fl : Fl rpRule) 185 hO fun s hO => ?_
 refine snil Fl.i 3 hO fun s hO => ?_
 refine lw H.2.2.2.2 (fun (d9, kq, d_246, kr, gi, d_258, kt, gj, eU) σ w => ∃ l5 l7 l8 l9 ma mb mc mf mg mh mj mm mo mq mr ms mt mv mw my mz i7, (fun Z => agrees σ [(6, .pointer (some ⟨B10, 0, none⟩)), (9, .int .i64 (0 : Int)), (85, .slice p25 n27 c26), (86, .int .i64 (d_22.length : Int)), (87, .int .i64 (d9 : Int))] ∧ Owns w0.heap.size w Z A ∧ Els (Rp.sl (Rp.int .i64)) (bl Z ++ A) w i7 gj ∧ Els (Rp.sl (Rp.int .i64)) (bl Z ++ A) w gJ d_22 ∧ Fr (bl []) w0 (bl Z) w) [t1 Fl.i 3 l7 l5 l8 kq, t1 (id Fl.fl : Fl rpRule) 185 ma l9 mb d_246, t1 Fl.i 3 mf mc mg kr, t1 Fl.str 9 mj mh mm gi, t1 Fl.i 3 mq mo mr d_258, t1 Fl.i 3 mt ms mv kt, .row 31 1 my mw mz i7, .row 31 1 p25 n27 c26 gJ, .blk B10 (.cells #[.int .i64 ((ix a0 (0 : Int)).length : Int), .bool true, .slice p25 n27 c26, .slice my mw mz, .slice mt ms mv, .slice mq mo mr, .slice none 0 0, .slice ma l9 mb, .int .i64 (0 : Int), .map (some B4), .slice mj mh mm, .slice mf mc mg, .slice l7 l5 l8] 156 (0, 0)), .any (mapE (fun a : List UInt8 => Value.string (gstr a)) (fun a : Int => Value.int .i64 a) B4 eU)]) ⟨_, _, _, _, _, _, _, _, _, _, _, _, _, _, _, _, _, _, _, _, _, _, agr, hO, oc.u, de.u, fr⟩ ?_
 refine fun X3 => p1 fun d9 => p1 fun kq => p1 fun d_246 => p1 fun kr => p1 fun gi => p3 fun d_258 kt gj eU => fun H hX3 σ Bo => e4 fun l5 l7 l8 l9 => e4 fun ma mb mc mf => e4 fun mg mh mj mm => e4 fun mo mq mr ms => e4 fun mt mv mw my => e2 fun mz i7 => d4 fun hag hO fG de hB => ?_
 dsimp only at H
 refine Go1.keep _ hag ?_
 revert hO; repeat (rename Owns _ _ _ _ => q; clear q)
 intro hO; repeat (rename Sq _ _ _ _ _ _ => q; clear q)
 refine scm H (fun mA H => ?_) fun mA H => ?_
 ·refine au ?_
  obtain ⟨mB, H⟩ := H
  obtain ⟨mC, H⟩ := H
  refine zo (J01 Try.underlying23 ti31 rfl rfl mB (ltn (Els.neqW de hO 7 rfl) mC) (Els.psomeW de hO 7 rfl mB mC)) ?_
  have zz := oldSl 7 hO rfl de mB mC
  obtain ⟨Bp, Bq, od, tR⟩ := zz
  refine zs (tR Try.underlying31 rfl rfl) ?_
  refine au ?_
  obtain ⟨xh, H⟩ := H
  refine zo (J0p rfl rfl (wrap_i64 xh)) ?_
  refine zo (J3e Try.underlying3 Try.underlying21 rfl rfl) ?_
  obtain ⟨xi, H⟩ := H
  obtain ⟨xj, H⟩ := H
  refine zo (J42 Try.underlying21 Try.underlying9 rfl xi xj) ?_
  refine au ?_
  refine drw 0 [(0, .pure), (1, .pure), (2, .pure), (3, .stable), (4, .pure), (5, .loud), (6, .stable), (7, .pure), (8, .pure), (9, .pure), (10, .pure), (11, .pure)] hO fun Br s hO => ?_
  refine au ?_
  refine zcq rfl (J00 body157 rfl (J05 hO.lt od.u H)) fun _ Bs => e1 fun gL => sq0 hO fun s hO => d1 fun y7 H => ?_
  by_cases fw : mhas eU gL = true
  ·refine GoQ.stable rfl (olookT (a := gL) (MK.str Try.underlying9) 9 hO rfl Try.underlying154 rfl rfl fw) rfl rfl ?_
   refine au ?_
   refine drw 5 [(0, .pure), (1, .pure), (2, .pure), (3, .pure), (4, .pure), (5, .stable), (6, .pure), (7, .pure), (8, .pure), (9, .pure), (10, .stable), (11, .pure), (12, .pure), (13, .stable), (14, .pure), (15, .loud), (16, .last), (17, .pure), (18, .pure), (19, .pure), (20, .last)] hO fun Bt s hO => ?_
   refine sxl1 3 hO (ifp fw H).1 (ifp fw H).2.1 ?_
   have hle288 := t1le 3 hO (ifp fw H).1 (ifp fw H).2.1
   refine GoQ.pure rfl (J09 Try.underlying185 ti185 (pl := [(0, 1), (1, 1)]) (vs := [(0, .string (gstr (chr (IntKind.i32.wrap ((97 : Int) + (d9 : Int)))))), (1, .string (gstr (ix gi (mgt eU gL))))]) (cs := #[.string (gstr (chr (IntKind.i32.wrap ((97 : Int) + (d9 : Int))))), .string (gstr (ix gi (mgt eU gL)))]) (by kernel_rfl) rfl (by kernel_rfl)) rfl rfl ?_
   refine sapF (⟨(chr (IntKind.i32.wrap ((97 : Int) + (d9 : Int)))), ix gi (mgt eU gL)⟩ : Rule) 1 hO (ifp fw H).2.2 (fun _ xk Bu Bv s hO => ?_) (hok := by exact ⟨(J6T _), hle288⟩)
   refine sbs 8 hO fun Bw s hO => ?_
   refine au ?_
   refine sap1 ((mgt eU gL)) 0 hO (ifp fw H).2.2.2 fun _ Bx By Bz s hO => ?_
   refine sbs 8 hO fun BA s hO => ?_
   refine sinc (natbd mA de.bd) ?_
   refine au ?_
   exact hX3 _ (ifp fw H).2.2.2.2 _ _ ⟨_, _, _, _, _, _, _, _, _, _, _, _, _, _, _, _, _, _, _, _, _, _, agr, hO, fG.u, de.u, fr⟩
  refine GoQ.stable rfl (olookF (a := gL) (MK.str Try.underlying9) 9 hO rfl Try.underlying154 ti3 rfl rfl fw) rfl rfl ?_
  refine au ?_
  refine zcr (J00 body86 rfl (J0n hO.lt od.u (ifn fw H))) fun _ xl => e4 fun pU gU fx fy => sc1 hO fun s hO => fun H => ?_
  refine au ?_
  refine GoR.inl (vs := [.pointer (some ⟨B10, 0, none⟩), .slice fx gU fy, .int .i64 (0 : Int), .int .i64 (d9 : Int), .string (gstr (chr (IntKind.i32.wrap ((97 : Int) + (d9 : Int))))), .int .i64 (0 : Int)]) (caps := []) rfl rfl body155 Try.func155 rfl Try.ntmps155 rfl rfl rfl ?_
  intro RhR301 hR301
  refine au ?_
  refine zo (J0S Try.underlying23 rfl (Els.neqW fG.u hO 7 rfl)) ?_
  refine au ?_
  refine drw 1 [(0, .pure), (1, .pure), (2, .pure), (3, .stable), (4, .pure), (6, .pure), (5, .loud), (7, .last)] hO fun BB s hO => ?_
  refine au ?_
  have tS := t1lend 0 hO
  have tT := t1n 0 hO
  have hOc305 := hO.drop 0
  refine zcq rfl (J00 body157 (show ([.slice fx gU fy] : List Value) = [.slice fx pU.length fy] from by rw [← tT]) (J05 hOc305.lt tS H)) fun _ BC => e1 fun r306 => sq0 hO fun s hO => d1 fun y8 H => ?_
  have zz := omapUpd (MK.str Try.underlying9) 10 hO rfl Try.underlying154 r306 (gj.length : Int)
  obtain ⟨BD, pV, pW⟩ := zz
  refine GoQ.last rfl (pW (by exact rfl) (by exact rfl) (by exact rfl)) rfl rfl ?_
  refine nst pV fun s hO => ?_
  refine au ?_
  refine sfz 0 hO fun s hO tU tV => ?_
  have zz := J2B (r := Rp.sl (Rp.int .i64)) (n := 1) (parts := [(0, .slice fx gU fy)]) (vs := [.slice fx gU fy]) (xs := [pU]) rfl Try.underlying23 ti31 hO (by decide) (by kernel_rfl) (Els.cons rfl ⟨fx, fy, congrArg some (congrArg (fun nn => Value.slice fx nn fy) tV), tU⟩ (Els.nil _ _ _) (by simp [mx])) rfl
  obtain ⟨xm, BE, pX, tW, zC, pY⟩ := zz
  refine zg (pY rfl) ?_
  refine nst pX fun s hO => ?_
  refine sfzR 0 hO tW fun s hO tX tY => ?_
  obtain ⟨xn, H⟩ := H
  have zz := oapp Try.underlying23 ti31 rfl 6 hO rfl fG.u tX tY xn (by decide)
  obtain ⟨BG, BH, BJ, zD, p9, oe, qa⟩ := zz
  dsimp only [sS, sZ] at oe
  refine zg (qa (by exact rfl) (by exact rfl)) ?_
  refine nst p9 fun s hO => ?_
  refine sbs 8 hO fun BK s hO => ?_
  refine au ?_
  refine sap1 ((0 : Int)) 5 hO H fun _ BL BM BN s hO => ?_
  refine sbs 8 hO fun BO s hO => ?_
  refine au ?_
  refine sap1 ((d9 : Int)) 4 hO H.2 fun _ BP BQ BR s hO => ?_
  refine sbs 8 hO fun xo s hO => ?_
  refine au ?_
  refine sap1 ((chr (IntKind.i32.wrap ((97 : Int) + (d9 : Int))))) 3 hO H.2.2 (fun _ xp qb BS s hO => ?_) (hR := by exact fun _ _ => ⟨rfl, (J6T _)⟩)
  refine sbs 8 hO fun BT s hO => ?_
  refine au ?_
  refine sap1 ((0 : Int)) 2 hO H.2.2.2 fun _ BU BV BW s hO => ?_
  refine sbs 8 hO fun BX s hO => ?_
  refine au ?_
  refine Go1.ret1V Try.func155 rfl (show _ = .int .i64 (gj.length : Int) from rfl) ?_
  refine hR301 _ _ ?_
  refine au ?_
  refine sap1 ((gj.length : Int)) 0 hO H.2.2.2.2 fun _ BY B1 B3 s hO => ?_
  refine sbs 8 hO fun B6 s hO => ?_
  refine sinc (natbd mA de.bd) ?_
  refine au ?_
  exact hX3 _ H.2.2.2.2.2 _ _ ⟨_, _, _, _, _, _, _, _, _, _, _, _, _, _, _, _, _, _, _, _, _, _, agr, hO, oe.u, de.u, fr⟩
 refine au ?_
 have qc := Stp.nil (e := 31) (r := 1) hO
 refine nst qc fun s hO => ?_
 have t5 := elN (Rp.sl (Rp.int .i64)) hO
 refine sfr 10 hO fun s hO => ?_
 refine sfr 2 hO fun s hO => ?_
 refine sfr 4 hO fun s hO => ?_
 refine sfr 5 hO fun s hO => ?_
 refine sfr 5 hO fun s hO => ?_
 refine sfr 5 hO fun s hO => ?_
 refine sfr 6 hO fun s hO => ?_
 refine sfr 7 hO fun s hO => ?_
 refine sfr 8 hO fun s hO => ?_
 refine sfr 9 hO fun s hO => ?_
 refine sfr 10 hO fun s hO => ?_
 refine Go1.ret2 Try.func131 rfl (Or.inr ⟨(⟨(⟨((ix a0 (0 : Int)).length : Int), true, d_22, gj, kt, d_258, ([] : List (List Int)), d_246, (0 : Int)⟩ : Enum), eU, gi, kr, kq⟩ : run), _, _, _, _, _, _, _, _, _, _, _, _, _, _, _, _, _, _, _, _, _, _, _, _, _, _, _, _, _, _, _, _, _, ?_, frs, hO, de.u, fG.u, t5.u, H⟩)
 exact rfl
theorem body158 : Body Try.prog 158 := ⟨Try.f158, Try.func158, rfl, by kernel_rfl⟩
theorem J41 {A : List Nat} {w0 : World} {p_f p_g : Option Addr} {c_f c_g : Nat} {f g : List Int} (hA : ∀ b ∈ A, b < w0.heap.size) (h_f : ISl (Rp.int .i64) A w0 p_f c_f f) (h_g : ISl (Rp.int .i64) A w0 p_g c_g g) {K : List Int → Prop} (H : J1e f g K) :
    CallsV Try.prog 158 #[.slice p_f f.length c_f, .slice p_g g.length c_g] w0 (fun v w' => ∃ (r0 : List Int) (p_r0 : Option Addr) (c_r0 : Nat), v = .slice p_r0 r0.length c_r0 ∧ Same w0 w' ∧ ISl (Rp.int .i64) A w' p_r0 c_r0 r0 ∧ K r0) := by
 refine CallsV.of (l := [.slice p_f f.length c_f, .slice p_g g.length c_g]) Try.func158 rfl Try.ntmps158 rfl ?_
 have hO := Owns.start hA
 have hB := Fr.refl (bl []) w0
 unfold J1e at H
 refine sln0 ?_
 refine sln0 ?_
 refine scm ((H h_f.bd) h_g.bd) (fun h1 H => ?_) fun h1 H => ?_
 ·refine au ?_
  refine zcr (J00 body154 rfl (J1O hO.lt h_f.u H)) fun _ w3 => e1 fun r2 => sc0 hO fun s hO => fun H => ?_
  cases r2
  ·refine au ?_
   refine Go1.ret1 Try.func158 rfl ⟨_, _, _, ?_, frs, (ISl.null _ _ _), (iF H)⟩
   exact rfl
  refine au ?_
  refine zcr (J00 body154 rfl (J1O hO.lt h_g.u (iT H))) fun _ w5 => e1 fun r4 => sc0 hO fun s hO => fun H => ?_
  cases r4
  ·refine au ?_
   refine Go1.ret1 Try.func158 rfl ⟨_, _, _, ?_, frs, (ISl.null _ _ _), (iF H)⟩
   exact rfl
  refine sln0 ?_
  refine smk Fl.i (iT H) hO fun w6 p7 s hO => ?_
  refine sln0 ?_
  refine au ?_
  refine lw (iT H).2.2 (fun (ku, og) σ w => (fun Z => agrees σ [(1, .slice p_g g.length c_g), (5, .slice p7 f.length f.length), (26, .slice p_f f.length c_f), (27, .int .i64 (f.length : Int)), (28, .int .i64 (ku : Int))] ∧ Owns w0.heap.size w Z A ∧ Fr (bl []) w0 (bl Z) w) [t1 Fl.i 3 p7 f.length f.length og]) ⟨agr, hO, fr⟩ ?_
  refine fun X1 => p1 fun ku og => fun H hX1 σ w9 => d2 fun hag hO hB => ?_
  dsimp only at H
  refine Go1.keep _ hag ?_
  revert hO; repeat (rename Owns _ _ _ _ => q; clear q)
  intro hO; repeat (rename Sq _ _ _ _ _ _ => q; clear q)
  refine scm H (fun h12 H => ?_) fun h12 H => ?_
  ·refine sxl hO h_f.u H.1 H.2.1 ?_
   refine sxl hO h_g.u H.2.2.1 H.2.2.2.1 ?_
   refine six1 0 hO H.2.2.2.2.1 H.2.2.2.2.2.1 ?_
   refine sst (u := (ix g (ix f (ku : Int)))) 0 hO H.2.2.2.2.1 H.2.2.2.2.2.1 fun w13 s hO => ?_
   refine sinc (natbd h12 h_f.bd) ?_
   refine au ?_
   exact hX1 _ H.2.2.2.2.2.2 _ _ ⟨agr, hO, fr⟩
  refine au ?_
  refine sfz 0 hO fun s hO jq jr => ?_
  refine Go1.ret1 Try.func158 rfl ⟨_, _, _, ?_, frs, jq.r, H⟩
  exact (congrArg (fun nn => Value.slice p7 nn f.length) jr)
 refine au ?_
 refine Go1.ret1 Try.func158 rfl ⟨_, _, _, ?_, frs, (ISl.null _ _ _), H⟩
 exact rfl
theorem body159 : Body Try.prog 159 := ⟨Try.f159, Try.func159, rfl, by kernel_rfl⟩
theorem body160 : Body Try.prog 160 := ⟨Try.f160, Try.func160, rfl, by kernel_rfl⟩
theorem body133 : Body Try.prog 133 := ⟨Try.f133, Try.func133, rfl, by kernel_rfl⟩
theorem J2k {A : List Nat} {n0 dx aO aQ aV aX aS aU bi bk aL aN aY a9 ak cv cx ca cd bI bM : Nat} {w0 : World} {aP aW aT bj aM a8 cw cb bK : Option Addr} {b9 cz b7 : List Value} {a0 : run} (hO : Owns n0 w0 [.blk dx (.cells #[.int .i64 a0.Enum.Points, .bool a0.Enum.Monoid, .slice aP aO aQ, .slice aW aV aX, .slice aT aS aU, .slice bj bi bk, .slice aM aL aN, .slice a8 aY a9, .int .i64 a0.Enum.Done, .map (some ak), .slice cw cv cx, .slice cb ca cd, .slice bK bI bM] 156 (0, 0)), .row 31 1 aP aO aQ b9, .row 31 1 aW aV aX cz, t1 Fl.i 3 aT aS aU a0.Enum.Prefix, t1 Fl.i 3 bj bi bk a0.Enum.Last, .row 31 1 aM aL aN b7, t1 (id Fl.fl : Fl rpRule) 185 a8 aY a9 a0.Enum.Rules, t1 Fl.str 9 cw cv cx a0.words, t1 Fl.i 3 cb ca cd a0.behind, t1 Fl.i 3 bK bI bM a0.single, .any (mapE (fun a : List UInt8 => Value.string (gstr a)) (fun a : Int => Value.int .i64 a) ak a0.number)] A) (aa : Els (Rp.sl (Rp.int .i64)) (bl [.blk dx (.cells #[.int .i64 a0.Enum.Points, .bool a0.Enum.Monoid, .slice aP aO aQ, .slice aW aV aX, .slice aT aS aU, .slice bj bi bk, .slice aM aL aN, .slice a8 aY a9, .int .i64 a0.Enum.Done, .map (some ak), .slice cw cv cx, .slice cb ca cd, .slice bK bI bM] 156 (0, 0)), .row 31 1 aP aO aQ b9, .row 31 1 aW aV aX cz, t1 Fl.i 3 aT aS aU a0.Enum.Prefix, t1 Fl.i 3 bj bi bk a0.Enum.Last, .row 31 1 aM aL aN b7, t1 (id Fl.fl : Fl rpRule) 185 a8 aY a9 a0.Enum.Rules, t1 Fl.str 9 cw cv cx a0.words, t1 Fl.i 3 cb ca cd a0.behind, t1 Fl.i 3 bK bI bM a0.single, .any (mapE (fun a : List UInt8 => Value.string (gstr a)) (fun a : Int => Value.int .i64 a) ak a0.number)] ++ A) w0 b9 a0.Enum.Gens) (gM : Els (Rp.sl (Rp.int .i64)) (bl [.blk dx (.cells #[.int .i64 a0.Enum.Points, .bool a0.Enum.Monoid, .slice aP aO aQ, .slice aW aV aX, .slice aT aS aU, .slice bj bi bk, .slice aM aL aN, .slice a8 aY a9, .int .i64 a0.Enum.Done, .map (some ak), .slice cw cv cx, .slice cb ca cd, .slice bK bI bM] 156 (0, 0)), .row 31 1 aP aO aQ b9, .row 31 1 aW aV aX cz, t1 Fl.i 3 aT aS aU a0.Enum.Prefix, t1 Fl.i 3 bj bi bk a0.Enum.Last, .row 31 1 aM aL aN b7, t1 (id Fl.fl : Fl rpRule) 185 a8 aY a9 a0.Enum.Rules, t1 Fl.str 9 cw cv cx a0.words, t1 Fl.i 3 cb ca cd a0.behind, t1 Fl.i 3 bK bI bM a0.single, .any (mapE (fun a : List UInt8 => Value.string (gstr a)) (fun a : Int => Value.int .i64 a) ak a0.number)] ++ A) w0 cz a0.Enum.Elems) (ag : Els (Rp.sl (Rp.int .i64)) (bl [.blk dx (.cells #[.int .i64 a0.Enum.Points, .bool a0.Enum.Monoid, .slice aP aO aQ, .slice aW aV aX, .slice aT aS aU, .slice bj bi bk, .slice aM aL aN, .slice a8 aY a9, .int .i64 a0.Enum.Done, .map (some ak), .slice cw cv cx, .slice cb ca cd, .slice bK bI bM] 156 (0, 0)), .row 31 1 aP aO aQ b9, .row 31 1 aW aV aX cz, t1 Fl.i 3 aT aS aU a0.Enum.Prefix, t1 Fl.i 3 bj bi bk a0.Enum.Last, .row 31 1 aM aL aN b7, t1 (id Fl.fl : Fl rpRule) 185 a8 aY a9 a0.Enum.Rules, t1 Fl.str 9 cw cv cx a0.words, t1 Fl.i 3 cb ca cd a0.behind, t1 Fl.i 3 bK bI bM a0.single, .any (mapE (fun a : List UInt8 => Value.string (gstr a)) (fun a : Int => Value.int .i64 a) ak a0.number)] ++ A) w0 b7 a0.Enum.Right) {K : Int → run → Prop} (H : J0d a0 K) :
    CallsV Try.prog 133 #[.pointer (some ⟨dx, 0, none⟩)] w0 (fun v w' => ∃ (r0 : Int) (q : run) (aF : Nat) (aG : Option Addr) (aH : Nat) (bQ : List Value) (ar : Nat) (av : Option Addr) (aw : Nat) (bA : List Value) (ah : Nat) (ai : Option Addr) (aj aI : Nat) (aJ : Option Addr) (aK ax : Nat) (ay : Option Addr) (az : Nat) (bB : List Value) (aA : Nat) (aB : Option Addr) (aC bU : Nat) (bV : Option Addr) (bW bm : Nat) (bn : Option Addr) (bo bu : Nat) (bw : Option Addr) (bx : Nat), v = .int .i64 r0 ∧ Owns n0 w' [.blk dx (.cells #[.int .i64 q.Enum.Points, .bool q.Enum.Monoid, .slice aG aF aH, .slice av ar aw, .slice ai ah aj, .slice aJ aI aK, .slice ay ax az, .slice aB aA aC, .int .i64 q.Enum.Done, .map (some ak), .slice bV bU bW, .slice bn bm bo, .slice bw bu bx] 156 (0, 0)), .row 31 1 aG aF aH bQ, .row 31 1 av ar aw bA, t1 Fl.i 3 ai ah aj q.Enum.Prefix, t1 Fl.i 3 aJ aI aK q.Enum.Last, .row 31 1 ay ax az bB, t1 (id Fl.fl : Fl rpRule) 185 aB aA aC q.Enum.Rules, t1 Fl.str 9 bV bU bW q.words, t1 Fl.i 3 bn bm bo q.behind, t1 Fl.i 3 bw bu bx q.single, .any (mapE (fun a : List UInt8 => Value.string (gstr a)) (fun a : Int => Value.int .i64 a) ak q.number)] A ∧ Els (Rp.sl (Rp.int .i64)) (bl [.blk dx (.cells #[.int .i64 q.Enum.Points, .bool q.Enum.Monoid, .slice aG aF aH, .slice av ar aw, .slice ai ah aj, .slice aJ aI aK, .slice ay ax az, .slice aB aA aC, .int .i64 q.Enum.Done, .map (some ak), .slice bV bU bW, .slice bn bm bo, .slice bw bu bx] 156 (0, 0)), .row 31 1 aG aF aH bQ, .row 31 1 av ar aw bA, t1 Fl.i 3 ai ah aj q.Enum.Prefix, t1 Fl.i 3 aJ aI aK q.Enum.Last, .row 31 1 ay ax az bB, t1 (id Fl.fl : Fl rpRule) 185 aB aA aC q.Enum.Rules, t1 Fl.str 9 bV bU bW q.words, t1 Fl.i 3 bn bm bo q.behind, t1 Fl.i 3 bw bu bx q.single, .any (mapE (fun a : List UInt8 => Value.string (gstr a)) (fun a : Int => Value.int .i64 a) ak q.number)] ++ A) w' bQ q.Enum.Gens ∧ Els (Rp.sl (Rp.int .i64)) (bl [.blk dx (.cells #[.int .i64 q.Enum.Points, .bool q.Enum.Monoid, .slice aG aF aH, .slice av ar aw, .slice ai ah aj, .slice aJ aI aK, .slice ay ax az, .slice aB aA aC, .int .i64 q.Enum.Done, .map (some ak), .slice bV bU bW, .slice bn bm bo, .slice bw bu bx] 156 (0, 0)), .row 31 1 aG aF aH bQ, .row 31 1 av ar aw bA, t1 Fl.i 3 ai ah aj q.Enum.Prefix, t1 Fl.i 3 aJ aI aK q.Enum.Last, .row 31 1 ay ax az bB, t1 (id Fl.fl : Fl rpRule) 185 aB aA aC q.Enum.Rules, t1 Fl.str 9 bV bU bW q.words, t1 Fl.i 3 bn bm bo q.behind, t1 Fl.i 3 bw bu bx q.single, .any (mapE (fun a : List UInt8 => Value.string (gstr a)) (fun a : Int => Value.int .i64 a) ak q.number)] ++ A) w' bA q.Enum.Elems ∧ Els (Rp.sl (Rp.int .i64)) (bl [.blk dx (.cells #[.int .i64 q.Enum.Points, .bool q.Enum.Monoid, .slice aG aF aH, .slice av ar aw, .slice ai ah aj, .slice aJ aI aK, .slice ay ax az, .slice aB aA aC, .int .i64 q.Enum.Done, .map (some ak), .slice bV bU bW, .slice bn bm bo, .slice bw bu bx] 156 (0, 0)), .row 31 1 aG aF aH bQ, .row 31 1 av ar aw bA, t1 Fl.i 3 ai ah aj q.Enum.Prefix, t1 Fl.i 3 aJ aI aK q.Enum.Last, .row 31 1 ay ax az bB, t1 (id Fl.fl : Fl rpRule) 185 aB aA aC q.Enum.Rules, t1 Fl.str 9 bV bU bW q.words, t1 Fl.i 3 bn bm bo q.behind, t1 Fl.i 3 bw bu bx q.single, .any (mapE (fun a : List UInt8 => Value.string (gstr a)) (fun a : Int => Value.int .i64 a) ak q.number)] ++ A) w' bB q.Enum.Right ∧ Fr (bl [.blk dx (.cells #[.int .i64 a0.Enum.Points, .bool a0.Enum.Monoid, .slice aP aO aQ, .slice aW aV aX, .slice aT aS aU, .slice bj bi bk, .slice aM aL aN, .slice a8 aY a9, .int .i64 a0.Enum.Done, .map (some ak), .slice cw cv cx, .slice cb ca cd, .slice bK bI bM] 156 (0, 0)), .row 31 1 aP aO aQ b9, .row 31 1 aW aV aX cz, t1 Fl.i 3 aT aS aU a0.Enum.Prefix, t1 Fl.i 3 bj bi bk a0.Enum.Last, .row 31 1 aM aL aN b7, t1 (id Fl.fl : Fl rpRule) 185 a8 aY a9 a0.Enum.Rules, t1 Fl.str 9 cw cv cx a0.words, t1 Fl.i 3 cb ca cd a0.behind, t1 Fl.i 3 bK bI bM a0.single, .any (mapE (fun a : List UInt8 => Value.string (gstr a)) (fun a : Int => Value.int .i64 a) ak a0.number)]) w0 (bl [.blk dx (.cells #[.int .i64 q.Enum.Points, .bool q.Enum.Monoid, .slice aG aF aH, .slice av ar aw, .slice ai ah aj, .slice aJ aI aK, .slice ay ax az, .slice aB aA aC, .int .i64 q.Enum.Done, .map (some ak), .slice bV bU bW, .slice bn bm bo, .slice bw bu bx] 156 (0, 0)), .row 31 1 aG aF aH bQ, .row 31 1 av ar aw bA, t1 Fl.i 3 ai ah aj q.Enum.Prefix, t1 Fl.i 3 aJ aI aK q.Enum.Last, .row 31 1 ay ax az bB, t1 (id Fl.fl : Fl rpRule) 185 aB aA aC q.Enum.Rules, t1 Fl.str 9 bV bU bW q.words, t1 Fl.i 3 bn bm bo q.behind, t1 Fl.i 3 bw bu bx q.single, .any (mapE (fun a : List UInt8 => Value.string (gstr a)) (fun a : Int => Value.int .i64 a) ak q.number)]) w' ∧ K r0 q) := by
 refine CallsV.of (l := [.pointer (some ⟨dx, 0, none⟩)]) Try.func133 rfl Try.ntmps133 rfl ?_
 have hB := Fr.refl (bl [.blk dx (.cells #[.int .i64 a0.Enum.Points, .bool a0.Enum.Monoid, .slice aP aO aQ, .slice aW aV aX, .slice aT aS aU, .slice bj bi bk, .slice aM aL aN, .slice a8 aY a9, .int .i64 a0.Enum.Done, .map (some ak), .slice cw cv cx, .slice cb ca cd, .slice bK bI bM] 156 (0, 0)), .row 31 1 aP aO aQ b9, .row 31 1 aW aV aX cz, t1 Fl.i 3 aT aS aU a0.Enum.Prefix, t1 Fl.i 3 bj bi bk a0.Enum.Last, .row 31 1 aM aL aN b7, t1 (id Fl.fl : Fl rpRule) 185 a8 aY a9 a0.Enum.Rules, t1 Fl.str 9 cw cv cx a0.words, t1 Fl.i 3 cb ca cd a0.behind, t1 Fl.i 3 bK bI bM a0.single, .any (mapE (fun a : List UInt8 => Value.string (gstr a)) (fun a : Int => Value.int .i64 a) ak a0.number)]) w0
 unfold J0d at H
 refine au ?_
 refine zo (J0S Try.underlying23 rfl (Els.neqW aa hO 1 rfl)) ?_
 refine smk Fl.i H hO fun w1 p4 s hO => ?_
 refine au ?_
 refine zo (J0S Try.underlying23 rfl (Els.neqW aa.u hO 2 rfl)) ?_
 refine au ?_
 refine lw H.2.2 (fun (bc, d_8, d_9, kw, kx, kz, d_27, fA, di) σ w => ∃ n14 p12 c13 mD n18 p16 c17 n22 p20 c21 n26 p24 c25 n30 p28 c29 n34 p32 c33, (fun Z => agrees σ [(0, .pointer (some ⟨dx, 0, none⟩)), (3, .int .i64 a0.Enum.Done), (4, .slice p4 a0.Enum.Gens.length a0.Enum.Gens.length), (27, .slice aP aO aQ), (28, .int .i64 (a0.Enum.Gens.length : Int)), (29, .int .i64 (bc : Int))] ∧ Owns n0 w Z A ∧ Els (Rp.sl (Rp.int .i64)) (bl Z ++ A) w b9 a0.Enum.Gens ∧ Els (Rp.sl (Rp.int .i64)) (bl Z ++ A) w mD d_9 ∧ Els (Rp.sl (Rp.int .i64)) (bl Z ++ A) w b7 a0.Enum.Right ∧ Fr (bl [.blk dx (.cells #[.int .i64 a0.Enum.Points, .bool a0.Enum.Monoid, .slice aP aO aQ, .slice aW aV aX, .slice aT aS aU, .slice bj bi bk, .slice aM aL aN, .slice a8 aY a9, .int .i64 a0.Enum.Done, .map (some ak), .slice cw cv cx, .slice cb ca cd, .slice bK bI bM] 156 (0, 0)), .row 31 1 aP aO aQ b9, .row 31 1 aW aV aX cz, t1 Fl.i 3 aT aS aU a0.Enum.Prefix, t1 Fl.i 3 bj bi bk a0.Enum.Last, .row 31 1 aM aL aN b7, t1 (id Fl.fl : Fl rpRule) 185 a8 aY a9 a0.Enum.Rules, t1 Fl.str 9 cw cv cx a0.words, t1 Fl.i 3 cb ca cd a0.behind, t1 Fl.i 3 bK bI bM a0.single, .any (mapE (fun a : List UInt8 => Value.string (gstr a)) (fun a : Int => Value.int .i64 a) ak a0.number)]) w0 (bl Z) w) [t1 Fl.i 3 p4 a0.Enum.Gens.length a0.Enum.Gens.length d_8, .blk dx (.cells #[.int .i64 a0.Enum.Points, .bool a0.Enum.Monoid, .slice aP aO aQ, .slice p12 n14 c13, .slice p16 n18 c17, .slice p20 n22 c21, .slice aM aL aN, .slice p24 n26 c25, .int .i64 a0.Enum.Done, .map (some ak), .slice p28 n30 c29, .slice p32 n34 c33, .slice bK bI bM] 156 (0, 0)), .row 31 1 aP aO aQ b9, .row 31 1 p12 n14 c13 mD, t1 Fl.i 3 p16 n18 c17 kw, t1 Fl.i 3 p20 n22 c21 kx, .row 31 1 aM aL aN b7, t1 (id Fl.fl : Fl rpRule) 185 p24 n26 c25 kz, t1 Fl.str 9 p28 n30 c29 d_27, t1 Fl.i 3 p32 n34 c33 fA, t1 Fl.i 3 bK bI bM a0.single, .any (mapE (fun a : List UInt8 => Value.string (gstr a)) (fun a : Int => Value.int .i64 a) ak di)]) ⟨_, _, _, _, _, _, _, _, _, _, _, _, _, _, _, _, _, _, _, agr, hO, aa.u, gM.u, ag.u, fr⟩ ?_
 refine fun X1 => p1 fun bc => p1 fun d_8 => p1 fun d_9 => p1 fun kw => p1 fun kx => p3 fun kz d_27 fA di => fun H hX1 σ w6 => e4 fun n14 p12 c13 mD => e4 fun n18 p16 c17 n22 => e4 fun p20 c21 n26 p24 => e4 fun c25 n30 p28 c29 => e3 fun n34 p32 c33 => d1 fun hag => d4 fun hO aa dH ag hB => ?_
 dsimp only at H
 refine Go1.keep _ hag ?_
 revert hO; repeat (rename Owns _ _ _ _ => q; clear q)
 intro hO; repeat (rename Sq _ _ _ _ _ _ => q; clear q)
 refine scm H (fun h36 H => ?_) fun h36 H => ?_
 ·refine au ?_
  obtain ⟨h37, H⟩ := H
  obtain ⟨h38, H⟩ := H
  refine zo (J01 Try.underlying23 ti31 rfl rfl h37 (ltn (Els.neqW aa hO 2 rfl) h38) (Els.psomeW aa hO 2 rfl h37 h38)) ?_
  have zz := oldSl 2 hO rfl aa h37 h38
  obtain ⟨p39, c40, xq, xr⟩ := zz
  refine zs (xr Try.underlying31 rfl rfl) ?_
  refine au ?_
  obtain ⟨h43, H⟩ := H
  obtain ⟨h44, H⟩ := H
  refine zo (J01 Try.underlying23 ti31 rfl rfl h43 (ltn (Els.neqW dH hO 3 rfl) h44) (Els.psomeW dH hO 3 rfl h43 h44)) ?_
  have zz := oldSl 3 hO rfl dH h43 h44
  obtain ⟨p45, c46, xt, xv⟩ := zz
  refine zs (xv Try.underlying31 rfl rfl) ?_
  refine au ?_
  refine zcr (J00 body158 rfl (J41 hO.lt xt xq H)) fun _ w50 => e3 fun r49 fH fI => sc0 hO fun s hO => d1 fun gV H => ?_
  refine au ?_
  refine drw 0 [(0, .pure), (1, .pure), (2, .pure), (3, .stable), (4, .pure), (5, .loud), (6, .stable), (7, .pure), (8, .pure), (9, .pure), (10, .pure), (11, .pure)] hO fun w51 s hO => ?_
  refine au ?_
  refine zcq rfl (J00 body157 rfl (J05 hO.lt gV.u H)) fun _ w53 => e1 fun r52 => sq0 hO fun s hO => d1 fun zd H => ?_
  by_cases h54 : mhas di r52 = true
  ·refine GoQ.stable rfl (olookT (a := r52) (MK.str Try.underlying9) 11 hO rfl Try.underlying154 rfl rfl h54) rfl rfl ?_
   refine sxl1 8 hO (ifp h54 H).1 (ifp h54 H).2.1 ?_
   have hle55 := t1le 8 hO (ifp h54 H).1 (ifp h54 H).2.1
   refine au ?_
   have h56 := (ifp h54 H).1
   have h57 := (ifp h54 H).2.1
   replace H := (ifp h54 H).2.2
   obtain ⟨h58, H⟩ := H
   refine zo (J0p rfl rfl (wrap_i64 h58)) ?_
   refine zo (J3e Try.underlying3 Try.underlying21 rfl rfl) ?_
   obtain ⟨h59, H⟩ := H
   obtain ⟨h60, H⟩ := H
   refine zo (J42 Try.underlying21 Try.underlying9 rfl h59 h60) ?_
   obtain ⟨h61, H⟩ := H
   refine zo (J3S rfl rfl h61) ?_
   refine sxl1 8 hO H.1 H.2.1 ?_
   have hle62 := t1le 8 hO H.1 H.2.1
   have h63 := H.1
   have h64 := H.2.1
   refine scm H.2.2 (fun h65 H => ?_) fun h65 H => ?_
   ·refine six1 0 hO H.1 H.2.1 ?_
    refine sst (u := (mgt di r52)) 0 hO H.1 H.2.1 fun w66 s hO => ?_
    refine sinc (natbd h36 aa.bd) ?_
    refine au ?_
    exact hX1 _ H.2.2 _ _ ⟨_, _, _, _, _, _, _, _, _, _, _, _, _, _, _, _, _, _, _, agr, hO, aa.u, dH.u, ag.u, fr⟩
   refine six1 9 hO H.1 H.2.1 ?_
   refine sld1 9 hO H.1 H.2.1 ?_
   refine au ?_
   refine GoR.inl (vs := [.pointer (some ⟨dx, 0, none⟩), .int .i64 (ix fA a0.Enum.Done), .int .i64 (bc : Int)]) (caps := []) rfl rfl body160 Try.func160 rfl Try.ntmps160 rfl rfl rfl ?_
   intro RhR67 hR67
   refine au ?_
   refine GoR.inl (vs := [.pointer (some ⟨dx, 0, none⟩), .int .i64 (ix fA a0.Enum.Done), .int .i64 (bc : Int)]) (caps := []) rfl rfl body159 Try.func159 rfl Try.ntmps159 rfl rfl rfl ?_
   intro RhR68 hR68
   refine scm H.2.2 (fun h69 H => ?_) fun h69 H => ?_
   ·refine sxl1 10 hO H.1 H.2.1 ?_
    refine au ?_
    refine Go1.ret1V Try.func159 rfl (show _ = .int .i64 (ix a0.single (bc : Int)) from rfl) ?_
    refine hR68 _ _ ?_
    refine sxl1 4 hO H.2.2.1 H.2.2.2.1 ?_
    refine au ?_
    have h70 := H.2.2.1
    have h71 := H.2.2.2.1
    refine scm H.2.2.2.2 (fun h72 H => ?_) fun h72 H => ?_
    ·refine six1 5 hO H.1 H.2.1 ?_
     refine sld1 5 hO H.1 H.2.1 ?_
     refine au ?_
     have h73 := H.1
     have h74 := H.2.1
     refine scm H.2.2 (fun h75 H => ?_) fun h75 H => ?_
     ·refine au ?_
      refine Go1.ret1V Try.func160 rfl (show _ = .bool true from rfl) ?_
      refine hR67 _ _ ?_
      refine au ?_
      refine drw 5 [(0, .pure), (1, .pure), (2, .pure), (3, .pure), (4, .pure), (5, .stable), (6, .pure), (7, .pure), (8, .pure), (9, .pure), (10, .stable), (11, .pure), (12, .pure), (13, .stable), (14, .pure), (15, .loud), (16, .last), (17, .pure), (18, .pure), (19, .pure), (20, .last)] hO fun w76 s hO => ?_
      refine sxl1 8 hO H.1 H.2.1 ?_
      have hle77 := t1le 8 hO H.1 H.2.1
      refine GoQ.pure rfl (J09 Try.underlying185 ti185 (pl := [(0, 1), (1, 1)]) (vs := [(0, .string (gstr ((ix d_27 a0.Enum.Done) ++ (chr (IntKind.i32.wrap ((97 : Int) + (bc : Int))))))), (1, .string (gstr (ix d_27 (mgt di r52))))]) (cs := #[.string (gstr ((ix d_27 a0.Enum.Done) ++ (chr (IntKind.i32.wrap ((97 : Int) + (bc : Int)))))), .string (gstr (ix d_27 (mgt di r52)))]) (by kernel_rfl) rfl (by kernel_rfl)) rfl rfl ?_
      refine sapF (⟨((ix d_27 a0.Enum.Done) ++ (chr (IntKind.i32.wrap ((97 : Int) + (bc : Int))))), ix d_27 (mgt di r52)⟩ : Rule) 7 hO H.2.2 (fun _ w78 p79 c80 s hO => ?_) (hok := by exact ⟨(lenApp h61), hle77⟩)
      refine sbs 1 hO fun w81 s hO => ?_
      refine six1 0 hO H.2.2.2.1 H.2.2.2.2.1 ?_
      refine sst (u := (mgt di r52)) 0 hO H.2.2.2.1 H.2.2.2.2.1 fun w82 s hO => ?_
      refine sinc (natbd h36 aa.bd) ?_
      refine au ?_
      exact hX1 _ H.2.2.2.2.2 _ _ ⟨_, _, _, _, _, _, _, _, _, _, _, _, _, _, _, _, _, _, _, agr, hO, aa.u, dH.u, ag.u, fr⟩
     refine au ?_
     refine Go1.ret1V Try.func160 rfl (show _ = .bool false from rfl) ?_
     refine hR67 _ _ ?_
     refine six1 0 hO H.1 H.2.1 ?_
     refine sst (u := (mgt di r52)) 0 hO H.1 H.2.1 fun w83 s hO => ?_
     refine sinc (natbd h36 aa.bd) ?_
     refine au ?_
     exact hX1 _ H.2.2 _ _ ⟨_, _, _, _, _, _, _, _, _, _, _, _, _, _, _, _, _, _, _, agr, hO, aa.u, dH.u, ag.u, fr⟩
    refine au ?_
    refine Go1.ret1V Try.func160 rfl (show _ = .bool false from rfl) ?_
    refine hR67 _ _ ?_
    refine six1 0 hO H.1 H.2.1 ?_
    refine sst (u := (mgt di r52)) 0 hO H.1 H.2.1 fun w84 s hO => ?_
    refine sinc (natbd h36 aa.bd) ?_
    refine au ?_
    exact hX1 _ H.2.2 _ _ ⟨_, _, _, _, _, _, _, _, _, _, _, _, _, _, _, _, _, _, _, agr, hO, aa.u, dH.u, ag.u, fr⟩
   refine au ?_
   obtain ⟨h85, H⟩ := H
   obtain ⟨h86, H⟩ := H
   refine zo (J01 Try.underlying23 ti31 rfl rfl h85 (ltn (Els.neqW ag.u hO 6 rfl) h86) (Els.psomeW ag.u hO 6 rfl h85 h86)) ?_
   have zz := oldSl 6 hO rfl ag.u h85 h86
   obtain ⟨p87, c88, lI, xw⟩ := zz
   refine zs (xw Try.underlying31 rfl rfl) ?_
   refine sxl hO lI H.1 H.2.1 ?_
   refine au ?_
   refine Go1.ret1V Try.func159 rfl (show _ = .int .i64 (ix (ix a0.Enum.Right (ix fA a0.Enum.Done)) (bc : Int)) from rfl) ?_
   refine hR68 _ _ ?_
   refine sxl1 4 hO H.2.2.1 H.2.2.2.1 ?_
   refine au ?_
   have h91 := H.2.2.1
   have h92 := H.2.2.2.1
   refine scm H.2.2.2.2 (fun h93 H => ?_) fun h93 H => ?_
   ·refine six1 5 hO H.1 H.2.1 ?_
    refine sld1 5 hO H.1 H.2.1 ?_
    refine au ?_
    have h94 := H.1
    have h95 := H.2.1
    refine scm H.2.2 (fun h96 H => ?_) fun h96 H => ?_
    ·refine au ?_
     refine Go1.ret1V Try.func160 rfl (show _ = .bool true from rfl) ?_
     refine hR67 _ _ ?_
     refine au ?_
     refine drw 5 [(0, .pure), (1, .pure), (2, .pure), (3, .pure), (4, .pure), (5, .stable), (6, .pure), (7, .pure), (8, .pure), (9, .pure), (10, .stable), (11, .pure), (12, .pure), (13, .stable), (14, .pure), (15, .loud), (16, .last), (17, .pure), (18, .pure), (19, .pure), (20, .last)] hO fun w97 s hO => ?_
     refine sxl1 8 hO H.1 H.2.1 ?_
     have hle98 := t1le 8 hO H.1 H.2.1
     refine GoQ.pure rfl (J09 Try.underlying185 ti185 (pl := [(0, 1), (1, 1)]) (vs := [(0, .string (gstr ((ix d_27 a0.Enum.Done) ++ (chr (IntKind.i32.wrap ((97 : Int) + (bc : Int))))))), (1, .string (gstr (ix d_27 (mgt di r52))))]) (cs := #[.string (gstr ((ix d_27 a0.Enum.Done) ++ (chr (IntKind.i32.wrap ((97 : Int) + (bc : Int)))))), .string (gstr (ix d_27 (mgt di r52)))]) (by kernel_rfl) rfl (by kernel_rfl)) rfl rfl ?_
     refine sapF (⟨((ix d_27 a0.Enum.Done) ++ (chr (IntKind.i32.wrap ((97 : Int) + (bc : Int))))), ix d_27 (mgt di r52)⟩ : Rule) 7 hO H.2.2 (fun _ w99 B9 Ca s hO => ?_) (hok := by exact ⟨(lenApp h61), hle98⟩)
     refine sbs 1 hO fun Cb s hO => ?_
     refine six1 0 hO H.2.2.2.1 H.2.2.2.2.1 ?_
     refine sst (u := (mgt di r52)) 0 hO H.2.2.2.1 H.2.2.2.2.1 fun wH s hO => ?_
     refine sinc (natbd h36 aa.bd) ?_
     refine au ?_
     exact hX1 _ H.2.2.2.2.2 _ _ ⟨_, _, _, _, _, _, _, _, _, _, _, _, _, _, _, _, _, _, _, agr, hO, aa.u, dH.u, ag.u, fr⟩
    refine au ?_
    refine Go1.ret1V Try.func160 rfl (show _ = .bool false from rfl) ?_
    refine hR67 _ _ ?_
    refine six1 0 hO H.1 H.2.1 ?_
    refine sst (u := (mgt di r52)) 0 hO H.1 H.2.1 fun wI s hO => ?_
    refine sinc (natbd h36 aa.bd) ?_
    refine au ?_
    exact hX1 _ H.2.2 _ _ ⟨_, _, _, _, _, _, _, _, _, _, _, _, _, _, _, _, _, _, _, agr, hO, aa.u, dH.u, ag.u, fr⟩
   refine au ?_
   refine Go1.ret1V Try.func160 rfl (show _ = .bool false from rfl) ?_
   refine hR67 _ _ ?_
   refine six1 0 hO H.1 H.2.1 ?_
   refine sst (u := (mgt di r52)) 0 hO H.1 H.2.1 fun v9 s hO => ?_
   refine sinc (natbd h36 aa.bd) ?_
   refine au ?_
   exact hX1 _ H.2.2 _ _ ⟨_, _, _, _, _, _, _, _, _, _, _, _, _, _, _, _, _, _, _, agr, hO, aa.u, dH.u, ag.u, fr⟩
  refine GoQ.stable rfl (olookF (a := r52) (MK.str Try.underlying9) 11 hO rfl Try.underlying154 ti3 rfl rfl h54) rfl rfl ?_
  refine sxl1 8 hO (ifn h54 H).1 (ifn h54 H).2.1 ?_
  have hle106 := t1le 8 hO (ifn h54 H).1 (ifn h54 H).2.1
  refine au ?_
  have gG := (ifn h54 H).1
  have o5 := (ifn h54 H).2.1
  replace H := (ifn h54 H).2.2
  obtain ⟨xz, H⟩ := H
  refine zo (J0p rfl rfl (wrap_i64 xz)) ?_
  refine zo (J3e Try.underlying3 Try.underlying21 rfl rfl) ?_
  obtain ⟨xA, H⟩ := H
  obtain ⟨jg, H⟩ := H
  refine zo (J42 Try.underlying21 Try.underlying9 rfl xA jg) ?_
  obtain ⟨gH, H⟩ := H
  refine zo (J3S rfl rfl gH) ?_
  refine au ?_
  refine zo (J0S Try.underlying23 rfl (Els.neqW dH.u hO 3 rfl)) ?_
  refine scm H (fun gI H => ?_) fun gI H => ?_
  ·refine au ?_
   refine sdr [0] hO fun s hO => ?_
   refine Go1.ret1 Try.func133 rfl ⟨_, (⟨(⟨a0.Enum.Points, a0.Enum.Monoid, a0.Enum.Gens, d_9, kw, kx, a0.Enum.Right, kz, a0.Enum.Done⟩ : Enum), di, d_27, fA, a0.single⟩ : run), _, _, _, _, _, _, _, _, _, _, _, _, _, _, _, _, _, _, _, _, _, _, _, _, _, _, _, _, _, _, ?_, hO, aa.u, dH.u, ag.u, fr, H⟩
   exact rfl
  refine sxl1 9 hO H.1 H.2.1 ?_
  refine au ?_
  refine GoR.inl (vs := [.pointer (some ⟨dx, 0, none⟩), .int .i64 (ix fA a0.Enum.Done), .int .i64 (bc : Int)]) (caps := []) rfl rfl body159 Try.func159 rfl Try.ntmps159 rfl rfl rfl ?_
  intro RhR114 hR114
  refine scm H.2.2 (fun xB H => ?_) fun xB H => ?_
  ·refine sxl1 10 hO H.1 H.2.1 ?_
   refine au ?_
   refine Go1.ret1V Try.func159 rfl (show _ = .int .i64 (ix a0.single (bc : Int)) from rfl) ?_
   refine hR114 _ _ ?_
   refine GoR.inl (vs := [.pointer (some ⟨dx, 0, none⟩), .slice fH r49.length fI, .int .i64 a0.Enum.Done, .int .i64 (bc : Int), .string (gstr ((ix d_27 a0.Enum.Done) ++ (chr (IntKind.i32.wrap ((97 : Int) + (bc : Int)))))), .int .i64 (ix a0.single (bc : Int))]) (caps := []) rfl rfl body155 Try.func155 rfl Try.ntmps155 rfl rfl rfl ?_
   intro RhR116 hR116
   refine au ?_
   refine zo (J0S Try.underlying23 rfl (Els.neqW dH.u hO 3 rfl)) ?_
   refine au ?_
   refine drw 1 [(0, .pure), (1, .pure), (2, .pure), (3, .stable), (4, .pure), (6, .pure), (5, .loud), (7, .last)] hO fun wT s hO => ?_
   refine au ?_
   refine zcq rfl (J00 body157 rfl (J05 hO.lt gV.u H.2.2)) fun _ o6 => e1 fun xC => sq0 hO fun s hO => d1 fun y9 H => ?_
   have zz := omapUpd (MK.str Try.underlying9) 11 hO rfl Try.underlying154 xC (d_9.length : Int)
   obtain ⟨Cc, jh, qd⟩ := zz
   refine GoQ.last rfl (qd (by exact rfl) (by exact rfl) (by exact rfl)) rfl rfl ?_
   refine nst jh fun s hO => ?_
   refine au ?_
   have zz := J2B (r := Rp.sl (Rp.int .i64)) (n := 1) (parts := [(0, .slice fH r49.length fI)]) (vs := [.slice fH r49.length fI]) (xs := [r49]) rfl Try.underlying23 ti31 hO (by decide) (by kernel_rfl) (Els.cons rfl ⟨fH, fI, rfl, gV.u⟩ (Els.nil _ _ _) (by simp [mx])) rfl
   obtain ⟨Cd, Ce, qe, t6, zE, qf⟩ := zz
   refine zg (qf rfl) ?_
   refine nst qe fun s hO => ?_
   refine sfzR 0 hO t6 fun s hO t7 t8 => ?_
   obtain ⟨qg, H⟩ := H
   have zz := oapp Try.underlying23 ti31 rfl 3 hO rfl dH.u t7 t8 qg (by decide)
   obtain ⟨Cf, Cg, Ci, zF, qh, oh, qi⟩ := zz
   dsimp only [sS, sZ] at oh
   refine zg (qi (by exact rfl) (by exact rfl)) ?_
   refine nst qh fun s hO => ?_
   refine sbs 1 hO fun xD s hO => ?_
   refine au ?_
   refine sap1 a0.Enum.Done 4 hO H fun _ xE Cj Ck s hO => ?_
   refine sbs 1 hO fun wY s hO => ?_
   refine au ?_
   refine sap1 ((bc : Int)) 5 hO H.2 fun _ Cl Cm Cn s hO => ?_
   refine sbs 1 hO fun xF s hO => ?_
   refine au ?_
   refine sap1 (((ix d_27 a0.Enum.Done) ++ (chr (IntKind.i32.wrap ((97 : Int) + (bc : Int)))))) 8 hO H.2.2 (fun _ Co Cp Cq s hO => ?_) (hR := by exact fun _ _ => ⟨rfl, (lenApp gH)⟩)
   refine sbs 1 hO fun o9 s hO => ?_
   refine au ?_
   refine sap1 ((ix a0.single (bc : Int))) 9 hO H.2.2.2 fun _ Cr Ct Cu s hO => ?_
   refine sbs 1 hO fun Cv s hO => ?_
   refine au ?_
   refine Go1.ret1V Try.func155 rfl (show _ = .int .i64 (d_9.length : Int) from rfl) ?_
   refine hR116 _ _ ?_
   refine six1 0 hO H.2.2.2.2.1 H.2.2.2.2.2.1 ?_
   refine sst (u := (d_9.length : Int)) 0 hO H.2.2.2.2.1 H.2.2.2.2.2.1 fun Cw s hO => ?_
   refine sinc (natbd h36 aa.bd) ?_
   refine au ?_
   exact hX1 _ H.2.2.2.2.2.2 _ _ ⟨_, _, _, _, _, _, _, _, _, _, _, _, _, _, _, _, _, _, _, agr, hO, aa.u, oh.u, ag.u, fr⟩
  refine au ?_
  obtain ⟨h159, H⟩ := H
  obtain ⟨mE, H⟩ := H
  refine zo (J01 Try.underlying23 ti31 rfl rfl h159 (ltn (Els.neqW ag.u hO 6 rfl) mE) (Els.psomeW ag.u hO 6 rfl h159 mE)) ?_
  have zz := oldSl 6 hO rfl ag.u h159 mE
  obtain ⟨iI, Cx, t9, ua⟩ := zz
  refine zs (ua Try.underlying31 rfl rfl) ?_
  refine sxl hO t9 H.1 H.2.1 ?_
  refine au ?_
  refine Go1.ret1V Try.func159 rfl (show _ = .int .i64 (ix (ix a0.Enum.Right (ix fA a0.Enum.Done)) (bc : Int)) from rfl) ?_
  refine hR114 _ _ ?_
  refine GoR.inl (vs := [.pointer (some ⟨dx, 0, none⟩), .slice fH r49.length fI, .int .i64 a0.Enum.Done, .int .i64 (bc : Int), .string (gstr ((ix d_27 a0.Enum.Done) ++ (chr (IntKind.i32.wrap ((97 : Int) + (bc : Int)))))), .int .i64 (ix (ix a0.Enum.Right (ix fA a0.Enum.Done)) (bc : Int))]) (caps := []) rfl rfl body155 Try.func155 rfl Try.ntmps155 rfl rfl rfl ?_
  intro RhR165 hR165
  refine au ?_
  refine zo (J0S Try.underlying23 rfl (Els.neqW dH.u hO 3 rfl)) ?_
  refine au ?_
  refine drw 1 [(0, .pure), (1, .pure), (2, .pure), (3, .stable), (4, .pure), (6, .pure), (5, .loud), (7, .last)] hO fun Cy s hO => ?_
  refine au ?_
  refine zcq rfl (J00 body157 rfl (J05 hO.lt gV.u H.2.2)) fun _ pI => e1 fun r167 => sq0 hO fun s hO => d1 fun zc H => ?_
  have zz := omapUpd (MK.str Try.underlying9) 11 hO rfl Try.underlying154 r167 (d_9.length : Int)
  obtain ⟨Cz, qj, qk⟩ := zz
  refine GoQ.last rfl (qk (by exact rfl) (by exact rfl) (by exact rfl)) rfl rfl ?_
  refine nst qj fun s hO => ?_
  refine au ?_
  have zz := J2B (r := Rp.sl (Rp.int .i64)) (n := 1) (parts := [(0, .slice fH r49.length fI)]) (vs := [.slice fH r49.length fI]) (xs := [r49]) rfl Try.underlying23 ti31 hO (by decide) (by kernel_rfl) (Els.cons rfl ⟨fH, fI, rfl, gV.u⟩ (Els.nil _ _ _) (by simp [mx])) rfl
  obtain ⟨pK, xc, ql, ub, zG, qm⟩ := zz
  refine zg (qm rfl) ?_
  refine nst ql fun s hO => ?_
  refine sfzR 0 hO ub fun s hO jX jY => ?_
  obtain ⟨xG, H⟩ := H
  have zz := oapp Try.underlying23 ti31 rfl 3 hO rfl dH.u jX jY xG (by decide)
  obtain ⟨CA, CB, CC, zH, qn, ol, qo⟩ := zz
  dsimp only [sS, sZ] at ol
  refine zg (qo (by exact rfl) (by exact rfl)) ?_
  refine nst qn fun s hO => ?_
  refine sbs 1 hO fun xe s hO => ?_
  refine au ?_
  refine sap1 a0.Enum.Done 4 hO H fun _ wr CD CE s hO => ?_
  refine sbs 1 hO fun CF s hO => ?_
  refine au ?_
  refine sap1 ((bc : Int)) 5 hO H.2 fun _ wt CG CH s hO => ?_
  refine sbs 1 hO fun CJ s hO => ?_
  refine au ?_
  refine sap1 (((ix d_27 a0.Enum.Done) ++ (chr (IntKind.i32.wrap ((97 : Int) + (bc : Int)))))) 8 hO H.2.2 (fun _ wu CK CM s hO => ?_) (hR := by exact fun _ _ => ⟨rfl, (lenApp gH)⟩)
  refine sbs 1 hO fun CO s hO => ?_
  refine au ?_
  refine sap1 ((ix (ix a0.Enum.Right (ix fA a0.Enum.Done)) (bc : Int))) 9 hO H.2.2.2 fun _ ww CP CQ s hO => ?_
  refine sbs 1 hO fun CR s hO => ?_
  refine au ?_
  refine Go1.ret1V Try.func155 rfl (show _ = .int .i64 (d_9.length : Int) from rfl) ?_
  refine hR165 _ _ ?_
  refine six1 0 hO H.2.2.2.2.1 H.2.2.2.2.2.1 ?_
  refine sst (u := (d_9.length : Int)) 0 hO H.2.2.2.2.1 H.2.2.2.2.2.1 fun CT s hO => ?_
  refine sinc (natbd h36 aa.bd) ?_
  refine au ?_
  exact hX1 _ H.2.2.2.2.2.2 _ _ ⟨_, _, _, _, _, _, _, _, _, _, _, _, _, _, _, _, _, _, _, agr, hO, aa.u, ol.u, ag.u, fr⟩
 refine au ?_
 refine sfz 0 hO fun s hO uc ud => ?_
 have zz := J2B (r := Rp.sl (Rp.int .i64)) (n := 1) (parts := [(0, .slice p4 a0.Enum.Gens.length a0.Enum.Gens.length)]) (vs := [.slice p4 a0.Enum.Gens.length a0.Enum.Gens.length]) (xs := [d_8]) rfl Try.underlying23 ti31 hO (by decide) (by kernel_rfl) (Els.cons rfl ⟨p4, a0.Enum.Gens.length, congrArg some (congrArg (fun nn => Value.slice p4 nn a0.Enum.Gens.length) ud), uc⟩ (Els.nil _ _ _) (by simp [mx])) rfl
 obtain ⟨CU, CV, qr, ue, zI, ju⟩ := zz
 refine zg (ju rfl) ?_
 refine nst qr fun s hO => ?_
 refine sfzR 0 hO ue fun s hO uf ug => ?_
 obtain ⟨xH, H⟩ := H
 have zz := oapp Try.underlying23 ti31 rfl 5 hO rfl ag.u uf ug xH (by decide)
 obtain ⟨CW, CX, C0, zJ, qt, om, qu⟩ := zz
 dsimp only [sS, sZ] at om
 refine zg (qu (by exact rfl) (by exact rfl)) ?_
 refine nst qt fun s hO => ?_
 refine sbs 0 hO fun C1 s hO => ?_
 refine au ?_
 obtain ⟨xI, H⟩ := H
 refine zo (J0p rfl rfl (wrap_i64 xI)) ?_
 refine sbs 0 hO fun C2 s hO => ?_
 refine au ?_
 refine Go1.ret1 Try.func133 rfl ⟨_, (⟨(⟨a0.Enum.Points, a0.Enum.Monoid, a0.Enum.Gens, d_9, kw, kx, a0.Enum.Right ++ ([d_8]), kz, (a0.Enum.Done + (1 : Int))⟩ : Enum), di, d_27, fA, a0.single⟩ : run), _, _, _, _, _, _, _, _, _, _, _, _, _, _, _, _, _, _, _, _, _, _, _, _, _, _, _, _, _, _, ?_, hO, aa.u, dH.u, om.u, fr, H⟩
 exact rfl
theorem body132 : Body Try.prog 132 := ⟨Try.f132, Try.func132, rfl, by kernel_rfl⟩
theorem body101 : Body Try.prog 101 := ⟨Try.f101, Try.func101, rfl, by kernel_rfl⟩
theorem J3y {A : List Nat} {w0 : World} {dg : Option Addr} {dh : Nat} {gens : List (List Int)} {monoid : Bool} (hA : ∀ b ∈ A, b < w0.heap.size) (dD : ISl (Rp.sl (Rp.int .i64)) A w0 dg dh gens) {K : Enum → Int → Prop} (H : J0L gens monoid K) :
    CallsV Try.prog 101 #[.slice dg gens.length dh, .bool monoid] w0 (fun v w' => ∃ (r0 : Enum) (r1 : Int) (iP : Option Addr) (iQ : Nat) (gW : Option Addr) (gX : Nat) (gt : Option Addr) (gv : Nat) (iR : Option Addr) (iU : Nat) (gY : Option Addr) (g5 : Nat) (g6 : Option Addr) (g7 : Nat), v = .tuple #[.agg #[.int .i64 r0.Points, .bool r0.Monoid, .slice iP r0.Gens.length iQ, .slice gW r0.Elems.length gX, .slice gt r0.Prefix.length gv, .slice iR r0.Last.length iU, .slice gY r0.Right.length g5, .slice g6 r0.Rules.length g7, .int .i64 r0.Done], .int .i64 r1] ∧ Same w0 w' ∧ ISl (Rp.sl (Rp.int .i64)) A w' iP iQ r0.Gens ∧ ISl (Rp.sl (Rp.int .i64)) A w' gW gX r0.Elems ∧ ISl (Rp.int .i64) A w' gt gv r0.Prefix ∧ ISl (Rp.int .i64) A w' iR iU r0.Last ∧ ISl (Rp.sl (Rp.int .i64)) A w' gY g5 r0.Right ∧ ISl (rpRule) A w' g6 g7 r0.Rules ∧ K r0 r1) := by
 refine CallsV.of (l := [.slice dg gens.length dh, .bool monoid]) Try.func101 rfl Try.ntmps101 rfl ?_
 have hO := Owns.start hA
 have hB := Fr.refl (bl []) w0
 unfold J0L at H
 refine sal hO fun w1 B2 s hO => ?_
 refine au ?_
 refine zcr (J00 body131 rfl (J3v hO.lt dD.u H)) fun _ w6 hc => Or.elim hc ?_ ?_
 ·refine e1 fun r5 => d2 fun hv hs H => ?_
  subst hv; clear hc
  replace H := oElimN H
  refine sm hO hs fun s hO => ?_
  refine scm H (fun h7 H => ?_) fun h7 H => ?_
  ·refine au ?_
   refine lw H (fun _ σ w => (fun Z => agrees σ [(4, .pointer (some ⟨B2, 0, none⟩)), (6, .pointer none)] ∧ Owns w0.heap.size w Z A ∧ Fr (bl []) w0 (bl Z) w) [.blk B2 (.cells #[.int .i64 (0 : Int), .bool false, .slice none 0 0, .slice none 0 0, .slice none 0 0, .slice none 0 0, .slice none 0 0, .slice none 0 0, .int .i64 (0 : Int)] 123 (0, 0))]) ⟨agr, hO, fr⟩ ?_
   refine fun X1 => fun _ => fun H hX1 σ w8 => d2 fun hag hO hB => ?_
   refine Go1.keep _ hag ?_
   revert hO; repeat (rename Owns _ _ _ _ => q; clear q)
   intro hO; repeat (rename Sq _ _ _ _ _ _ => q; clear q)
   refine au ?_
   refine GoR.inl (vs := [.pointer none]) (caps := []) rfl rfl body132 Try.func132 rfl Try.ntmps132 rfl rfl rfl ?_
   intro RhR9 hR9
   refine au ?_
   refine drw 0 [(0, .pure), (1, .pure), (2, .pure), (3, .pure), (4, .stable), (5, .pure), (6, .pure), (7, .pure), (8, .pure), (9, .stable), (10, .pure), (11, .pure), (12, .pure)] hO fun w10 s hO => ?_
   refine au ?_
   exact (H).elim
  refine au ?_
  refine zo (J09 Try.underlying123 ti123 (pl := [(0, 1), (1, 1), (2, 1), (3, 1), (4, 1), (5, 1), (6, 1), (7, 1), (8, 1)]) (vs := []) (cs := #[.int .i64 (0 : Int), .bool false, .slice none 0 0, .slice none 0 0, .slice none 0 0, .slice none 0 0, .slice none 0 0, .slice none 0 0, .int .i64 (0 : Int)]) (by kernel_rfl) rfl (by kernel_rfl)) ?_
  refine sba 0 hO fun w11 s hO => ?_
  refine au ?_
  refine Go1.retC2 Try.func101 rfl rfl (rlb 0 hO) ⟨((⟨(0 : Int), false, ([] : List (List Int)), ([] : List (List Int)), ([] : List Int), ([] : List Int), ([] : List (List Int)), ([] : List Rule), (0 : Int)⟩ : Enum)), _, _, _, _, _, _, _, _, _, _, _, _, _, ?_, frs, (ISl.null _ _ _), (ISl.null _ _ _), (ISl.null _ _ _), (ISl.null _ _ _), (ISl.null _ _ _), (ISl.null _ _ _), H⟩
  exact rfl
 refine e4 fun r4 r5 mF oT => e4 fun oU oV oo oq => e4 fun ot ou mG mH => e4 fun mI mJ oW oX => e4 fun oY ov ow oA => e4 fun mK oB oC oD => e4 fun gx uh ui uj => e4 fun sd se sf sj => e2 fun sk sn => d1 fun hv => d1 fun hs => d4 fun hN eg dX dY H => ?_
 subst hv; clear hc
 refine smr hO hs hN fun s hO c => ?_
 replace H := oElimS H
 replace eg := eg.ch c
 replace dX := dX.ch c
 replace dY := dY.ch c
 refine scm H (fun h23 H => ?_) fun h23 H => ?_
 ·refine au ?_
  refine lw H (fun (g8, g9, k2_27, d_28, d_34, d_40, d_44, d_48, kA, d_58, mM, mO, kB) σ w => ∃ n33 p31 c32 mP n39 p37 c38 mQ n43 p41 c42 n47 p45 c46 n53 p51 c52 mS n57 p55 c56 n61 p59 c60 n65 p63 c64 n69 p67 c68, (fun Z => agrees σ [(4, .pointer (some ⟨B2, 0, none⟩)), (6, .pointer (some ⟨mF, 0, none⟩))] ∧ Owns w0.heap.size w Z A ∧ Els (Rp.sl (Rp.int .i64)) (bl Z ++ A) w mP d_28 ∧ Els (Rp.sl (Rp.int .i64)) (bl Z ++ A) w mQ d_34 ∧ Els (Rp.sl (Rp.int .i64)) (bl Z ++ A) w mS d_48 ∧ Fr (bl []) w0 (bl Z) w) [.blk mF (.cells #[.int .i64 g8, .bool g9, .slice p31 n33 c32, .slice p37 n39 c38, .slice p41 n43 c42, .slice p45 n47 c46, .slice p51 n53 c52, .slice p55 n57 c56, .int .i64 k2_27, .map (some gx), .slice p59 n61 c60, .slice p63 n65 c64, .slice p67 n69 c68] 156 (0, 0)), .row 31 1 p31 n33 c32 mP, .row 31 1 p37 n39 c38 mQ, t1 Fl.i 3 p41 n43 c42 d_40, t1 Fl.i 3 p45 n47 c46 d_44, .row 31 1 p51 n53 c52 mS, t1 (id Fl.fl : Fl rpRule) 185 p55 n57 c56 kA, t1 Fl.str 9 p59 n61 c60 d_58, t1 Fl.i 3 p63 n65 c64 mM, t1 Fl.i 3 p67 n69 c68 mO, .any (mapE (fun a : List UInt8 => Value.string (gstr a)) (fun a : Int => Value.int .i64 a) gx kB), .blk B2 (.cells #[.int .i64 (0 : Int), .bool false, .slice none 0 0, .slice none 0 0, .slice none 0 0, .slice none 0 0, .slice none 0 0, .slice none 0 0, .int .i64 (0 : Int)] 123 (0, 0))]) ⟨_, _, _, _, _, _, _, _, _, _, _, _, _, _, _, _, _, _, _, _, _, _, _, _, _, _, _, _, _, _, agr, hO, eg.u, dX.u, dY.u, fr⟩ ?_
  refine fun X2 => p1 fun g8 => p1 fun g9 => p1 fun k2_27 => p1 fun d_28 => p1 fun d_34 => p1 fun d_40 => p1 fun d_44 => p1 fun d_48 => p1 fun kA => p3 fun d_58 mM mO kB => fun H hX2 σ w24 => e4 fun n33 p31 c32 mP => e4 fun n39 p37 c38 mQ => e4 fun n43 p41 c42 n47 => e4 fun p45 c46 n53 p51 => e4 fun c52 mS n57 p55 => e4 fun c56 n61 p59 c60 => e4 fun n65 p63 c64 n69 => e2 fun p67 c68 => d1 fun hag => d4 fun hO qv mT qw hB => ?_
  dsimp only at H
  refine Go1.keep _ hag ?_
  revert hO; repeat (rename Owns _ _ _ _ => q; clear q)
  intro hO; repeat (rename Sq _ _ _ _ _ _ => q; clear q)
  refine au ?_
  refine GoR.inl (vs := [.pointer (some ⟨mF, 0, none⟩)]) (caps := []) rfl rfl body132 Try.func132 rfl Try.ntmps132 rfl rfl rfl ?_
  intro RhR71 hR71
  refine au ?_
  refine drw 0 [(0, .pure), (1, .pure), (2, .pure), (3, .pure), (4, .stable), (5, .pure), (6, .pure), (7, .pure), (8, .pure), (9, .stable), (10, .pure), (11, .pure), (12, .pure)] hO fun w72 s hO => ?_
  refine au ?_
  refine GoQ.pure rfl (J0S Try.underlying23 rfl (Els.neqW mT.u hO 2 rfl)) rfl rfl ?_
  refine scm H (fun h73 H => ?_) fun h73 H => ?_
  ·refine au ?_
   refine Go1.ret1V Try.func132 rfl (show _ = .bool true from rfl) ?_
   refine hR71 _ _ ?_
   refine au ?_
   refine zs (J5v (vs := [.int .i64 g8, .bool g9, .slice p31 n33 c32, .slice p37 n39 c38, .slice p41 n43 c42, .slice p45 n47 c46, .slice p51 n53 c52, .slice p55 n57 c56, .int .i64 k2_27]) (i := 0) 0 hO rfl rfl Try.underlying123 rfl ti123 rfl) ?_
   refine sba 11 hO fun w74 s hO => ?_
   refine au ?_
   refine sfzR 1 hO qv.u fun s hO xJ xK => ?_
   refine sfzR 1 hO mT.u fun s hO xL xM => ?_
   refine sfz 1 hO fun s hO lM lN => ?_
   refine sfz 1 hO fun s hO lO jp => ?_
   refine sfzR 1 hO qw.u fun s hO xN xO => ?_
   refine sfz 1 hO fun s hO mU mV => ?_
   refine Go1.retC2 Try.func101 rfl rfl (rlb 5 hO) ⟨((⟨g8, g9, d_28, d_34, d_40, d_44, d_48, kA, k2_27⟩ : Enum)), _, _, _, _, _, _, _, _, _, _, _, _, _, ?_, frs, xJ.r, xL.r, lM.r, lO.r, xN.r, mU.r, H⟩
   exact (congrArg (fun l => Value.tuple (List.toArray l)) (J02 (congrArg (fun l => Value.agg (List.toArray l)) (J02 rfl (J02 rfl (J02 (congrArg (fun nn => Value.slice p31 nn c32) xK) (J02 (congrArg (fun nn => Value.slice p37 nn c38) xM) (J02 (congrArg (fun nn => Value.slice p41 nn c42) lN) (J02 (congrArg (fun nn => Value.slice p45 nn c46) jp) (J02 (congrArg (fun nn => Value.slice p51 nn c52) xO) (J02 (congrArg (fun nn => Value.slice p55 nn c56) mV) (J02 rfl rfl)))))))))) (J02 rfl rfl)))
  refine au ?_
  refine Go1.ret1V Try.func132 rfl (show _ = .bool false from rfl) ?_
  refine hR71 _ _ ?_
  refine au ?_
  refine sob 11 hO fun sg hO1 => ?_
  refine zcr (J00 body133 rfl (J2k (a0 := (⟨(⟨g8, g9, d_28, d_34, d_40, d_44, d_48, kA, k2_27⟩ : Enum), kB, d_58, mM, mO⟩ : run)) hO1 qv.u mT.u qw.u H)) fun _ w89 => e4 fun r87 q88 oE oF => e4 fun oG mW mX mY => e4 fun m3 lj lk lm => e4 fun lr oH oI oJ => e4 fun m6 m7 m8 lA => e4 fun m9 na nb sq => e4 fun sr ss qz qA => e4 fun qB qC qD qE => d1 fun hv => d1 fun hN90 => d4 fun d5 dN dO hF91 H => ?_
  subst hv; clear sg hO1
  refine sjn hO hN90 hF91 fun s hO c => ?_
  replace d5 := d5.ch c
  replace dN := dN.ch c
  replace dO := dO.ch c
  refine scm H (fun h92 H => ?_) fun h92 H => ?_
  ·refine au ?_
   exact hX2 _ H _ _ ⟨_, _, _, _, _, _, _, _, _, _, _, _, _, _, _, _, _, _, _, _, _, _, _, _, _, _, _, _, _, _, agr, hO, d5, dN, dO, fr⟩
  refine au ?_
  refine zo (J09 Try.underlying123 ti123 (pl := [(0, 1), (1, 1), (2, 1), (3, 1), (4, 1), (5, 1), (6, 1), (7, 1), (8, 1)]) (vs := []) (cs := #[.int .i64 (0 : Int), .bool false, .slice none 0 0, .slice none 0 0, .slice none 0 0, .slice none 0 0, .slice none 0 0, .slice none 0 0, .int .i64 (0 : Int)]) (by kernel_rfl) rfl (by kernel_rfl)) ?_
  refine sba 11 hO fun w93 s hO => ?_
  refine au ?_
  refine Go1.retC2 Try.func101 rfl rfl (rlb 11 hO) ⟨((⟨(0 : Int), false, ([] : List (List Int)), ([] : List (List Int)), ([] : List Int), ([] : List Int), ([] : List (List Int)), ([] : List Rule), (0 : Int)⟩ : Enum)), _, _, _, _, _, _, _, _, _, _, _, _, _, ?_, frs, (ISl.null _ _ _), (ISl.null _ _ _), (ISl.null _ _ _), (ISl.null _ _ _), (ISl.null _ _ _), (ISl.null _ _ _), H⟩
  exact rfl
 refine au ?_
 refine zo (J09 Try.underlying123 ti123 (pl := [(0, 1), (1, 1), (2, 1), (3, 1), (4, 1), (5, 1), (6, 1), (7, 1), (8, 1)]) (vs := []) (cs := #[.int .i64 (0 : Int), .bool false, .slice none 0 0, .slice none 0 0, .slice none 0 0, .slice none 0 0, .slice none 0 0, .slice none 0 0, .int .i64 (0 : Int)]) (by kernel_rfl) rfl (by kernel_rfl)) ?_
 refine sba 11 hO fun w94 s hO => ?_
 refine au ?_
 refine Go1.retC2 Try.func101 rfl rfl (rlb 11 hO) ⟨((⟨(0 : Int), false, ([] : List (List Int)), ([] : List (List Int)), ([] : List Int), ([] : List Int), ([] : List (List Int)), ([] : List Rule), (0 : Int)⟩ : Enum)), _, _, _, _, _, _, _, _, _, _, _, _, _, ?_, frs, (ISl.null _ _ _), (ISl.null _ _ _), (ISl.null _ _ _), (ISl.null _ _ _), (ISl.null _ _ _), (ISl.null _ _ _), H⟩
 exact rfl
theorem body134 : Body Try.prog 134 := ⟨Try.f134, Try.func134, rfl, by kernel_rfl⟩
theorem J3l {A : List Nat} {w0 : World} {dy : Option Addr} {dK : Nat} {s_ : List Int} {v : Int} (hA : ∀ b ∈ A, b < w0.heap.size) (fo : ISl (Rp.int .i64) A w0 dy dK s_) {K : Int → Prop} (H : J0Y s_ v K) :
    CallsV Try.prog 134 #[.slice dy s_.length dK, .int .i64 v] w0 (fun v w' => ∃ (r0 : Int), v = .int .i64 r0 ∧ Same w0 w' ∧ K r0) := by
 refine CallsV.of (l := [.slice dy s_.length dK, .int .i64 v]) Try.func134 rfl Try.ntmps134 rfl ?_
 have hO := Owns.start hA
 have hB := Fr.refl (bl []) w0
 unfold J0Y at H
 refine sln0 ?_
 refine au ?_
 refine lw (H fo.bd) (fun k1_2 σ w => (fun Z => agrees σ [(0, .slice dy s_.length dK), (1, .int .i64 v), (7, .int .i64 (s_.length : Int)), (8, .int .i64 (k1_2 : Int))] ∧ Owns w0.heap.size w Z A ∧ Fr (bl []) w0 (bl Z) w) []) ⟨agr, hO, fr⟩ ?_
 refine fun X1 => fun k1_2 => fun H hX1 σ w1 => d2 fun hag hO hB => ?_
 refine Go1.keep _ hag ?_
 refine scm H (fun h3 H => ?_) fun h3 H => ?_
 ·refine sxl hO fo.u H.1 H.2.1 ?_
  have h4 := H.1
  have h5 := H.2.1
  refine scm H.2.2 (fun h6 H => ?_) fun h6 H => ?_
  ·refine au ?_
   refine Go1.ret1 Try.func134 rfl ⟨_, ?_, frs, H⟩
   exact rfl
  refine sinc (natbd h3 fo.bd) ?_
  refine au ?_
  exact hX1 _ H _ _ ⟨agr, hO, fr⟩
 refine au ?_
 refine Go1.ret1 Try.func134 rfl ⟨_, ?_, frs, H⟩
 exact rfl
theorem body102 : Body Try.prog 102 := ⟨Try.f102, Try.func102, rfl, by kernel_rfl⟩
theorem J2x {A : List Nat} {w0 : World} {dy : Option Addr} {dK : Nat} {s_ : List Int} {v : Int} (hA : ∀ b ∈ A, b < w0.heap.size) (fo : ISl (Rp.int .i64) A w0 dy dK s_) {K : Bool → Prop} (H : J0j s_ v K) :
    CallsV Try.prog 102 #[.slice dy s_.length dK, .int .i64 v] w0 (fun v w' => ∃ (r0 : Bool), v = .bool r0 ∧ Same w0 w' ∧ K r0) := by
 refine CallsV.of (l := [.slice dy s_.length dK, .int .i64 v]) Try.func102 rfl Try.ntmps102 rfl ?_
 have hO := Owns.start hA
 have hB := Fr.refl (bl []) w0
 unfold J0j at H
 refine au ?_
 refine zcr (J00 body134 rfl (J3l hO.lt fo.u H)) fun _ w2 => e1 fun r1 => sc0 hO fun s hO => fun H => ?_
 refine scm H (fun h3 H => ?_) fun h3 H => ?_
 ·refine au ?_
  refine Go1.ret1 Try.func102 rfl ⟨_, ?_, frs, H⟩
  exact rfl
 refine au ?_
 refine Go1.ret1 Try.func102 rfl ⟨_, ?_, frs, H⟩
 exact rfl
theorem body103 : Body Try.prog 103 := ⟨Try.f103, Try.func103, rfl, by kernel_rfl⟩
theorem J2j {A : List Nat} {w0 : World} {f5 p_f : Option Addr} {f6 c_f : Nat} {p : part} {f : List Int} (hA : ∀ b ∈ A, b < w0.heap.size) (k9 : ISl (Rp.bool) A w0 f5 f6 p.final) (h_f : ISl (Rp.int .i64) A w0 p_f c_f f) {K : Bool → Prop} (H : J0m p f K) :
    CallsV Try.prog 103 #[.agg #[.int .i64 p.start, .slice f5 p.final.length f6, .int .i64 p.shift], .slice p_f f.length c_f] w0 (fun v w' => ∃ (r0 : Bool), v = .bool r0 ∧ Same w0 w' ∧ K r0) := by
 refine CallsV.of (l := [.agg #[.int .i64 p.start, .slice f5 p.final.length f6, .int .i64 p.shift], .slice p_f f.length c_f]) Try.func103 rfl Try.ntmps103 rfl ?_
 have hO := Owns.start hA
 have hB := Fr.refl (bl []) w0
 unfold J0m at H
 refine sbx hO fun w1 B2 s hO => ?_
 refine au ?_
 refine drw 0 [(0, .pure), (1, .stable), (2, .pure), (3, .pure), (4, .stable), (5, .pure), (6, .stable), (7, .pure), (8, .stable), (9, .pure), (10, .pure), (11, .stable), (12, .pure)] hO fun w4 s hO => ?_
 refine sxl hO h_f.u H.1 H.2.1 ?_
 refine au ?_
 have h5 := H.1
 have h6 := H.2.1
 replace H := H.2.2
 obtain ⟨h7, H⟩ := H
 refine GoQ.pure rfl (J6a rfl rfl (wrap_i64 h7)) rfl rfl ?_
 refine sxl hO k9.u H.1 H.2.1 ?_
 refine au ?_
 refine Go1.ret1 Try.func103 rfl ⟨_, ?_, frs, H.2.2⟩
 exact rfl
end Sg
