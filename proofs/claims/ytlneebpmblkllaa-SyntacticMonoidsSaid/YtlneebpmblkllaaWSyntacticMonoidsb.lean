/- -/
import Derived.Test.YtlneebpmblkllaaVd
import Derived.Test.YtlneebpmblkllaaWSyntacticMonoids
namespace Sg
open Go Go.RowKit Go.Proofs
set_option linter.unusedVariables false
set_option linter.unusedSimpArgs false
set_option maxRecDepth 100000
set_option maxHeartbeats 4000000
theorem body155 : Body Try.prog 155 := ⟨Try.f155, Try.func155, rfl, by kernel_rfl⟩
theorem body131 : Body Try.prog 131 := ⟨Try.f131, Try.func131, rfl, by kernel_rfl⟩
theorem J3p {A : List Nat} {w0 : World} {fQ : Option Addr} {fR : Nat} {a0 : List (List Int)} {a1 : Bool} (hA : ∀ b ∈ A, b < w0.heap.size) (fm : ISl (Rp.sl (Rp.int .i64)) A w0 fQ fR a0) {K : Option run → Int → Prop} (H : J0E a0 a1 K) :
    CallsV Try.prog 131 #[.slice fQ a0.length fR, .bool a1] w0 (fun v w' => (∃ (r1 : Int), v = .tuple #[.pointer none, .int .i64 r1] ∧ Same w0 w' ∧ K none r1) ∨ (∃ (q : run), ∃ (r1 : Int), ∃ (b_q : Nat), ∃ (aM : Nat), ∃ (aN : Option Addr), ∃ (aO : Nat), ∃ (b7 : List Value), ∃ (aB : Nat), ∃ (aC : Option Addr), ∃ (aD : Nat), ∃ (bN : List Value), ∃ (aw : Nat), ∃ (ax : Option Addr), ∃ (ay : Nat), ∃ (aP : Nat), ∃ (aQ : Option Addr), ∃ (aR : Nat), ∃ (aE : Nat), ∃ (aF : Option Addr), ∃ (aG : Nat), ∃ (bO : List Value), ∃ (aH : Nat), ∃ (aI : Option Addr), ∃ (aJ : Nat), ∃ (eC : Nat), ∃ (ca : Nat), ∃ (cb : Option Addr), ∃ (cd : Nat), ∃ (bD : Nat), ∃ (bE : Option Addr), ∃ (bF : Nat), ∃ (bG : Nat), ∃ (bH : Option Addr), ∃ (bI : Nat), v = .tuple #[.pointer (some ⟨b_q, 0, none⟩), .int .i64 r1] ∧ Same w0 w' ∧ Owns w0.heap.size w' [.blk b_q (.cells #[.int .i64 q.Enum.Points, .bool q.Enum.Monoid, .slice aN aM aO, .slice aC aB aD, .slice ax aw ay, .slice aQ aP aR, .slice aF aE aG, .slice aI aH aJ, .int .i64 q.Enum.Done, .map (some eC), .slice cb ca cd, .slice bE bD bF, .slice bH bG bI] 156 (0, 0)), .row 31 1 aN aM aO b7, .row 31 1 aC aB aD bN, t1 Fl.i 3 ax aw ay q.Enum.Prefix, t1 Fl.i 3 aQ aP aR q.Enum.Last, .row 31 1 aF aE aG bO, t1 (id Fl.fl : Fl rpRule) 185 aI aH aJ q.Enum.Rules, t1 Fl.str 9 cb ca cd q.words, t1 Fl.i 3 bE bD bF q.behind, t1 Fl.i 3 bH bG bI q.single, .any (mapE (fun a : List UInt8 => Value.string (gstr a)) (fun a : Int => Value.int .i64 a) eC q.number)] A ∧ Els (Rp.sl (Rp.int .i64)) (bl [.blk b_q (.cells #[.int .i64 q.Enum.Points, .bool q.Enum.Monoid, .slice aN aM aO, .slice aC aB aD, .slice ax aw ay, .slice aQ aP aR, .slice aF aE aG, .slice aI aH aJ, .int .i64 q.Enum.Done, .map (some eC), .slice cb ca cd, .slice bE bD bF, .slice bH bG bI] 156 (0, 0)), .row 31 1 aN aM aO b7, .row 31 1 aC aB aD bN, t1 Fl.i 3 ax aw ay q.Enum.Prefix, t1 Fl.i 3 aQ aP aR q.Enum.Last, .row 31 1 aF aE aG bO, t1 (id Fl.fl : Fl rpRule) 185 aI aH aJ q.Enum.Rules, t1 Fl.str 9 cb ca cd q.words, t1 Fl.i 3 bE bD bF q.behind, t1 Fl.i 3 bH bG bI q.single, .any (mapE (fun a : List UInt8 => Value.string (gstr a)) (fun a : Int => Value.int .i64 a) eC q.number)] ++ A) w' b7 q.Enum.Gens ∧ Els (Rp.sl (Rp.int .i64)) (bl [.blk b_q (.cells #[.int .i64 q.Enum.Points, .bool q.Enum.Monoid, .slice aN aM aO, .slice aC aB aD, .slice ax aw ay, .slice aQ aP aR, .slice aF aE aG, .slice aI aH aJ, .int .i64 q.Enum.Done, .map (some eC), .slice cb ca cd, .slice bE bD bF, .slice bH bG bI] 156 (0, 0)), .row 31 1 aN aM aO b7, .row 31 1 aC aB aD bN, t1 Fl.i 3 ax aw ay q.Enum.Prefix, t1 Fl.i 3 aQ aP aR q.Enum.Last, .row 31 1 aF aE aG bO, t1 (id Fl.fl : Fl rpRule) 185 aI aH aJ q.Enum.Rules, t1 Fl.str 9 cb ca cd q.words, t1 Fl.i 3 bE bD bF q.behind, t1 Fl.i 3 bH bG bI q.single, .any (mapE (fun a : List UInt8 => Value.string (gstr a)) (fun a : Int => Value.int .i64 a) eC q.number)] ++ A) w' bN q.Enum.Elems ∧ Els (Rp.sl (Rp.int .i64)) (bl [.blk b_q (.cells #[.int .i64 q.Enum.Points, .bool q.Enum.Monoid, .slice aN aM aO, .slice aC aB aD, .slice ax aw ay, .slice aQ aP aR, .slice aF aE aG, .slice aI aH aJ, .int .i64 q.Enum.Done, .map (some eC), .slice cb ca cd, .slice bE bD bF, .slice bH bG bI] 156 (0, 0)), .row 31 1 aN aM aO b7, .row 31 1 aC aB aD bN, t1 Fl.i 3 ax aw ay q.Enum.Prefix, t1 Fl.i 3 aQ aP aR q.Enum.Last, .row 31 1 aF aE aG bO, t1 (id Fl.fl : Fl rpRule) 185 aI aH aJ q.Enum.Rules, t1 Fl.str 9 cb ca cd q.words, t1 Fl.i 3 bE bD bF q.behind, t1 Fl.i 3 bH bG bI q.single, .any (mapE (fun a : List UInt8 => Value.string (gstr a)) (fun a : Int => Value.int .i64 a) eC q.number)] ++ A) w' bO q.Enum.Right ∧ K (some q) r1)) := by
 refine CallsV.of (l := [.slice fQ a0.length fR, .bool a1]) Try.func131 rfl Try.ntmps131 rfl ?_
 have hO := Owns.start hA
 have hB := Fr.refl (bl []) w0
 unfold J0E at H
 refine au ?_
 refine sln0 ?_
 refine scm (H fm.bd) (fun h1 H => ?_) fun h1 H => ?_
 ·refine au ?_
  refine Go1.ret2 Try.func131 rfl (Or.inl ⟨_, ?_, frs, H⟩)
  exact rfl
 refine au ?_
 refine sln0 ?_
 refine scm H (fun h2 H => ?_) fun h2 H => ?_
 ·refine au ?_
  refine Go1.ret2 Try.func131 rfl (Or.inl ⟨_, ?_, frs, H⟩)
  exact rfl
 refine au ?_
 have zz := omakeMap (fun a : List UInt8 => Value.string (gstr a)) (fun a : Int => Value.int .i64 a) hO
 obtain ⟨w3, B4, m9, hs6, IR⟩ := zz
 refine zg IR ?_
 refine nst m9 fun s hO => ?_
 refine zo (J06 Try.underlying156 ti156 (pl := [(0, 9), (9, 1), (10, 1), (11, 1), (12, 1)]) (vs := [(1, .map (some B4))]) (cs := #[.int .i64 (0 : Int), .bool false, .slice none 0 0, .slice none 0 0, .slice none 0 0, .slice none 0 0, .slice none 0 0, .slice none 0 0, .int .i64 (0 : Int), .map (some B4), .slice none 0 0, .slice none 0 0, .slice none 0 0]) (by kernel_rfl) rfl (by kernel_rfl)) ?_
 refine sbx hO fun w9 B10 s hO => ?_
 refine au ?_
 refine sxls hO fm.u H.1 H.2.1 fun p12 c13 kG => ?_
 refine sln0 ?_
 refine au ?_
 refine sbs 0 hO fun w15 s hO => ?_
 refine au ?_
 refine sbs 0 hO fun w16 s hO => ?_
 refine au ?_
 refine sln0 ?_
 refine au ?_
 have CC := Stp.nil (e := 31) (r := 1) hO
 refine nst CC fun s hO => ?_
 have IS := Els.nil (Rp.sl (Rp.int .i64)) (bl (.row 31 1 none 0 0 [] :: [.blk B10 (.cells #[.int .i64 ((ix a0 (0 : Int)).length : Int), .bool a1, .slice none 0 0, .slice none 0 0, .slice none 0 0, .slice none 0 0, .slice none 0 0, .slice none 0 0, .int .i64 (0 : Int), .map (some B4), .slice none 0 0, .slice none 0 0, .slice none 0 0] 156 (0, 0)), .any (mapE (fun a : List UInt8 => Value.string (gstr a)) (fun a : Int => Value.int .i64 a) B4 (([] : List (Str × Int))))]) ++ A) w16
 refine lw (H.2.2 kG.bd) (fun (xe, d_22) σ w => ∃ n27 p25 c26 ik, (fun Z => agrees σ [(1, .bool a1), (6, .pointer (some ⟨B10, 0, none⟩)), (39, .slice fQ a0.length fR), (40, .int .i64 (a0.length : Int)), (41, .int .i64 (xe : Int))] ∧ Owns w0.heap.size w Z A ∧ Els (Rp.sl (Rp.int .i64)) (bl Z ++ A) w ik d_22 ∧ Fr (bl []) w0 (bl Z) w) [.row 31 1 p25 n27 c26 ik, .blk B10 (.cells #[.int .i64 ((ix a0 (0 : Int)).length : Int), .bool a1, .slice p25 n27 c26, .slice none 0 0, .slice none 0 0, .slice none 0 0, .slice none 0 0, .slice none 0 0, .int .i64 (0 : Int), .map (some B4), .slice none 0 0, .slice none 0 0, .slice none 0 0] 156 (0, 0)), .any (mapE (fun a : List UInt8 => Value.string (gstr a)) (fun a : Int => Value.int .i64 a) B4 (([] : List (Str × Int))))]) ⟨_, _, _, _, agr, hO, IS.u, fr⟩ ?_
 refine fun X1 => p1 fun xe d_22 => fun H hX1 σ w20 => e4 fun n27 p25 c26 ik => d3 fun hag hO d9 hB => ?_
 dsimp only at H
 refine Go1.keep _ hag ?_
 revert hO; repeat (rename Owns _ _ _ _ => q; clear q)
 intro hO; repeat (rename Sq _ _ _ _ _ _ => q; clear q)
 refine au ?_
 refine scm H (fun h28 H => ?_) fun h28 H => ?_
 ·refine au ?_
  refine sxls hO fm.u H.1 H.2.1 fun p29 c30 uG => ?_
  refine au ?_
  refine sln0 ?_
  refine au ?_
  have h32 := H.1
  have h33 := H.2.1
  refine scm (H.2.2 uG.bd) (fun h34 H => ?_) fun h34 H => ?_
  ·refine au ?_
   refine zcr (J02 body154 rfl (J1D hO.lt uG.u H)) fun _ w36 => e1 fun r35 => sc0 hO fun s hO => fun H => ?_
   cases r35
   ·refine au ?_
    refine Go1.ret2 Try.func131 rfl (Or.inl ⟨_, ?_, frs, (iF H)⟩)
    exact rfl
   refine au ?_
   refine drw 1 [(0, .pure), (1, .pure), (2, .pure), (3, .pure), (4, .pure), (5, .stable), (6, .pure), (7, .loud), (8, .loud), (9, .last), (10, .pure), (11, .pure), (12, .pure), (13, .last)] hO fun w37 s hO => ?_
   refine au ?_
   refine zcq rfl (J02 body86 rfl (J0o hO.lt uG.u (iT H))) fun _ w40 => e4 fun r38 xg mq mr => sq1 hO fun s hO => fun H => ?_
   refine sfz 0 hO fun s hO IT IU => ?_
   have zz := J1l (r := Rp.sl (Rp.int .i64)) (n := 1) (parts := [(0, .slice mq xg mr)]) (vs := [.slice mq xg mr]) (xs := [r38]) rfl Try.underlying23 ti31 hO (by decide) (by kernel_rfl) (Els.cons rfl ⟨mq, mr, congrArg some (congrArg (fun nn => Value.slice mq nn mr) IU), IT⟩ (Els.nil _ _ _) (by simp [mx])) rfl
   obtain ⟨w44, p45, qK, qL, IV, CD⟩ := zz
   refine GoQ.loud rfl (CD rfl) IV rfl rfl ?_
   refine nst qK fun s hO => ?_
   refine sfzR 0 hO qL fun s hO uH uI => ?_
   obtain ⟨h53, H⟩ := H
   have zz := oapp Try.underlying23 ti31 rfl 0 hO rfl d9.u uH uI h53 (by decide)
   obtain ⟨w54, p55, c56, Qr, qC, yD, CE⟩ := zz
   dsimp only [sS, sZ] at yD
   refine GoQ.last rfl (CE (by exact rfl) (by exact rfl)) rfl rfl ?_
   refine nst qC fun s hO => ?_
   refine au ?_
   refine sbs 1 hO fun w62 s hO => ?_
   refine au ?_
   refine sinc (natbd h28 fm.bd) ?_
   refine au ?_
   exact hX1 _ H _ _ ⟨_, _, _, _, agr, hO, yD.u, fr⟩
  refine au ?_
  refine Go1.ret2 Try.func131 rfl (Or.inl ⟨_, ?_, frs, H⟩)
  exact rfl
 refine au ?_
 cases a1
 ·refine au ?_
  refine zo (J0x Try.underlying23 rfl (Els.neqW d9.u hO 0 rfl)) ?_
  refine au ?_
  have CF := Stp.nil (e := 31) (r := 1) hO
  refine nst CF fun s hO => ?_
  have IW := Els.nil (Rp.sl (Rp.int .i64)) (bl (.row 31 1 none 0 0 [] :: [.row 31 1 p25 n27 c26 ik, .blk B10 (.cells #[.int .i64 ((ix a0 (0 : Int)).length : Int), .bool false, .slice p25 n27 c26, .slice none 0 0, .slice none 0 0, .slice none 0 0, .slice none 0 0, .slice none 0 0, .int .i64 (0 : Int), .map (some B4), .slice none 0 0, .slice none 0 0, .slice none 0 0] 156 (0, 0)), .any (mapE (fun a : List UInt8 => Value.string (gstr a)) (fun a : Int => Value.int .i64 a) B4 (([] : List (Str × Int))))]) ++ A) w20
  refine snil Fl.i 3 hO fun s hO => ?_
  refine snil Fl.i 3 hO fun s hO => ?_
  refine snil (id Fl.fl : Fl rpRule) 185 hO fun s hO => ?_
  refine snil Fl.str 9 hO fun s hO => ?_
  refine snil Fl.i 3 hO fun s hO => ?_
  refine snil Fl.i 3 hO fun s hO => ?_
  refine lw (iF H) (fun (g9, qM, qN, d_82, d_86, qO, d_94, d_98, gB) σ w => ∃ n77 p75 c76 n81 p79 c80 n85 p83 c84 n89 p87 c88 n93 p91 c92 n97 p95 c96 na nb nc qP, (fun Z => agrees σ [(6, .pointer (some ⟨B10, 0, none⟩)), (9, .int .i64 (-1 : Int)), (85, .slice p25 n27 c26), (86, .int .i64 (d_22.length : Int)), (87, .int .i64 (g9 : Int))] ∧ Owns w0.heap.size w Z A ∧ Els (Rp.sl (Rp.int .i64)) (bl Z ++ A) w qP d_98 ∧ Els (Rp.sl (Rp.int .i64)) (bl Z ++ A) w ik d_22 ∧ Fr (bl []) w0 (bl Z) w) [t1 Fl.i 3 p75 n77 c76 qM, t1 Fl.i 3 p79 n81 c80 qN, t1 Fl.str 9 p83 n85 c84 d_82, t1 (id Fl.fl : Fl rpRule) 185 p87 n89 c88 d_86, t1 Fl.i 3 p91 n93 c92 qO, t1 Fl.i 3 p95 n97 c96 d_94, .row 31 1 nb na nc qP, .row 31 1 p25 n27 c26 ik, .blk B10 (.cells #[.int .i64 ((ix a0 (0 : Int)).length : Int), .bool false, .slice p25 n27 c26, .slice nb na nc, .slice p95 n97 c96, .slice p91 n93 c92, .slice none 0 0, .slice p87 n89 c88, .int .i64 (0 : Int), .map (some B4), .slice p83 n85 c84, .slice p79 n81 c80, .slice p75 n77 c76] 156 (0, 0)), .any (mapE (fun a : List UInt8 => Value.string (gstr a)) (fun a : Int => Value.int .i64 a) B4 gB)]) ⟨_, _, _, _, _, _, _, _, _, _, _, _, _, _, _, _, _, _, _, _, _, _, agr, hO, IW.u, d9.u, fr⟩ ?_
  refine fun X2 => p1 fun g9 => p1 fun qM => p1 fun qN => p1 fun d_82 => p1 fun d_86 => p3 fun qO d_94 d_98 gB => fun H hX2 σ w72 => e4 fun n77 p75 c76 n81 => e4 fun p79 c80 n85 p83 => e4 fun c84 n89 p87 c88 => e4 fun n93 p91 c92 n97 => e4 fun p95 c96 na nb => e2 fun nc qP => d4 fun hag hO iM d9 hB => ?_
  dsimp only at H
  refine Go1.keep _ hag ?_
  revert hO; repeat (rename Owns _ _ _ _ => q; clear q)
  intro hO; repeat (rename Sq _ _ _ _ _ _ => q; clear q)
  refine au ?_
  refine scm H (fun uJ H => ?_) fun uJ H => ?_
  ·refine au ?_
   obtain ⟨kB, H⟩ := H
   obtain ⟨mS, H⟩ := H
   refine zo (J07 Try.underlying23 ti31 rfl rfl kB (ltn (Els.neqW d9 hO 7 rfl) mS) (Els.psomeW d9 hO 7 rfl kB mS)) ?_
   have zz := oldSl 7 hO rfl d9 kB mS
   obtain ⟨IX, Qs, ms, CG⟩ := zz
   refine zs (CG Try.underlying31 rfl rfl) ?_
   refine au ?_
   obtain ⟨kC, H⟩ := H
   refine zo (J04 rfl rfl (wrap_i64 kC)) ?_
   refine zo (J2H Try.underlying3 Try.underlying21 rfl rfl) ?_
   obtain ⟨kD, H⟩ := H
   obtain ⟨IY, H⟩ := H
   refine zo (J4j Try.underlying21 Try.underlying9 rfl kD IY) ?_
   refine au ?_
   refine drw 0 [(0, .pure), (1, .pure), (2, .pure), (3, .stable), (4, .pure), (5, .loud), (6, .stable), (7, .pure), (8, .pure), (9, .pure), (10, .pure), (11, .pure)] hO fun Qt s hO => ?_
   refine au ?_
   refine zcq rfl (J02 body157 rfl (J0b hO.lt ms.u H)) fun _ qQ => e1 fun kI => sq0 hO fun s hO => d1 fun NC H => ?_
   by_cases iX : mhas gB kI = true
   ·refine GoQ.stable rfl (olookT (a := kI) (MK.str Try.underlying9) 9 hO rfl Try.underlying154 rfl rfl iX) rfl rfl ?_
    refine au ?_
    refine drw 5 [(0, .pure), (1, .pure), (2, .pure), (3, .pure), (4, .pure), (5, .stable), (6, .pure), (7, .pure), (8, .pure), (9, .pure), (10, .stable), (11, .pure), (12, .pure), (13, .stable), (14, .pure), (15, .loud), (16, .last), (17, .pure), (18, .pure), (19, .pure), (20, .last)] hO fun uq s hO => ?_
    refine au ?_
    refine sxl1 2 hO (ifp iX H).1 (ifp iX H).2.1 ?_
    have hle120 := t1le 2 hO (ifp iX H).1 (ifp iX H).2.1
    refine GoQ.pure rfl (J06 Try.underlying185 ti185 (pl := [(0, 1), (1, 1)]) (vs := [(0, .string (gstr (chr (IntKind.i32.wrap ((97 : Int) + (g9 : Int)))))), (1, .string (gstr (ix d_82 (mgt gB kI))))]) (cs := #[.string (gstr (chr (IntKind.i32.wrap ((97 : Int) + (g9 : Int))))), .string (gstr (ix d_82 (mgt gB kI)))]) (by kernel_rfl) rfl (by kernel_rfl)) rfl rfl ?_
    refine sapF (⟨(chr (IntKind.i32.wrap ((97 : Int) + (g9 : Int)))), ix d_82 (mgt gB kI)⟩ : Rule) 3 hO (ifp iX H).2.2 (fun _ qR Qu Qv s hO => ?_) (hok := by exact ⟨(J6X _), hle120⟩)
    refine au ?_
    refine sbs 8 hO fun Qw s hO => ?_
    refine au ?_
    refine sap1 ((mgt gB kI)) 0 hO (ifp iX H).2.2.2 fun _ yE Qx Qy s hO => ?_
    refine au ?_
    refine sbs 8 hO fun yF s hO => ?_
    refine au ?_
    refine sinc (natbd uJ d9.bd) ?_
    refine au ?_
    exact hX2 _ (ifp iX H).2.2.2.2 _ _ ⟨_, _, _, _, _, _, _, _, _, _, _, _, _, _, _, _, _, _, _, _, _, _, agr, hO, iM.u, d9.u, fr⟩
   refine GoQ.stable rfl (olookF (a := kI) (MK.str Try.underlying9) 9 hO rfl Try.underlying154 ti3 rfl rfl iX) rfl rfl ?_
   refine au ?_
   refine zcr (J02 body86 rfl (J0o hO.lt ms.u (ifn iX H))) fun _ Qz => e4 fun r129 lj io ip => sc1 hO fun s hO => fun H => ?_
   refine au ?_
   refine GoR.inl (vs := [.pointer (some ⟨B10, 0, none⟩), .slice io lj ip, .int .i64 (-1 : Int), .int .i64 (g9 : Int), .string (gstr (chr (IntKind.i32.wrap ((97 : Int) + (g9 : Int))))), .int .i64 (-1 : Int)]) (caps := []) rfl rfl body155 Try.func155 rfl Try.ntmps155 rfl rfl rfl ?_
   intro RhR133 hR133
   refine au ?_
   refine zo (J0x Try.underlying23 rfl (Els.neqW iM.u hO 7 rfl)) ?_
   refine au ?_
   refine drw 1 [(0, .pure), (1, .pure), (2, .pure), (3, .stable), (4, .pure), (6, .pure), (5, .loud), (7, .last)] hO fun I0 s hO => ?_
   refine au ?_
   have CH := t1lend 0 hO
   have qS := t1n 0 hO
   have hOc137 := hO.drop 0
   refine zcq rfl (J02 body157 (show ([.slice io lj ip] : List Value) = [.slice io r129.length ip] from by rw [← qS]) (J0b hOc137.lt CH H)) fun _ I1 => e1 fun I2 => sq0 hO fun s hO => d1 fun ND H => ?_
   have zz := omapUpd (MK.str Try.underlying9) 10 hO rfl Try.underlying154 I2 (d_98.length : Int)
   obtain ⟨QA, yG, yH⟩ := zz
   refine GoQ.last rfl (yH (by exact rfl) (by exact rfl) (by exact rfl)) rfl rfl ?_
   refine nst yG fun s hO => ?_
   refine au ?_
   refine sfz 0 hO fun s hO CJ qT => ?_
   have zz := J1l (r := Rp.sl (Rp.int .i64)) (n := 1) (parts := [(0, .slice io lj ip)]) (vs := [.slice io lj ip]) (xs := [r129]) rfl Try.underlying23 ti31 hO (by decide) (by kernel_rfl) (Els.cons rfl ⟨io, ip, congrArg some (congrArg (fun nn => Value.slice io nn ip) qT), CJ⟩ (Els.nil _ _ _) (by simp [mx])) rfl
   obtain ⟨yI, uK, yJ, CK, NR, yK⟩ := zz
   refine zg (yK rfl) ?_
   refine nst yJ fun s hO => ?_
   refine sfzR 0 hO CK.u fun s hO CM qU => ?_
   obtain ⟨I3, H⟩ := H
   have zz := oapp Try.underlying23 ti31 rfl 6 hO rfl iM.u CM qU I3 (by decide)
   obtain ⟨ye, I4, I5, NS, yL, jg, yM⟩ := zz
   dsimp only [sS, sZ] at jg
   refine zg (yM (by exact rfl) (by exact rfl)) ?_
   refine nst yL fun s hO => ?_
   refine au ?_
   refine sbs 8 hO fun IA s hO => ?_
   refine au ?_
   refine sap1 ((-1 : Int)) 5 hO H fun _ uL QB QC s hO => ?_
   refine au ?_
   refine sbs 8 hO fun yf s hO => ?_
   refine au ?_
   refine sap1 ((g9 : Int)) 4 hO H.2 fun _ uM I6 QD s hO => ?_
   refine au ?_
   refine sbs 8 hO fun yg s hO => ?_
   refine au ?_
   refine sap1 ((chr (IntKind.i32.wrap ((97 : Int) + (g9 : Int))))) 2 hO H.2.2 (fun _ yN iq iY s hO => ?_) (hR := by exact fun _ _ => ⟨rfl, (J6X _)⟩)
   refine au ?_
   refine sbs 8 hO fun IC s hO => ?_
   refine au ?_
   refine sap1 ((-1 : Int)) 1 hO H.2.2.2 fun _ ID QE QF s hO => ?_
   refine au ?_
   refine sbs 8 hO fun I7 s hO => ?_
   refine au ?_
   refine Go1.ret1V Try.func155 rfl (show _ = .int .i64 (d_98.length : Int) from rfl) ?_
   refine hR133 _ _ ?_
   refine au ?_
   refine sap1 ((d_98.length : Int)) 0 hO H.2.2.2.2 fun _ QG QH QI s hO => ?_
   refine au ?_
   refine sbs 8 hO fun yj s hO => ?_
   refine au ?_
   refine sinc (natbd uJ d9.bd) ?_
   refine au ?_
   exact hX2 _ H.2.2.2.2.2 _ _ ⟨_, _, _, _, _, _, _, _, _, _, _, _, _, _, _, _, _, _, _, _, _, _, agr, hO, jg.u, d9.u, fr⟩
  refine au ?_
  have yO := Stp.nil (e := 31) (r := 1) hO
  refine nst yO fun s hO => ?_
  have CO := Els.nil (Rp.sl (Rp.int .i64)) (bl (.row 31 1 none 0 0 [] :: [t1 Fl.i 3 p75 n77 c76 qM, t1 Fl.i 3 p79 n81 c80 qN, t1 Fl.str 9 p83 n85 c84 d_82, t1 (id Fl.fl : Fl rpRule) 185 p87 n89 c88 d_86, t1 Fl.i 3 p91 n93 c92 qO, t1 Fl.i 3 p95 n97 c96 d_94, .row 31 1 nb na nc qP, .row 31 1 p25 n27 c26 ik, .blk B10 (.cells #[.int .i64 ((ix a0 (0 : Int)).length : Int), .bool false, .slice p25 n27 c26, .slice nb na nc, .slice p95 n97 c96, .slice p91 n93 c92, .slice none 0 0, .slice p87 n89 c88, .int .i64 (0 : Int), .map (some B4), .slice p83 n85 c84, .slice p79 n81 c80, .slice p75 n77 c76] 156 (0, 0)), .any (mapE (fun a : List UInt8 => Value.string (gstr a)) (fun a : Int => Value.int .i64 a) B4 gB)]) ++ A) w72
  refine sfr 10 hO fun s hO => ?_
  refine sfr 2 hO fun s hO => ?_
  refine sfr 3 hO fun s hO => ?_
  refine sfr 4 hO fun s hO => ?_
  refine sfr 5 hO fun s hO => ?_
  refine sfr 5 hO fun s hO => ?_
  refine sfr 6 hO fun s hO => ?_
  refine sfr 7 hO fun s hO => ?_
  refine sfr 8 hO fun s hO => ?_
  refine sfr 9 hO fun s hO => ?_
  refine sfr 10 hO fun s hO => ?_
  refine Go1.ret2 Try.func131 rfl (Or.inr ⟨(⟨(⟨((ix a0 (0 : Int)).length : Int), false, d_22, d_98, d_94, qO, ([] : List (List Int)), d_86, (0 : Int)⟩ : Enum), gB, d_82, qN, qM⟩ : run), _, _, _, _, _, _, _, _, _, _, _, _, _, _, _, _, _, _, _, _, _, _, _, _, _, _, _, _, _, _, _, _, _, ?_, frs, hO, d9.u, iM.u, CO.u, H⟩)
  exact rfl
 refine au ?_
 refine zcr (J02 body156 rfl (J3L hO.lt (iT H))) fun _ yk => e3 fun r187 lk lm => sc0 hO fun s hO => d1 fun tT H => ?_
 refine GoR.inl (vs := [.pointer (some ⟨B10, 0, none⟩), .slice lk r187.length lm, .int .i64 (-1 : Int), .int .i64 (-1 : Int), .string (gstr (([] : Str))), .int .i64 (-1 : Int)]) (caps := []) rfl rfl body155 Try.func155 rfl Try.ntmps155 rfl rfl rfl ?_
 intro RhR189 hR189
 refine au ?_
 refine sln0 ?_
 refine au ?_
 refine drw 1 [(0, .pure), (1, .pure), (2, .pure), (3, .stable), (4, .pure), (6, .pure), (5, .loud), (7, .last)] hO fun I8 s hO => ?_
 refine au ?_
 refine zcq rfl (J02 body157 rfl (J0b hO.lt tT.u H)) fun _ QJ => e1 fun r191 => sq0 hO fun s hO => d1 fun NE H => ?_
 have zz := omapUpd (MK.str Try.underlying9) 2 hO rfl Try.underlying154 r191 (0 : Int)
 obtain ⟨QK, yP, yQ⟩ := zz
 refine GoQ.last rfl (yQ (by exact rfl) (by exact rfl) (by exact rfl)) rfl rfl ?_
 refine nst yP fun s hO => ?_
 refine au ?_
 have zz := J1l (r := Rp.sl (Rp.int .i64)) (n := 1) (parts := [(0, .slice lk r187.length lm)]) (vs := [.slice lk r187.length lm]) (xs := [r187]) rfl Try.underlying23 ti31 hO (by decide) (by kernel_rfl) (Els.cons rfl ⟨lk, lm, rfl, tT.u⟩ (Els.nil _ _ _) (by simp [mx])) rfl
 obtain ⟨yR, I9, yS, CP, NT, yT⟩ := zz
 refine zg (yT rfl) ?_
 refine nst yS fun s hO => ?_
 refine sfzR 0 hO CP fun s hO CQ CR => ?_
 have yU := Stp.nil (e := 31) (r := 1) hO
 refine nst yU fun s hO => ?_
 have CT := Els.nil (Rp.sl (Rp.int .i64)) (bl (.row 31 1 none 0 0 [] :: [.row 31 1 p25 n27 c26 ik, .blk B10 (.cells #[.int .i64 ((ix a0 (0 : Int)).length : Int), .bool true, .slice p25 n27 c26, .slice none 0 0, .slice none 0 0, .slice none 0 0, .slice none 0 0, .slice none 0 0, .int .i64 (0 : Int), .map (some B4), .slice none 0 0, .slice none 0 0, .slice none 0 0] 156 (0, 0)), .any (mapE (fun a : List UInt8 => Value.string (gstr a)) (fun a : Int => Value.int .i64 a) B4 (mput (([] : List (Str × Int))) r191 ((0 : Int))))]) ++ A) yR
 obtain ⟨Ja, H⟩ := H
 have zz := oapp Try.underlying23 ti31 rfl 0 hO rfl CT CQ.u CR Ja (by decide)
 obtain ⟨Jb, Jc, Jd, NU, yV, kh, ne⟩ := zz
 dsimp only [sS, sZ] at kh
 refine zg (ne (by exact rfl) (by exact rfl)) ?_
 refine nst yV fun s hO => ?_
 refine au ?_
 refine sbs 2 hO fun uN s hO => ?_
 refine au ?_
 refine snil Fl.i 3 hO fun s hO => ?_
 refine sap1 ((-1 : Int)) 0 hO H fun _ Je jh ji s hO => ?_
 refine au ?_
 refine sbs 3 hO fun QL s hO => ?_
 refine au ?_
 refine snil Fl.i 3 hO fun s hO => ?_
 refine sap1 ((-1 : Int)) 0 hO H.2 fun _ QM QO QP s hO => ?_
 refine au ?_
 refine sbs 4 hO fun Jf s hO => ?_
 refine au ?_
 refine snil Fl.str 9 hO fun s hO => ?_
 refine sap1 ((([] : Str))) 0 hO H.2.2 (fun _ QQ QR QS s hO => ?_) (hR := by exact fun _ _ => ⟨rfl, (by decide)⟩)
 refine au ?_
 refine sbs 5 hO fun QT s hO => ?_
 refine au ?_
 refine snil Fl.i 3 hO fun s hO => ?_
 refine sap1 ((-1 : Int)) 0 hO H.2.2.2 fun _ Jg QU QV s hO => ?_
 refine au ?_
 refine sbs 6 hO fun yW s hO => ?_
 refine au ?_
 refine Go1.ret1V Try.func155 rfl (show _ = .int .i64 (0 : Int) from rfl) ?_
 refine hR189 _ _ ?_
 refine au ?_
 refine zo (J0x Try.underlying23 rfl (Els.neqW d9.u hO 5 rfl)) ?_
 refine au ?_
 refine snil (id Fl.fl : Fl rpRule) 185 hO fun s hO => ?_
 refine snil Fl.i 3 hO fun s hO => ?_
 refine lw H.2.2.2.2 (fun (gC, mt, d_246, mv, jj, d_258, mw, ki, gD) σ w => ∃ nf lX lY ng nh ni nj nk np nq nr ns nt nu nw ny nA nB nC nE nF lp, (fun Z => agrees σ [(6, .pointer (some ⟨B10, 0, none⟩)), (9, .int .i64 (0 : Int)), (85, .slice p25 n27 c26), (86, .int .i64 (d_22.length : Int)), (87, .int .i64 (gC : Int))] ∧ Owns w0.heap.size w Z A ∧ Els (Rp.sl (Rp.int .i64)) (bl Z ++ A) w lp ki ∧ Els (Rp.sl (Rp.int .i64)) (bl Z ++ A) w ik d_22 ∧ Fr (bl []) w0 (bl Z) w) [t1 Fl.i 3 lX nf lY mt, t1 (id Fl.fl : Fl rpRule) 185 nh ng ni d_246, t1 Fl.i 3 nk nj np mv, t1 Fl.str 9 nr nq ns jj, t1 Fl.i 3 nu nt nw d_258, t1 Fl.i 3 nA ny nB mw, .row 31 1 nE nC nF lp, .row 31 1 p25 n27 c26 ik, .blk B10 (.cells #[.int .i64 ((ix a0 (0 : Int)).length : Int), .bool true, .slice p25 n27 c26, .slice nE nC nF, .slice nA ny nB, .slice nu nt nw, .slice none 0 0, .slice nh ng ni, .int .i64 (0 : Int), .map (some B4), .slice nr nq ns, .slice nk nj np, .slice lX nf lY] 156 (0, 0)), .any (mapE (fun a : List UInt8 => Value.string (gstr a)) (fun a : Int => Value.int .i64 a) B4 gD)]) ⟨_, _, _, _, _, _, _, _, _, _, _, _, _, _, _, _, _, _, _, _, _, _, agr, hO, kh.u, d9.u, fr⟩ ?_
 refine fun X3 => p1 fun gC => p1 fun mt => p1 fun d_246 => p1 fun mv => p1 fun jj => p3 fun d_258 mw ki gD => fun H hX3 σ Jh => e4 fun nf lX lY ng => e4 fun nh ni nj nk => e4 fun np nq nr ns => e4 fun nt nu nw ny => e4 fun nA nB nC nE => e2 fun nF lp => d4 fun hag hO gf d9 hB => ?_
 dsimp only at H
 refine Go1.keep _ hag ?_
 revert hO; repeat (rename Owns _ _ _ _ => q; clear q)
 intro hO; repeat (rename Sq _ _ _ _ _ _ => q; clear q)
 refine au ?_
 refine scm H (fun uO H => ?_) fun uO H => ?_
 ·refine au ?_
  obtain ⟨nG, H⟩ := H
  obtain ⟨uP, H⟩ := H
  refine zo (J07 Try.underlying23 ti31 rfl rfl nG (ltn (Els.neqW d9 hO 7 rfl) uP) (Els.psomeW d9 hO 7 rfl nG uP)) ?_
  have zz := oldSl 7 hO rfl d9 nG uP
  obtain ⟨uQ, uR, xh, CU⟩ := zz
  refine zs (CU Try.underlying31 rfl rfl) ?_
  refine au ?_
  obtain ⟨Ji, H⟩ := H
  refine zo (J04 rfl rfl (wrap_i64 Ji)) ?_
  refine zo (J2H Try.underlying3 Try.underlying21 rfl rfl) ?_
  obtain ⟨Jj, H⟩ := H
  obtain ⟨Jk, H⟩ := H
  refine zo (J4j Try.underlying21 Try.underlying9 rfl Jj Jk) ?_
  refine au ?_
  refine drw 0 [(0, .pure), (1, .pure), (2, .pure), (3, .stable), (4, .pure), (5, .loud), (6, .stable), (7, .pure), (8, .pure), (9, .pure), (10, .pure), (11, .pure)] hO fun Jl s hO => ?_
  refine au ?_
  refine zcq rfl (J02 body157 rfl (J0b hO.lt xh.u H)) fun _ QW => e1 fun kK => sq0 hO fun s hO => d1 fun NF H => ?_
  by_cases iu : mhas gD kK = true
  ·refine GoQ.stable rfl (olookT (a := kK) (MK.str Try.underlying9) 9 hO rfl Try.underlying154 rfl rfl iu) rfl rfl ?_
   refine au ?_
   refine drw 5 [(0, .pure), (1, .pure), (2, .pure), (3, .pure), (4, .pure), (5, .stable), (6, .pure), (7, .pure), (8, .pure), (9, .pure), (10, .stable), (11, .pure), (12, .pure), (13, .stable), (14, .pure), (15, .loud), (16, .last), (17, .pure), (18, .pure), (19, .pure), (20, .last)] hO fun QX s hO => ?_
   refine au ?_
   refine sxl1 3 hO (ifp iu H).1 (ifp iu H).2.1 ?_
   have hle288 := t1le 3 hO (ifp iu H).1 (ifp iu H).2.1
   refine GoQ.pure rfl (J06 Try.underlying185 ti185 (pl := [(0, 1), (1, 1)]) (vs := [(0, .string (gstr (chr (IntKind.i32.wrap ((97 : Int) + (gC : Int)))))), (1, .string (gstr (ix jj (mgt gD kK))))]) (cs := #[.string (gstr (chr (IntKind.i32.wrap ((97 : Int) + (gC : Int))))), .string (gstr (ix jj (mgt gD kK)))]) (by kernel_rfl) rfl (by kernel_rfl)) rfl rfl ?_
   refine sapF (⟨(chr (IntKind.i32.wrap ((97 : Int) + (gC : Int)))), ix jj (mgt gD kK)⟩ : Rule) 1 hO (ifp iu H).2.2 (fun _ yX Jm Jo s hO => ?_) (hok := by exact ⟨(J6X _), hle288⟩)
   refine au ?_
   refine sbs 8 hO fun Jp s hO => ?_
   refine au ?_
   refine sap1 ((mgt gD kK)) 0 hO (ifp iu H).2.2.2 fun _ uS Jq Jr s hO => ?_
   refine au ?_
   refine sbs 8 hO fun QY s hO => ?_
   refine au ?_
   refine sinc (natbd uO d9.bd) ?_
   refine au ?_
   exact hX3 _ (ifp iu H).2.2.2.2 _ _ ⟨_, _, _, _, _, _, _, _, _, _, _, _, _, _, _, _, _, _, _, _, _, _, agr, hO, gf.u, d9.u, fr⟩
  refine GoQ.stable rfl (olookF (a := kK) (MK.str Try.underlying9) 9 hO rfl Try.underlying154 ti3 rfl rfl iu) rfl rfl ?_
  refine au ?_
  refine zcr (J02 body86 rfl (J0o hO.lt xh.u (ifn iu H))) fun _ yY => e4 fun y3 lr iv iw => sc1 hO fun s hO => fun H => ?_
  refine au ?_
  refine GoR.inl (vs := [.pointer (some ⟨B10, 0, none⟩), .slice iv lr iw, .int .i64 (0 : Int), .int .i64 (gC : Int), .string (gstr (chr (IntKind.i32.wrap ((97 : Int) + (gC : Int))))), .int .i64 (0 : Int)]) (caps := []) rfl rfl body155 Try.func155 rfl Try.ntmps155 rfl rfl rfl ?_
  intro RhR301 hR301
  refine au ?_
  refine zo (J0x Try.underlying23 rfl (Els.neqW gf.u hO 7 rfl)) ?_
  refine au ?_
  refine drw 1 [(0, .pure), (1, .pure), (2, .pure), (3, .stable), (4, .pure), (6, .pure), (5, .loud), (7, .last)] hO fun Q0 s hO => ?_
  refine au ?_
  have CV := t1lend 0 hO
  have CW := t1n 0 hO
  have hOc305 := hO.drop 0
  refine zcq rfl (J02 body157 (show ([.slice iv lr iw] : List Value) = [.slice iv y3.length iw] from by rw [← CW]) (J0b hOc305.lt CV H)) fun _ Js => e1 fun r306 => sq0 hO fun s hO => d1 fun NG H => ?_
  have zz := omapUpd (MK.str Try.underlying9) 10 hO rfl Try.underlying154 r306 (ki.length : Int)
  obtain ⟨Q1, y4, y5⟩ := zz
  refine GoQ.last rfl (y5 (by exact rfl) (by exact rfl) (by exact rfl)) rfl rfl ?_
  refine nst y4 fun s hO => ?_
  refine au ?_
  refine sfz 0 hO fun s hO CX C0 => ?_
  have zz := J1l (r := Rp.sl (Rp.int .i64)) (n := 1) (parts := [(0, .slice iv lr iw)]) (vs := [.slice iv lr iw]) (xs := [y3]) rfl Try.underlying23 ti31 hO (by decide) (by kernel_rfl) (Els.cons rfl ⟨iv, iw, congrArg some (congrArg (fun nn => Value.slice iv nn iw) C0), CX⟩ (Els.nil _ _ _) (by simp [mx])) rfl
  obtain ⟨uT, Jt, y6, C1, NV, y7⟩ := zz
  refine zg (y7 rfl) ?_
  refine nst y6 fun s hO => ?_
  refine sfzR 0 hO C1 fun s hO C2 C3 => ?_
  obtain ⟨Ju, H⟩ := H
  have zz := oapp Try.underlying23 ti31 rfl 6 hO rfl gf.u C2 C3 Ju (by decide)
  obtain ⟨Jv, Jw, Jx, NW, y8, xi, y9⟩ := zz
  dsimp only [sS, sZ] at xi
  refine zg (y9 (by exact rfl) (by exact rfl)) ?_
  refine nst y8 fun s hO => ?_
  refine au ?_
  refine sbs 8 hO fun Q2 s hO => ?_
  refine au ?_
  refine sap1 ((0 : Int)) 5 hO H fun _ zc uU uV s hO => ?_
  refine au ?_
  refine sbs 8 hO fun Q3 s hO => ?_
  refine au ?_
  refine sap1 ((gC : Int)) 4 hO H.2 fun _ Jy Jz Q4 s hO => ?_
  refine au ?_
  refine sbs 8 hO fun JA s hO => ?_
  refine au ?_
  refine sap1 ((chr (IntKind.i32.wrap ((97 : Int) + (gC : Int))))) 3 hO H.2.2 (fun _ zd zh Q5 s hO => ?_) (hR := by exact fun _ _ => ⟨rfl, (J6X _)⟩)
  refine au ?_
  refine sbs 8 hO fun zj s hO => ?_
  refine au ?_
  refine sap1 ((0 : Int)) 2 hO H.2.2.2 fun _ Q6 Q7 Q8 s hO => ?_
  refine au ?_
  refine sbs 8 hO fun JB s hO => ?_
  refine au ?_
  refine Go1.ret1V Try.func155 rfl (show _ = .int .i64 (ki.length : Int) from rfl) ?_
  refine hR301 _ _ ?_
  refine au ?_
  refine sap1 ((ki.length : Int)) 0 hO H.2.2.2.2 fun _ JC JD JE s hO => ?_
  refine au ?_
  refine sbs 8 hO fun JF s hO => ?_
  refine au ?_
  refine sinc (natbd uO d9.bd) ?_
  refine au ?_
  exact hX3 _ H.2.2.2.2.2 _ _ ⟨_, _, _, _, _, _, _, _, _, _, _, _, _, _, _, _, _, _, _, _, _, _, agr, hO, xi.u, d9.u, fr⟩
 refine au ?_
 have zl := Stp.nil (e := 31) (r := 1) hO
 refine nst zl fun s hO => ?_
 have C4 := Els.nil (Rp.sl (Rp.int .i64)) (bl (.row 31 1 none 0 0 [] :: [t1 Fl.i 3 lX nf lY mt, t1 (id Fl.fl : Fl rpRule) 185 nh ng ni d_246, t1 Fl.i 3 nk nj np mv, t1 Fl.str 9 nr nq ns jj, t1 Fl.i 3 nu nt nw d_258, t1 Fl.i 3 nA ny nB mw, .row 31 1 nE nC nF lp, .row 31 1 p25 n27 c26 ik, .blk B10 (.cells #[.int .i64 ((ix a0 (0 : Int)).length : Int), .bool true, .slice p25 n27 c26, .slice nE nC nF, .slice nA ny nB, .slice nu nt nw, .slice none 0 0, .slice nh ng ni, .int .i64 (0 : Int), .map (some B4), .slice nr nq ns, .slice nk nj np, .slice lX nf lY] 156 (0, 0)), .any (mapE (fun a : List UInt8 => Value.string (gstr a)) (fun a : Int => Value.int .i64 a) B4 gD)]) ++ A) Jh
 refine sfr 10 hO fun s hO => ?_
 refine sfr 2 hO fun s hO => ?_
 refine sfr 4 hO fun s hO => ?_
 refine sfr 5 hO fun s hO => ?_
 refine sfr 5 hO fun s hO => ?_
 refine sfr 5 hO fun s hO => ?_
 refine sfr 6 hO fun s hO => ?_
 refine sfr 7 hO fun s hO => ?_
 refine sfr 8 hO fun s hO => ?_
 refine sfr 9 hO fun s hO => ?_
 refine sfr 10 hO fun s hO => ?_
 refine Go1.ret2 Try.func131 rfl (Or.inr ⟨(⟨(⟨((ix a0 (0 : Int)).length : Int), true, d_22, ki, mw, d_258, ([] : List (List Int)), d_246, (0 : Int)⟩ : Enum), gD, jj, mv, mt⟩ : run), _, _, _, _, _, _, _, _, _, _, _, _, _, _, _, _, _, _, _, _, _, _, _, _, _, _, _, _, _, _, _, _, _, ?_, frs, hO, d9.u, gf.u, C4.u, H⟩)
 exact rfl
theorem body158 : Body Try.prog 158 := ⟨Try.f158, Try.func158, rfl, by kernel_rfl⟩
theorem J3T {A : List Nat} {w0 : World} {p_f : Option Addr} {c_f : Nat} {p_g : Option Addr} {c_g : Nat} {f : List Int} {g : List Int} (hA : ∀ b ∈ A, b < w0.heap.size) (h_f : ISl (Rp.int .i64) A w0 p_f c_f f) (h_g : ISl (Rp.int .i64) A w0 p_g c_g g) {K : List Int → Prop} (H : J1h f g K) :
    CallsV Try.prog 158 #[.slice p_f f.length c_f, .slice p_g g.length c_g] w0 (fun v w' => ∃ (r0 : List Int), ∃ (bS : Option Addr), ∃ (bT : Nat), v = .slice bS r0.length bT ∧ Same w0 w' ∧ ISl (Rp.int .i64) A w' bS bT r0 ∧ K r0) := by
 refine CallsV.of (l := [.slice p_f f.length c_f, .slice p_g g.length c_g]) Try.func158 rfl Try.ntmps158 rfl ?_
 have hO := Owns.start hA
 have hB := Fr.refl (bl []) w0
 unfold J1h at H
 refine au ?_
 refine sln0 ?_
 refine au ?_
 refine sln0 ?_
 refine scm ((H h_f.bd) h_g.bd) (fun h1 H => ?_) fun h1 H => ?_
 ·refine au ?_
  refine zcr (J02 body154 rfl (J1D hO.lt h_f.u H)) fun _ w3 => e1 fun r2 => sc0 hO fun s hO => fun H => ?_
  cases r2
  ·refine au ?_
   refine Go1.ret1 Try.func158 rfl ⟨_, _, _, ?_, frs, (ISl.null _ _ _), (iF H)⟩
   exact rfl
  refine au ?_
  refine zcr (J02 body154 rfl (J1D hO.lt h_g.u (iT H))) fun _ w5 => e1 fun r4 => sc0 hO fun s hO => fun H => ?_
  cases r4
  ·refine au ?_
   refine Go1.ret1 Try.func158 rfl ⟨_, _, _, ?_, frs, (ISl.null _ _ _), (iF H)⟩
   exact rfl
  refine au ?_
  refine sln0 ?_
  refine smk Fl.i (iT H) hO fun w6 p7 s hO => ?_
  refine au ?_
  refine sln0 ?_
  refine au ?_
  refine lw (iT H).2.2 (fun (qV, xj) σ w => (fun Z => agrees σ [(1, .slice p_g g.length c_g), (5, .slice p7 f.length f.length), (26, .slice p_f f.length c_f), (27, .int .i64 (f.length : Int)), (28, .int .i64 (qV : Int))] ∧ Owns w0.heap.size w Z A ∧ Fr (bl []) w0 (bl Z) w) [t1 Fl.i 3 p7 f.length f.length xj]) ⟨agr, hO, fr⟩ ?_
  refine fun X1 => p1 fun qV xj => fun H hX1 σ w9 => d2 fun hag hO hB => ?_
  dsimp only at H
  refine Go1.keep _ hag ?_
  revert hO; repeat (rename Owns _ _ _ _ => q; clear q)
  intro hO; repeat (rename Sq _ _ _ _ _ _ => q; clear q)
  refine au ?_
  refine scm H (fun h12 H => ?_) fun h12 H => ?_
  ·refine au ?_
   refine sxl hO h_f.u H.1 H.2.1 ?_
   refine au ?_
   refine sxl hO h_g.u H.2.2.1 H.2.2.2.1 ?_
   refine six1 0 hO H.2.2.2.2.1 H.2.2.2.2.2.1 ?_
   refine sst (u := (ix g (ix f (qV : Int)))) 0 hO H.2.2.2.2.1 H.2.2.2.2.2.1 fun w13 s hO => ?_
   refine au ?_
   refine sinc (natbd h12 h_f.bd) ?_
   refine au ?_
   exact hX1 _ H.2.2.2.2.2.2 _ _ ⟨agr, hO, fr⟩
  refine au ?_
  refine sfz 0 hO fun s hO kG iW => ?_
  refine Go1.ret1 Try.func158 rfl ⟨_, _, _, ?_, frs, kG.r, H⟩
  exact (congrArg (fun nn => Value.slice p7 nn f.length) iW)
 refine au ?_
 refine Go1.ret1 Try.func158 rfl ⟨_, _, _, ?_, frs, (ISl.null _ _ _), H⟩
 exact rfl
theorem body159 : Body Try.prog 159 := ⟨Try.f159, Try.func159, rfl, by kernel_rfl⟩
theorem body160 : Body Try.prog 160 := ⟨Try.f160, Try.func160, rfl, by kernel_rfl⟩
theorem body133 : Body Try.prog 133 := ⟨Try.f133, Try.func133, rfl, by kernel_rfl⟩
theorem J2h {A : List Nat} {n0 : Nat} {w0 : World} {e9 : Nat} {aV : Nat} {aW : Option Addr} {aX : Nat} {cj : List Value} {bh : Nat} {bi : Option Addr} {bj : Nat} {cJ : List Value} {ba : Nat} {bc : Option Addr} {bg : Nat} {bz : Nat} {bA : Option Addr} {bB : Nat} {aS : Nat} {aT : Option Addr} {aU : Nat} {cg : List Value} {bk : Nat} {bm : Option Addr} {bn : Nat} {az : Nat} {cC : Nat} {cD : Option Addr} {cE : Nat} {ck : Nat} {co : Option Addr} {cp : Nat} {bW : Nat} {bX : Option Addr} {bY : Nat} {a0 : run} (hO : Owns n0 w0 [.blk e9 (.cells #[.int .i64 a0.Enum.Points, .bool a0.Enum.Monoid, .slice aW aV aX, .slice bi bh bj, .slice bc ba bg, .slice bA bz bB, .slice aT aS aU, .slice bm bk bn, .int .i64 a0.Enum.Done, .map (some az), .slice cD cC cE, .slice co ck cp, .slice bX bW bY] 156 (0, 0)), .row 31 1 aW aV aX cj, .row 31 1 bi bh bj cJ, t1 Fl.i 3 bc ba bg a0.Enum.Prefix, t1 Fl.i 3 bA bz bB a0.Enum.Last, .row 31 1 aT aS aU cg, t1 (id Fl.fl : Fl rpRule) 185 bm bk bn a0.Enum.Rules, t1 Fl.str 9 cD cC cE a0.words, t1 Fl.i 3 co ck cp a0.behind, t1 Fl.i 3 bX bW bY a0.single, .any (mapE (fun a : List UInt8 => Value.string (gstr a)) (fun a : Int => Value.int .i64 a) az a0.number)] A) (ak : Els (Rp.sl (Rp.int .i64)) (bl [.blk e9 (.cells #[.int .i64 a0.Enum.Points, .bool a0.Enum.Monoid, .slice aW aV aX, .slice bi bh bj, .slice bc ba bg, .slice bA bz bB, .slice aT aS aU, .slice bm bk bn, .int .i64 a0.Enum.Done, .map (some az), .slice cD cC cE, .slice co ck cp, .slice bX bW bY] 156 (0, 0)), .row 31 1 aW aV aX cj, .row 31 1 bi bh bj cJ, t1 Fl.i 3 bc ba bg a0.Enum.Prefix, t1 Fl.i 3 bA bz bB a0.Enum.Last, .row 31 1 aT aS aU cg, t1 (id Fl.fl : Fl rpRule) 185 bm bk bn a0.Enum.Rules, t1 Fl.str 9 cD cC cE a0.words, t1 Fl.i 3 co ck cp a0.behind, t1 Fl.i 3 bX bW bY a0.single, .any (mapE (fun a : List UInt8 => Value.string (gstr a)) (fun a : Int => Value.int .i64 a) az a0.number)] ++ A) w0 cj a0.Enum.Gens) (kM : Els (Rp.sl (Rp.int .i64)) (bl [.blk e9 (.cells #[.int .i64 a0.Enum.Points, .bool a0.Enum.Monoid, .slice aW aV aX, .slice bi bh bj, .slice bc ba bg, .slice bA bz bB, .slice aT aS aU, .slice bm bk bn, .int .i64 a0.Enum.Done, .map (some az), .slice cD cC cE, .slice co ck cp, .slice bX bW bY] 156 (0, 0)), .row 31 1 aW aV aX cj, .row 31 1 bi bh bj cJ, t1 Fl.i 3 bc ba bg a0.Enum.Prefix, t1 Fl.i 3 bA bz bB a0.Enum.Last, .row 31 1 aT aS aU cg, t1 (id Fl.fl : Fl rpRule) 185 bm bk bn a0.Enum.Rules, t1 Fl.str 9 cD cC cE a0.words, t1 Fl.i 3 co ck cp a0.behind, t1 Fl.i 3 bX bW bY a0.single, .any (mapE (fun a : List UInt8 => Value.string (gstr a)) (fun a : Int => Value.int .i64 a) az a0.number)] ++ A) w0 cJ a0.Enum.Elems) (av : Els (Rp.sl (Rp.int .i64)) (bl [.blk e9 (.cells #[.int .i64 a0.Enum.Points, .bool a0.Enum.Monoid, .slice aW aV aX, .slice bi bh bj, .slice bc ba bg, .slice bA bz bB, .slice aT aS aU, .slice bm bk bn, .int .i64 a0.Enum.Done, .map (some az), .slice cD cC cE, .slice co ck cp, .slice bX bW bY] 156 (0, 0)), .row 31 1 aW aV aX cj, .row 31 1 bi bh bj cJ, t1 Fl.i 3 bc ba bg a0.Enum.Prefix, t1 Fl.i 3 bA bz bB a0.Enum.Last, .row 31 1 aT aS aU cg, t1 (id Fl.fl : Fl rpRule) 185 bm bk bn a0.Enum.Rules, t1 Fl.str 9 cD cC cE a0.words, t1 Fl.i 3 co ck cp a0.behind, t1 Fl.i 3 bX bW bY a0.single, .any (mapE (fun a : List UInt8 => Value.string (gstr a)) (fun a : Int => Value.int .i64 a) az a0.number)] ++ A) w0 cg a0.Enum.Right) {K : Int → run → Prop} (H : J0k a0 K) :
    CallsV Try.prog 133 #[.pointer (some ⟨e9, 0, none⟩)] w0 (fun v w' => ∃ (r0 : Int), ∃ (q : run), ∃ (aM : Nat), ∃ (aN : Option Addr), ∃ (aO : Nat), ∃ (b7 : List Value), ∃ (aB : Nat), ∃ (aC : Option Addr), ∃ (aD : Nat), ∃ (bN : List Value), ∃ (aw : Nat), ∃ (ax : Option Addr), ∃ (ay : Nat), ∃ (aP : Nat), ∃ (aQ : Option Addr), ∃ (aR : Nat), ∃ (aE : Nat), ∃ (aF : Option Addr), ∃ (aG : Nat), ∃ (bO : List Value), ∃ (aH : Nat), ∃ (aI : Option Addr), ∃ (aJ : Nat), ∃ (ca : Nat), ∃ (cb : Option Addr), ∃ (cd : Nat), ∃ (bD : Nat), ∃ (bE : Option Addr), ∃ (bF : Nat), ∃ (bG : Nat), ∃ (bH : Option Addr), ∃ (bI : Nat), v = .int .i64 r0 ∧ Owns n0 w' [.blk e9 (.cells #[.int .i64 q.Enum.Points, .bool q.Enum.Monoid, .slice aN aM aO, .slice aC aB aD, .slice ax aw ay, .slice aQ aP aR, .slice aF aE aG, .slice aI aH aJ, .int .i64 q.Enum.Done, .map (some az), .slice cb ca cd, .slice bE bD bF, .slice bH bG bI] 156 (0, 0)), .row 31 1 aN aM aO b7, .row 31 1 aC aB aD bN, t1 Fl.i 3 ax aw ay q.Enum.Prefix, t1 Fl.i 3 aQ aP aR q.Enum.Last, .row 31 1 aF aE aG bO, t1 (id Fl.fl : Fl rpRule) 185 aI aH aJ q.Enum.Rules, t1 Fl.str 9 cb ca cd q.words, t1 Fl.i 3 bE bD bF q.behind, t1 Fl.i 3 bH bG bI q.single, .any (mapE (fun a : List UInt8 => Value.string (gstr a)) (fun a : Int => Value.int .i64 a) az q.number)] A ∧ Els (Rp.sl (Rp.int .i64)) (bl [.blk e9 (.cells #[.int .i64 q.Enum.Points, .bool q.Enum.Monoid, .slice aN aM aO, .slice aC aB aD, .slice ax aw ay, .slice aQ aP aR, .slice aF aE aG, .slice aI aH aJ, .int .i64 q.Enum.Done, .map (some az), .slice cb ca cd, .slice bE bD bF, .slice bH bG bI] 156 (0, 0)), .row 31 1 aN aM aO b7, .row 31 1 aC aB aD bN, t1 Fl.i 3 ax aw ay q.Enum.Prefix, t1 Fl.i 3 aQ aP aR q.Enum.Last, .row 31 1 aF aE aG bO, t1 (id Fl.fl : Fl rpRule) 185 aI aH aJ q.Enum.Rules, t1 Fl.str 9 cb ca cd q.words, t1 Fl.i 3 bE bD bF q.behind, t1 Fl.i 3 bH bG bI q.single, .any (mapE (fun a : List UInt8 => Value.string (gstr a)) (fun a : Int => Value.int .i64 a) az q.number)] ++ A) w' b7 q.Enum.Gens ∧ Els (Rp.sl (Rp.int .i64)) (bl [.blk e9 (.cells #[.int .i64 q.Enum.Points, .bool q.Enum.Monoid, .slice aN aM aO, .slice aC aB aD, .slice ax aw ay, .slice aQ aP aR, .slice aF aE aG, .slice aI aH aJ, .int .i64 q.Enum.Done, .map (some az), .slice cb ca cd, .slice bE bD bF, .slice bH bG bI] 156 (0, 0)), .row 31 1 aN aM aO b7, .row 31 1 aC aB aD bN, t1 Fl.i 3 ax aw ay q.Enum.Prefix, t1 Fl.i 3 aQ aP aR q.Enum.Last, .row 31 1 aF aE aG bO, t1 (id Fl.fl : Fl rpRule) 185 aI aH aJ q.Enum.Rules, t1 Fl.str 9 cb ca cd q.words, t1 Fl.i 3 bE bD bF q.behind, t1 Fl.i 3 bH bG bI q.single, .any (mapE (fun a : List UInt8 => Value.string (gstr a)) (fun a : Int => Value.int .i64 a) az q.number)] ++ A) w' bN q.Enum.Elems ∧ Els (Rp.sl (Rp.int .i64)) (bl [.blk e9 (.cells #[.int .i64 q.Enum.Points, .bool q.Enum.Monoid, .slice aN aM aO, .slice aC aB aD, .slice ax aw ay, .slice aQ aP aR, .slice aF aE aG, .slice aI aH aJ, .int .i64 q.Enum.Done, .map (some az), .slice cb ca cd, .slice bE bD bF, .slice bH bG bI] 156 (0, 0)), .row 31 1 aN aM aO b7, .row 31 1 aC aB aD bN, t1 Fl.i 3 ax aw ay q.Enum.Prefix, t1 Fl.i 3 aQ aP aR q.Enum.Last, .row 31 1 aF aE aG bO, t1 (id Fl.fl : Fl rpRule) 185 aI aH aJ q.Enum.Rules, t1 Fl.str 9 cb ca cd q.words, t1 Fl.i 3 bE bD bF q.behind, t1 Fl.i 3 bH bG bI q.single, .any (mapE (fun a : List UInt8 => Value.string (gstr a)) (fun a : Int => Value.int .i64 a) az q.number)] ++ A) w' bO q.Enum.Right ∧ Fr (bl [.blk e9 (.cells #[.int .i64 a0.Enum.Points, .bool a0.Enum.Monoid, .slice aW aV aX, .slice bi bh bj, .slice bc ba bg, .slice bA bz bB, .slice aT aS aU, .slice bm bk bn, .int .i64 a0.Enum.Done, .map (some az), .slice cD cC cE, .slice co ck cp, .slice bX bW bY] 156 (0, 0)), .row 31 1 aW aV aX cj, .row 31 1 bi bh bj cJ, t1 Fl.i 3 bc ba bg a0.Enum.Prefix, t1 Fl.i 3 bA bz bB a0.Enum.Last, .row 31 1 aT aS aU cg, t1 (id Fl.fl : Fl rpRule) 185 bm bk bn a0.Enum.Rules, t1 Fl.str 9 cD cC cE a0.words, t1 Fl.i 3 co ck cp a0.behind, t1 Fl.i 3 bX bW bY a0.single, .any (mapE (fun a : List UInt8 => Value.string (gstr a)) (fun a : Int => Value.int .i64 a) az a0.number)]) w0 (bl [.blk e9 (.cells #[.int .i64 q.Enum.Points, .bool q.Enum.Monoid, .slice aN aM aO, .slice aC aB aD, .slice ax aw ay, .slice aQ aP aR, .slice aF aE aG, .slice aI aH aJ, .int .i64 q.Enum.Done, .map (some az), .slice cb ca cd, .slice bE bD bF, .slice bH bG bI] 156 (0, 0)), .row 31 1 aN aM aO b7, .row 31 1 aC aB aD bN, t1 Fl.i 3 ax aw ay q.Enum.Prefix, t1 Fl.i 3 aQ aP aR q.Enum.Last, .row 31 1 aF aE aG bO, t1 (id Fl.fl : Fl rpRule) 185 aI aH aJ q.Enum.Rules, t1 Fl.str 9 cb ca cd q.words, t1 Fl.i 3 bE bD bF q.behind, t1 Fl.i 3 bH bG bI q.single, .any (mapE (fun a : List UInt8 => Value.string (gstr a)) (fun a : Int => Value.int .i64 a) az q.number)]) w' ∧ K r0 q) := by
 refine CallsV.of (l := [.pointer (some ⟨e9, 0, none⟩)]) Try.func133 rfl Try.ntmps133 rfl ?_
 have hB := Fr.refl (bl [.blk e9 (.cells #[.int .i64 a0.Enum.Points, .bool a0.Enum.Monoid, .slice aW aV aX, .slice bi bh bj, .slice bc ba bg, .slice bA bz bB, .slice aT aS aU, .slice bm bk bn, .int .i64 a0.Enum.Done, .map (some az), .slice cD cC cE, .slice co ck cp, .slice bX bW bY] 156 (0, 0)), .row 31 1 aW aV aX cj, .row 31 1 bi bh bj cJ, t1 Fl.i 3 bc ba bg a0.Enum.Prefix, t1 Fl.i 3 bA bz bB a0.Enum.Last, .row 31 1 aT aS aU cg, t1 (id Fl.fl : Fl rpRule) 185 bm bk bn a0.Enum.Rules, t1 Fl.str 9 cD cC cE a0.words, t1 Fl.i 3 co ck cp a0.behind, t1 Fl.i 3 bX bW bY a0.single, .any (mapE (fun a : List UInt8 => Value.string (gstr a)) (fun a : Int => Value.int .i64 a) az a0.number)]) w0
 unfold J0k at H
 refine au ?_
 refine zo (J0x Try.underlying23 rfl (Els.neqW ak hO 1 rfl)) ?_
 refine smk Fl.i H hO fun w1 p4 s hO => ?_
 refine au ?_
 refine zo (J0x Try.underlying23 rfl (Els.neqW ak.u hO 2 rfl)) ?_
 refine au ?_
 refine lw H.2.2 (fun (bC, d_8, d_9, kN, qW, gN, d_27, iA, en) σ w => ∃ n14 p12 c13 fC n18 p16 c17 n22 p20 c21 n26 p24 c25 n30 p28 c29 n34 p32 c33, (fun Z => agrees σ [(0, .pointer (some ⟨e9, 0, none⟩)), (3, .int .i64 a0.Enum.Done), (4, .slice p4 a0.Enum.Gens.length a0.Enum.Gens.length), (27, .slice aW aV aX), (28, .int .i64 (a0.Enum.Gens.length : Int)), (29, .int .i64 (bC : Int))] ∧ Owns n0 w Z A ∧ Els (Rp.sl (Rp.int .i64)) (bl Z ++ A) w cj a0.Enum.Gens ∧ Els (Rp.sl (Rp.int .i64)) (bl Z ++ A) w fC d_9 ∧ Els (Rp.sl (Rp.int .i64)) (bl Z ++ A) w cg a0.Enum.Right ∧ Fr (bl [.blk e9 (.cells #[.int .i64 a0.Enum.Points, .bool a0.Enum.Monoid, .slice aW aV aX, .slice bi bh bj, .slice bc ba bg, .slice bA bz bB, .slice aT aS aU, .slice bm bk bn, .int .i64 a0.Enum.Done, .map (some az), .slice cD cC cE, .slice co ck cp, .slice bX bW bY] 156 (0, 0)), .row 31 1 aW aV aX cj, .row 31 1 bi bh bj cJ, t1 Fl.i 3 bc ba bg a0.Enum.Prefix, t1 Fl.i 3 bA bz bB a0.Enum.Last, .row 31 1 aT aS aU cg, t1 (id Fl.fl : Fl rpRule) 185 bm bk bn a0.Enum.Rules, t1 Fl.str 9 cD cC cE a0.words, t1 Fl.i 3 co ck cp a0.behind, t1 Fl.i 3 bX bW bY a0.single, .any (mapE (fun a : List UInt8 => Value.string (gstr a)) (fun a : Int => Value.int .i64 a) az a0.number)]) w0 (bl Z) w) [t1 Fl.i 3 p4 a0.Enum.Gens.length a0.Enum.Gens.length d_8, .blk e9 (.cells #[.int .i64 a0.Enum.Points, .bool a0.Enum.Monoid, .slice aW aV aX, .slice p12 n14 c13, .slice p16 n18 c17, .slice p20 n22 c21, .slice aT aS aU, .slice p24 n26 c25, .int .i64 a0.Enum.Done, .map (some az), .slice p28 n30 c29, .slice p32 n34 c33, .slice bX bW bY] 156 (0, 0)), .row 31 1 aW aV aX cj, .row 31 1 p12 n14 c13 fC, t1 Fl.i 3 p16 n18 c17 kN, t1 Fl.i 3 p20 n22 c21 qW, .row 31 1 aT aS aU cg, t1 (id Fl.fl : Fl rpRule) 185 p24 n26 c25 gN, t1 Fl.str 9 p28 n30 c29 d_27, t1 Fl.i 3 p32 n34 c33 iA, t1 Fl.i 3 bX bW bY a0.single, .any (mapE (fun a : List UInt8 => Value.string (gstr a)) (fun a : Int => Value.int .i64 a) az en)]) ⟨_, _, _, _, _, _, _, _, _, _, _, _, _, _, _, _, _, _, _, agr, hO, ak.u, kM.u, av.u, fr⟩ ?_
 refine fun X1 => p1 fun bC => p1 fun d_8 => p1 fun d_9 => p1 fun kN => p1 fun qW => p3 fun gN d_27 iA en => fun H hX1 σ w6 => e4 fun n14 p12 c13 fC => e4 fun n18 p16 c17 n22 => e4 fun p20 c21 n26 p24 => e4 fun c25 n30 p28 c29 => e3 fun n34 p32 c33 => d1 fun hag => d4 fun hO ak cM av hB => ?_
 dsimp only at H
 refine Go1.keep _ hag ?_
 revert hO; repeat (rename Owns _ _ _ _ => q; clear q)
 intro hO; repeat (rename Sq _ _ _ _ _ _ => q; clear q)
 refine au ?_
 refine scm H (fun h36 H => ?_) fun h36 H => ?_
 ·refine au ?_
  obtain ⟨h37, H⟩ := H
  obtain ⟨h38, H⟩ := H
  refine zo (J07 Try.underlying23 ti31 rfl rfl h37 (ltn (Els.neqW ak hO 2 rfl) h38) (Els.psomeW ak hO 2 rfl h37 h38)) ?_
  have zz := oldSl 2 hO rfl ak h37 h38
  obtain ⟨p39, c40, nH, JG⟩ := zz
  refine zs (JG Try.underlying31 rfl rfl) ?_
  refine au ?_
  obtain ⟨h43, H⟩ := H
  obtain ⟨h44, H⟩ := H
  refine zo (J07 Try.underlying23 ti31 rfl rfl h43 (ltn (Els.neqW cM hO 3 rfl) h44) (Els.psomeW cM hO 3 rfl h43 h44)) ?_
  have zz := oldSl 3 hO rfl cM h43 h44
  obtain ⟨p45, c46, JH, JI⟩ := zz
  refine zs (JI Try.underlying31 rfl rfl) ?_
  refine au ?_
  refine zcr (J02 body158 rfl (J3T hO.lt JH nH H)) fun _ w50 => e3 fun r49 iN iO => sc0 hO fun s hO => d1 fun lv H => ?_
  refine au ?_
  refine drw 0 [(0, .pure), (1, .pure), (2, .pure), (3, .stable), (4, .pure), (5, .loud), (6, .stable), (7, .pure), (8, .pure), (9, .pure), (10, .pure), (11, .pure)] hO fun w51 s hO => ?_
  refine au ?_
  refine zcq rfl (J02 body157 rfl (J0b hO.lt lv.u H)) fun _ w53 => e1 fun r52 => sq0 hO fun s hO => d1 fun NK H => ?_
  by_cases h54 : mhas en r52 = true
  ·refine GoQ.stable rfl (olookT (a := r52) (MK.str Try.underlying9) 11 hO rfl Try.underlying154 rfl rfl h54) rfl rfl ?_
   refine au ?_
   refine sxl1 8 hO (ifp h54 H).1 (ifp h54 H).2.1 ?_
   have hle55 := t1le 8 hO (ifp h54 H).1 (ifp h54 H).2.1
   refine au ?_
   have h56 := (ifp h54 H).1
   have h57 := (ifp h54 H).2.1
   replace H := (ifp h54 H).2.2
   obtain ⟨h58, H⟩ := H
   refine zo (J04 rfl rfl (wrap_i64 h58)) ?_
   refine zo (J2H Try.underlying3 Try.underlying21 rfl rfl) ?_
   obtain ⟨h59, H⟩ := H
   obtain ⟨h60, H⟩ := H
   refine zo (J4j Try.underlying21 Try.underlying9 rfl h59 h60) ?_
   obtain ⟨h61, H⟩ := H
   refine zo (J0a rfl rfl h61) ?_
   refine au ?_
   refine sxl1 8 hO H.1 H.2.1 ?_
   have hle62 := t1le 8 hO H.1 H.2.1
   have h63 := H.1
   have h64 := H.2.1
   refine scm H.2.2 (fun h65 H => ?_) fun h65 H => ?_
   ·refine au ?_
    refine six1 0 hO H.1 H.2.1 ?_
    refine sst (u := (mgt en r52)) 0 hO H.1 H.2.1 fun w66 s hO => ?_
    refine au ?_
    refine sinc (natbd h36 ak.bd) ?_
    refine au ?_
    exact hX1 _ H.2.2 _ _ ⟨_, _, _, _, _, _, _, _, _, _, _, _, _, _, _, _, _, _, _, agr, hO, ak.u, cM.u, av.u, fr⟩
   refine au ?_
   refine six1 9 hO H.1 H.2.1 ?_
   refine sld1 9 hO H.1 H.2.1 ?_
   refine au ?_
   refine GoR.inl (vs := [.pointer (some ⟨e9, 0, none⟩), .int .i64 (ix iA a0.Enum.Done), .int .i64 (bC : Int)]) (caps := []) rfl rfl body160 Try.func160 rfl Try.ntmps160 rfl rfl rfl ?_
   intro RhR67 hR67
   refine au ?_
   refine GoR.inl (vs := [.pointer (some ⟨e9, 0, none⟩), .int .i64 (ix iA a0.Enum.Done), .int .i64 (bC : Int)]) (caps := []) rfl rfl body159 Try.func159 rfl Try.ntmps159 rfl rfl rfl ?_
   intro RhR68 hR68
   refine au ?_
   refine scm H.2.2 (fun h69 H => ?_) fun h69 H => ?_
   ·refine au ?_
    refine sxl1 10 hO H.1 H.2.1 ?_
    refine au ?_
    refine Go1.ret1V Try.func159 rfl (show _ = .int .i64 (ix a0.single (bC : Int)) from rfl) ?_
    refine hR68 _ _ ?_
    refine au ?_
    refine sxl1 4 hO H.2.2.1 H.2.2.2.1 ?_
    refine au ?_
    have h70 := H.2.2.1
    have h71 := H.2.2.2.1
    refine scm H.2.2.2.2 (fun h72 H => ?_) fun h72 H => ?_
    ·refine au ?_
     refine six1 5 hO H.1 H.2.1 ?_
     refine sld1 5 hO H.1 H.2.1 ?_
     refine au ?_
     have h73 := H.1
     have h74 := H.2.1
     refine scm H.2.2 (fun h75 H => ?_) fun h75 H => ?_
     ·refine au ?_
      refine Go1.ret1V Try.func160 rfl (show _ = .bool true from rfl) ?_
      refine hR67 _ _ ?_
      refine au ?_
      refine drw 5 [(0, .pure), (1, .pure), (2, .pure), (3, .pure), (4, .pure), (5, .stable), (6, .pure), (7, .pure), (8, .pure), (9, .pure), (10, .stable), (11, .pure), (12, .pure), (13, .stable), (14, .pure), (15, .loud), (16, .last), (17, .pure), (18, .pure), (19, .pure), (20, .last)] hO fun w76 s hO => ?_
      refine au ?_
      refine sxl1 8 hO H.1 H.2.1 ?_
      have hle77 := t1le 8 hO H.1 H.2.1
      refine GoQ.pure rfl (J06 Try.underlying185 ti185 (pl := [(0, 1), (1, 1)]) (vs := [(0, .string (gstr ((ix d_27 a0.Enum.Done) ++ (chr (IntKind.i32.wrap ((97 : Int) + (bC : Int))))))), (1, .string (gstr (ix d_27 (mgt en r52))))]) (cs := #[.string (gstr ((ix d_27 a0.Enum.Done) ++ (chr (IntKind.i32.wrap ((97 : Int) + (bC : Int)))))), .string (gstr (ix d_27 (mgt en r52)))]) (by kernel_rfl) rfl (by kernel_rfl)) rfl rfl ?_
      refine sapF (⟨((ix d_27 a0.Enum.Done) ++ (chr (IntKind.i32.wrap ((97 : Int) + (bC : Int))))), ix d_27 (mgt en r52)⟩ : Rule) 7 hO H.2.2 (fun _ w78 p79 c80 s hO => ?_) (hok := by exact ⟨(lenApp h61), hle77⟩)
      refine au ?_
      refine sbs 1 hO fun w81 s hO => ?_
      refine au ?_
      refine six1 0 hO H.2.2.2.1 H.2.2.2.2.1 ?_
      refine sst (u := (mgt en r52)) 0 hO H.2.2.2.1 H.2.2.2.2.1 fun w82 s hO => ?_
      refine au ?_
      refine sinc (natbd h36 ak.bd) ?_
      refine au ?_
      exact hX1 _ H.2.2.2.2.2 _ _ ⟨_, _, _, _, _, _, _, _, _, _, _, _, _, _, _, _, _, _, _, agr, hO, ak.u, cM.u, av.u, fr⟩
     refine au ?_
     refine Go1.ret1V Try.func160 rfl (show _ = .bool false from rfl) ?_
     refine hR67 _ _ ?_
     refine au ?_
     refine six1 0 hO H.1 H.2.1 ?_
     refine sst (u := (mgt en r52)) 0 hO H.1 H.2.1 fun w83 s hO => ?_
     refine au ?_
     refine sinc (natbd h36 ak.bd) ?_
     refine au ?_
     exact hX1 _ H.2.2 _ _ ⟨_, _, _, _, _, _, _, _, _, _, _, _, _, _, _, _, _, _, _, agr, hO, ak.u, cM.u, av.u, fr⟩
    refine au ?_
    refine Go1.ret1V Try.func160 rfl (show _ = .bool false from rfl) ?_
    refine hR67 _ _ ?_
    refine au ?_
    refine six1 0 hO H.1 H.2.1 ?_
    refine sst (u := (mgt en r52)) 0 hO H.1 H.2.1 fun w84 s hO => ?_
    refine au ?_
    refine sinc (natbd h36 ak.bd) ?_
    refine au ?_
    exact hX1 _ H.2.2 _ _ ⟨_, _, _, _, _, _, _, _, _, _, _, _, _, _, _, _, _, _, _, agr, hO, ak.u, cM.u, av.u, fr⟩
   refine au ?_
   obtain ⟨h85, H⟩ := H
   obtain ⟨h86, H⟩ := H
   refine zo (J07 Try.underlying23 ti31 rfl rfl h85 (ltn (Els.neqW av.u hO 6 rfl) h86) (Els.psomeW av.u hO 6 rfl h85 h86)) ?_
   have zz := oldSl 6 hO rfl av.u h85 h86
   obtain ⟨p87, c88, ux, JJ⟩ := zz
   refine zs (JJ Try.underlying31 rfl rfl) ?_
   refine au ?_
   refine sxl hO ux H.1 H.2.1 ?_
   refine au ?_
   refine Go1.ret1V Try.func159 rfl (show _ = .int .i64 (ix (ix a0.Enum.Right (ix iA a0.Enum.Done)) (bC : Int)) from rfl) ?_
   refine hR68 _ _ ?_
   refine au ?_
   refine sxl1 4 hO H.2.2.1 H.2.2.2.1 ?_
   refine au ?_
   have h91 := H.2.2.1
   have h92 := H.2.2.2.1
   refine scm H.2.2.2.2 (fun h93 H => ?_) fun h93 H => ?_
   ·refine au ?_
    refine six1 5 hO H.1 H.2.1 ?_
    refine sld1 5 hO H.1 H.2.1 ?_
    refine au ?_
    have h94 := H.1
    have h95 := H.2.1
    refine scm H.2.2 (fun h96 H => ?_) fun h96 H => ?_
    ·refine au ?_
     refine Go1.ret1V Try.func160 rfl (show _ = .bool true from rfl) ?_
     refine hR67 _ _ ?_
     refine au ?_
     refine drw 5 [(0, .pure), (1, .pure), (2, .pure), (3, .pure), (4, .pure), (5, .stable), (6, .pure), (7, .pure), (8, .pure), (9, .pure), (10, .stable), (11, .pure), (12, .pure), (13, .stable), (14, .pure), (15, .loud), (16, .last), (17, .pure), (18, .pure), (19, .pure), (20, .last)] hO fun w97 s hO => ?_
     refine au ?_
     refine sxl1 8 hO H.1 H.2.1 ?_
     have hle98 := t1le 8 hO H.1 H.2.1
     refine GoQ.pure rfl (J06 Try.underlying185 ti185 (pl := [(0, 1), (1, 1)]) (vs := [(0, .string (gstr ((ix d_27 a0.Enum.Done) ++ (chr (IntKind.i32.wrap ((97 : Int) + (bC : Int))))))), (1, .string (gstr (ix d_27 (mgt en r52))))]) (cs := #[.string (gstr ((ix d_27 a0.Enum.Done) ++ (chr (IntKind.i32.wrap ((97 : Int) + (bC : Int)))))), .string (gstr (ix d_27 (mgt en r52)))]) (by kernel_rfl) rfl (by kernel_rfl)) rfl rfl ?_
     refine sapF (⟨((ix d_27 a0.Enum.Done) ++ (chr (IntKind.i32.wrap ((97 : Int) + (bC : Int))))), ix d_27 (mgt en r52)⟩ : Rule) 7 hO H.2.2 (fun _ w99 Q9 Ra s hO => ?_) (hok := by exact ⟨(lenApp h61), hle98⟩)
     refine au ?_
     refine sbs 1 hO fun uW s hO => ?_
     refine au ?_
     refine six1 0 hO H.2.2.2.1 H.2.2.2.2.1 ?_
     refine sst (u := (mgt en r52)) 0 hO H.2.2.2.1 H.2.2.2.2.1 fun IQ s hO => ?_
     refine au ?_
     refine sinc (natbd h36 ak.bd) ?_
     refine au ?_
     exact hX1 _ H.2.2.2.2.2 _ _ ⟨_, _, _, _, _, _, _, _, _, _, _, _, _, _, _, _, _, _, _, agr, hO, ak.u, cM.u, av.u, fr⟩
    refine au ?_
    refine Go1.ret1V Try.func160 rfl (show _ = .bool false from rfl) ?_
    refine hR67 _ _ ?_
    refine au ?_
    refine six1 0 hO H.1 H.2.1 ?_
    refine sst (u := (mgt en r52)) 0 hO H.1 H.2.1 fun uF s hO => ?_
    refine au ?_
    refine sinc (natbd h36 ak.bd) ?_
    refine au ?_
    exact hX1 _ H.2.2 _ _ ⟨_, _, _, _, _, _, _, _, _, _, _, _, _, _, _, _, _, _, _, agr, hO, ak.u, cM.u, av.u, fr⟩
   refine au ?_
   refine Go1.ret1V Try.func160 rfl (show _ = .bool false from rfl) ?_
   refine hR67 _ _ ?_
   refine au ?_
   refine six1 0 hO H.1 H.2.1 ?_
   refine sst (u := (mgt en r52)) 0 hO H.1 H.2.1 fun qn s hO => ?_
   refine au ?_
   refine sinc (natbd h36 ak.bd) ?_
   refine au ?_
   exact hX1 _ H.2.2 _ _ ⟨_, _, _, _, _, _, _, _, _, _, _, _, _, _, _, _, _, _, _, agr, hO, ak.u, cM.u, av.u, fr⟩
  refine GoQ.stable rfl (olookF (a := r52) (MK.str Try.underlying9) 11 hO rfl Try.underlying154 ti3 rfl rfl h54) rfl rfl ?_
  refine au ?_
  refine sxl1 8 hO (ifn h54 H).1 (ifn h54 H).2.1 ?_
  have hle106 := t1le 8 hO (ifn h54 H).1 (ifn h54 H).2.1
  refine au ?_
  have mS := (ifn h54 H).1
  have x9 := (ifn h54 H).2.1
  replace H := (ifn h54 H).2.2
  obtain ⟨JK, H⟩ := H
  refine zo (J04 rfl rfl (wrap_i64 JK)) ?_
  refine zo (J2H Try.underlying3 Try.underlying21 rfl rfl) ?_
  obtain ⟨JL, H⟩ := H
  obtain ⟨mT, H⟩ := H
  refine zo (J4j Try.underlying21 Try.underlying9 rfl JL mT) ?_
  obtain ⟨kC, H⟩ := H
  refine zo (J0a rfl rfl kC) ?_
  refine au ?_
  refine zo (J0x Try.underlying23 rfl (Els.neqW cM.u hO 3 rfl)) ?_
  refine scm H (fun kD H => ?_) fun kD H => ?_
  ·refine au ?_
   refine sdr [0] hO fun s hO => ?_
   refine Go1.ret1 Try.func133 rfl ⟨_, (⟨(⟨a0.Enum.Points, a0.Enum.Monoid, a0.Enum.Gens, d_9, kN, qW, a0.Enum.Right, gN, a0.Enum.Done⟩ : Enum), en, d_27, iA, a0.single⟩ : run), _, _, _, _, _, _, _, _, _, _, _, _, _, _, _, _, _, _, _, _, _, _, _, _, _, _, _, _, _, _, ?_, hO, ak.u, cM.u, av.u, fr, H⟩
   exact rfl
  refine au ?_
  refine sxl1 9 hO H.1 H.2.1 ?_
  refine au ?_
  refine GoR.inl (vs := [.pointer (some ⟨e9, 0, none⟩), .int .i64 (ix iA a0.Enum.Done), .int .i64 (bC : Int)]) (caps := []) rfl rfl body159 Try.func159 rfl Try.ntmps159 rfl rfl rfl ?_
  intro RhR114 hR114
  refine au ?_
  refine scm H.2.2 (fun uX H => ?_) fun uX H => ?_
  ·refine au ?_
   refine sxl1 10 hO H.1 H.2.1 ?_
   refine au ?_
   refine Go1.ret1V Try.func159 rfl (show _ = .int .i64 (ix a0.single (bC : Int)) from rfl) ?_
   refine hR114 _ _ ?_
   refine GoR.inl (vs := [.pointer (some ⟨e9, 0, none⟩), .slice iN r49.length iO, .int .i64 a0.Enum.Done, .int .i64 (bC : Int), .string (gstr ((ix d_27 a0.Enum.Done) ++ (chr (IntKind.i32.wrap ((97 : Int) + (bC : Int)))))), .int .i64 (ix a0.single (bC : Int))]) (caps := []) rfl rfl body155 Try.func155 rfl Try.ntmps155 rfl rfl rfl ?_
   intro RhR116 hR116
   refine au ?_
   refine zo (J0x Try.underlying23 rfl (Els.neqW cM.u hO 3 rfl)) ?_
   refine au ?_
   refine drw 1 [(0, .pure), (1, .pure), (2, .pure), (3, .stable), (4, .pure), (6, .pure), (5, .loud), (7, .last)] hO fun qQ s hO => ?_
   refine au ?_
   refine zcq rfl (J02 body157 rfl (J0b hO.lt lv.u H.2.2)) fun _ uq => e1 fun gE => sq0 hO fun s hO => d1 fun NH H => ?_
   have zz := omapUpd (MK.str Try.underlying9) 11 hO rfl Try.underlying154 gE (d_9.length : Int)
   obtain ⟨qX, mU, zu⟩ := zz
   refine GoQ.last rfl (zu (by exact rfl) (by exact rfl) (by exact rfl)) rfl rfl ?_
   refine nst mU fun s hO => ?_
   refine au ?_
   have zz := J1l (r := Rp.sl (Rp.int .i64)) (n := 1) (parts := [(0, .slice iN r49.length iO)]) (vs := [.slice iN r49.length iO]) (xs := [r49]) rfl Try.underlying23 ti31 hO (by decide) (by kernel_rfl) (Els.cons rfl ⟨iN, iO, rfl, lv.u⟩ (Els.nil _ _ _) (by simp [mx])) rfl
   obtain ⟨JM, kO, zw, lA, NX, zx⟩ := zz
   refine zg (zx rfl) ?_
   refine nst zw fun s hO => ?_
   refine sfzR 0 hO lA fun s hO qY q8 => ?_
   obtain ⟨JN, H⟩ := H
   have zz := oapp Try.underlying23 ti31 rfl 3 hO rfl cM.u qY q8 JN (by decide)
   obtain ⟨Rb, Rc, Rd, NY, zy, kj, zA⟩ := zz
   dsimp only [sS, sZ] at kj
   refine zg (zA (by exact rfl) (by exact rfl)) ?_
   refine nst zy fun s hO => ?_
   refine au ?_
   refine sbs 1 hO fun JO s hO => ?_
   refine au ?_
   refine sap1 a0.Enum.Done 4 hO H fun _ Re Rf Rg s hO => ?_
   refine au ?_
   refine sbs 1 hO fun yI s hO => ?_
   refine au ?_
   refine sap1 ((bC : Int)) 5 hO H.2 fun _ Rh Ri Rj s hO => ?_
   refine au ?_
   refine sbs 1 hO fun JP s hO => ?_
   refine au ?_
   refine sap1 (((ix d_27 a0.Enum.Done) ++ (chr (IntKind.i32.wrap ((97 : Int) + (bC : Int)))))) 8 hO H.2.2 (fun _ JQ JR Rk s hO => ?_) (hR := by exact fun _ _ => ⟨rfl, (lenApp kC)⟩)
   refine au ?_
   refine sbs 1 hO fun yd s hO => ?_
   refine au ?_
   refine sap1 ((ix a0.single (bC : Int))) 9 hO H.2.2.2 fun _ uY Rl Rm s hO => ?_
   refine au ?_
   refine sbs 1 hO fun JS s hO => ?_
   refine au ?_
   refine Go1.ret1V Try.func155 rfl (show _ = .int .i64 (d_9.length : Int) from rfl) ?_
   refine hR116 _ _ ?_
   refine au ?_
   refine six1 0 hO H.2.2.2.2.1 H.2.2.2.2.2.1 ?_
   refine sst (u := (d_9.length : Int)) 0 hO H.2.2.2.2.1 H.2.2.2.2.2.1 fun Rn s hO => ?_
   refine au ?_
   refine sinc (natbd h36 ak.bd) ?_
   refine au ?_
   exact hX1 _ H.2.2.2.2.2.2 _ _ ⟨_, _, _, _, _, _, _, _, _, _, _, _, _, _, _, _, _, _, _, agr, hO, ak.u, kj.u, av.u, fr⟩
  refine au ?_
  obtain ⟨u0, H⟩ := H
  obtain ⟨u4, H⟩ := H
  refine zo (J07 Try.underlying23 ti31 rfl rfl u0 (ltn (Els.neqW av.u hO 6 rfl) u4) (Els.psomeW av.u hO 6 rfl u0 u4)) ?_
  have zz := oldSl 6 hO rfl av.u u0 u4
  obtain ⟨lU, Ro, q9, C5⟩ := zz
  refine zs (C5 Try.underlying31 rfl rfl) ?_
  refine au ?_
  refine sxl hO q9 H.1 H.2.1 ?_
  refine au ?_
  refine Go1.ret1V Try.func159 rfl (show _ = .int .i64 (ix (ix a0.Enum.Right (ix iA a0.Enum.Done)) (bC : Int)) from rfl) ?_
  refine hR114 _ _ ?_
  refine GoR.inl (vs := [.pointer (some ⟨e9, 0, none⟩), .slice iN r49.length iO, .int .i64 a0.Enum.Done, .int .i64 (bC : Int), .string (gstr ((ix d_27 a0.Enum.Done) ++ (chr (IntKind.i32.wrap ((97 : Int) + (bC : Int)))))), .int .i64 (ix (ix a0.Enum.Right (ix iA a0.Enum.Done)) (bC : Int))]) (caps := []) rfl rfl body155 Try.func155 rfl Try.ntmps155 rfl rfl rfl ?_
  intro RhR165 hR165
  refine au ?_
  refine zo (J0x Try.underlying23 rfl (Els.neqW cM.u hO 3 rfl)) ?_
  refine au ?_
  refine drw 1 [(0, .pure), (1, .pure), (2, .pure), (3, .stable), (4, .pure), (6, .pure), (5, .loud), (7, .last)] hO fun Rq s hO => ?_
  refine au ?_
  refine zcq rfl (J02 body157 rfl (J0b hO.lt lv.u H.2.2)) fun _ uM => e1 fun r167 => sq0 hO fun s hO => d1 fun NI H => ?_
  have zz := omapUpd (MK.str Try.underlying9) 11 hO rfl Try.underlying154 r167 (d_9.length : Int)
  obtain ⟨JT, zB, zC⟩ := zz
  refine GoQ.last rfl (zC (by exact rfl) (by exact rfl) (by exact rfl)) rfl rfl ?_
  refine nst zB fun s hO => ?_
  refine au ?_
  have zz := J1l (r := Rp.sl (Rp.int .i64)) (n := 1) (parts := [(0, .slice iN r49.length iO)]) (vs := [.slice iN r49.length iO]) (xs := [r49]) rfl Try.underlying23 ti31 hO (by decide) (by kernel_rfl) (Els.cons rfl ⟨iN, iO, rfl, lv.u⟩ (Els.nil _ _ _) (by simp [mx])) rfl
  obtain ⟨yN, iq, zD, C6, N1, zE⟩ := zz
  refine zg (zE rfl) ?_
  refine nst zD fun s hO => ?_
  refine sfzR 0 hO C6 fun s hO qw qz => ?_
  obtain ⟨JU, H⟩ := H
  have zz := oapp Try.underlying23 ti31 rfl 3 hO rfl cM.u qw qz JU (by decide)
  obtain ⟨JV, iB, iC, N2, zF, xk, zG⟩ := zz
  dsimp only [sS, sZ] at xk
  refine zg (zG (by exact rfl) (by exact rfl)) ?_
  refine nst zF fun s hO => ?_
  refine au ?_
  refine sbs 1 hO fun I8 s hO => ?_
  refine au ?_
  refine sap1 a0.Enum.Done 4 hO H fun _ ut JW Rr s hO => ?_
  refine au ?_
  refine sbs 1 hO fun JX s hO => ?_
  refine au ?_
  refine sap1 ((bC : Int)) 5 hO H.2 fun _ yl Rs Rt s hO => ?_
  refine au ?_
  refine sbs 1 hO fun JY s hO => ?_
  refine au ?_
  refine sap1 (((ix d_27 a0.Enum.Done) ++ (chr (IntKind.i32.wrap ((97 : Int) + (bC : Int)))))) 8 hO H.2.2 (fun _ yr Ru Rv s hO => ?_) (hR := by exact fun _ _ => ⟨rfl, (lenApp kC)⟩)
  refine au ?_
  refine sbs 1 hO fun J0 s hO => ?_
  refine au ?_
  refine sap1 ((ix (ix a0.Enum.Right (ix iA a0.Enum.Done)) (bC : Int))) 9 hO H.2.2.2 fun _ yv Rw Rx s hO => ?_
  refine au ?_
  refine sbs 1 hO fun Ry s hO => ?_
  refine au ?_
  refine Go1.ret1V Try.func155 rfl (show _ = .int .i64 (d_9.length : Int) from rfl) ?_
  refine hR165 _ _ ?_
  refine au ?_
  refine six1 0 hO H.2.2.2.2.1 H.2.2.2.2.2.1 ?_
  refine sst (u := (d_9.length : Int)) 0 hO H.2.2.2.2.1 H.2.2.2.2.2.1 fun J1 s hO => ?_
  refine au ?_
  refine sinc (natbd h36 ak.bd) ?_
  refine au ?_
  exact hX1 _ H.2.2.2.2.2.2 _ _ ⟨_, _, _, _, _, _, _, _, _, _, _, _, _, _, _, _, _, _, _, agr, hO, ak.u, xk.u, av.u, fr⟩
 refine au ?_
 refine sfz 0 hO fun s hO rf rh => ?_
 have zz := J1l (r := Rp.sl (Rp.int .i64)) (n := 1) (parts := [(0, .slice p4 a0.Enum.Gens.length a0.Enum.Gens.length)]) (vs := [.slice p4 a0.Enum.Gens.length a0.Enum.Gens.length]) (xs := [d_8]) rfl Try.underlying23 ti31 hO (by decide) (by kernel_rfl) (Els.cons rfl ⟨p4, a0.Enum.Gens.length, congrArg some (congrArg (fun nn => Value.slice p4 nn a0.Enum.Gens.length) rh), rf⟩ (Els.nil _ _ _) (by simp [mx])) rfl
 obtain ⟨Rz, RA, zH, C7, N3, ne⟩ := zz
 refine zg (ne rfl) ?_
 refine nst zH fun s hO => ?_
 refine sfzR 0 hO C7 fun s hO C8 C9 => ?_
 obtain ⟨J2, H⟩ := H
 have zz := oapp Try.underlying23 ti31 rfl 5 hO rfl av.u C8 C9 J2 (by decide)
 obtain ⟨J3, J4, RB, N4, zI, fx, zJ⟩ := zz
 dsimp only [sS, sZ] at fx
 refine zg (zJ (by exact rfl) (by exact rfl)) ?_
 refine nst zI fun s hO => ?_
 refine au ?_
 refine sbs 0 hO fun RD s hO => ?_
 refine au ?_
 obtain ⟨jQ, H⟩ := H
 refine zo (J04 rfl rfl (wrap_i64 jQ)) ?_
 refine au ?_
 refine sbs 0 hO fun u5 s hO => ?_
 refine au ?_
 refine Go1.ret1 Try.func133 rfl ⟨_, (⟨(⟨a0.Enum.Points, a0.Enum.Monoid, a0.Enum.Gens, d_9, kN, qW, a0.Enum.Right ++ ([d_8]), gN, (a0.Enum.Done + (1 : Int))⟩ : Enum), en, d_27, iA, a0.single⟩ : run), _, _, _, _, _, _, _, _, _, _, _, _, _, _, _, _, _, _, _, _, _, _, _, _, _, _, _, _, _, _, ?_, hO, ak.u, cM.u, fx.u, fr, H⟩
 exact rfl
theorem body132 : Body Try.prog 132 := ⟨Try.f132, Try.func132, rfl, by kernel_rfl⟩
theorem body101 : Body Try.prog 101 := ⟨Try.f101, Try.func101, rfl, by kernel_rfl⟩
theorem J3q {A : List Nat} {w0 : World} {dF : Option Addr} {dG : Nat} {gens : List (List Int)} {monoid : Bool} (hA : ∀ b ∈ A, b < w0.heap.size) (fD : ISl (Rp.sl (Rp.int .i64)) A w0 dF dG gens) {K : Enum → Int → Prop} (H : J0F gens monoid K) :
    CallsV Try.prog 101 #[.slice dF gens.length dG, .bool monoid] w0 (fun v w' => ∃ (r0 : Enum), ∃ (r1 : Int), ∃ (dH : Option Addr), ∃ (dI : Nat), ∃ (de : Option Addr), ∃ (dg : Nat), ∃ (cN : Option Addr), ∃ (cO : Nat), ∃ (dJ : Option Addr), ∃ (dK : Nat), ∃ (dh : Option Addr), ∃ (di : Nat), ∃ (dj : Option Addr), ∃ (dk : Nat), v = .tuple #[.agg #[.int .i64 r0.Points, .bool r0.Monoid, .slice dH r0.Gens.length dI, .slice de r0.Elems.length dg, .slice cN r0.Prefix.length cO, .slice dJ r0.Last.length dK, .slice dh r0.Right.length di, .slice dj r0.Rules.length dk, .int .i64 r0.Done], .int .i64 r1] ∧ Same w0 w' ∧ ISl (Rp.sl (Rp.int .i64)) A w' dH dI r0.Gens ∧ ISl (Rp.sl (Rp.int .i64)) A w' de dg r0.Elems ∧ ISl (Rp.int .i64) A w' cN cO r0.Prefix ∧ ISl (Rp.int .i64) A w' dJ dK r0.Last ∧ ISl (Rp.sl (Rp.int .i64)) A w' dh di r0.Right ∧ ISl (rpRule) A w' dj dk r0.Rules ∧ K r0 r1) := by
 refine CallsV.of (l := [.slice dF gens.length dG, .bool monoid]) Try.func101 rfl Try.ntmps101 rfl ?_
 have hO := Owns.start hA
 have hB := Fr.refl (bl []) w0
 unfold J0F at H
 refine au ?_
 refine sal hO fun w1 B2 s hO => ?_
 refine au ?_
 refine zcr (J02 body131 rfl (J3p hO.lt fD.u H)) fun _ w6 hc => Or.elim hc ?_ ?_
 ·refine e1 fun r5 => d2 fun hv hs H => ?_
  subst hv; clear hc
  replace H := oElimN H
  refine sm hO hs fun s hO => ?_
  refine au ?_
  refine scm H (fun h7 H => ?_) fun h7 H => ?_
  ·refine au ?_
   refine lw H (fun _ σ w => (fun Z => agrees σ [(4, .pointer (some ⟨B2, 0, none⟩)), (6, .pointer none)] ∧ Owns w0.heap.size w Z A ∧ Fr (bl []) w0 (bl Z) w) [.blk B2 (.cells #[.int .i64 (0 : Int), .bool false, .slice none 0 0, .slice none 0 0, .slice none 0 0, .slice none 0 0, .slice none 0 0, .slice none 0 0, .int .i64 (0 : Int)] 123 (0, 0))]) ⟨agr, hO, fr⟩ ?_
   refine fun X1 => fun _ => fun H hX1 σ w8 => d2 fun hag hO hB => ?_
   refine Go1.keep _ hag ?_
   revert hO; repeat (rename Owns _ _ _ _ => q; clear q)
   intro hO; repeat (rename Sq _ _ _ _ _ _ => q; clear q)
   refine au ?_
   refine GoR.inl (vs := [.pointer none]) (caps := []) rfl rfl body132 Try.func132 rfl Try.ntmps132 rfl rfl rfl ?_
   intro RhR9 hR9
   refine au ?_
   refine drw 0 [(0, .pure), (1, .pure), (2, .pure), (3, .pure), (4, .stable), (5, .pure), (6, .pure), (7, .pure), (8, .pure), (9, .stable), (10, .pure), (11, .pure), (12, .pure)] hO fun w10 s hO => ?_
   refine au ?_
   exact (H).elim
  refine au ?_
  refine zo (J06 Try.underlying123 ti123 (pl := [(0, 1), (1, 1), (2, 1), (3, 1), (4, 1), (5, 1), (6, 1), (7, 1), (8, 1)]) (vs := []) (cs := #[.int .i64 (0 : Int), .bool false, .slice none 0 0, .slice none 0 0, .slice none 0 0, .slice none 0 0, .slice none 0 0, .slice none 0 0, .int .i64 (0 : Int)]) (by kernel_rfl) rfl (by kernel_rfl)) ?_
  refine au ?_
  refine sba 0 hO fun w11 s hO => ?_
  refine au ?_
  refine Go1.retC2 Try.func101 rfl rfl (J03 (vs := [.int .i64 (0 : Int), .bool false, .slice none 0 0, .slice none 0 0, .slice none 0 0, .slice none 0 0, .slice none 0 0, .slice none 0 0, .int .i64 (0 : Int)]) 0 hO rfl rfl Try.underlying123 rfl ti123) ⟨((⟨(0 : Int), false, ([] : List (List Int)), ([] : List (List Int)), ([] : List Int), ([] : List Int), ([] : List (List Int)), ([] : List Rule), (0 : Int)⟩ : Enum)), _, _, _, _, _, _, _, _, _, _, _, _, _, ?_, frs, (ISl.null _ _ _), (ISl.null _ _ _), (ISl.null _ _ _), (ISl.null _ _ _), (ISl.null _ _ _), (ISl.null _ _ _), H⟩
  exact rfl
 refine e4 fun r4 r5 u6 xU => e4 fun xV xW xl xm => e4 fun xn xo u7 u9 => e4 fun va vb xX xY => e4 fun x4 xp xq xr => e4 fun vc xt xv xw => e4 fun kx Db Dc Dd => e4 fun BJ BK BL BM => e2 fun BN BO => d1 fun hv => d1 fun hs => d4 fun hN gF gh gi H => ?_
 subst hv; clear hc
 refine smr hO hs hN fun s hO c => ?_
 replace H := oElimS H
 replace gF := gF.ch c
 replace gh := gh.ch c
 replace gi := gi.ch c
 refine au ?_
 refine scm H (fun h23 H => ?_) fun h23 H => ?_
 ·refine au ?_
  refine lw H (fun (kl, km, k2_27, d_28, d_34, d_40, d_44, d_48, rk, d_58, vd, ve, ro) σ w => ∃ n33 p31 c32 vg n39 p37 c38 nI n43 p41 c42 n47 p45 c46 n53 p51 c52 vh n57 p55 c56 n61 p59 c60 n65 p63 c64 n69 p67 c68, (fun Z => agrees σ [(4, .pointer (some ⟨B2, 0, none⟩)), (6, .pointer (some ⟨u6, 0, none⟩))] ∧ Owns w0.heap.size w Z A ∧ Els (Rp.sl (Rp.int .i64)) (bl Z ++ A) w vg d_28 ∧ Els (Rp.sl (Rp.int .i64)) (bl Z ++ A) w nI d_34 ∧ Els (Rp.sl (Rp.int .i64)) (bl Z ++ A) w vh d_48 ∧ Fr (bl []) w0 (bl Z) w) [.blk u6 (.cells #[.int .i64 kl, .bool km, .slice p31 n33 c32, .slice p37 n39 c38, .slice p41 n43 c42, .slice p45 n47 c46, .slice p51 n53 c52, .slice p55 n57 c56, .int .i64 k2_27, .map (some kx), .slice p59 n61 c60, .slice p63 n65 c64, .slice p67 n69 c68] 156 (0, 0)), .row 31 1 p31 n33 c32 vg, .row 31 1 p37 n39 c38 nI, t1 Fl.i 3 p41 n43 c42 d_40, t1 Fl.i 3 p45 n47 c46 d_44, .row 31 1 p51 n53 c52 vh, t1 (id Fl.fl : Fl rpRule) 185 p55 n57 c56 rk, t1 Fl.str 9 p59 n61 c60 d_58, t1 Fl.i 3 p63 n65 c64 vd, t1 Fl.i 3 p67 n69 c68 ve, .any (mapE (fun a : List UInt8 => Value.string (gstr a)) (fun a : Int => Value.int .i64 a) kx ro), .blk B2 (.cells #[.int .i64 (0 : Int), .bool false, .slice none 0 0, .slice none 0 0, .slice none 0 0, .slice none 0 0, .slice none 0 0, .slice none 0 0, .int .i64 (0 : Int)] 123 (0, 0))]) ⟨_, _, _, _, _, _, _, _, _, _, _, _, _, _, _, _, _, _, _, _, _, _, _, _, _, _, _, _, _, _, agr, hO, gF.u, gh.u, gi.u, fr⟩ ?_
  refine fun X2 => p1 fun kl => p1 fun km => p1 fun k2_27 => p1 fun d_28 => p1 fun d_34 => p1 fun d_40 => p1 fun d_44 => p1 fun d_48 => p1 fun rk => p3 fun d_58 vd ve ro => fun H hX2 σ w24 => e4 fun n33 p31 c32 vg => e4 fun n39 p37 c38 nI => e4 fun n43 p41 c42 n47 => e4 fun p45 c46 n53 p51 => e4 fun c52 vh n57 p55 => e4 fun c56 n61 p59 c60 => e4 fun n65 p63 c64 n69 => e2 fun p67 c68 => d1 fun hag => d4 fun hO gO vi zK hB => ?_
  dsimp only at H
  refine Go1.keep _ hag ?_
  revert hO; repeat (rename Owns _ _ _ _ => q; clear q)
  intro hO; repeat (rename Sq _ _ _ _ _ _ => q; clear q)
  refine au ?_
  refine GoR.inl (vs := [.pointer (some ⟨u6, 0, none⟩)]) (caps := []) rfl rfl body132 Try.func132 rfl Try.ntmps132 rfl rfl rfl ?_
  intro RhR71 hR71
  refine au ?_
  refine drw 0 [(0, .pure), (1, .pure), (2, .pure), (3, .pure), (4, .stable), (5, .pure), (6, .pure), (7, .pure), (8, .pure), (9, .stable), (10, .pure), (11, .pure), (12, .pure)] hO fun w72 s hO => ?_
  refine au ?_
  refine GoQ.pure rfl (J0x Try.underlying23 rfl (Els.neqW vi.u hO 2 rfl)) rfl rfl ?_
  refine scm H (fun h73 H => ?_) fun h73 H => ?_
  ·refine au ?_
   refine Go1.ret1V Try.func132 rfl (show _ = .bool true from rfl) ?_
   refine hR71 _ _ ?_
   refine au ?_
   refine zs (J05 (vs := [.int .i64 kl, .bool km, .slice p31 n33 c32, .slice p37 n39 c38, .slice p41 n43 c42, .slice p45 n47 c46, .slice p51 n53 c52, .slice p55 n57 c56, .int .i64 k2_27]) (i := 0) 0 hO rfl rfl Try.underlying123 rfl ti123 rfl) ?_
   refine sba 11 hO fun w74 s hO => ?_
   refine au ?_
   refine sfzR 1 hO gO.u fun s hO J5 J6 => ?_
   refine sfzR 1 hO vi.u fun s hO J7 J8 => ?_
   refine sfz 1 hO fun s hO m7 qI => ?_
   refine sfz 1 hO fun s hO uC uD => ?_
   refine sfzR 1 hO zK.u fun s hO J9 Ka => ?_
   refine sfz 1 hO fun s hO Kb vj => ?_
   refine Go1.retC2 Try.func101 rfl rfl (J03 (vs := [.int .i64 kl, .bool km, .slice p31 n33 c32, .slice p37 n39 c38, .slice p41 n43 c42, .slice p45 n47 c46, .slice p51 n53 c52, .slice p55 n57 c56, .int .i64 k2_27]) 5 hO rfl rfl Try.underlying123 rfl ti123) ⟨((⟨kl, km, d_28, d_34, d_40, d_44, d_48, rk, k2_27⟩ : Enum)), _, _, _, _, _, _, _, _, _, _, _, _, _, ?_, frs, J5.r, J7.r, m7.r, uC.r, J9.r, Kb.r, H⟩
   exact (congrArg (fun l => Value.tuple (List.toArray l)) (J01 (congrArg (fun l => Value.agg (List.toArray l)) (J01 rfl (J01 rfl (J01 (congrArg (fun nn => Value.slice p31 nn c32) J6) (J01 (congrArg (fun nn => Value.slice p37 nn c38) J8) (J01 (congrArg (fun nn => Value.slice p41 nn c42) qI) (J01 (congrArg (fun nn => Value.slice p45 nn c46) uD) (J01 (congrArg (fun nn => Value.slice p51 nn c52) Ka) (J01 (congrArg (fun nn => Value.slice p55 nn c56) vj) (J01 rfl rfl)))))))))) (J01 rfl rfl)))
  refine au ?_
  refine Go1.ret1V Try.func132 rfl (show _ = .bool false from rfl) ?_
  refine hR71 _ _ ?_
  refine au ?_
  refine sob 11 hO fun sg hO1 => ?_
  refine zcr (J02 body133 rfl (J2h (a0 := (⟨(⟨kl, km, d_28, d_34, d_40, d_44, d_48, rk, k2_27⟩ : Enum), ro, d_58, vd, ve⟩ : run)) hO1 gO.u vi.u zK.u H)) fun _ w89 => e4 fun r87 q88 xz xA => e4 fun xB vk vm vn => e4 fun vo ug uh ui => e4 fun uj xC xD xE => e4 fun vp vq vr uk => e4 fun vu vw vy BP => e4 fun BQ BR zL zM => e4 fun zN zO zP zQ => d1 fun hv => d1 fun hN90 => d4 fun gj fS fT hF91 H => ?_
  subst hv; clear sg hO1
  refine sjn hO hN90 hF91 fun s hO c => ?_
  replace gj := gj.ch c
  replace fS := fS.ch c
  replace fT := fT.ch c
  refine au ?_
  refine scm H (fun h92 H => ?_) fun h92 H => ?_
  ·refine au ?_
   exact hX2 _ H _ _ ⟨_, _, _, _, _, _, _, _, _, _, _, _, _, _, _, _, _, _, _, _, _, _, _, _, _, _, _, _, _, _, agr, hO, gj, fS, fT, fr⟩
  refine au ?_
  refine zo (J06 Try.underlying123 ti123 (pl := [(0, 1), (1, 1), (2, 1), (3, 1), (4, 1), (5, 1), (6, 1), (7, 1), (8, 1)]) (vs := []) (cs := #[.int .i64 (0 : Int), .bool false, .slice none 0 0, .slice none 0 0, .slice none 0 0, .slice none 0 0, .slice none 0 0, .slice none 0 0, .int .i64 (0 : Int)]) (by kernel_rfl) rfl (by kernel_rfl)) ?_
  refine au ?_
  refine sba 11 hO fun w93 s hO => ?_
  refine au ?_
  refine Go1.retC2 Try.func101 rfl rfl (J03 (vs := [.int .i64 (0 : Int), .bool false, .slice none 0 0, .slice none 0 0, .slice none 0 0, .slice none 0 0, .slice none 0 0, .slice none 0 0, .int .i64 (0 : Int)]) 11 hO rfl rfl Try.underlying123 rfl ti123) ⟨((⟨(0 : Int), false, ([] : List (List Int)), ([] : List (List Int)), ([] : List Int), ([] : List Int), ([] : List (List Int)), ([] : List Rule), (0 : Int)⟩ : Enum)), _, _, _, _, _, _, _, _, _, _, _, _, _, ?_, frs, (ISl.null _ _ _), (ISl.null _ _ _), (ISl.null _ _ _), (ISl.null _ _ _), (ISl.null _ _ _), (ISl.null _ _ _), H⟩
  exact rfl
 refine au ?_
 refine zo (J06 Try.underlying123 ti123 (pl := [(0, 1), (1, 1), (2, 1), (3, 1), (4, 1), (5, 1), (6, 1), (7, 1), (8, 1)]) (vs := []) (cs := #[.int .i64 (0 : Int), .bool false, .slice none 0 0, .slice none 0 0, .slice none 0 0, .slice none 0 0, .slice none 0 0, .slice none 0 0, .int .i64 (0 : Int)]) (by kernel_rfl) rfl (by kernel_rfl)) ?_
 refine au ?_
 refine sba 11 hO fun w94 s hO => ?_
 refine au ?_
 refine Go1.retC2 Try.func101 rfl rfl (J03 (vs := [.int .i64 (0 : Int), .bool false, .slice none 0 0, .slice none 0 0, .slice none 0 0, .slice none 0 0, .slice none 0 0, .slice none 0 0, .int .i64 (0 : Int)]) 11 hO rfl rfl Try.underlying123 rfl ti123) ⟨((⟨(0 : Int), false, ([] : List (List Int)), ([] : List (List Int)), ([] : List Int), ([] : List Int), ([] : List (List Int)), ([] : List Rule), (0 : Int)⟩ : Enum)), _, _, _, _, _, _, _, _, _, _, _, _, _, ?_, frs, (ISl.null _ _ _), (ISl.null _ _ _), (ISl.null _ _ _), (ISl.null _ _ _), (ISl.null _ _ _), (ISl.null _ _ _), H⟩
 exact rfl
theorem body134 : Body Try.prog 134 := ⟨Try.f134, Try.func134, rfl, by kernel_rfl⟩
theorem J3a {A : List Nat} {w0 : World} {gz : Option Addr} {gX : Nat} {s_ : List Int} {v : Int} (hA : ∀ b ∈ A, b < w0.heap.size) (jP : ISl (Rp.int .i64) A w0 gz gX s_) {K : Int → Prop} (H : J0Q s_ v K) :
    CallsV Try.prog 134 #[.slice gz s_.length gX, .int .i64 v] w0 (fun v w' => ∃ (r0 : Int), v = .int .i64 r0 ∧ Same w0 w' ∧ K r0) := by
 refine CallsV.of (l := [.slice gz s_.length gX, .int .i64 v]) Try.func134 rfl Try.ntmps134 rfl ?_
 have hO := Owns.start hA
 have hB := Fr.refl (bl []) w0
 unfold J0Q at H
 refine au ?_
 refine sln0 ?_
 refine au ?_
 refine lw (H jP.bd) (fun k1_2 σ w => (fun Z => agrees σ [(0, .slice gz s_.length gX), (1, .int .i64 v), (7, .int .i64 (s_.length : Int)), (8, .int .i64 (k1_2 : Int))] ∧ Owns w0.heap.size w Z A ∧ Fr (bl []) w0 (bl Z) w) []) ⟨agr, hO, fr⟩ ?_
 refine fun X1 => fun k1_2 => fun H hX1 σ w1 => d2 fun hag hO hB => ?_
 refine Go1.keep _ hag ?_
 refine au ?_
 refine scm H (fun h3 H => ?_) fun h3 H => ?_
 ·refine au ?_
  refine sxl hO jP.u H.1 H.2.1 ?_
  have h4 := H.1
  have h5 := H.2.1
  refine scm H.2.2 (fun h6 H => ?_) fun h6 H => ?_
  ·refine au ?_
   refine Go1.ret1 Try.func134 rfl ⟨_, ?_, frs, H⟩
   exact rfl
  refine au ?_
  refine sinc (natbd h3 jP.bd) ?_
  refine au ?_
  exact hX1 _ H _ _ ⟨agr, hO, fr⟩
 refine au ?_
 refine Go1.ret1 Try.func134 rfl ⟨_, ?_, frs, H⟩
 exact rfl
theorem body102 : Body Try.prog 102 := ⟨Try.f102, Try.func102, rfl, by kernel_rfl⟩
theorem J2y {A : List Nat} {w0 : World} {gz : Option Addr} {gX : Nat} {s_ : List Int} {v : Int} (hA : ∀ b ∈ A, b < w0.heap.size) (jP : ISl (Rp.int .i64) A w0 gz gX s_) {K : Bool → Prop} (H : J0m s_ v K) :
    CallsV Try.prog 102 #[.slice gz s_.length gX, .int .i64 v] w0 (fun v w' => ∃ (r0 : Bool), v = .bool r0 ∧ Same w0 w' ∧ K r0) := by
 refine CallsV.of (l := [.slice gz s_.length gX, .int .i64 v]) Try.func102 rfl Try.ntmps102 rfl ?_
 have hO := Owns.start hA
 have hB := Fr.refl (bl []) w0
 unfold J0m at H
 refine au ?_
 refine zcr (J02 body134 rfl (J3a hO.lt jP.u H)) fun _ w2 => e1 fun r1 => sc0 hO fun s hO => fun H => ?_
 refine scm H (fun h3 H => ?_) fun h3 H => ?_
 ·refine au ?_
  refine Go1.ret1 Try.func102 rfl ⟨_, ?_, frs, H⟩
  exact rfl
 refine au ?_
 refine Go1.ret1 Try.func102 rfl ⟨_, ?_, frs, H⟩
 exact rfl
theorem body103 : Body Try.prog 103 := ⟨Try.f103, Try.func103, rfl, by kernel_rfl⟩
theorem J2i {A : List Nat} {w0 : World} {jR : Option Addr} {jS : Nat} {p_f : Option Addr} {c_f : Nat} {p : part} {f : List Int} (hA : ∀ b ∈ A, b < w0.heap.size) (tU : ISl (Rp.bool) A w0 jR jS p.final) (h_f : ISl (Rp.int .i64) A w0 p_f c_f f) {K : Bool → Prop} (H : J0q p f K) :
    CallsV Try.prog 103 #[.agg #[.int .i64 p.start, .slice jR p.final.length jS, .int .i64 p.shift], .slice p_f f.length c_f] w0 (fun v w' => ∃ (r0 : Bool), v = .bool r0 ∧ Same w0 w' ∧ K r0) := by
 refine CallsV.of (l := [.agg #[.int .i64 p.start, .slice jR p.final.length jS, .int .i64 p.shift], .slice p_f f.length c_f]) Try.func103 rfl Try.ntmps103 rfl ?_
 have hO := Owns.start hA
 have hB := Fr.refl (bl []) w0
 unfold J0q at H
 refine au ?_
 refine sbx hO fun w1 B2 s hO => ?_
 refine au ?_
 refine drw 0 [(0, .pure), (1, .stable), (2, .pure), (3, .pure), (4, .stable), (5, .pure), (6, .stable), (7, .pure), (8, .stable), (9, .pure), (10, .pure), (11, .stable), (12, .pure)] hO fun w4 s hO => ?_
 refine au ?_
 refine sxl hO h_f.u H.1 H.2.1 ?_
 refine au ?_
 have h5 := H.1
 have h6 := H.2.1
 replace H := H.2.2
 obtain ⟨h7, H⟩ := H
 refine GoQ.pure rfl (J7y rfl rfl (wrap_i64 h7)) rfl rfl ?_
 refine sxl hO tU.u H.1 H.2.1 ?_
 refine au ?_
 refine Go1.ret1 Try.func103 rfl ⟨_, ?_, frs, H.2.2⟩
 exact rfl
end Sg
