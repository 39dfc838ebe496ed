/- -/
import Derived.Test.YtlneebpmblkllaaVd
import Derived.Test.YtlneebpmblkllaaWSyntacticMonoids
namespace Sg
open Go Go.RowKit Go.Proofs
set_option linter.unusedVariables false
set_option linter.unusedSimpArgs false
set_option maxRecDepth 100000
set_option maxHeartbeats 4000000
theorem body155 : Body Try.prog 155 := ⟨Try.f155, Try.func155, rfl, by kernel_rfl⟩
theorem body131 : Body Try.prog 131 := ⟨Try.f131, Try.func131, rfl, by kernel_rfl⟩
theorem J33 {A : List Nat} {w0 : World} {jA : Option Addr} {jB : Nat} {a0 : List (List Int)} {a1 : Bool} (hA : ∀ b ∈ A, b < w0.heap.size) (jC : ISl (Rp.sl (Rp.int .i64)) A w0 jA jB a0) {K : Option run → Int → Prop} (H : J0K a0 a1 K) :
    CallsV Try.prog 131 #[.slice jA a0.length jB, .bool a1] w0 (fun v w' => (∃ (r1 : Int), v = .tuple #[.pointer none, .int .i64 r1] ∧ Same w0 w' ∧ K none r1) ∨ (∃ (q : run) (r1 : Int) (b_q aR : Nat) (aS : Option Addr) (aT : Nat) (b7 : List Value) (aE : Nat) (aF : Option Addr) (aG : Nat) (bN : List Value) (ay : Nat) (az : Option Addr) (aA aU : Nat) (aV : Option Addr) (aW aH : Nat) (aI : Option Addr) (aJ : Nat) (bO : List Value) (aK : Nat) (aL : Option Addr) (aM dm b8 : Nat) (b9 : Option Addr) (ca bF : Nat) (bG : Option Addr) (bH bI : Nat) (bK : Option Addr) (bM : Nat), v = .tuple #[.pointer (some ⟨b_q, 0, none⟩), .int .i64 r1] ∧ Same w0 w' ∧ Owns w0.heap.size w' [.blk b_q (.cells #[.int .i64 q.Enum.Points, .bool q.Enum.Monoid, .slice aS aR aT, .slice aF aE aG, .slice az ay aA, .slice aV aU aW, .slice aI aH aJ, .slice aL aK aM, .int .i64 q.Enum.Done, .map (some dm), .slice b9 b8 ca, .slice bG bF bH, .slice bK bI bM] 156 (0, 0)), .row 31 1 aS aR aT b7, .row 31 1 aF aE aG bN, t1 Fl.i 3 az ay aA q.Enum.Prefix, t1 Fl.i 3 aV aU aW q.Enum.Last, .row 31 1 aI aH aJ bO, t1 (id Fl.fl : Fl rpRule) 185 aL aK aM q.Enum.Rules, t1 Fl.str 9 b9 b8 ca q.words, t1 Fl.i 3 bG bF bH q.behind, t1 Fl.i 3 bK bI bM q.single, .any (mapE (fun a : List UInt8 => Value.string (gstr a)) (fun a : Int => Value.int .i64 a) dm q.number)] A ∧ Els (Rp.sl (Rp.int .i64)) (bl [.blk b_q (.cells #[.int .i64 q.Enum.Points, .bool q.Enum.Monoid, .slice aS aR aT, .slice aF aE aG, .slice az ay aA, .slice aV aU aW, .slice aI aH aJ, .slice aL aK aM, .int .i64 q.Enum.Done, .map (some dm), .slice b9 b8 ca, .slice bG bF bH, .slice bK bI bM] 156 (0, 0)), .row 31 1 aS aR aT b7, .row 31 1 aF aE aG bN, t1 Fl.i 3 az ay aA q.Enum.Prefix, t1 Fl.i 3 aV aU aW q.Enum.Last, .row 31 1 aI aH aJ bO, t1 (id Fl.fl : Fl rpRule) 185 aL aK aM q.Enum.Rules, t1 Fl.str 9 b9 b8 ca q.words, t1 Fl.i 3 bG bF bH q.behind, t1 Fl.i 3 bK bI bM q.single, .any (mapE (fun a : List UInt8 => Value.string (gstr a)) (fun a : Int => Value.int .i64 a) dm q.number)] ++ A) w' b7 q.Enum.Gens ∧ Els (Rp.sl (Rp.int .i64)) (bl [.blk b_q (.cells #[.int .i64 q.Enum.Points, .bool q.Enum.Monoid, .slice aS aR aT, .slice aF aE aG, .slice az ay aA, .slice aV aU aW, .slice aI aH aJ, .slice aL aK aM, .int .i64 q.Enum.Done, .map (some dm), .slice b9 b8 ca, .slice bG bF bH, .slice bK bI bM] 156 (0, 0)), .row 31 1 aS aR aT b7, .row 31 1 aF aE aG bN, t1 Fl.i 3 az ay aA q.Enum.Prefix, t1 Fl.i 3 aV aU aW q.Enum.Last, .row 31 1 aI aH aJ bO, t1 (id Fl.fl : Fl rpRule) 185 aL aK aM q.Enum.Rules, t1 Fl.str 9 b9 b8 ca q.words, t1 Fl.i 3 bG bF bH q.behind, t1 Fl.i 3 bK bI bM q.single, .any (mapE (fun a : List UInt8 => Value.string (gstr a)) (fun a : Int => Value.int .i64 a) dm q.number)] ++ A) w' bN q.Enum.Elems ∧ Els (Rp.sl (Rp.int .i64)) (bl [.blk b_q (.cells #[.int .i64 q.Enum.Points, .bool q.Enum.Monoid, .slice aS aR aT, .slice aF aE aG, .slice az ay aA, .slice aV aU aW, .slice aI aH aJ, .slice aL aK aM, .int .i64 q.Enum.Done, .map (some dm), .slice b9 b8 ca, .slice bG bF bH, .slice bK bI bM] 156 (0, 0)), .row 31 1 aS aR aT b7, .row 31 1 aF aE aG bN, t1 Fl.i 3 az ay aA q.Enum.Prefix, t1 Fl.i 3 aV aU aW q.Enum.Last, .row 31 1 aI aH aJ bO, t1 (id Fl.fl : Fl rpRule) 185 aL aK aM q.Enum.Rules, t1 Fl.str 9 b9 b8 ca q.words, t1 Fl.i 3 bG bF bH q.behind, t1 Fl.i 3 bK bI bM q.single, .any (mapE (fun a : List UInt8 => Value.string (gstr a)) (fun a : Int => Value.int .i64 a) dm q.number)] ++ A) w' bO q.Enum.Right ∧ K (some q) r1)) := by
 refine CallsV.of (l := [.slice jA a0.length jB, .bool a1]) Try.func131 rfl Try.ntmps131 rfl ?_
 have hO := Owns.start hA
 have hB := Fr.refl (bl []) w0
 unfold J0K at H
 refine sln0 ?_
 refine scm (H jC.bd) (fun h1 H => ?_) fun h1 H => ?_
 ·refine au ?_
  refine Go1.ret2 Try.func131 rfl (Or.inl ⟨_, ?_, frs, H⟩)
  exact rfl
 refine sln0 ?_
 refine scm H (fun h2 H => ?_) fun h2 H => ?_
 ·refine au ?_
  refine Go1.ret2 Try.func131 rfl (Or.inl ⟨_, ?_, frs, H⟩)
  exact rfl
 refine au ?_
 have zz := omakeMap (fun a : List UInt8 => Value.string (gstr a)) (fun a : Int => Value.int .i64 a) hO
 obtain ⟨w3, B4, vo, hs6, vr⟩ := zz
 refine zg vr ?_
 refine nst vo fun s hO => ?_
 refine zo (J0a Try.underlying156 ti156 (pl := [(0, 9), (9, 1), (10, 1), (11, 1), (12, 1)]) (vs := [(1, .map (some B4))]) (cs := #[.int .i64 (0 : Int), .bool false, .slice none 0 0, .slice none 0 0, .slice none 0 0, .slice none 0 0, .slice none 0 0, .slice none 0 0, .int .i64 (0 : Int), .map (some B4), .slice none 0 0, .slice none 0 0, .slice none 0 0]) (by kernel_rfl) rfl (by kernel_rfl)) ?_
 refine sbx hO fun w9 B10 s hO => ?_
 refine sxls hO jC.u H.1 H.2.1 fun p12 c13 iM => ?_
 refine sln0 ?_
 refine sbs 0 hO fun w15 s hO => ?_
 refine sbs 0 hO fun w16 s hO => ?_
 refine sln0 ?_
 refine au ?_
 have rR := Stp.nil (e := 31) (r := 1) hO
 refine nst rR fun s hO => ?_
 have vu := elN (Rp.sl (Rp.int .i64)) hO
 refine lw (H.2.2 iM.bd) (fun (k1_21, d_22) σ w => ∃ n27 p25 c26 gf, (fun Z => agrees σ [(1, .bool a1), (6, .pointer (some ⟨B10, 0, none⟩)), (39, .slice jA a0.length jB), (40, .int .i64 (a0.length : Int)), (41, .int .i64 (k1_21 : Int))] ∧ Owns w0.heap.size w Z A ∧ Els (Rp.sl (Rp.int .i64)) (bl Z ++ A) w gf d_22 ∧ Fr (bl []) w0 (bl Z) w) [.row 31 1 p25 n27 c26 gf, .blk B10 (.cells #[.int .i64 ((ix a0 (0 : Int)).length : Int), .bool a1, .slice p25 n27 c26, .slice none 0 0, .slice none 0 0, .slice none 0 0, .slice none 0 0, .slice none 0 0, .int .i64 (0 : Int), .map (some B4), .slice none 0 0, .slice none 0 0, .slice none 0 0] 156 (0, 0)), .any (mapE (fun a : List UInt8 => Value.string (gstr a)) (fun a : Int => Value.int .i64 a) B4 (([] : List (Str × Int))))]) ⟨_, _, _, _, agr, hO, vu.u, fr⟩ ?_
 refine fun X1 => p1 fun k1_21 d_22 => fun H hX1 σ w20 => e4 fun n27 p25 c26 gf => d3 fun hag hO de hB => ?_
 dsimp only at H
 refine Go1.keep _ hag ?_
 revert hO; repeat (rename Owns _ _ _ _ => q; clear q)
 intro hO; repeat (rename Sq _ _ _ _ _ _ => q; clear q)
 refine scm H (fun h28 H => ?_) fun h28 H => ?_
 ·refine sxls hO jC.u H.1 H.2.1 fun p29 c30 iO => ?_
  refine sln0 ?_
  refine au ?_
  have h32 := H.1
  have h33 := H.2.1
  refine scm (H.2.2 iO.bd) (fun h34 H => ?_) fun h34 H => ?_
  ·refine au ?_
   refine zcr (J00 body154 rfl (J1B hO.lt iO.u H)) fun _ w36 => e1 fun r35 => sc0 hO fun s hO => fun H => ?_
   cases r35
   ·refine au ?_
    refine Go1.ret2 Try.func131 rfl (Or.inl ⟨_, ?_, frs, (iF H)⟩)
    exact rfl
   refine au ?_
   refine drw 1 [(0, .pure), (1, .pure), (2, .pure), (3, .pure), (4, .pure), (5, .stable), (6, .pure), (7, .loud), (8, .loud), (9, .last), (10, .pure), (11, .pure), (12, .pure), (13, .last)] hO fun w37 s hO => ?_
   refine au ?_
   refine zcq rfl (J00 body86 rfl (J0p hO.lt iO.u (iT H))) fun _ w40 => e4 fun r38 mT ii ik => sq1 hO fun s hO => fun H => ?_
   refine sfz 0 hO fun s hO vw vy => ?_
   have zz := J2e (r := Rp.sl (Rp.int .i64)) (n := 1) (parts := [(0, .slice ii mT ik)]) (vs := [.slice ii mT ik]) (xs := [r38]) rfl Try.underlying23 ti31 hO (by decide) (by kernel_rfl) (Els.cons rfl ⟨ii, ik, congrArg some (congrArg (fun nn => Value.slice ii nn ik) vy), vw⟩ (Els.nil _ _ _) (by simp [mx])) rfl
   obtain ⟨w44, p45, rS, vz, vA, rT⟩ := zz
   refine GoQ.loud rfl (rT rfl) vA rfl rfl ?_
   refine nst rS fun s hO => ?_
   refine sfzR 0 hO vz fun s hO vB vC => ?_
   obtain ⟨h53, H⟩ := H
   have zz := oapp Try.underlying23 ti31 rfl 0 hO rfl de.u vB vC h53 (by decide)
   obtain ⟨w54, p55, c56, y3, jr, n9, rU⟩ := zz
   dsimp only [sS, sZ] at n9
   refine GoQ.last rfl (rU (by exact rfl) (by exact rfl)) rfl rfl ?_
   refine nst jr fun s hO => ?_
   refine sbs 1 hO fun w62 s hO => ?_
   refine sinc (natbd h28 jC.bd) ?_
   refine au ?_
   exact hX1 _ H _ _ ⟨_, _, _, _, agr, hO, n9.u, fr⟩
  refine au ?_
  refine Go1.ret2 Try.func131 rfl (Or.inl ⟨_, ?_, frs, H⟩)
  exact rfl
 refine au ?_
 cases a1
 ·refine au ?_
  refine zo (J11 Try.underlying23 rfl (Els.neqW de.u hO 0 rfl)) ?_
  refine au ?_
  have rV := Stp.nil (e := 31) (r := 1) hO
  refine nst rV fun s hO => ?_
  have vD := elN (Rp.sl (Rp.int .i64)) hO
  refine snil Fl.i 3 hO fun s hO => ?_
  refine snil Fl.i 3 hO fun s hO => ?_
  refine snil (id Fl.fl : Fl rpRule) 185 hO fun s hO => ?_
  refine snil Fl.str 9 hO fun s hO => ?_
  refine snil Fl.i 3 hO fun s hO => ?_
  refine snil Fl.i 3 hO fun s hO => ?_
  refine lw (iF H) (fun (eC, kD, kE, d_82, d_86, kF, d_94, d_98, en) σ w => ∃ n77 p75 c76 n81 p79 c80 n85 p83 c84 n89 p87 c88 n93 p91 c92 n97 p95 c96 kG kI kK kM, (fun Z => agrees σ [(6, .pointer (some ⟨B10, 0, none⟩)), (9, .int .i64 (-1 : Int)), (85, .slice p25 n27 c26), (86, .int .i64 (d_22.length : Int)), (87, .int .i64 (eC : Int))] ∧ Owns w0.heap.size w Z A ∧ Els (Rp.sl (Rp.int .i64)) (bl Z ++ A) w kM d_98 ∧ Els (Rp.sl (Rp.int .i64)) (bl Z ++ A) w gf d_22 ∧ Fr (bl []) w0 (bl Z) w) [t1 Fl.i 3 p75 n77 c76 kD, t1 Fl.i 3 p79 n81 c80 kE, t1 Fl.str 9 p83 n85 c84 d_82, t1 (id Fl.fl : Fl rpRule) 185 p87 n89 c88 d_86, t1 Fl.i 3 p91 n93 c92 kF, t1 Fl.i 3 p95 n97 c96 d_94, .row 31 1 kI kG kK kM, .row 31 1 p25 n27 c26 gf, .blk B10 (.cells #[.int .i64 ((ix a0 (0 : Int)).length : Int), .bool false, .slice p25 n27 c26, .slice kI kG kK, .slice p95 n97 c96, .slice p91 n93 c92, .slice none 0 0, .slice p87 n89 c88, .int .i64 (0 : Int), .map (some B4), .slice p83 n85 c84, .slice p79 n81 c80, .slice p75 n77 c76] 156 (0, 0)), .any (mapE (fun a : List UInt8 => Value.string (gstr a)) (fun a : Int => Value.int .i64 a) B4 en)]) ⟨_, _, _, _, _, _, _, _, _, _, _, _, _, _, _, _, _, _, _, _, _, _, agr, hO, vD.u, de.u, fr⟩ ?_
  refine fun X2 => p1 fun eC => p1 fun kD => p1 fun kE => p1 fun d_82 => p1 fun d_86 => p3 fun kF d_94 d_98 en => fun H hX2 σ w72 => e4 fun n77 p75 c76 n81 => e4 fun p79 c80 n85 p83 => e4 fun c84 n89 p87 c88 => e4 fun n93 p91 c92 n97 => e4 fun p95 c96 kG kI => e2 fun kK kM => d4 fun hag hO io de hB => ?_
  dsimp only at H
  refine Go1.keep _ hag ?_
  revert hO; repeat (rename Owns _ _ _ _ => q; clear q)
  intro hO; repeat (rename Sq _ _ _ _ _ _ => q; clear q)
  refine scm H (fun iP H => ?_) fun iP H => ?_
  ·refine au ?_
   obtain ⟨gV, H⟩ := H
   obtain ⟨f7, H⟩ := H
   refine zo (J01 Try.underlying23 ti31 rfl rfl gV (ltn (Els.neqW de hO 7 rfl) f7) (Els.psomeW de hO 7 rfl gV f7)) ?_
   have zz := oldSl 7 hO rfl de gV f7
   obtain ⟨y4, y5, mU, rW⟩ := zz
   refine zs (rW Try.underlying31 rfl rfl) ?_
   refine au ?_
   obtain ⟨fy, H⟩ := H
   refine zo (J0k rfl rfl (wrap_i64 fy)) ?_
   refine zo (J3N Try.underlying3 Try.underlying21 rfl rfl) ?_
   obtain ⟨f9, H⟩ := H
   obtain ⟨vE, H⟩ := H
   refine zo (J3r Try.underlying21 Try.underlying9 rfl f9 vE) ?_
   refine au ?_
   refine drw 0 [(0, .pure), (1, .pure), (2, .pure), (3, .stable), (4, .pure), (5, .loud), (6, .stable), (7, .pure), (8, .pure), (9, .pure), (10, .pure), (11, .pure)] hO fun y6 s hO => ?_
   refine au ?_
   refine zcq rfl (J00 body157 rfl (J04 hO.lt mU.u H)) fun _ vF => e1 fun gh => sq0 hO fun s hO => d1 fun xL H => ?_
   by_cases fk : mhas en gh = true
   ·refine GoQ.stable rfl (olookT (a := gh) (MK.str Try.underlying9) 9 hO rfl Try.underlying154 rfl rfl fk) rfl rfl ?_
    refine au ?_
    refine drw 5 [(0, .pure), (1, .pure), (2, .pure), (3, .pure), (4, .pure), (5, .stable), (6, .pure), (7, .pure), (8, .pure), (9, .pure), (10, .stable), (11, .pure), (12, .pure), (13, .stable), (14, .pure), (15, .loud), (16, .last), (17, .pure), (18, .pure), (19, .pure), (20, .last)] hO fun nO s hO => ?_
    refine sxl1 2 hO (ifp fk H).1 (ifp fk H).2.1 ?_
    have hle120 := t1le 2 hO (ifp fk H).1 (ifp fk H).2.1
    refine GoQ.pure rfl (J0a Try.underlying185 ti185 (pl := [(0, 1), (1, 1)]) (vs := [(0, .string (gstr (chr (IntKind.i32.wrap ((97 : Int) + (eC : Int)))))), (1, .string (gstr (ix d_82 (mgt en gh))))]) (cs := #[.string (gstr (chr (IntKind.i32.wrap ((97 : Int) + (eC : Int))))), .string (gstr (ix d_82 (mgt en gh)))]) (by kernel_rfl) rfl (by kernel_rfl)) rfl rfl ?_
    refine sapF (⟨(chr (IntKind.i32.wrap ((97 : Int) + (eC : Int)))), ix d_82 (mgt en gh)⟩ : Rule) 3 hO (ifp fk H).2.2 (fun _ y7 y8 y9 s hO => ?_) (hok := by exact ⟨(J5S _), hle120⟩)
    refine sbs 8 hO fun zc s hO => ?_
    refine au ?_
    refine sap1 ((mgt en gh)) 0 hO (ifp fk H).2.2.2 fun _ zd zh zj s hO => ?_
    refine sbs 8 hO fun vG s hO => ?_
    refine sinc (natbd iP de.bd) ?_
    refine au ?_
    exact hX2 _ (ifp fk H).2.2.2.2 _ _ ⟨_, _, _, _, _, _, _, _, _, _, _, _, _, _, _, _, _, _, _, _, _, _, agr, hO, io.u, de.u, fr⟩
   refine GoQ.stable rfl (olookF (a := gh) (MK.str Try.underlying9) 9 hO rfl Try.underlying154 ti3 rfl rfl fk) rfl rfl ?_
   refine au ?_
   refine zcr (J00 body86 rfl (J0p hO.lt mU.u (ifn fk H))) fun _ zl => e4 fun r129 gy eM eN => sc1 hO fun s hO => fun H => ?_
   refine au ?_
   refine GoR.inl (vs := [.pointer (some ⟨B10, 0, none⟩), .slice eM gy eN, .int .i64 (-1 : Int), .int .i64 (eC : Int), .string (gstr (chr (IntKind.i32.wrap ((97 : Int) + (eC : Int))))), .int .i64 (-1 : Int)]) (caps := []) rfl rfl body155 Try.func155 rfl Try.ntmps155 rfl rfl rfl ?_
   intro RhR133 hR133
   refine au ?_
   refine zo (J11 Try.underlying23 rfl (Els.neqW io.u hO 7 rfl)) ?_
   refine au ?_
   refine drw 1 [(0, .pure), (1, .pure), (2, .pure), (3, .stable), (4, .pure), (6, .pure), (5, .loud), (7, .last)] hO fun zu s hO => ?_
   refine au ?_
   have rX := t1lend 0 hO
   have jD := t1n 0 hO
   have hOc137 := hO.drop 0
   refine zcq rfl (J00 body157 (show ([.slice eM gy eN] : List Value) = [.slice eM r129.length eN] from by rw [← jD]) (J04 hOc137.lt rX H)) fun _ zw => e1 fun vH => sq0 hO fun s hO => d1 fun xM H => ?_
   have zz := omapUpd (MK.str Try.underlying9) 10 hO rfl Try.underlying154 vH (d_98.length : Int)
   obtain ⟨zx, oc, od⟩ := zz
   refine GoQ.last rfl (od (by exact rfl) (by exact rfl) (by exact rfl)) rfl rfl ?_
   refine nst oc fun s hO => ?_
   refine au ?_
   refine sfz 0 hO fun s hO rY sb => ?_
   have zz := J2e (r := Rp.sl (Rp.int .i64)) (n := 1) (parts := [(0, .slice eM gy eN)]) (vs := [.slice eM gy eN]) (xs := [r129]) rfl Try.underlying23 ti31 hO (by decide) (by kernel_rfl) (Els.cons rfl ⟨eM, eN, congrArg some (congrArg (fun nn => Value.slice eM nn eN) sb), rY⟩ (Els.nil _ _ _) (by simp [mx])) rfl
   obtain ⟨vI, zy, oe, sd, x7, og⟩ := zz
   refine zg (og rfl) ?_
   refine nst oe fun s hO => ?_
   refine sfzR 0 hO sd.u fun s hO se sf => ?_
   obtain ⟨vJ, H⟩ := H
   have zz := oapp Try.underlying23 ti31 rfl 6 hO rfl io.u se sf vJ (by decide)
   obtain ⟨uP, zA, zB, x8, oh, mV, ol⟩ := zz
   dsimp only [sS, sZ] at mV
   refine zg (ol (by exact rfl) (by exact rfl)) ?_
   refine nst oh fun s hO => ?_
   refine sbs 8 hO fun uR s hO => ?_
   refine au ?_
   refine sap1 ((-1 : Int)) 5 hO H fun _ vK zC zD s hO => ?_
   refine sbs 8 hO fun nT s hO => ?_
   refine au ?_
   refine sap1 ((eC : Int)) 4 hO H.2 fun _ om zE zF s hO => ?_
   refine sbs 8 hO fun nU s hO => ?_
   refine au ?_
   refine sap1 ((chr (IntKind.i32.wrap ((97 : Int) + (eC : Int))))) 2 hO H.2.2 (fun _ oo vL zG s hO => ?_) (hR := by exact fun _ _ => ⟨rfl, (J5S _)⟩)
   refine sbs 8 hO fun uT s hO => ?_
   refine au ?_
   refine sap1 ((-1 : Int)) 1 hO H.2.2.2 fun _ uU zH zI s hO => ?_
   refine sbs 8 hO fun vM s hO => ?_
   refine au ?_
   refine Go1.ret1V Try.func155 rfl (show _ = .int .i64 (d_98.length : Int) from rfl) ?_
   refine hR133 _ _ ?_
   refine au ?_
   refine sap1 ((d_98.length : Int)) 0 hO H.2.2.2.2 fun _ zJ zK zL s hO => ?_
   refine sbs 8 hO fun uV s hO => ?_
   refine sinc (natbd iP de.bd) ?_
   refine au ?_
   exact hX2 _ H.2.2.2.2.2 _ _ ⟨_, _, _, _, _, _, _, _, _, _, _, _, _, _, _, _, _, _, _, _, _, _, agr, hO, mV.u, de.u, fr⟩
  refine au ?_
  have oq := Stp.nil (e := 31) (r := 1) hO
  refine nst oq fun s hO => ?_
  have sj := elN (Rp.sl (Rp.int .i64)) hO
  refine sfr 10 hO fun s hO => ?_
  refine sfr 2 hO fun s hO => ?_
  refine sfr 3 hO fun s hO => ?_
  refine sfr 4 hO fun s hO => ?_
  refine sfr 5 hO fun s hO => ?_
  refine sfr 5 hO fun s hO => ?_
  refine sfr 6 hO fun s hO => ?_
  refine sfr 7 hO fun s hO => ?_
  refine sfr 8 hO fun s hO => ?_
  refine sfr 9 hO fun s hO => ?_
  refine sfr 10 hO fun s hO => ?_
  refine Go1.ret2 Try.func131 rfl (Or.inr ⟨(⟨(⟨((ix a0 (0 : Int)).length : Int), false, d_22, d_98, d_94, kF, ([] : List (List Int)), d_86, (0 : Int)⟩ : Enum), en, d_82, kE, kD⟩ : run), _, _, _, _, _, _, _, _, _, _, _, _, _, _, _, _, _, _, _, _, _, _, _, _, _, _, _, _, _, _, _, _, _, ?_, frs, hO, de.u, io.u, sj.u, H⟩)
  exact rfl
 refine au ?_
 refine zcr (J00 body156 rfl (J37 hO.lt (iT H))) fun _ uX => e3 fun r187 gz gA => sc0 hO fun s hO => d1 fun ke H => ?_
 refine GoR.inl (vs := [.pointer (some ⟨B10, 0, none⟩), .slice gz r187.length gA, .int .i64 (-1 : Int), .int .i64 (-1 : Int), .string (gstr (([] : Str))), .int .i64 (-1 : Int)]) (caps := []) rfl rfl body155 Try.func155 rfl Try.ntmps155 rfl rfl rfl ?_
 intro RhR189 hR189
 refine sln0 ?_
 refine au ?_
 refine drw 1 [(0, .pure), (1, .pure), (2, .pure), (3, .stable), (4, .pure), (6, .pure), (5, .loud), (7, .last)] hO fun vN s hO => ?_
 refine au ?_
 refine zcq rfl (J00 body157 rfl (J04 hO.lt ke.u H)) fun _ zM => e1 fun r191 => sq0 hO fun s hO => d1 fun xN H => ?_
 have zz := omapUpd (MK.str Try.underlying9) 2 hO rfl Try.underlying154 r191 (0 : Int)
 obtain ⟨zN, ot, ou⟩ := zz
 refine GoQ.last rfl (ou (by exact rfl) (by exact rfl) (by exact rfl)) rfl rfl ?_
 refine nst ot fun s hO => ?_
 refine au ?_
 have zz := J2e (r := Rp.sl (Rp.int .i64)) (n := 1) (parts := [(0, .slice gz r187.length gA)]) (vs := [.slice gz r187.length gA]) (xs := [r187]) rfl Try.underlying23 ti31 hO (by decide) (by kernel_rfl) (Els.cons rfl ⟨gz, gA, rfl, ke.u⟩ (Els.nil _ _ _) (by simp [mx])) rfl
 obtain ⟨zO, zP, ov, sk, x9, ow⟩ := zz
 refine zg (ow rfl) ?_
 refine nst ov fun s hO => ?_
 refine sfzR 0 hO sk fun s hO sn sq => ?_
 have oA := Stp.nil (e := 31) (r := 1) hO
 refine nst oA fun s hO => ?_
 have sr := elN (Rp.sl (Rp.int .i64)) hO
 obtain ⟨vO, H⟩ := H
 have zz := oapp Try.underlying23 ti31 rfl 0 hO rfl sr sn.u sq vO (by decide)
 obtain ⟨zQ, zR, zS, ya, oB, mW, iQ⟩ := zz
 dsimp only [sS, sZ] at mW
 refine zg (iQ (by exact rfl) (by exact rfl)) ?_
 refine nst oB fun s hO => ?_
 refine sbs 2 hO fun kN s hO => ?_
 refine au ?_
 refine snil Fl.i 3 hO fun s hO => ?_
 refine sap1 ((-1 : Int)) 0 hO H fun _ zT zU zV s hO => ?_
 refine sbs 3 hO fun zW s hO => ?_
 refine au ?_
 refine snil Fl.i 3 hO fun s hO => ?_
 refine sap1 ((-1 : Int)) 0 hO H.2 fun _ zX zY z3 s hO => ?_
 refine sbs 4 hO fun z4 s hO => ?_
 refine au ?_
 refine snil Fl.str 9 hO fun s hO => ?_
 refine sap1 ((([] : Str))) 0 hO H.2.2 (fun _ z5 z6 z7 s hO => ?_) (hR := by exact fun _ _ => ⟨rfl, (by decide)⟩)
 refine sbs 5 hO fun z8 s hO => ?_
 refine au ?_
 refine snil Fl.i 3 hO fun s hO => ?_
 refine sap1 ((-1 : Int)) 0 hO H.2.2.2 fun _ z9 Aa Ab s hO => ?_
 refine sbs 6 hO fun Ac s hO => ?_
 refine au ?_
 refine Go1.ret1V Try.func155 rfl (show _ = .int .i64 (0 : Int) from rfl) ?_
 refine hR189 _ _ ?_
 refine au ?_
 refine zo (J11 Try.underlying23 rfl (Els.neqW de.u hO 5 rfl)) ?_
 refine au ?_
 refine snil (id Fl.fl : Fl rpRule) 185 hO fun s hO => ?_
 refine snil Fl.i 3 hO fun s hO => ?_
 refine lw H.2.2.2.2 (fun (dW, jE, d_246, jF, fM, d_258, jG, fN, eo) σ w => ∃ kO kP kQ kS kT kU kV kW kX kY k8 k9 ld lg lh li lj lk lm lr lv ip, (fun Z => agrees σ [(6, .pointer (some ⟨B10, 0, none⟩)), (9, .int .i64 (0 : Int)), (85, .slice p25 n27 c26), (86, .int .i64 (d_22.length : Int)), (87, .int .i64 (dW : Int))] ∧ Owns w0.heap.size w Z A ∧ Els (Rp.sl (Rp.int .i64)) (bl Z ++ A) w ip fN ∧ Els (Rp.sl (Rp.int .i64)) (bl Z ++ A) w gf d_22 ∧ Fr (bl []) w0 (bl Z) w) [t1 Fl.i 3 kP kO kQ jE, t1 (id Fl.fl : Fl rpRule) 185 kT kS kU d_246, t1 Fl.i 3 kW kV kX jF, t1 Fl.str 9 k8 kY k9 fM, t1 Fl.i 3 lg ld lh d_258, t1 Fl.i 3 lj li lk jG, .row 31 1 lr lm lv ip, .row 31 1 p25 n27 c26 gf, .blk B10 (.cells #[.int .i64 ((ix a0 (0 : Int)).length : Int), .bool true, .slice p25 n27 c26, .slice lr lm lv, .slice lj li lk, .slice lg ld lh, .slice none 0 0, .slice kT kS kU, .int .i64 (0 : Int), .map (some B4), .slice k8 kY k9, .slice kW kV kX, .slice kP kO kQ] 156 (0, 0)), .any (mapE (fun a : List UInt8 => Value.string (gstr a)) (fun a : Int => Value.int .i64 a) B4 eo)]) ⟨_, _, _, _, _, _, _, _, _, _, _, _, _, _, _, _, _, _, _, _, _, _, agr, hO, mW.u, de.u, fr⟩ ?_
 refine fun X3 => p1 fun dW => p1 fun jE => p1 fun d_246 => p1 fun jF => p1 fun fM => p3 fun d_258 jG fN eo => fun H hX3 σ Ad => e4 fun kO kP kQ kS => e4 fun kT kU kV kW => e4 fun kX kY k8 k9 => e4 fun ld lg lh li => e4 fun lj lk lm lr => e2 fun lv ip => d4 fun hag hO fd de hB => ?_
 dsimp only at H
 refine Go1.keep _ hag ?_
 revert hO; repeat (rename Owns _ _ _ _ => q; clear q)
 intro hO; repeat (rename Sq _ _ _ _ _ _ => q; clear q)
 refine scm H (fun lA H => ?_) fun lA H => ?_
 ·refine au ?_
  obtain ⟨lB, H⟩ := H
  obtain ⟨lC, H⟩ := H
  refine zo (J01 Try.underlying23 ti31 rfl rfl lB (ltn (Els.neqW de hO 7 rfl) lC) (Els.psomeW de hO 7 rfl lB lC)) ?_
  have zz := oldSl 7 hO rfl de lB lC
  obtain ⟨Ae, Af, mX, ss⟩ := zz
  refine zs (ss Try.underlying31 rfl rfl) ?_
  refine au ?_
  obtain ⟨vP, H⟩ := H
  refine zo (J0k rfl rfl (wrap_i64 vP)) ?_
  refine zo (J3N Try.underlying3 Try.underlying21 rfl rfl) ?_
  obtain ⟨vQ, H⟩ := H
  obtain ⟨vR, H⟩ := H
  refine zo (J3r Try.underlying21 Try.underlying9 rfl vQ vR) ?_
  refine au ?_
  refine drw 0 [(0, .pure), (1, .pure), (2, .pure), (3, .stable), (4, .pure), (5, .loud), (6, .stable), (7, .pure), (8, .pure), (9, .pure), (10, .pure), (11, .pure)] hO fun Ag s hO => ?_
  refine au ?_
  refine zcq rfl (J00 body157 rfl (J04 hO.lt mX.u H)) fun _ Ah => e1 fun gi => sq0 hO fun s hO => d1 fun xO H => ?_
  by_cases eO : mhas eo gi = true
  ·refine GoQ.stable rfl (olookT (a := gi) (MK.str Try.underlying9) 9 hO rfl Try.underlying154 rfl rfl eO) rfl rfl ?_
   refine au ?_
   refine drw 5 [(0, .pure), (1, .pure), (2, .pure), (3, .pure), (4, .pure), (5, .stable), (6, .pure), (7, .pure), (8, .pure), (9, .pure), (10, .stable), (11, .pure), (12, .pure), (13, .stable), (14, .pure), (15, .loud), (16, .last), (17, .pure), (18, .pure), (19, .pure), (20, .last)] hO fun Ai s hO => ?_
   refine sxl1 3 hO (ifp eO H).1 (ifp eO H).2.1 ?_
   have hle288 := t1le 3 hO (ifp eO H).1 (ifp eO H).2.1
   refine GoQ.pure rfl (J0a Try.underlying185 ti185 (pl := [(0, 1), (1, 1)]) (vs := [(0, .string (gstr (chr (IntKind.i32.wrap ((97 : Int) + (dW : Int)))))), (1, .string (gstr (ix fM (mgt eo gi))))]) (cs := #[.string (gstr (chr (IntKind.i32.wrap ((97 : Int) + (dW : Int))))), .string (gstr (ix fM (mgt eo gi)))]) (by kernel_rfl) rfl (by kernel_rfl)) rfl rfl ?_
   refine sapF (⟨(chr (IntKind.i32.wrap ((97 : Int) + (dW : Int)))), ix fM (mgt eo gi)⟩ : Rule) 1 hO (ifp eO H).2.2 (fun _ vS Aj Ak s hO => ?_) (hok := by exact ⟨(J5S _), hle288⟩)
   refine sbs 8 hO fun Am s hO => ?_
   refine au ?_
   refine sap1 ((mgt eo gi)) 0 hO (ifp eO H).2.2.2 fun _ Ao Ap Aq s hO => ?_
   refine sbs 8 hO fun Ar s hO => ?_
   refine sinc (natbd lA de.bd) ?_
   refine au ?_
   exact hX3 _ (ifp eO H).2.2.2.2 _ _ ⟨_, _, _, _, _, _, _, _, _, _, _, _, _, _, _, _, _, _, _, _, _, _, agr, hO, fd.u, de.u, fr⟩
  refine GoQ.stable rfl (olookF (a := gi) (MK.str Try.underlying9) 9 hO rfl Try.underlying154 ti3 rfl rfl eO) rfl rfl ?_
  refine au ?_
  refine zcr (J00 body86 rfl (J0p hO.lt mX.u (ifn eO H))) fun _ vT => e4 fun oC gB eP eQ => sc1 hO fun s hO => fun H => ?_
  refine au ?_
  refine GoR.inl (vs := [.pointer (some ⟨B10, 0, none⟩), .slice eP gB eQ, .int .i64 (0 : Int), .int .i64 (dW : Int), .string (gstr (chr (IntKind.i32.wrap ((97 : Int) + (dW : Int))))), .int .i64 (0 : Int)]) (caps := []) rfl rfl body155 Try.func155 rfl Try.ntmps155 rfl rfl rfl ?_
  intro RhR301 hR301
  refine au ?_
  refine zo (J11 Try.underlying23 rfl (Els.neqW fd.u hO 7 rfl)) ?_
  refine au ?_
  refine drw 1 [(0, .pure), (1, .pure), (2, .pure), (3, .stable), (4, .pure), (6, .pure), (5, .loud), (7, .last)] hO fun At s hO => ?_
  refine au ?_
  have su := t1lend 0 hO
  have sv := t1n 0 hO
  have hOc305 := hO.drop 0
  refine zcq rfl (J00 body157 (show ([.slice eP gB eQ] : List Value) = [.slice eP oC.length eQ] from by rw [← sv]) (J04 hOc305.lt su H)) fun _ Au => e1 fun r306 => sq0 hO fun s hO => d1 fun xP H => ?_
  have zz := omapUpd (MK.str Try.underlying9) 10 hO rfl Try.underlying154 r306 (fN.length : Int)
  obtain ⟨Aw, oD, oE⟩ := zz
  refine GoQ.last rfl (oE (by exact rfl) (by exact rfl) (by exact rfl)) rfl rfl ?_
  refine nst oD fun s hO => ?_
  refine au ?_
  refine sfz 0 hO fun s hO sw sx => ?_
  have zz := J2e (r := Rp.sl (Rp.int .i64)) (n := 1) (parts := [(0, .slice eP gB eQ)]) (vs := [.slice eP gB eQ]) (xs := [oC]) rfl Try.underlying23 ti31 hO (by decide) (by kernel_rfl) (Els.cons rfl ⟨eP, eQ, congrArg some (congrArg (fun nn => Value.slice eP nn eQ) sx), sw⟩ (Els.nil _ _ _) (by simp [mx])) rfl
  obtain ⟨vU, Ax, oF, sy, yb, oG⟩ := zz
  refine zg (oG rfl) ?_
  refine nst oF fun s hO => ?_
  refine sfzR 0 hO sy fun s hO sA sB => ?_
  obtain ⟨vV, H⟩ := H
  have zz := oapp Try.underlying23 ti31 rfl 6 hO rfl fd.u sA sB vV (by decide)
  obtain ⟨Ay, Az, AA, yc, oH, mY, oI⟩ := zz
  dsimp only [sS, sZ] at mY
  refine zg (oI (by exact rfl) (by exact rfl)) ?_
  refine nst oH fun s hO => ?_
  refine sbs 8 hO fun AB s hO => ?_
  refine au ?_
  refine sap1 ((0 : Int)) 5 hO H fun _ AC AD AE s hO => ?_
  refine sbs 8 hO fun AF s hO => ?_
  refine au ?_
  refine sap1 ((dW : Int)) 4 hO H.2 fun _ AG AH AI s hO => ?_
  refine sbs 8 hO fun vW s hO => ?_
  refine au ?_
  refine sap1 ((chr (IntKind.i32.wrap ((97 : Int) + (dW : Int))))) 3 hO H.2.2 (fun _ vX oJ AJ s hO => ?_) (hR := by exact fun _ _ => ⟨rfl, (J5S _)⟩)
  refine sbs 8 hO fun AK s hO => ?_
  refine au ?_
  refine sap1 ((0 : Int)) 2 hO H.2.2.2 fun _ AM AO AP s hO => ?_
  refine sbs 8 hO fun AQ s hO => ?_
  refine au ?_
  refine Go1.ret1V Try.func155 rfl (show _ = .int .i64 (fN.length : Int) from rfl) ?_
  refine hR301 _ _ ?_
  refine au ?_
  refine sap1 ((fN.length : Int)) 0 hO H.2.2.2.2 fun _ AR AT AU s hO => ?_
  refine sbs 8 hO fun AV s hO => ?_
  refine sinc (natbd lA de.bd) ?_
  refine au ?_
  exact hX3 _ H.2.2.2.2.2 _ _ ⟨_, _, _, _, _, _, _, _, _, _, _, _, _, _, _, _, _, _, _, _, _, _, agr, hO, mY.u, de.u, fr⟩
 refine au ?_
 have oK := Stp.nil (e := 31) (r := 1) hO
 refine nst oK fun s hO => ?_
 have sC := elN (Rp.sl (Rp.int .i64)) hO
 refine sfr 10 hO fun s hO => ?_
 refine sfr 2 hO fun s hO => ?_
 refine sfr 4 hO fun s hO => ?_
 refine sfr 5 hO fun s hO => ?_
 refine sfr 5 hO fun s hO => ?_
 refine sfr 5 hO fun s hO => ?_
 refine sfr 6 hO fun s hO => ?_
 refine sfr 7 hO fun s hO => ?_
 refine sfr 8 hO fun s hO => ?_
 refine sfr 9 hO fun s hO => ?_
 refine sfr 10 hO fun s hO => ?_
 refine Go1.ret2 Try.func131 rfl (Or.inr ⟨(⟨(⟨((ix a0 (0 : Int)).length : Int), true, d_22, fN, jG, d_258, ([] : List (List Int)), d_246, (0 : Int)⟩ : Enum), eo, fM, jF, jE⟩ : run), _, _, _, _, _, _, _, _, _, _, _, _, _, _, _, _, _, _, _, _, _, _, _, _, _, _, _, _, _, _, _, _, _, ?_, frs, hO, de.u, fd.u, sC.u, H⟩)
 exact rfl
theorem body158 : Body Try.prog 158 := ⟨Try.f158, Try.func158, rfl, by kernel_rfl⟩
theorem J3y {A : List Nat} {w0 : World} {p_f p_g : Option Addr} {c_f c_g : Nat} {f g : List Int} (hA : ∀ b ∈ A, b < w0.heap.size) (h_f : ISl (Rp.int .i64) A w0 p_f c_f f) (h_g : ISl (Rp.int .i64) A w0 p_g c_g g) {K : List Int → Prop} (H : J1d f g K) :
    CallsV Try.prog 158 #[.slice p_f f.length c_f, .slice p_g g.length c_g] w0 (fun v w' => ∃ (r0 : List Int) (p_r0 : Option Addr) (c_r0 : Nat), v = .slice p_r0 r0.length c_r0 ∧ Same w0 w' ∧ ISl (Rp.int .i64) A w' p_r0 c_r0 r0 ∧ K r0) := by
 refine CallsV.of (l := [.slice p_f f.length c_f, .slice p_g g.length c_g]) Try.func158 rfl Try.ntmps158 rfl ?_
 have hO := Owns.start hA
 have hB := Fr.refl (bl []) w0
 unfold J1d at H
 refine sln0 ?_
 refine sln0 ?_
 refine scm ((H h_f.bd) h_g.bd) (fun h1 H => ?_) fun h1 H => ?_
 ·refine au ?_
  refine zcr (J00 body154 rfl (J1B hO.lt h_f.u H)) fun _ w3 => e1 fun r2 => sc0 hO fun s hO => fun H => ?_
  cases r2
  ·refine au ?_
   refine Go1.ret1 Try.func158 rfl ⟨_, _, _, ?_, frs, (ISl.null _ _ _), (iF H)⟩
   exact rfl
  refine au ?_
  refine zcr (J00 body154 rfl (J1B hO.lt h_g.u (iT H))) fun _ w5 => e1 fun r4 => sc0 hO fun s hO => fun H => ?_
  cases r4
  ·refine au ?_
   refine Go1.ret1 Try.func158 rfl ⟨_, _, _, ?_, frs, (ISl.null _ _ _), (iF H)⟩
   exact rfl
  refine sln0 ?_
  refine smk Fl.i (iT H) hO fun w6 p7 s hO => ?_
  refine sln0 ?_
  refine au ?_
  refine lw (iT H).2.2 (fun (jH, m3) σ w => (fun Z => agrees σ [(1, .slice p_g g.length c_g), (5, .slice p7 f.length f.length), (26, .slice p_f f.length c_f), (27, .int .i64 (f.length : Int)), (28, .int .i64 (jH : Int))] ∧ Owns w0.heap.size w Z A ∧ Fr (bl []) w0 (bl Z) w) [t1 Fl.i 3 p7 f.length f.length m3]) ⟨agr, hO, fr⟩ ?_
  refine fun X1 => p1 fun jH m3 => fun H hX1 σ w9 => d2 fun hag hO hB => ?_
  dsimp only at H
  refine Go1.keep _ hag ?_
  revert hO; repeat (rename Owns _ _ _ _ => q; clear q)
  intro hO; repeat (rename Sq _ _ _ _ _ _ => q; clear q)
  refine scm H (fun h12 H => ?_) fun h12 H => ?_
  ·refine sxl hO h_f.u H.1 H.2.1 ?_
   refine sxl hO h_g.u H.2.2.1 H.2.2.2.1 ?_
   refine six1 0 hO H.2.2.2.2.1 H.2.2.2.2.2.1 ?_
   refine sst (u := (ix g (ix f (jH : Int)))) 0 hO H.2.2.2.2.1 H.2.2.2.2.2.1 fun w13 s hO => ?_
   refine sinc (natbd h12 h_f.bd) ?_
   refine au ?_
   exact hX1 _ H.2.2.2.2.2.2 _ _ ⟨agr, hO, fr⟩
  refine au ?_
  refine sfz 0 hO fun s hO iM iN => ?_
  refine Go1.ret1 Try.func158 rfl ⟨_, _, _, ?_, frs, iM.r, H⟩
  exact (congrArg (fun nn => Value.slice p7 nn f.length) iN)
 refine au ?_
 refine Go1.ret1 Try.func158 rfl ⟨_, _, _, ?_, frs, (ISl.null _ _ _), H⟩
 exact rfl
theorem body159 : Body Try.prog 159 := ⟨Try.f159, Try.func159, rfl, by kernel_rfl⟩
theorem body160 : Body Try.prog 160 := ⟨Try.f160, Try.func160, rfl, by kernel_rfl⟩
theorem body133 : Body Try.prog 133 := ⟨Try.f133, Try.func133, rfl, by kernel_rfl⟩
theorem J21 {A : List Nat} {n0 dn a9 bc bn bu bh bj bC bE aX a8 bw bz aB cD cG cj co bU bW : Nat} {w0 : World} {ba bo bi bD aY bx cE ck bV : Option Addr} {ci cL cf : List Value} {a0 : run} (hO : Owns n0 w0 [.blk dn (.cells #[.int .i64 a0.Enum.Points, .bool a0.Enum.Monoid, .slice ba a9 bc, .slice bo bn bu, .slice bi bh bj, .slice bD bC bE, .slice aY aX a8, .slice bx bw bz, .int .i64 a0.Enum.Done, .map (some aB), .slice cE cD cG, .slice ck cj co, .slice bV bU bW] 156 (0, 0)), .row 31 1 ba a9 bc ci, .row 31 1 bo bn bu cL, t1 Fl.i 3 bi bh bj a0.Enum.Prefix, t1 Fl.i 3 bD bC bE a0.Enum.Last, .row 31 1 aY aX a8 cf, t1 (id Fl.fl : Fl rpRule) 185 bx bw bz a0.Enum.Rules, t1 Fl.str 9 cE cD cG a0.words, t1 Fl.i 3 ck cj co a0.behind, t1 Fl.i 3 bV bU bW a0.single, .any (mapE (fun a : List UInt8 => Value.string (gstr a)) (fun a : Int => Value.int .i64 a) aB a0.number)] A) (ad : Els (Rp.sl (Rp.int .i64)) (bl [.blk dn (.cells #[.int .i64 a0.Enum.Points, .bool a0.Enum.Monoid, .slice ba a9 bc, .slice bo bn bu, .slice bi bh bj, .slice bD bC bE, .slice aY aX a8, .slice bx bw bz, .int .i64 a0.Enum.Done, .map (some aB), .slice cE cD cG, .slice ck cj co, .slice bV bU bW] 156 (0, 0)), .row 31 1 ba a9 bc ci, .row 31 1 bo bn bu cL, t1 Fl.i 3 bi bh bj a0.Enum.Prefix, t1 Fl.i 3 bD bC bE a0.Enum.Last, .row 31 1 aY aX a8 cf, t1 (id Fl.fl : Fl rpRule) 185 bx bw bz a0.Enum.Rules, t1 Fl.str 9 cE cD cG a0.words, t1 Fl.i 3 ck cj co a0.behind, t1 Fl.i 3 bV bU bW a0.single, .any (mapE (fun a : List UInt8 => Value.string (gstr a)) (fun a : Int => Value.int .i64 a) aB a0.number)] ++ A) w0 ci a0.Enum.Gens) (gj : Els (Rp.sl (Rp.int .i64)) (bl [.blk dn (.cells #[.int .i64 a0.Enum.Points, .bool a0.Enum.Monoid, .slice ba a9 bc, .slice bo bn bu, .slice bi bh bj, .slice bD bC bE, .slice aY aX a8, .slice bx bw bz, .int .i64 a0.Enum.Done, .map (some aB), .slice cE cD cG, .slice ck cj co, .slice bV bU bW] 156 (0, 0)), .row 31 1 ba a9 bc ci, .row 31 1 bo bn bu cL, t1 Fl.i 3 bi bh bj a0.Enum.Prefix, t1 Fl.i 3 bD bC bE a0.Enum.Last, .row 31 1 aY aX a8 cf, t1 (id Fl.fl : Fl rpRule) 185 bx bw bz a0.Enum.Rules, t1 Fl.str 9 cE cD cG a0.words, t1 Fl.i 3 ck cj co a0.behind, t1 Fl.i 3 bV bU bW a0.single, .any (mapE (fun a : List UInt8 => Value.string (gstr a)) (fun a : Int => Value.int .i64 a) aB a0.number)] ++ A) w0 cL a0.Enum.Elems) (ao : Els (Rp.sl (Rp.int .i64)) (bl [.blk dn (.cells #[.int .i64 a0.Enum.Points, .bool a0.Enum.Monoid, .slice ba a9 bc, .slice bo bn bu, .slice bi bh bj, .slice bD bC bE, .slice aY aX a8, .slice bx bw bz, .int .i64 a0.Enum.Done, .map (some aB), .slice cE cD cG, .slice ck cj co, .slice bV bU bW] 156 (0, 0)), .row 31 1 ba a9 bc ci, .row 31 1 bo bn bu cL, t1 Fl.i 3 bi bh bj a0.Enum.Prefix, t1 Fl.i 3 bD bC bE a0.Enum.Last, .row 31 1 aY aX a8 cf, t1 (id Fl.fl : Fl rpRule) 185 bx bw bz a0.Enum.Rules, t1 Fl.str 9 cE cD cG a0.words, t1 Fl.i 3 ck cj co a0.behind, t1 Fl.i 3 bV bU bW a0.single, .any (mapE (fun a : List UInt8 => Value.string (gstr a)) (fun a : Int => Value.int .i64 a) aB a0.number)] ++ A) w0 cf a0.Enum.Right) {K : Int → run → Prop} (H : J0c a0 K) :
    CallsV Try.prog 133 #[.pointer (some ⟨dn, 0, none⟩)] w0 (fun v w' => ∃ (r0 : Int) (q : run) (aR : Nat) (aS : Option Addr) (aT : Nat) (b7 : List Value) (aE : Nat) (aF : Option Addr) (aG : Nat) (bN : List Value) (ay : Nat) (az : Option Addr) (aA aU : Nat) (aV : Option Addr) (aW aH : Nat) (aI : Option Addr) (aJ : Nat) (bO : List Value) (aK : Nat) (aL : Option Addr) (aM b8 : Nat) (b9 : Option Addr) (ca bF : Nat) (bG : Option Addr) (bH bI : Nat) (bK : Option Addr) (bM : Nat), v = .int .i64 r0 ∧ Owns n0 w' [.blk dn (.cells #[.int .i64 q.Enum.Points, .bool q.Enum.Monoid, .slice aS aR aT, .slice aF aE aG, .slice az ay aA, .slice aV aU aW, .slice aI aH aJ, .slice aL aK aM, .int .i64 q.Enum.Done, .map (some aB), .slice b9 b8 ca, .slice bG bF bH, .slice bK bI bM] 156 (0, 0)), .row 31 1 aS aR aT b7, .row 31 1 aF aE aG bN, t1 Fl.i 3 az ay aA q.Enum.Prefix, t1 Fl.i 3 aV aU aW q.Enum.Last, .row 31 1 aI aH aJ bO, t1 (id Fl.fl : Fl rpRule) 185 aL aK aM q.Enum.Rules, t1 Fl.str 9 b9 b8 ca q.words, t1 Fl.i 3 bG bF bH q.behind, t1 Fl.i 3 bK bI bM q.single, .any (mapE (fun a : List UInt8 => Value.string (gstr a)) (fun a : Int => Value.int .i64 a) aB q.number)] A ∧ Els (Rp.sl (Rp.int .i64)) (bl [.blk dn (.cells #[.int .i64 q.Enum.Points, .bool q.Enum.Monoid, .slice aS aR aT, .slice aF aE aG, .slice az ay aA, .slice aV aU aW, .slice aI aH aJ, .slice aL aK aM, .int .i64 q.Enum.Done, .map (some aB), .slice b9 b8 ca, .slice bG bF bH, .slice bK bI bM] 156 (0, 0)), .row 31 1 aS aR aT b7, .row 31 1 aF aE aG bN, t1 Fl.i 3 az ay aA q.Enum.Prefix, t1 Fl.i 3 aV aU aW q.Enum.Last, .row 31 1 aI aH aJ bO, t1 (id Fl.fl : Fl rpRule) 185 aL aK aM q.Enum.Rules, t1 Fl.str 9 b9 b8 ca q.words, t1 Fl.i 3 bG bF bH q.behind, t1 Fl.i 3 bK bI bM q.single, .any (mapE (fun a : List UInt8 => Value.string (gstr a)) (fun a : Int => Value.int .i64 a) aB q.number)] ++ A) w' b7 q.Enum.Gens ∧ Els (Rp.sl (Rp.int .i64)) (bl [.blk dn (.cells #[.int .i64 q.Enum.Points, .bool q.Enum.Monoid, .slice aS aR aT, .slice aF aE aG, .slice az ay aA, .slice aV aU aW, .slice aI aH aJ, .slice aL aK aM, .int .i64 q.Enum.Done, .map (some aB), .slice b9 b8 ca, .slice bG bF bH, .slice bK bI bM] 156 (0, 0)), .row 31 1 aS aR aT b7, .row 31 1 aF aE aG bN, t1 Fl.i 3 az ay aA q.Enum.Prefix, t1 Fl.i 3 aV aU aW q.Enum.Last, .row 31 1 aI aH aJ bO, t1 (id Fl.fl : Fl rpRule) 185 aL aK aM q.Enum.Rules, t1 Fl.str 9 b9 b8 ca q.words, t1 Fl.i 3 bG bF bH q.behind, t1 Fl.i 3 bK bI bM q.single, .any (mapE (fun a : List UInt8 => Value.string (gstr a)) (fun a : Int => Value.int .i64 a) aB q.number)] ++ A) w' bN q.Enum.Elems ∧ Els (Rp.sl (Rp.int .i64)) (bl [.blk dn (.cells #[.int .i64 q.Enum.Points, .bool q.Enum.Monoid, .slice aS aR aT, .slice aF aE aG, .slice az ay aA, .slice aV aU aW, .slice aI aH aJ, .slice aL aK aM, .int .i64 q.Enum.Done, .map (some aB), .slice b9 b8 ca, .slice bG bF bH, .slice bK bI bM] 156 (0, 0)), .row 31 1 aS aR aT b7, .row 31 1 aF aE aG bN, t1 Fl.i 3 az ay aA q.Enum.Prefix, t1 Fl.i 3 aV aU aW q.Enum.Last, .row 31 1 aI aH aJ bO, t1 (id Fl.fl : Fl rpRule) 185 aL aK aM q.Enum.Rules, t1 Fl.str 9 b9 b8 ca q.words, t1 Fl.i 3 bG bF bH q.behind, t1 Fl.i 3 bK bI bM q.single, .any (mapE (fun a : List UInt8 => Value.string (gstr a)) (fun a : Int => Value.int .i64 a) aB q.number)] ++ A) w' bO q.Enum.Right ∧ Fr (bl [.blk dn (.cells #[.int .i64 a0.Enum.Points, .bool a0.Enum.Monoid, .slice ba a9 bc, .slice bo bn bu, .slice bi bh bj, .slice bD bC bE, .slice aY aX a8, .slice bx bw bz, .int .i64 a0.Enum.Done, .map (some aB), .slice cE cD cG, .slice ck cj co, .slice bV bU bW] 156 (0, 0)), .row 31 1 ba a9 bc ci, .row 31 1 bo bn bu cL, t1 Fl.i 3 bi bh bj a0.Enum.Prefix, t1 Fl.i 3 bD bC bE a0.Enum.Last, .row 31 1 aY aX a8 cf, t1 (id Fl.fl : Fl rpRule) 185 bx bw bz a0.Enum.Rules, t1 Fl.str 9 cE cD cG a0.words, t1 Fl.i 3 ck cj co a0.behind, t1 Fl.i 3 bV bU bW a0.single, .any (mapE (fun a : List UInt8 => Value.string (gstr a)) (fun a : Int => Value.int .i64 a) aB a0.number)]) w0 (bl [.blk dn (.cells #[.int .i64 q.Enum.Points, .bool q.Enum.Monoid, .slice aS aR aT, .slice aF aE aG, .slice az ay aA, .slice aV aU aW, .slice aI aH aJ, .slice aL aK aM, .int .i64 q.Enum.Done, .map (some aB), .slice b9 b8 ca, .slice bG bF bH, .slice bK bI bM] 156 (0, 0)), .row 31 1 aS aR aT b7, .row 31 1 aF aE aG bN, t1 Fl.i 3 az ay aA q.Enum.Prefix, t1 Fl.i 3 aV aU aW q.Enum.Last, .row 31 1 aI aH aJ bO, t1 (id Fl.fl : Fl rpRule) 185 aL aK aM q.Enum.Rules, t1 Fl.str 9 b9 b8 ca q.words, t1 Fl.i 3 bG bF bH q.behind, t1 Fl.i 3 bK bI bM q.single, .any (mapE (fun a : List UInt8 => Value.string (gstr a)) (fun a : Int => Value.int .i64 a) aB q.number)]) w' ∧ K r0 q) := by
 refine CallsV.of (l := [.pointer (some ⟨dn, 0, none⟩)]) Try.func133 rfl Try.ntmps133 rfl ?_
 have hB := Fr.refl (bl [.blk dn (.cells #[.int .i64 a0.Enum.Points, .bool a0.Enum.Monoid, .slice ba a9 bc, .slice bo bn bu, .slice bi bh bj, .slice bD bC bE, .slice aY aX a8, .slice bx bw bz, .int .i64 a0.Enum.Done, .map (some aB), .slice cE cD cG, .slice ck cj co, .slice bV bU bW] 156 (0, 0)), .row 31 1 ba a9 bc ci, .row 31 1 bo bn bu cL, t1 Fl.i 3 bi bh bj a0.Enum.Prefix, t1 Fl.i 3 bD bC bE a0.Enum.Last, .row 31 1 aY aX a8 cf, t1 (id Fl.fl : Fl rpRule) 185 bx bw bz a0.Enum.Rules, t1 Fl.str 9 cE cD cG a0.words, t1 Fl.i 3 ck cj co a0.behind, t1 Fl.i 3 bV bU bW a0.single, .any (mapE (fun a : List UInt8 => Value.string (gstr a)) (fun a : Int => Value.int .i64 a) aB a0.number)]) w0
 unfold J0c at H
 refine au ?_
 refine zo (J11 Try.underlying23 rfl (Els.neqW ad hO 1 rfl)) ?_
 refine smk Fl.i H hO fun w1 p4 s hO => ?_
 refine au ?_
 refine zo (J11 Try.underlying23 rfl (Els.neqW ad.u hO 2 rfl)) ?_
 refine au ?_
 refine lw H.2.2 (fun (cK, d_8, d_9, jI, jJ, jK, d_27, eU, dg) σ w => ∃ n14 p12 c13 lD n18 p16 c17 n22 p20 c21 n26 p24 c25 n30 p28 c29 n34 p32 c33, (fun Z => agrees σ [(0, .pointer (some ⟨dn, 0, none⟩)), (3, .int .i64 a0.Enum.Done), (4, .slice p4 a0.Enum.Gens.length a0.Enum.Gens.length), (27, .slice ba a9 bc), (28, .int .i64 (a0.Enum.Gens.length : Int)), (29, .int .i64 (cK : Int))] ∧ Owns n0 w Z A ∧ Els (Rp.sl (Rp.int .i64)) (bl Z ++ A) w ci a0.Enum.Gens ∧ Els (Rp.sl (Rp.int .i64)) (bl Z ++ A) w lD d_9 ∧ Els (Rp.sl (Rp.int .i64)) (bl Z ++ A) w cf a0.Enum.Right ∧ Fr (bl [.blk dn (.cells #[.int .i64 a0.Enum.Points, .bool a0.Enum.Monoid, .slice ba a9 bc, .slice bo bn bu, .slice bi bh bj, .slice bD bC bE, .slice aY aX a8, .slice bx bw bz, .int .i64 a0.Enum.Done, .map (some aB), .slice cE cD cG, .slice ck cj co, .slice bV bU bW] 156 (0, 0)), .row 31 1 ba a9 bc ci, .row 31 1 bo bn bu cL, t1 Fl.i 3 bi bh bj a0.Enum.Prefix, t1 Fl.i 3 bD bC bE a0.Enum.Last, .row 31 1 aY aX a8 cf, t1 (id Fl.fl : Fl rpRule) 185 bx bw bz a0.Enum.Rules, t1 Fl.str 9 cE cD cG a0.words, t1 Fl.i 3 ck cj co a0.behind, t1 Fl.i 3 bV bU bW a0.single, .any (mapE (fun a : List UInt8 => Value.string (gstr a)) (fun a : Int => Value.int .i64 a) aB a0.number)]) w0 (bl Z) w) [t1 Fl.i 3 p4 a0.Enum.Gens.length a0.Enum.Gens.length d_8, .blk dn (.cells #[.int .i64 a0.Enum.Points, .bool a0.Enum.Monoid, .slice ba a9 bc, .slice p12 n14 c13, .slice p16 n18 c17, .slice p20 n22 c21, .slice aY aX a8, .slice p24 n26 c25, .int .i64 a0.Enum.Done, .map (some aB), .slice p28 n30 c29, .slice p32 n34 c33, .slice bV bU bW] 156 (0, 0)), .row 31 1 ba a9 bc ci, .row 31 1 p12 n14 c13 lD, t1 Fl.i 3 p16 n18 c17 jI, t1 Fl.i 3 p20 n22 c21 jJ, .row 31 1 aY aX a8 cf, t1 (id Fl.fl : Fl rpRule) 185 p24 n26 c25 jK, t1 Fl.str 9 p28 n30 c29 d_27, t1 Fl.i 3 p32 n34 c33 eU, t1 Fl.i 3 bV bU bW a0.single, .any (mapE (fun a : List UInt8 => Value.string (gstr a)) (fun a : Int => Value.int .i64 a) aB dg)]) ⟨_, _, _, _, _, _, _, _, _, _, _, _, _, _, _, _, _, _, _, agr, hO, ad.u, gj.u, ao.u, fr⟩ ?_
 refine fun X1 => p1 fun cK => p1 fun d_8 => p1 fun d_9 => p1 fun jI => p1 fun jJ => p3 fun jK d_27 eU dg => fun H hX1 σ w6 => e4 fun n14 p12 c13 lD => e4 fun n18 p16 c17 n22 => e4 fun p20 c21 n26 p24 => e4 fun c25 n30 p28 c29 => e3 fun n34 p32 c33 => d1 fun hag => d4 fun hO ad dA ao hB => ?_
 dsimp only at H
 refine Go1.keep _ hag ?_
 revert hO; repeat (rename Owns _ _ _ _ => q; clear q)
 intro hO; repeat (rename Sq _ _ _ _ _ _ => q; clear q)
 refine scm H (fun h36 H => ?_) fun h36 H => ?_
 ·refine au ?_
  obtain ⟨h37, H⟩ := H
  obtain ⟨h38, H⟩ := H
  refine zo (J01 Try.underlying23 ti31 rfl rfl h37 (ltn (Els.neqW ad hO 2 rfl) h38) (Els.psomeW ad hO 2 rfl h37 h38)) ?_
  have zz := oldSl 2 hO rfl ad h37 h38
  obtain ⟨p39, c40, lE, vY⟩ := zz
  refine zs (vY Try.underlying31 rfl rfl) ?_
  refine au ?_
  obtain ⟨h43, H⟩ := H
  obtain ⟨h44, H⟩ := H
  refine zo (J01 Try.underlying23 ti31 rfl rfl h43 (ltn (Els.neqW dA hO 3 rfl) h44) (Els.psomeW dA hO 3 rfl h43 h44)) ?_
  have zz := oldSl 3 hO rfl dA h43 h44
  obtain ⟨p45, c46, v5, v6⟩ := zz
  refine zs (v6 Try.underlying31 rfl rfl) ?_
  refine au ?_
  refine zcr (J00 body158 rfl (J3y hO.lt v5 lE H)) fun _ w50 => e3 fun r49 fe fh => sc0 hO fun s hO => d1 fun gC H => ?_
  refine au ?_
  refine drw 0 [(0, .pure), (1, .pure), (2, .pure), (3, .stable), (4, .pure), (5, .loud), (6, .stable), (7, .pure), (8, .pure), (9, .pure), (10, .pure), (11, .pure)] hO fun w51 s hO => ?_
  refine au ?_
  refine zcq rfl (J00 body157 rfl (J04 hO.lt gC.u H)) fun _ w53 => e1 fun r52 => sq0 hO fun s hO => d1 fun xS H => ?_
  by_cases h54 : mhas dg r52 = true
  ·refine GoQ.stable rfl (olookT (a := r52) (MK.str Try.underlying9) 11 hO rfl Try.underlying154 rfl rfl h54) rfl rfl ?_
   refine sxl1 8 hO (ifp h54 H).1 (ifp h54 H).2.1 ?_
   have hle55 := t1le 8 hO (ifp h54 H).1 (ifp h54 H).2.1
   refine au ?_
   have h56 := (ifp h54 H).1
   have h57 := (ifp h54 H).2.1
   replace H := (ifp h54 H).2.2
   obtain ⟨h58, H⟩ := H
   refine zo (J0k rfl rfl (wrap_i64 h58)) ?_
   refine zo (J3N Try.underlying3 Try.underlying21 rfl rfl) ?_
   obtain ⟨h59, H⟩ := H
   obtain ⟨h60, H⟩ := H
   refine zo (J3r Try.underlying21 Try.underlying9 rfl h59 h60) ?_
   obtain ⟨h61, H⟩ := H
   refine zo (J5v rfl rfl h61) ?_
   refine sxl1 8 hO H.1 H.2.1 ?_
   have hle62 := t1le 8 hO H.1 H.2.1
   have h63 := H.1
   have h64 := H.2.1
   refine scm H.2.2 (fun h65 H => ?_) fun h65 H => ?_
   ·refine six1 0 hO H.1 H.2.1 ?_
    refine sst (u := (mgt dg r52)) 0 hO H.1 H.2.1 fun w66 s hO => ?_
    refine sinc (natbd h36 ad.bd) ?_
    refine au ?_
    exact hX1 _ H.2.2 _ _ ⟨_, _, _, _, _, _, _, _, _, _, _, _, _, _, _, _, _, _, _, agr, hO, ad.u, dA.u, ao.u, fr⟩
   refine six1 9 hO H.1 H.2.1 ?_
   refine sld1 9 hO H.1 H.2.1 ?_
   refine au ?_
   refine GoR.inl (vs := [.pointer (some ⟨dn, 0, none⟩), .int .i64 (ix eU a0.Enum.Done), .int .i64 (cK : Int)]) (caps := []) rfl rfl body160 Try.func160 rfl Try.ntmps160 rfl rfl rfl ?_
   intro RhR67 hR67
   refine au ?_
   refine GoR.inl (vs := [.pointer (some ⟨dn, 0, none⟩), .int .i64 (ix eU a0.Enum.Done), .int .i64 (cK : Int)]) (caps := []) rfl rfl body159 Try.func159 rfl Try.ntmps159 rfl rfl rfl ?_
   intro RhR68 hR68
   refine scm H.2.2 (fun h69 H => ?_) fun h69 H => ?_
   ·refine sxl1 10 hO H.1 H.2.1 ?_
    refine au ?_
    refine Go1.ret1V Try.func159 rfl (show _ = .int .i64 (ix a0.single (cK : Int)) from rfl) ?_
    refine hR68 _ _ ?_
    refine sxl1 4 hO H.2.2.1 H.2.2.2.1 ?_
    refine au ?_
    have h70 := H.2.2.1
    have h71 := H.2.2.2.1
    refine scm H.2.2.2.2 (fun h72 H => ?_) fun h72 H => ?_
    ·refine six1 5 hO H.1 H.2.1 ?_
     refine sld1 5 hO H.1 H.2.1 ?_
     refine au ?_
     have h73 := H.1
     have h74 := H.2.1
     refine scm H.2.2 (fun h75 H => ?_) fun h75 H => ?_
     ·refine au ?_
      refine Go1.ret1V Try.func160 rfl (show _ = .bool true from rfl) ?_
      refine hR67 _ _ ?_
      refine au ?_
      refine drw 5 [(0, .pure), (1, .pure), (2, .pure), (3, .pure), (4, .pure), (5, .stable), (6, .pure), (7, .pure), (8, .pure), (9, .pure), (10, .stable), (11, .pure), (12, .pure), (13, .stable), (14, .pure), (15, .loud), (16, .last), (17, .pure), (18, .pure), (19, .pure), (20, .last)] hO fun w76 s hO => ?_
      refine sxl1 8 hO H.1 H.2.1 ?_
      have hle77 := t1le 8 hO H.1 H.2.1
      refine GoQ.pure rfl (J0a Try.underlying185 ti185 (pl := [(0, 1), (1, 1)]) (vs := [(0, .string (gstr ((ix d_27 a0.Enum.Done) ++ (chr (IntKind.i32.wrap ((97 : Int) + (cK : Int))))))), (1, .string (gstr (ix d_27 (mgt dg r52))))]) (cs := #[.string (gstr ((ix d_27 a0.Enum.Done) ++ (chr (IntKind.i32.wrap ((97 : Int) + (cK : Int)))))), .string (gstr (ix d_27 (mgt dg r52)))]) (by kernel_rfl) rfl (by kernel_rfl)) rfl rfl ?_
      refine sapF (⟨((ix d_27 a0.Enum.Done) ++ (chr (IntKind.i32.wrap ((97 : Int) + (cK : Int))))), ix d_27 (mgt dg r52)⟩ : Rule) 7 hO H.2.2 (fun _ w78 p79 c80 s hO => ?_) (hok := by exact ⟨(lenApp h61), hle77⟩)
      refine sbs 1 hO fun w81 s hO => ?_
      refine six1 0 hO H.2.2.2.1 H.2.2.2.2.1 ?_
      refine sst (u := (mgt dg r52)) 0 hO H.2.2.2.1 H.2.2.2.2.1 fun w82 s hO => ?_
      refine sinc (natbd h36 ad.bd) ?_
      refine au ?_
      exact hX1 _ H.2.2.2.2.2 _ _ ⟨_, _, _, _, _, _, _, _, _, _, _, _, _, _, _, _, _, _, _, agr, hO, ad.u, dA.u, ao.u, fr⟩
     refine au ?_
     refine Go1.ret1V Try.func160 rfl (show _ = .bool false from rfl) ?_
     refine hR67 _ _ ?_
     refine six1 0 hO H.1 H.2.1 ?_
     refine sst (u := (mgt dg r52)) 0 hO H.1 H.2.1 fun w83 s hO => ?_
     refine sinc (natbd h36 ad.bd) ?_
     refine au ?_
     exact hX1 _ H.2.2 _ _ ⟨_, _, _, _, _, _, _, _, _, _, _, _, _, _, _, _, _, _, _, agr, hO, ad.u, dA.u, ao.u, fr⟩
    refine au ?_
    refine Go1.ret1V Try.func160 rfl (show _ = .bool false from rfl) ?_
    refine hR67 _ _ ?_
    refine six1 0 hO H.1 H.2.1 ?_
    refine sst (u := (mgt dg r52)) 0 hO H.1 H.2.1 fun w84 s hO => ?_
    refine sinc (natbd h36 ad.bd) ?_
    refine au ?_
    exact hX1 _ H.2.2 _ _ ⟨_, _, _, _, _, _, _, _, _, _, _, _, _, _, _, _, _, _, _, agr, hO, ad.u, dA.u, ao.u, fr⟩
   refine au ?_
   obtain ⟨h85, H⟩ := H
   obtain ⟨h86, H⟩ := H
   refine zo (J01 Try.underlying23 ti31 rfl rfl h85 (ltn (Els.neqW ao.u hO 6 rfl) h86) (Els.psomeW ao.u hO 6 rfl h85 h86)) ?_
   have zz := oldSl 6 hO rfl ao.u h85 h86
   obtain ⟨p87, c88, kx, v7⟩ := zz
   refine zs (v7 Try.underlying31 rfl rfl) ?_
   refine sxl hO kx H.1 H.2.1 ?_
   refine au ?_
   refine Go1.ret1V Try.func159 rfl (show _ = .int .i64 (ix (ix a0.Enum.Right (ix eU a0.Enum.Done)) (cK : Int)) from rfl) ?_
   refine hR68 _ _ ?_
   refine sxl1 4 hO H.2.2.1 H.2.2.2.1 ?_
   refine au ?_
   have h91 := H.2.2.1
   have h92 := H.2.2.2.1
   refine scm H.2.2.2.2 (fun h93 H => ?_) fun h93 H => ?_
   ·refine six1 5 hO H.1 H.2.1 ?_
    refine sld1 5 hO H.1 H.2.1 ?_
    refine au ?_
    have h94 := H.1
    have h95 := H.2.1
    refine scm H.2.2 (fun h96 H => ?_) fun h96 H => ?_
    ·refine au ?_
     refine Go1.ret1V Try.func160 rfl (show _ = .bool true from rfl) ?_
     refine hR67 _ _ ?_
     refine au ?_
     refine drw 5 [(0, .pure), (1, .pure), (2, .pure), (3, .pure), (4, .pure), (5, .stable), (6, .pure), (7, .pure), (8, .pure), (9, .pure), (10, .stable), (11, .pure), (12, .pure), (13, .stable), (14, .pure), (15, .loud), (16, .last), (17, .pure), (18, .pure), (19, .pure), (20, .last)] hO fun w97 s hO => ?_
     refine sxl1 8 hO H.1 H.2.1 ?_
     have hle98 := t1le 8 hO H.1 H.2.1
     refine GoQ.pure rfl (J0a Try.underlying185 ti185 (pl := [(0, 1), (1, 1)]) (vs := [(0, .string (gstr ((ix d_27 a0.Enum.Done) ++ (chr (IntKind.i32.wrap ((97 : Int) + (cK : Int))))))), (1, .string (gstr (ix d_27 (mgt dg r52))))]) (cs := #[.string (gstr ((ix d_27 a0.Enum.Done) ++ (chr (IntKind.i32.wrap ((97 : Int) + (cK : Int)))))), .string (gstr (ix d_27 (mgt dg r52)))]) (by kernel_rfl) rfl (by kernel_rfl)) rfl rfl ?_
     refine sapF (⟨((ix d_27 a0.Enum.Done) ++ (chr (IntKind.i32.wrap ((97 : Int) + (cK : Int))))), ix d_27 (mgt dg r52)⟩ : Rule) 7 hO H.2.2 (fun _ w99 AW AX s hO => ?_) (hok := by exact ⟨(lenApp h61), hle98⟩)
     refine sbs 1 hO fun AY s hO => ?_
     refine six1 0 hO H.2.2.2.1 H.2.2.2.2.1 ?_
     refine sst (u := (mgt dg r52)) 0 hO H.2.2.2.1 H.2.2.2.2.1 fun vm s hO => ?_
     refine sinc (natbd h36 ad.bd) ?_
     refine au ?_
     exact hX1 _ H.2.2.2.2.2 _ _ ⟨_, _, _, _, _, _, _, _, _, _, _, _, _, _, _, _, _, _, _, agr, hO, ad.u, dA.u, ao.u, fr⟩
    refine au ?_
    refine Go1.ret1V Try.func160 rfl (show _ = .bool false from rfl) ?_
    refine hR67 _ _ ?_
    refine six1 0 hO H.1 H.2.1 ?_
    refine sst (u := (mgt dg r52)) 0 hO H.1 H.2.1 fun vn s hO => ?_
    refine sinc (natbd h36 ad.bd) ?_
    refine au ?_
    exact hX1 _ H.2.2 _ _ ⟨_, _, _, _, _, _, _, _, _, _, _, _, _, _, _, _, _, _, _, agr, hO, ad.u, dA.u, ao.u, fr⟩
   refine au ?_
   refine Go1.ret1V Try.func160 rfl (show _ = .bool false from rfl) ?_
   refine hR67 _ _ ?_
   refine six1 0 hO H.1 H.2.1 ?_
   refine sst (u := (mgt dg r52)) 0 hO H.1 H.2.1 fun uL s hO => ?_
   refine sinc (natbd h36 ad.bd) ?_
   refine au ?_
   exact hX1 _ H.2.2 _ _ ⟨_, _, _, _, _, _, _, _, _, _, _, _, _, _, _, _, _, _, _, agr, hO, ad.u, dA.u, ao.u, fr⟩
  refine GoQ.stable rfl (olookF (a := r52) (MK.str Try.underlying9) 11 hO rfl Try.underlying154 ti3 rfl rfl h54) rfl rfl ?_
  refine sxl1 8 hO (ifn h54 H).1 (ifn h54 H).2.1 ?_
  have hle106 := t1le 8 hO (ifn h54 H).1 (ifn h54 H).2.1
  refine au ?_
  have f7 := (ifn h54 H).1
  have nM := (ifn h54 H).2.1
  replace H := (ifn h54 H).2.2
  obtain ⟨v8, H⟩ := H
  refine zo (J0k rfl rfl (wrap_i64 v8)) ?_
  refine zo (J3N Try.underlying3 Try.underlying21 rfl rfl) ?_
  obtain ⟨v9, H⟩ := H
  obtain ⟨f8, H⟩ := H
  refine zo (J3r Try.underlying21 Try.underlying9 rfl v9 f8) ?_
  obtain ⟨fy, H⟩ := H
  refine zo (J5v rfl rfl fy) ?_
  refine au ?_
  refine zo (J11 Try.underlying23 rfl (Els.neqW dA.u hO 3 rfl)) ?_
  refine scm H (fun f9 H => ?_) fun f9 H => ?_
  ·refine au ?_
   refine sdr [0] hO fun s hO => ?_
   refine Go1.ret1 Try.func133 rfl ⟨_, (⟨(⟨a0.Enum.Points, a0.Enum.Monoid, a0.Enum.Gens, d_9, jI, jJ, a0.Enum.Right, jK, a0.Enum.Done⟩ : Enum), dg, d_27, eU, a0.single⟩ : run), _, _, _, _, _, _, _, _, _, _, _, _, _, _, _, _, _, _, _, _, _, _, _, _, _, _, _, _, _, _, ?_, hO, ad.u, dA.u, ao.u, fr, H⟩
   exact rfl
  refine sxl1 9 hO H.1 H.2.1 ?_
  refine au ?_
  refine GoR.inl (vs := [.pointer (some ⟨dn, 0, none⟩), .int .i64 (ix eU a0.Enum.Done), .int .i64 (cK : Int)]) (caps := []) rfl rfl body159 Try.func159 rfl Try.ntmps159 rfl rfl rfl ?_
  intro RhR114 hR114
  refine scm H.2.2 (fun wa H => ?_) fun wa H => ?_
  ·refine sxl1 10 hO H.1 H.2.1 ?_
   refine au ?_
   refine Go1.ret1V Try.func159 rfl (show _ = .int .i64 (ix a0.single (cK : Int)) from rfl) ?_
   refine hR114 _ _ ?_
   refine GoR.inl (vs := [.pointer (some ⟨dn, 0, none⟩), .slice fe r49.length fh, .int .i64 a0.Enum.Done, .int .i64 (cK : Int), .string (gstr ((ix d_27 a0.Enum.Done) ++ (chr (IntKind.i32.wrap ((97 : Int) + (cK : Int)))))), .int .i64 (ix a0.single (cK : Int))]) (caps := []) rfl rfl body155 Try.func155 rfl Try.ntmps155 rfl rfl rfl ?_
   intro RhR116 hR116
   refine au ?_
   refine zo (J11 Try.underlying23 rfl (Els.neqW dA.u hO 3 rfl)) ?_
   refine au ?_
   refine drw 1 [(0, .pure), (1, .pure), (2, .pure), (3, .stable), (4, .pure), (6, .pure), (5, .loud), (7, .last)] hO fun vF s hO => ?_
   refine au ?_
   refine zcq rfl (J00 body157 rfl (J04 hO.lt gC.u H.2.2)) fun _ nO => e1 fun wc => sq0 hO fun s hO => d1 fun xQ H => ?_
   have zz := omapUpd (MK.str Try.underlying9) 11 hO rfl Try.underlying154 wc (d_9.length : Int)
   obtain ⟨A4, iD, oL⟩ := zz
   refine GoQ.last rfl (oL (by exact rfl) (by exact rfl) (by exact rfl)) rfl rfl ?_
   refine nst iD fun s hO => ?_
   refine au ?_
   have zz := J2e (r := Rp.sl (Rp.int .i64)) (n := 1) (parts := [(0, .slice fe r49.length fh)]) (vs := [.slice fe r49.length fh]) (xs := [r49]) rfl Try.underlying23 ti31 hO (by decide) (by kernel_rfl) (Els.cons rfl ⟨fe, fh, rfl, gC.u⟩ (Els.nil _ _ _) (by simp [mx])) rfl
   obtain ⟨A5, A6, oM, sD, yd, oN⟩ := zz
   refine zg (oN rfl) ?_
   refine nst oM fun s hO => ?_
   refine sfzR 0 hO sD fun s hO sE sF => ?_
   obtain ⟨we, H⟩ := H
   have zz := oapp Try.underlying23 ti31 rfl 3 hO rfl dA.u sE sF we (by decide)
   obtain ⟨A7, A8, A9, ye, oO, m5, oP⟩ := zz
   dsimp only [sS, sZ] at m5
   refine zg (oP (by exact rfl) (by exact rfl)) ?_
   refine nst oO fun s hO => ?_
   refine sbs 1 hO fun wg s hO => ?_
   refine au ?_
   refine sap1 a0.Enum.Done 4 hO H fun _ Ba Bb Bc s hO => ?_
   refine sbs 1 hO fun vI s hO => ?_
   refine au ?_
   refine sap1 ((cK : Int)) 5 hO H.2 fun _ Bd Be Bf s hO => ?_
   refine sbs 1 hO fun wh s hO => ?_
   refine au ?_
   refine sap1 (((ix d_27 a0.Enum.Done) ++ (chr (IntKind.i32.wrap ((97 : Int) + (cK : Int)))))) 8 hO H.2.2 (fun _ Bg Bi Bj s hO => ?_) (hR := by exact fun _ _ => ⟨rfl, (lenApp fy)⟩)
   refine sbs 1 hO fun nS s hO => ?_
   refine au ?_
   refine sap1 ((ix a0.single (cK : Int))) 9 hO H.2.2.2 fun _ Bk Bl Bm s hO => ?_
   refine sbs 1 hO fun Bn s hO => ?_
   refine au ?_
   refine Go1.ret1V Try.func155 rfl (show _ = .int .i64 (d_9.length : Int) from rfl) ?_
   refine hR116 _ _ ?_
   refine six1 0 hO H.2.2.2.2.1 H.2.2.2.2.2.1 ?_
   refine sst (u := (d_9.length : Int)) 0 hO H.2.2.2.2.1 H.2.2.2.2.2.1 fun Bo s hO => ?_
   refine sinc (natbd h36 ad.bd) ?_
   refine au ?_
   exact hX1 _ H.2.2.2.2.2.2 _ _ ⟨_, _, _, _, _, _, _, _, _, _, _, _, _, _, _, _, _, _, _, agr, hO, ad.u, m5.u, ao.u, fr⟩
  refine au ?_
  obtain ⟨h159, H⟩ := H
  obtain ⟨lF, H⟩ := H
  refine zo (J01 Try.underlying23 ti31 rfl rfl h159 (ltn (Els.neqW ao.u hO 6 rfl) lF) (Els.psomeW ao.u hO 6 rfl h159 lF)) ?_
  have zz := oldSl 6 hO rfl ao.u h159 lF
  obtain ⟨gW, Bp, sG, sH⟩ := zz
  refine zs (sH Try.underlying31 rfl rfl) ?_
  refine sxl hO sG H.1 H.2.1 ?_
  refine au ?_
  refine Go1.ret1V Try.func159 rfl (show _ = .int .i64 (ix (ix a0.Enum.Right (ix eU a0.Enum.Done)) (cK : Int)) from rfl) ?_
  refine hR114 _ _ ?_
  refine GoR.inl (vs := [.pointer (some ⟨dn, 0, none⟩), .slice fe r49.length fh, .int .i64 a0.Enum.Done, .int .i64 (cK : Int), .string (gstr ((ix d_27 a0.Enum.Done) ++ (chr (IntKind.i32.wrap ((97 : Int) + (cK : Int)))))), .int .i64 (ix (ix a0.Enum.Right (ix eU a0.Enum.Done)) (cK : Int))]) (caps := []) rfl rfl body155 Try.func155 rfl Try.ntmps155 rfl rfl rfl ?_
  intro RhR165 hR165
  refine au ?_
  refine zo (J11 Try.underlying23 rfl (Els.neqW dA.u hO 3 rfl)) ?_
  refine au ?_
  refine drw 1 [(0, .pure), (1, .pure), (2, .pure), (3, .stable), (4, .pure), (6, .pure), (5, .loud), (7, .last)] hO fun Bq s hO => ?_
  refine au ?_
  refine zcq rfl (J00 body157 rfl (J04 hO.lt gC.u H.2.2)) fun _ om => e1 fun r167 => sq0 hO fun s hO => d1 fun xR H => ?_
  have zz := omapUpd (MK.str Try.underlying9) 11 hO rfl Try.underlying154 r167 (d_9.length : Int)
  obtain ⟨Br, oQ, oR⟩ := zz
  refine GoQ.last rfl (oR (by exact rfl) (by exact rfl) (by exact rfl)) rfl rfl ?_
  refine nst oQ fun s hO => ?_
  refine au ?_
  have zz := J2e (r := Rp.sl (Rp.int .i64)) (n := 1) (parts := [(0, .slice fe r49.length fh)]) (vs := [.slice fe r49.length fh]) (xs := [r49]) rfl Try.underlying23 ti31 hO (by decide) (by kernel_rfl) (Els.cons rfl ⟨fe, fh, rfl, gC.u⟩ (Els.nil _ _ _) (by simp [mx])) rfl
  obtain ⟨oo, vL, oS, sI, yf, oT⟩ := zz
  refine zg (oT rfl) ?_
  refine nst oS fun s hO => ?_
  refine sfzR 0 hO sI fun s hO jp jq => ?_
  obtain ⟨wi, H⟩ := H
  have zz := oapp Try.underlying23 ti31 rfl 3 hO rfl dA.u jp jq wi (by decide)
  obtain ⟨Bs, Bt, Bu, yg, oU, m6, oV⟩ := zz
  dsimp only [sS, sZ] at m6
  refine zg (oV (by exact rfl) (by exact rfl)) ?_
  refine nst oU fun s hO => ?_
  refine sbs 1 hO fun vN s hO => ?_
  refine au ?_
  refine sap1 a0.Enum.Done 4 hO H fun _ uY Bv Bw s hO => ?_
  refine sbs 1 hO fun Bx s hO => ?_
  refine au ?_
  refine sap1 ((cK : Int)) 5 hO H.2 fun _ u4 By Bz s hO => ?_
  refine sbs 1 hO fun BA s hO => ?_
  refine au ?_
  refine sap1 (((ix d_27 a0.Enum.Done) ++ (chr (IntKind.i32.wrap ((97 : Int) + (cK : Int)))))) 8 hO H.2.2 (fun _ u5 BB BC s hO => ?_) (hR := by exact fun _ _ => ⟨rfl, (lenApp fy)⟩)
  refine sbs 1 hO fun BD s hO => ?_
  refine au ?_
  refine sap1 ((ix (ix a0.Enum.Right (ix eU a0.Enum.Done)) (cK : Int))) 9 hO H.2.2.2 fun _ u6 BE BG s hO => ?_
  refine sbs 1 hO fun BH s hO => ?_
  refine au ?_
  refine Go1.ret1V Try.func155 rfl (show _ = .int .i64 (d_9.length : Int) from rfl) ?_
  refine hR165 _ _ ?_
  refine six1 0 hO H.2.2.2.2.1 H.2.2.2.2.2.1 ?_
  refine sst (u := (d_9.length : Int)) 0 hO H.2.2.2.2.1 H.2.2.2.2.2.1 fun BJ s hO => ?_
  refine sinc (natbd h36 ad.bd) ?_
  refine au ?_
  exact hX1 _ H.2.2.2.2.2.2 _ _ ⟨_, _, _, _, _, _, _, _, _, _, _, _, _, _, _, _, _, _, _, agr, hO, ad.u, m6.u, ao.u, fr⟩
 refine au ?_
 refine sfz 0 hO fun s hO sJ sK => ?_
 have zz := J2e (r := Rp.sl (Rp.int .i64)) (n := 1) (parts := [(0, .slice p4 a0.Enum.Gens.length a0.Enum.Gens.length)]) (vs := [.slice p4 a0.Enum.Gens.length a0.Enum.Gens.length]) (xs := [d_8]) rfl Try.underlying23 ti31 hO (by decide) (by kernel_rfl) (Els.cons rfl ⟨p4, a0.Enum.Gens.length, congrArg some (congrArg (fun nn => Value.slice p4 nn a0.Enum.Gens.length) sK), sJ⟩ (Els.nil _ _ _) (by simp [mx])) rfl
 obtain ⟨BK, BL, oW, sL, yh, iQ⟩ := zz
 refine zg (iQ rfl) ?_
 refine nst oW fun s hO => ?_
 refine sfzR 0 hO sL fun s hO sM sN => ?_
 obtain ⟨wj, H⟩ := H
 have zz := oapp Try.underlying23 ti31 rfl 5 hO rfl ao.u sM sN wj (by decide)
 obtain ⟨BM, BN, BO, yj, oX, m7, oY⟩ := zz
 dsimp only [sS, sZ] at m7
 refine zg (oY (by exact rfl) (by exact rfl)) ?_
 refine nst oX fun s hO => ?_
 refine sbs 0 hO fun BP s hO => ?_
 refine au ?_
 obtain ⟨wk, H⟩ := H
 refine zo (J0k rfl rfl (wrap_i64 wk)) ?_
 refine sbs 0 hO fun BQ s hO => ?_
 refine au ?_
 refine Go1.ret1 Try.func133 rfl ⟨_, (⟨(⟨a0.Enum.Points, a0.Enum.Monoid, a0.Enum.Gens, d_9, jI, jJ, a0.Enum.Right ++ ([d_8]), jK, (a0.Enum.Done + (1 : Int))⟩ : Enum), dg, d_27, eU, a0.single⟩ : run), _, _, _, _, _, _, _, _, _, _, _, _, _, _, _, _, _, _, _, _, _, _, _, _, _, _, _, _, _, _, ?_, hO, ad.u, dA.u, m7.u, fr, H⟩
 exact rfl
theorem body132 : Body Try.prog 132 := ⟨Try.f132, Try.func132, rfl, by kernel_rfl⟩
theorem body101 : Body Try.prog 101 := ⟨Try.f101, Try.func101, rfl, by kernel_rfl⟩
theorem J31 {A : List Nat} {w0 : World} {iR : Option Addr} {iU : Nat} {gens : List (List Int)} {monoid : Bool} (hA : ∀ b ∈ A, b < w0.heap.size) (o3 : ISl (Rp.sl (Rp.int .i64)) A w0 iR iU gens) {K : Enum → Int → Prop} (H : J0N gens monoid K) :
    CallsV Try.prog 101 #[.slice iR gens.length iU, .bool monoid] w0 (fun v w' => ∃ (r0 : Enum) (r1 : Int) (g8 : Option Addr) (g9 : Nat) (gD : Option Addr) (gE : Nat) (fU : Option Addr) (fV : Nat) (ia : Option Addr) (ic : Nat) (gF : Option Addr) (gG : Nat) (gH : Option Addr) (gI : Nat), v = .tuple #[.agg #[.int .i64 r0.Points, .bool r0.Monoid, .slice g8 r0.Gens.length g9, .slice gD r0.Elems.length gE, .slice fU r0.Prefix.length fV, .slice ia r0.Last.length ic, .slice gF r0.Right.length gG, .slice gH r0.Rules.length gI, .int .i64 r0.Done], .int .i64 r1] ∧ Same w0 w' ∧ ISl (Rp.sl (Rp.int .i64)) A w' g8 g9 r0.Gens ∧ ISl (Rp.sl (Rp.int .i64)) A w' gD gE r0.Elems ∧ ISl (Rp.int .i64) A w' fU fV r0.Prefix ∧ ISl (Rp.int .i64) A w' ia ic r0.Last ∧ ISl (Rp.sl (Rp.int .i64)) A w' gF gG r0.Right ∧ ISl (rpRule) A w' gH gI r0.Rules ∧ K r0 r1) := by
 refine CallsV.of (l := [.slice iR gens.length iU, .bool monoid]) Try.func101 rfl Try.ntmps101 rfl ?_
 have hO := Owns.start hA
 have hB := Fr.refl (bl []) w0
 unfold J0N at H
 refine sal hO fun w1 B2 s hO => ?_
 refine au ?_
 refine zcr (J00 body131 rfl (J33 hO.lt o3.u H)) fun _ w6 hc => Or.elim hc ?_ ?_
 ·refine e1 fun r5 => d2 fun hv hs H => ?_
  subst hv; clear hc
  replace H := oElimN H
  refine sm hO hs fun s hO => ?_
  refine scm H (fun h7 H => ?_) fun h7 H => ?_
  ·refine au ?_
   refine lw H (fun _ σ w => (fun Z => agrees σ [(4, .pointer (some ⟨B2, 0, none⟩)), (6, .pointer none)] ∧ Owns w0.heap.size w Z A ∧ Fr (bl []) w0 (bl Z) w) [.blk B2 (.cells #[.int .i64 (0 : Int), .bool false, .slice none 0 0, .slice none 0 0, .slice none 0 0, .slice none 0 0, .slice none 0 0, .slice none 0 0, .int .i64 (0 : Int)] 123 (0, 0))]) ⟨agr, hO, fr⟩ ?_
   refine fun X1 => fun _ => fun H hX1 σ w8 => d2 fun hag hO hB => ?_
   refine Go1.keep _ hag ?_
   revert hO; repeat (rename Owns _ _ _ _ => q; clear q)
   intro hO; repeat (rename Sq _ _ _ _ _ _ => q; clear q)
   refine au ?_
   refine GoR.inl (vs := [.pointer none]) (caps := []) rfl rfl body132 Try.func132 rfl Try.ntmps132 rfl rfl rfl ?_
   intro RhR9 hR9
   refine au ?_
   refine drw 0 [(0, .pure), (1, .pure), (2, .pure), (3, .pure), (4, .stable), (5, .pure), (6, .pure), (7, .pure), (8, .pure), (9, .stable), (10, .pure), (11, .pure), (12, .pure)] hO fun w10 s hO => ?_
   refine au ?_
   exact (H).elim
  refine au ?_
  refine zo (J0a Try.underlying123 ti123 (pl := [(0, 1), (1, 1), (2, 1), (3, 1), (4, 1), (5, 1), (6, 1), (7, 1), (8, 1)]) (vs := []) (cs := #[.int .i64 (0 : Int), .bool false, .slice none 0 0, .slice none 0 0, .slice none 0 0, .slice none 0 0, .slice none 0 0, .slice none 0 0, .int .i64 (0 : Int)]) (by kernel_rfl) rfl (by kernel_rfl)) ?_
  refine sba 0 hO fun w11 s hO => ?_
  refine au ?_
  refine Go1.retC2 Try.func101 rfl rfl (rlb 0 hO) ⟨((⟨(0 : Int), false, ([] : List (List Int)), ([] : List (List Int)), ([] : List Int), ([] : List Int), ([] : List (List Int)), ([] : List Rule), (0 : Int)⟩ : Enum)), _, _, _, _, _, _, _, _, _, _, _, _, _, ?_, frs, (ISl.null _ _ _), (ISl.null _ _ _), (ISl.null _ _ _), (ISl.null _ _ _), (ISl.null _ _ _), (ISl.null _ _ _), H⟩
  exact rfl
 refine e4 fun r4 r5 lG nE => e4 fun nF nG m8 m9 => e4 fun na nb lH lI => e4 fun lJ lK nH nI => e4 fun nJ nc ne nf => e4 fun lL ng nh ni => e4 fun fW sO sP sQ => e4 fun qv qw qz qA => e2 fun qB qC => d1 fun hv => d1 fun hs => d4 fun hN dX dQ dR H => ?_
 subst hv; clear hc
 refine smr hO hs hN fun s hO c => ?_
 replace H := oElimS H
 replace dX := dX.ch c
 replace dQ := dQ.ch c
 replace dR := dR.ch c
 refine scm H (fun h23 H => ?_) fun h23 H => ?_
 ·refine au ?_
  refine lw H (fun (gJ, gK, k2_27, d_28, d_34, d_40, d_44, d_48, jL, d_58, lM, lN, jM) σ w => ∃ n33 p31 c32 lO n39 p37 c38 lP n43 p41 c42 n47 p45 c46 n53 p51 c52 lQ n57 p55 c56 n61 p59 c60 n65 p63 c64 n69 p67 c68, (fun Z => agrees σ [(4, .pointer (some ⟨B2, 0, none⟩)), (6, .pointer (some ⟨lG, 0, none⟩))] ∧ Owns w0.heap.size w Z A ∧ Els (Rp.sl (Rp.int .i64)) (bl Z ++ A) w lO d_28 ∧ Els (Rp.sl (Rp.int .i64)) (bl Z ++ A) w lP d_34 ∧ Els (Rp.sl (Rp.int .i64)) (bl Z ++ A) w lQ d_48 ∧ Fr (bl []) w0 (bl Z) w) [.blk lG (.cells #[.int .i64 gJ, .bool gK, .slice p31 n33 c32, .slice p37 n39 c38, .slice p41 n43 c42, .slice p45 n47 c46, .slice p51 n53 c52, .slice p55 n57 c56, .int .i64 k2_27, .map (some fW), .slice p59 n61 c60, .slice p63 n65 c64, .slice p67 n69 c68] 156 (0, 0)), .row 31 1 p31 n33 c32 lO, .row 31 1 p37 n39 c38 lP, t1 Fl.i 3 p41 n43 c42 d_40, t1 Fl.i 3 p45 n47 c46 d_44, .row 31 1 p51 n53 c52 lQ, t1 (id Fl.fl : Fl rpRule) 185 p55 n57 c56 jL, t1 Fl.str 9 p59 n61 c60 d_58, t1 Fl.i 3 p63 n65 c64 lM, t1 Fl.i 3 p67 n69 c68 lN, .any (mapE (fun a : List UInt8 => Value.string (gstr a)) (fun a : Int => Value.int .i64 a) fW jM), .blk B2 (.cells #[.int .i64 (0 : Int), .bool false, .slice none 0 0, .slice none 0 0, .slice none 0 0, .slice none 0 0, .slice none 0 0, .slice none 0 0, .int .i64 (0 : Int)] 123 (0, 0))]) ⟨_, _, _, _, _, _, _, _, _, _, _, _, _, _, _, _, _, _, _, _, _, _, _, _, _, _, _, _, _, _, agr, hO, dX.u, dQ.u, dR.u, fr⟩ ?_
  refine fun X2 => p1 fun gJ => p1 fun gK => p1 fun k2_27 => p1 fun d_28 => p1 fun d_34 => p1 fun d_40 => p1 fun d_44 => p1 fun d_48 => p1 fun jL => p3 fun d_58 lM lN jM => fun H hX2 σ w24 => e4 fun n33 p31 c32 lO => e4 fun n39 p37 c38 lP => e4 fun n43 p41 c42 n47 => e4 fun p45 c46 n53 p51 => e4 fun c52 lQ n57 p55 => e4 fun c56 n61 p59 c60 => e4 fun n65 p63 c64 n69 => e2 fun p67 c68 => d1 fun hag => d4 fun hO o4 lR o5 hB => ?_
  dsimp only at H
  refine Go1.keep _ hag ?_
  revert hO; repeat (rename Owns _ _ _ _ => q; clear q)
  intro hO; repeat (rename Sq _ _ _ _ _ _ => q; clear q)
  refine au ?_
  refine GoR.inl (vs := [.pointer (some ⟨lG, 0, none⟩)]) (caps := []) rfl rfl body132 Try.func132 rfl Try.ntmps132 rfl rfl rfl ?_
  intro RhR71 hR71
  refine au ?_
  refine drw 0 [(0, .pure), (1, .pure), (2, .pure), (3, .pure), (4, .stable), (5, .pure), (6, .pure), (7, .pure), (8, .pure), (9, .stable), (10, .pure), (11, .pure), (12, .pure)] hO fun w72 s hO => ?_
  refine au ?_
  refine GoQ.pure rfl (J11 Try.underlying23 rfl (Els.neqW lR.u hO 2 rfl)) rfl rfl ?_
  refine scm H (fun h73 H => ?_) fun h73 H => ?_
  ·refine au ?_
   refine Go1.ret1V Try.func132 rfl (show _ = .bool true from rfl) ?_
   refine hR71 _ _ ?_
   refine au ?_
   refine zs (J4J (vs := [.int .i64 gJ, .bool gK, .slice p31 n33 c32, .slice p37 n39 c38, .slice p41 n43 c42, .slice p45 n47 c46, .slice p51 n53 c52, .slice p55 n57 c56, .int .i64 k2_27]) (i := 0) 0 hO rfl rfl Try.underlying123 rfl ti123 rfl) ?_
   refine sba 11 hO fun w74 s hO => ?_
   refine au ?_
   refine sfzR 1 hO o4.u fun s hO wm wn => ?_
   refine sfzR 1 hO lR.u fun s hO wo wq => ?_
   refine sfz 1 hO fun s hO kA kB => ?_
   refine sfz 1 hO fun s hO iL kC => ?_
   refine sfzR 1 hO o5.u fun s hO wr ws => ?_
   refine sfz 1 hO fun s hO lT lU => ?_
   refine Go1.retC2 Try.func101 rfl rfl (rlb 5 hO) ⟨((⟨gJ, gK, d_28, d_34, d_40, d_44, d_48, jL, k2_27⟩ : Enum)), _, _, _, _, _, _, _, _, _, _, _, _, _, ?_, frs, wm.r, wo.r, kA.r, iL.r, wr.r, lT.r, H⟩
   exact (congrArg (fun l => Value.tuple (List.toArray l)) (J02 (congrArg (fun l => Value.agg (List.toArray l)) (J02 rfl (J02 rfl (J02 (congrArg (fun nn => Value.slice p31 nn c32) wn) (J02 (congrArg (fun nn => Value.slice p37 nn c38) wq) (J02 (congrArg (fun nn => Value.slice p41 nn c42) kB) (J02 (congrArg (fun nn => Value.slice p45 nn c46) kC) (J02 (congrArg (fun nn => Value.slice p51 nn c52) ws) (J02 (congrArg (fun nn => Value.slice p55 nn c56) lU) (J02 rfl rfl)))))))))) (J02 rfl rfl)))
  refine au ?_
  refine Go1.ret1V Try.func132 rfl (show _ = .bool false from rfl) ?_
  refine hR71 _ _ ?_
  refine au ?_
  refine sob 11 hO fun sg hO1 => ?_
  refine zcr (J00 body133 rfl (J21 (a0 := (⟨(⟨gJ, gK, d_28, d_34, d_40, d_44, d_48, jL, k2_27⟩ : Enum), jM, d_58, lM, lN⟩ : run)) hO1 o4.u lR.u o5.u H)) fun _ w89 => e4 fun r87 q88 nj nk => e4 fun nr lV lW lX => e4 fun lY kl km kn => e4 fun ko ns nt nu => e4 fun l5 l7 l8 kq => e4 fun l9 ma mb qD => e4 fun qE qF o6 o7 => e4 fun o8 o9 pc pe => d1 fun hv => d1 fun hN90 => d4 fun dS dF dG hF91 H => ?_
  subst hv; clear sg hO1
  refine sjn hO hN90 hF91 fun s hO c => ?_
  replace dS := dS.ch c
  replace dF := dF.ch c
  replace dG := dG.ch c
  refine scm H (fun h92 H => ?_) fun h92 H => ?_
  ·refine au ?_
   exact hX2 _ H _ _ ⟨_, _, _, _, _, _, _, _, _, _, _, _, _, _, _, _, _, _, _, _, _, _, _, _, _, _, _, _, _, _, agr, hO, dS, dF, dG, fr⟩
  refine au ?_
  refine zo (J0a Try.underlying123 ti123 (pl := [(0, 1), (1, 1), (2, 1), (3, 1), (4, 1), (5, 1), (6, 1), (7, 1), (8, 1)]) (vs := []) (cs := #[.int .i64 (0 : Int), .bool false, .slice none 0 0, .slice none 0 0, .slice none 0 0, .slice none 0 0, .slice none 0 0, .slice none 0 0, .int .i64 (0 : Int)]) (by kernel_rfl) rfl (by kernel_rfl)) ?_
  refine sba 11 hO fun w93 s hO => ?_
  refine au ?_
  refine Go1.retC2 Try.func101 rfl rfl (rlb 11 hO) ⟨((⟨(0 : Int), false, ([] : List (List Int)), ([] : List (List Int)), ([] : List Int), ([] : List Int), ([] : List (List Int)), ([] : List Rule), (0 : Int)⟩ : Enum)), _, _, _, _, _, _, _, _, _, _, _, _, _, ?_, frs, (ISl.null _ _ _), (ISl.null _ _ _), (ISl.null _ _ _), (ISl.null _ _ _), (ISl.null _ _ _), (ISl.null _ _ _), H⟩
  exact rfl
 refine au ?_
 refine zo (J0a Try.underlying123 ti123 (pl := [(0, 1), (1, 1), (2, 1), (3, 1), (4, 1), (5, 1), (6, 1), (7, 1), (8, 1)]) (vs := []) (cs := #[.int .i64 (0 : Int), .bool false, .slice none 0 0, .slice none 0 0, .slice none 0 0, .slice none 0 0, .slice none 0 0, .slice none 0 0, .int .i64 (0 : Int)]) (by kernel_rfl) rfl (by kernel_rfl)) ?_
 refine sba 11 hO fun w94 s hO => ?_
 refine au ?_
 refine Go1.retC2 Try.func101 rfl rfl (rlb 11 hO) ⟨((⟨(0 : Int), false, ([] : List (List Int)), ([] : List (List Int)), ([] : List Int), ([] : List Int), ([] : List (List Int)), ([] : List Rule), (0 : Int)⟩ : Enum)), _, _, _, _, _, _, _, _, _, _, _, _, _, ?_, frs, (ISl.null _ _ _), (ISl.null _ _ _), (ISl.null _ _ _), (ISl.null _ _ _), (ISl.null _ _ _), (ISl.null _ _ _), H⟩
 exact rfl
theorem body134 : Body Try.prog 134 := ⟨Try.f134, Try.func134, rfl, by kernel_rfl⟩
theorem J2O {A : List Nat} {w0 : World} {dr : Option Addr} {dD : Nat} {s_ : List Int} {v : Int} (hA : ∀ b ∈ A, b < w0.heap.size) (eK : ISl (Rp.int .i64) A w0 dr dD s_) {K : Int → Prop} (H : J0X s_ v K) :
    CallsV Try.prog 134 #[.slice dr s_.length dD, .int .i64 v] w0 (fun v w' => ∃ (r0 : Int), v = .int .i64 r0 ∧ Same w0 w' ∧ K r0) := by
 refine CallsV.of (l := [.slice dr s_.length dD, .int .i64 v]) Try.func134 rfl Try.ntmps134 rfl ?_
 have hO := Owns.start hA
 have hB := Fr.refl (bl []) w0
 unfold J0X at H
 refine sln0 ?_
 refine au ?_
 refine lw (H eK.bd) (fun k1_2 σ w => (fun Z => agrees σ [(0, .slice dr s_.length dD), (1, .int .i64 v), (7, .int .i64 (s_.length : Int)), (8, .int .i64 (k1_2 : Int))] ∧ Owns w0.heap.size w Z A ∧ Fr (bl []) w0 (bl Z) w) []) ⟨agr, hO, fr⟩ ?_
 refine fun X1 => fun k1_2 => fun H hX1 σ w1 => d2 fun hag hO hB => ?_
 refine Go1.keep _ hag ?_
 refine scm H (fun h3 H => ?_) fun h3 H => ?_
 ·refine sxl hO eK.u H.1 H.2.1 ?_
  have h4 := H.1
  have h5 := H.2.1
  refine scm H.2.2 (fun h6 H => ?_) fun h6 H => ?_
  ·refine au ?_
   refine Go1.ret1 Try.func134 rfl ⟨_, ?_, frs, H⟩
   exact rfl
  refine sinc (natbd h3 eK.bd) ?_
  refine au ?_
  exact hX1 _ H _ _ ⟨agr, hO, fr⟩
 refine au ?_
 refine Go1.ret1 Try.func134 rfl ⟨_, ?_, frs, H⟩
 exact rfl
theorem body102 : Body Try.prog 102 := ⟨Try.f102, Try.func102, rfl, by kernel_rfl⟩
theorem J2c {A : List Nat} {w0 : World} {dr : Option Addr} {dD : Nat} {s_ : List Int} {v : Int} (hA : ∀ b ∈ A, b < w0.heap.size) (eK : ISl (Rp.int .i64) A w0 dr dD s_) {K : Bool → Prop} (H : J0l s_ v K) :
    CallsV Try.prog 102 #[.slice dr s_.length dD, .int .i64 v] w0 (fun v w' => ∃ (r0 : Bool), v = .bool r0 ∧ Same w0 w' ∧ K r0) := by
 refine CallsV.of (l := [.slice dr s_.length dD, .int .i64 v]) Try.func102 rfl Try.ntmps102 rfl ?_
 have hO := Owns.start hA
 have hB := Fr.refl (bl []) w0
 unfold J0l at H
 refine au ?_
 refine zcr (J00 body134 rfl (J2O hO.lt eK.u H)) fun _ w2 => e1 fun r1 => sc0 hO fun s hO => fun H => ?_
 refine scm H (fun h3 H => ?_) fun h3 H => ?_
 ·refine au ?_
  refine Go1.ret1 Try.func102 rfl ⟨_, ?_, frs, H⟩
  exact rfl
 refine au ?_
 refine Go1.ret1 Try.func102 rfl ⟨_, ?_, frs, H⟩
 exact rfl
theorem body103 : Body Try.prog 103 := ⟨Try.f103, Try.func103, rfl, by kernel_rfl⟩
theorem J22 {A : List Nat} {w0 : World} {fH p_f : Option Addr} {fI c_f : Nat} {p : part} {f : List Int} (hA : ∀ b ∈ A, b < w0.heap.size) (kg : ISl (Rp.bool) A w0 fH fI p.final) (h_f : ISl (Rp.int .i64) A w0 p_f c_f f) {K : Bool → Prop} (H : J0m p f K) :
    CallsV Try.prog 103 #[.agg #[.int .i64 p.start, .slice fH p.final.length fI, .int .i64 p.shift], .slice p_f f.length c_f] w0 (fun v w' => ∃ (r0 : Bool), v = .bool r0 ∧ Same w0 w' ∧ K r0) := by
 refine CallsV.of (l := [.agg #[.int .i64 p.start, .slice fH p.final.length fI, .int .i64 p.shift], .slice p_f f.length c_f]) Try.func103 rfl Try.ntmps103 rfl ?_
 have hO := Owns.start hA
 have hB := Fr.refl (bl []) w0
 unfold J0m at H
 refine sbx hO fun w1 B2 s hO => ?_
 refine au ?_
 refine drw 0 [(0, .pure), (1, .stable), (2, .pure), (3, .pure), (4, .stable), (5, .pure), (6, .stable), (7, .pure), (8, .stable), (9, .pure), (10, .pure), (11, .stable), (12, .pure)] hO fun w4 s hO => ?_
 refine sxl hO h_f.u H.1 H.2.1 ?_
 refine au ?_
 have h5 := H.1
 have h6 := H.2.1
 replace H := H.2.2
 obtain ⟨h7, H⟩ := H
 refine GoQ.pure rfl (J3A rfl rfl (wrap_i64 h7)) rfl rfl ?_
 refine sxl hO kg.u H.1 H.2.1 ?_
 refine au ?_
 refine Go1.ret1 Try.func103 rfl ⟨_, ?_, frs, H.2.2⟩
 exact rfl
end Sg
