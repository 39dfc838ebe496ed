/- -/
import Derived.Test.YtdcibmiaiijjpaaVd
import Derived.Test.YtdcibmiaiijjpaaSort
import Derived.Test.YtdcibmiaiijjpaaWBox
namespace Sg
open Go Go.RowKit Go.Proofs
set_option linter.unusedVariables false
set_option linter.unusedSimpArgs false
set_option maxRecDepth 100000
set_option maxHeartbeats 4000000
theorem body34 : Body Try.prog 34 := ⟨Try.f34, Try.func34, rfl, by kernel_rfl⟩
theorem body14 : Body Try.prog 14 := ⟨Try.f14, Try.func14, rfl, by kernel_rfl⟩
theorem J4R {A : List Nat} {w0 : World} {bu : Option Addr} {bw : Nat} {a0 : List (List Int)} {a1 : Int} (hA : ∀ b ∈ A, b < w0.heap.size) (ai : ISl (Rp.sl (Rp.int .i64)) A w0 bu bw a0) {K : Box → Int → Prop} (H : J3j a0 a1 K) :
    CallsV Try.prog 14 #[.slice bu a0.length bw, .int .i64 a1] w0 (fun v w' => ∃ (r0 : Box), ∃ (r1 : Int), ∃ (k9 : Option Addr), ∃ (ld : Nat), ∃ (lg : Option Addr), ∃ (li : Nat), ∃ (kl : Option Addr), ∃ (km : Nat), ∃ (jt : Option Addr), ∃ (ju : Nat), v = .tuple #[.agg #[.slice k9 r0.Rows.length ld, .slice lg r0.Cols.length li, .slice kl r0.Cells.length km, .slice jt r0.Groups.length ju], .int .i64 r1] ∧ Same w0 w' ∧ ISl (Rp.int .i64) A w' k9 ld r0.Rows ∧ ISl (Rp.int .i64) A w' lg li r0.Cols ∧ ISl (Rp.sl (Rp.sl (Rp.int .i64))) A w' kl km r0.Cells ∧ ISl (Rp.sl (Rp.bool)) A w' jt ju r0.Groups ∧ K r0 r1) := by
 refine CallsV.of (l := [.slice bu a0.length bw, .int .i64 a1]) Try.func14 rfl Try.ntmps14 rfl ?_
 have hO := Owns.start hA
 have hB := Fr.refl (bl []) w0
 unfold J3j at H
 replace ai := ai.ch (Ch.start A w0)
 refine Go1.seq ?_
 refine Go1.cut [(0, .slice bu a0.length bw), (1, .int .i64 a1)] ⟨rfl, rfl, trivial⟩ ?_
 intro σ _
 refine Go1.region ?_
 have hobt := oalloc (t := 35) (cs := #[.slice none 0 0, .slice none 0 0, .slice none 0 0, .slice none 0 0]) ti35 hO rfl
 obtain ⟨w1, B2, sr, hs4, Be⟩ := hobt
 refine GoR.op Be rfl rfl ?_
 replace hO := sr.own
 replace ai := ai.ch sr.ch
 replace hB := hB.trans sr.fr
 refine GoR.op ((J05 rfl) _) rfl rfl ?_
 refine GoR.nil ?_
 refine Go1.seq ?_
 refine Go1.seq ?_
 refine Go1.region ?_
 refine GoR.op ((J00 rfl) _) rfl rfl ?_
 refine GoR.call (J04 body24 rfl (J2y hO.lt ai H)) rfl rfl ?_
 rintro v11 w8 ⟨r7, rfl, hs9, H⟩
 have qh := Stp.same hO hs9
 replace hO := qh.own
 replace ai := ai.ch qh.ch
 replace hB := hB.trans qh.fr
 refine GoR.op ((J05 rfl) _) rfl rfl ?_
 refine GoR.nil ?_
 refine Go1.seq ?_
 refine Go1.region ?_
 refine GoR.op ((J00 rfl) _) rfl rfl ?_
 by_cases h13 : r7 = (0 : Int)
 ·replace H := ifp h13 H
  refine GoR.op ((fun w => opB (J4d rfl rfl w) (ndT h13)) _) rfl rfl ?_
  refine GoR.nil ?_
  refine Go1.condF rfl rfl ?_
  refine Go1.skip ?_
  refine Go1.seq ?_
  refine Go1.region ?_
  refine GoR.op ((J00 rfl) _) rfl rfl ?_
  refine GoR.call (J04 body9 rfl (J1f hO.lt ai H)) rfl rfl ?_
  rintro v18 w15 ⟨r14, av, aw, ax, ay, am, ao, az, aA, aj, ak, rfl, Bf, ad, ae, ab, af, aa, H⟩
  have jV := Stp.same hO Bf
  replace hO := jV.own
  replace ai := ai.ch jV.ch
  replace hB := hB.trans jV.fr
  have hobt := oalloc (t := 29) (cs := #[.slice none 0 0, .slice none 0 0, .slice none 0 0, .slice none 0 0, .slice none 0 0]) ti29 hO rfl
  obtain ⟨w20, B21, kB, D9, qi⟩ := hobt
  refine GoR.op qi rfl rfl ?_
  replace hO := kB.own
  replace ai := ai.ch kB.ch
  replace ad := ad.ch kB.ch
  replace ae := ae.ch kB.ch
  replace ab := ab.ch kB.ch
  replace af := af.ch kB.ch
  replace aa := aa.ch kB.ch
  replace hB := hB.trans kB.fr
  have hobt := J2k (us := [.slice av r14.R.length aw, .slice ax r14.L.length ay, .slice am r14.J.length ao, .slice az r14.H.length aA, .slice aj r14.Below.length ak]) (o := 0) (cs' := #[.slice av r14.R.length aw, .slice ax r14.L.length ay, .slice am r14.J.length ao, .slice az r14.H.length aA, .slice aj r14.Below.length ak]) 0 hO rfl rfl (Nat.le_of_ble_eq_true rfl) rfl
  obtain ⟨w26, jW, xH⟩ := hobt
  refine GoR.op (xH ti29 (by exact rfl) (by exact rfl) rfl) rfl rfl ?_
  replace hO := jW.own
  replace ai := ai.ch jW.ch
  replace ad := ad.ch jW.ch
  replace ae := ae.ch jW.ch
  replace ab := ab.ch jW.ch
  replace af := af.ch jW.ch
  replace aa := aa.ch jW.ch
  replace hB := hB.trans jW.fr
  refine GoR.nil ?_
  refine Go1.seq ?_
  refine Go1.seq ?_
  refine Go1.region ?_
  refine GoR.op ((J00 rfl) _) rfl rfl ?_
  by_cases h29 : a1 < (0 : Int)
  ·replace H := ifp h29 H
   refine GoR.op ((fun w => opB (J0w rfl rfl w) (decide_eq_true h29)) _) rfl rfl ?_
   refine GoR.op ((J00 rfl) _) rfl rfl ?_
   refine GoR.pass rfl rfl ?_
   refine GoR.pass rfl rfl ?_
   refine GoR.pass rfl rfl ?_
   refine GoR.pass rfl rfl ?_
   refine GoR.pass rfl rfl ?_
   refine GoR.op ((J1J rfl rfl rfl) _) rfl rfl ?_
   refine GoR.nil ?_
   refine Go1.condT rfl rfl ?_
   refine Go1.seq ?_
   refine Go1.cut [(4, .pointer (some ⟨B2, 0, none⟩))] ⟨rfl, trivial⟩ ?_
   intro σ _
   refine Go1.region ?_
   refine GoR.op ((J1I Try.underlying35 ti35 (pl := [(0, 1), (1, 1), (2, 1), (3, 1)]) (vs := []) (cs := #[.slice none 0 0, .slice none 0 0, .slice none 0 0, .slice none 0 0]) (by kernel_rfl) rfl (by kernel_rfl)) _) rfl rfl ?_
   have hobt := J2k (us := [.slice none 0 0, .slice none 0 0, .slice none 0 0, .slice none 0 0]) (o := 0) (cs' := #[.slice none 0 0, .slice none 0 0, .slice none 0 0, .slice none 0 0]) 1 hO rfl rfl (Nat.le_of_ble_eq_true rfl) rfl
   obtain ⟨w30, kG, qj⟩ := hobt
   refine GoR.op (qj ti35 (by exact rfl) (by exact rfl) rfl) rfl rfl ?_
   replace hO := kG.own
   replace ai := ai.ch kG.ch
   replace ad := ad.ch kG.ch
   replace ae := ae.ch kG.ch
   replace ab := ab.ch kG.ch
   replace af := af.ch kG.ch
   replace aa := aa.ch kG.ch
   replace hB := hB.trans kG.fr
   refine GoR.op ((J05 rfl) _) rfl rfl ?_
   refine GoR.nil ?_
   refine Go1.retC2 Try.func14 rfl rfl (J2d (vs := [.slice none 0 0, .slice none 0 0, .slice none 0 0, .slice none 0 0]) 1 hO rfl rfl Try.underlying35 rfl ti35) ?_
   exact ⟨(⟨([] : List Int), ([] : List Int), ([] : List (List (List Int))), ([] : List (List Bool))⟩ : Box), (1 : Int), none, 0, none, 0, none, 0, none, 0, rfl, hB.same, (ISl.null _ _ _), (ISl.null _ _ _), (ISl.null _ _ _), (ISl.null _ _ _), H⟩
  replace H := ifn h29 H
  refine GoR.op ((fun w => opB (J0w rfl rfl w) (decide_eq_false h29)) _) rfl rfl ?_
  refine GoR.op ((J00 rfl) _) rfl rfl ?_
  refine GoR.op ((J00 rfl) _) rfl rfl ?_
  refine GoR.op ((J03 Try.underlying29 rfl ti27 rfl (by decide)) _) rfl rfl ?_
  refine GoR.op ((oblk (i := 4) 0 hO rfl rfl Try.underlying27 rfl rfl) _ (Same.refl _)) rfl rfl ?_
  refine GoR.op ((J2G Try.underlying27 rfl) _) rfl rfl ?_
  replace H := H aa.bd
  by_cases h33 : (r14.Below.length : Int) ≤ a1
  ·replace H := ifp h33 H
   refine GoR.op ((fun w => opB (J6f rfl rfl w) (decide_eq_true h33)) _) rfl rfl ?_
   refine GoR.op ((J0p rfl rfl rfl) _) rfl rfl ?_
   refine GoR.nil ?_
   refine Go1.condT rfl rfl ?_
   refine Go1.seq ?_
   refine Go1.region ?_
   refine GoR.op ((J1I Try.underlying35 ti35 (pl := [(0, 1), (1, 1), (2, 1), (3, 1)]) (vs := []) (cs := #[.slice none 0 0, .slice none 0 0, .slice none 0 0, .slice none 0 0]) (by kernel_rfl) rfl (by kernel_rfl)) _) rfl rfl ?_
   have hobt := J2k (us := [.slice none 0 0, .slice none 0 0, .slice none 0 0, .slice none 0 0]) (o := 0) (cs' := #[.slice none 0 0, .slice none 0 0, .slice none 0 0, .slice none 0 0]) 1 hO rfl rfl (Nat.le_of_ble_eq_true rfl) rfl
   obtain ⟨w34, lM, qd⟩ := hobt
   refine GoR.op (qd ti35 (by exact rfl) (by exact rfl) rfl) rfl rfl ?_
   replace hO := lM.own
   replace ai := ai.ch lM.ch
   replace ad := ad.ch lM.ch
   replace ae := ae.ch lM.ch
   replace ab := ab.ch lM.ch
   replace af := af.ch lM.ch
   replace aa := aa.ch lM.ch
   replace hB := hB.trans lM.fr
   refine GoR.op ((J05 rfl) _) rfl rfl ?_
   refine GoR.nil ?_
   refine Go1.retC2 Try.func14 rfl rfl (J2d (vs := [.slice none 0 0, .slice none 0 0, .slice none 0 0, .slice none 0 0]) 1 hO rfl rfl Try.underlying35 rfl ti35) ?_
   exact ⟨(⟨([] : List Int), ([] : List Int), ([] : List (List (List Int))), ([] : List (List Bool))⟩ : Box), (1 : Int), none, 0, none, 0, none, 0, none, 0, rfl, hB.same, (ISl.null _ _ _), (ISl.null _ _ _), (ISl.null _ _ _), (ISl.null _ _ _), H⟩
  replace H := ifn h33 H
  refine GoR.op ((fun w => opB (J6f rfl rfl w) (decide_eq_false h33)) _) rfl rfl ?_
  refine GoR.op ((J0p rfl rfl rfl) _) rfl rfl ?_
  refine GoR.nil ?_
  refine Go1.condF rfl rfl ?_
  refine Go1.skip ?_
  refine Go1.seq ?_
  refine Go1.region ?_
  have hobt := oalloc (t := 35) (cs := #[.slice none 0 0, .slice none 0 0, .slice none 0 0, .slice none 0 0]) ti35 hO rfl
  obtain ⟨w37, B38, kI, Ea, qa⟩ := hobt
  refine GoR.op qa rfl rfl ?_
  replace hO := kI.own
  replace ai := ai.ch kI.ch
  replace ad := ad.ch kI.ch
  replace ae := ae.ch kI.ch
  replace ab := ab.ch kI.ch
  replace af := af.ch kI.ch
  replace aa := aa.ch kI.ch
  replace hB := hB.trans kI.fr
  refine GoR.nil ?_
  refine Go1.seq ?_
  refine Go1.seq ?_
  refine Go1.region ?_
  refine GoR.op ((J03 Try.underlying29 rfl ti26 rfl (by decide)) _) rfl rfl ?_
  refine GoR.op ((oblk (i := 2) 1 hO rfl rfl Try.underlying26 rfl rfl) _ (Same.refl _)) rfl rfl ?_
  refine GoR.op ((J2G Try.underlying26 rfl) _) rfl rfl ?_
  replace H := H ab.bd
  refine GoR.op ((J00 rfl) _) rfl rfl ?_
  refine GoR.nil ?_
  refine Go1.block ?_
  have lN := Stp.nil (e := 3) (r := 1) hO
  replace hO := lN.own
  replace ai := ai.ch lN.ch
  replace ad := ad.ch lN.ch
  replace ae := ae.ch lN.ch
  replace ab := ab.ch lN.ch
  replace af := af.ch lN.ch
  replace aa := aa.ch lN.ch
  replace hB := hB.trans lN.fr
  have ss := Els.nil (Rp.int .i64) (bl (.row 3 1 none 0 0 [] :: [.blk B38 (.cells #[.slice none 0 0, .slice none 0 0, .slice none 0 0, .slice none 0 0] 35 (0, 0)), .blk B21 (.cells #[.slice av r14.R.length aw, .slice ax r14.L.length ay, .slice am r14.J.length ao, .slice az r14.H.length aA, .slice aj r14.Below.length ak] 29 (0, 0)), .blk B2 (.cells #[.slice none 0 0, .slice none 0 0, .slice none 0 0, .slice none 0 0] 35 (0, 0))]) ++ A) w37
  have kh := Stp.nil (e := 3) (r := 1) hO
  replace ss := ss.ch kh.ch
  replace hO := kh.own
  replace ai := ai.ch kh.ch
  replace ad := ad.ch kh.ch
  replace ae := ae.ch kh.ch
  replace ab := ab.ch kh.ch
  replace af := af.ch kh.ch
  replace aa := aa.ch kh.ch
  replace hB := hB.trans kh.fr
  have Bg := Els.nil (Rp.int .i64) (bl (.row 3 1 none 0 0 [] :: [.row 3 1 none 0 0 [], .blk B38 (.cells #[.slice none 0 0, .slice none 0 0, .slice none 0 0, .slice none 0 0] 35 (0, 0)), .blk B21 (.cells #[.slice av r14.R.length aw, .slice ax r14.L.length ay, .slice am r14.J.length ao, .slice az r14.H.length aA, .slice aj r14.Below.length ak] 29 (0, 0)), .blk B2 (.cells #[.slice none 0 0, .slice none 0 0, .slice none 0 0, .slice none 0 0] 35 (0, 0))]) ++ A) w37
  refine Go1.loopW (S := Nat × List Int × List Int) (fun s σ w => match s with | (k1_50, d_51, d_57) => ∃ (n56 : Nat), ∃ (p54 : Option Addr), ∃ (c55 : Nat), ∃ (kw : List Value), ∃ (n62 : Nat), ∃ (p60 : Option Addr), ∃ (c61 : Nat), ∃ (kx : List Value), agrees σ [(0, .slice bu a0.length bw), (1, .int .i64 a1), (4, .pointer (some ⟨B2, 0, none⟩)), (7, .pointer (some ⟨B21, 0, none⟩)), (8, .pointer (some ⟨B38, 0, none⟩)), (36, .slice am r14.J.length ao), (37, .int .i64 (r14.J.length : Int)), (38, .int .i64 (k1_50 : Int))] ∧ Owns w0.heap.size w [.row 3 1 p54 n56 c55 kw, .row 3 1 p60 n62 c61 kx, .blk B38 (.cells #[.slice p60 n62 c61, .slice p54 n56 c55, .slice none 0 0, .slice none 0 0] 35 (0, 0)), .blk B21 (.cells #[.slice av r14.R.length aw, .slice ax r14.L.length ay, .slice am r14.J.length ao, .slice az r14.H.length aA, .slice aj r14.Below.length ak] 29 (0, 0)), .blk B2 (.cells #[.slice none 0 0, .slice none 0 0, .slice none 0 0, .slice none 0 0] 35 (0, 0))] A ∧ Els (Rp.int .i64) (bl [.row 3 1 p54 n56 c55 kw, .row 3 1 p60 n62 c61 kx, .blk B38 (.cells #[.slice p60 n62 c61, .slice p54 n56 c55, .slice none 0 0, .slice none 0 0] 35 (0, 0)), .blk B21 (.cells #[.slice av r14.R.length aw, .slice ax r14.L.length ay, .slice am r14.J.length ao, .slice az r14.H.length aA, .slice aj r14.Below.length ak] 29 (0, 0)), .blk B2 (.cells #[.slice none 0 0, .slice none 0 0, .slice none 0 0, .slice none 0 0] 35 (0, 0))] ++ A) w kw d_51 ∧ Els (Rp.int .i64) (bl [.row 3 1 p54 n56 c55 kw, .row 3 1 p60 n62 c61 kx, .blk B38 (.cells #[.slice p60 n62 c61, .slice p54 n56 c55, .slice none 0 0, .slice none 0 0] 35 (0, 0)), .blk B21 (.cells #[.slice av r14.R.length aw, .slice ax r14.L.length ay, .slice am r14.J.length ao, .slice az r14.H.length aA, .slice aj r14.Below.length ak] 29 (0, 0)), .blk B2 (.cells #[.slice none 0 0, .slice none 0 0, .slice none 0 0, .slice none 0 0] 35 (0, 0))] ++ A) w kx d_57 ∧ ISl (Rp.sl (Rp.int .i64)) (bl [.row 3 1 p54 n56 c55 kw, .row 3 1 p60 n62 c61 kx, .blk B38 (.cells #[.slice p60 n62 c61, .slice p54 n56 c55, .slice none 0 0, .slice none 0 0] 35 (0, 0)), .blk B21 (.cells #[.slice av r14.R.length aw, .slice ax r14.L.length ay, .slice am r14.J.length ao, .slice az r14.H.length aA, .slice aj r14.Below.length ak] 29 (0, 0)), .blk B2 (.cells #[.slice none 0 0, .slice none 0 0, .slice none 0 0, .slice none 0 0] 35 (0, 0))] ++ A) w bu bw a0 ∧ ISl (Rp.int .i64) (bl [.row 3 1 p54 n56 c55 kw, .row 3 1 p60 n62 c61 kx, .blk B38 (.cells #[.slice p60 n62 c61, .slice p54 n56 c55, .slice none 0 0, .slice none 0 0] 35 (0, 0)), .blk B21 (.cells #[.slice av r14.R.length aw, .slice ax r14.L.length ay, .slice am r14.J.length ao, .slice az r14.H.length aA, .slice aj r14.Below.length ak] 29 (0, 0)), .blk B2 (.cells #[.slice none 0 0, .slice none 0 0, .slice none 0 0, .slice none 0 0] 35 (0, 0))] ++ A) w av aw r14.R ∧ ISl (Rp.int .i64) (bl [.row 3 1 p54 n56 c55 kw, .row 3 1 p60 n62 c61 kx, .blk B38 (.cells #[.slice p60 n62 c61, .slice p54 n56 c55, .slice none 0 0, .slice none 0 0] 35 (0, 0)), .blk B21 (.cells #[.slice av r14.R.length aw, .slice ax r14.L.length ay, .slice am r14.J.length ao, .slice az r14.H.length aA, .slice aj r14.Below.length ak] 29 (0, 0)), .blk B2 (.cells #[.slice none 0 0, .slice none 0 0, .slice none 0 0, .slice none 0 0] 35 (0, 0))] ++ A) w ax ay r14.L ∧ ISl (Rp.int .i64) (bl [.row 3 1 p54 n56 c55 kw, .row 3 1 p60 n62 c61 kx, .blk B38 (.cells #[.slice p60 n62 c61, .slice p54 n56 c55, .slice none 0 0, .slice none 0 0] 35 (0, 0)), .blk B21 (.cells #[.slice av r14.R.length aw, .slice ax r14.L.length ay, .slice am r14.J.length ao, .slice az r14.H.length aA, .slice aj r14.Below.length ak] 29 (0, 0)), .blk B2 (.cells #[.slice none 0 0, .slice none 0 0, .slice none 0 0, .slice none 0 0] 35 (0, 0))] ++ A) w am ao r14.J ∧ ISl (Rp.int .i64) (bl [.row 3 1 p54 n56 c55 kw, .row 3 1 p60 n62 c61 kx, .blk B38 (.cells #[.slice p60 n62 c61, .slice p54 n56 c55, .slice none 0 0, .slice none 0 0] 35 (0, 0)), .blk B21 (.cells #[.slice av r14.R.length aw, .slice ax r14.L.length ay, .slice am r14.J.length ao, .slice az r14.H.length aA, .slice aj r14.Below.length ak] 29 (0, 0)), .blk B2 (.cells #[.slice none 0 0, .slice none 0 0, .slice none 0 0, .slice none 0 0] 35 (0, 0))] ++ A) w az aA r14.H ∧ ISl (Rp.sl (Rp.bool)) (bl [.row 3 1 p54 n56 c55 kw, .row 3 1 p60 n62 c61 kx, .blk B38 (.cells #[.slice p60 n62 c61, .slice p54 n56 c55, .slice none 0 0, .slice none 0 0] 35 (0, 0)), .blk B21 (.cells #[.slice av r14.R.length aw, .slice ax r14.L.length ay, .slice am r14.J.length ao, .slice az r14.H.length aA, .slice aj r14.Below.length ak] 29 (0, 0)), .blk B2 (.cells #[.slice none 0 0, .slice none 0 0, .slice none 0 0, .slice none 0 0] 35 (0, 0))] ++ A) w aj ak r14.Below ∧ Fr (bl []) w0 (bl [.row 3 1 p54 n56 c55 kw, .row 3 1 p60 n62 c61 kx, .blk B38 (.cells #[.slice p60 n62 c61, .slice p54 n56 c55, .slice none 0 0, .slice none 0 0] 35 (0, 0)), .blk B21 (.cells #[.slice av r14.R.length aw, .slice ax r14.L.length ay, .slice am r14.J.length ao, .slice az r14.H.length aA, .slice aj r14.Below.length ak] 29 (0, 0)), .blk B2 (.cells #[.slice none 0 0, .slice none 0 0, .slice none 0 0, .slice none 0 0] 35 (0, 0))]) w) H ⟨0, none, 0, [], 0, none, 0, [], ⟨rfl, rfl, rfl, rfl, rfl, rfl, rfl, rfl, trivial⟩, hO, Bg, ss, ai, ad, ae, ab, af, aa, hB⟩ ?_
  intro X1
  refine prE fun k1_50 => prE fun d_51 => fun d_57 => ?_
  intro H hX1 σ w49
  refine exE fun n56 => exE fun p54 => exE fun c55 => exE fun kw => exE fun n62 => exE fun p60 => exE fun c61 => exE fun kx => andE fun hag => andE fun hO => andE fun bM => andE fun l7 => andE fun ai => andE fun ad => andE fun ae => andE fun ab => andE fun af => andE fun aa => fun hB => ?_
  dsimp only at H
  refine Go1.keep [(0, .slice bu a0.length bw), (1, .int .i64 a1), (4, .pointer (some ⟨B2, 0, none⟩)), (7, .pointer (some ⟨B21, 0, none⟩)), (8, .pointer (some ⟨B38, 0, none⟩)), (36, .slice am r14.J.length ao), (37, .int .i64 (r14.J.length : Int)), (38, .int .i64 (k1_50 : Int))] hag ?_
  refine Go1.seq ?_
  refine Go1.region ?_
  by_cases h63 : (k1_50 : Int) < (r14.J.length : Int)
  ·replace H := ifp h63 H
   refine GoR.op ((fun w => opB (J0w rfl rfl w) (decide_eq_true h63)) _) rfl rfl ?_
   refine GoR.nil ?_
   refine Go1.seq ?_
   refine Go1.condT rfl rfl ?_
   refine Go1.skip ?_
   refine Go1.seq ?_
   refine Go1.block ?_
   refine Go1.seq ?_
   refine Go1.region ?_
   refine GoR.op ((J00 rfl) _) rfl rfl ?_
   obtain ⟨h64, H⟩ := H
   obtain ⟨h65, H⟩ := H
   refine GoR.op ((J01 Try.underlying26 ti3 rfl rfl h64 h65 (ab.some_ h64 h65)) _) rfl rfl ?_
   refine GoR.op ((ldInt ab h64 h65 Try.underlying3 rfl rfl) _ (Same.refl _)) rfl rfl ?_
   refine GoR.op ((J05 rfl) _) rfl rfl ?_
   refine GoR.op ((J05 rfl) _) rfl rfl ?_
   refine GoR.nil ?_
   refine Go1.seq ?_
   refine Go1.region ?_
   refine GoR.op ((J00 rfl) _) rfl rfl ?_
   refine GoR.op ((J00 rfl) _) rfl rfl ?_
   by_cases h66 : (ix r14.J (k1_50 : Int)) = a1
   ·replace H := ifp h66 H
    refine GoR.op ((fun w => opB (J0N rfl rfl w) (decide_eq_true h66)) _) rfl rfl ?_
    refine GoR.nil ?_
    refine Go1.condT rfl rfl ?_
    refine Go1.seq ?_
    refine Go1.drawS 4 [(0, .pure), (1, .stable), (2, .pure), (3, .stable), (4, .pure), (5, .pure), (6, .stable), (7, .loud), (8, .last), (9, .pure), (10, .last)] mixed (by kernel_rfl) ?_
    intro w67 Bi
    have kK := Stp.same hO Bi
    replace bM := bM.ch kK.ch
    replace l7 := l7.ch kK.ch
    replace hO := kK.own
    replace ai := ai.ch kK.ch
    replace ad := ad.ch kK.ch
    replace ae := ae.ch kK.ch
    replace ab := ab.ch kK.ch
    replace af := af.ch kK.ch
    replace aa := aa.ch kK.ch
    replace hB := hB.trans kK.fr
    refine GoQ.pure rfl (J03 Try.underlying35 rfl ti26 rfl (by decide)) rfl rfl ?_
    refine GoQ.stable rfl (oblk (i := 0) 2 hO rfl rfl Try.underlying26 rfl rfl) rfl rfl ?_
    refine GoQ.pure rfl (J03 Try.underlying29 rfl ti26 rfl (by decide)) rfl rfl ?_
    refine GoQ.stable rfl (oblk (i := 0) 3 hO rfl rfl Try.underlying26 rfl rfl) rfl rfl ?_
    refine GoQ.pure rfl (J00 rfl) rfl rfl ?_
    obtain ⟨h70, H⟩ := H
    obtain ⟨h71, H⟩ := H
    refine GoQ.pure rfl (J01 Try.underlying26 ti3 rfl rfl h70 h71 (ad.some_ h70 h71)) rfl rfl ?_
    refine GoQ.stable rfl (ldInt ad h70 h71 Try.underlying3 rfl rfl) rfl rfl ?_
    have hobt := J3f (r := Rp.int .i64) (n := 1) (parts := [(0, .int .i64 (ix r14.R (k1_50 : Int)))]) (vs := [.int .i64 (ix r14.R (k1_50 : Int))]) (xs := [(ix r14.R (k1_50 : Int))]) rfl Try.underlying26 ti3 hO (by decide) (by kernel_rfl) (Els.cons rfl rfl (Els.nil _ _ _) (by simp [mx])) rfl
    obtain ⟨w72, p73, kM, Bj, Bk, qk⟩ := hobt
    refine GoQ.loud rfl (qk rfl) Bk rfl rfl ?_
    replace bM := bM.ch kM.ch
    replace l7 := l7.ch kM.ch
    replace hO := kM.own
    replace ai := ai.ch kM.ch
    replace ad := ad.ch kM.ch
    replace ae := ae.ch kM.ch
    replace ab := ab.ch kM.ch
    replace af := af.ch kM.ch
    replace aa := aa.ch kM.ch
    replace hB := hB.trans kM.fr
    have hobt := freeze 0 hO rfl Bj
    obtain ⟨hO1, l8, jr, Bl⟩ := hobt
    dsimp only [eS, eZ] at hO1 l8 jr
    replace ai := ai.ch l8
    replace ad := ad.ch l8
    replace ae := ae.ch l8
    replace ab := ab.ch l8
    replace af := af.ch l8
    replace aa := aa.ch l8
    replace bM := bM.ch l8
    replace l7 := l7.ch l8
    replace hB := hB.trans (Owns.J15 _ _ 0)
    dsimp only [eS, eZ] at hB
    replace hO := hO1; clear hO1
    obtain ⟨h82, H⟩ := H
    have hobt := oapp Try.underlying26 ti3 rfl 1 hO rfl l7 jr Bl h82 (by decide)
    obtain ⟨w83, p84, c85, n9, jk, kn, xI⟩ := hobt
    dsimp only [sS, sZ] at jk kn
    refine GoQ.last rfl (xI (by exact rfl) (by exact rfl)) rfl rfl ?_
    replace bM := bM.ch jk.ch
    replace hO := jk.own
    replace ai := ai.ch jk.ch
    replace ad := ad.ch jk.ch
    replace ae := ae.ch jk.ch
    replace ab := ab.ch jk.ch
    replace af := af.ch jk.ch
    replace aa := aa.ch jk.ch
    replace jr := jr.ch jk.ch
    replace hB := hB.trans jk.fr
    refine GoQ.pure rfl (J03 Try.underlying35 rfl ti26 rfl (by decide)) rfl rfl ?_
    have hobt := J2W (v := .slice p84 (n62 + 1) c85) (i := 0) (cs' := #[.slice p84 (n62 + 1) c85, .slice p54 n56 c55, .slice none 0 0, .slice none 0 0]) 2 hO rfl rfl rfl rfl
    obtain ⟨w91, jX, xJ⟩ := hobt
    dsimp only [sS, sZ] at jX
    refine GoQ.last rfl (xJ Try.underlying26 rfl ti26 (by exact rfl) (by exact rfl)) rfl rfl ?_
    replace bM := bM.ch jX.ch
    replace kn := kn.ch jX.ch
    replace hO := jX.own
    replace ai := ai.ch jX.ch
    replace ad := ad.ch jX.ch
    replace ae := ae.ch jX.ch
    replace ab := ab.ch jX.ch
    replace af := af.ch jX.ch
    replace aa := aa.ch jX.ch
    replace jr := jr.ch jX.ch
    replace hB := hB.trans jX.fr
    refine GoQ.nil ?_
    refine Go1.cut [(0, .slice bu a0.length bw), (1, .int .i64 a1), (4, .pointer (some ⟨B2, 0, none⟩)), (7, .pointer (some ⟨B21, 0, none⟩)), (8, .pointer (some ⟨B38, 0, none⟩)), (9, .int .i64 (k1_50 : Int)), (36, .slice am r14.J.length ao), (37, .int .i64 (r14.J.length : Int)), (38, .int .i64 (k1_50 : Int))] ⟨rfl, rfl, rfl, rfl, rfl, rfl, rfl, rfl, rfl, trivial⟩ ?_
    intro σ _
    refine Go1.drawS 4 [(0, .pure), (1, .stable), (2, .pure), (3, .stable), (4, .pure), (5, .pure), (6, .stable), (7, .loud), (8, .last), (9, .pure), (10, .last)] mixed (by kernel_rfl) ?_
    intro w94 Bm
    have ko := Stp.same hO Bm
    replace bM := bM.ch ko.ch
    replace kn := kn.ch ko.ch
    replace hO := ko.own
    replace ai := ai.ch ko.ch
    replace ad := ad.ch ko.ch
    replace ae := ae.ch ko.ch
    replace ab := ab.ch ko.ch
    replace af := af.ch ko.ch
    replace aa := aa.ch ko.ch
    replace jr := jr.ch ko.ch
    replace hB := hB.trans ko.fr
    refine GoQ.pure rfl (J03 Try.underlying35 rfl ti26 rfl (by decide)) rfl rfl ?_
    refine GoQ.stable rfl (oblk (i := 1) 2 hO rfl rfl Try.underlying26 rfl rfl) rfl rfl ?_
    refine GoQ.pure rfl (J03 Try.underlying29 rfl ti26 rfl (by decide)) rfl rfl ?_
    refine GoQ.stable rfl (oblk (i := 1) 3 hO rfl rfl Try.underlying26 rfl rfl) rfl rfl ?_
    refine GoQ.pure rfl (J00 rfl) rfl rfl ?_
    obtain ⟨h97, H⟩ := H
    obtain ⟨h98, H⟩ := H
    refine GoQ.pure rfl (J01 Try.underlying26 ti3 rfl rfl h97 h98 (ae.some_ h97 h98)) rfl rfl ?_
    refine GoQ.stable rfl (ldInt ae h97 h98 Try.underlying3 rfl rfl) rfl rfl ?_
    have hobt := J3f (r := Rp.int .i64) (n := 1) (parts := [(0, .int .i64 (ix r14.L (k1_50 : Int)))]) (vs := [.int .i64 (ix r14.L (k1_50 : Int))]) (xs := [(ix r14.L (k1_50 : Int))]) rfl Try.underlying26 ti3 hO (by decide) (by kernel_rfl) (Els.cons rfl rfl (Els.nil _ _ _) (by simp [mx])) rfl
    obtain ⟨w99, Eb, iv, lC, xK, vC⟩ := hobt
    refine GoQ.loud rfl (vC rfl) xK rfl rfl ?_
    replace bM := bM.ch iv.ch
    replace kn := kn.ch iv.ch
    replace hO := iv.own
    replace ai := ai.ch iv.ch
    replace ad := ad.ch iv.ch
    replace ae := ae.ch iv.ch
    replace ab := ab.ch iv.ch
    replace af := af.ch iv.ch
    replace aa := aa.ch iv.ch
    replace jr := jr.ch iv.ch
    replace hB := hB.trans iv.fr
    have hobt := freeze 0 hO rfl lC
    obtain ⟨hO1, kN, mW, xL⟩ := hobt
    dsimp only [eS, eZ] at hO1 kN mW
    replace ai := ai.ch kN
    replace ad := ad.ch kN
    replace ae := ae.ch kN
    replace ab := ab.ch kN
    replace af := af.ch kN
    replace aa := aa.ch kN
    replace jr := jr.ch kN
    replace bM := bM.ch kN
    replace kn := kn.ch kN
    replace hB := hB.trans (Owns.J15 _ _ 0)
    dsimp only [eS, eZ] at hB
    replace hO := hO1; clear hO1
    obtain ⟨vD, H⟩ := H
    have hobt := oapp Try.underlying26 ti3 rfl 0 hO rfl bM mW xL vD (by decide)
    obtain ⟨Ec, su, sv, xM, fy, oR, vE⟩ := hobt
    dsimp only [sS, sZ] at fy oR
    refine GoQ.last rfl (vE (by exact rfl) (by exact rfl)) rfl rfl ?_
    replace kn := kn.ch fy.ch
    replace hO := fy.own
    replace ai := ai.ch fy.ch
    replace ad := ad.ch fy.ch
    replace ae := ae.ch fy.ch
    replace ab := ab.ch fy.ch
    replace af := af.ch fy.ch
    replace aa := aa.ch fy.ch
    replace jr := jr.ch fy.ch
    replace mW := mW.ch fy.ch
    replace hB := hB.trans fy.fr
    refine GoQ.pure rfl (J03 Try.underlying35 rfl ti26 rfl (by decide)) rfl rfl ?_
    have hobt := J2W (v := .slice su (n56 + 1) sv) (i := 1) (cs' := #[.slice p84 (n62 + 1) c85, .slice su (n56 + 1) sv, .slice none 0 0, .slice none 0 0]) 2 hO rfl rfl rfl rfl
    obtain ⟨Ed, b7, o6⟩ := hobt
    dsimp only [sS, sZ] at b7
    refine GoQ.last rfl (o6 Try.underlying26 rfl ti26 (by exact rfl) (by exact rfl)) rfl rfl ?_
    replace oR := oR.ch b7.ch
    replace kn := kn.ch b7.ch
    replace hO := b7.own
    replace ai := ai.ch b7.ch
    replace ad := ad.ch b7.ch
    replace ae := ae.ch b7.ch
    replace ab := ab.ch b7.ch
    replace af := af.ch b7.ch
    replace aa := aa.ch b7.ch
    replace jr := jr.ch b7.ch
    replace mW := mW.ch b7.ch
    replace hB := hB.trans b7.fr
    refine GoQ.nil ?_
    refine Go1.inBlock ?_
    refine Go1.region ?_
    refine GoR.op ((J06 rfl rfl (wrap_i64 (natbd h63 ab.bd))) _) rfl rfl ?_
    refine GoR.op ((J00 rfl) _) rfl rfl ?_
    refine GoR.nil ?_
    exact hX1 _ H _ _ ⟨n56 + 1, su, sv, xM, n62 + 1, p84, c85, n9, ⟨rfl, rfl, rfl, rfl, rfl, rfl, rfl, rfl, trivial⟩, hO, oR, kn, ai, ad, ae, ab, af, aa, hB⟩
   replace H := ifn h66 H
   refine GoR.op ((fun w => opB (J0N rfl rfl w) (decide_eq_false h66)) _) rfl rfl ?_
   refine GoR.nil ?_
   refine Go1.condF rfl rfl ?_
   refine Go1.skip ?_
   refine Go1.inBlock ?_
   refine Go1.region ?_
   refine GoR.op ((J06 rfl rfl (wrap_i64 (natbd h63 ab.bd))) _) rfl rfl ?_
   refine GoR.op ((J00 rfl) _) rfl rfl ?_
   refine GoR.nil ?_
   exact hX1 _ H _ _ ⟨n56, p54, c55, kw, n62, p60, c61, kx, ⟨rfl, rfl, rfl, rfl, rfl, rfl, rfl, rfl, trivial⟩, hO, bM, l7, ai, ad, ae, ab, af, aa, hB⟩
  replace H := ifn h63 H
  refine GoR.op ((fun w => opB (J0w rfl rfl w) (decide_eq_false h63)) _) rfl rfl ?_
  refine GoR.nil ?_
  refine Go1.seq ?_
  refine Go1.condF rfl rfl ?_
  refine Go1.exit rfl ?_
  refine Go1.seq ?_
  refine Go1.region ?_
  refine GoR.op ((J03 Try.underlying35 rfl ti26 rfl (by decide)) _) rfl rfl ?_
  refine GoR.op ((oblk (i := 0) 2 hO rfl rfl Try.underlying26 rfl rfl) _ (Same.refl _)) rfl rfl ?_
  obtain ⟨Bn, H⟩ := H
  refine GoR.call (osort body34 1 hO rfl l7 Bn rfl) rfl rfl ?_
  rintro Ee Ef ⟨rfl, mX, jv, lO⟩
  dsimp only [sS, sZ] at jv lO
  replace bM := bM.ch jv.ch
  replace hO := jv.own
  replace ai := ai.ch jv.ch
  replace ad := ad.ch jv.ch
  replace ae := ae.ch jv.ch
  replace ab := ab.ch jv.ch
  replace af := af.ch jv.ch
  replace aa := aa.ch jv.ch
  replace hB := hB.trans jv.fr
  refine GoR.nil ?_
  refine Go1.seq ?_
  refine Go1.region ?_
  refine GoR.op ((J03 Try.underlying35 rfl ti26 rfl (by decide)) _) rfl rfl ?_
  refine GoR.op ((oblk (i := 1) 2 hO rfl rfl Try.underlying26 rfl rfl) _ (Same.refl _)) rfl rfl ?_
  obtain ⟨vo, H⟩ := H
  refine GoR.call (osort body34 0 hO rfl bM vo rfl) rfl rfl ?_
  rintro Eg Eh ⟨rfl, bY, jw, lQ⟩
  dsimp only [sS, sZ] at jw lQ
  replace lO := lO.ch jw.ch
  replace hO := jw.own
  replace ai := ai.ch jw.ch
  replace ad := ad.ch jw.ch
  replace ae := ae.ch jw.ch
  replace ab := ab.ch jw.ch
  replace af := af.ch jw.ch
  replace aa := aa.ch jw.ch
  replace hB := hB.trans jw.fr
  refine GoR.nil ?_
  refine Go1.seq ?_
  refine Go1.cut [(0, .slice bu a0.length bw), (1, .int .i64 a1), (4, .pointer (some ⟨B2, 0, none⟩)), (7, .pointer (some ⟨B21, 0, none⟩)), (8, .pointer (some ⟨B38, 0, none⟩))] ⟨rfl, rfl, rfl, rfl, rfl, trivial⟩ ?_
  intro σ _
  refine Go1.drawT (ok := fun _ => True) (CSv.tr [(some ⟨B38, 0, none⟩), (some ⟨B38, 1, none⟩)]) [5, 7, 9] 10 (.qp 0 (.qs 1 (.qp 3 (.qs 4 (.alt 2 (.qp 6 (.alt 5 (.alt 7 (.qp 8 (.alt 9 .nil .fin)) .fin) .fin)) .fin))))) mixed (by kernel_rfl) ?_
  intro oc xN
  have jx := Stp.same hO xN
  replace lQ := lQ.ch jx.ch
  replace lO := lO.ch jx.ch
  replace hO := jx.own
  replace ai := ai.ch jx.ch
  replace ad := ad.ch jx.ch
  replace ae := ae.ch jx.ch
  replace ab := ab.ch jx.ch
  replace af := af.ch jx.ch
  replace aa := aa.ch jx.ch
  replace hB := hB.trans jx.fr
  refine GoT.pure rfl (J03 Try.underlying35 rfl ti26 rfl (by decide)) rfl rfl ?_
  refine GoT.stable rfl (loadV (.head _) rfl (J0h 2 hO rfl rfl) Try.underlying26 rfl rfl) rfl rfl ?_
  refine GoT.pure rfl (J03 Try.underlying35 rfl ti26 rfl (by decide)) rfl rfl ?_
  refine GoT.stable rfl (loadV (.tail _ (.head _)) rfl (J0h 2 hO rfl rfl) Try.underlying26 rfl rfl) rfl rfl ?_
  skip
  have iw := Stp.front 1 hO rfl
  dsimp only [eS, eZ] at iw
  replace lQ := lQ.ch iw.ch
  replace lO := lO.ch iw.ch
  replace hO := iw.own
  replace ai := ai.ch iw.ch
  replace ad := ad.ch iw.ch
  replace ae := ae.ch iw.ch
  replace ab := ab.ch iw.ch
  replace af := af.ch iw.ch
  replace aa := aa.ch iw.ch
  replace hB := hB.trans iw.fr
  have ql : Owns w0.heap.size oc ([.row 3 1 p60 n62 c61 mX] ++ [.row 3 1 p54 n56 c55 bY, .blk B38 (.cells #[.slice p60 n62 c61, .slice p54 n56 c55, .slice none 0 0, .slice none 0 0] 35 (0, 0)), .blk B21 (.cells #[.slice av r14.R.length aw, .slice ax r14.L.length ay, .slice am r14.J.length ao, .slice az r14.H.length aA, .slice aj r14.Below.length ak] 29 (0, 0)), .blk B2 (.cells #[.slice none 0 0, .slice none 0 0, .slice none 0 0, .slice none 0 0] 35 (0, 0))]) A := hO
  have xO := Owns.split ql
  have hca139 : Ch (bl [.row 3 1 p60 n62 c61 mX, .row 3 1 p54 n56 c55 bY, .blk B38 (.cells #[.slice p60 n62 c61, .slice p54 n56 c55, .slice none 0 0, .slice none 0 0] 35 (0, 0)), .blk B21 (.cells #[.slice av r14.R.length aw, .slice ax r14.L.length ay, .slice am r14.J.length ao, .slice az r14.H.length aA, .slice aj r14.Below.length ak] 29 (0, 0)), .blk B2 (.cells #[.slice none 0 0, .slice none 0 0, .slice none 0 0, .slice none 0 0] 35 (0, 0))] ++ A) oc (bl [.row 3 1 p60 n62 c61 mX] ++ (bl [.row 3 1 p54 n56 c55 bY, .blk B38 (.cells #[.slice p60 n62 c61, .slice p54 n56 c55, .slice none 0 0, .slice none 0 0] 35 (0, 0)), .blk B21 (.cells #[.slice av r14.R.length aw, .slice ax r14.L.length ay, .slice am r14.J.length ao, .slice az r14.H.length aA, .slice aj r14.Below.length ak] 29 (0, 0)), .blk B2 (.cells #[.slice none 0 0, .slice none 0 0, .slice none 0 0, .slice none 0 0] 35 (0, 0))] ++ A)) oc := Ch.assoc' [.row 3 1 p60 n62 c61 mX] [.row 3 1 p54 n56 c55 bY, .blk B38 (.cells #[.slice p60 n62 c61, .slice p54 n56 c55, .slice none 0 0, .slice none 0 0] 35 (0, 0)), .blk B21 (.cells #[.slice av r14.R.length aw, .slice ax r14.L.length ay, .slice am r14.J.length ao, .slice az r14.H.length aA, .slice aj r14.Below.length ak] 29 (0, 0)), .blk B2 (.cells #[.slice none 0 0, .slice none 0 0, .slice none 0 0, .slice none 0 0] 35 (0, 0))] A oc
  refine GoT.call rfl (J04 body35 rfl (J1l xO (lO.ch hca139) H)) (fun v lF hr => by obtain ⟨_, _, hN, hF, _, _⟩ := hr; have hst : Stp w0.heap.size A oc [.row 3 1 p60 n62 c61 mX, .row 3 1 p54 n56 c55 bY, .blk B38 (.cells #[.slice p60 n62 c61, .slice p54 n56 c55, .slice none 0 0, .slice none 0 0] 35 (0, 0)), .blk B21 (.cells #[.slice av r14.R.length aw, .slice ax r14.L.length ay, .slice am r14.J.length ao, .slice az r14.H.length aA, .slice aj r14.Below.length ak] 29 (0, 0)), .blk B2 (.cells #[.slice none 0 0, .slice none 0 0, .slice none 0 0, .slice none 0 0] 35 (0, 0))] lF [.row 3 1 p54 n56 c55 bY, .blk B38 (.cells #[.slice p60 n62 c61, .slice p54 n56 c55, .slice none 0 0, .slice none 0 0] 35 (0, 0)), .blk B21 (.cells #[.slice av r14.R.length aw, .slice ax r14.L.length ay, .slice am r14.J.length ao, .slice az r14.H.length aA, .slice aj r14.Below.length ak] 29 (0, 0)), .blk B2 (.cells #[.slice none 0 0, .slice none 0 0, .slice none 0 0, .slice none 0 0] 35 (0, 0))] := Stp.join ql hN hF; exact (CSv.cons (cs_eq (J0h 2 hO rfl rfl) (J0h 1 hst.own rfl rfl)) (CSv.cons (cs_eq (J0h 2 hO rfl rfl) (J0h 1 hst.own rfl rfl)) (CSv.nil _ _)))) rfl rfl ?_
  intro Ei lF
  refine exE fun r140 => andE fun hv147 => andE fun hN143 => andE fun hF144 => andE fun ag => fun H => ?_
  subst hv147
  have kq : Stp w0.heap.size A oc [.row 3 1 p60 n62 c61 mX, .row 3 1 p54 n56 c55 bY, .blk B38 (.cells #[.slice p60 n62 c61, .slice p54 n56 c55, .slice none 0 0, .slice none 0 0] 35 (0, 0)), .blk B21 (.cells #[.slice av r14.R.length aw, .slice ax r14.L.length ay, .slice am r14.J.length ao, .slice az r14.H.length aA, .slice aj r14.Below.length ak] 29 (0, 0)), .blk B2 (.cells #[.slice none 0 0, .slice none 0 0, .slice none 0 0, .slice none 0 0] 35 (0, 0))] lF [.row 3 1 p54 n56 c55 bY, .blk B38 (.cells #[.slice p60 n62 c61, .slice p54 n56 c55, .slice none 0 0, .slice none 0 0] 35 (0, 0)), .blk B21 (.cells #[.slice av r14.R.length aw, .slice ax r14.L.length ay, .slice am r14.J.length ao, .slice az r14.H.length aA, .slice aj r14.Below.length ak] 29 (0, 0)), .blk B2 (.cells #[.slice none 0 0, .slice none 0 0, .slice none 0 0, .slice none 0 0] 35 (0, 0))] := Stp.join ql hN143 hF144
  replace lQ := lQ.ch kq.ch
  replace hO := kq.own
  replace ai := ai.ch kq.ch
  replace ad := ad.ch kq.ch
  replace ae := ae.ch kq.ch
  replace ab := ab.ch kq.ch
  replace af := af.ch kq.ch
  replace aa := aa.ch kq.ch
  replace hB := hB.trans kq.fr
  have hca148 : Ch (bl [] ++ (bl [.row 3 1 p54 n56 c55 bY, .blk B38 (.cells #[.slice p60 n62 c61, .slice p54 n56 c55, .slice none 0 0, .slice none 0 0] 35 (0, 0)), .blk B21 (.cells #[.slice av r14.R.length aw, .slice ax r14.L.length ay, .slice am r14.J.length ao, .slice az r14.H.length aA, .slice aj r14.Below.length ak] 29 (0, 0)), .blk B2 (.cells #[.slice none 0 0, .slice none 0 0, .slice none 0 0, .slice none 0 0] 35 (0, 0))] ++ A)) lF (bl [.row 3 1 p54 n56 c55 bY, .blk B38 (.cells #[.slice p60 n62 c61, .slice p54 n56 c55, .slice none 0 0, .slice none 0 0] 35 (0, 0)), .blk B21 (.cells #[.slice av r14.R.length aw, .slice ax r14.L.length ay, .slice am r14.J.length ao, .slice az r14.H.length aA, .slice aj r14.Below.length ak] 29 (0, 0)), .blk B2 (.cells #[.slice none 0 0, .slice none 0 0, .slice none 0 0, .slice none 0 0] 35 (0, 0))] ++ A) lF := Ch.assoc [] [.row 3 1 p54 n56 c55 bY, .blk B38 (.cells #[.slice p60 n62 c61, .slice p54 n56 c55, .slice none 0 0, .slice none 0 0] 35 (0, 0)), .blk B21 (.cells #[.slice av r14.R.length aw, .slice ax r14.L.length ay, .slice am r14.J.length ao, .slice az r14.H.length aA, .slice aj r14.Below.length ak] 29 (0, 0)), .blk B2 (.cells #[.slice none 0 0, .slice none 0 0, .slice none 0 0, .slice none 0 0] 35 (0, 0))] A lF
  replace ag := ag.ch hca148
  refine GoT.pure rfl (J03 Try.underlying35 rfl ti26 rfl (by decide)) rfl rfl ?_
  skip
  have u0 : Owns w0.heap.size lF ([.row 3 1 p54 n56 c55 bY] ++ [.blk B38 (.cells #[.slice p60 n62 c61, .slice p54 n56 c55, .slice none 0 0, .slice none 0 0] 35 (0, 0)), .blk B21 (.cells #[.slice av r14.R.length aw, .slice ax r14.L.length ay, .slice am r14.J.length ao, .slice az r14.H.length aA, .slice aj r14.Below.length ak] 29 (0, 0)), .blk B2 (.cells #[.slice none 0 0, .slice none 0 0, .slice none 0 0, .slice none 0 0] 35 (0, 0))]) A := hO
  have xP := Owns.split u0
  have hca151 : Ch (bl [.row 3 1 p54 n56 c55 bY, .blk B38 (.cells #[.slice p60 n62 c61, .slice p54 n56 c55, .slice none 0 0, .slice none 0 0] 35 (0, 0)), .blk B21 (.cells #[.slice av r14.R.length aw, .slice ax r14.L.length ay, .slice am r14.J.length ao, .slice az r14.H.length aA, .slice aj r14.Below.length ak] 29 (0, 0)), .blk B2 (.cells #[.slice none 0 0, .slice none 0 0, .slice none 0 0, .slice none 0 0] 35 (0, 0))] ++ A) lF (bl [.row 3 1 p54 n56 c55 bY] ++ (bl [.blk B38 (.cells #[.slice p60 n62 c61, .slice p54 n56 c55, .slice none 0 0, .slice none 0 0] 35 (0, 0)), .blk B21 (.cells #[.slice av r14.R.length aw, .slice ax r14.L.length ay, .slice am r14.J.length ao, .slice az r14.H.length aA, .slice aj r14.Below.length ak] 29 (0, 0)), .blk B2 (.cells #[.slice none 0 0, .slice none 0 0, .slice none 0 0, .slice none 0 0] 35 (0, 0))] ++ A)) lF := Ch.assoc' [.row 3 1 p54 n56 c55 bY] [.blk B38 (.cells #[.slice p60 n62 c61, .slice p54 n56 c55, .slice none 0 0, .slice none 0 0] 35 (0, 0)), .blk B21 (.cells #[.slice av r14.R.length aw, .slice ax r14.L.length ay, .slice am r14.J.length ao, .slice az r14.H.length aA, .slice aj r14.Below.length ak] 29 (0, 0)), .blk B2 (.cells #[.slice none 0 0, .slice none 0 0, .slice none 0 0, .slice none 0 0] 35 (0, 0))] A lF
  refine GoT.callX rfl (J04 body35 rfl (J1l xP (lQ.ch hca151) H)) rfl rfl rfl ?_
  intro Ej od
  refine exE fun r152 => andE fun hv159 => andE fun hN155 => andE fun hF156 => andE fun ah => fun H => ?_
  subst hv159
  have kr : Stp w0.heap.size A lF [.row 3 1 p54 n56 c55 bY, .blk B38 (.cells #[.slice p60 n62 c61, .slice p54 n56 c55, .slice none 0 0, .slice none 0 0] 35 (0, 0)), .blk B21 (.cells #[.slice av r14.R.length aw, .slice ax r14.L.length ay, .slice am r14.J.length ao, .slice az r14.H.length aA, .slice aj r14.Below.length ak] 29 (0, 0)), .blk B2 (.cells #[.slice none 0 0, .slice none 0 0, .slice none 0 0, .slice none 0 0] 35 (0, 0))] od [.blk B38 (.cells #[.slice p60 n62 c61, .slice p54 n56 c55, .slice none 0 0, .slice none 0 0] 35 (0, 0)), .blk B21 (.cells #[.slice av r14.R.length aw, .slice ax r14.L.length ay, .slice am r14.J.length ao, .slice az r14.H.length aA, .slice aj r14.Below.length ak] 29 (0, 0)), .blk B2 (.cells #[.slice none 0 0, .slice none 0 0, .slice none 0 0, .slice none 0 0] 35 (0, 0))] := Stp.join u0 hN155 hF156
  replace hO := kr.own
  replace ai := ai.ch kr.ch
  replace ad := ad.ch kr.ch
  replace ae := ae.ch kr.ch
  replace ab := ab.ch kr.ch
  replace af := af.ch kr.ch
  replace aa := aa.ch kr.ch
  replace ag := ag.ch kr.ch
  replace hB := hB.trans kr.fr
  have hca160 : Ch (bl [] ++ (bl [.blk B38 (.cells #[.slice p60 n62 c61, .slice p54 n56 c55, .slice none 0 0, .slice none 0 0] 35 (0, 0)), .blk B21 (.cells #[.slice av r14.R.length aw, .slice ax r14.L.length ay, .slice am r14.J.length ao, .slice az r14.H.length aA, .slice aj r14.Below.length ak] 29 (0, 0)), .blk B2 (.cells #[.slice none 0 0, .slice none 0 0, .slice none 0 0, .slice none 0 0] 35 (0, 0))] ++ A)) od (bl [.blk B38 (.cells #[.slice p60 n62 c61, .slice p54 n56 c55, .slice none 0 0, .slice none 0 0] 35 (0, 0)), .blk B21 (.cells #[.slice av r14.R.length aw, .slice ax r14.L.length ay, .slice am r14.J.length ao, .slice az r14.H.length aA, .slice aj r14.Below.length ak] 29 (0, 0)), .blk B2 (.cells #[.slice none 0 0, .slice none 0 0, .slice none 0 0, .slice none 0 0] 35 (0, 0))] ++ A) od := Ch.assoc [] [.blk B38 (.cells #[.slice p60 n62 c61, .slice p54 n56 c55, .slice none 0 0, .slice none 0 0] 35 (0, 0)), .blk B21 (.cells #[.slice av r14.R.length aw, .slice ax r14.L.length ay, .slice am r14.J.length ao, .slice az r14.H.length aA, .slice aj r14.Below.length ak] 29 (0, 0)), .blk B2 (.cells #[.slice none 0 0, .slice none 0 0, .slice none 0 0, .slice none 0 0] 35 (0, 0))] A od
  replace ah := ah.ch hca160
  skip
  have hobt := J2W (v := .slice p60 r140.length c61) (i := 0) (cs' := #[.slice p60 r140.length c61, .slice p54 n56 c55, .slice none 0 0, .slice none 0 0]) 0 hO rfl rfl rfl rfl
  obtain ⟨Ek, jy, vF⟩ := hobt
  refine GoT.stepX rfl (vF Try.underlying26 rfl ti26 (by exact rfl) (by exact rfl)) rfl rfl rfl ?_
  replace hO := jy.own
  replace ai := ai.ch jy.ch
  replace ad := ad.ch jy.ch
  replace ae := ae.ch jy.ch
  replace ab := ab.ch jy.ch
  replace af := af.ch jy.ch
  replace aa := aa.ch jy.ch
  replace ag := ag.ch jy.ch
  replace ah := ah.ch jy.ch
  replace hB := hB.trans jy.fr
  refine GoT.pure rfl (J03 Try.underlying35 rfl ti26 rfl (by decide)) rfl rfl ?_
  skip
  have hobt := J2W (v := .slice p54 r152.length c55) (i := 1) (cs' := #[.slice p60 r140.length c61, .slice p54 r152.length c55, .slice none 0 0, .slice none 0 0]) 0 hO rfl rfl rfl rfl
  obtain ⟨El, jz, vG⟩ := hobt
  refine GoT.stepX rfl (vG Try.underlying26 rfl ti26 (by exact rfl) (by exact rfl)) rfl rfl rfl ?_
  replace hO := jz.own
  replace ai := ai.ch jz.ch
  replace ad := ad.ch jz.ch
  replace ae := ae.ch jz.ch
  replace ab := ab.ch jz.ch
  replace af := af.ch jz.ch
  replace aa := aa.ch jz.ch
  replace ag := ag.ch jz.ch
  replace ah := ah.ch jz.ch
  replace hB := hB.trans jz.fr
  refine GoT.nil ?_
  refine Go1.seq ?_
  refine Go1.seq ?_
  refine Go1.region ?_
  refine GoR.op ((J03 Try.underlying35 rfl ti26 rfl (by decide)) _) rfl rfl ?_
  refine GoR.op ((oblk (i := 0) 0 hO rfl rfl Try.underlying26 rfl rfl) _ (Same.refl _)) rfl rfl ?_
  refine GoR.op ((J2G Try.underlying26 rfl) _) rfl rfl ?_
  replace H := H ag.bd
  refine GoR.op ((J00 rfl) _) rfl rfl ?_
  refine GoR.nil ?_
  refine Go1.block ?_
  have jA := t3nil (e := 22) (e1 := 26) (e2 := 3) (hf := (Fl.int .i64)) (ps := fun _ => (none, 0)) (hss := fun _ _ => (none, 0)) hO
  replace hO := jA.own
  replace ai := ai.ch jA.ch
  replace ad := ad.ch jA.ch
  replace ae := ae.ch jA.ch
  replace ab := ab.ch jA.ch
  replace af := af.ch jA.ch
  replace aa := aa.ch jA.ch
  replace ag := ag.ch jA.ch
  replace ah := ah.ch jA.ch
  replace hB := hB.trans jA.fr
  have jB := t2nil (e := 42) (e' := 4) Fl.bool hO
  replace hO := jB.own
  replace ai := ai.ch jB.ch
  replace ad := ad.ch jB.ch
  replace ae := ae.ch jB.ch
  replace ab := ab.ch jB.ch
  replace af := af.ch jB.ch
  replace aa := aa.ch jB.ch
  replace ag := ag.ch jB.ch
  replace ah := ah.ch jB.ch
  replace hB := hB.trans jB.fr
  refine Go1.loopW (S := Nat × List (List Bool) × List (List (List Int))) (fun s σ w => match s with | (k2_172, d_173, d_178) => ∃ (aY : Nat), ∃ (a9 : Option Addr), ∃ (ba : Nat), ∃ (bA : Hd), ∃ (a8 : Nat), ∃ (bc : Option Addr), ∃ (bg : Nat), ∃ (jm : List Value), ∃ (ps180 : Hd), ∃ (jo : Nat → Hd), agrees σ [(0, .slice bu a0.length bw), (1, .int .i64 a1), (4, .pointer (some ⟨B2, 0, none⟩)), (7, .pointer (some ⟨B21, 0, none⟩)), (8, .pointer (some ⟨B38, 0, none⟩)), (83, .int .i64 (r140.length : Int)), (84, .int .i64 (k2_172 : Int))] ∧ Owns w0.heap.size w [t2 Fl.bool 42 4 a9 aY ba bA d_173, .row 22 1 bc a8 bg jm, famE d_178.length (lay3 (Fl.int .i64) 26 3 ps180 jo d_178), .blk B38 (.cells #[.slice p60 r140.length c61, .slice p54 r152.length c55, .slice bc a8 bg, .slice a9 aY ba] 35 (0, 0)), .blk B21 (.cells #[.slice av r14.R.length aw, .slice ax r14.L.length ay, .slice am r14.J.length ao, .slice az r14.H.length aA, .slice aj r14.Below.length ak] 29 (0, 0)), .blk B2 (.cells #[.slice none 0 0, .slice none 0 0, .slice none 0 0, .slice none 0 0] 35 (0, 0))] A ∧ T3F jm ps180 d_178 ∧ ISl (Rp.sl (Rp.int .i64)) (bl [t2 Fl.bool 42 4 a9 aY ba bA d_173, .row 22 1 bc a8 bg jm, famE d_178.length (lay3 (Fl.int .i64) 26 3 ps180 jo d_178), .blk B38 (.cells #[.slice p60 r140.length c61, .slice p54 r152.length c55, .slice bc a8 bg, .slice a9 aY ba] 35 (0, 0)), .blk B21 (.cells #[.slice av r14.R.length aw, .slice ax r14.L.length ay, .slice am r14.J.length ao, .slice az r14.H.length aA, .slice aj r14.Below.length ak] 29 (0, 0)), .blk B2 (.cells #[.slice none 0 0, .slice none 0 0, .slice none 0 0, .slice none 0 0] 35 (0, 0))] ++ A) w bu bw a0 ∧ ISl (Rp.int .i64) (bl [t2 Fl.bool 42 4 a9 aY ba bA d_173, .row 22 1 bc a8 bg jm, famE d_178.length (lay3 (Fl.int .i64) 26 3 ps180 jo d_178), .blk B38 (.cells #[.slice p60 r140.length c61, .slice p54 r152.length c55, .slice bc a8 bg, .slice a9 aY ba] 35 (0, 0)), .blk B21 (.cells #[.slice av r14.R.length aw, .slice ax r14.L.length ay, .slice am r14.J.length ao, .slice az r14.H.length aA, .slice aj r14.Below.length ak] 29 (0, 0)), .blk B2 (.cells #[.slice none 0 0, .slice none 0 0, .slice none 0 0, .slice none 0 0] 35 (0, 0))] ++ A) w av aw r14.R ∧ ISl (Rp.int .i64) (bl [t2 Fl.bool 42 4 a9 aY ba bA d_173, .row 22 1 bc a8 bg jm, famE d_178.length (lay3 (Fl.int .i64) 26 3 ps180 jo d_178), .blk B38 (.cells #[.slice p60 r140.length c61, .slice p54 r152.length c55, .slice bc a8 bg, .slice a9 aY ba] 35 (0, 0)), .blk B21 (.cells #[.slice av r14.R.length aw, .slice ax r14.L.length ay, .slice am r14.J.length ao, .slice az r14.H.length aA, .slice aj r14.Below.length ak] 29 (0, 0)), .blk B2 (.cells #[.slice none 0 0, .slice none 0 0, .slice none 0 0, .slice none 0 0] 35 (0, 0))] ++ A) w ax ay r14.L ∧ ISl (Rp.int .i64) (bl [t2 Fl.bool 42 4 a9 aY ba bA d_173, .row 22 1 bc a8 bg jm, famE d_178.length (lay3 (Fl.int .i64) 26 3 ps180 jo d_178), .blk B38 (.cells #[.slice p60 r140.length c61, .slice p54 r152.length c55, .slice bc a8 bg, .slice a9 aY ba] 35 (0, 0)), .blk B21 (.cells #[.slice av r14.R.length aw, .slice ax r14.L.length ay, .slice am r14.J.length ao, .slice az r14.H.length aA, .slice aj r14.Below.length ak] 29 (0, 0)), .blk B2 (.cells #[.slice none 0 0, .slice none 0 0, .slice none 0 0, .slice none 0 0] 35 (0, 0))] ++ A) w am ao r14.J ∧ ISl (Rp.int .i64) (bl [t2 Fl.bool 42 4 a9 aY ba bA d_173, .row 22 1 bc a8 bg jm, famE d_178.length (lay3 (Fl.int .i64) 26 3 ps180 jo d_178), .blk B38 (.cells #[.slice p60 r140.length c61, .slice p54 r152.length c55, .slice bc a8 bg, .slice a9 aY ba] 35 (0, 0)), .blk B21 (.cells #[.slice av r14.R.length aw, .slice ax r14.L.length ay, .slice am r14.J.length ao, .slice az r14.H.length aA, .slice aj r14.Below.length ak] 29 (0, 0)), .blk B2 (.cells #[.slice none 0 0, .slice none 0 0, .slice none 0 0, .slice none 0 0] 35 (0, 0))] ++ A) w az aA r14.H ∧ ISl (Rp.sl (Rp.bool)) (bl [t2 Fl.bool 42 4 a9 aY ba bA d_173, .row 22 1 bc a8 bg jm, famE d_178.length (lay3 (Fl.int .i64) 26 3 ps180 jo d_178), .blk B38 (.cells #[.slice p60 r140.length c61, .slice p54 r152.length c55, .slice bc a8 bg, .slice a9 aY ba] 35 (0, 0)), .blk B21 (.cells #[.slice av r14.R.length aw, .slice ax r14.L.length ay, .slice am r14.J.length ao, .slice az r14.H.length aA, .slice aj r14.Below.length ak] 29 (0, 0)), .blk B2 (.cells #[.slice none 0 0, .slice none 0 0, .slice none 0 0, .slice none 0 0] 35 (0, 0))] ++ A) w aj ak r14.Below ∧ ISl (Rp.int .i64) (bl [t2 Fl.bool 42 4 a9 aY ba bA d_173, .row 22 1 bc a8 bg jm, famE d_178.length (lay3 (Fl.int .i64) 26 3 ps180 jo d_178), .blk B38 (.cells #[.slice p60 r140.length c61, .slice p54 r152.length c55, .slice bc a8 bg, .slice a9 aY ba] 35 (0, 0)), .blk B21 (.cells #[.slice av r14.R.length aw, .slice ax r14.L.length ay, .slice am r14.J.length ao, .slice az r14.H.length aA, .slice aj r14.Below.length ak] 29 (0, 0)), .blk B2 (.cells #[.slice none 0 0, .slice none 0 0, .slice none 0 0, .slice none 0 0] 35 (0, 0))] ++ A) w p60 c61 r140 ∧ ISl (Rp.int .i64) (bl [t2 Fl.bool 42 4 a9 aY ba bA d_173, .row 22 1 bc a8 bg jm, famE d_178.length (lay3 (Fl.int .i64) 26 3 ps180 jo d_178), .blk B38 (.cells #[.slice p60 r140.length c61, .slice p54 r152.length c55, .slice bc a8 bg, .slice a9 aY ba] 35 (0, 0)), .blk B21 (.cells #[.slice av r14.R.length aw, .slice ax r14.L.length ay, .slice am r14.J.length ao, .slice az r14.H.length aA, .slice aj r14.Below.length ak] 29 (0, 0)), .blk B2 (.cells #[.slice none 0 0, .slice none 0 0, .slice none 0 0, .slice none 0 0] 35 (0, 0))] ++ A) w p54 c55 r152 ∧ Fr (bl []) w0 (bl [t2 Fl.bool 42 4 a9 aY ba bA d_173, .row 22 1 bc a8 bg jm, famE d_178.length (lay3 (Fl.int .i64) 26 3 ps180 jo d_178), .blk B38 (.cells #[.slice p60 r140.length c61, .slice p54 r152.length c55, .slice bc a8 bg, .slice a9 aY ba] 35 (0, 0)), .blk B21 (.cells #[.slice av r14.R.length aw, .slice ax r14.L.length ay, .slice am r14.J.length ao, .slice az r14.H.length aA, .slice aj r14.Below.length ak] 29 (0, 0)), .blk B2 (.cells #[.slice none 0 0, .slice none 0 0, .slice none 0 0, .slice none 0 0] 35 (0, 0))]) w) H ⟨0, none, 0, (fun _ => (none, 0)), 0, none, 0, (hcells (fun _ => (none, 0)) ([] : List (List (List Int)))), (fun _ => (none, 0)), (fun _ _ => (none, 0)), ⟨rfl, rfl, rfl, rfl, rfl, rfl, rfl, trivial⟩, hO, (T3F.nil _), ai, ad, ae, ab, af, aa, ag, ah, hB⟩ ?_
  intro X2
  refine prE fun k2_172 => prE fun d_173 => fun d_178 => ?_
  intro H hX2 σ Bo
  refine exE fun aY => exE fun a9 => exE fun ba => exE fun bA => exE fun a8 => exE fun bc => exE fun bg => exE fun jm => exE fun ps180 => exE fun jo => andE fun hag => andE fun hO => andE fun hF182 => andE fun ai => andE fun ad => andE fun ae => andE fun ab => andE fun af => andE fun aa => andE fun ag => andE fun ah => fun hB => ?_
  dsimp only at H
  refine Go1.keep [(0, .slice bu a0.length bw), (1, .int .i64 a1), (4, .pointer (some ⟨B2, 0, none⟩)), (7, .pointer (some ⟨B21, 0, none⟩)), (8, .pointer (some ⟨B38, 0, none⟩)), (83, .int .i64 (r140.length : Int)), (84, .int .i64 (k2_172 : Int))] hag ?_
  refine Go1.seq ?_
  refine Go1.region ?_
  by_cases o7 : (k2_172 : Int) < (r140.length : Int)
  ·replace H := ifp o7 H
   refine GoR.op ((fun w => opB (J0w rfl rfl w) (decide_eq_true o7)) _) rfl rfl ?_
   refine GoR.nil ?_
   refine Go1.seq ?_
   refine Go1.condT rfl rfl ?_
   refine Go1.skip ?_
   refine Go1.seq ?_
   refine Go1.block ?_
   refine Go1.seq ?_
   refine Go1.drawS 4 [(0, .pure), (1, .stable), (2, .pure), (3, .stable), (4, .pure), (5, .loud), (6, .loud), (7, .last), (8, .pure), (9, .last)] mixed (by kernel_rfl) ?_
   intro Em xQ
   have jC := Stp.same hO xQ
   replace hO := jC.own
   replace ai := ai.ch jC.ch
   replace ad := ad.ch jC.ch
   replace ae := ae.ch jC.ch
   replace ab := ab.ch jC.ch
   replace af := af.ch jC.ch
   replace aa := aa.ch jC.ch
   replace ag := ag.ch jC.ch
   replace ah := ah.ch jC.ch
   replace hB := hB.trans jC.fr
   refine GoQ.pure rfl (J03 Try.underlying35 rfl ti33 rfl (by decide)) rfl rfl ?_
   refine GoQ.stable rfl (oblk (i := 2) 3 hO rfl rfl Try.underlying33 rfl rfl) rfl rfl ?_
   refine GoQ.pure rfl (J03 Try.underlying35 rfl ti26 rfl (by decide)) rfl rfl ?_
   refine GoQ.stable rfl (oblk (i := 1) 3 hO rfl rfl Try.underlying26 rfl rfl) rfl rfl ?_
   refine GoQ.pure rfl (J2G Try.underlying26 rfl) rfl rfl ?_
   replace H := H ah.bd
   obtain ⟨sw, H⟩ := H
   obtain ⟨Bp, H⟩ := H
   have hobt := t2makeS (m := (r152.length : Int)) (e' := 3) (Fl.int .i64) Try.underlying22 ti26 hO sw Bp (by decide)
   obtain ⟨En, vH, jD, xR, vI, hz200⟩ := hobt
   refine GoQ.loud rfl (vI rfl rfl) xR rfl rfl ?_
   replace hO := jD.own
   replace ai := ai.ch jD.ch
   replace ad := ad.ch jD.ch
   replace ae := ae.ch jD.ch
   replace ab := ab.ch jD.ch
   replace af := af.ch jD.ch
   replace aa := aa.ch jD.ch
   replace ag := ag.ch jD.ch
   replace ah := ah.ch jD.ch
   replace hB := hB.trans jD.fr
   have hobt := t3build1S (e := 22) (hf := (Fl.int .i64)) Try.underlying33 ti22 hO
   obtain ⟨Eo, Ep, jE, xS, o8⟩ := hobt
   refine GoQ.loud rfl (o8 rfl) xS rfl rfl ?_
   replace hO := jE.own
   replace ai := ai.ch jE.ch
   replace ad := ad.ch jE.ch
   replace ae := ae.ch jE.ch
   replace ab := ab.ch jE.ch
   replace af := af.ch jE.ch
   replace aa := aa.ch jE.ch
   replace ag := ag.ch jE.ch
   replace ah := ah.ch jE.ch
   replace hB := hB.trans jE.fr
   have iA := Stp.front 4 hO rfl
   dsimp only [eS, eZ] at iA
   replace hO := iA.own
   replace ai := ai.ch iA.ch
   replace ad := ad.ch iA.ch
   replace ae := ae.ch iA.ch
   replace ab := ab.ch iA.ch
   replace af := af.ch iA.ch
   replace aa := aa.ch iA.ch
   replace ag := ag.ch iA.ch
   replace ah := ah.ch iA.ch
   replace hB := hB.trans iA.fr
   have iB := Stp.front 4 hO rfl
   dsimp only [eS, eZ] at iB
   replace hO := iB.own
   replace ai := ai.ch iB.ch
   replace ad := ad.ch iB.ch
   replace ae := ae.ch iB.ch
   replace ab := ab.ch iB.ch
   replace af := af.ch iB.ch
   replace aa := aa.ch iB.ch
   replace ag := ag.ch iB.ch
   replace ah := ah.ch iB.ch
   replace hB := hB.trans iB.fr
   have iC := Stp.front 3 hO rfl
   dsimp only [eS, eZ] at iC
   replace hO := iC.own
   replace ai := ai.ch iC.ch
   replace ad := ad.ch iC.ch
   replace ae := ae.ch iC.ch
   replace ab := ab.ch iC.ch
   replace af := af.ch iC.ch
   replace aa := aa.ch iC.ch
   replace ag := ag.ch iC.ch
   replace ah := ah.ch iC.ch
   replace hB := hB.trans iC.fr
   have iD := Stp.front 3 hO rfl
   dsimp only [eS, eZ] at iD
   replace hO := iD.own
   replace ai := ai.ch iD.ch
   replace ad := ad.ch iD.ch
   replace ae := ae.ch iD.ch
   replace ab := ab.ch iD.ch
   replace af := af.ch iD.ch
   replace aa := aa.ch iD.ch
   replace ag := ag.ch iD.ch
   replace ah := ah.ch iD.ch
   replace hB := hB.trans iD.fr
   obtain ⟨vJ, H⟩ := H
   have hobt := t3catF (hf := (Fl.int .i64)) Try.underlying33 ti22 hO (T3F.one _ _) hF182 vJ (by decide)
   obtain ⟨Er, qm, qn, jF, vK⟩ := hobt
   refine GoQ.last rfl (vK (by exact rfl) (by exact rfl)) rfl rfl ?_
   replace hO := jF.own
   replace ai := ai.ch jF.ch
   replace ad := ad.ch jF.ch
   replace ae := ae.ch jF.ch
   replace ab := ab.ch jF.ch
   replace af := af.ch jF.ch
   replace aa := aa.ch jF.ch
   replace ag := ag.ch jF.ch
   replace ah := ah.ch jF.ch
   replace hB := hB.trans jF.fr
   refine GoQ.pure rfl (J03 Try.underlying35 rfl ti33 rfl (by decide)) rfl rfl ?_
   have hobt := J2W (v := .slice qm (a8 + 1) qn) (i := 2) (cs' := #[.slice p60 r140.length c61, .slice p54 r152.length c55, .slice qm (a8 + 1) qn, .slice a9 aY ba]) 3 hO rfl rfl rfl rfl
   obtain ⟨Et, iE, vL⟩ := hobt
   dsimp only [sS, sZ] at iE
   refine GoQ.last rfl (vL Try.underlying33 rfl ti33 (by exact rfl) (by exact rfl)) rfl rfl ?_
   replace hO := iE.own
   replace ai := ai.ch iE.ch
   replace ad := ad.ch iE.ch
   replace ae := ae.ch iE.ch
   replace ab := ab.ch iE.ch
   replace af := af.ch iE.ch
   replace aa := aa.ch iE.ch
   replace ag := ag.ch iE.ch
   replace ah := ah.ch iE.ch
   replace hB := hB.trans iE.fr
   refine GoQ.nil ?_
   refine Go1.drawS 4 [(0, .pure), (1, .stable), (2, .pure), (3, .stable), (4, .pure), (5, .loud), (6, .loud), (7, .last), (8, .pure), (9, .last)] mixed (by kernel_rfl) ?_
   intro Eu xT
   have jG := Stp.same hO xT
   replace hO := jG.own
   replace ai := ai.ch jG.ch
   replace ad := ad.ch jG.ch
   replace ae := ae.ch jG.ch
   replace ab := ab.ch jG.ch
   replace af := af.ch jG.ch
   replace aa := aa.ch jG.ch
   replace ag := ag.ch jG.ch
   replace ah := ah.ch jG.ch
   replace hB := hB.trans jG.fr
   refine GoQ.pure rfl (J03 Try.underlying35 rfl ti27 rfl (by decide)) rfl rfl ?_
   refine GoQ.stable rfl (oblk (i := 3) 3 hO rfl rfl Try.underlying27 rfl rfl) rfl rfl ?_
   refine GoQ.pure rfl (J03 Try.underlying35 rfl ti26 rfl (by decide)) rfl rfl ?_
   refine GoQ.stable rfl (oblk (i := 1) 3 hO rfl rfl Try.underlying26 rfl rfl) rfl rfl ?_
   refine GoQ.pure rfl (J2G Try.underlying26 rfl) rfl rfl ?_
   obtain ⟨Bq, H⟩ := H
   obtain ⟨Br, H⟩ := H
   have hobt := omake (n := (r152.length : Int)) (r := Rp.bool) (d := false) Try.underlying42 ti4 (fun _ _ => rfl) rfl hO Bq Br (by decide)
   obtain ⟨Ev, Bs, Dg, jH, xU, xV, vM⟩ := hobt
   refine GoQ.loud rfl (vM rfl rfl) xV rfl rfl ?_
   replace hO := jH.own
   replace ai := ai.ch jH.ch
   replace ad := ad.ch jH.ch
   replace ae := ae.ch jH.ch
   replace ab := ab.ch jH.ch
   replace af := af.ch jH.ch
   replace aa := aa.ch jH.ch
   replace ag := ag.ch jH.ch
   replace ah := ah.ch jH.ch
   replace hB := hB.trans jH.fr
   have hobt := t2build1S Fl.bool Try.underlying27 ti42 hO xU
   obtain ⟨Ew, Ex, jI, xW, vN⟩ := hobt
   refine GoQ.loud rfl (vN rfl) xW rfl rfl ?_
   replace hO := jI.own
   replace ai := ai.ch jI.ch
   replace ad := ad.ch jI.ch
   replace ae := ae.ch jI.ch
   replace ab := ab.ch jI.ch
   replace af := af.ch jI.ch
   replace aa := aa.ch jI.ch
   replace ag := ag.ch jI.ch
   replace ah := ah.ch jI.ch
   replace hB := hB.trans jI.fr
   have iG := Stp.front 3 hO rfl
   dsimp only [eS, eZ] at iG
   replace hO := iG.own
   replace ai := ai.ch iG.ch
   replace ad := ad.ch iG.ch
   replace ae := ae.ch iG.ch
   replace ab := ab.ch iG.ch
   replace af := af.ch iG.ch
   replace aa := aa.ch iG.ch
   replace ag := ag.ch iG.ch
   replace ah := ah.ch iG.ch
   replace hB := hB.trans iG.fr
   have iH := Stp.front 1 hO rfl
   dsimp only [eS, eZ] at iH
   replace hO := iH.own
   replace ai := ai.ch iH.ch
   replace ad := ad.ch iH.ch
   replace ae := ae.ch iH.ch
   replace ab := ab.ch iH.ch
   replace af := af.ch iH.ch
   replace aa := aa.ch iH.ch
   replace ag := ag.ch iH.ch
   replace ah := ah.ch iH.ch
   replace hB := hB.trans iH.fr
   obtain ⟨Bt, H⟩ := H
   have hobt := t2cat Try.underlying27 ti42 hO Bt (by decide)
   obtain ⟨Ey, sx, sy, jJ, vO⟩ := hobt
   refine GoQ.last rfl (vO (by exact rfl) (by exact rfl)) rfl rfl ?_
   replace hO := jJ.own
   replace ai := ai.ch jJ.ch
   replace ad := ad.ch jJ.ch
   replace ae := ae.ch jJ.ch
   replace ab := ab.ch jJ.ch
   replace af := af.ch jJ.ch
   replace aa := aa.ch jJ.ch
   replace ag := ag.ch jJ.ch
   replace ah := ah.ch jJ.ch
   replace hB := hB.trans jJ.fr
   refine GoQ.pure rfl (J03 Try.underlying35 rfl ti27 rfl (by decide)) rfl rfl ?_
   have hobt := J2W (v := .slice sx (aY + 1) sy) (i := 3) (cs' := #[.slice p60 r140.length c61, .slice p54 r152.length c55, .slice qm (a8 + 1) qn, .slice sx (aY + 1) sy]) 3 hO rfl rfl rfl rfl
   obtain ⟨Ez, iI, vP⟩ := hobt
   dsimp only [sS, sZ] at iI
   refine GoQ.last rfl (vP Try.underlying27 rfl ti27 (by exact rfl) (by exact rfl)) rfl rfl ?_
   replace hO := iI.own
   replace ai := ai.ch iI.ch
   replace ad := ad.ch iI.ch
   replace ae := ae.ch iI.ch
   replace ab := ab.ch iI.ch
   replace af := af.ch iI.ch
   replace aa := aa.ch iI.ch
   replace ag := ag.ch iI.ch
   replace ah := ah.ch iI.ch
   replace hB := hB.trans iI.fr
   refine GoQ.nil ?_
   refine Go1.inBlock ?_
   refine Go1.cut [(0, .slice bu a0.length bw), (1, .int .i64 a1), (4, .pointer (some ⟨B2, 0, none⟩)), (7, .pointer (some ⟨B21, 0, none⟩)), (8, .pointer (some ⟨B38, 0, none⟩)), (83, .int .i64 (r140.length : Int)), (84, .int .i64 (k2_172 : Int))] ⟨rfl, rfl, rfl, rfl, rfl, rfl, rfl, trivial⟩ ?_
   intro σ _
   refine Go1.region ?_
   refine GoR.op ((J06 rfl rfl (wrap_i64 (natbd o7 ag.bd))) _) rfl rfl ?_
   refine GoR.op ((J00 rfl) _) rfl rfl ?_
   refine GoR.nil ?_
   exact hX2 _ H _ _ ⟨aY + 1, sx, sy, hcat bA d_173.length ((fun _ => (Bs, r152.length))), a8 + 1, qm, qn, hcells (hcat ps180 d_178.length ((fun _ => (vH, r152.length)))) (d_178 ++ ([List.replicate r152.length ([] : List Int)])), hcat ps180 d_178.length ((fun _ => (vH, r152.length))), hsscat jo d_178.length ((fun _ => (fun _ => (none, 0)))), ⟨rfl, rfl, rfl, rfl, rfl, rfl, rfl, trivial⟩, hO, (T3F.cat _ vJ), ai, ad, ae, ab, af, aa, ag, ah, hB⟩
  replace H := ifn o7 H
  refine GoR.op ((fun w => opB (J0w rfl rfl w) (decide_eq_false o7)) _) rfl rfl ?_
  refine GoR.nil ?_
  refine Go1.seq ?_
  refine Go1.condF rfl rfl ?_
  refine Go1.exit rfl ?_
  refine Go1.seq ?_
  refine Go1.seq ?_
  refine Go1.region ?_
  refine GoR.op ((J03 Try.underlying29 rfl ti26 rfl (by decide)) _) rfl rfl ?_
  refine GoR.op ((oblk (i := 2) 4 hO rfl rfl Try.underlying26 rfl rfl) _ (Same.refl _)) rfl rfl ?_
  refine GoR.op ((J2G Try.underlying26 rfl) _) rfl rfl ?_
  refine GoR.op ((J00 rfl) _) rfl rfl ?_
  refine GoR.nil ?_
  refine Go1.block ?_
  refine Go1.loopW (S := Nat × List (List Bool) × List (List (List Int))) (fun s σ w => match s with | (k3_251, d_252, d_253) => ∃ (bo : List Value), ∃ (ps255 : Hd), ∃ (aB : Nat → Hd), agrees σ [(0, .slice bu a0.length bw), (1, .int .i64 a1), (4, .pointer (some ⟨B2, 0, none⟩)), (7, .pointer (some ⟨B21, 0, none⟩)), (8, .pointer (some ⟨B38, 0, none⟩)), (106, .slice am r14.J.length ao), (107, .int .i64 (r14.J.length : Int)), (108, .int .i64 (k3_251 : Int))] ∧ Owns w0.heap.size w [t2 Fl.bool 42 4 a9 aY ba bA d_252, .row 22 1 bc a8 bg bo, famE d_253.length (lay3 (Fl.int .i64) 26 3 ps255 aB d_253), .blk B38 (.cells #[.slice p60 r140.length c61, .slice p54 r152.length c55, .slice bc a8 bg, .slice a9 aY ba] 35 (0, 0)), .blk B21 (.cells #[.slice av r14.R.length aw, .slice ax r14.L.length ay, .slice am r14.J.length ao, .slice az r14.H.length aA, .slice aj r14.Below.length ak] 29 (0, 0)), .blk B2 (.cells #[.slice none 0 0, .slice none 0 0, .slice none 0 0, .slice none 0 0] 35 (0, 0))] A ∧ T3F bo ps255 d_253 ∧ ISl (Rp.sl (Rp.int .i64)) (bl [t2 Fl.bool 42 4 a9 aY ba bA d_252, .row 22 1 bc a8 bg bo, famE d_253.length (lay3 (Fl.int .i64) 26 3 ps255 aB d_253), .blk B38 (.cells #[.slice p60 r140.length c61, .slice p54 r152.length c55, .slice bc a8 bg, .slice a9 aY ba] 35 (0, 0)), .blk B21 (.cells #[.slice av r14.R.length aw, .slice ax r14.L.length ay, .slice am r14.J.length ao, .slice az r14.H.length aA, .slice aj r14.Below.length ak] 29 (0, 0)), .blk B2 (.cells #[.slice none 0 0, .slice none 0 0, .slice none 0 0, .slice none 0 0] 35 (0, 0))] ++ A) w bu bw a0 ∧ ISl (Rp.int .i64) (bl [t2 Fl.bool 42 4 a9 aY ba bA d_252, .row 22 1 bc a8 bg bo, famE d_253.length (lay3 (Fl.int .i64) 26 3 ps255 aB d_253), .blk B38 (.cells #[.slice p60 r140.length c61, .slice p54 r152.length c55, .slice bc a8 bg, .slice a9 aY ba] 35 (0, 0)), .blk B21 (.cells #[.slice av r14.R.length aw, .slice ax r14.L.length ay, .slice am r14.J.length ao, .slice az r14.H.length aA, .slice aj r14.Below.length ak] 29 (0, 0)), .blk B2 (.cells #[.slice none 0 0, .slice none 0 0, .slice none 0 0, .slice none 0 0] 35 (0, 0))] ++ A) w av aw r14.R ∧ ISl (Rp.int .i64) (bl [t2 Fl.bool 42 4 a9 aY ba bA d_252, .row 22 1 bc a8 bg bo, famE d_253.length (lay3 (Fl.int .i64) 26 3 ps255 aB d_253), .blk B38 (.cells #[.slice p60 r140.length c61, .slice p54 r152.length c55, .slice bc a8 bg, .slice a9 aY ba] 35 (0, 0)), .blk B21 (.cells #[.slice av r14.R.length aw, .slice ax r14.L.length ay, .slice am r14.J.length ao, .slice az r14.H.length aA, .slice aj r14.Below.length ak] 29 (0, 0)), .blk B2 (.cells #[.slice none 0 0, .slice none 0 0, .slice none 0 0, .slice none 0 0] 35 (0, 0))] ++ A) w ax ay r14.L ∧ ISl (Rp.int .i64) (bl [t2 Fl.bool 42 4 a9 aY ba bA d_252, .row 22 1 bc a8 bg bo, famE d_253.length (lay3 (Fl.int .i64) 26 3 ps255 aB d_253), .blk B38 (.cells #[.slice p60 r140.length c61, .slice p54 r152.length c55, .slice bc a8 bg, .slice a9 aY ba] 35 (0, 0)), .blk B21 (.cells #[.slice av r14.R.length aw, .slice ax r14.L.length ay, .slice am r14.J.length ao, .slice az r14.H.length aA, .slice aj r14.Below.length ak] 29 (0, 0)), .blk B2 (.cells #[.slice none 0 0, .slice none 0 0, .slice none 0 0, .slice none 0 0] 35 (0, 0))] ++ A) w am ao r14.J ∧ ISl (Rp.int .i64) (bl [t2 Fl.bool 42 4 a9 aY ba bA d_252, .row 22 1 bc a8 bg bo, famE d_253.length (lay3 (Fl.int .i64) 26 3 ps255 aB d_253), .blk B38 (.cells #[.slice p60 r140.length c61, .slice p54 r152.length c55, .slice bc a8 bg, .slice a9 aY ba] 35 (0, 0)), .blk B21 (.cells #[.slice av r14.R.length aw, .slice ax r14.L.length ay, .slice am r14.J.length ao, .slice az r14.H.length aA, .slice aj r14.Below.length ak] 29 (0, 0)), .blk B2 (.cells #[.slice none 0 0, .slice none 0 0, .slice none 0 0, .slice none 0 0] 35 (0, 0))] ++ A) w az aA r14.H ∧ ISl (Rp.sl (Rp.bool)) (bl [t2 Fl.bool 42 4 a9 aY ba bA d_252, .row 22 1 bc a8 bg bo, famE d_253.length (lay3 (Fl.int .i64) 26 3 ps255 aB d_253), .blk B38 (.cells #[.slice p60 r140.length c61, .slice p54 r152.length c55, .slice bc a8 bg, .slice a9 aY ba] 35 (0, 0)), .blk B21 (.cells #[.slice av r14.R.length aw, .slice ax r14.L.length ay, .slice am r14.J.length ao, .slice az r14.H.length aA, .slice aj r14.Below.length ak] 29 (0, 0)), .blk B2 (.cells #[.slice none 0 0, .slice none 0 0, .slice none 0 0, .slice none 0 0] 35 (0, 0))] ++ A) w aj ak r14.Below ∧ ISl (Rp.int .i64) (bl [t2 Fl.bool 42 4 a9 aY ba bA d_252, .row 22 1 bc a8 bg bo, famE d_253.length (lay3 (Fl.int .i64) 26 3 ps255 aB d_253), .blk B38 (.cells #[.slice p60 r140.length c61, .slice p54 r152.length c55, .slice bc a8 bg, .slice a9 aY ba] 35 (0, 0)), .blk B21 (.cells #[.slice av r14.R.length aw, .slice ax r14.L.length ay, .slice am r14.J.length ao, .slice az r14.H.length aA, .slice aj r14.Below.length ak] 29 (0, 0)), .blk B2 (.cells #[.slice none 0 0, .slice none 0 0, .slice none 0 0, .slice none 0 0] 35 (0, 0))] ++ A) w p60 c61 r140 ∧ ISl (Rp.int .i64) (bl [t2 Fl.bool 42 4 a9 aY ba bA d_252, .row 22 1 bc a8 bg bo, famE d_253.length (lay3 (Fl.int .i64) 26 3 ps255 aB d_253), .blk B38 (.cells #[.slice p60 r140.length c61, .slice p54 r152.length c55, .slice bc a8 bg, .slice a9 aY ba] 35 (0, 0)), .blk B21 (.cells #[.slice av r14.R.length aw, .slice ax r14.L.length ay, .slice am r14.J.length ao, .slice az r14.H.length aA, .slice aj r14.Below.length ak] 29 (0, 0)), .blk B2 (.cells #[.slice none 0 0, .slice none 0 0, .slice none 0 0, .slice none 0 0] 35 (0, 0))] ++ A) w p54 c55 r152 ∧ Fr (bl []) w0 (bl [t2 Fl.bool 42 4 a9 aY ba bA d_252, .row 22 1 bc a8 bg bo, famE d_253.length (lay3 (Fl.int .i64) 26 3 ps255 aB d_253), .blk B38 (.cells #[.slice p60 r140.length c61, .slice p54 r152.length c55, .slice bc a8 bg, .slice a9 aY ba] 35 (0, 0)), .blk B21 (.cells #[.slice av r14.R.length aw, .slice ax r14.L.length ay, .slice am r14.J.length ao, .slice az r14.H.length aA, .slice aj r14.Below.length ak] 29 (0, 0)), .blk B2 (.cells #[.slice none 0 0, .slice none 0 0, .slice none 0 0, .slice none 0 0] 35 (0, 0))]) w) H ⟨jm, ps180, jo, ⟨rfl, rfl, rfl, rfl, rfl, rfl, rfl, rfl, trivial⟩, hO, hF182, ai, ad, ae, ab, af, aa, ag, ah, hB⟩ ?_
  intro X3
  refine prE fun k3_251 => prE fun d_252 => fun d_253 => ?_
  intro H hX3 σ EA
  refine exE fun bo => exE fun ps255 => exE fun aB => andE fun hag => andE fun hO => andE fun hF257 => andE fun ai => andE fun ad => andE fun ae => andE fun ab => andE fun af => andE fun aa => andE fun ag => andE fun ah => fun hB => ?_
  dsimp only at H
  refine Go1.keep [(0, .slice bu a0.length bw), (1, .int .i64 a1), (4, .pointer (some ⟨B2, 0, none⟩)), (7, .pointer (some ⟨B21, 0, none⟩)), (8, .pointer (some ⟨B38, 0, none⟩)), (106, .slice am r14.J.length ao), (107, .int .i64 (r14.J.length : Int)), (108, .int .i64 (k3_251 : Int))] hag ?_
  refine Go1.seq ?_
  refine Go1.region ?_
  by_cases bN : (k3_251 : Int) < (r14.J.length : Int)
  ·replace H := ifp bN H
   refine GoR.op ((fun w => opB (J0w rfl rfl w) (decide_eq_true bN)) _) rfl rfl ?_
   refine GoR.nil ?_
   refine Go1.seq ?_
   refine Go1.condT rfl rfl ?_
   refine Go1.skip ?_
   refine Go1.seq ?_
   refine Go1.block ?_
   refine Go1.seq ?_
   refine Go1.region ?_
   refine GoR.op ((J00 rfl) _) rfl rfl ?_
   obtain ⟨sA, H⟩ := H
   obtain ⟨sB, H⟩ := H
   refine GoR.op ((J01 Try.underlying26 ti3 rfl rfl sA sB (ab.some_ sA sB)) _) rfl rfl ?_
   refine GoR.op ((ldInt ab sA sB Try.underlying3 rfl rfl) _ (Same.refl _)) rfl rfl ?_
   refine GoR.op ((J05 rfl) _) rfl rfl ?_
   refine GoR.op ((J05 rfl) _) rfl rfl ?_
   refine GoR.nil ?_
   refine Go1.seq ?_
   refine Go1.region ?_
   refine GoR.op ((J00 rfl) _) rfl rfl ?_
   refine GoR.op ((J00 rfl) _) rfl rfl ?_
   by_cases qo : (ix r14.J (k3_251 : Int)) = a1
   ·replace H := ifp qo H
    refine GoR.op ((fun w => opB (J0N rfl rfl w) (decide_eq_true qo)) _) rfl rfl ?_
    refine GoR.nil ?_
    refine Go1.condT rfl rfl ?_
    refine Go1.seq ?_
    refine Go1.drawS 0 [(0, .pure), (1, .stable), (2, .pure), (3, .stable), (4, .pure), (5, .pure), (6, .stable), (7, .loud), (8, .pure), (9, .pure), (10, .pure), (11, .pure), (12, .pure)] mixed (by kernel_rfl) ?_
    intro EB xX
    have jK := Stp.same hO xX
    replace hO := jK.own
    replace ai := ai.ch jK.ch
    replace ad := ad.ch jK.ch
    replace ae := ae.ch jK.ch
    replace ab := ab.ch jK.ch
    replace af := af.ch jK.ch
    replace aa := aa.ch jK.ch
    replace ag := ag.ch jK.ch
    replace ah := ah.ch jK.ch
    replace hB := hB.trans jK.fr
    refine GoQ.pure rfl (J03 Try.underlying35 rfl ti26 rfl (by decide)) rfl rfl ?_
    refine GoQ.stable rfl (oblk (i := 0) 3 hO rfl rfl Try.underlying26 rfl rfl) rfl rfl ?_
    refine GoQ.pure rfl (J03 Try.underlying29 rfl ti26 rfl (by decide)) rfl rfl ?_
    refine GoQ.stable rfl (oblk (i := 0) 4 hO rfl rfl Try.underlying26 rfl rfl) rfl rfl ?_
    refine GoQ.pure rfl (J00 rfl) rfl rfl ?_
    obtain ⟨sC, H⟩ := H
    obtain ⟨sD, H⟩ := H
    refine GoQ.pure rfl (J01 Try.underlying26 ti3 rfl rfl sC sD (ad.some_ sC sD)) rfl rfl ?_
    refine GoQ.stable rfl (ldInt ad sC sD Try.underlying3 rfl rfl) rfl rfl ?_
    refine GoQ.call rfl (J04 body36 rfl (J0E hO.lt ag H)) (fun v w hr => by obtain ⟨_, _, _, hs, _⟩ := hr; assumption) rfl rfl ?_
    rintro EC ED ⟨r267, r268, rfl, xY, H⟩
    have jL := Stp.same hO xY
    replace hO := jL.own
    replace ai := ai.ch jL.ch
    replace ad := ad.ch jL.ch
    replace ae := ae.ch jL.ch
    replace ab := ab.ch jL.ch
    replace af := af.ch jL.ch
    replace aa := aa.ch jL.ch
    replace ag := ag.ch jL.ch
    replace ah := ah.ch jL.ch
    replace hB := hB.trans jL.fr
    refine GoQ.pure rfl (J00 rfl) rfl rfl ?_
    refine GoQ.pure rfl (J2I rfl rfl) rfl rfl ?_
    refine GoQ.pure rfl (J2I rfl rfl) rfl rfl ?_
    refine GoQ.pure rfl (J05 rfl) rfl rfl ?_
    refine GoQ.pure rfl (J05 rfl) rfl rfl ?_
    refine GoQ.nil ?_
    refine Go1.seq ?_
    refine Go1.cut [(0, .slice bu a0.length bw), (1, .int .i64 a1), (4, .pointer (some ⟨B2, 0, none⟩)), (7, .pointer (some ⟨B21, 0, none⟩)), (8, .pointer (some ⟨B38, 0, none⟩)), (11, .int .i64 (k3_251 : Int)), (13, .int .i64 r267), (106, .slice am r14.J.length ao), (107, .int .i64 (r14.J.length : Int)), (108, .int .i64 (k3_251 : Int))] ⟨rfl, rfl, rfl, rfl, rfl, rfl, rfl, rfl, rfl, rfl, trivial⟩ ?_
    intro σ _
    refine Go1.drawS 0 [(0, .pure), (1, .stable), (2, .pure), (3, .stable), (4, .pure), (5, .pure), (6, .stable), (7, .loud), (8, .pure), (9, .pure), (10, .pure), (11, .pure), (12, .pure)] mixed (by kernel_rfl) ?_
    intro EE x3
    have jM := Stp.same hO x3
    replace hO := jM.own
    replace ai := ai.ch jM.ch
    replace ad := ad.ch jM.ch
    replace ae := ae.ch jM.ch
    replace ab := ab.ch jM.ch
    replace af := af.ch jM.ch
    replace aa := aa.ch jM.ch
    replace ag := ag.ch jM.ch
    replace ah := ah.ch jM.ch
    replace hB := hB.trans jM.fr
    refine GoQ.pure rfl (J03 Try.underlying35 rfl ti26 rfl (by decide)) rfl rfl ?_
    refine GoQ.stable rfl (oblk (i := 1) 3 hO rfl rfl Try.underlying26 rfl rfl) rfl rfl ?_
    refine GoQ.pure rfl (J03 Try.underlying29 rfl ti26 rfl (by decide)) rfl rfl ?_
    refine GoQ.stable rfl (oblk (i := 1) 4 hO rfl rfl Try.underlying26 rfl rfl) rfl rfl ?_
    refine GoQ.pure rfl (J00 rfl) rfl rfl ?_
    obtain ⟨sE, H⟩ := H
    obtain ⟨sF, H⟩ := H
    refine GoQ.pure rfl (J01 Try.underlying26 ti3 rfl rfl sE sF (ae.some_ sE sF)) rfl rfl ?_
    refine GoQ.stable rfl (ldInt ae sE sF Try.underlying3 rfl rfl) rfl rfl ?_
    refine GoQ.call rfl (J04 body36 rfl (J0E hO.lt ah H)) (fun v w hr => by obtain ⟨_, _, _, hs, _⟩ := hr; assumption) rfl rfl ?_
    rintro EF EG ⟨r279, r280, rfl, x4, H⟩
    have jN := Stp.same hO x4
    replace hO := jN.own
    replace ai := ai.ch jN.ch
    replace ad := ad.ch jN.ch
    replace ae := ae.ch jN.ch
    replace ab := ab.ch jN.ch
    replace af := af.ch jN.ch
    replace aa := aa.ch jN.ch
    replace ag := ag.ch jN.ch
    replace ah := ah.ch jN.ch
    replace hB := hB.trans jN.fr
    refine GoQ.pure rfl (J00 rfl) rfl rfl ?_
    refine GoQ.pure rfl (J2I rfl rfl) rfl rfl ?_
    refine GoQ.pure rfl (J2I rfl rfl) rfl rfl ?_
    refine GoQ.pure rfl (J05 rfl) rfl rfl ?_
    refine GoQ.pure rfl (J05 rfl) rfl rfl ?_
    refine GoQ.nil ?_
    refine Go1.seq ?_
    refine Go1.drawT (ok := fun _ => True) Same.tr [16, 18] 19 (.qp 0 (.qp 2 (.qp 5 (.qp 6 (.qs 7 (.qp 8 (.qp 9 (.qs 10 (.qp 11 (.qp 12 (.qs 13 (.qp 14 (.alt 1 (.qp 3 (.alt 4 (.alt 15 (.alt 16 (.qp 17 (.alt 18 .nil .fin)) .fin) .fin) (.alt 15 (.alt 4 (.alt 16 (.qp 17 (.alt 18 .nil .fin)) .fin) (.alt 16 (.alt 4 (.qp 17 (.alt 18 .nil .fin)) .fin) .fin)) .fin))) (.alt 15 (.alt 1 (.qp 3 (.alt 4 (.alt 16 (.qp 17 (.alt 18 .nil .fin)) .fin) (.alt 16 (.alt 4 (.qp 17 (.alt 18 .nil .fin)) .fin) .fin))) (.alt 16 (.alt 1 (.qp 3 (.alt 4 (.qp 17 (.alt 18 .nil .fin)) .fin)) .fin) .fin)) .fin)))))))))))))) mixed (by kernel_rfl) ?_
    intro EH x5
    have jO := Stp.same hO x5
    replace hO := jO.own
    replace ai := ai.ch jO.ch
    replace ad := ad.ch jO.ch
    replace ae := ae.ch jO.ch
    replace ab := ab.ch jO.ch
    replace af := af.ch jO.ch
    replace aa := aa.ch jO.ch
    replace ag := ag.ch jO.ch
    replace ah := ah.ch jO.ch
    replace hB := hB.trans jO.fr
    refine GoT.pure rfl (J03 Try.underlying35 rfl ti33 rfl (by decide)) rfl rfl ?_
    refine GoT.pure rfl (J00 rfl) rfl rfl ?_
    refine GoT.pure rfl (J00 rfl) rfl rfl ?_
    refine GoT.pure rfl (J03 Try.underlying35 rfl ti33 rfl (by decide)) rfl rfl ?_
    refine GoT.stable rfl (oblk (i := 2) 3 hO rfl rfl Try.underlying33 rfl rfl) rfl rfl ?_
    refine GoT.pure rfl (J00 rfl) rfl rfl ?_
    obtain ⟨bQ, H⟩ := H
    obtain ⟨bS, H⟩ := H
    refine GoT.pure rfl (J01 Try.underlying33 ti22 rfl rfl bQ (ltn (t3neqF 1 hO rfl hF257) bS) (t3someF 1 hO rfl hF257 bQ bS)) rfl rfl ?_
    refine GoT.stable rfl (t3headF 1 hO rfl hF257 bQ bS Try.underlying22 rfl rfl) rfl rfl ?_
    have iJ := Stp.front 2 hO rfl
    dsimp only [eS, eZ] at iJ
    replace hO := iJ.own
    replace ai := ai.ch iJ.ch
    replace ad := ad.ch iJ.ch
    replace ae := ae.ch iJ.ch
    replace ab := ab.ch iJ.ch
    replace af := af.ch iJ.ch
    replace aa := aa.ch iJ.ch
    replace ag := ag.ch iJ.ch
    replace ah := ah.ch iJ.ch
    replace hB := hB.trans iJ.fr
    have jP := t3take (hf := (Fl.int .i64)) hO bQ bS
    replace hO := jP.own
    replace ai := ai.ch jP.ch
    replace ad := ad.ch jP.ch
    replace ae := ae.ch jP.ch
    replace ab := ab.ch jP.ch
    replace af := af.ch jP.ch
    replace aa := aa.ch jP.ch
    replace ag := ag.ch jP.ch
    replace ah := ah.ch jP.ch
    replace hB := hB.trans jP.fr
    refine GoT.pure rfl (J00 rfl) rfl rfl ?_
    obtain ⟨l9, H⟩ := H
    obtain ⟨ma, H⟩ := H
    refine GoT.pure rfl (J01 Try.underlying22 ti26 rfl rfl l9 (ltn (t2neq 0 hO rfl) ma) (t2some 0 hO rfl l9 ma)) rfl rfl ?_
    refine GoT.stable rfl (t2head 0 hO rfl l9 ma Try.underlying26 rfl rfl) rfl rfl ?_
    refine GoT.pure rfl (J00 rfl) rfl rfl ?_
    refine GoT.both ?_ ?_
    ·skip
     replace H := H.1
     refine GoT.step rfl ((oblk (i := 2) 4 hO rfl rfl Try.underlying33 rfl rfl) _ (Same.refl _)) (Same.refl _) rfl rfl ?_
     obtain ⟨o9, H⟩ := H
     obtain ⟨pc, H⟩ := H
     refine GoT.pure rfl (J01 Try.underlying33 ti22 rfl rfl o9 (ltn (t3neqF 3 hO rfl hF257) pc) (t3someF 3 hO rfl hF257 o9 pc)) rfl rfl ?_
     refine GoT.both ?_ ?_
     ·skip
      skip
      refine GoT.step rfl ((t3headF 3 hO rfl hF257 o9 pc Try.underlying22 rfl rfl) _ (Same.refl _)) (Same.refl _) rfl rfl ?_
      skip
      have hobt := J3f (r := Rp.int .i64) (n := 1) (parts := [(0, .int .i64 (k3_251 : Int))]) (vs := [.int .i64 (k3_251 : Int)]) (xs := [(k3_251 : Int)]) rfl Try.underlying26 ti3 hO (by decide) (by kernel_rfl) (Els.cons rfl rfl (Els.nil _ _ _) (by simp [mx])) rfl
      obtain ⟨EI, Bu, jQ, nG, x6, vQ⟩ := hobt
      refine GoT.step rfl (vQ rfl) x6 rfl rfl ?_
      replace hO := jQ.own
      replace ai := ai.ch jQ.ch
      replace ad := ad.ch jQ.ch
      replace ae := ae.ch jQ.ch
      replace ab := ab.ch jQ.ch
      replace af := af.ch jQ.ch
      replace aa := aa.ch jQ.ch
      replace ag := ag.ch jQ.ch
      replace ah := ah.ch jQ.ch
      replace hB := hB.trans jQ.fr
      skip
      have fA := Stp.front 1 hO rfl
      dsimp only [eS, eZ] at fA
      replace nG := nG.ch fA.ch
      replace hO := fA.own
      replace ai := ai.ch fA.ch
      replace ad := ad.ch fA.ch
      replace ae := ae.ch fA.ch
      replace ab := ab.ch fA.ch
      replace af := af.ch fA.ch
      replace aa := aa.ch fA.ch
      replace ag := ag.ch fA.ch
      replace ah := ah.ch fA.ch
      replace hB := hB.trans fA.fr
      have hobt := t2take (hf := (Fl.int .i64)) hO l9 ma
      obtain ⟨x7, iK, x8⟩ := hobt
      replace nG := nG.ch iK.ch
      replace hO := iK.own
      replace ai := ai.ch iK.ch
      replace ad := ad.ch iK.ch
      replace ae := ae.ch iK.ch
      replace ab := ab.ch iK.ch
      replace af := af.ch iK.ch
      replace aa := aa.ch iK.ch
      replace ag := ag.ch iK.ch
      replace ah := ah.ch iK.ch
      replace hB := hB.trans iK.fr
      have qr := x8 (bl [.row 3 1 (((aB r267.toNat)) r279.toNat).1 ((ix ((ix d_253 r267)) r279).length) ((((aB r267.toNat)) r279.toNat).2) x7, t2h (Fl.int .i64) 26 3 (ps255 r267.toNat).1 ((ix d_253 r267).length) ((ps255 r267.toNat).2) ((aB r267.toNat)) ((ix d_253 r267)) r279.toNat, .row 3 1 Bu 1 1 [.int .i64 (k3_251 : Int)], famH d_253.length (lay3 (Fl.int .i64) 26 3 ps255 aB d_253) r267.toNat, t2 Fl.bool 42 4 a9 aY ba bA d_252, .row 22 1 bc a8 bg bo, .blk B38 (.cells #[.slice p60 r140.length c61, .slice p54 r152.length c55, .slice bc a8 bg, .slice a9 aY ba] 35 (0, 0)), .blk B21 (.cells #[.slice av r14.R.length aw, .slice ax r14.L.length ay, .slice am r14.J.length ao, .slice az r14.H.length aA, .slice aj r14.Below.length ak] 29 (0, 0)), .blk B2 (.cells #[.slice none 0 0, .slice none 0 0, .slice none 0 0, .slice none 0 0] 35 (0, 0))] ++ A)
      have hobt := freeze 2 hO rfl nG
      obtain ⟨hO1, kO, aC, x9⟩ := hobt
      dsimp only [eS, eZ] at hO1 kO aC
      replace ai := ai.ch kO
      replace ad := ad.ch kO
      replace ae := ae.ch kO
      replace ab := ab.ch kO
      replace af := af.ch kO
      replace aa := aa.ch kO
      replace ag := ag.ch kO
      replace ah := ah.ch kO
      replace qr := qr.ch kO
      replace hB := hB.trans (Owns.J15 _ _ 2)
      dsimp only [eS, eZ] at hB
      replace hO := hO1; clear hO1
      obtain ⟨Bv, H⟩ := H
      have hobt := oapp Try.underlying26 ti3 rfl 0 hO rfl qr aC x9 Bv (by decide)
      obtain ⟨EJ, sG, sH, Dh, fB, mY, vR⟩ := hobt
      dsimp only [sS, sZ] at fB mY
      refine GoT.stepX rfl (vR (by exact rfl) (by exact rfl)) rfl rfl rfl ?_
      replace hO := fB.own
      replace ai := ai.ch fB.ch
      replace ad := ad.ch fB.ch
      replace ae := ae.ch fB.ch
      replace ab := ab.ch fB.ch
      replace af := af.ch fB.ch
      replace aa := aa.ch fB.ch
      replace ag := ag.ch fB.ch
      replace ah := ah.ch fB.ch
      replace aC := aC.ch fB.ch
      replace hB := hB.trans fB.fr
      obtain ⟨sI, H⟩ := H
      obtain ⟨sJ, H⟩ := H
      refine GoT.pure rfl (J01 Try.underlying22 ti26 rfl rfl sI (ltn (t2neqH 1 hO rfl) sJ) (t2someH 1 hO rfl sI sJ)) rfl rfl ?_
      skip
      have b8 := Stp.front 1 hO rfl
      dsimp only [eS, eZ] at b8
      replace mY := mY.ch b8.ch
      replace hO := b8.own
      replace ai := ai.ch b8.ch
      replace ad := ad.ch b8.ch
      replace ae := ae.ch b8.ch
      replace ab := ab.ch b8.ch
      replace af := af.ch b8.ch
      replace aa := aa.ch b8.ch
      replace ag := ag.ch b8.ch
      replace ah := ah.ch b8.ch
      replace aC := aC.ch b8.ch
      replace hB := hB.trans b8.fr
      have b9 := Stp.front 1 hO rfl
      dsimp only [eS, eZ] at b9
      replace mY := mY.ch b9.ch
      replace hO := b9.own
      replace ai := ai.ch b9.ch
      replace ad := ad.ch b9.ch
      replace ae := ae.ch b9.ch
      replace ab := ab.ch b9.ch
      replace af := af.ch b9.ch
      replace aa := aa.ch b9.ch
      replace ag := ag.ch b9.ch
      replace ah := ah.ch b9.ch
      replace aC := aC.ch b9.ch
      replace hB := hB.trans b9.fr
      have hobt := t2fix (hf := (Fl.int .i64)) hO mY sI sJ rfl
      obtain ⟨EK, iL, vS⟩ := hobt
      refine GoT.stepX rfl (vS Try.underlying26 rfl ti26 (by exact rfl) (by exact rfl)) rfl rfl rfl ?_
      replace hO := iL.own
      replace ai := ai.ch iL.ch
      replace ad := ad.ch iL.ch
      replace ae := ae.ch iL.ch
      replace ab := ab.ch iL.ch
      replace af := af.ch iL.ch
      replace aa := aa.ch iL.ch
      replace ag := ag.ch iL.ch
      replace ah := ah.ch iL.ch
      replace aC := aC.ch iL.ch
      replace hB := hB.trans iL.fr
      refine GoT.nil ?_
      refine Go1.cut [(0, .slice bu a0.length bw), (1, .int .i64 a1), (4, .pointer (some ⟨B2, 0, none⟩)), (7, .pointer (some ⟨B21, 0, none⟩)), (8, .pointer (some ⟨B38, 0, none⟩)), (11, .int .i64 (k3_251 : Int)), (13, .int .i64 r267), (15, .int .i64 r279), (106, .slice am r14.J.length ao), (107, .int .i64 (r14.J.length : Int)), (108, .int .i64 (k3_251 : Int))] ⟨rfl, rfl, rfl, rfl, rfl, rfl, rfl, rfl, rfl, rfl, rfl, trivial⟩ ?_
      intro σ _
      refine Go1.drawS 1 [(0, .pure), (1, .stable), (2, .pure), (3, .pure), (4, .stable), (5, .pure), (6, .pure), (7, .stable), (8, .pure), (9, .pure), (10, .stable), (11, .pure), (12, .pure), (13, .stable), (14, .pure), (15, .pure), (16, .pure), (17, .pure), (18, .stable), (19, .pure), (20, .pure), (21, .stable), (22, .pure), (23, .pure), (24, .pure), (25, .pure), (26, .last)] mixed (by kernel_rfl) ?_
      intro EL ya
      have iM := Stp.same hO ya
      replace hO := iM.own
      replace ai := ai.ch iM.ch
      replace ad := ad.ch iM.ch
      replace ae := ae.ch iM.ch
      replace ab := ab.ch iM.ch
      replace af := af.ch iM.ch
      replace aa := aa.ch iM.ch
      replace ag := ag.ch iM.ch
      replace ah := ah.ch iM.ch
      replace aC := aC.ch iM.ch
      replace hB := hB.trans iM.fr
      refine GoQ.pure rfl (J03 Try.underlying35 rfl ti27 rfl (by decide)) rfl rfl ?_
      refine GoQ.stable rfl (oblk (i := 3) 4 hO rfl rfl Try.underlying27 rfl rfl) rfl rfl ?_
      refine GoQ.pure rfl (J00 rfl) rfl rfl ?_
      obtain ⟨mb, H⟩ := H
      obtain ⟨mf, H⟩ := H
      refine GoQ.pure rfl (J01 Try.underlying27 ti42 rfl rfl mb (ltn (t2neq 2 hO rfl) mf) (t2some 2 hO rfl mb mf)) rfl rfl ?_
      refine GoQ.stable rfl (t2head 2 hO rfl mb mf Try.underlying42 rfl rfl) rfl rfl ?_
      refine GoQ.pure rfl (J00 rfl) rfl rfl ?_
      refine GoQ.pure rfl (J03 Try.underlying35 rfl ti27 rfl (by decide)) rfl rfl ?_
      refine GoQ.stable rfl (oblk (i := 3) 4 hO rfl rfl Try.underlying27 rfl rfl) rfl rfl ?_
      refine GoQ.pure rfl (J00 rfl) rfl rfl ?_
      obtain ⟨oe, H⟩ := H
      obtain ⟨og, H⟩ := H
      refine GoQ.pure rfl (J01 Try.underlying27 ti42 rfl rfl oe (ltn (t2neq 2 hO rfl) og) (t2some 2 hO rfl oe og)) rfl rfl ?_
      refine GoQ.stable rfl (t2head 2 hO rfl oe og Try.underlying42 rfl rfl) rfl rfl ?_
      refine GoQ.pure rfl (J00 rfl) rfl rfl ?_
      obtain ⟨qt, H⟩ := H
      obtain ⟨qu, H⟩ := H
      refine GoQ.pure rfl (J01 Try.underlying42 ti4 rfl rfl qt qu (t2isome 2 hO rfl oe og qt qu)) rfl rfl ?_
      by_cases qv : ix (ix d_252 r267) r279 = true
      ·replace H := ifp qv H
       refine GoQ.stable rfl (fun w hw => opB ((t2Bool 2 hO rfl oe og qt qu Try.underlying4 rfl rfl) w hw) (qv)) rfl rfl ?_
       refine GoQ.pure rfl (J00 rfl) rfl rfl ?_
       refine GoQ.pass rfl rfl rfl ?_
       refine GoQ.pass rfl rfl rfl ?_
       refine GoQ.pass rfl rfl rfl ?_
       refine GoQ.pass rfl rfl rfl ?_
       refine GoQ.pass rfl rfl rfl ?_
       refine GoQ.pass rfl rfl rfl ?_
       refine GoQ.pass rfl rfl rfl ?_
       refine GoQ.pass rfl rfl rfl ?_
       refine GoQ.pass rfl rfl rfl ?_
       refine GoQ.pure rfl (J1J rfl rfl rfl) rfl rfl ?_
       obtain ⟨sK, H⟩ := H
       obtain ⟨sL, H⟩ := H
       refine GoQ.pure rfl (J01 Try.underlying42 ti4 rfl rfl sK sL (t2isome 2 hO rfl mb mf sK sL)) rfl rfl ?_
       have hobt := t2st (r := Rp.bool) (hf := Fl.bool) rfl 2 hO rfl mb mf sK sL (v := .bool true) (u := true) rfl rfl
       obtain ⟨EM, fC, vT⟩ := hobt
       dsimp only [sS, sZ] at fC
       refine GoQ.last rfl (vT Try.underlying4 rfl ti4 (by exact rfl) (by exact rfl)) rfl rfl ?_
       replace hO := fC.own
       replace ai := ai.ch fC.ch
       replace ad := ad.ch fC.ch
       replace ae := ae.ch fC.ch
       replace ab := ab.ch fC.ch
       replace af := af.ch fC.ch
       replace aa := aa.ch fC.ch
       replace ag := ag.ch fC.ch
       replace ah := ah.ch fC.ch
       replace aC := aC.ch fC.ch
       replace hB := hB.trans fC.fr
       refine GoQ.nil ?_
       refine Go1.inBlock ?_
       refine Go1.cut [(0, .slice bu a0.length bw), (1, .int .i64 a1), (4, .pointer (some ⟨B2, 0, none⟩)), (7, .pointer (some ⟨B21, 0, none⟩)), (8, .pointer (some ⟨B38, 0, none⟩)), (106, .slice am r14.J.length ao), (107, .int .i64 (r14.J.length : Int)), (108, .int .i64 (k3_251 : Int))] ⟨rfl, rfl, rfl, rfl, rfl, rfl, rfl, rfl, trivial⟩ ?_
       intro σ _
       refine Go1.region ?_
       refine GoR.op ((J06 rfl rfl (wrap_i64 (natbd bN ab.bd))) _) rfl rfl ?_
       refine GoR.op ((J00 rfl) _) rfl rfl ?_
       refine GoR.nil ?_
       have fD := Stp.front 1 hO rfl
       dsimp only [eS, eZ] at fD
       replace hO := fD.own
       replace ai := ai.ch fD.ch
       replace ad := ad.ch fD.ch
       replace ae := ae.ch fD.ch
       replace ab := ab.ch fD.ch
       replace af := af.ch fD.ch
       replace aa := aa.ch fD.ch
       replace ag := ag.ch fD.ch
       replace ah := ah.ch fD.ch
       replace aC := aC.ch fD.ch
       replace hB := hB.trans fD.fr
       have fE := Stp.front 1 hO rfl
       dsimp only [eS, eZ] at fE
       replace hO := fE.own
       replace ai := ai.ch fE.ch
       replace ad := ad.ch fE.ch
       replace ae := ae.ch fE.ch
       replace ab := ab.ch fE.ch
       replace af := af.ch fE.ch
       replace aa := aa.ch fE.ch
       replace ag := ag.ch fE.ch
       replace ah := ah.ch fE.ch
       replace aC := aC.ch fE.ch
       replace hB := hB.trans fE.fr
       have hobt := t3backF (hf := (Fl.int .i64)) hO hF257 bQ bS (by simp only [J02])
       obtain ⟨iN, hF348⟩ := hobt
       replace hO := iN.own
       replace ai := ai.ch iN.ch
       replace ad := ad.ch iN.ch
       replace ae := ae.ch iN.ch
       replace ab := ab.ch iN.ch
       replace af := af.ch iN.ch
       replace aa := aa.ch iN.ch
       replace ag := ag.ch iN.ch
       replace ah := ah.ch iN.ch
       replace aC := aC.ch iN.ch
       replace hB := hB.trans iN.fr
       have fF := Stp.front 5 hO rfl
       dsimp only [eS, eZ] at fF
       replace hO := fF.own
       replace ai := ai.ch fF.ch
       replace ad := ad.ch fF.ch
       replace ae := ae.ch fF.ch
       replace ab := ab.ch fF.ch
       replace af := af.ch fF.ch
       replace aa := aa.ch fF.ch
       replace ag := ag.ch fF.ch
       replace ah := ah.ch fF.ch
       replace aC := aC.ch fF.ch
       replace hB := hB.trans fF.fr
       have fG := Stp.front 5 hO rfl
       dsimp only [eS, eZ] at fG
       replace hO := fG.own
       replace ai := ai.ch fG.ch
       replace ad := ad.ch fG.ch
       replace ae := ae.ch fG.ch
       replace ab := ab.ch fG.ch
       replace af := af.ch fG.ch
       replace aa := aa.ch fG.ch
       replace ag := ag.ch fG.ch
       replace ah := ah.ch fG.ch
       replace aC := aC.ch fG.ch
       replace hB := hB.trans fG.fr
       have fH := Stp.front 5 hO rfl
       dsimp only [eS, eZ] at fH
       replace hO := fH.own
       replace ai := ai.ch fH.ch
       replace ad := ad.ch fH.ch
       replace ae := ae.ch fH.ch
       replace ab := ab.ch fH.ch
       replace af := af.ch fH.ch
       replace aa := aa.ch fH.ch
       replace ag := ag.ch fH.ch
       replace ah := ah.ch fH.ch
       replace aC := aC.ch fH.ch
       replace hB := hB.trans fH.fr
       have fI := Stp.front 3 hO rfl
       dsimp only [eS, eZ] at fI
       replace hO := fI.own
       replace ai := ai.ch fI.ch
       replace ad := ad.ch fI.ch
       replace ae := ae.ch fI.ch
       replace ab := ab.ch fI.ch
       replace af := af.ch fI.ch
       replace aa := aa.ch fI.ch
       replace ag := ag.ch fI.ch
       replace ah := ah.ch fI.ch
       replace aC := aC.ch fI.ch
       replace hB := hB.trans fI.fr
       have fJ := Stp.front 5 hO rfl
       dsimp only [eS, eZ] at fJ
       replace hO := fJ.own
       replace ai := ai.ch fJ.ch
       replace ad := ad.ch fJ.ch
       replace ae := ae.ch fJ.ch
       replace ab := ab.ch fJ.ch
       replace af := af.ch fJ.ch
       replace aa := aa.ch fJ.ch
       replace ag := ag.ch fJ.ch
       replace ah := ah.ch fJ.ch
       replace aC := aC.ch fJ.ch
       replace hB := hB.trans fJ.fr
       have fK := Stp.front 5 hO rfl
       dsimp only [eS, eZ] at fK
       replace hO := fK.own
       replace ai := ai.ch fK.ch
       replace ad := ad.ch fK.ch
       replace ae := ae.ch fK.ch
       replace ab := ab.ch fK.ch
       replace af := af.ch fK.ch
       replace aa := aa.ch fK.ch
       replace ag := ag.ch fK.ch
       replace ah := ah.ch fK.ch
       replace aC := aC.ch fK.ch
       replace hB := hB.trans fK.fr
       exact hX3 _ H _ _ ⟨bo, ps255, (fun k => if k = r267.toNat then hup ((aB r267.toNat)) r279.toNat (sG, sH) else aB k), ⟨rfl, rfl, rfl, rfl, rfl, rfl, rfl, rfl, trivial⟩, hO, hF348, ai, ad, ae, ab, af, aa, ag, ah, hB⟩
      replace H := ifn qv H
      refine GoQ.stable rfl (fun w hw => opB ((t2Bool 2 hO rfl oe og qt qu Try.underlying4 rfl rfl) w hw) (Bool.eq_false_iff.2 qv)) rfl rfl ?_
      refine GoQ.pure rfl (J00 rfl) rfl rfl ?_
      refine GoQ.pure rfl (J00 rfl) rfl rfl ?_
      refine GoQ.pure rfl (J00 rfl) rfl rfl ?_
      obtain ⟨sM, H⟩ := H
      obtain ⟨sN, H⟩ := H
      refine GoQ.pure rfl (J01 Try.underlying22 ti26 rfl rfl sM sN (ai.some_ sM sN)) rfl rfl ?_
      have hobt := ldSl ai sM sN
      obtain ⟨EO, EP, bh, yb⟩ := hobt
      refine GoQ.stable rfl (yb Try.underlying26 rfl rfl) rfl rfl ?_
      refine GoQ.pure rfl (J00 rfl) rfl rfl ?_
      obtain ⟨sO, H⟩ := H
      obtain ⟨sP, H⟩ := H
      refine GoQ.pure rfl (J01 Try.underlying26 ti3 rfl rfl sO sP (bh.some_ sO sP)) rfl rfl ?_
      refine GoQ.stable rfl (ldInt bh sO sP Try.underlying3 rfl rfl) rfl rfl ?_
      refine GoQ.pure rfl (J00 rfl) rfl rfl ?_
      by_cases qw : (ix (ix a0 (k3_251 : Int)) (k3_251 : Int)) = (k3_251 : Int)
      ·replace H := ifp qw H
       refine GoQ.pure rfl (fun w => opB (J0N rfl rfl w) (decide_eq_true qw)) rfl rfl ?_
       refine GoQ.pure rfl (J0p rfl rfl rfl) rfl rfl ?_
       obtain ⟨sQ, H⟩ := H
       obtain ⟨sR, H⟩ := H
       refine GoQ.pure rfl (J01 Try.underlying42 ti4 rfl rfl sQ sR (t2isome 2 hO rfl mb mf sQ sR)) rfl rfl ?_
       have hobt := t2st (r := Rp.bool) (hf := Fl.bool) rfl 2 hO rfl mb mf sQ sR (v := .bool true) (u := true) rfl rfl
       obtain ⟨EQ, ca, vU⟩ := hobt
       dsimp only [sS, sZ] at ca
       refine GoQ.last rfl (vU Try.underlying4 rfl ti4 (by exact rfl) (by exact rfl)) rfl rfl ?_
       replace hO := ca.own
       replace ai := ai.ch ca.ch
       replace ad := ad.ch ca.ch
       replace ae := ae.ch ca.ch
       replace ab := ab.ch ca.ch
       replace af := af.ch ca.ch
       replace aa := aa.ch ca.ch
       replace ag := ag.ch ca.ch
       replace ah := ah.ch ca.ch
       replace aC := aC.ch ca.ch
       replace bh := bh.ch ca.ch
       replace hB := hB.trans ca.fr
       refine GoQ.nil ?_
       refine Go1.inBlock ?_
       refine Go1.region ?_
       refine GoR.op ((J06 rfl rfl (wrap_i64 (natbd bN ab.bd))) _) rfl rfl ?_
       refine GoR.op ((J00 rfl) _) rfl rfl ?_
       refine GoR.nil ?_
       have cb := Stp.front 1 hO rfl
       dsimp only [eS, eZ] at cb
       replace hO := cb.own
       replace ai := ai.ch cb.ch
       replace ad := ad.ch cb.ch
       replace ae := ae.ch cb.ch
       replace ab := ab.ch cb.ch
       replace af := af.ch cb.ch
       replace aa := aa.ch cb.ch
       replace ag := ag.ch cb.ch
       replace ah := ah.ch cb.ch
       replace aC := aC.ch cb.ch
       replace bh := bh.ch cb.ch
       replace hB := hB.trans cb.fr
       have cd := Stp.front 1 hO rfl
       dsimp only [eS, eZ] at cd
       replace hO := cd.own
       replace ai := ai.ch cd.ch
       replace ad := ad.ch cd.ch
       replace ae := ae.ch cd.ch
       replace ab := ab.ch cd.ch
       replace af := af.ch cd.ch
       replace aa := aa.ch cd.ch
       replace ag := ag.ch cd.ch
       replace ah := ah.ch cd.ch
       replace aC := aC.ch cd.ch
       replace bh := bh.ch cd.ch
       replace hB := hB.trans cd.fr
       have hobt := t3backF (hf := (Fl.int .i64)) hO hF257 bQ bS (by simp only [J02])
       obtain ⟨fL, hF372⟩ := hobt
       replace hO := fL.own
       replace ai := ai.ch fL.ch
       replace ad := ad.ch fL.ch
       replace ae := ae.ch fL.ch
       replace ab := ab.ch fL.ch
       replace af := af.ch fL.ch
       replace aa := aa.ch fL.ch
       replace ag := ag.ch fL.ch
       replace ah := ah.ch fL.ch
       replace aC := aC.ch fL.ch
       replace bh := bh.ch fL.ch
       replace hB := hB.trans fL.fr
       have ce := Stp.front 5 hO rfl
       dsimp only [eS, eZ] at ce
       replace hO := ce.own
       replace ai := ai.ch ce.ch
       replace ad := ad.ch ce.ch
       replace ae := ae.ch ce.ch
       replace ab := ab.ch ce.ch
       replace af := af.ch ce.ch
       replace aa := aa.ch ce.ch
       replace ag := ag.ch ce.ch
       replace ah := ah.ch ce.ch
       replace aC := aC.ch ce.ch
       replace bh := bh.ch ce.ch
       replace hB := hB.trans ce.fr
       have cf := Stp.front 5 hO rfl
       dsimp only [eS, eZ] at cf
       replace hO := cf.own
       replace ai := ai.ch cf.ch
       replace ad := ad.ch cf.ch
       replace ae := ae.ch cf.ch
       replace ab := ab.ch cf.ch
       replace af := af.ch cf.ch
       replace aa := aa.ch cf.ch
       replace ag := ag.ch cf.ch
       replace ah := ah.ch cf.ch
       replace aC := aC.ch cf.ch
       replace bh := bh.ch cf.ch
       replace hB := hB.trans cf.fr
       have cg := Stp.front 5 hO rfl
       dsimp only [eS, eZ] at cg
       replace hO := cg.own
       replace ai := ai.ch cg.ch
       replace ad := ad.ch cg.ch
       replace ae := ae.ch cg.ch
       replace ab := ab.ch cg.ch
       replace af := af.ch cg.ch
       replace aa := aa.ch cg.ch
       replace ag := ag.ch cg.ch
       replace ah := ah.ch cg.ch
       replace aC := aC.ch cg.ch
       replace bh := bh.ch cg.ch
       replace hB := hB.trans cg.fr
       have ci := Stp.front 3 hO rfl
       dsimp only [eS, eZ] at ci
       replace hO := ci.own
       replace ai := ai.ch ci.ch
       replace ad := ad.ch ci.ch
       replace ae := ae.ch ci.ch
       replace ab := ab.ch ci.ch
       replace af := af.ch ci.ch
       replace aa := aa.ch ci.ch
       replace ag := ag.ch ci.ch
       replace ah := ah.ch ci.ch
       replace aC := aC.ch ci.ch
       replace bh := bh.ch ci.ch
       replace hB := hB.trans ci.fr
       have cj := Stp.front 5 hO rfl
       dsimp only [eS, eZ] at cj
       replace hO := cj.own
       replace ai := ai.ch cj.ch
       replace ad := ad.ch cj.ch
       replace ae := ae.ch cj.ch
       replace ab := ab.ch cj.ch
       replace af := af.ch cj.ch
       replace aa := aa.ch cj.ch
       replace ag := ag.ch cj.ch
       replace ah := ah.ch cj.ch
       replace aC := aC.ch cj.ch
       replace bh := bh.ch cj.ch
       replace hB := hB.trans cj.fr
       have ck := Stp.front 5 hO rfl
       dsimp only [eS, eZ] at ck
       replace hO := ck.own
       replace ai := ai.ch ck.ch
       replace ad := ad.ch ck.ch
       replace ae := ae.ch ck.ch
       replace ab := ab.ch ck.ch
       replace af := af.ch ck.ch
       replace aa := aa.ch ck.ch
       replace ag := ag.ch ck.ch
       replace ah := ah.ch ck.ch
       replace aC := aC.ch ck.ch
       replace bh := bh.ch ck.ch
       replace hB := hB.trans ck.fr
       exact hX3 _ H _ _ ⟨bo, ps255, (fun k => if k = r267.toNat then hup ((aB r267.toNat)) r279.toNat (sG, sH) else aB k), ⟨rfl, rfl, rfl, rfl, rfl, rfl, rfl, rfl, trivial⟩, hO, hF372, ai, ad, ae, ab, af, aa, ag, ah, hB⟩
      replace H := ifn qw H
      refine GoQ.pure rfl (fun w => opB (J0N rfl rfl w) (decide_eq_false qw)) rfl rfl ?_
      refine GoQ.pure rfl (J0p rfl rfl rfl) rfl rfl ?_
      obtain ⟨sT, H⟩ := H
      obtain ⟨sU, H⟩ := H
      refine GoQ.pure rfl (J01 Try.underlying42 ti4 rfl rfl sT sU (t2isome 2 hO rfl mb mf sT sU)) rfl rfl ?_
      have hobt := t2st (r := Rp.bool) (hf := Fl.bool) rfl 2 hO rfl mb mf sT sU (v := .bool false) (u := false) rfl rfl
      obtain ⟨ER, co, vV⟩ := hobt
      dsimp only [sS, sZ] at co
      refine GoQ.last rfl (vV Try.underlying4 rfl ti4 (by exact rfl) (by exact rfl)) rfl rfl ?_
      replace hO := co.own
      replace ai := ai.ch co.ch
      replace ad := ad.ch co.ch
      replace ae := ae.ch co.ch
      replace ab := ab.ch co.ch
      replace af := af.ch co.ch
      replace aa := aa.ch co.ch
      replace ag := ag.ch co.ch
      replace ah := ah.ch co.ch
      replace aC := aC.ch co.ch
      replace bh := bh.ch co.ch
      replace hB := hB.trans co.fr
      refine GoQ.nil ?_
      refine Go1.inBlock ?_
      refine Go1.cut [(0, .slice bu a0.length bw), (1, .int .i64 a1), (4, .pointer (some ⟨B2, 0, none⟩)), (7, .pointer (some ⟨B21, 0, none⟩)), (8, .pointer (some ⟨B38, 0, none⟩)), (106, .slice am r14.J.length ao), (107, .int .i64 (r14.J.length : Int)), (108, .int .i64 (k3_251 : Int))] ⟨rfl, rfl, rfl, rfl, rfl, rfl, rfl, rfl, trivial⟩ ?_
      intro σ _
      refine Go1.region ?_
      refine GoR.op ((J06 rfl rfl (wrap_i64 (natbd bN ab.bd))) _) rfl rfl ?_
      refine GoR.op ((J00 rfl) _) rfl rfl ?_
      refine GoR.nil ?_
      have cp := Stp.front 1 hO rfl
      dsimp only [eS, eZ] at cp
      replace hO := cp.own
      replace ai := ai.ch cp.ch
      replace ad := ad.ch cp.ch
      replace ae := ae.ch cp.ch
      replace ab := ab.ch cp.ch
      replace af := af.ch cp.ch
      replace aa := aa.ch cp.ch
      replace ag := ag.ch cp.ch
      replace ah := ah.ch cp.ch
      replace aC := aC.ch cp.ch
      replace bh := bh.ch cp.ch
      replace hB := hB.trans cp.fr
      have cq := Stp.front 1 hO rfl
      dsimp only [eS, eZ] at cq
      replace hO := cq.own
      replace ai := ai.ch cq.ch
      replace ad := ad.ch cq.ch
      replace ae := ae.ch cq.ch
      replace ab := ab.ch cq.ch
      replace af := af.ch cq.ch
      replace aa := aa.ch cq.ch
      replace ag := ag.ch cq.ch
      replace ah := ah.ch cq.ch
      replace aC := aC.ch cq.ch
      replace bh := bh.ch cq.ch
      replace hB := hB.trans cq.fr
      have hobt := t3backF (hf := (Fl.int .i64)) hO hF257 bQ bS (by simp only [J02])
      obtain ⟨fM, hF387⟩ := hobt
      replace hO := fM.own
      replace ai := ai.ch fM.ch
      replace ad := ad.ch fM.ch
      replace ae := ae.ch fM.ch
      replace ab := ab.ch fM.ch
      replace af := af.ch fM.ch
      replace aa := aa.ch fM.ch
      replace ag := ag.ch fM.ch
      replace ah := ah.ch fM.ch
      replace aC := aC.ch fM.ch
      replace bh := bh.ch fM.ch
      replace hB := hB.trans fM.fr
      have cv := Stp.front 5 hO rfl
      dsimp only [eS, eZ] at cv
      replace hO := cv.own
      replace ai := ai.ch cv.ch
      replace ad := ad.ch cv.ch
      replace ae := ae.ch cv.ch
      replace ab := ab.ch cv.ch
      replace af := af.ch cv.ch
      replace aa := aa.ch cv.ch
      replace ag := ag.ch cv.ch
      replace ah := ah.ch cv.ch
      replace aC := aC.ch cv.ch
      replace bh := bh.ch cv.ch
      replace hB := hB.trans cv.fr
      have cw := Stp.front 5 hO rfl
      dsimp only [eS, eZ] at cw
      replace hO := cw.own
      replace ai := ai.ch cw.ch
      replace ad := ad.ch cw.ch
      replace ae := ae.ch cw.ch
      replace ab := ab.ch cw.ch
      replace af := af.ch cw.ch
      replace aa := aa.ch cw.ch
      replace ag := ag.ch cw.ch
      replace ah := ah.ch cw.ch
      replace aC := aC.ch cw.ch
      replace bh := bh.ch cw.ch
      replace hB := hB.trans cw.fr
      have cx := Stp.front 5 hO rfl
      dsimp only [eS, eZ] at cx
      replace hO := cx.own
      replace ai := ai.ch cx.ch
      replace ad := ad.ch cx.ch
      replace ae := ae.ch cx.ch
      replace ab := ab.ch cx.ch
      replace af := af.ch cx.ch
      replace aa := aa.ch cx.ch
      replace ag := ag.ch cx.ch
      replace ah := ah.ch cx.ch
      replace aC := aC.ch cx.ch
      replace bh := bh.ch cx.ch
      replace hB := hB.trans cx.fr
      have cy := Stp.front 3 hO rfl
      dsimp only [eS, eZ] at cy
      replace hO := cy.own
      replace ai := ai.ch cy.ch
      replace ad := ad.ch cy.ch
      replace ae := ae.ch cy.ch
      replace ab := ab.ch cy.ch
      replace af := af.ch cy.ch
      replace aa := aa.ch cy.ch
      replace ag := ag.ch cy.ch
      replace ah := ah.ch cy.ch
      replace aC := aC.ch cy.ch
      replace bh := bh.ch cy.ch
      replace hB := hB.trans cy.fr
      have cz := Stp.front 5 hO rfl
      dsimp only [eS, eZ] at cz
      replace hO := cz.own
      replace ai := ai.ch cz.ch
      replace ad := ad.ch cz.ch
      replace ae := ae.ch cz.ch
      replace ab := ab.ch cz.ch
      replace af := af.ch cz.ch
      replace aa := aa.ch cz.ch
      replace ag := ag.ch cz.ch
      replace ah := ah.ch cz.ch
      replace aC := aC.ch cz.ch
      replace bh := bh.ch cz.ch
      replace hB := hB.trans cz.fr
      have cA := Stp.front 5 hO rfl
      dsimp only [eS, eZ] at cA
      replace hO := cA.own
      replace ai := ai.ch cA.ch
      replace ad := ad.ch cA.ch
      replace ae := ae.ch cA.ch
      replace ab := ab.ch cA.ch
      replace af := af.ch cA.ch
      replace aa := aa.ch cA.ch
      replace ag := ag.ch cA.ch
      replace ah := ah.ch cA.ch
      replace aC := aC.ch cA.ch
      replace bh := bh.ch cA.ch
      replace hB := hB.trans cA.fr
      exact hX3 _ H _ _ ⟨bo, ps255, (fun k => if k = r267.toNat then hup ((aB r267.toNat)) r279.toNat (sG, sH) else aB k), ⟨rfl, rfl, rfl, rfl, rfl, rfl, rfl, rfl, trivial⟩, hO, hF387, ai, ad, ae, ab, af, aa, ag, ah, hB⟩
     skip
     have hobt := J3f (r := Rp.int .i64) (n := 1) (parts := [(0, .int .i64 (k3_251 : Int))]) (vs := [.int .i64 (k3_251 : Int)]) (xs := [(k3_251 : Int)]) rfl Try.underlying26 ti3 hO (by decide) (by kernel_rfl) (Els.cons rfl rfl (Els.nil _ _ _) (by simp [mx])) rfl
     obtain ⟨ES, vW, jR, kP, yc, vX⟩ := hobt
     refine GoT.step rfl (vX rfl) yc rfl rfl ?_
     replace hO := jR.own
     replace ai := ai.ch jR.ch
     replace ad := ad.ch jR.ch
     replace ae := ae.ch jR.ch
     replace ab := ab.ch jR.ch
     replace af := af.ch jR.ch
     replace aa := aa.ch jR.ch
     replace ag := ag.ch jR.ch
     replace ah := ah.ch jR.ch
     replace hB := hB.trans jR.fr
     refine GoT.both ?_ ?_
     ·skip
      skip
      refine GoT.step rfl ((t3headF 4 hO rfl hF257 o9 pc Try.underlying22 rfl rfl) _ (Same.refl _)) (Same.refl _) rfl rfl ?_
      skip
      have fN := Stp.front 1 hO rfl
      dsimp only [eS, eZ] at fN
      replace kP := kP.ch fN.ch
      replace hO := fN.own
      replace ai := ai.ch fN.ch
      replace ad := ad.ch fN.ch
      replace ae := ae.ch fN.ch
      replace ab := ab.ch fN.ch
      replace af := af.ch fN.ch
      replace aa := aa.ch fN.ch
      replace ag := ag.ch fN.ch
      replace ah := ah.ch fN.ch
      replace hB := hB.trans fN.fr
      have hobt := t2take (hf := (Fl.int .i64)) hO l9 ma
      obtain ⟨yd, iO, ye⟩ := hobt
      replace kP := kP.ch iO.ch
      replace hO := iO.own
      replace ai := ai.ch iO.ch
      replace ad := ad.ch iO.ch
      replace ae := ae.ch iO.ch
      replace ab := ab.ch iO.ch
      replace af := af.ch iO.ch
      replace aa := aa.ch iO.ch
      replace ag := ag.ch iO.ch
      replace ah := ah.ch iO.ch
      replace hB := hB.trans iO.fr
      have qz := ye (bl [.row 3 1 (((aB r267.toNat)) r279.toNat).1 ((ix ((ix d_253 r267)) r279).length) ((((aB r267.toNat)) r279.toNat).2) yd, t2h (Fl.int .i64) 26 3 (ps255 r267.toNat).1 ((ix d_253 r267).length) ((ps255 r267.toNat).2) ((aB r267.toNat)) ((ix d_253 r267)) r279.toNat, .row 3 1 vW 1 1 [.int .i64 (k3_251 : Int)], famH d_253.length (lay3 (Fl.int .i64) 26 3 ps255 aB d_253) r267.toNat, t2 Fl.bool 42 4 a9 aY ba bA d_252, .row 22 1 bc a8 bg bo, .blk B38 (.cells #[.slice p60 r140.length c61, .slice p54 r152.length c55, .slice bc a8 bg, .slice a9 aY ba] 35 (0, 0)), .blk B21 (.cells #[.slice av r14.R.length aw, .slice ax r14.L.length ay, .slice am r14.J.length ao, .slice az r14.H.length aA, .slice aj r14.Below.length ak] 29 (0, 0)), .blk B2 (.cells #[.slice none 0 0, .slice none 0 0, .slice none 0 0, .slice none 0 0] 35 (0, 0))] ++ A)
      have hobt := freeze 2 hO rfl kP
      obtain ⟨hO1, kQ, aD, yf⟩ := hobt
      dsimp only [eS, eZ] at hO1 kQ aD
      replace ai := ai.ch kQ
      replace ad := ad.ch kQ
      replace ae := ae.ch kQ
      replace ab := ab.ch kQ
      replace af := af.ch kQ
      replace aa := aa.ch kQ
      replace ag := ag.ch kQ
      replace ah := ah.ch kQ
      replace qz := qz.ch kQ
      replace hB := hB.trans (Owns.J15 _ _ 2)
      dsimp only [eS, eZ] at hB
      replace hO := hO1; clear hO1
      obtain ⟨Bw, H⟩ := H
      have hobt := oapp Try.underlying26 ti3 rfl 0 hO rfl qz aD yf Bw (by decide)
      obtain ⟨ET, sV, sW, Di, fO, m6, vY⟩ := hobt
      dsimp only [sS, sZ] at fO m6
      refine GoT.stepX rfl (vY (by exact rfl) (by exact rfl)) rfl rfl rfl ?_
      replace hO := fO.own
      replace ai := ai.ch fO.ch
      replace ad := ad.ch fO.ch
      replace ae := ae.ch fO.ch
      replace ab := ab.ch fO.ch
      replace af := af.ch fO.ch
      replace aa := aa.ch fO.ch
      replace ag := ag.ch fO.ch
      replace ah := ah.ch fO.ch
      replace aD := aD.ch fO.ch
      replace hB := hB.trans fO.fr
      obtain ⟨sX, H⟩ := H
      obtain ⟨sY, H⟩ := H
      refine GoT.pure rfl (J01 Try.underlying22 ti26 rfl rfl sX (ltn (t2neqH 1 hO rfl) sY) (t2someH 1 hO rfl sX sY)) rfl rfl ?_
      skip
      have cB := Stp.front 1 hO rfl
      dsimp only [eS, eZ] at cB
      replace m6 := m6.ch cB.ch
      replace hO := cB.own
      replace ai := ai.ch cB.ch
      replace ad := ad.ch cB.ch
      replace ae := ae.ch cB.ch
      replace ab := ab.ch cB.ch
      replace af := af.ch cB.ch
      replace aa := aa.ch cB.ch
      replace ag := ag.ch cB.ch
      replace ah := ah.ch cB.ch
      replace aD := aD.ch cB.ch
      replace hB := hB.trans cB.fr
      have cC := Stp.front 1 hO rfl
      dsimp only [eS, eZ] at cC
      replace m6 := m6.ch cC.ch
      replace hO := cC.own
      replace ai := ai.ch cC.ch
      replace ad := ad.ch cC.ch
      replace ae := ae.ch cC.ch
      replace ab := ab.ch cC.ch
      replace af := af.ch cC.ch
      replace aa := aa.ch cC.ch
      replace ag := ag.ch cC.ch
      replace ah := ah.ch cC.ch
      replace aD := aD.ch cC.ch
      replace hB := hB.trans cC.fr
      have hobt := t2fix (hf := (Fl.int .i64)) hO m6 sX sY rfl
      obtain ⟨EU, iP, v6⟩ := hobt
      refine GoT.stepX rfl (v6 Try.underlying26 rfl ti26 (by exact rfl) (by exact rfl)) rfl rfl rfl ?_
      replace hO := iP.own
      replace ai := ai.ch iP.ch
      replace ad := ad.ch iP.ch
      replace ae := ae.ch iP.ch
      replace ab := ab.ch iP.ch
      replace af := af.ch iP.ch
      replace aa := aa.ch iP.ch
      replace ag := ag.ch iP.ch
      replace ah := ah.ch iP.ch
      replace aD := aD.ch iP.ch
      replace hB := hB.trans iP.fr
      refine GoT.nil ?_
      refine Go1.drawS 1 [(0, .pure), (1, .stable), (2, .pure), (3, .pure), (4, .stable), (5, .pure), (6, .pure), (7, .stable), (8, .pure), (9, .pure), (10, .stable), (11, .pure), (12, .pure), (13, .stable), (14, .pure), (15, .pure), (16, .pure), (17, .pure), (18, .stable), (19, .pure), (20, .pure), (21, .stable), (22, .pure), (23, .pure), (24, .pure), (25, .pure), (26, .last)] mixed (by kernel_rfl) ?_
      intro EV yg
      have iQ := Stp.same hO yg
      replace hO := iQ.own
      replace ai := ai.ch iQ.ch
      replace ad := ad.ch iQ.ch
      replace ae := ae.ch iQ.ch
      replace ab := ab.ch iQ.ch
      replace af := af.ch iQ.ch
      replace aa := aa.ch iQ.ch
      replace ag := ag.ch iQ.ch
      replace ah := ah.ch iQ.ch
      replace aD := aD.ch iQ.ch
      replace hB := hB.trans iQ.fr
      refine GoQ.pure rfl (J03 Try.underlying35 rfl ti27 rfl (by decide)) rfl rfl ?_
      refine GoQ.stable rfl (oblk (i := 3) 4 hO rfl rfl Try.underlying27 rfl rfl) rfl rfl ?_
      refine GoQ.pure rfl (J00 rfl) rfl rfl ?_
      obtain ⟨mg, H⟩ := H
      obtain ⟨mh, H⟩ := H
      refine GoQ.pure rfl (J01 Try.underlying27 ti42 rfl rfl mg (ltn (t2neq 2 hO rfl) mh) (t2some 2 hO rfl mg mh)) rfl rfl ?_
      refine GoQ.stable rfl (t2head 2 hO rfl mg mh Try.underlying42 rfl rfl) rfl rfl ?_
      refine GoQ.pure rfl (J00 rfl) rfl rfl ?_
      refine GoQ.pure rfl (J03 Try.underlying35 rfl ti27 rfl (by decide)) rfl rfl ?_
      refine GoQ.stable rfl (oblk (i := 3) 4 hO rfl rfl Try.underlying27 rfl rfl) rfl rfl ?_
      refine GoQ.pure rfl (J00 rfl) rfl rfl ?_
      obtain ⟨oh, H⟩ := H
      obtain ⟨ol, H⟩ := H
      refine GoQ.pure rfl (J01 Try.underlying27 ti42 rfl rfl oh (ltn (t2neq 2 hO rfl) ol) (t2some 2 hO rfl oh ol)) rfl rfl ?_
      refine GoQ.stable rfl (t2head 2 hO rfl oh ol Try.underlying42 rfl rfl) rfl rfl ?_
      refine GoQ.pure rfl (J00 rfl) rfl rfl ?_
      obtain ⟨qA, H⟩ := H
      obtain ⟨qB, H⟩ := H
      refine GoQ.pure rfl (J01 Try.underlying42 ti4 rfl rfl qA qB (t2isome 2 hO rfl oh ol qA qB)) rfl rfl ?_
      by_cases qC : ix (ix d_252 r267) r279 = true
      ·replace H := ifp qC H
       refine GoQ.stable rfl (fun w hw => opB ((t2Bool 2 hO rfl oh ol qA qB Try.underlying4 rfl rfl) w hw) (qC)) rfl rfl ?_
       refine GoQ.pure rfl (J00 rfl) rfl rfl ?_
       refine GoQ.pass rfl rfl rfl ?_
       refine GoQ.pass rfl rfl rfl ?_
       refine GoQ.pass rfl rfl rfl ?_
       refine GoQ.pass rfl rfl rfl ?_
       refine GoQ.pass rfl rfl rfl ?_
       refine GoQ.pass rfl rfl rfl ?_
       refine GoQ.pass rfl rfl rfl ?_
       refine GoQ.pass rfl rfl rfl ?_
       refine GoQ.pass rfl rfl rfl ?_
       refine GoQ.pure rfl (J1J rfl rfl rfl) rfl rfl ?_
       obtain ⟨ta, H⟩ := H
       obtain ⟨tc, H⟩ := H
       refine GoQ.pure rfl (J01 Try.underlying42 ti4 rfl rfl ta tc (t2isome 2 hO rfl mg mh ta tc)) rfl rfl ?_
       have hobt := t2st (r := Rp.bool) (hf := Fl.bool) rfl 2 hO rfl mg mh ta tc (v := .bool true) (u := true) rfl rfl
       obtain ⟨EW, fP, v7⟩ := hobt
       dsimp only [sS, sZ] at fP
       refine GoQ.last rfl (v7 Try.underlying4 rfl ti4 (by exact rfl) (by exact rfl)) rfl rfl ?_
       replace hO := fP.own
       replace ai := ai.ch fP.ch
       replace ad := ad.ch fP.ch
       replace ae := ae.ch fP.ch
       replace ab := ab.ch fP.ch
       replace af := af.ch fP.ch
       replace aa := aa.ch fP.ch
       replace ag := ag.ch fP.ch
       replace ah := ah.ch fP.ch
       replace aD := aD.ch fP.ch
       replace hB := hB.trans fP.fr
       refine GoQ.nil ?_
       refine Go1.inBlock ?_
       refine Go1.cut [(0, .slice bu a0.length bw), (1, .int .i64 a1), (4, .pointer (some ⟨B2, 0, none⟩)), (7, .pointer (some ⟨B21, 0, none⟩)), (8, .pointer (some ⟨B38, 0, none⟩)), (106, .slice am r14.J.length ao), (107, .int .i64 (r14.J.length : Int)), (108, .int .i64 (k3_251 : Int))] ⟨rfl, rfl, rfl, rfl, rfl, rfl, rfl, rfl, trivial⟩ ?_
       intro σ _
       refine Go1.region ?_
       refine GoR.op ((J06 rfl rfl (wrap_i64 (natbd bN ab.bd))) _) rfl rfl ?_
       refine GoR.op ((J00 rfl) _) rfl rfl ?_
       refine GoR.nil ?_
       have fQ := Stp.front 1 hO rfl
       dsimp only [eS, eZ] at fQ
       replace hO := fQ.own
       replace ai := ai.ch fQ.ch
       replace ad := ad.ch fQ.ch
       replace ae := ae.ch fQ.ch
       replace ab := ab.ch fQ.ch
       replace af := af.ch fQ.ch
       replace aa := aa.ch fQ.ch
       replace ag := ag.ch fQ.ch
       replace ah := ah.ch fQ.ch
       replace aD := aD.ch fQ.ch
       replace hB := hB.trans fQ.fr
       have fR := Stp.front 1 hO rfl
       dsimp only [eS, eZ] at fR
       replace hO := fR.own
       replace ai := ai.ch fR.ch
       replace ad := ad.ch fR.ch
       replace ae := ae.ch fR.ch
       replace ab := ab.ch fR.ch
       replace af := af.ch fR.ch
       replace aa := aa.ch fR.ch
       replace ag := ag.ch fR.ch
       replace ah := ah.ch fR.ch
       replace aD := aD.ch fR.ch
       replace hB := hB.trans fR.fr
       have hobt := t3backF (hf := (Fl.int .i64)) hO hF257 bQ bS (by simp only [J02])
       obtain ⟨iR, hF444⟩ := hobt
       replace hO := iR.own
       replace ai := ai.ch iR.ch
       replace ad := ad.ch iR.ch
       replace ae := ae.ch iR.ch
       replace ab := ab.ch iR.ch
       replace af := af.ch iR.ch
       replace aa := aa.ch iR.ch
       replace ag := ag.ch iR.ch
       replace ah := ah.ch iR.ch
       replace aD := aD.ch iR.ch
       replace hB := hB.trans iR.fr
       have fS := Stp.front 5 hO rfl
       dsimp only [eS, eZ] at fS
       replace hO := fS.own
       replace ai := ai.ch fS.ch
       replace ad := ad.ch fS.ch
       replace ae := ae.ch fS.ch
       replace ab := ab.ch fS.ch
       replace af := af.ch fS.ch
       replace aa := aa.ch fS.ch
       replace ag := ag.ch fS.ch
       replace ah := ah.ch fS.ch
       replace aD := aD.ch fS.ch
       replace hB := hB.trans fS.fr
       have fT := Stp.front 5 hO rfl
       dsimp only [eS, eZ] at fT
       replace hO := fT.own
       replace ai := ai.ch fT.ch
       replace ad := ad.ch fT.ch
       replace ae := ae.ch fT.ch
       replace ab := ab.ch fT.ch
       replace af := af.ch fT.ch
       replace aa := aa.ch fT.ch
       replace ag := ag.ch fT.ch
       replace ah := ah.ch fT.ch
       replace aD := aD.ch fT.ch
       replace hB := hB.trans fT.fr
       have fU := Stp.front 5 hO rfl
       dsimp only [eS, eZ] at fU
       replace hO := fU.own
       replace ai := ai.ch fU.ch
       replace ad := ad.ch fU.ch
       replace ae := ae.ch fU.ch
       replace ab := ab.ch fU.ch
       replace af := af.ch fU.ch
       replace aa := aa.ch fU.ch
       replace ag := ag.ch fU.ch
       replace ah := ah.ch fU.ch
       replace aD := aD.ch fU.ch
       replace hB := hB.trans fU.fr
       have fV := Stp.front 3 hO rfl
       dsimp only [eS, eZ] at fV
       replace hO := fV.own
       replace ai := ai.ch fV.ch
       replace ad := ad.ch fV.ch
       replace ae := ae.ch fV.ch
       replace ab := ab.ch fV.ch
       replace af := af.ch fV.ch
       replace aa := aa.ch fV.ch
       replace ag := ag.ch fV.ch
       replace ah := ah.ch fV.ch
       replace aD := aD.ch fV.ch
       replace hB := hB.trans fV.fr
       have fW := Stp.front 5 hO rfl
       dsimp only [eS, eZ] at fW
       replace hO := fW.own
       replace ai := ai.ch fW.ch
       replace ad := ad.ch fW.ch
       replace ae := ae.ch fW.ch
       replace ab := ab.ch fW.ch
       replace af := af.ch fW.ch
       replace aa := aa.ch fW.ch
       replace ag := ag.ch fW.ch
       replace ah := ah.ch fW.ch
       replace aD := aD.ch fW.ch
       replace hB := hB.trans fW.fr
       have fX := Stp.front 5 hO rfl
       dsimp only [eS, eZ] at fX
       replace hO := fX.own
       replace ai := ai.ch fX.ch
       replace ad := ad.ch fX.ch
       replace ae := ae.ch fX.ch
       replace ab := ab.ch fX.ch
       replace af := af.ch fX.ch
       replace aa := aa.ch fX.ch
       replace ag := ag.ch fX.ch
       replace ah := ah.ch fX.ch
       replace aD := aD.ch fX.ch
       replace hB := hB.trans fX.fr
       exact hX3 _ H _ _ ⟨bo, ps255, (fun k => if k = r267.toNat then hup ((aB r267.toNat)) r279.toNat (sV, sW) else aB k), ⟨rfl, rfl, rfl, rfl, rfl, rfl, rfl, rfl, trivial⟩, hO, hF444, ai, ad, ae, ab, af, aa, ag, ah, hB⟩
      replace H := ifn qC H
      refine GoQ.stable rfl (fun w hw => opB ((t2Bool 2 hO rfl oh ol qA qB Try.underlying4 rfl rfl) w hw) (Bool.eq_false_iff.2 qC)) rfl rfl ?_
      refine GoQ.pure rfl (J00 rfl) rfl rfl ?_
      refine GoQ.pure rfl (J00 rfl) rfl rfl ?_
      refine GoQ.pure rfl (J00 rfl) rfl rfl ?_
      obtain ⟨te, H⟩ := H
      obtain ⟨tf, H⟩ := H
      refine GoQ.pure rfl (J01 Try.underlying22 ti26 rfl rfl te tf (ai.some_ te tf)) rfl rfl ?_
      have hobt := ldSl ai te tf
      obtain ⟨EX, EY, bi, yh⟩ := hobt
      refine GoQ.stable rfl (yh Try.underlying26 rfl rfl) rfl rfl ?_
      refine GoQ.pure rfl (J00 rfl) rfl rfl ?_
      obtain ⟨tg, H⟩ := H
      obtain ⟨tj, H⟩ := H
      refine GoQ.pure rfl (J01 Try.underlying26 ti3 rfl rfl tg tj (bi.some_ tg tj)) rfl rfl ?_
      refine GoQ.stable rfl (ldInt bi tg tj Try.underlying3 rfl rfl) rfl rfl ?_
      refine GoQ.pure rfl (J00 rfl) rfl rfl ?_
      by_cases qD : (ix (ix a0 (k3_251 : Int)) (k3_251 : Int)) = (k3_251 : Int)
      ·replace H := ifp qD H
       refine GoQ.pure rfl (fun w => opB (J0N rfl rfl w) (decide_eq_true qD)) rfl rfl ?_
       refine GoQ.pure rfl (J0p rfl rfl rfl) rfl rfl ?_
       obtain ⟨tm, H⟩ := H
       obtain ⟨tn, H⟩ := H
       refine GoQ.pure rfl (J01 Try.underlying42 ti4 rfl rfl tm tn (t2isome 2 hO rfl mg mh tm tn)) rfl rfl ?_
       have hobt := t2st (r := Rp.bool) (hf := Fl.bool) rfl 2 hO rfl mg mh tm tn (v := .bool true) (u := true) rfl rfl
       obtain ⟨E0, cD, v8⟩ := hobt
       dsimp only [sS, sZ] at cD
       refine GoQ.last rfl (v8 Try.underlying4 rfl ti4 (by exact rfl) (by exact rfl)) rfl rfl ?_
       replace hO := cD.own
       replace ai := ai.ch cD.ch
       replace ad := ad.ch cD.ch
       replace ae := ae.ch cD.ch
       replace ab := ab.ch cD.ch
       replace af := af.ch cD.ch
       replace aa := aa.ch cD.ch
       replace ag := ag.ch cD.ch
       replace ah := ah.ch cD.ch
       replace aD := aD.ch cD.ch
       replace bi := bi.ch cD.ch
       replace hB := hB.trans cD.fr
       refine GoQ.nil ?_
       refine Go1.inBlock ?_
       refine Go1.region ?_
       refine GoR.op ((J06 rfl rfl (wrap_i64 (natbd bN ab.bd))) _) rfl rfl ?_
       refine GoR.op ((J00 rfl) _) rfl rfl ?_
       refine GoR.nil ?_
       have cE := Stp.front 1 hO rfl
       dsimp only [eS, eZ] at cE
       replace hO := cE.own
       replace ai := ai.ch cE.ch
       replace ad := ad.ch cE.ch
       replace ae := ae.ch cE.ch
       replace ab := ab.ch cE.ch
       replace af := af.ch cE.ch
       replace aa := aa.ch cE.ch
       replace ag := ag.ch cE.ch
       replace ah := ah.ch cE.ch
       replace aD := aD.ch cE.ch
       replace bi := bi.ch cE.ch
       replace hB := hB.trans cE.fr
       have cG := Stp.front 1 hO rfl
       dsimp only [eS, eZ] at cG
       replace hO := cG.own
       replace ai := ai.ch cG.ch
       replace ad := ad.ch cG.ch
       replace ae := ae.ch cG.ch
       replace ab := ab.ch cG.ch
       replace af := af.ch cG.ch
       replace aa := aa.ch cG.ch
       replace ag := ag.ch cG.ch
       replace ah := ah.ch cG.ch
       replace aD := aD.ch cG.ch
       replace bi := bi.ch cG.ch
       replace hB := hB.trans cG.fr
       have hobt := t3backF (hf := (Fl.int .i64)) hO hF257 bQ bS (by simp only [J02])
       obtain ⟨fY, hF468⟩ := hobt
       replace hO := fY.own
       replace ai := ai.ch fY.ch
       replace ad := ad.ch fY.ch
       replace ae := ae.ch fY.ch
       replace ab := ab.ch fY.ch
       replace af := af.ch fY.ch
       replace aa := aa.ch fY.ch
       replace ag := ag.ch fY.ch
       replace ah := ah.ch fY.ch
       replace aD := aD.ch fY.ch
       replace bi := bi.ch fY.ch
       replace hB := hB.trans fY.fr
       have cH := Stp.front 5 hO rfl
       dsimp only [eS, eZ] at cH
       replace hO := cH.own
       replace ai := ai.ch cH.ch
       replace ad := ad.ch cH.ch
       replace ae := ae.ch cH.ch
       replace ab := ab.ch cH.ch
       replace af := af.ch cH.ch
       replace aa := aa.ch cH.ch
       replace ag := ag.ch cH.ch
       replace ah := ah.ch cH.ch
       replace aD := aD.ch cH.ch
       replace bi := bi.ch cH.ch
       replace hB := hB.trans cH.fr
       have cI := Stp.front 5 hO rfl
       dsimp only [eS, eZ] at cI
       replace hO := cI.own
       replace ai := ai.ch cI.ch
       replace ad := ad.ch cI.ch
       replace ae := ae.ch cI.ch
       replace ab := ab.ch cI.ch
       replace af := af.ch cI.ch
       replace aa := aa.ch cI.ch
       replace ag := ag.ch cI.ch
       replace ah := ah.ch cI.ch
       replace aD := aD.ch cI.ch
       replace bi := bi.ch cI.ch
       replace hB := hB.trans cI.fr
       have cJ := Stp.front 5 hO rfl
       dsimp only [eS, eZ] at cJ
       replace hO := cJ.own
       replace ai := ai.ch cJ.ch
       replace ad := ad.ch cJ.ch
       replace ae := ae.ch cJ.ch
       replace ab := ab.ch cJ.ch
       replace af := af.ch cJ.ch
       replace aa := aa.ch cJ.ch
       replace ag := ag.ch cJ.ch
       replace ah := ah.ch cJ.ch
       replace aD := aD.ch cJ.ch
       replace bi := bi.ch cJ.ch
       replace hB := hB.trans cJ.fr
       have cK := Stp.front 3 hO rfl
       dsimp only [eS, eZ] at cK
       replace hO := cK.own
       replace ai := ai.ch cK.ch
       replace ad := ad.ch cK.ch
       replace ae := ae.ch cK.ch
       replace ab := ab.ch cK.ch
       replace af := af.ch cK.ch
       replace aa := aa.ch cK.ch
       replace ag := ag.ch cK.ch
       replace ah := ah.ch cK.ch
       replace aD := aD.ch cK.ch
       replace bi := bi.ch cK.ch
       replace hB := hB.trans cK.fr
       have cL := Stp.front 5 hO rfl
       dsimp only [eS, eZ] at cL
       replace hO := cL.own
       replace ai := ai.ch cL.ch
       replace ad := ad.ch cL.ch
       replace ae := ae.ch cL.ch
       replace ab := ab.ch cL.ch
       replace af := af.ch cL.ch
       replace aa := aa.ch cL.ch
       replace ag := ag.ch cL.ch
       replace ah := ah.ch cL.ch
       replace aD := aD.ch cL.ch
       replace bi := bi.ch cL.ch
       replace hB := hB.trans cL.fr
       have cM := Stp.front 5 hO rfl
       dsimp only [eS, eZ] at cM
       replace hO := cM.own
       replace ai := ai.ch cM.ch
       replace ad := ad.ch cM.ch
       replace ae := ae.ch cM.ch
       replace ab := ab.ch cM.ch
       replace af := af.ch cM.ch
       replace aa := aa.ch cM.ch
       replace ag := ag.ch cM.ch
       replace ah := ah.ch cM.ch
       replace aD := aD.ch cM.ch
       replace bi := bi.ch cM.ch
       replace hB := hB.trans cM.fr
       exact hX3 _ H _ _ ⟨bo, ps255, (fun k => if k = r267.toNat then hup ((aB r267.toNat)) r279.toNat (sV, sW) else aB k), ⟨rfl, rfl, rfl, rfl, rfl, rfl, rfl, rfl, trivial⟩, hO, hF468, ai, ad, ae, ab, af, aa, ag, ah, hB⟩
      replace H := ifn qD H
      refine GoQ.pure rfl (fun w => opB (J0N rfl rfl w) (decide_eq_false qD)) rfl rfl ?_
      refine GoQ.pure rfl (J0p rfl rfl rfl) rfl rfl ?_
      obtain ⟨tp, H⟩ := H
      obtain ⟨tq, H⟩ := H
      refine GoQ.pure rfl (J01 Try.underlying42 ti4 rfl rfl tp tq (t2isome 2 hO rfl mg mh tp tq)) rfl rfl ?_
      have hobt := t2st (r := Rp.bool) (hf := Fl.bool) rfl 2 hO rfl mg mh tp tq (v := .bool false) (u := false) rfl rfl
      obtain ⟨E3, cN, v9⟩ := hobt
      dsimp only [sS, sZ] at cN
      refine GoQ.last rfl (v9 Try.underlying4 rfl ti4 (by exact rfl) (by exact rfl)) rfl rfl ?_
      replace hO := cN.own
      replace ai := ai.ch cN.ch
      replace ad := ad.ch cN.ch
      replace ae := ae.ch cN.ch
      replace ab := ab.ch cN.ch
      replace af := af.ch cN.ch
      replace aa := aa.ch cN.ch
      replace ag := ag.ch cN.ch
      replace ah := ah.ch cN.ch
      replace aD := aD.ch cN.ch
      replace bi := bi.ch cN.ch
      replace hB := hB.trans cN.fr
      refine GoQ.nil ?_
      refine Go1.inBlock ?_
      refine Go1.cut [(0, .slice bu a0.length bw), (1, .int .i64 a1), (4, .pointer (some ⟨B2, 0, none⟩)), (7, .pointer (some ⟨B21, 0, none⟩)), (8, .pointer (some ⟨B38, 0, none⟩)), (106, .slice am r14.J.length ao), (107, .int .i64 (r14.J.length : Int)), (108, .int .i64 (k3_251 : Int))] ⟨rfl, rfl, rfl, rfl, rfl, rfl, rfl, rfl, trivial⟩ ?_
      intro σ _
      refine Go1.region ?_
      refine GoR.op ((J06 rfl rfl (wrap_i64 (natbd bN ab.bd))) _) rfl rfl ?_
      refine GoR.op ((J00 rfl) _) rfl rfl ?_
      refine GoR.nil ?_
      have cO := Stp.front 1 hO rfl
      dsimp only [eS, eZ] at cO
      replace hO := cO.own
      replace ai := ai.ch cO.ch
      replace ad := ad.ch cO.ch
      replace ae := ae.ch cO.ch
      replace ab := ab.ch cO.ch
      replace af := af.ch cO.ch
      replace aa := aa.ch cO.ch
      replace ag := ag.ch cO.ch
      replace ah := ah.ch cO.ch
      replace aD := aD.ch cO.ch
      replace bi := bi.ch cO.ch
      replace hB := hB.trans cO.fr
      have cP := Stp.front 1 hO rfl
      dsimp only [eS, eZ] at cP
      replace hO := cP.own
      replace ai := ai.ch cP.ch
      replace ad := ad.ch cP.ch
      replace ae := ae.ch cP.ch
      replace ab := ab.ch cP.ch
      replace af := af.ch cP.ch
      replace aa := aa.ch cP.ch
      replace ag := ag.ch cP.ch
      replace ah := ah.ch cP.ch
      replace aD := aD.ch cP.ch
      replace bi := bi.ch cP.ch
      replace hB := hB.trans cP.fr
      have hobt := t3backF (hf := (Fl.int .i64)) hO hF257 bQ bS (by simp only [J02])
      obtain ⟨f5, hF483⟩ := hobt
      replace hO := f5.own
      replace ai := ai.ch f5.ch
      replace ad := ad.ch f5.ch
      replace ae := ae.ch f5.ch
      replace ab := ab.ch f5.ch
      replace af := af.ch f5.ch
      replace aa := aa.ch f5.ch
      replace ag := ag.ch f5.ch
      replace ah := ah.ch f5.ch
      replace aD := aD.ch f5.ch
      replace bi := bi.ch f5.ch
      replace hB := hB.trans f5.fr
      have cQ := Stp.front 5 hO rfl
      dsimp only [eS, eZ] at cQ
      replace hO := cQ.own
      replace ai := ai.ch cQ.ch
      replace ad := ad.ch cQ.ch
      replace ae := ae.ch cQ.ch
      replace ab := ab.ch cQ.ch
      replace af := af.ch cQ.ch
      replace aa := aa.ch cQ.ch
      replace ag := ag.ch cQ.ch
      replace ah := ah.ch cQ.ch
      replace aD := aD.ch cQ.ch
      replace bi := bi.ch cQ.ch
      replace hB := hB.trans cQ.fr
      have cR := Stp.front 5 hO rfl
      dsimp only [eS, eZ] at cR
      replace hO := cR.own
      replace ai := ai.ch cR.ch
      replace ad := ad.ch cR.ch
      replace ae := ae.ch cR.ch
      replace ab := ab.ch cR.ch
      replace af := af.ch cR.ch
      replace aa := aa.ch cR.ch
      replace ag := ag.ch cR.ch
      replace ah := ah.ch cR.ch
      replace aD := aD.ch cR.ch
      replace bi := bi.ch cR.ch
      replace hB := hB.trans cR.fr
      have cS := Stp.front 5 hO rfl
      dsimp only [eS, eZ] at cS
      replace hO := cS.own
      replace ai := ai.ch cS.ch
      replace ad := ad.ch cS.ch
      replace ae := ae.ch cS.ch
      replace ab := ab.ch cS.ch
      replace af := af.ch cS.ch
      replace aa := aa.ch cS.ch
      replace ag := ag.ch cS.ch
      replace ah := ah.ch cS.ch
      replace aD := aD.ch cS.ch
      replace bi := bi.ch cS.ch
      replace hB := hB.trans cS.fr
      have cU := Stp.front 3 hO rfl
      dsimp only [eS, eZ] at cU
      replace hO := cU.own
      replace ai := ai.ch cU.ch
      replace ad := ad.ch cU.ch
      replace ae := ae.ch cU.ch
      replace ab := ab.ch cU.ch
      replace af := af.ch cU.ch
      replace aa := aa.ch cU.ch
      replace ag := ag.ch cU.ch
      replace ah := ah.ch cU.ch
      replace aD := aD.ch cU.ch
      replace bi := bi.ch cU.ch
      replace hB := hB.trans cU.fr
      have cV := Stp.front 5 hO rfl
      dsimp only [eS, eZ] at cV
      replace hO := cV.own
      replace ai := ai.ch cV.ch
      replace ad := ad.ch cV.ch
      replace ae := ae.ch cV.ch
      replace ab := ab.ch cV.ch
      replace af := af.ch cV.ch
      replace aa := aa.ch cV.ch
      replace ag := ag.ch cV.ch
      replace ah := ah.ch cV.ch
      replace aD := aD.ch cV.ch
      replace bi := bi.ch cV.ch
      replace hB := hB.trans cV.fr
      have cW := Stp.front 5 hO rfl
      dsimp only [eS, eZ] at cW
      replace hO := cW.own
      replace ai := ai.ch cW.ch
      replace ad := ad.ch cW.ch
      replace ae := ae.ch cW.ch
      replace ab := ab.ch cW.ch
      replace af := af.ch cW.ch
      replace aa := aa.ch cW.ch
      replace ag := ag.ch cW.ch
      replace ah := ah.ch cW.ch
      replace aD := aD.ch cW.ch
      replace bi := bi.ch cW.ch
      replace hB := hB.trans cW.fr
      exact hX3 _ H _ _ ⟨bo, ps255, (fun k => if k = r267.toNat then hup ((aB r267.toNat)) r279.toNat (sV, sW) else aB k), ⟨rfl, rfl, rfl, rfl, rfl, rfl, rfl, rfl, trivial⟩, hO, hF483, ai, ad, ae, ab, af, aa, ag, ah, hB⟩
     skip
     have f6 := Stp.front 1 hO rfl
     dsimp only [eS, eZ] at f6
     replace kP := kP.ch f6.ch
     replace hO := f6.own
     replace ai := ai.ch f6.ch
     replace ad := ad.ch f6.ch
     replace ae := ae.ch f6.ch
     replace ab := ab.ch f6.ch
     replace af := af.ch f6.ch
     replace aa := aa.ch f6.ch
     replace ag := ag.ch f6.ch
     replace ah := ah.ch f6.ch
     replace hB := hB.trans f6.fr
     have hobt := t2take (hf := (Fl.int .i64)) hO l9 ma
     obtain ⟨yk, iU, ym⟩ := hobt
     replace kP := kP.ch iU.ch
     replace hO := iU.own
     replace ai := ai.ch iU.ch
     replace ad := ad.ch iU.ch
     replace ae := ae.ch iU.ch
     replace ab := ab.ch iU.ch
     replace af := af.ch iU.ch
     replace aa := aa.ch iU.ch
     replace ag := ag.ch iU.ch
     replace ah := ah.ch iU.ch
     replace hB := hB.trans iU.fr
     have qE := ym (bl [.row 3 1 (((aB r267.toNat)) r279.toNat).1 ((ix ((ix d_253 r267)) r279).length) ((((aB r267.toNat)) r279.toNat).2) yk, t2h (Fl.int .i64) 26 3 (ps255 r267.toNat).1 ((ix d_253 r267).length) ((ps255 r267.toNat).2) ((aB r267.toNat)) ((ix d_253 r267)) r279.toNat, .row 3 1 vW 1 1 [.int .i64 (k3_251 : Int)], famH d_253.length (lay3 (Fl.int .i64) 26 3 ps255 aB d_253) r267.toNat, t2 Fl.bool 42 4 a9 aY ba bA d_252, .row 22 1 bc a8 bg bo, .blk B38 (.cells #[.slice p60 r140.length c61, .slice p54 r152.length c55, .slice bc a8 bg, .slice a9 aY ba] 35 (0, 0)), .blk B21 (.cells #[.slice av r14.R.length aw, .slice ax r14.L.length ay, .slice am r14.J.length ao, .slice az r14.H.length aA, .slice aj r14.Below.length ak] 29 (0, 0)), .blk B2 (.cells #[.slice none 0 0, .slice none 0 0, .slice none 0 0, .slice none 0 0] 35 (0, 0))] ++ A)
     have hobt := freeze 2 hO rfl kP
     obtain ⟨hO1, kS, aE, yo⟩ := hobt
     dsimp only [eS, eZ] at hO1 kS aE
     replace ai := ai.ch kS
     replace ad := ad.ch kS
     replace ae := ae.ch kS
     replace ab := ab.ch kS
     replace af := af.ch kS
     replace aa := aa.ch kS
     replace ag := ag.ch kS
     replace ah := ah.ch kS
     replace qE := qE.ch kS
     replace hB := hB.trans (Owns.J15 _ _ 2)
     dsimp only [eS, eZ] at hB
     replace hO := hO1; clear hO1
     obtain ⟨Bx, H⟩ := H
     have hobt := oapp Try.underlying26 ti3 rfl 0 hO rfl qE aE yo Bx (by decide)
     obtain ⟨E4, tt, tu, Dj, f7, m7, wa⟩ := hobt
     dsimp only [sS, sZ] at f7 m7
     refine GoT.stepX rfl (wa (by exact rfl) (by exact rfl)) rfl rfl rfl ?_
     replace hO := f7.own
     replace ai := ai.ch f7.ch
     replace ad := ad.ch f7.ch
     replace ae := ae.ch f7.ch
     replace ab := ab.ch f7.ch
     replace af := af.ch f7.ch
     replace aa := aa.ch f7.ch
     replace ag := ag.ch f7.ch
     replace ah := ah.ch f7.ch
     replace aE := aE.ch f7.ch
     replace hB := hB.trans f7.fr
     skip
     refine GoT.step rfl ((t3headF 4 hO rfl hF257 o9 pc Try.underlying22 rfl rfl) _ (Same.refl _)) (Same.refl _) rfl rfl ?_
     obtain ⟨tv, H⟩ := H
     obtain ⟨tw, H⟩ := H
     refine GoT.pure rfl (J01 Try.underlying22 ti26 rfl rfl tv (ltn (t2neqH 1 hO rfl) tw) (t2someH 1 hO rfl tv tw)) rfl rfl ?_
     skip
     have cX := Stp.front 1 hO rfl
     dsimp only [eS, eZ] at cX
     replace m7 := m7.ch cX.ch
     replace hO := cX.own
     replace ai := ai.ch cX.ch
     replace ad := ad.ch cX.ch
     replace ae := ae.ch cX.ch
     replace ab := ab.ch cX.ch
     replace af := af.ch cX.ch
     replace aa := aa.ch cX.ch
     replace ag := ag.ch cX.ch
     replace ah := ah.ch cX.ch
     replace aE := aE.ch cX.ch
     replace hB := hB.trans cX.fr
     have cY := Stp.front 1 hO rfl
     dsimp only [eS, eZ] at cY
     replace m7 := m7.ch cY.ch
     replace hO := cY.own
     replace ai := ai.ch cY.ch
     replace ad := ad.ch cY.ch
     replace ae := ae.ch cY.ch
     replace ab := ab.ch cY.ch
     replace af := af.ch cY.ch
     replace aa := aa.ch cY.ch
     replace ag := ag.ch cY.ch
     replace ah := ah.ch cY.ch
     replace aE := aE.ch cY.ch
     replace hB := hB.trans cY.fr
     have hobt := t2fix (hf := (Fl.int .i64)) hO m7 tv tw rfl
     obtain ⟨E5, iV, wc⟩ := hobt
     refine GoT.stepX rfl (wc Try.underlying26 rfl ti26 (by exact rfl) (by exact rfl)) rfl rfl rfl ?_
     replace hO := iV.own
     replace ai := ai.ch iV.ch
     replace ad := ad.ch iV.ch
     replace ae := ae.ch iV.ch
     replace ab := ab.ch iV.ch
     replace af := af.ch iV.ch
     replace aa := aa.ch iV.ch
     replace ag := ag.ch iV.ch
     replace ah := ah.ch iV.ch
     replace aE := aE.ch iV.ch
     replace hB := hB.trans iV.fr
     refine GoT.nil ?_
     refine Go1.drawS 1 [(0, .pure), (1, .stable), (2, .pure), (3, .pure), (4, .stable), (5, .pure), (6, .pure), (7, .stable), (8, .pure), (9, .pure), (10, .stable), (11, .pure), (12, .pure), (13, .stable), (14, .pure), (15, .pure), (16, .pure), (17, .pure), (18, .stable), (19, .pure), (20, .pure), (21, .stable), (22, .pure), (23, .pure), (24, .pure), (25, .pure), (26, .last)] mixed (by kernel_rfl) ?_
     intro E6 yu
     have iW := Stp.same hO yu
     replace hO := iW.own
     replace ai := ai.ch iW.ch
     replace ad := ad.ch iW.ch
     replace ae := ae.ch iW.ch
     replace ab := ab.ch iW.ch
     replace af := af.ch iW.ch
     replace aa := aa.ch iW.ch
     replace ag := ag.ch iW.ch
     replace ah := ah.ch iW.ch
     replace aE := aE.ch iW.ch
     replace hB := hB.trans iW.fr
     refine GoQ.pure rfl (J03 Try.underlying35 rfl ti27 rfl (by decide)) rfl rfl ?_
     refine GoQ.stable rfl (oblk (i := 3) 4 hO rfl rfl Try.underlying27 rfl rfl) rfl rfl ?_
     refine GoQ.pure rfl (J00 rfl) rfl rfl ?_
     obtain ⟨mj, H⟩ := H
     obtain ⟨mm, H⟩ := H
     refine GoQ.pure rfl (J01 Try.underlying27 ti42 rfl rfl mj (ltn (t2neq 2 hO rfl) mm) (t2some 2 hO rfl mj mm)) rfl rfl ?_
     refine GoQ.stable rfl (t2head 2 hO rfl mj mm Try.underlying42 rfl rfl) rfl rfl ?_
     refine GoQ.pure rfl (J00 rfl) rfl rfl ?_
     refine GoQ.pure rfl (J03 Try.underlying35 rfl ti27 rfl (by decide)) rfl rfl ?_
     refine GoQ.stable rfl (oblk (i := 3) 4 hO rfl rfl Try.underlying27 rfl rfl) rfl rfl ?_
     refine GoQ.pure rfl (J00 rfl) rfl rfl ?_
     obtain ⟨om, H⟩ := H
     obtain ⟨oo, H⟩ := H
     refine GoQ.pure rfl (J01 Try.underlying27 ti42 rfl rfl om (ltn (t2neq 2 hO rfl) oo) (t2some 2 hO rfl om oo)) rfl rfl ?_
     refine GoQ.stable rfl (t2head 2 hO rfl om oo Try.underlying42 rfl rfl) rfl rfl ?_
     refine GoQ.pure rfl (J00 rfl) rfl rfl ?_
     obtain ⟨qF, H⟩ := H
     obtain ⟨qG, H⟩ := H
     refine GoQ.pure rfl (J01 Try.underlying42 ti4 rfl rfl qF qG (t2isome 2 hO rfl om oo qF qG)) rfl rfl ?_
     by_cases qH : ix (ix d_252 r267) r279 = true
     ·replace H := ifp qH H
      refine GoQ.stable rfl (fun w hw => opB ((t2Bool 2 hO rfl om oo qF qG Try.underlying4 rfl rfl) w hw) (qH)) rfl rfl ?_
      refine GoQ.pure rfl (J00 rfl) rfl rfl ?_
      refine GoQ.pass rfl rfl rfl ?_
      refine GoQ.pass rfl rfl rfl ?_
      refine GoQ.pass rfl rfl rfl ?_
      refine GoQ.pass rfl rfl rfl ?_
      refine GoQ.pass rfl rfl rfl ?_
      refine GoQ.pass rfl rfl rfl ?_
      refine GoQ.pass rfl rfl rfl ?_
      refine GoQ.pass rfl rfl rfl ?_
      refine GoQ.pass rfl rfl rfl ?_
      refine GoQ.pure rfl (J1J rfl rfl rfl) rfl rfl ?_
      obtain ⟨tx, H⟩ := H
      obtain ⟨tz, H⟩ := H
      refine GoQ.pure rfl (J01 Try.underlying42 ti4 rfl rfl tx tz (t2isome 2 hO rfl mj mm tx tz)) rfl rfl ?_
      have hobt := t2st (r := Rp.bool) (hf := Fl.bool) rfl 2 hO rfl mj mm tx tz (v := .bool true) (u := true) rfl rfl
      obtain ⟨E7, gf, wg⟩ := hobt
      dsimp only [sS, sZ] at gf
      refine GoQ.last rfl (wg Try.underlying4 rfl ti4 (by exact rfl) (by exact rfl)) rfl rfl ?_
      replace hO := gf.own
      replace ai := ai.ch gf.ch
      replace ad := ad.ch gf.ch
      replace ae := ae.ch gf.ch
      replace ab := ab.ch gf.ch
      replace af := af.ch gf.ch
      replace aa := aa.ch gf.ch
      replace ag := ag.ch gf.ch
      replace ah := ah.ch gf.ch
      replace aE := aE.ch gf.ch
      replace hB := hB.trans gf.fr
      refine GoQ.nil ?_
      refine Go1.inBlock ?_
      refine Go1.cut [(0, .slice bu a0.length bw), (1, .int .i64 a1), (4, .pointer (some ⟨B2, 0, none⟩)), (7, .pointer (some ⟨B21, 0, none⟩)), (8, .pointer (some ⟨B38, 0, none⟩)), (106, .slice am r14.J.length ao), (107, .int .i64 (r14.J.length : Int)), (108, .int .i64 (k3_251 : Int))] ⟨rfl, rfl, rfl, rfl, rfl, rfl, rfl, rfl, trivial⟩ ?_
      intro σ _
      refine Go1.region ?_
      refine GoR.op ((J06 rfl rfl (wrap_i64 (natbd bN ab.bd))) _) rfl rfl ?_
      refine GoR.op ((J00 rfl) _) rfl rfl ?_
      refine GoR.nil ?_
      have gh := Stp.front 1 hO rfl
      dsimp only [eS, eZ] at gh
      replace hO := gh.own
      replace ai := ai.ch gh.ch
      replace ad := ad.ch gh.ch
      replace ae := ae.ch gh.ch
      replace ab := ab.ch gh.ch
      replace af := af.ch gh.ch
      replace aa := aa.ch gh.ch
      replace ag := ag.ch gh.ch
      replace ah := ah.ch gh.ch
      replace aE := aE.ch gh.ch
      replace hB := hB.trans gh.fr
      have gi := Stp.front 1 hO rfl
      dsimp only [eS, eZ] at gi
      replace hO := gi.own
      replace ai := ai.ch gi.ch
      replace ad := ad.ch gi.ch
      replace ae := ae.ch gi.ch
      replace ab := ab.ch gi.ch
      replace af := af.ch gi.ch
      replace aa := aa.ch gi.ch
      replace ag := ag.ch gi.ch
      replace ah := ah.ch gi.ch
      replace aE := aE.ch gi.ch
      replace hB := hB.trans gi.fr
      have hobt := t3backF (hf := (Fl.int .i64)) hO hF257 bQ bS (by simp only [J02])
      obtain ⟨iX, hF533⟩ := hobt
      replace hO := iX.own
      replace ai := ai.ch iX.ch
      replace ad := ad.ch iX.ch
      replace ae := ae.ch iX.ch
      replace ab := ab.ch iX.ch
      replace af := af.ch iX.ch
      replace aa := aa.ch iX.ch
      replace ag := ag.ch iX.ch
      replace ah := ah.ch iX.ch
      replace aE := aE.ch iX.ch
      replace hB := hB.trans iX.fr
      have gj := Stp.front 5 hO rfl
      dsimp only [eS, eZ] at gj
      replace hO := gj.own
      replace ai := ai.ch gj.ch
      replace ad := ad.ch gj.ch
      replace ae := ae.ch gj.ch
      replace ab := ab.ch gj.ch
      replace af := af.ch gj.ch
      replace aa := aa.ch gj.ch
      replace ag := ag.ch gj.ch
      replace ah := ah.ch gj.ch
      replace aE := aE.ch gj.ch
      replace hB := hB.trans gj.fr
      have gk := Stp.front 5 hO rfl
      dsimp only [eS, eZ] at gk
      replace hO := gk.own
      replace ai := ai.ch gk.ch
      replace ad := ad.ch gk.ch
      replace ae := ae.ch gk.ch
      replace ab := ab.ch gk.ch
      replace af := af.ch gk.ch
      replace aa := aa.ch gk.ch
      replace ag := ag.ch gk.ch
      replace ah := ah.ch gk.ch
      replace aE := aE.ch gk.ch
      replace hB := hB.trans gk.fr
      have gm := Stp.front 5 hO rfl
      dsimp only [eS, eZ] at gm
      replace hO := gm.own
      replace ai := ai.ch gm.ch
      replace ad := ad.ch gm.ch
      replace ae := ae.ch gm.ch
      replace ab := ab.ch gm.ch
      replace af := af.ch gm.ch
      replace aa := aa.ch gm.ch
      replace ag := ag.ch gm.ch
      replace ah := ah.ch gm.ch
      replace aE := aE.ch gm.ch
      replace hB := hB.trans gm.fr
      have gn := Stp.front 3 hO rfl
      dsimp only [eS, eZ] at gn
      replace hO := gn.own
      replace ai := ai.ch gn.ch
      replace ad := ad.ch gn.ch
      replace ae := ae.ch gn.ch
      replace ab := ab.ch gn.ch
      replace af := af.ch gn.ch
      replace aa := aa.ch gn.ch
      replace ag := ag.ch gn.ch
      replace ah := ah.ch gn.ch
      replace aE := aE.ch gn.ch
      replace hB := hB.trans gn.fr
      have gq := Stp.front 5 hO rfl
      dsimp only [eS, eZ] at gq
      replace hO := gq.own
      replace ai := ai.ch gq.ch
      replace ad := ad.ch gq.ch
      replace ae := ae.ch gq.ch
      replace ab := ab.ch gq.ch
      replace af := af.ch gq.ch
      replace aa := aa.ch gq.ch
      replace ag := ag.ch gq.ch
      replace ah := ah.ch gq.ch
      replace aE := aE.ch gq.ch
      replace hB := hB.trans gq.fr
      have gt := Stp.front 5 hO rfl
      dsimp only [eS, eZ] at gt
      replace hO := gt.own
      replace ai := ai.ch gt.ch
      replace ad := ad.ch gt.ch
      replace ae := ae.ch gt.ch
      replace ab := ab.ch gt.ch
      replace af := af.ch gt.ch
      replace aa := aa.ch gt.ch
      replace ag := ag.ch gt.ch
      replace ah := ah.ch gt.ch
      replace aE := aE.ch gt.ch
      replace hB := hB.trans gt.fr
      exact hX3 _ H _ _ ⟨bo, ps255, (fun k => if k = r267.toNat then hup ((aB r267.toNat)) r279.toNat (tt, tu) else aB k), ⟨rfl, rfl, rfl, rfl, rfl, rfl, rfl, rfl, trivial⟩, hO, hF533, ai, ad, ae, ab, af, aa, ag, ah, hB⟩
     replace H := ifn qH H
     refine GoQ.stable rfl (fun w hw => opB ((t2Bool 2 hO rfl om oo qF qG Try.underlying4 rfl rfl) w hw) (Bool.eq_false_iff.2 qH)) rfl rfl ?_
     refine GoQ.pure rfl (J00 rfl) rfl rfl ?_
     refine GoQ.pure rfl (J00 rfl) rfl rfl ?_
     refine GoQ.pure rfl (J00 rfl) rfl rfl ?_
     obtain ⟨tA, H⟩ := H
     obtain ⟨tB, H⟩ := H
     refine GoQ.pure rfl (J01 Try.underlying22 ti26 rfl rfl tA tB (ai.some_ tA tB)) rfl rfl ?_
     have hobt := ldSl ai tA tB
     obtain ⟨E8, E9, bj, yv⟩ := hobt
     refine GoQ.stable rfl (yv Try.underlying26 rfl rfl) rfl rfl ?_
     refine GoQ.pure rfl (J00 rfl) rfl rfl ?_
     obtain ⟨tC, H⟩ := H
     obtain ⟨tD, H⟩ := H
     refine GoQ.pure rfl (J01 Try.underlying26 ti3 rfl rfl tC tD (bj.some_ tC tD)) rfl rfl ?_
     refine GoQ.stable rfl (ldInt bj tC tD Try.underlying3 rfl rfl) rfl rfl ?_
     refine GoQ.pure rfl (J00 rfl) rfl rfl ?_
     by_cases qI : (ix (ix a0 (k3_251 : Int)) (k3_251 : Int)) = (k3_251 : Int)
     ·replace H := ifp qI H
      refine GoQ.pure rfl (fun w => opB (J0N rfl rfl w) (decide_eq_true qI)) rfl rfl ?_
      refine GoQ.pure rfl (J0p rfl rfl rfl) rfl rfl ?_
      obtain ⟨tE, H⟩ := H
      obtain ⟨tF, H⟩ := H
      refine GoQ.pure rfl (J01 Try.underlying42 ti4 rfl rfl tE tF (t2isome 2 hO rfl mj mm tE tF)) rfl rfl ?_
      have hobt := t2st (r := Rp.bool) (hf := Fl.bool) rfl 2 hO rfl mj mm tE tF (v := .bool true) (u := true) rfl rfl
      obtain ⟨Fa, c9, wh⟩ := hobt
      dsimp only [sS, sZ] at c9
      refine GoQ.last rfl (wh Try.underlying4 rfl ti4 (by exact rfl) (by exact rfl)) rfl rfl ?_
      replace hO := c9.own
      replace ai := ai.ch c9.ch
      replace ad := ad.ch c9.ch
      replace ae := ae.ch c9.ch
      replace ab := ab.ch c9.ch
      replace af := af.ch c9.ch
      replace aa := aa.ch c9.ch
      replace ag := ag.ch c9.ch
      replace ah := ah.ch c9.ch
      replace aE := aE.ch c9.ch
      replace bj := bj.ch c9.ch
      replace hB := hB.trans c9.fr
      refine GoQ.nil ?_
      refine Go1.inBlock ?_
      refine Go1.region ?_
      refine GoR.op ((J06 rfl rfl (wrap_i64 (natbd bN ab.bd))) _) rfl rfl ?_
      refine GoR.op ((J00 rfl) _) rfl rfl ?_
      refine GoR.nil ?_
      have db := Stp.front 1 hO rfl
      dsimp only [eS, eZ] at db
      replace hO := db.own
      replace ai := ai.ch db.ch
      replace ad := ad.ch db.ch
      replace ae := ae.ch db.ch
      replace ab := ab.ch db.ch
      replace af := af.ch db.ch
      replace aa := aa.ch db.ch
      replace ag := ag.ch db.ch
      replace ah := ah.ch db.ch
      replace aE := aE.ch db.ch
      replace bj := bj.ch db.ch
      replace hB := hB.trans db.fr
      have de := Stp.front 1 hO rfl
      dsimp only [eS, eZ] at de
      replace hO := de.own
      replace ai := ai.ch de.ch
      replace ad := ad.ch de.ch
      replace ae := ae.ch de.ch
      replace ab := ab.ch de.ch
      replace af := af.ch de.ch
      replace aa := aa.ch de.ch
      replace ag := ag.ch de.ch
      replace ah := ah.ch de.ch
      replace aE := aE.ch de.ch
      replace bj := bj.ch de.ch
      replace hB := hB.trans de.fr
      have hobt := t3backF (hf := (Fl.int .i64)) hO hF257 bQ bS (by simp only [J02])
      obtain ⟨gv, hF557⟩ := hobt
      replace hO := gv.own
      replace ai := ai.ch gv.ch
      replace ad := ad.ch gv.ch
      replace ae := ae.ch gv.ch
      replace ab := ab.ch gv.ch
      replace af := af.ch gv.ch
      replace aa := aa.ch gv.ch
      replace ag := ag.ch gv.ch
      replace ah := ah.ch gv.ch
      replace aE := aE.ch gv.ch
      replace bj := bj.ch gv.ch
      replace hB := hB.trans gv.fr
      have dg := Stp.front 5 hO rfl
      dsimp only [eS, eZ] at dg
      replace hO := dg.own
      replace ai := ai.ch dg.ch
      replace ad := ad.ch dg.ch
      replace ae := ae.ch dg.ch
      replace ab := ab.ch dg.ch
      replace af := af.ch dg.ch
      replace aa := aa.ch dg.ch
      replace ag := ag.ch dg.ch
      replace ah := ah.ch dg.ch
      replace aE := aE.ch dg.ch
      replace bj := bj.ch dg.ch
      replace hB := hB.trans dg.fr
      have dh := Stp.front 5 hO rfl
      dsimp only [eS, eZ] at dh
      replace hO := dh.own
      replace ai := ai.ch dh.ch
      replace ad := ad.ch dh.ch
      replace ae := ae.ch dh.ch
      replace ab := ab.ch dh.ch
      replace af := af.ch dh.ch
      replace aa := aa.ch dh.ch
      replace ag := ag.ch dh.ch
      replace ah := ah.ch dh.ch
      replace aE := aE.ch dh.ch
      replace bj := bj.ch dh.ch
      replace hB := hB.trans dh.fr
      have di := Stp.front 5 hO rfl
      dsimp only [eS, eZ] at di
      replace hO := di.own
      replace ai := ai.ch di.ch
      replace ad := ad.ch di.ch
      replace ae := ae.ch di.ch
      replace ab := ab.ch di.ch
      replace af := af.ch di.ch
      replace aa := aa.ch di.ch
      replace ag := ag.ch di.ch
      replace ah := ah.ch di.ch
      replace aE := aE.ch di.ch
      replace bj := bj.ch di.ch
      replace hB := hB.trans di.fr
      have dj := Stp.front 3 hO rfl
      dsimp only [eS, eZ] at dj
      replace hO := dj.own
      replace ai := ai.ch dj.ch
      replace ad := ad.ch dj.ch
      replace ae := ae.ch dj.ch
      replace ab := ab.ch dj.ch
      replace af := af.ch dj.ch
      replace aa := aa.ch dj.ch
      replace ag := ag.ch dj.ch
      replace ah := ah.ch dj.ch
      replace aE := aE.ch dj.ch
      replace bj := bj.ch dj.ch
      replace hB := hB.trans dj.fr
      have dk := Stp.front 5 hO rfl
      dsimp only [eS, eZ] at dk
      replace hO := dk.own
      replace ai := ai.ch dk.ch
      replace ad := ad.ch dk.ch
      replace ae := ae.ch dk.ch
      replace ab := ab.ch dk.ch
      replace af := af.ch dk.ch
      replace aa := aa.ch dk.ch
      replace ag := ag.ch dk.ch
      replace ah := ah.ch dk.ch
      replace aE := aE.ch dk.ch
      replace bj := bj.ch dk.ch
      replace hB := hB.trans dk.fr
      have dm := Stp.front 5 hO rfl
      dsimp only [eS, eZ] at dm
      replace hO := dm.own
      replace ai := ai.ch dm.ch
      replace ad := ad.ch dm.ch
      replace ae := ae.ch dm.ch
      replace ab := ab.ch dm.ch
      replace af := af.ch dm.ch
      replace aa := aa.ch dm.ch
      replace ag := ag.ch dm.ch
      replace ah := ah.ch dm.ch
      replace aE := aE.ch dm.ch
      replace bj := bj.ch dm.ch
      replace hB := hB.trans dm.fr
      exact hX3 _ H _ _ ⟨bo, ps255, (fun k => if k = r267.toNat then hup ((aB r267.toNat)) r279.toNat (tt, tu) else aB k), ⟨rfl, rfl, rfl, rfl, rfl, rfl, rfl, rfl, trivial⟩, hO, hF557, ai, ad, ae, ab, af, aa, ag, ah, hB⟩
     replace H := ifn qI H
     refine GoQ.pure rfl (fun w => opB (J0N rfl rfl w) (decide_eq_false qI)) rfl rfl ?_
     refine GoQ.pure rfl (J0p rfl rfl rfl) rfl rfl ?_
     obtain ⟨tG, H⟩ := H
     obtain ⟨tH, H⟩ := H
     refine GoQ.pure rfl (J01 Try.underlying42 ti4 rfl rfl tG tH (t2isome 2 hO rfl mj mm tG tH)) rfl rfl ?_
     have hobt := t2st (r := Rp.bool) (hf := Fl.bool) rfl 2 hO rfl mj mm tG tH (v := .bool false) (u := false) rfl rfl
     obtain ⟨Fb, dp, wi⟩ := hobt
     dsimp only [sS, sZ] at dp
     refine GoQ.last rfl (wi Try.underlying4 rfl ti4 (by exact rfl) (by exact rfl)) rfl rfl ?_
     replace hO := dp.own
     replace ai := ai.ch dp.ch
     replace ad := ad.ch dp.ch
     replace ae := ae.ch dp.ch
     replace ab := ab.ch dp.ch
     replace af := af.ch dp.ch
     replace aa := aa.ch dp.ch
     replace ag := ag.ch dp.ch
     replace ah := ah.ch dp.ch
     replace aE := aE.ch dp.ch
     replace bj := bj.ch dp.ch
     replace hB := hB.trans dp.fr
     refine GoQ.nil ?_
     refine Go1.inBlock ?_
     refine Go1.cut [(0, .slice bu a0.length bw), (1, .int .i64 a1), (4, .pointer (some ⟨B2, 0, none⟩)), (7, .pointer (some ⟨B21, 0, none⟩)), (8, .pointer (some ⟨B38, 0, none⟩)), (106, .slice am r14.J.length ao), (107, .int .i64 (r14.J.length : Int)), (108, .int .i64 (k3_251 : Int))] ⟨rfl, rfl, rfl, rfl, rfl, rfl, rfl, rfl, trivial⟩ ?_
     intro σ _
     refine Go1.region ?_
     refine GoR.op ((J06 rfl rfl (wrap_i64 (natbd bN ab.bd))) _) rfl rfl ?_
     refine GoR.op ((J00 rfl) _) rfl rfl ?_
     refine GoR.nil ?_
     have dq := Stp.front 1 hO rfl
     dsimp only [eS, eZ] at dq
     replace hO := dq.own
     replace ai := ai.ch dq.ch
     replace ad := ad.ch dq.ch
     replace ae := ae.ch dq.ch
     replace ab := ab.ch dq.ch
     replace af := af.ch dq.ch
     replace aa := aa.ch dq.ch
     replace ag := ag.ch dq.ch
     replace ah := ah.ch dq.ch
     replace aE := aE.ch dq.ch
     replace bj := bj.ch dq.ch
     replace hB := hB.trans dq.fr
     have dr := Stp.front 1 hO rfl
     dsimp only [eS, eZ] at dr
     replace hO := dr.own
     replace ai := ai.ch dr.ch
     replace ad := ad.ch dr.ch
     replace ae := ae.ch dr.ch
     replace ab := ab.ch dr.ch
     replace af := af.ch dr.ch
     replace aa := aa.ch dr.ch
     replace ag := ag.ch dr.ch
     replace ah := ah.ch dr.ch
     replace aE := aE.ch dr.ch
     replace bj := bj.ch dr.ch
     replace hB := hB.trans dr.fr
     have hobt := t3backF (hf := (Fl.int .i64)) hO hF257 bQ bS (by simp only [J02])
     obtain ⟨gx, hF572⟩ := hobt
     replace hO := gx.own
     replace ai := ai.ch gx.ch
     replace ad := ad.ch gx.ch
     replace ae := ae.ch gx.ch
     replace ab := ab.ch gx.ch
     replace af := af.ch gx.ch
     replace aa := aa.ch gx.ch
     replace ag := ag.ch gx.ch
     replace ah := ah.ch gx.ch
     replace aE := aE.ch gx.ch
     replace bj := bj.ch gx.ch
     replace hB := hB.trans gx.fr
     have dt := Stp.front 5 hO rfl
     dsimp only [eS, eZ] at dt
     replace hO := dt.own
     replace ai := ai.ch dt.ch
     replace ad := ad.ch dt.ch
     replace ae := ae.ch dt.ch
     replace ab := ab.ch dt.ch
     replace af := af.ch dt.ch
     replace aa := aa.ch dt.ch
     replace ag := ag.ch dt.ch
     replace ah := ah.ch dt.ch
     replace aE := aE.ch dt.ch
     replace bj := bj.ch dt.ch
     replace hB := hB.trans dt.fr
     have du := Stp.front 5 hO rfl
     dsimp only [eS, eZ] at du
     replace hO := du.own
     replace ai := ai.ch du.ch
     replace ad := ad.ch du.ch
     replace ae := ae.ch du.ch
     replace ab := ab.ch du.ch
     replace af := af.ch du.ch
     replace aa := aa.ch du.ch
     replace ag := ag.ch du.ch
     replace ah := ah.ch du.ch
     replace aE := aE.ch du.ch
     replace bj := bj.ch du.ch
     replace hB := hB.trans du.fr
     have dw := Stp.front 5 hO rfl
     dsimp only [eS, eZ] at dw
     replace hO := dw.own
     replace ai := ai.ch dw.ch
     replace ad := ad.ch dw.ch
     replace ae := ae.ch dw.ch
     replace ab := ab.ch dw.ch
     replace af := af.ch dw.ch
     replace aa := aa.ch dw.ch
     replace ag := ag.ch dw.ch
     replace ah := ah.ch dw.ch
     replace aE := aE.ch dw.ch
     replace bj := bj.ch dw.ch
     replace hB := hB.trans dw.fr
     have dx := Stp.front 3 hO rfl
     dsimp only [eS, eZ] at dx
     replace hO := dx.own
     replace ai := ai.ch dx.ch
     replace ad := ad.ch dx.ch
     replace ae := ae.ch dx.ch
     replace ab := ab.ch dx.ch
     replace af := af.ch dx.ch
     replace aa := aa.ch dx.ch
     replace ag := ag.ch dx.ch
     replace ah := ah.ch dx.ch
     replace aE := aE.ch dx.ch
     replace bj := bj.ch dx.ch
     replace hB := hB.trans dx.fr
     have dy := Stp.front 5 hO rfl
     dsimp only [eS, eZ] at dy
     replace hO := dy.own
     replace ai := ai.ch dy.ch
     replace ad := ad.ch dy.ch
     replace ae := ae.ch dy.ch
     replace ab := ab.ch dy.ch
     replace af := af.ch dy.ch
     replace aa := aa.ch dy.ch
     replace ag := ag.ch dy.ch
     replace ah := ah.ch dy.ch
     replace aE := aE.ch dy.ch
     replace bj := bj.ch dy.ch
     replace hB := hB.trans dy.fr
     have dz := Stp.front 5 hO rfl
     dsimp only [eS, eZ] at dz
     replace hO := dz.own
     replace ai := ai.ch dz.ch
     replace ad := ad.ch dz.ch
     replace ae := ae.ch dz.ch
     replace ab := ab.ch dz.ch
     replace af := af.ch dz.ch
     replace aa := aa.ch dz.ch
     replace ag := ag.ch dz.ch
     replace ah := ah.ch dz.ch
     replace aE := aE.ch dz.ch
     replace bj := bj.ch dz.ch
     replace hB := hB.trans dz.fr
     exact hX3 _ H _ _ ⟨bo, ps255, (fun k => if k = r267.toNat then hup ((aB r267.toNat)) r279.toNat (tt, tu) else aB k), ⟨rfl, rfl, rfl, rfl, rfl, rfl, rfl, rfl, trivial⟩, hO, hF572, ai, ad, ae, ab, af, aa, ag, ah, hB⟩
    replace H := H.2
    have hobt := J3f (r := Rp.int .i64) (n := 1) (parts := [(0, .int .i64 (k3_251 : Int))]) (vs := [.int .i64 (k3_251 : Int)]) (xs := [(k3_251 : Int)]) rfl Try.underlying26 ti3 hO (by decide) (by kernel_rfl) (Els.cons rfl rfl (Els.nil _ _ _) (by simp [mx])) rfl
    obtain ⟨Fc, tI, jS, fx, yw, wj⟩ := hobt
    refine GoT.step rfl (wj rfl) yw rfl rfl ?_
    replace hO := jS.own
    replace ai := ai.ch jS.ch
    replace ad := ad.ch jS.ch
    replace ae := ae.ch jS.ch
    replace ab := ab.ch jS.ch
    replace af := af.ch jS.ch
    replace aa := aa.ch jS.ch
    replace ag := ag.ch jS.ch
    replace ah := ah.ch jS.ch
    replace hB := hB.trans jS.fr
    refine GoT.both ?_ ?_
    ·skip
     replace H := H.1
     refine GoT.step rfl ((oblk (i := 2) 5 hO rfl rfl Try.underlying33 rfl rfl) _ (Same.refl _)) (Same.refl _) rfl rfl ?_
     obtain ⟨qJ, H⟩ := H
     obtain ⟨qK, H⟩ := H
     refine GoT.pure rfl (J01 Try.underlying33 ti22 rfl rfl qJ (ltn (t3neqF 4 hO rfl hF257) qK) (t3someF 4 hO rfl hF257 qJ qK)) rfl rfl ?_
     refine GoT.both ?_ ?_
     ·skip
      skip
      refine GoT.step rfl ((t3headF 4 hO rfl hF257 qJ qK Try.underlying22 rfl rfl) _ (Same.refl _)) (Same.refl _) rfl rfl ?_
      skip
      have gy := Stp.front 1 hO rfl
      dsimp only [eS, eZ] at gy
      replace fx := fx.ch gy.ch
      replace hO := gy.own
      replace ai := ai.ch gy.ch
      replace ad := ad.ch gy.ch
      replace ae := ae.ch gy.ch
      replace ab := ab.ch gy.ch
      replace af := af.ch gy.ch
      replace aa := aa.ch gy.ch
      replace ag := ag.ch gy.ch
      replace ah := ah.ch gy.ch
      replace hB := hB.trans gy.fr
      have hobt := t2take (hf := (Fl.int .i64)) hO l9 ma
      obtain ⟨yz, iY, yA⟩ := hobt
      replace fx := fx.ch iY.ch
      replace hO := iY.own
      replace ai := ai.ch iY.ch
      replace ad := ad.ch iY.ch
      replace ae := ae.ch iY.ch
      replace ab := ab.ch iY.ch
      replace af := af.ch iY.ch
      replace aa := aa.ch iY.ch
      replace ag := ag.ch iY.ch
      replace ah := ah.ch iY.ch
      replace hB := hB.trans iY.fr
      have qL := yA (bl [.row 3 1 (((aB r267.toNat)) r279.toNat).1 ((ix ((ix d_253 r267)) r279).length) ((((aB r267.toNat)) r279.toNat).2) yz, t2h (Fl.int .i64) 26 3 (ps255 r267.toNat).1 ((ix d_253 r267).length) ((ps255 r267.toNat).2) ((aB r267.toNat)) ((ix d_253 r267)) r279.toNat, .row 3 1 tI 1 1 [.int .i64 (k3_251 : Int)], famH d_253.length (lay3 (Fl.int .i64) 26 3 ps255 aB d_253) r267.toNat, t2 Fl.bool 42 4 a9 aY ba bA d_252, .row 22 1 bc a8 bg bo, .blk B38 (.cells #[.slice p60 r140.length c61, .slice p54 r152.length c55, .slice bc a8 bg, .slice a9 aY ba] 35 (0, 0)), .blk B21 (.cells #[.slice av r14.R.length aw, .slice ax r14.L.length ay, .slice am r14.J.length ao, .slice az r14.H.length aA, .slice aj r14.Below.length ak] 29 (0, 0)), .blk B2 (.cells #[.slice none 0 0, .slice none 0 0, .slice none 0 0, .slice none 0 0] 35 (0, 0))] ++ A)
      have hobt := freeze 2 hO rfl fx
      obtain ⟨hO1, kT, aF, yB⟩ := hobt
      dsimp only [eS, eZ] at hO1 kT aF
      replace ai := ai.ch kT
      replace ad := ad.ch kT
      replace ae := ae.ch kT
      replace ab := ab.ch kT
      replace af := af.ch kT
      replace aa := aa.ch kT
      replace ag := ag.ch kT
      replace ah := ah.ch kT
      replace qL := qL.ch kT
      replace hB := hB.trans (Owns.J15 _ _ 2)
      dsimp only [eS, eZ] at hB
      replace hO := hO1; clear hO1
      obtain ⟨By, H⟩ := H
      have hobt := oapp Try.underlying26 ti3 rfl 0 hO rfl qL aF yB By (by decide)
      obtain ⟨Fd, tJ, tK, Dk, gz, m8, wk⟩ := hobt
      dsimp only [sS, sZ] at gz m8
      refine GoT.stepX rfl (wk (by exact rfl) (by exact rfl)) rfl rfl rfl ?_
      replace hO := gz.own
      replace ai := ai.ch gz.ch
      replace ad := ad.ch gz.ch
      replace ae := ae.ch gz.ch
      replace ab := ab.ch gz.ch
      replace af := af.ch gz.ch
      replace aa := aa.ch gz.ch
      replace ag := ag.ch gz.ch
      replace ah := ah.ch gz.ch
      replace aF := aF.ch gz.ch
      replace hB := hB.trans gz.fr
      obtain ⟨tL, H⟩ := H
      obtain ⟨tM, H⟩ := H
      refine GoT.pure rfl (J01 Try.underlying22 ti26 rfl rfl tL (ltn (t2neqH 1 hO rfl) tM) (t2someH 1 hO rfl tL tM)) rfl rfl ?_
      skip
      have dA := Stp.front 1 hO rfl
      dsimp only [eS, eZ] at dA
      replace m8 := m8.ch dA.ch
      replace hO := dA.own
      replace ai := ai.ch dA.ch
      replace ad := ad.ch dA.ch
      replace ae := ae.ch dA.ch
      replace ab := ab.ch dA.ch
      replace af := af.ch dA.ch
      replace aa := aa.ch dA.ch
      replace ag := ag.ch dA.ch
      replace ah := ah.ch dA.ch
      replace aF := aF.ch dA.ch
      replace hB := hB.trans dA.fr
      have dB := Stp.front 1 hO rfl
      dsimp only [eS, eZ] at dB
      replace m8 := m8.ch dB.ch
      replace hO := dB.own
      replace ai := ai.ch dB.ch
      replace ad := ad.ch dB.ch
      replace ae := ae.ch dB.ch
      replace ab := ab.ch dB.ch
      replace af := af.ch dB.ch
      replace aa := aa.ch dB.ch
      replace ag := ag.ch dB.ch
      replace ah := ah.ch dB.ch
      replace aF := aF.ch dB.ch
      replace hB := hB.trans dB.fr
      have hobt := t2fix (hf := (Fl.int .i64)) hO m8 tL tM rfl
      obtain ⟨Fe, i4, wm⟩ := hobt
      refine GoT.stepX rfl (wm Try.underlying26 rfl ti26 (by exact rfl) (by exact rfl)) rfl rfl rfl ?_
      replace hO := i4.own
      replace ai := ai.ch i4.ch
      replace ad := ad.ch i4.ch
      replace ae := ae.ch i4.ch
      replace ab := ab.ch i4.ch
      replace af := af.ch i4.ch
      replace aa := aa.ch i4.ch
      replace ag := ag.ch i4.ch
      replace ah := ah.ch i4.ch
      replace aF := aF.ch i4.ch
      replace hB := hB.trans i4.fr
      refine GoT.nil ?_
      refine Go1.drawS 1 [(0, .pure), (1, .stable), (2, .pure), (3, .pure), (4, .stable), (5, .pure), (6, .pure), (7, .stable), (8, .pure), (9, .pure), (10, .stable), (11, .pure), (12, .pure), (13, .stable), (14, .pure), (15, .pure), (16, .pure), (17, .pure), (18, .stable), (19, .pure), (20, .pure), (21, .stable), (22, .pure), (23, .pure), (24, .pure), (25, .pure), (26, .last)] mixed (by kernel_rfl) ?_
      intro Ff yC
      have i5 := Stp.same hO yC
      replace hO := i5.own
      replace ai := ai.ch i5.ch
      replace ad := ad.ch i5.ch
      replace ae := ae.ch i5.ch
      replace ab := ab.ch i5.ch
      replace af := af.ch i5.ch
      replace aa := aa.ch i5.ch
      replace ag := ag.ch i5.ch
      replace ah := ah.ch i5.ch
      replace aF := aF.ch i5.ch
      replace hB := hB.trans i5.fr
      refine GoQ.pure rfl (J03 Try.underlying35 rfl ti27 rfl (by decide)) rfl rfl ?_
      refine GoQ.stable rfl (oblk (i := 3) 4 hO rfl rfl Try.underlying27 rfl rfl) rfl rfl ?_
      refine GoQ.pure rfl (J00 rfl) rfl rfl ?_
      obtain ⟨mo, H⟩ := H
      obtain ⟨mp, H⟩ := H
      refine GoQ.pure rfl (J01 Try.underlying27 ti42 rfl rfl mo (ltn (t2neq 2 hO rfl) mp) (t2some 2 hO rfl mo mp)) rfl rfl ?_
      refine GoQ.stable rfl (t2head 2 hO rfl mo mp Try.underlying42 rfl rfl) rfl rfl ?_
      refine GoQ.pure rfl (J00 rfl) rfl rfl ?_
      refine GoQ.pure rfl (J03 Try.underlying35 rfl ti27 rfl (by decide)) rfl rfl ?_
      refine GoQ.stable rfl (oblk (i := 3) 4 hO rfl rfl Try.underlying27 rfl rfl) rfl rfl ?_
      refine GoQ.pure rfl (J00 rfl) rfl rfl ?_
      obtain ⟨oq, H⟩ := H
      obtain ⟨ot, H⟩ := H
      refine GoQ.pure rfl (J01 Try.underlying27 ti42 rfl rfl oq (ltn (t2neq 2 hO rfl) ot) (t2some 2 hO rfl oq ot)) rfl rfl ?_
      refine GoQ.stable rfl (t2head 2 hO rfl oq ot Try.underlying42 rfl rfl) rfl rfl ?_
      refine GoQ.pure rfl (J00 rfl) rfl rfl ?_
      obtain ⟨qM, H⟩ := H
      obtain ⟨qN, H⟩ := H
      refine GoQ.pure rfl (J01 Try.underlying42 ti4 rfl rfl qM qN (t2isome 2 hO rfl oq ot qM qN)) rfl rfl ?_
      by_cases qO : ix (ix d_252 r267) r279 = true
      ·replace H := ifp qO H
       refine GoQ.stable rfl (fun w hw => opB ((t2Bool 2 hO rfl oq ot qM qN Try.underlying4 rfl rfl) w hw) (qO)) rfl rfl ?_
       refine GoQ.pure rfl (J00 rfl) rfl rfl ?_
       refine GoQ.pass rfl rfl rfl ?_
       refine GoQ.pass rfl rfl rfl ?_
       refine GoQ.pass rfl rfl rfl ?_
       refine GoQ.pass rfl rfl rfl ?_
       refine GoQ.pass rfl rfl rfl ?_
       refine GoQ.pass rfl rfl rfl ?_
       refine GoQ.pass rfl rfl rfl ?_
       refine GoQ.pass rfl rfl rfl ?_
       refine GoQ.pass rfl rfl rfl ?_
       refine GoQ.pure rfl (J1J rfl rfl rfl) rfl rfl ?_
       obtain ⟨tN, H⟩ := H
       obtain ⟨tO, H⟩ := H
       refine GoQ.pure rfl (J01 Try.underlying42 ti4 rfl rfl tN tO (t2isome 2 hO rfl mo mp tN tO)) rfl rfl ?_
       have hobt := t2st (r := Rp.bool) (hf := Fl.bool) rfl 2 hO rfl mo mp tN tO (v := .bool true) (u := true) rfl rfl
       obtain ⟨Fg, gA, wn⟩ := hobt
       dsimp only [sS, sZ] at gA
       refine GoQ.last rfl (wn Try.underlying4 rfl ti4 (by exact rfl) (by exact rfl)) rfl rfl ?_
       replace hO := gA.own
       replace ai := ai.ch gA.ch
       replace ad := ad.ch gA.ch
       replace ae := ae.ch gA.ch
       replace ab := ab.ch gA.ch
       replace af := af.ch gA.ch
       replace aa := aa.ch gA.ch
       replace ag := ag.ch gA.ch
       replace ah := ah.ch gA.ch
       replace aF := aF.ch gA.ch
       replace hB := hB.trans gA.fr
       refine GoQ.nil ?_
       refine Go1.inBlock ?_
       refine Go1.cut [(0, .slice bu a0.length bw), (1, .int .i64 a1), (4, .pointer (some ⟨B2, 0, none⟩)), (7, .pointer (some ⟨B21, 0, none⟩)), (8, .pointer (some ⟨B38, 0, none⟩)), (106, .slice am r14.J.length ao), (107, .int .i64 (r14.J.length : Int)), (108, .int .i64 (k3_251 : Int))] ⟨rfl, rfl, rfl, rfl, rfl, rfl, rfl, rfl, trivial⟩ ?_
       intro σ _
       refine Go1.region ?_
       refine GoR.op ((J06 rfl rfl (wrap_i64 (natbd bN ab.bd))) _) rfl rfl ?_
       refine GoR.op ((J00 rfl) _) rfl rfl ?_
       refine GoR.nil ?_
       have gB := Stp.front 1 hO rfl
       dsimp only [eS, eZ] at gB
       replace hO := gB.own
       replace ai := ai.ch gB.ch
       replace ad := ad.ch gB.ch
       replace ae := ae.ch gB.ch
       replace ab := ab.ch gB.ch
       replace af := af.ch gB.ch
       replace aa := aa.ch gB.ch
       replace ag := ag.ch gB.ch
       replace ah := ah.ch gB.ch
       replace aF := aF.ch gB.ch
       replace hB := hB.trans gB.fr
       have gC := Stp.front 1 hO rfl
       dsimp only [eS, eZ] at gC
       replace hO := gC.own
       replace ai := ai.ch gC.ch
       replace ad := ad.ch gC.ch
       replace ae := ae.ch gC.ch
       replace ab := ab.ch gC.ch
       replace af := af.ch gC.ch
       replace aa := aa.ch gC.ch
       replace ag := ag.ch gC.ch
       replace ah := ah.ch gC.ch
       replace aF := aF.ch gC.ch
       replace hB := hB.trans gC.fr
       have hobt := t3backF (hf := (Fl.int .i64)) hO hF257 bQ bS (by simp only [J02])
       obtain ⟨i6, hF631⟩ := hobt
       replace hO := i6.own
       replace ai := ai.ch i6.ch
       replace ad := ad.ch i6.ch
       replace ae := ae.ch i6.ch
       replace ab := ab.ch i6.ch
       replace af := af.ch i6.ch
       replace aa := aa.ch i6.ch
       replace ag := ag.ch i6.ch
       replace ah := ah.ch i6.ch
       replace aF := aF.ch i6.ch
       replace hB := hB.trans i6.fr
       have gD := Stp.front 5 hO rfl
       dsimp only [eS, eZ] at gD
       replace hO := gD.own
       replace ai := ai.ch gD.ch
       replace ad := ad.ch gD.ch
       replace ae := ae.ch gD.ch
       replace ab := ab.ch gD.ch
       replace af := af.ch gD.ch
       replace aa := aa.ch gD.ch
       replace ag := ag.ch gD.ch
       replace ah := ah.ch gD.ch
       replace aF := aF.ch gD.ch
       replace hB := hB.trans gD.fr
       have gE := Stp.front 5 hO rfl
       dsimp only [eS, eZ] at gE
       replace hO := gE.own
       replace ai := ai.ch gE.ch
       replace ad := ad.ch gE.ch
       replace ae := ae.ch gE.ch
       replace ab := ab.ch gE.ch
       replace af := af.ch gE.ch
       replace aa := aa.ch gE.ch
       replace ag := ag.ch gE.ch
       replace ah := ah.ch gE.ch
       replace aF := aF.ch gE.ch
       replace hB := hB.trans gE.fr
       have gF := Stp.front 5 hO rfl
       dsimp only [eS, eZ] at gF
       replace hO := gF.own
       replace ai := ai.ch gF.ch
       replace ad := ad.ch gF.ch
       replace ae := ae.ch gF.ch
       replace ab := ab.ch gF.ch
       replace af := af.ch gF.ch
       replace aa := aa.ch gF.ch
       replace ag := ag.ch gF.ch
       replace ah := ah.ch gF.ch
       replace aF := aF.ch gF.ch
       replace hB := hB.trans gF.fr
       have gG := Stp.front 3 hO rfl
       dsimp only [eS, eZ] at gG
       replace hO := gG.own
       replace ai := ai.ch gG.ch
       replace ad := ad.ch gG.ch
       replace ae := ae.ch gG.ch
       replace ab := ab.ch gG.ch
       replace af := af.ch gG.ch
       replace aa := aa.ch gG.ch
       replace ag := ag.ch gG.ch
       replace ah := ah.ch gG.ch
       replace aF := aF.ch gG.ch
       replace hB := hB.trans gG.fr
       have gH := Stp.front 5 hO rfl
       dsimp only [eS, eZ] at gH
       replace hO := gH.own
       replace ai := ai.ch gH.ch
       replace ad := ad.ch gH.ch
       replace ae := ae.ch gH.ch
       replace ab := ab.ch gH.ch
       replace af := af.ch gH.ch
       replace aa := aa.ch gH.ch
       replace ag := ag.ch gH.ch
       replace ah := ah.ch gH.ch
       replace aF := aF.ch gH.ch
       replace hB := hB.trans gH.fr
       have gI := Stp.front 5 hO rfl
       dsimp only [eS, eZ] at gI
       replace hO := gI.own
       replace ai := ai.ch gI.ch
       replace ad := ad.ch gI.ch
       replace ae := ae.ch gI.ch
       replace ab := ab.ch gI.ch
       replace af := af.ch gI.ch
       replace aa := aa.ch gI.ch
       replace ag := ag.ch gI.ch
       replace ah := ah.ch gI.ch
       replace aF := aF.ch gI.ch
       replace hB := hB.trans gI.fr
       exact hX3 _ H _ _ ⟨bo, ps255, (fun k => if k = r267.toNat then hup ((aB r267.toNat)) r279.toNat (tJ, tK) else aB k), ⟨rfl, rfl, rfl, rfl, rfl, rfl, rfl, rfl, trivial⟩, hO, hF631, ai, ad, ae, ab, af, aa, ag, ah, hB⟩
      replace H := ifn qO H
      refine GoQ.stable rfl (fun w hw => opB ((t2Bool 2 hO rfl oq ot qM qN Try.underlying4 rfl rfl) w hw) (Bool.eq_false_iff.2 qO)) rfl rfl ?_
      refine GoQ.pure rfl (J00 rfl) rfl rfl ?_
      refine GoQ.pure rfl (J00 rfl) rfl rfl ?_
      refine GoQ.pure rfl (J00 rfl) rfl rfl ?_
      obtain ⟨tP, H⟩ := H
      obtain ⟨tQ, H⟩ := H
      refine GoQ.pure rfl (J01 Try.underlying22 ti26 rfl rfl tP tQ (ai.some_ tP tQ)) rfl rfl ?_
      have hobt := ldSl ai tP tQ
      obtain ⟨Fh, Fi, bk, yD⟩ := hobt
      refine GoQ.stable rfl (yD Try.underlying26 rfl rfl) rfl rfl ?_
      refine GoQ.pure rfl (J00 rfl) rfl rfl ?_
      obtain ⟨tR, H⟩ := H
      obtain ⟨tS, H⟩ := H
      refine GoQ.pure rfl (J01 Try.underlying26 ti3 rfl rfl tR tS (bk.some_ tR tS)) rfl rfl ?_
      refine GoQ.stable rfl (ldInt bk tR tS Try.underlying3 rfl rfl) rfl rfl ?_
      refine GoQ.pure rfl (J00 rfl) rfl rfl ?_
      by_cases qP : (ix (ix a0 (k3_251 : Int)) (k3_251 : Int)) = (k3_251 : Int)
      ·replace H := ifp qP H
       refine GoQ.pure rfl (fun w => opB (J0N rfl rfl w) (decide_eq_true qP)) rfl rfl ?_
       refine GoQ.pure rfl (J0p rfl rfl rfl) rfl rfl ?_
       obtain ⟨tT, H⟩ := H
       obtain ⟨tU, H⟩ := H
       refine GoQ.pure rfl (J01 Try.underlying42 ti4 rfl rfl tT tU (t2isome 2 hO rfl mo mp tT tU)) rfl rfl ?_
       have hobt := t2st (r := Rp.bool) (hf := Fl.bool) rfl 2 hO rfl mo mp tT tU (v := .bool true) (u := true) rfl rfl
       obtain ⟨Fj, dC, wo⟩ := hobt
       dsimp only [sS, sZ] at dC
       refine GoQ.last rfl (wo Try.underlying4 rfl ti4 (by exact rfl) (by exact rfl)) rfl rfl ?_
       replace hO := dC.own
       replace ai := ai.ch dC.ch
       replace ad := ad.ch dC.ch
       replace ae := ae.ch dC.ch
       replace ab := ab.ch dC.ch
       replace af := af.ch dC.ch
       replace aa := aa.ch dC.ch
       replace ag := ag.ch dC.ch
       replace ah := ah.ch dC.ch
       replace aF := aF.ch dC.ch
       replace bk := bk.ch dC.ch
       replace hB := hB.trans dC.fr
       refine GoQ.nil ?_
       refine Go1.inBlock ?_
       refine Go1.region ?_
       refine GoR.op ((J06 rfl rfl (wrap_i64 (natbd bN ab.bd))) _) rfl rfl ?_
       refine GoR.op ((J00 rfl) _) rfl rfl ?_
       refine GoR.nil ?_
       have dD := Stp.front 1 hO rfl
       dsimp only [eS, eZ] at dD
       replace hO := dD.own
       replace ai := ai.ch dD.ch
       replace ad := ad.ch dD.ch
       replace ae := ae.ch dD.ch
       replace ab := ab.ch dD.ch
       replace af := af.ch dD.ch
       replace aa := aa.ch dD.ch
       replace ag := ag.ch dD.ch
       replace ah := ah.ch dD.ch
       replace aF := aF.ch dD.ch
       replace bk := bk.ch dD.ch
       replace hB := hB.trans dD.fr
       have dE := Stp.front 1 hO rfl
       dsimp only [eS, eZ] at dE
       replace hO := dE.own
       replace ai := ai.ch dE.ch
       replace ad := ad.ch dE.ch
       replace ae := ae.ch dE.ch
       replace ab := ab.ch dE.ch
       replace af := af.ch dE.ch
       replace aa := aa.ch dE.ch
       replace ag := ag.ch dE.ch
       replace ah := ah.ch dE.ch
       replace aF := aF.ch dE.ch
       replace bk := bk.ch dE.ch
       replace hB := hB.trans dE.fr
       have hobt := t3backF (hf := (Fl.int .i64)) hO hF257 bQ bS (by simp only [J02])
       obtain ⟨gJ, hF655⟩ := hobt
       replace hO := gJ.own
       replace ai := ai.ch gJ.ch
       replace ad := ad.ch gJ.ch
       replace ae := ae.ch gJ.ch
       replace ab := ab.ch gJ.ch
       replace af := af.ch gJ.ch
       replace aa := aa.ch gJ.ch
       replace ag := ag.ch gJ.ch
       replace ah := ah.ch gJ.ch
       replace aF := aF.ch gJ.ch
       replace bk := bk.ch gJ.ch
       replace hB := hB.trans gJ.fr
       have dF := Stp.front 5 hO rfl
       dsimp only [eS, eZ] at dF
       replace hO := dF.own
       replace ai := ai.ch dF.ch
       replace ad := ad.ch dF.ch
       replace ae := ae.ch dF.ch
       replace ab := ab.ch dF.ch
       replace af := af.ch dF.ch
       replace aa := aa.ch dF.ch
       replace ag := ag.ch dF.ch
       replace ah := ah.ch dF.ch
       replace aF := aF.ch dF.ch
       replace bk := bk.ch dF.ch
       replace hB := hB.trans dF.fr
       have dG := Stp.front 5 hO rfl
       dsimp only [eS, eZ] at dG
       replace hO := dG.own
       replace ai := ai.ch dG.ch
       replace ad := ad.ch dG.ch
       replace ae := ae.ch dG.ch
       replace ab := ab.ch dG.ch
       replace af := af.ch dG.ch
       replace aa := aa.ch dG.ch
       replace ag := ag.ch dG.ch
       replace ah := ah.ch dG.ch
       replace aF := aF.ch dG.ch
       replace bk := bk.ch dG.ch
       replace hB := hB.trans dG.fr
       have dH := Stp.front 5 hO rfl
       dsimp only [eS, eZ] at dH
       replace hO := dH.own
       replace ai := ai.ch dH.ch
       replace ad := ad.ch dH.ch
       replace ae := ae.ch dH.ch
       replace ab := ab.ch dH.ch
       replace af := af.ch dH.ch
       replace aa := aa.ch dH.ch
       replace ag := ag.ch dH.ch
       replace ah := ah.ch dH.ch
       replace aF := aF.ch dH.ch
       replace bk := bk.ch dH.ch
       replace hB := hB.trans dH.fr
       have dI := Stp.front 3 hO rfl
       dsimp only [eS, eZ] at dI
       replace hO := dI.own
       replace ai := ai.ch dI.ch
       replace ad := ad.ch dI.ch
       replace ae := ae.ch dI.ch
       replace ab := ab.ch dI.ch
       replace af := af.ch dI.ch
       replace aa := aa.ch dI.ch
       replace ag := ag.ch dI.ch
       replace ah := ah.ch dI.ch
       replace aF := aF.ch dI.ch
       replace bk := bk.ch dI.ch
       replace hB := hB.trans dI.fr
       have dJ := Stp.front 5 hO rfl
       dsimp only [eS, eZ] at dJ
       replace hO := dJ.own
       replace ai := ai.ch dJ.ch
       replace ad := ad.ch dJ.ch
       replace ae := ae.ch dJ.ch
       replace ab := ab.ch dJ.ch
       replace af := af.ch dJ.ch
       replace aa := aa.ch dJ.ch
       replace ag := ag.ch dJ.ch
       replace ah := ah.ch dJ.ch
       replace aF := aF.ch dJ.ch
       replace bk := bk.ch dJ.ch
       replace hB := hB.trans dJ.fr
       have dK := Stp.front 5 hO rfl
       dsimp only [eS, eZ] at dK
       replace hO := dK.own
       replace ai := ai.ch dK.ch
       replace ad := ad.ch dK.ch
       replace ae := ae.ch dK.ch
       replace ab := ab.ch dK.ch
       replace af := af.ch dK.ch
       replace aa := aa.ch dK.ch
       replace ag := ag.ch dK.ch
       replace ah := ah.ch dK.ch
       replace aF := aF.ch dK.ch
       replace bk := bk.ch dK.ch
       replace hB := hB.trans dK.fr
       exact hX3 _ H _ _ ⟨bo, ps255, (fun k => if k = r267.toNat then hup ((aB r267.toNat)) r279.toNat (tJ, tK) else aB k), ⟨rfl, rfl, rfl, rfl, rfl, rfl, rfl, rfl, trivial⟩, hO, hF655, ai, ad, ae, ab, af, aa, ag, ah, hB⟩
      replace H := ifn qP H
      refine GoQ.pure rfl (fun w => opB (J0N rfl rfl w) (decide_eq_false qP)) rfl rfl ?_
      refine GoQ.pure rfl (J0p rfl rfl rfl) rfl rfl ?_
      obtain ⟨tV, H⟩ := H
      obtain ⟨tW, H⟩ := H
      refine GoQ.pure rfl (J01 Try.underlying42 ti4 rfl rfl tV tW (t2isome 2 hO rfl mo mp tV tW)) rfl rfl ?_
      have hobt := t2st (r := Rp.bool) (hf := Fl.bool) rfl 2 hO rfl mo mp tV tW (v := .bool false) (u := false) rfl rfl
      obtain ⟨Fk, dM, wq⟩ := hobt
      dsimp only [sS, sZ] at dM
      refine GoQ.last rfl (wq Try.underlying4 rfl ti4 (by exact rfl) (by exact rfl)) rfl rfl ?_
      replace hO := dM.own
      replace ai := ai.ch dM.ch
      replace ad := ad.ch dM.ch
      replace ae := ae.ch dM.ch
      replace ab := ab.ch dM.ch
      replace af := af.ch dM.ch
      replace aa := aa.ch dM.ch
      replace ag := ag.ch dM.ch
      replace ah := ah.ch dM.ch
      replace aF := aF.ch dM.ch
      replace bk := bk.ch dM.ch
      replace hB := hB.trans dM.fr
      refine GoQ.nil ?_
      refine Go1.inBlock ?_
      refine Go1.cut [(0, .slice bu a0.length bw), (1, .int .i64 a1), (4, .pointer (some ⟨B2, 0, none⟩)), (7, .pointer (some ⟨B21, 0, none⟩)), (8, .pointer (some ⟨B38, 0, none⟩)), (106, .slice am r14.J.length ao), (107, .int .i64 (r14.J.length : Int)), (108, .int .i64 (k3_251 : Int))] ⟨rfl, rfl, rfl, rfl, rfl, rfl, rfl, rfl, trivial⟩ ?_
      intro σ _
      refine Go1.region ?_
      refine GoR.op ((J06 rfl rfl (wrap_i64 (natbd bN ab.bd))) _) rfl rfl ?_
      refine GoR.op ((J00 rfl) _) rfl rfl ?_
      refine GoR.nil ?_
      have dN := Stp.front 1 hO rfl
      dsimp only [eS, eZ] at dN
      replace hO := dN.own
      replace ai := ai.ch dN.ch
      replace ad := ad.ch dN.ch
      replace ae := ae.ch dN.ch
      replace ab := ab.ch dN.ch
      replace af := af.ch dN.ch
      replace aa := aa.ch dN.ch
      replace ag := ag.ch dN.ch
      replace ah := ah.ch dN.ch
      replace aF := aF.ch dN.ch
      replace bk := bk.ch dN.ch
      replace hB := hB.trans dN.fr
      have dO := Stp.front 1 hO rfl
      dsimp only [eS, eZ] at dO
      replace hO := dO.own
      replace ai := ai.ch dO.ch
      replace ad := ad.ch dO.ch
      replace ae := ae.ch dO.ch
      replace ab := ab.ch dO.ch
      replace af := af.ch dO.ch
      replace aa := aa.ch dO.ch
      replace ag := ag.ch dO.ch
      replace ah := ah.ch dO.ch
      replace aF := aF.ch dO.ch
      replace bk := bk.ch dO.ch
      replace hB := hB.trans dO.fr
      have hobt := t3backF (hf := (Fl.int .i64)) hO hF257 bQ bS (by simp only [J02])
      obtain ⟨gK, hF670⟩ := hobt
      replace hO := gK.own
      replace ai := ai.ch gK.ch
      replace ad := ad.ch gK.ch
      replace ae := ae.ch gK.ch
      replace ab := ab.ch gK.ch
      replace af := af.ch gK.ch
      replace aa := aa.ch gK.ch
      replace ag := ag.ch gK.ch
      replace ah := ah.ch gK.ch
      replace aF := aF.ch gK.ch
      replace bk := bk.ch gK.ch
      replace hB := hB.trans gK.fr
      have dP := Stp.front 5 hO rfl
      dsimp only [eS, eZ] at dP
      replace hO := dP.own
      replace ai := ai.ch dP.ch
      replace ad := ad.ch dP.ch
      replace ae := ae.ch dP.ch
      replace ab := ab.ch dP.ch
      replace af := af.ch dP.ch
      replace aa := aa.ch dP.ch
      replace ag := ag.ch dP.ch
      replace ah := ah.ch dP.ch
      replace aF := aF.ch dP.ch
      replace bk := bk.ch dP.ch
      replace hB := hB.trans dP.fr
      have dQ := Stp.front 5 hO rfl
      dsimp only [eS, eZ] at dQ
      replace hO := dQ.own
      replace ai := ai.ch dQ.ch
      replace ad := ad.ch dQ.ch
      replace ae := ae.ch dQ.ch
      replace ab := ab.ch dQ.ch
      replace af := af.ch dQ.ch
      replace aa := aa.ch dQ.ch
      replace ag := ag.ch dQ.ch
      replace ah := ah.ch dQ.ch
      replace aF := aF.ch dQ.ch
      replace bk := bk.ch dQ.ch
      replace hB := hB.trans dQ.fr
      have dS := Stp.front 5 hO rfl
      dsimp only [eS, eZ] at dS
      replace hO := dS.own
      replace ai := ai.ch dS.ch
      replace ad := ad.ch dS.ch
      replace ae := ae.ch dS.ch
      replace ab := ab.ch dS.ch
      replace af := af.ch dS.ch
      replace aa := aa.ch dS.ch
      replace ag := ag.ch dS.ch
      replace ah := ah.ch dS.ch
      replace aF := aF.ch dS.ch
      replace bk := bk.ch dS.ch
      replace hB := hB.trans dS.fr
      have dT := Stp.front 3 hO rfl
      dsimp only [eS, eZ] at dT
      replace hO := dT.own
      replace ai := ai.ch dT.ch
      replace ad := ad.ch dT.ch
      replace ae := ae.ch dT.ch
      replace ab := ab.ch dT.ch
      replace af := af.ch dT.ch
      replace aa := aa.ch dT.ch
      replace ag := ag.ch dT.ch
      replace ah := ah.ch dT.ch
      replace aF := aF.ch dT.ch
      replace bk := bk.ch dT.ch
      replace hB := hB.trans dT.fr
      have dU := Stp.front 5 hO rfl
      dsimp only [eS, eZ] at dU
      replace hO := dU.own
      replace ai := ai.ch dU.ch
      replace ad := ad.ch dU.ch
      replace ae := ae.ch dU.ch
      replace ab := ab.ch dU.ch
      replace af := af.ch dU.ch
      replace aa := aa.ch dU.ch
      replace ag := ag.ch dU.ch
      replace ah := ah.ch dU.ch
      replace aF := aF.ch dU.ch
      replace bk := bk.ch dU.ch
      replace hB := hB.trans dU.fr
      have dV := Stp.front 5 hO rfl
      dsimp only [eS, eZ] at dV
      replace hO := dV.own
      replace ai := ai.ch dV.ch
      replace ad := ad.ch dV.ch
      replace ae := ae.ch dV.ch
      replace ab := ab.ch dV.ch
      replace af := af.ch dV.ch
      replace aa := aa.ch dV.ch
      replace ag := ag.ch dV.ch
      replace ah := ah.ch dV.ch
      replace aF := aF.ch dV.ch
      replace bk := bk.ch dV.ch
      replace hB := hB.trans dV.fr
      exact hX3 _ H _ _ ⟨bo, ps255, (fun k => if k = r267.toNat then hup ((aB r267.toNat)) r279.toNat (tJ, tK) else aB k), ⟨rfl, rfl, rfl, rfl, rfl, rfl, rfl, rfl, trivial⟩, hO, hF670, ai, ad, ae, ab, af, aa, ag, ah, hB⟩
     skip
     have gL := Stp.front 1 hO rfl
     dsimp only [eS, eZ] at gL
     replace fx := fx.ch gL.ch
     replace hO := gL.own
     replace ai := ai.ch gL.ch
     replace ad := ad.ch gL.ch
     replace ae := ae.ch gL.ch
     replace ab := ab.ch gL.ch
     replace af := af.ch gL.ch
     replace aa := aa.ch gL.ch
     replace ag := ag.ch gL.ch
     replace ah := ah.ch gL.ch
     replace hB := hB.trans gL.fr
     have hobt := t2take (hf := (Fl.int .i64)) hO l9 ma
     obtain ⟨yE, i7, yF⟩ := hobt
     replace fx := fx.ch i7.ch
     replace hO := i7.own
     replace ai := ai.ch i7.ch
     replace ad := ad.ch i7.ch
     replace ae := ae.ch i7.ch
     replace ab := ab.ch i7.ch
     replace af := af.ch i7.ch
     replace aa := aa.ch i7.ch
     replace ag := ag.ch i7.ch
     replace ah := ah.ch i7.ch
     replace hB := hB.trans i7.fr
     have qQ := yF (bl [.row 3 1 (((aB r267.toNat)) r279.toNat).1 ((ix ((ix d_253 r267)) r279).length) ((((aB r267.toNat)) r279.toNat).2) yE, t2h (Fl.int .i64) 26 3 (ps255 r267.toNat).1 ((ix d_253 r267).length) ((ps255 r267.toNat).2) ((aB r267.toNat)) ((ix d_253 r267)) r279.toNat, .row 3 1 tI 1 1 [.int .i64 (k3_251 : Int)], famH d_253.length (lay3 (Fl.int .i64) 26 3 ps255 aB d_253) r267.toNat, t2 Fl.bool 42 4 a9 aY ba bA d_252, .row 22 1 bc a8 bg bo, .blk B38 (.cells #[.slice p60 r140.length c61, .slice p54 r152.length c55, .slice bc a8 bg, .slice a9 aY ba] 35 (0, 0)), .blk B21 (.cells #[.slice av r14.R.length aw, .slice ax r14.L.length ay, .slice am r14.J.length ao, .slice az r14.H.length aA, .slice aj r14.Below.length ak] 29 (0, 0)), .blk B2 (.cells #[.slice none 0 0, .slice none 0 0, .slice none 0 0, .slice none 0 0] 35 (0, 0))] ++ A)
     have hobt := freeze 2 hO rfl fx
     obtain ⟨hO1, kU, aG, yG⟩ := hobt
     dsimp only [eS, eZ] at hO1 kU aG
     replace ai := ai.ch kU
     replace ad := ad.ch kU
     replace ae := ae.ch kU
     replace ab := ab.ch kU
     replace af := af.ch kU
     replace aa := aa.ch kU
     replace ag := ag.ch kU
     replace ah := ah.ch kU
     replace qQ := qQ.ch kU
     replace hB := hB.trans (Owns.J15 _ _ 2)
     dsimp only [eS, eZ] at hB
     replace hO := hO1; clear hO1
     obtain ⟨Bz, H⟩ := H
     have hobt := oapp Try.underlying26 ti3 rfl 0 hO rfl qQ aG yG Bz (by decide)
     obtain ⟨Fm, tX, tY, Dl, gM, m9, wr⟩ := hobt
     dsimp only [sS, sZ] at gM m9
     refine GoT.stepX rfl (wr (by exact rfl) (by exact rfl)) rfl rfl rfl ?_
     replace hO := gM.own
     replace ai := ai.ch gM.ch
     replace ad := ad.ch gM.ch
     replace ae := ae.ch gM.ch
     replace ab := ab.ch gM.ch
     replace af := af.ch gM.ch
     replace aa := aa.ch gM.ch
     replace ag := ag.ch gM.ch
     replace ah := ah.ch gM.ch
     replace aG := aG.ch gM.ch
     replace hB := hB.trans gM.fr
     skip
     refine GoT.step rfl ((t3headF 4 hO rfl hF257 qJ qK Try.underlying22 rfl rfl) _ (Same.refl _)) (Same.refl _) rfl rfl ?_
     obtain ⟨t5, H⟩ := H
     obtain ⟨t6, H⟩ := H
     refine GoT.pure rfl (J01 Try.underlying22 ti26 rfl rfl t5 (ltn (t2neqH 1 hO rfl) t6) (t2someH 1 hO rfl t5 t6)) rfl rfl ?_
     skip
     have dW := Stp.front 1 hO rfl
     dsimp only [eS, eZ] at dW
     replace m9 := m9.ch dW.ch
     replace hO := dW.own
     replace ai := ai.ch dW.ch
     replace ad := ad.ch dW.ch
     replace ae := ae.ch dW.ch
     replace ab := ab.ch dW.ch
     replace af := af.ch dW.ch
     replace aa := aa.ch dW.ch
     replace ag := ag.ch dW.ch
     replace ah := ah.ch dW.ch
     replace aG := aG.ch dW.ch
     replace hB := hB.trans dW.fr
     have dX := Stp.front 1 hO rfl
     dsimp only [eS, eZ] at dX
     replace m9 := m9.ch dX.ch
     replace hO := dX.own
     replace ai := ai.ch dX.ch
     replace ad := ad.ch dX.ch
     replace ae := ae.ch dX.ch
     replace ab := ab.ch dX.ch
     replace af := af.ch dX.ch
     replace aa := aa.ch dX.ch
     replace ag := ag.ch dX.ch
     replace ah := ah.ch dX.ch
     replace aG := aG.ch dX.ch
     replace hB := hB.trans dX.fr
     have hobt := t2fix (hf := (Fl.int .i64)) hO m9 t5 t6 rfl
     obtain ⟨Fo, i8, ws⟩ := hobt
     refine GoT.stepX rfl (ws Try.underlying26 rfl ti26 (by exact rfl) (by exact rfl)) rfl rfl rfl ?_
     replace hO := i8.own
     replace ai := ai.ch i8.ch
     replace ad := ad.ch i8.ch
     replace ae := ae.ch i8.ch
     replace ab := ab.ch i8.ch
     replace af := af.ch i8.ch
     replace aa := aa.ch i8.ch
     replace ag := ag.ch i8.ch
     replace ah := ah.ch i8.ch
     replace aG := aG.ch i8.ch
     replace hB := hB.trans i8.fr
     refine GoT.nil ?_
     refine Go1.drawS 1 [(0, .pure), (1, .stable), (2, .pure), (3, .pure), (4, .stable), (5, .pure), (6, .pure), (7, .stable), (8, .pure), (9, .pure), (10, .stable), (11, .pure), (12, .pure), (13, .stable), (14, .pure), (15, .pure), (16, .pure), (17, .pure), (18, .stable), (19, .pure), (20, .pure), (21, .stable), (22, .pure), (23, .pure), (24, .pure), (25, .pure), (26, .last)] mixed (by kernel_rfl) ?_
     intro Fp yH
     have i9 := Stp.same hO yH
     replace hO := i9.own
     replace ai := ai.ch i9.ch
     replace ad := ad.ch i9.ch
     replace ae := ae.ch i9.ch
     replace ab := ab.ch i9.ch
     replace af := af.ch i9.ch
     replace aa := aa.ch i9.ch
     replace ag := ag.ch i9.ch
     replace ah := ah.ch i9.ch
     replace aG := aG.ch i9.ch
     replace hB := hB.trans i9.fr
     refine GoQ.pure rfl (J03 Try.underlying35 rfl ti27 rfl (by decide)) rfl rfl ?_
     refine GoQ.stable rfl (oblk (i := 3) 4 hO rfl rfl Try.underlying27 rfl rfl) rfl rfl ?_
     refine GoQ.pure rfl (J00 rfl) rfl rfl ?_
     obtain ⟨mq, H⟩ := H
     obtain ⟨mt, H⟩ := H
     refine GoQ.pure rfl (J01 Try.underlying27 ti42 rfl rfl mq (ltn (t2neq 2 hO rfl) mt) (t2some 2 hO rfl mq mt)) rfl rfl ?_
     refine GoQ.stable rfl (t2head 2 hO rfl mq mt Try.underlying42 rfl rfl) rfl rfl ?_
     refine GoQ.pure rfl (J00 rfl) rfl rfl ?_
     refine GoQ.pure rfl (J03 Try.underlying35 rfl ti27 rfl (by decide)) rfl rfl ?_
     refine GoQ.stable rfl (oblk (i := 3) 4 hO rfl rfl Try.underlying27 rfl rfl) rfl rfl ?_
     refine GoQ.pure rfl (J00 rfl) rfl rfl ?_
     obtain ⟨ou, H⟩ := H
     obtain ⟨ov, H⟩ := H
     refine GoQ.pure rfl (J01 Try.underlying27 ti42 rfl rfl ou (ltn (t2neq 2 hO rfl) ov) (t2some 2 hO rfl ou ov)) rfl rfl ?_
     refine GoQ.stable rfl (t2head 2 hO rfl ou ov Try.underlying42 rfl rfl) rfl rfl ?_
     refine GoQ.pure rfl (J00 rfl) rfl rfl ?_
     obtain ⟨qR, H⟩ := H
     obtain ⟨qS, H⟩ := H
     refine GoQ.pure rfl (J01 Try.underlying42 ti4 rfl rfl qR qS (t2isome 2 hO rfl ou ov qR qS)) rfl rfl ?_
     by_cases qT : ix (ix d_252 r267) r279 = true
     ·replace H := ifp qT H
      refine GoQ.stable rfl (fun w hw => opB ((t2Bool 2 hO rfl ou ov qR qS Try.underlying4 rfl rfl) w hw) (qT)) rfl rfl ?_
      refine GoQ.pure rfl (J00 rfl) rfl rfl ?_
      refine GoQ.pass rfl rfl rfl ?_
      refine GoQ.pass rfl rfl rfl ?_
      refine GoQ.pass rfl rfl rfl ?_
      refine GoQ.pass rfl rfl rfl ?_
      refine GoQ.pass rfl rfl rfl ?_
      refine GoQ.pass rfl rfl rfl ?_
      refine GoQ.pass rfl rfl rfl ?_
      refine GoQ.pass rfl rfl rfl ?_
      refine GoQ.pass rfl rfl rfl ?_
      refine GoQ.pure rfl (J1J rfl rfl rfl) rfl rfl ?_
      obtain ⟨t7, H⟩ := H
      obtain ⟨t8, H⟩ := H
      refine GoQ.pure rfl (J01 Try.underlying42 ti4 rfl rfl t7 t8 (t2isome 2 hO rfl mq mt t7 t8)) rfl rfl ?_
      have hobt := t2st (r := Rp.bool) (hf := Fl.bool) rfl 2 hO rfl mq mt t7 t8 (v := .bool true) (u := true) rfl rfl
      obtain ⟨Fq, gN, wt⟩ := hobt
      dsimp only [sS, sZ] at gN
      refine GoQ.last rfl (wt Try.underlying4 rfl ti4 (by exact rfl) (by exact rfl)) rfl rfl ?_
      replace hO := gN.own
      replace ai := ai.ch gN.ch
      replace ad := ad.ch gN.ch
      replace ae := ae.ch gN.ch
      replace ab := ab.ch gN.ch
      replace af := af.ch gN.ch
      replace aa := aa.ch gN.ch
      replace ag := ag.ch gN.ch
      replace ah := ah.ch gN.ch
      replace aG := aG.ch gN.ch
      replace hB := hB.trans gN.fr
      refine GoQ.nil ?_
      refine Go1.inBlock ?_
      refine Go1.cut [(0, .slice bu a0.length bw), (1, .int .i64 a1), (4, .pointer (some ⟨B2, 0, none⟩)), (7, .pointer (some ⟨B21, 0, none⟩)), (8, .pointer (some ⟨B38, 0, none⟩)), (106, .slice am r14.J.length ao), (107, .int .i64 (r14.J.length : Int)), (108, .int .i64 (k3_251 : Int))] ⟨rfl, rfl, rfl, rfl, rfl, rfl, rfl, rfl, trivial⟩ ?_
      intro σ _
      refine Go1.region ?_
      refine GoR.op ((J06 rfl rfl (wrap_i64 (natbd bN ab.bd))) _) rfl rfl ?_
      refine GoR.op ((J00 rfl) _) rfl rfl ?_
      refine GoR.nil ?_
      have gO := Stp.front 1 hO rfl
      dsimp only [eS, eZ] at gO
      replace hO := gO.own
      replace ai := ai.ch gO.ch
      replace ad := ad.ch gO.ch
      replace ae := ae.ch gO.ch
      replace ab := ab.ch gO.ch
      replace af := af.ch gO.ch
      replace aa := aa.ch gO.ch
      replace ag := ag.ch gO.ch
      replace ah := ah.ch gO.ch
      replace aG := aG.ch gO.ch
      replace hB := hB.trans gO.fr
      have gP := Stp.front 1 hO rfl
      dsimp only [eS, eZ] at gP
      replace hO := gP.own
      replace ai := ai.ch gP.ch
      replace ad := ad.ch gP.ch
      replace ae := ae.ch gP.ch
      replace ab := ab.ch gP.ch
      replace af := af.ch gP.ch
      replace aa := aa.ch gP.ch
      replace ag := ag.ch gP.ch
      replace ah := ah.ch gP.ch
      replace aG := aG.ch gP.ch
      replace hB := hB.trans gP.fr
      have hobt := t3backF (hf := (Fl.int .i64)) hO hF257 bQ bS (by simp only [J02])
      obtain ⟨ja, hF720⟩ := hobt
      replace hO := ja.own
      replace ai := ai.ch ja.ch
      replace ad := ad.ch ja.ch
      replace ae := ae.ch ja.ch
      replace ab := ab.ch ja.ch
      replace af := af.ch ja.ch
      replace aa := aa.ch ja.ch
      replace ag := ag.ch ja.ch
      replace ah := ah.ch ja.ch
      replace aG := aG.ch ja.ch
      replace hB := hB.trans ja.fr
      have gQ := Stp.front 5 hO rfl
      dsimp only [eS, eZ] at gQ
      replace hO := gQ.own
      replace ai := ai.ch gQ.ch
      replace ad := ad.ch gQ.ch
      replace ae := ae.ch gQ.ch
      replace ab := ab.ch gQ.ch
      replace af := af.ch gQ.ch
      replace aa := aa.ch gQ.ch
      replace ag := ag.ch gQ.ch
      replace ah := ah.ch gQ.ch
      replace aG := aG.ch gQ.ch
      replace hB := hB.trans gQ.fr
      have gR := Stp.front 5 hO rfl
      dsimp only [eS, eZ] at gR
      replace hO := gR.own
      replace ai := ai.ch gR.ch
      replace ad := ad.ch gR.ch
      replace ae := ae.ch gR.ch
      replace ab := ab.ch gR.ch
      replace af := af.ch gR.ch
      replace aa := aa.ch gR.ch
      replace ag := ag.ch gR.ch
      replace ah := ah.ch gR.ch
      replace aG := aG.ch gR.ch
      replace hB := hB.trans gR.fr
      have gS := Stp.front 5 hO rfl
      dsimp only [eS, eZ] at gS
      replace hO := gS.own
      replace ai := ai.ch gS.ch
      replace ad := ad.ch gS.ch
      replace ae := ae.ch gS.ch
      replace ab := ab.ch gS.ch
      replace af := af.ch gS.ch
      replace aa := aa.ch gS.ch
      replace ag := ag.ch gS.ch
      replace ah := ah.ch gS.ch
      replace aG := aG.ch gS.ch
      replace hB := hB.trans gS.fr
      have gT := Stp.front 3 hO rfl
      dsimp only [eS, eZ] at gT
      replace hO := gT.own
      replace ai := ai.ch gT.ch
      replace ad := ad.ch gT.ch
      replace ae := ae.ch gT.ch
      replace ab := ab.ch gT.ch
      replace af := af.ch gT.ch
      replace aa := aa.ch gT.ch
      replace ag := ag.ch gT.ch
      replace ah := ah.ch gT.ch
      replace aG := aG.ch gT.ch
      replace hB := hB.trans gT.fr
      have gU := Stp.front 5 hO rfl
      dsimp only [eS, eZ] at gU
      replace hO := gU.own
      replace ai := ai.ch gU.ch
      replace ad := ad.ch gU.ch
      replace ae := ae.ch gU.ch
      replace ab := ab.ch gU.ch
      replace af := af.ch gU.ch
      replace aa := aa.ch gU.ch
      replace ag := ag.ch gU.ch
      replace ah := ah.ch gU.ch
      replace aG := aG.ch gU.ch
      replace hB := hB.trans gU.fr
      have gV := Stp.front 5 hO rfl
      dsimp only [eS, eZ] at gV
      replace hO := gV.own
      replace ai := ai.ch gV.ch
      replace ad := ad.ch gV.ch
      replace ae := ae.ch gV.ch
      replace ab := ab.ch gV.ch
      replace af := af.ch gV.ch
      replace aa := aa.ch gV.ch
      replace ag := ag.ch gV.ch
      replace ah := ah.ch gV.ch
      replace aG := aG.ch gV.ch
      replace hB := hB.trans gV.fr
      exact hX3 _ H _ _ ⟨bo, ps255, (fun k => if k = r267.toNat then hup ((aB r267.toNat)) r279.toNat (tX, tY) else aB k), ⟨rfl, rfl, rfl, rfl, rfl, rfl, rfl, rfl, trivial⟩, hO, hF720, ai, ad, ae, ab, af, aa, ag, ah, hB⟩
     replace H := ifn qT H
     refine GoQ.stable rfl (fun w hw => opB ((t2Bool 2 hO rfl ou ov qR qS Try.underlying4 rfl rfl) w hw) (Bool.eq_false_iff.2 qT)) rfl rfl ?_
     refine GoQ.pure rfl (J00 rfl) rfl rfl ?_
     refine GoQ.pure rfl (J00 rfl) rfl rfl ?_
     refine GoQ.pure rfl (J00 rfl) rfl rfl ?_
     obtain ⟨t9, H⟩ := H
     obtain ⟨ua, H⟩ := H
     refine GoQ.pure rfl (J01 Try.underlying22 ti26 rfl rfl t9 ua (ai.some_ t9 ua)) rfl rfl ?_
     have hobt := ldSl ai t9 ua
     obtain ⟨Fs, Ft, bm, yI⟩ := hobt
     refine GoQ.stable rfl (yI Try.underlying26 rfl rfl) rfl rfl ?_
     refine GoQ.pure rfl (J00 rfl) rfl rfl ?_
     obtain ⟨ub, H⟩ := H
     obtain ⟨uc, H⟩ := H
     refine GoQ.pure rfl (J01 Try.underlying26 ti3 rfl rfl ub uc (bm.some_ ub uc)) rfl rfl ?_
     refine GoQ.stable rfl (ldInt bm ub uc Try.underlying3 rfl rfl) rfl rfl ?_
     refine GoQ.pure rfl (J00 rfl) rfl rfl ?_
     by_cases qU : (ix (ix a0 (k3_251 : Int)) (k3_251 : Int)) = (k3_251 : Int)
     ·replace H := ifp qU H
      refine GoQ.pure rfl (fun w => opB (J0N rfl rfl w) (decide_eq_true qU)) rfl rfl ?_
      refine GoQ.pure rfl (J0p rfl rfl rfl) rfl rfl ?_
      obtain ⟨ud, H⟩ := H
      obtain ⟨ue, H⟩ := H
      refine GoQ.pure rfl (J01 Try.underlying42 ti4 rfl rfl ud ue (t2isome 2 hO rfl mq mt ud ue)) rfl rfl ?_
      have hobt := t2st (r := Rp.bool) (hf := Fl.bool) rfl 2 hO rfl mq mt ud ue (v := .bool true) (u := true) rfl rfl
      obtain ⟨Fu, dY, wu⟩ := hobt
      dsimp only [sS, sZ] at dY
      refine GoQ.last rfl (wu Try.underlying4 rfl ti4 (by exact rfl) (by exact rfl)) rfl rfl ?_
      replace hO := dY.own
      replace ai := ai.ch dY.ch
      replace ad := ad.ch dY.ch
      replace ae := ae.ch dY.ch
      replace ab := ab.ch dY.ch
      replace af := af.ch dY.ch
      replace aa := aa.ch dY.ch
      replace ag := ag.ch dY.ch
      replace ah := ah.ch dY.ch
      replace aG := aG.ch dY.ch
      replace bm := bm.ch dY.ch
      replace hB := hB.trans dY.fr
      refine GoQ.nil ?_
      refine Go1.inBlock ?_
      refine Go1.region ?_
      refine GoR.op ((J06 rfl rfl (wrap_i64 (natbd bN ab.bd))) _) rfl rfl ?_
      refine GoR.op ((J00 rfl) _) rfl rfl ?_
      refine GoR.nil ?_
      have d5 := Stp.front 1 hO rfl
      dsimp only [eS, eZ] at d5
      replace hO := d5.own
      replace ai := ai.ch d5.ch
      replace ad := ad.ch d5.ch
      replace ae := ae.ch d5.ch
      replace ab := ab.ch d5.ch
      replace af := af.ch d5.ch
      replace aa := aa.ch d5.ch
      replace ag := ag.ch d5.ch
      replace ah := ah.ch d5.ch
      replace aG := aG.ch d5.ch
      replace bm := bm.ch d5.ch
      replace hB := hB.trans d5.fr
      have d6 := Stp.front 1 hO rfl
      dsimp only [eS, eZ] at d6
      replace hO := d6.own
      replace ai := ai.ch d6.ch
      replace ad := ad.ch d6.ch
      replace ae := ae.ch d6.ch
      replace ab := ab.ch d6.ch
      replace af := af.ch d6.ch
      replace aa := aa.ch d6.ch
      replace ag := ag.ch d6.ch
      replace ah := ah.ch d6.ch
      replace aG := aG.ch d6.ch
      replace bm := bm.ch d6.ch
      replace hB := hB.trans d6.fr
      have hobt := t3backF (hf := (Fl.int .i64)) hO hF257 bQ bS (by simp only [J02])
      obtain ⟨gW, hF744⟩ := hobt
      replace hO := gW.own
      replace ai := ai.ch gW.ch
      replace ad := ad.ch gW.ch
      replace ae := ae.ch gW.ch
      replace ab := ab.ch gW.ch
      replace af := af.ch gW.ch
      replace aa := aa.ch gW.ch
      replace ag := ag.ch gW.ch
      replace ah := ah.ch gW.ch
      replace aG := aG.ch gW.ch
      replace bm := bm.ch gW.ch
      replace hB := hB.trans gW.fr
      have d7 := Stp.front 5 hO rfl
      dsimp only [eS, eZ] at d7
      replace hO := d7.own
      replace ai := ai.ch d7.ch
      replace ad := ad.ch d7.ch
      replace ae := ae.ch d7.ch
      replace ab := ab.ch d7.ch
      replace af := af.ch d7.ch
      replace aa := aa.ch d7.ch
      replace ag := ag.ch d7.ch
      replace ah := ah.ch d7.ch
      replace aG := aG.ch d7.ch
      replace bm := bm.ch d7.ch
      replace hB := hB.trans d7.fr
      have d8 := Stp.front 5 hO rfl
      dsimp only [eS, eZ] at d8
      replace hO := d8.own
      replace ai := ai.ch d8.ch
      replace ad := ad.ch d8.ch
      replace ae := ae.ch d8.ch
      replace ab := ab.ch d8.ch
      replace af := af.ch d8.ch
      replace aa := aa.ch d8.ch
      replace ag := ag.ch d8.ch
      replace ah := ah.ch d8.ch
      replace aG := aG.ch d8.ch
      replace bm := bm.ch d8.ch
      replace hB := hB.trans d8.fr
      have d9 := Stp.front 5 hO rfl
      dsimp only [eS, eZ] at d9
      replace hO := d9.own
      replace ai := ai.ch d9.ch
      replace ad := ad.ch d9.ch
      replace ae := ae.ch d9.ch
      replace ab := ab.ch d9.ch
      replace af := af.ch d9.ch
      replace aa := aa.ch d9.ch
      replace ag := ag.ch d9.ch
      replace ah := ah.ch d9.ch
      replace aG := aG.ch d9.ch
      replace bm := bm.ch d9.ch
      replace hB := hB.trans d9.fr
      have eh := Stp.front 3 hO rfl
      dsimp only [eS, eZ] at eh
      replace hO := eh.own
      replace ai := ai.ch eh.ch
      replace ad := ad.ch eh.ch
      replace ae := ae.ch eh.ch
      replace ab := ab.ch eh.ch
      replace af := af.ch eh.ch
      replace aa := aa.ch eh.ch
      replace ag := ag.ch eh.ch
      replace ah := ah.ch eh.ch
      replace aG := aG.ch eh.ch
      replace bm := bm.ch eh.ch
      replace hB := hB.trans eh.fr
      have en := Stp.front 5 hO rfl
      dsimp only [eS, eZ] at en
      replace hO := en.own
      replace ai := ai.ch en.ch
      replace ad := ad.ch en.ch
      replace ae := ae.ch en.ch
      replace ab := ab.ch en.ch
      replace af := af.ch en.ch
      replace aa := aa.ch en.ch
      replace ag := ag.ch en.ch
      replace ah := ah.ch en.ch
      replace aG := aG.ch en.ch
      replace bm := bm.ch en.ch
      replace hB := hB.trans en.fr
      have eo := Stp.front 5 hO rfl
      dsimp only [eS, eZ] at eo
      replace hO := eo.own
      replace ai := ai.ch eo.ch
      replace ad := ad.ch eo.ch
      replace ae := ae.ch eo.ch
      replace ab := ab.ch eo.ch
      replace af := af.ch eo.ch
      replace aa := aa.ch eo.ch
      replace ag := ag.ch eo.ch
      replace ah := ah.ch eo.ch
      replace aG := aG.ch eo.ch
      replace bm := bm.ch eo.ch
      replace hB := hB.trans eo.fr
      exact hX3 _ H _ _ ⟨bo, ps255, (fun k => if k = r267.toNat then hup ((aB r267.toNat)) r279.toNat (tX, tY) else aB k), ⟨rfl, rfl, rfl, rfl, rfl, rfl, rfl, rfl, trivial⟩, hO, hF744, ai, ad, ae, ab, af, aa, ag, ah, hB⟩
     replace H := ifn qU H
     refine GoQ.pure rfl (fun w => opB (J0N rfl rfl w) (decide_eq_false qU)) rfl rfl ?_
     refine GoQ.pure rfl (J0p rfl rfl rfl) rfl rfl ?_
     obtain ⟨uf, H⟩ := H
     obtain ⟨ug, H⟩ := H
     refine GoQ.pure rfl (J01 Try.underlying42 ti4 rfl rfl uf ug (t2isome 2 hO rfl mq mt uf ug)) rfl rfl ?_
     have hobt := t2st (r := Rp.bool) (hf := Fl.bool) rfl 2 hO rfl mq mt uf ug (v := .bool false) (u := false) rfl rfl
     obtain ⟨Fv, eA, ww⟩ := hobt
     dsimp only [sS, sZ] at eA
     refine GoQ.last rfl (ww Try.underlying4 rfl ti4 (by exact rfl) (by exact rfl)) rfl rfl ?_
     replace hO := eA.own
     replace ai := ai.ch eA.ch
     replace ad := ad.ch eA.ch
     replace ae := ae.ch eA.ch
     replace ab := ab.ch eA.ch
     replace af := af.ch eA.ch
     replace aa := aa.ch eA.ch
     replace ag := ag.ch eA.ch
     replace ah := ah.ch eA.ch
     replace aG := aG.ch eA.ch
     replace bm := bm.ch eA.ch
     replace hB := hB.trans eA.fr
     refine GoQ.nil ?_
     refine Go1.inBlock ?_
     refine Go1.cut [(0, .slice bu a0.length bw), (1, .int .i64 a1), (4, .pointer (some ⟨B2, 0, none⟩)), (7, .pointer (some ⟨B21, 0, none⟩)), (8, .pointer (some ⟨B38, 0, none⟩)), (106, .slice am r14.J.length ao), (107, .int .i64 (r14.J.length : Int)), (108, .int .i64 (k3_251 : Int))] ⟨rfl, rfl, rfl, rfl, rfl, rfl, rfl, rfl, trivial⟩ ?_
     intro σ _
     refine Go1.region ?_
     refine GoR.op ((J06 rfl rfl (wrap_i64 (natbd bN ab.bd))) _) rfl rfl ?_
     refine GoR.op ((J00 rfl) _) rfl rfl ?_
     refine GoR.nil ?_
     have eB := Stp.front 1 hO rfl
     dsimp only [eS, eZ] at eB
     replace hO := eB.own
     replace ai := ai.ch eB.ch
     replace ad := ad.ch eB.ch
     replace ae := ae.ch eB.ch
     replace ab := ab.ch eB.ch
     replace af := af.ch eB.ch
     replace aa := aa.ch eB.ch
     replace ag := ag.ch eB.ch
     replace ah := ah.ch eB.ch
     replace aG := aG.ch eB.ch
     replace bm := bm.ch eB.ch
     replace hB := hB.trans eB.fr
     have eC := Stp.front 1 hO rfl
     dsimp only [eS, eZ] at eC
     replace hO := eC.own
     replace ai := ai.ch eC.ch
     replace ad := ad.ch eC.ch
     replace ae := ae.ch eC.ch
     replace ab := ab.ch eC.ch
     replace af := af.ch eC.ch
     replace aa := aa.ch eC.ch
     replace ag := ag.ch eC.ch
     replace ah := ah.ch eC.ch
     replace aG := aG.ch eC.ch
     replace bm := bm.ch eC.ch
     replace hB := hB.trans eC.fr
     have hobt := t3backF (hf := (Fl.int .i64)) hO hF257 bQ bS (by simp only [J02])
     obtain ⟨gX, hF759⟩ := hobt
     replace hO := gX.own
     replace ai := ai.ch gX.ch
     replace ad := ad.ch gX.ch
     replace ae := ae.ch gX.ch
     replace ab := ab.ch gX.ch
     replace af := af.ch gX.ch
     replace aa := aa.ch gX.ch
     replace ag := ag.ch gX.ch
     replace ah := ah.ch gX.ch
     replace aG := aG.ch gX.ch
     replace bm := bm.ch gX.ch
     replace hB := hB.trans gX.fr
     have eF := Stp.front 5 hO rfl
     dsimp only [eS, eZ] at eF
     replace hO := eF.own
     replace ai := ai.ch eF.ch
     replace ad := ad.ch eF.ch
     replace ae := ae.ch eF.ch
     replace ab := ab.ch eF.ch
     replace af := af.ch eF.ch
     replace aa := aa.ch eF.ch
     replace ag := ag.ch eF.ch
     replace ah := ah.ch eF.ch
     replace aG := aG.ch eF.ch
     replace bm := bm.ch eF.ch
     replace hB := hB.trans eF.fr
     have eG := Stp.front 5 hO rfl
     dsimp only [eS, eZ] at eG
     replace hO := eG.own
     replace ai := ai.ch eG.ch
     replace ad := ad.ch eG.ch
     replace ae := ae.ch eG.ch
     replace ab := ab.ch eG.ch
     replace af := af.ch eG.ch
     replace aa := aa.ch eG.ch
     replace ag := ag.ch eG.ch
     replace ah := ah.ch eG.ch
     replace aG := aG.ch eG.ch
     replace bm := bm.ch eG.ch
     replace hB := hB.trans eG.fr
     have eH := Stp.front 5 hO rfl
     dsimp only [eS, eZ] at eH
     replace hO := eH.own
     replace ai := ai.ch eH.ch
     replace ad := ad.ch eH.ch
     replace ae := ae.ch eH.ch
     replace ab := ab.ch eH.ch
     replace af := af.ch eH.ch
     replace aa := aa.ch eH.ch
     replace ag := ag.ch eH.ch
     replace ah := ah.ch eH.ch
     replace aG := aG.ch eH.ch
     replace bm := bm.ch eH.ch
     replace hB := hB.trans eH.fr
     have eI := Stp.front 3 hO rfl
     dsimp only [eS, eZ] at eI
     replace hO := eI.own
     replace ai := ai.ch eI.ch
     replace ad := ad.ch eI.ch
     replace ae := ae.ch eI.ch
     replace ab := ab.ch eI.ch
     replace af := af.ch eI.ch
     replace aa := aa.ch eI.ch
     replace ag := ag.ch eI.ch
     replace ah := ah.ch eI.ch
     replace aG := aG.ch eI.ch
     replace bm := bm.ch eI.ch
     replace hB := hB.trans eI.fr
     have eK := Stp.front 5 hO rfl
     dsimp only [eS, eZ] at eK
     replace hO := eK.own
     replace ai := ai.ch eK.ch
     replace ad := ad.ch eK.ch
     replace ae := ae.ch eK.ch
     replace ab := ab.ch eK.ch
     replace af := af.ch eK.ch
     replace aa := aa.ch eK.ch
     replace ag := ag.ch eK.ch
     replace ah := ah.ch eK.ch
     replace aG := aG.ch eK.ch
     replace bm := bm.ch eK.ch
     replace hB := hB.trans eK.fr
     have eM := Stp.front 5 hO rfl
     dsimp only [eS, eZ] at eM
     replace hO := eM.own
     replace ai := ai.ch eM.ch
     replace ad := ad.ch eM.ch
     replace ae := ae.ch eM.ch
     replace ab := ab.ch eM.ch
     replace af := af.ch eM.ch
     replace aa := aa.ch eM.ch
     replace ag := ag.ch eM.ch
     replace ah := ah.ch eM.ch
     replace aG := aG.ch eM.ch
     replace bm := bm.ch eM.ch
     replace hB := hB.trans eM.fr
     exact hX3 _ H _ _ ⟨bo, ps255, (fun k => if k = r267.toNat then hup ((aB r267.toNat)) r279.toNat (tX, tY) else aB k), ⟨rfl, rfl, rfl, rfl, rfl, rfl, rfl, rfl, trivial⟩, hO, hF759, ai, ad, ae, ab, af, aa, ag, ah, hB⟩
    replace H := H.2
    have gY := Stp.front 1 hO rfl
    dsimp only [eS, eZ] at gY
    replace fx := fx.ch gY.ch
    replace hO := gY.own
    replace ai := ai.ch gY.ch
    replace ad := ad.ch gY.ch
    replace ae := ae.ch gY.ch
    replace ab := ab.ch gY.ch
    replace af := af.ch gY.ch
    replace aa := aa.ch gY.ch
    replace ag := ag.ch gY.ch
    replace ah := ah.ch gY.ch
    replace hB := hB.trans gY.fr
    have hobt := t2take (hf := (Fl.int .i64)) hO l9 ma
    obtain ⟨yJ, jb, yK⟩ := hobt
    replace fx := fx.ch jb.ch
    replace hO := jb.own
    replace ai := ai.ch jb.ch
    replace ad := ad.ch jb.ch
    replace ae := ae.ch jb.ch
    replace ab := ab.ch jb.ch
    replace af := af.ch jb.ch
    replace aa := aa.ch jb.ch
    replace ag := ag.ch jb.ch
    replace ah := ah.ch jb.ch
    replace hB := hB.trans jb.fr
    have qV := yK (bl [.row 3 1 (((aB r267.toNat)) r279.toNat).1 ((ix ((ix d_253 r267)) r279).length) ((((aB r267.toNat)) r279.toNat).2) yJ, t2h (Fl.int .i64) 26 3 (ps255 r267.toNat).1 ((ix d_253 r267).length) ((ps255 r267.toNat).2) ((aB r267.toNat)) ((ix d_253 r267)) r279.toNat, .row 3 1 tI 1 1 [.int .i64 (k3_251 : Int)], famH d_253.length (lay3 (Fl.int .i64) 26 3 ps255 aB d_253) r267.toNat, t2 Fl.bool 42 4 a9 aY ba bA d_252, .row 22 1 bc a8 bg bo, .blk B38 (.cells #[.slice p60 r140.length c61, .slice p54 r152.length c55, .slice bc a8 bg, .slice a9 aY ba] 35 (0, 0)), .blk B21 (.cells #[.slice av r14.R.length aw, .slice ax r14.L.length ay, .slice am r14.J.length ao, .slice az r14.H.length aA, .slice aj r14.Below.length ak] 29 (0, 0)), .blk B2 (.cells #[.slice none 0 0, .slice none 0 0, .slice none 0 0, .slice none 0 0] 35 (0, 0))] ++ A)
    have hobt := freeze 2 hO rfl fx
    obtain ⟨hO1, kV, aH, yL⟩ := hobt
    dsimp only [eS, eZ] at hO1 kV aH
    replace ai := ai.ch kV
    replace ad := ad.ch kV
    replace ae := ae.ch kV
    replace ab := ab.ch kV
    replace af := af.ch kV
    replace aa := aa.ch kV
    replace ag := ag.ch kV
    replace ah := ah.ch kV
    replace qV := qV.ch kV
    replace hB := hB.trans (Owns.J15 _ _ 2)
    dsimp only [eS, eZ] at hB
    replace hO := hO1; clear hO1
    obtain ⟨BA, H⟩ := H
    have hobt := oapp Try.underlying26 ti3 rfl 0 hO rfl qV aH yL BA (by decide)
    obtain ⟨Fw, uh, ui, Dn, g5, na, wz⟩ := hobt
    dsimp only [sS, sZ] at g5 na
    refine GoT.stepX rfl (wz (by exact rfl) (by exact rfl)) rfl rfl rfl ?_
    replace hO := g5.own
    replace ai := ai.ch g5.ch
    replace ad := ad.ch g5.ch
    replace ae := ae.ch g5.ch
    replace ab := ab.ch g5.ch
    replace af := af.ch g5.ch
    replace aa := aa.ch g5.ch
    replace ag := ag.ch g5.ch
    replace ah := ah.ch g5.ch
    replace aH := aH.ch g5.ch
    replace hB := hB.trans g5.fr
    skip
    refine GoT.step rfl ((oblk (i := 2) 5 hO rfl rfl Try.underlying33 rfl rfl) _ (Same.refl _)) (Same.refl _) rfl rfl ?_
    obtain ⟨uj, H⟩ := H
    obtain ⟨uk, H⟩ := H
    refine GoT.pure rfl (J01 Try.underlying33 ti22 rfl rfl uj (ltn (t3neqF 4 hO rfl hF257) uk) (t3someF 4 hO rfl hF257 uj uk)) rfl rfl ?_
    skip
    refine GoT.step rfl ((t3headF 4 hO rfl hF257 uj uk Try.underlying22 rfl rfl) _ (Same.refl _)) (Same.refl _) rfl rfl ?_
    obtain ⟨ul, H⟩ := H
    obtain ⟨um, H⟩ := H
    refine GoT.pure rfl (J01 Try.underlying22 ti26 rfl rfl ul (ltn (t2neqH 1 hO rfl) um) (t2someH 1 hO rfl ul um)) rfl rfl ?_
    skip
    have eN := Stp.front 1 hO rfl
    dsimp only [eS, eZ] at eN
    replace na := na.ch eN.ch
    replace hO := eN.own
    replace ai := ai.ch eN.ch
    replace ad := ad.ch eN.ch
    replace ae := ae.ch eN.ch
    replace ab := ab.ch eN.ch
    replace af := af.ch eN.ch
    replace aa := aa.ch eN.ch
    replace ag := ag.ch eN.ch
    replace ah := ah.ch eN.ch
    replace aH := aH.ch eN.ch
    replace hB := hB.trans eN.fr
    have eO := Stp.front 1 hO rfl
    dsimp only [eS, eZ] at eO
    replace na := na.ch eO.ch
    replace hO := eO.own
    replace ai := ai.ch eO.ch
    replace ad := ad.ch eO.ch
    replace ae := ae.ch eO.ch
    replace ab := ab.ch eO.ch
    replace af := af.ch eO.ch
    replace aa := aa.ch eO.ch
    replace ag := ag.ch eO.ch
    replace ah := ah.ch eO.ch
    replace aH := aH.ch eO.ch
    replace hB := hB.trans eO.fr
    have hobt := t2fix (hf := (Fl.int .i64)) hO na ul um rfl
    obtain ⟨Fx, jc, wA⟩ := hobt
    refine GoT.stepX rfl (wA Try.underlying26 rfl ti26 (by exact rfl) (by exact rfl)) rfl rfl rfl ?_
    replace hO := jc.own
    replace ai := ai.ch jc.ch
    replace ad := ad.ch jc.ch
    replace ae := ae.ch jc.ch
    replace ab := ab.ch jc.ch
    replace af := af.ch jc.ch
    replace aa := aa.ch jc.ch
    replace ag := ag.ch jc.ch
    replace ah := ah.ch jc.ch
    replace aH := aH.ch jc.ch
    replace hB := hB.trans jc.fr
    refine GoT.nil ?_
    refine Go1.drawS 1 [(0, .pure), (1, .stable), (2, .pure), (3, .pure), (4, .stable), (5, .pure), (6, .pure), (7, .stable), (8, .pure), (9, .pure), (10, .stable), (11, .pure), (12, .pure), (13, .stable), (14, .pure), (15, .pure), (16, .pure), (17, .pure), (18, .stable), (19, .pure), (20, .pure), (21, .stable), (22, .pure), (23, .pure), (24, .pure), (25, .pure), (26, .last)] mixed (by kernel_rfl) ?_
    intro Fy yM
    have jd := Stp.same hO yM
    replace hO := jd.own
    replace ai := ai.ch jd.ch
    replace ad := ad.ch jd.ch
    replace ae := ae.ch jd.ch
    replace ab := ab.ch jd.ch
    replace af := af.ch jd.ch
    replace aa := aa.ch jd.ch
    replace ag := ag.ch jd.ch
    replace ah := ah.ch jd.ch
    replace aH := aH.ch jd.ch
    replace hB := hB.trans jd.fr
    refine GoQ.pure rfl (J03 Try.underlying35 rfl ti27 rfl (by decide)) rfl rfl ?_
    refine GoQ.stable rfl (oblk (i := 3) 4 hO rfl rfl Try.underlying27 rfl rfl) rfl rfl ?_
    refine GoQ.pure rfl (J00 rfl) rfl rfl ?_
    obtain ⟨mv, H⟩ := H
    obtain ⟨mw, H⟩ := H
    refine GoQ.pure rfl (J01 Try.underlying27 ti42 rfl rfl mv (ltn (t2neq 2 hO rfl) mw) (t2some 2 hO rfl mv mw)) rfl rfl ?_
    refine GoQ.stable rfl (t2head 2 hO rfl mv mw Try.underlying42 rfl rfl) rfl rfl ?_
    refine GoQ.pure rfl (J00 rfl) rfl rfl ?_
    refine GoQ.pure rfl (J03 Try.underlying35 rfl ti27 rfl (by decide)) rfl rfl ?_
    refine GoQ.stable rfl (oblk (i := 3) 4 hO rfl rfl Try.underlying27 rfl rfl) rfl rfl ?_
    refine GoQ.pure rfl (J00 rfl) rfl rfl ?_
    obtain ⟨ow, H⟩ := H
    obtain ⟨oA, H⟩ := H
    refine GoQ.pure rfl (J01 Try.underlying27 ti42 rfl rfl ow (ltn (t2neq 2 hO rfl) oA) (t2some 2 hO rfl ow oA)) rfl rfl ?_
    refine GoQ.stable rfl (t2head 2 hO rfl ow oA Try.underlying42 rfl rfl) rfl rfl ?_
    refine GoQ.pure rfl (J00 rfl) rfl rfl ?_
    obtain ⟨qW, H⟩ := H
    obtain ⟨qX, H⟩ := H
    refine GoQ.pure rfl (J01 Try.underlying42 ti4 rfl rfl qW qX (t2isome 2 hO rfl ow oA qW qX)) rfl rfl ?_
    by_cases qY : ix (ix d_252 r267) r279 = true
    ·replace H := ifp qY H
     refine GoQ.stable rfl (fun w hw => opB ((t2Bool 2 hO rfl ow oA qW qX Try.underlying4 rfl rfl) w hw) (qY)) rfl rfl ?_
     refine GoQ.pure rfl (J00 rfl) rfl rfl ?_
     refine GoQ.pass rfl rfl rfl ?_
     refine GoQ.pass rfl rfl rfl ?_
     refine GoQ.pass rfl rfl rfl ?_
     refine GoQ.pass rfl rfl rfl ?_
     refine GoQ.pass rfl rfl rfl ?_
     refine GoQ.pass rfl rfl rfl ?_
     refine GoQ.pass rfl rfl rfl ?_
     refine GoQ.pass rfl rfl rfl ?_
     refine GoQ.pass rfl rfl rfl ?_
     refine GoQ.pure rfl (J1J rfl rfl rfl) rfl rfl ?_
     obtain ⟨uo, H⟩ := H
     obtain ⟨uq, H⟩ := H
     refine GoQ.pure rfl (J01 Try.underlying42 ti4 rfl rfl uo uq (t2isome 2 hO rfl mv mw uo uq)) rfl rfl ?_
     have hobt := t2st (r := Rp.bool) (hf := Fl.bool) rfl 2 hO rfl mv mw uo uq (v := .bool true) (u := true) rfl rfl
     obtain ⟨Fz, g6, wB⟩ := hobt
     dsimp only [sS, sZ] at g6
     refine GoQ.last rfl (wB Try.underlying4 rfl ti4 (by exact rfl) (by exact rfl)) rfl rfl ?_
     replace hO := g6.own
     replace ai := ai.ch g6.ch
     replace ad := ad.ch g6.ch
     replace ae := ae.ch g6.ch
     replace ab := ab.ch g6.ch
     replace af := af.ch g6.ch
     replace aa := aa.ch g6.ch
     replace ag := ag.ch g6.ch
     replace ah := ah.ch g6.ch
     replace aH := aH.ch g6.ch
     replace hB := hB.trans g6.fr
     refine GoQ.nil ?_
     refine Go1.inBlock ?_
     refine Go1.cut [(0, .slice bu a0.length bw), (1, .int .i64 a1), (4, .pointer (some ⟨B2, 0, none⟩)), (7, .pointer (some ⟨B21, 0, none⟩)), (8, .pointer (some ⟨B38, 0, none⟩)), (106, .slice am r14.J.length ao), (107, .int .i64 (r14.J.length : Int)), (108, .int .i64 (k3_251 : Int))] ⟨rfl, rfl, rfl, rfl, rfl, rfl, rfl, rfl, trivial⟩ ?_
     intro σ _
     refine Go1.region ?_
     refine GoR.op ((J06 rfl rfl (wrap_i64 (natbd bN ab.bd))) _) rfl rfl ?_
     refine GoR.op ((J00 rfl) _) rfl rfl ?_
     refine GoR.nil ?_
     have g7 := Stp.front 1 hO rfl
     dsimp only [eS, eZ] at g7
     replace hO := g7.own
     replace ai := ai.ch g7.ch
     replace ad := ad.ch g7.ch
     replace ae := ae.ch g7.ch
     replace ab := ab.ch g7.ch
     replace af := af.ch g7.ch
     replace aa := aa.ch g7.ch
     replace ag := ag.ch g7.ch
     replace ah := ah.ch g7.ch
     replace aH := aH.ch g7.ch
     replace hB := hB.trans g7.fr
     have g8 := Stp.front 1 hO rfl
     dsimp only [eS, eZ] at g8
     replace hO := g8.own
     replace ai := ai.ch g8.ch
     replace ad := ad.ch g8.ch
     replace ae := ae.ch g8.ch
     replace ab := ab.ch g8.ch
     replace af := af.ch g8.ch
     replace aa := aa.ch g8.ch
     replace ag := ag.ch g8.ch
     replace ah := ah.ch g8.ch
     replace aH := aH.ch g8.ch
     replace hB := hB.trans g8.fr
     have hobt := t3backF (hf := (Fl.int .i64)) hO hF257 bQ bS (by simp only [J02])
     obtain ⟨je, hF811⟩ := hobt
     replace hO := je.own
     replace ai := ai.ch je.ch
     replace ad := ad.ch je.ch
     replace ae := ae.ch je.ch
     replace ab := ab.ch je.ch
     replace af := af.ch je.ch
     replace aa := aa.ch je.ch
     replace ag := ag.ch je.ch
     replace ah := ah.ch je.ch
     replace aH := aH.ch je.ch
     replace hB := hB.trans je.fr
     have g9 := Stp.front 5 hO rfl
     dsimp only [eS, eZ] at g9
     replace hO := g9.own
     replace ai := ai.ch g9.ch
     replace ad := ad.ch g9.ch
     replace ae := ae.ch g9.ch
     replace ab := ab.ch g9.ch
     replace af := af.ch g9.ch
     replace aa := aa.ch g9.ch
     replace ag := ag.ch g9.ch
     replace ah := ah.ch g9.ch
     replace aH := aH.ch g9.ch
     replace hB := hB.trans g9.fr
     have ia := Stp.front 5 hO rfl
     dsimp only [eS, eZ] at ia
     replace hO := ia.own
     replace ai := ai.ch ia.ch
     replace ad := ad.ch ia.ch
     replace ae := ae.ch ia.ch
     replace ab := ab.ch ia.ch
     replace af := af.ch ia.ch
     replace aa := aa.ch ia.ch
     replace ag := ag.ch ia.ch
     replace ah := ah.ch ia.ch
     replace aH := aH.ch ia.ch
     replace hB := hB.trans ia.fr
     have ic := Stp.front 5 hO rfl
     dsimp only [eS, eZ] at ic
     replace hO := ic.own
     replace ai := ai.ch ic.ch
     replace ad := ad.ch ic.ch
     replace ae := ae.ch ic.ch
     replace ab := ab.ch ic.ch
     replace af := af.ch ic.ch
     replace aa := aa.ch ic.ch
     replace ag := ag.ch ic.ch
     replace ah := ah.ch ic.ch
     replace aH := aH.ch ic.ch
     replace hB := hB.trans ic.fr
     have ie := Stp.front 3 hO rfl
     dsimp only [eS, eZ] at ie
     replace hO := ie.own
     replace ai := ai.ch ie.ch
     replace ad := ad.ch ie.ch
     replace ae := ae.ch ie.ch
     replace ab := ab.ch ie.ch
     replace af := af.ch ie.ch
     replace aa := aa.ch ie.ch
     replace ag := ag.ch ie.ch
     replace ah := ah.ch ie.ch
     replace aH := aH.ch ie.ch
     replace hB := hB.trans ie.fr
     have ig := Stp.front 5 hO rfl
     dsimp only [eS, eZ] at ig
     replace hO := ig.own
     replace ai := ai.ch ig.ch
     replace ad := ad.ch ig.ch
     replace ae := ae.ch ig.ch
     replace ab := ab.ch ig.ch
     replace af := af.ch ig.ch
     replace aa := aa.ch ig.ch
     replace ag := ag.ch ig.ch
     replace ah := ah.ch ig.ch
     replace aH := aH.ch ig.ch
     replace hB := hB.trans ig.fr
     have ik := Stp.front 5 hO rfl
     dsimp only [eS, eZ] at ik
     replace hO := ik.own
     replace ai := ai.ch ik.ch
     replace ad := ad.ch ik.ch
     replace ae := ae.ch ik.ch
     replace ab := ab.ch ik.ch
     replace af := af.ch ik.ch
     replace aa := aa.ch ik.ch
     replace ag := ag.ch ik.ch
     replace ah := ah.ch ik.ch
     replace aH := aH.ch ik.ch
     replace hB := hB.trans ik.fr
     exact hX3 _ H _ _ ⟨bo, ps255, (fun k => if k = r267.toNat then hup ((aB r267.toNat)) r279.toNat (uh, ui) else aB k), ⟨rfl, rfl, rfl, rfl, rfl, rfl, rfl, rfl, trivial⟩, hO, hF811, ai, ad, ae, ab, af, aa, ag, ah, hB⟩
    replace H := ifn qY H
    refine GoQ.stable rfl (fun w hw => opB ((t2Bool 2 hO rfl ow oA qW qX Try.underlying4 rfl rfl) w hw) (Bool.eq_false_iff.2 qY)) rfl rfl ?_
    refine GoQ.pure rfl (J00 rfl) rfl rfl ?_
    refine GoQ.pure rfl (J00 rfl) rfl rfl ?_
    refine GoQ.pure rfl (J00 rfl) rfl rfl ?_
    obtain ⟨ur, H⟩ := H
    obtain ⟨ut, H⟩ := H
    refine GoQ.pure rfl (J01 Try.underlying22 ti26 rfl rfl ur ut (ai.some_ ur ut)) rfl rfl ?_
    have hobt := ldSl ai ur ut
    obtain ⟨FA, FB, bn, yN⟩ := hobt
    refine GoQ.stable rfl (yN Try.underlying26 rfl rfl) rfl rfl ?_
    refine GoQ.pure rfl (J00 rfl) rfl rfl ?_
    obtain ⟨uu, H⟩ := H
    obtain ⟨uv, H⟩ := H
    refine GoQ.pure rfl (J01 Try.underlying26 ti3 rfl rfl uu uv (bn.some_ uu uv)) rfl rfl ?_
    refine GoQ.stable rfl (ldInt bn uu uv Try.underlying3 rfl rfl) rfl rfl ?_
    refine GoQ.pure rfl (J00 rfl) rfl rfl ?_
    by_cases q8 : (ix (ix a0 (k3_251 : Int)) (k3_251 : Int)) = (k3_251 : Int)
    ·replace H := ifp q8 H
     refine GoQ.pure rfl (fun w => opB (J0N rfl rfl w) (decide_eq_true q8)) rfl rfl ?_
     refine GoQ.pure rfl (J0p rfl rfl rfl) rfl rfl ?_
     obtain ⟨uw, H⟩ := H
     obtain ⟨ux, H⟩ := H
     refine GoQ.pure rfl (J01 Try.underlying42 ti4 rfl rfl uw ux (t2isome 2 hO rfl mv mw uw ux)) rfl rfl ?_
     have hobt := t2st (r := Rp.bool) (hf := Fl.bool) rfl 2 hO rfl mv mw uw ux (v := .bool true) (u := true) rfl rfl
     obtain ⟨FC, eP, wC⟩ := hobt
     dsimp only [sS, sZ] at eP
     refine GoQ.last rfl (wC Try.underlying4 rfl ti4 (by exact rfl) (by exact rfl)) rfl rfl ?_
     replace hO := eP.own
     replace ai := ai.ch eP.ch
     replace ad := ad.ch eP.ch
     replace ae := ae.ch eP.ch
     replace ab := ab.ch eP.ch
     replace af := af.ch eP.ch
     replace aa := aa.ch eP.ch
     replace ag := ag.ch eP.ch
     replace ah := ah.ch eP.ch
     replace aH := aH.ch eP.ch
     replace bn := bn.ch eP.ch
     replace hB := hB.trans eP.fr
     refine GoQ.nil ?_
     refine Go1.inBlock ?_
     refine Go1.region ?_
     refine GoR.op ((J06 rfl rfl (wrap_i64 (natbd bN ab.bd))) _) rfl rfl ?_
     refine GoR.op ((J00 rfl) _) rfl rfl ?_
     refine GoR.nil ?_
     have eQ := Stp.front 1 hO rfl
     dsimp only [eS, eZ] at eQ
     replace hO := eQ.own
     replace ai := ai.ch eQ.ch
     replace ad := ad.ch eQ.ch
     replace ae := ae.ch eQ.ch
     replace ab := ab.ch eQ.ch
     replace af := af.ch eQ.ch
     replace aa := aa.ch eQ.ch
     replace ag := ag.ch eQ.ch
     replace ah := ah.ch eQ.ch
     replace aH := aH.ch eQ.ch
     replace bn := bn.ch eQ.ch
     replace hB := hB.trans eQ.fr
     have eU := Stp.front 1 hO rfl
     dsimp only [eS, eZ] at eU
     replace hO := eU.own
     replace ai := ai.ch eU.ch
     replace ad := ad.ch eU.ch
     replace ae := ae.ch eU.ch
     replace ab := ab.ch eU.ch
     replace af := af.ch eU.ch
     replace aa := aa.ch eU.ch
     replace ag := ag.ch eU.ch
     replace ah := ah.ch eU.ch
     replace aH := aH.ch eU.ch
     replace bn := bn.ch eU.ch
     replace hB := hB.trans eU.fr
     have hobt := t3backF (hf := (Fl.int .i64)) hO hF257 bQ bS (by simp only [J02])
     obtain ⟨io, hF835⟩ := hobt
     replace hO := io.own
     replace ai := ai.ch io.ch
     replace ad := ad.ch io.ch
     replace ae := ae.ch io.ch
     replace ab := ab.ch io.ch
     replace af := af.ch io.ch
     replace aa := aa.ch io.ch
     replace ag := ag.ch io.ch
     replace ah := ah.ch io.ch
     replace aH := aH.ch io.ch
     replace bn := bn.ch io.ch
     replace hB := hB.trans io.fr
     have eV := Stp.front 5 hO rfl
     dsimp only [eS, eZ] at eV
     replace hO := eV.own
     replace ai := ai.ch eV.ch
     replace ad := ad.ch eV.ch
     replace ae := ae.ch eV.ch
     replace ab := ab.ch eV.ch
     replace af := af.ch eV.ch
     replace aa := aa.ch eV.ch
     replace ag := ag.ch eV.ch
     replace ah := ah.ch eV.ch
     replace aH := aH.ch eV.ch
     replace bn := bn.ch eV.ch
     replace hB := hB.trans eV.fr
     have eX := Stp.front 5 hO rfl
     dsimp only [eS, eZ] at eX
     replace hO := eX.own
     replace ai := ai.ch eX.ch
     replace ad := ad.ch eX.ch
     replace ae := ae.ch eX.ch
     replace ab := ab.ch eX.ch
     replace af := af.ch eX.ch
     replace aa := aa.ch eX.ch
     replace ag := ag.ch eX.ch
     replace ah := ah.ch eX.ch
     replace aH := aH.ch eX.ch
     replace bn := bn.ch eX.ch
     replace hB := hB.trans eX.fr
     have eY := Stp.front 5 hO rfl
     dsimp only [eS, eZ] at eY
     replace hO := eY.own
     replace ai := ai.ch eY.ch
     replace ad := ad.ch eY.ch
     replace ae := ae.ch eY.ch
     replace ab := ab.ch eY.ch
     replace af := af.ch eY.ch
     replace aa := aa.ch eY.ch
     replace ag := ag.ch eY.ch
     replace ah := ah.ch eY.ch
     replace aH := aH.ch eY.ch
     replace bn := bn.ch eY.ch
     replace hB := hB.trans eY.fr
     have e8 := Stp.front 3 hO rfl
     dsimp only [eS, eZ] at e8
     replace hO := e8.own
     replace ai := ai.ch e8.ch
     replace ad := ad.ch e8.ch
     replace ae := ae.ch e8.ch
     replace ab := ab.ch e8.ch
     replace af := af.ch e8.ch
     replace aa := aa.ch e8.ch
     replace ag := ag.ch e8.ch
     replace ah := ah.ch e8.ch
     replace aH := aH.ch e8.ch
     replace bn := bn.ch e8.ch
     replace hB := hB.trans e8.fr
     have e9 := Stp.front 5 hO rfl
     dsimp only [eS, eZ] at e9
     replace hO := e9.own
     replace ai := ai.ch e9.ch
     replace ad := ad.ch e9.ch
     replace ae := ae.ch e9.ch
     replace ab := ab.ch e9.ch
     replace af := af.ch e9.ch
     replace aa := aa.ch e9.ch
     replace ag := ag.ch e9.ch
     replace ah := ah.ch e9.ch
     replace aH := aH.ch e9.ch
     replace bn := bn.ch e9.ch
     replace hB := hB.trans e9.fr
     have fe := Stp.front 5 hO rfl
     dsimp only [eS, eZ] at fe
     replace hO := fe.own
     replace ai := ai.ch fe.ch
     replace ad := ad.ch fe.ch
     replace ae := ae.ch fe.ch
     replace ab := ab.ch fe.ch
     replace af := af.ch fe.ch
     replace aa := aa.ch fe.ch
     replace ag := ag.ch fe.ch
     replace ah := ah.ch fe.ch
     replace aH := aH.ch fe.ch
     replace bn := bn.ch fe.ch
     replace hB := hB.trans fe.fr
     exact hX3 _ H _ _ ⟨bo, ps255, (fun k => if k = r267.toNat then hup ((aB r267.toNat)) r279.toNat (uh, ui) else aB k), ⟨rfl, rfl, rfl, rfl, rfl, rfl, rfl, rfl, trivial⟩, hO, hF835, ai, ad, ae, ab, af, aa, ag, ah, hB⟩
    replace H := ifn q8 H
    refine GoQ.pure rfl (fun w => opB (J0N rfl rfl w) (decide_eq_false q8)) rfl rfl ?_
    refine GoQ.pure rfl (J0p rfl rfl rfl) rfl rfl ?_
    obtain ⟨uy, H⟩ := H
    obtain ⟨uz, H⟩ := H
    refine GoQ.pure rfl (J01 Try.underlying42 ti4 rfl rfl uy uz (t2isome 2 hO rfl mv mw uy uz)) rfl rfl ?_
    have hobt := t2st (r := Rp.bool) (hf := Fl.bool) rfl 2 hO rfl mv mw uy uz (v := .bool false) (u := false) rfl rfl
    obtain ⟨FD, fh, wD⟩ := hobt
    dsimp only [sS, sZ] at fh
    refine GoQ.last rfl (wD Try.underlying4 rfl ti4 (by exact rfl) (by exact rfl)) rfl rfl ?_
    replace hO := fh.own
    replace ai := ai.ch fh.ch
    replace ad := ad.ch fh.ch
    replace ae := ae.ch fh.ch
    replace ab := ab.ch fh.ch
    replace af := af.ch fh.ch
    replace aa := aa.ch fh.ch
    replace ag := ag.ch fh.ch
    replace ah := ah.ch fh.ch
    replace aH := aH.ch fh.ch
    replace bn := bn.ch fh.ch
    replace hB := hB.trans fh.fr
    refine GoQ.nil ?_
    refine Go1.inBlock ?_
    refine Go1.cut [(0, .slice bu a0.length bw), (1, .int .i64 a1), (4, .pointer (some ⟨B2, 0, none⟩)), (7, .pointer (some ⟨B21, 0, none⟩)), (8, .pointer (some ⟨B38, 0, none⟩)), (106, .slice am r14.J.length ao), (107, .int .i64 (r14.J.length : Int)), (108, .int .i64 (k3_251 : Int))] ⟨rfl, rfl, rfl, rfl, rfl, rfl, rfl, rfl, trivial⟩ ?_
    intro σ _
    refine Go1.region ?_
    refine GoR.op ((J06 rfl rfl (wrap_i64 (natbd bN ab.bd))) _) rfl rfl ?_
    refine GoR.op ((J00 rfl) _) rfl rfl ?_
    refine GoR.nil ?_
    have fk := Stp.front 1 hO rfl
    dsimp only [eS, eZ] at fk
    replace hO := fk.own
    replace ai := ai.ch fk.ch
    replace ad := ad.ch fk.ch
    replace ae := ae.ch fk.ch
    replace ab := ab.ch fk.ch
    replace af := af.ch fk.ch
    replace aa := aa.ch fk.ch
    replace ag := ag.ch fk.ch
    replace ah := ah.ch fk.ch
    replace aH := aH.ch fk.ch
    replace bn := bn.ch fk.ch
    replace hB := hB.trans fk.fr
    have fm := Stp.front 1 hO rfl
    dsimp only [eS, eZ] at fm
    replace hO := fm.own
    replace ai := ai.ch fm.ch
    replace ad := ad.ch fm.ch
    replace ae := ae.ch fm.ch
    replace ab := ab.ch fm.ch
    replace af := af.ch fm.ch
    replace aa := aa.ch fm.ch
    replace ag := ag.ch fm.ch
    replace ah := ah.ch fm.ch
    replace aH := aH.ch fm.ch
    replace bn := bn.ch fm.ch
    replace hB := hB.trans fm.fr
    have hobt := t3backF (hf := (Fl.int .i64)) hO hF257 bQ bS (by simp only [J02])
    obtain ⟨ip, hF850⟩ := hobt
    replace hO := ip.own
    replace ai := ai.ch ip.ch
    replace ad := ad.ch ip.ch
    replace ae := ae.ch ip.ch
    replace ab := ab.ch ip.ch
    replace af := af.ch ip.ch
    replace aa := aa.ch ip.ch
    replace ag := ag.ch ip.ch
    replace ah := ah.ch ip.ch
    replace aH := aH.ch ip.ch
    replace bn := bn.ch ip.ch
    replace hB := hB.trans ip.fr
    have fo := Stp.front 5 hO rfl
    dsimp only [eS, eZ] at fo
    replace hO := fo.own
    replace ai := ai.ch fo.ch
    replace ad := ad.ch fo.ch
    replace ae := ae.ch fo.ch
    replace ab := ab.ch fo.ch
    replace af := af.ch fo.ch
    replace aa := aa.ch fo.ch
    replace ag := ag.ch fo.ch
    replace ah := ah.ch fo.ch
    replace aH := aH.ch fo.ch
    replace bn := bn.ch fo.ch
    replace hB := hB.trans fo.fr
    have fq := Stp.front 5 hO rfl
    dsimp only [eS, eZ] at fq
    replace hO := fq.own
    replace ai := ai.ch fq.ch
    replace ad := ad.ch fq.ch
    replace ae := ae.ch fq.ch
    replace ab := ab.ch fq.ch
    replace af := af.ch fq.ch
    replace aa := aa.ch fq.ch
    replace ag := ag.ch fq.ch
    replace ah := ah.ch fq.ch
    replace aH := aH.ch fq.ch
    replace bn := bn.ch fq.ch
    replace hB := hB.trans fq.fr
    have ft := Stp.front 5 hO rfl
    dsimp only [eS, eZ] at ft
    replace hO := ft.own
    replace ai := ai.ch ft.ch
    replace ad := ad.ch ft.ch
    replace ae := ae.ch ft.ch
    replace ab := ab.ch ft.ch
    replace af := af.ch ft.ch
    replace aa := aa.ch ft.ch
    replace ag := ag.ch ft.ch
    replace ah := ah.ch ft.ch
    replace aH := aH.ch ft.ch
    replace bn := bn.ch ft.ch
    replace hB := hB.trans ft.fr
    have fu := Stp.front 3 hO rfl
    dsimp only [eS, eZ] at fu
    replace hO := fu.own
    replace ai := ai.ch fu.ch
    replace ad := ad.ch fu.ch
    replace ae := ae.ch fu.ch
    replace ab := ab.ch fu.ch
    replace af := af.ch fu.ch
    replace aa := aa.ch fu.ch
    replace ag := ag.ch fu.ch
    replace ah := ah.ch fu.ch
    replace aH := aH.ch fu.ch
    replace bn := bn.ch fu.ch
    replace hB := hB.trans fu.fr
    have fv := Stp.front 5 hO rfl
    dsimp only [eS, eZ] at fv
    replace hO := fv.own
    replace ai := ai.ch fv.ch
    replace ad := ad.ch fv.ch
    replace ae := ae.ch fv.ch
    replace ab := ab.ch fv.ch
    replace af := af.ch fv.ch
    replace aa := aa.ch fv.ch
    replace ag := ag.ch fv.ch
    replace ah := ah.ch fv.ch
    replace aH := aH.ch fv.ch
    replace bn := bn.ch fv.ch
    replace hB := hB.trans fv.fr
    have fw := Stp.front 5 hO rfl
    dsimp only [eS, eZ] at fw
    replace hO := fw.own
    replace ai := ai.ch fw.ch
    replace ad := ad.ch fw.ch
    replace ae := ae.ch fw.ch
    replace ab := ab.ch fw.ch
    replace af := af.ch fw.ch
    replace aa := aa.ch fw.ch
    replace ag := ag.ch fw.ch
    replace ah := ah.ch fw.ch
    replace aH := aH.ch fw.ch
    replace bn := bn.ch fw.ch
    replace hB := hB.trans fw.fr
    exact hX3 _ H _ _ ⟨bo, ps255, (fun k => if k = r267.toNat then hup ((aB r267.toNat)) r279.toNat (uh, ui) else aB k), ⟨rfl, rfl, rfl, rfl, rfl, rfl, rfl, rfl, trivial⟩, hO, hF850, ai, ad, ae, ab, af, aa, ag, ah, hB⟩
   replace H := ifn qo H
   refine GoR.op ((fun w => opB (J0N rfl rfl w) (decide_eq_false qo)) _) rfl rfl ?_
   refine GoR.nil ?_
   refine Go1.condF rfl rfl ?_
   refine Go1.skip ?_
   refine Go1.inBlock ?_
   refine Go1.region ?_
   refine GoR.op ((J06 rfl rfl (wrap_i64 (natbd bN ab.bd))) _) rfl rfl ?_
   refine GoR.op ((J00 rfl) _) rfl rfl ?_
   refine GoR.nil ?_
   exact hX3 _ H _ _ ⟨bo, ps255, aB, ⟨rfl, rfl, rfl, rfl, rfl, rfl, rfl, rfl, trivial⟩, hO, hF257, ai, ad, ae, ab, af, aa, ag, ah, hB⟩
  replace H := ifn bN H
  refine GoR.op ((fun w => opB (J0w rfl rfl w) (decide_eq_false bN)) _) rfl rfl ?_
  refine GoR.nil ?_
  refine Go1.seq ?_
  refine Go1.condF rfl rfl ?_
  refine Go1.exit rfl ?_
  refine Go1.seq ?_
  refine Go1.region ?_
  refine GoR.op ((J6r (vs := [.slice p60 r140.length c61, .slice p54 r152.length c55, .slice bc a8 bg, .slice a9 aY ba]) (i := 0) 3 hO rfl rfl Try.underlying35 rfl ti35 rfl) _ (Same.refl _)) rfl rfl ?_
  have hobt := J2k (us := [.slice p60 r140.length c61, .slice p54 r152.length c55, .slice bc a8 bg, .slice a9 aY ba]) (o := 0) (cs' := #[.slice p60 r140.length c61, .slice p54 r152.length c55, .slice bc a8 bg, .slice a9 aY ba]) 5 hO rfl rfl (Nat.le_of_ble_eq_true rfl) rfl
  obtain ⟨FE, jf, wE⟩ := hobt
  dsimp only [sS, sZ] at jf
  refine GoR.op (wE ti35 (by exact rfl) (by exact rfl) rfl) rfl rfl ?_
  replace hO := jf.own
  replace ai := ai.ch jf.ch
  replace ad := ad.ch jf.ch
  replace ae := ae.ch jf.ch
  replace ab := ab.ch jf.ch
  replace af := af.ch jf.ch
  replace aa := aa.ch jf.ch
  replace ag := ag.ch jf.ch
  replace ah := ah.ch jf.ch
  replace hB := hB.trans jf.fr
  refine GoR.op ((J05 rfl) _) rfl rfl ?_
  refine GoR.nil ?_
  have jg := Stp.front 2 hO rfl
  dsimp only [eS, eZ] at jg
  replace hO := jg.own
  replace ai := ai.ch jg.ch
  replace ad := ad.ch jg.ch
  replace ae := ae.ch jg.ch
  replace ab := ab.ch jg.ch
  replace af := af.ch jg.ch
  replace aa := aa.ch jg.ch
  replace ag := ag.ch jg.ch
  replace ah := ah.ch jg.ch
  replace hB := hB.trans jg.fr
  have jh := Stp.front 2 hO rfl
  dsimp only [eS, eZ] at jh
  replace hO := jh.own
  replace ai := ai.ch jh.ch
  replace ad := ad.ch jh.ch
  replace ae := ae.ch jh.ch
  replace ab := ab.ch jh.ch
  replace af := af.ch jh.ch
  replace aa := aa.ch jh.ch
  replace ag := ag.ch jh.ch
  replace ah := ah.ch jh.ch
  replace hB := hB.trans jh.fr
  have hobt := t3freeze (hf := (Fl.int .i64)) hO hF257
  obtain ⟨hO1, wF, lT, q9, yO⟩ := hobt
  replace ai := ai.ch lT
  replace ad := ad.ch lT
  replace ae := ae.ch lT
  replace ab := ab.ch lT
  replace af := af.ch lT
  replace aa := aa.ch lT
  replace ag := ag.ch lT
  replace ah := ah.ch lT
  replace hB := hB.trans wF
  replace hO := hO1; clear hO1
  have hobt := t2freezeA 0 hO rfl
  obtain ⟨hO1, kW, u4, yP⟩ := hobt
  dsimp only [eS, eZ] at hO1 kW u4
  replace ai := ai.ch kW
  replace ad := ad.ch kW
  replace ae := ae.ch kW
  replace ab := ab.ch kW
  replace af := af.ch kW
  replace aa := aa.ch kW
  replace ag := ag.ch kW
  replace ah := ah.ch kW
  replace q9 := q9.ch kW
  replace hB := hB.trans (Owns.J15 _ _ 0)
  dsimp only [eS, eZ] at hB
  replace hO := hO1; clear hO1
  refine Go1.retC2 Try.func14 rfl rfl (J2d (vs := [.slice p60 r140.length c61, .slice p54 r152.length c55, .slice bc a8 bg, .slice a9 aY ba]) 2 hO rfl rfl Try.underlying35 rfl ti35) ?_
  exact ⟨(⟨r140, r152, d_253, d_252⟩ : Box), (0 : Int), p60, c61, p54, c55, bc, bg, a9, ba, (congrArg (fun l => Value.tuple (List.toArray l)) (J0v (congrArg (fun l => Value.agg (List.toArray l)) (J0v rfl (J0v rfl (J0v (congrArg (fun nn => Value.slice bc nn bg) yO) (J0v (congrArg (fun nn => Value.slice a9 nn ba) yP) rfl))))) (J0v rfl rfl))), hB.same, (ag.ch (Ch.weak _ _ _)), (ah.ch (Ch.weak _ _ _)), (q9.ch (Ch.weak _ _ _)), (u4.ch (Ch.weak _ _ _)), H⟩
 replace H := ifn h13 H
 refine GoR.op ((fun w => opB (J4d rfl rfl w) (ndF h13)) _) rfl rfl ?_
 refine GoR.nil ?_
 refine Go1.condT rfl rfl ?_
 refine Go1.seq ?_
 refine Go1.region ?_
 refine GoR.op ((J1I Try.underlying35 ti35 (pl := [(0, 1), (1, 1), (2, 1), (3, 1)]) (vs := []) (cs := #[.slice none 0 0, .slice none 0 0, .slice none 0 0, .slice none 0 0]) (by kernel_rfl) rfl (by kernel_rfl)) _) rfl rfl ?_
 refine GoR.op ((J00 rfl) _) rfl rfl ?_
 have hobt := J2k (us := [.slice none 0 0, .slice none 0 0, .slice none 0 0, .slice none 0 0]) (o := 0) (cs' := #[.slice none 0 0, .slice none 0 0, .slice none 0 0, .slice none 0 0]) 0 hO rfl rfl (Nat.le_of_ble_eq_true rfl) rfl
 obtain ⟨FF, pe, wG⟩ := hobt
 refine GoR.op (wG ti35 (by exact rfl) (by exact rfl) rfl) rfl rfl ?_
 replace hO := pe.own
 replace ai := ai.ch pe.ch
 replace hB := hB.trans pe.fr
 refine GoR.op ((J05 rfl) _) rfl rfl ?_
 refine GoR.nil ?_
 refine Go1.retC2 Try.func14 rfl rfl (J2d (vs := [.slice none 0 0, .slice none 0 0, .slice none 0 0, .slice none 0 0]) 0 hO rfl rfl Try.underlying35 rfl ti35) ?_
 exact ⟨(⟨([] : List Int), ([] : List Int), ([] : List (List (List Int))), ([] : List (List Bool))⟩ : Box), r7, none, 0, none, 0, none, 0, none, 0, rfl, hB.same, (ISl.null _ _ _), (ISl.null _ _ _), (ISl.null _ _ _), (ISl.null _ _ _), H⟩
end Sg
