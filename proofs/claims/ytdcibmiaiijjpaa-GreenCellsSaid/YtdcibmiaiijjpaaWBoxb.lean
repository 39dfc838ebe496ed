/- -/
import Derived.Test.YtdcibmiaiijjpaaVd
import Derived.Test.YtdcibmiaiijjpaaSort
import Derived.Test.YtdcibmiaiijjpaaWBox
namespace Sg
open Go Go.RowKit Go.Proofs
set_option linter.unusedVariables false
set_option linter.unusedSimpArgs false
set_option maxRecDepth 100000
set_option maxHeartbeats 4000000
theorem body34 : Body Try.prog 34 := ⟨Try.f34, Try.func34, rfl, by kernel_rfl⟩
theorem body14 : Body Try.prog 14 := ⟨Try.f14, Try.func14, rfl, by kernel_rfl⟩
theorem J4a {A : List Nat} {w0 : World} {bn : Option Addr} {bo : Nat} {a0 : List (List Int)} {a1 : Int} (hA : ∀ b ∈ A, b < w0.heap.size) (ai : ISl (Rp.sl (Rp.int .i64)) A w0 bn bo a0) {K : Box → Int → Prop} (H : J2q a0 a1 K) :
    CallsV Try.prog 14 #[.slice bn a0.length bo, .int .i64 a1] w0 (fun v w' => ∃ (r0 : Box), ∃ (r1 : Int), ∃ (ns : Option Addr), ∃ (nt : Nat), ∃ (nu : Option Addr), ∃ (nw : Nat), ∃ (mE : Option Addr), ∃ (mF : Nat), ∃ (mm : Option Addr), ∃ (mo : Nat), v = .tuple #[.agg #[.slice ns r0.Rows.length nt, .slice nu r0.Cols.length nw, .slice mE r0.Cells.length mF, .slice mm r0.Groups.length mo], .int .i64 r1] ∧ Same w0 w' ∧ ISl (Rp.int .i64) A w' ns nt r0.Rows ∧ ISl (Rp.int .i64) A w' nu nw r0.Cols ∧ ISl (Rp.sl (Rp.sl (Rp.int .i64))) A w' mE mF r0.Cells ∧ ISl (Rp.sl (Rp.bool)) A w' mm mo r0.Groups ∧ K r0 r1) := by
 refine CallsV.of (l := [.slice bn a0.length bo, .int .i64 a1]) Try.func14 rfl Try.ntmps14 rfl ?_
 have hO := Owns.start hA
 have hB := Fr.refl (bl []) w0
 unfold J2q at H
 replace ai := ai.ch (Ch.start A w0)
 refine Go1.seq ?_
 refine Go1.cut [(0, .slice bn a0.length bo), (1, .int .i64 a1)] ⟨rfl, rfl, trivial⟩ ?_
 intro σ _
 refine Go1.region ?_
 have hobt := oalloc (t := 35) (cs := #[.slice none 0 0, .slice none 0 0, .slice none 0 0, .slice none 0 0]) ti35 hO rfl
 obtain ⟨w1, B2, qe, hs4, xX⟩ := hobt
 refine GoR.op xX rfl rfl ?_
 replace hO := qe.own
 replace ai := ai.ch qe.ch
 replace hB := hB.trans qe.fr
 refine GoR.op ((J04 rfl) _) rfl rfl ?_
 refine GoR.nil ?_
 refine Go1.seq ?_
 refine Go1.seq ?_
 refine Go1.region ?_
 refine GoR.op ((J00 rfl) _) rfl rfl ?_
 refine GoR.call (J05 body24 rfl (J18 hO.lt ai H)) rfl rfl ?_
 rintro v11 w8 ⟨r7, rfl, hs9, H⟩
 have oE := Stp.same hO hs9
 replace hO := oE.own
 replace ai := ai.ch oE.ch
 replace hB := hB.trans oE.fr
 refine GoR.op ((J04 rfl) _) rfl rfl ?_
 refine GoR.nil ?_
 refine Go1.seq ?_
 refine Go1.region ?_
 refine GoR.op ((J00 rfl) _) rfl rfl ?_
 by_cases h13 : r7 = (0 : Int)
 ·replace H := ifp h13 H
  refine GoR.op ((fun w => opB (J3y rfl rfl w) (ndT h13)) _) rfl rfl ?_
  refine GoR.nil ?_
  refine Go1.condF rfl rfl ?_
  refine Go1.skip ?_
  refine Go1.seq ?_
  refine Go1.region ?_
  refine GoR.op ((J00 rfl) _) rfl rfl ?_
  refine GoR.call (J05 body9 rfl (J0B hO.lt ai H)) rfl rfl ?_
  rintro v18 w15 ⟨r14, av, aw, ax, ay, am, ao, az, aA, aj, ak, rfl, xY, ad, ae, ab, af, aa, H⟩
  have jO := Stp.same hO xY
  replace hO := jO.own
  replace ai := ai.ch jO.ch
  replace hB := hB.trans jO.fr
  have hobt := oalloc (t := 29) (cs := #[.slice none 0 0, .slice none 0 0, .slice none 0 0, .slice none 0 0, .slice none 0 0]) ti29 hO rfl
  obtain ⟨w20, B21, kh, Ar, vc⟩ := hobt
  refine GoR.op vc rfl rfl ?_
  replace hO := kh.own
  replace ai := ai.ch kh.ch
  replace ad := ad.ch kh.ch
  replace ae := ae.ch kh.ch
  replace ab := ab.ch kh.ch
  replace af := af.ch kh.ch
  replace aa := aa.ch kh.ch
  replace hB := hB.trans kh.fr
  have hobt := J1W (us := [.slice av r14.R.length aw, .slice ax r14.L.length ay, .slice am r14.J.length ao, .slice az r14.H.length aA, .slice aj r14.Below.length ak]) (o := 0) (cs' := #[.slice av r14.R.length aw, .slice ax r14.L.length ay, .slice am r14.J.length ao, .slice az r14.H.length aA, .slice aj r14.Below.length ak]) 0 hO rfl rfl (Nat.le_of_ble_eq_true rfl) rfl
  obtain ⟨w26, kS, vd⟩ := hobt
  refine GoR.op (vd ti29 (by exact rfl) (by exact rfl) rfl) rfl rfl ?_
  replace hO := kS.own
  replace ai := ai.ch kS.ch
  replace ad := ad.ch kS.ch
  replace ae := ae.ch kS.ch
  replace ab := ab.ch kS.ch
  replace af := af.ch kS.ch
  replace aa := aa.ch kS.ch
  replace hB := hB.trans kS.fr
  refine GoR.nil ?_
  refine Go1.seq ?_
  refine Go1.seq ?_
  refine Go1.region ?_
  refine GoR.op ((J00 rfl) _) rfl rfl ?_
  by_cases h29 : a1 < (0 : Int)
  ·replace H := ifp h29 H
   refine GoR.op ((fun w => opB (J0s rfl rfl w) (decide_eq_true h29)) _) rfl rfl ?_
   refine GoR.op ((J00 rfl) _) rfl rfl ?_
   refine GoR.pass rfl rfl ?_
   refine GoR.pass rfl rfl ?_
   refine GoR.pass rfl rfl ?_
   refine GoR.pass rfl rfl ?_
   refine GoR.pass rfl rfl ?_
   refine GoR.op ((J1t rfl rfl rfl) _) rfl rfl ?_
   refine GoR.nil ?_
   refine Go1.condT rfl rfl ?_
   refine Go1.seq ?_
   refine Go1.cut [(4, .pointer (some ⟨B2, 0, none⟩))] ⟨rfl, trivial⟩ ?_
   intro σ _
   refine Go1.region ?_
   refine GoR.op ((J3k Try.underlying35 ti35 (pl := [(0, 1), (1, 1), (2, 1), (3, 1)]) (vs := []) (cs := #[.slice none 0 0, .slice none 0 0, .slice none 0 0, .slice none 0 0]) (by kernel_rfl) rfl (by kernel_rfl)) _) rfl rfl ?_
   have hobt := J1W (us := [.slice none 0 0, .slice none 0 0, .slice none 0 0, .slice none 0 0]) (o := 0) (cs' := #[.slice none 0 0, .slice none 0 0, .slice none 0 0, .slice none 0 0]) 1 hO rfl rfl (Nat.le_of_ble_eq_true rfl) rfl
   obtain ⟨w30, kn, ve⟩ := hobt
   refine GoR.op (ve ti35 (by exact rfl) (by exact rfl) rfl) rfl rfl ?_
   replace hO := kn.own
   replace ai := ai.ch kn.ch
   replace ad := ad.ch kn.ch
   replace ae := ae.ch kn.ch
   replace ab := ab.ch kn.ch
   replace af := af.ch kn.ch
   replace aa := aa.ch kn.ch
   replace hB := hB.trans kn.fr
   refine GoR.op ((J04 rfl) _) rfl rfl ?_
   refine GoR.nil ?_
   refine Go1.retC2 Try.func14 rfl rfl (J1V (vs := [.slice none 0 0, .slice none 0 0, .slice none 0 0, .slice none 0 0]) 1 hO rfl rfl Try.underlying35 rfl ti35) ?_
   exact ⟨(⟨([] : List Int), ([] : List Int), ([] : List (List (List Int))), ([] : List (List Bool))⟩ : Box), (1 : Int), none, 0, none, 0, none, 0, none, 0, rfl, hB.same, (ISl.null _ _ _), (ISl.null _ _ _), (ISl.null _ _ _), (ISl.null _ _ _), H⟩
  replace H := ifn h29 H
  refine GoR.op ((fun w => opB (J0s rfl rfl w) (decide_eq_false h29)) _) rfl rfl ?_
  refine GoR.op ((J00 rfl) _) rfl rfl ?_
  refine GoR.op ((J00 rfl) _) rfl rfl ?_
  refine GoR.op ((J03 Try.underlying29 rfl ti27 rfl (by decide)) _) rfl rfl ?_
  refine GoR.op ((oblk (i := 4) 0 hO rfl rfl Try.underlying27 rfl rfl) _ (Same.refl _)) rfl rfl ?_
  refine GoR.op ((J27 Try.underlying27 rfl) _) rfl rfl ?_
  replace H := H aa.bd
  by_cases h33 : (r14.Below.length : Int) ≤ a1
  ·replace H := ifp h33 H
   refine GoR.op ((fun w => opB (J5x rfl rfl w) (decide_eq_true h33)) _) rfl rfl ?_
   refine GoR.op ((J0m rfl rfl rfl) _) rfl rfl ?_
   refine GoR.nil ?_
   refine Go1.condT rfl rfl ?_
   refine Go1.seq ?_
   refine Go1.region ?_
   refine GoR.op ((J3k Try.underlying35 ti35 (pl := [(0, 1), (1, 1), (2, 1), (3, 1)]) (vs := []) (cs := #[.slice none 0 0, .slice none 0 0, .slice none 0 0, .slice none 0 0]) (by kernel_rfl) rfl (by kernel_rfl)) _) rfl rfl ?_
   have hobt := J1W (us := [.slice none 0 0, .slice none 0 0, .slice none 0 0, .slice none 0 0]) (o := 0) (cs' := #[.slice none 0 0, .slice none 0 0, .slice none 0 0, .slice none 0 0]) 1 hO rfl rfl (Nat.le_of_ble_eq_true rfl) rfl
   obtain ⟨w34, kT, oB⟩ := hobt
   refine GoR.op (oB ti35 (by exact rfl) (by exact rfl) rfl) rfl rfl ?_
   replace hO := kT.own
   replace ai := ai.ch kT.ch
   replace ad := ad.ch kT.ch
   replace ae := ae.ch kT.ch
   replace ab := ab.ch kT.ch
   replace af := af.ch kT.ch
   replace aa := aa.ch kT.ch
   replace hB := hB.trans kT.fr
   refine GoR.op ((J04 rfl) _) rfl rfl ?_
   refine GoR.nil ?_
   refine Go1.retC2 Try.func14 rfl rfl (J1V (vs := [.slice none 0 0, .slice none 0 0, .slice none 0 0, .slice none 0 0]) 1 hO rfl rfl Try.underlying35 rfl ti35) ?_
   exact ⟨(⟨([] : List Int), ([] : List Int), ([] : List (List (List Int))), ([] : List (List Bool))⟩ : Box), (1 : Int), none, 0, none, 0, none, 0, none, 0, rfl, hB.same, (ISl.null _ _ _), (ISl.null _ _ _), (ISl.null _ _ _), (ISl.null _ _ _), H⟩
  replace H := ifn h33 H
  refine GoR.op ((fun w => opB (J5x rfl rfl w) (decide_eq_false h33)) _) rfl rfl ?_
  refine GoR.op ((J0m rfl rfl rfl) _) rfl rfl ?_
  refine GoR.nil ?_
  refine Go1.condF rfl rfl ?_
  refine Go1.skip ?_
  refine Go1.seq ?_
  refine Go1.region ?_
  have hobt := oalloc (t := 35) (cs := #[.slice none 0 0, .slice none 0 0, .slice none 0 0, .slice none 0 0]) ti35 hO rfl
  obtain ⟨w37, B38, kU, At, ou⟩ := hobt
  refine GoR.op ou rfl rfl ?_
  replace hO := kU.own
  replace ai := ai.ch kU.ch
  replace ad := ad.ch kU.ch
  replace ae := ae.ch kU.ch
  replace ab := ab.ch kU.ch
  replace af := af.ch kU.ch
  replace aa := aa.ch kU.ch
  replace hB := hB.trans kU.fr
  refine GoR.nil ?_
  refine Go1.seq ?_
  refine Go1.seq ?_
  refine Go1.region ?_
  refine GoR.op ((J03 Try.underlying29 rfl ti26 rfl (by decide)) _) rfl rfl ?_
  refine GoR.op ((oblk (i := 2) 1 hO rfl rfl Try.underlying26 rfl rfl) _ (Same.refl _)) rfl rfl ?_
  refine GoR.op ((J27 Try.underlying26 rfl) _) rfl rfl ?_
  replace H := H ab.bd
  refine GoR.op ((J00 rfl) _) rfl rfl ?_
  refine GoR.nil ?_
  refine Go1.block ?_
  have kV := Stp.nil (e := 3) (r := 1) hO
  replace hO := kV.own
  replace ai := ai.ch kV.ch
  replace ad := ad.ch kV.ch
  replace ae := ae.ch kV.ch
  replace ab := ab.ch kV.ch
  replace af := af.ch kV.ch
  replace aa := aa.ch kV.ch
  replace hB := hB.trans kV.fr
  have qf := Els.nil (Rp.int .i64) (bl (.row 3 1 none 0 0 [] :: [.blk B38 (.cells #[.slice none 0 0, .slice none 0 0, .slice none 0 0, .slice none 0 0] 35 (0, 0)), .blk B21 (.cells #[.slice av r14.R.length aw, .slice ax r14.L.length ay, .slice am r14.J.length ao, .slice az r14.H.length aA, .slice aj r14.Below.length ak] 29 (0, 0)), .blk B2 (.cells #[.slice none 0 0, .slice none 0 0, .slice none 0 0, .slice none 0 0] 35 (0, 0))]) ++ A) w37
  have jU := Stp.nil (e := 3) (r := 1) hO
  replace qf := qf.ch jU.ch
  replace hO := jU.own
  replace ai := ai.ch jU.ch
  replace ad := ad.ch jU.ch
  replace ae := ae.ch jU.ch
  replace ab := ab.ch jU.ch
  replace af := af.ch jU.ch
  replace aa := aa.ch jU.ch
  replace hB := hB.trans jU.fr
  have x3 := Els.nil (Rp.int .i64) (bl (.row 3 1 none 0 0 [] :: [.row 3 1 none 0 0 [], .blk B38 (.cells #[.slice none 0 0, .slice none 0 0, .slice none 0 0, .slice none 0 0] 35 (0, 0)), .blk B21 (.cells #[.slice av r14.R.length aw, .slice ax r14.L.length ay, .slice am r14.J.length ao, .slice az r14.H.length aA, .slice aj r14.Below.length ak] 29 (0, 0)), .blk B2 (.cells #[.slice none 0 0, .slice none 0 0, .slice none 0 0, .slice none 0 0] 35 (0, 0))]) ++ A) w37
  refine Go1.loopW (S := Nat × List Int × List Int) (fun s σ w => match s with | (k1_50, d_51, d_57) => ∃ (n56 : Nat), ∃ (p54 : Option Addr), ∃ (c55 : Nat), ∃ (j9 : List Value), ∃ (n62 : Nat), ∃ (p60 : Option Addr), ∃ (c61 : Nat), ∃ (kc : List Value), agrees σ [(0, .slice bn a0.length bo), (1, .int .i64 a1), (4, .pointer (some ⟨B2, 0, none⟩)), (7, .pointer (some ⟨B21, 0, none⟩)), (8, .pointer (some ⟨B38, 0, none⟩)), (36, .slice am r14.J.length ao), (37, .int .i64 (r14.J.length : Int)), (38, .int .i64 (k1_50 : Int))] ∧ Owns w0.heap.size w [.row 3 1 p54 n56 c55 j9, .row 3 1 p60 n62 c61 kc, .blk B38 (.cells #[.slice p60 n62 c61, .slice p54 n56 c55, .slice none 0 0, .slice none 0 0] 35 (0, 0)), .blk B21 (.cells #[.slice av r14.R.length aw, .slice ax r14.L.length ay, .slice am r14.J.length ao, .slice az r14.H.length aA, .slice aj r14.Below.length ak] 29 (0, 0)), .blk B2 (.cells #[.slice none 0 0, .slice none 0 0, .slice none 0 0, .slice none 0 0] 35 (0, 0))] A ∧ Els (Rp.int .i64) (bl [.row 3 1 p54 n56 c55 j9, .row 3 1 p60 n62 c61 kc, .blk B38 (.cells #[.slice p60 n62 c61, .slice p54 n56 c55, .slice none 0 0, .slice none 0 0] 35 (0, 0)), .blk B21 (.cells #[.slice av r14.R.length aw, .slice ax r14.L.length ay, .slice am r14.J.length ao, .slice az r14.H.length aA, .slice aj r14.Below.length ak] 29 (0, 0)), .blk B2 (.cells #[.slice none 0 0, .slice none 0 0, .slice none 0 0, .slice none 0 0] 35 (0, 0))] ++ A) w j9 d_51 ∧ Els (Rp.int .i64) (bl [.row 3 1 p54 n56 c55 j9, .row 3 1 p60 n62 c61 kc, .blk B38 (.cells #[.slice p60 n62 c61, .slice p54 n56 c55, .slice none 0 0, .slice none 0 0] 35 (0, 0)), .blk B21 (.cells #[.slice av r14.R.length aw, .slice ax r14.L.length ay, .slice am r14.J.length ao, .slice az r14.H.length aA, .slice aj r14.Below.length ak] 29 (0, 0)), .blk B2 (.cells #[.slice none 0 0, .slice none 0 0, .slice none 0 0, .slice none 0 0] 35 (0, 0))] ++ A) w kc d_57 ∧ ISl (Rp.sl (Rp.int .i64)) (bl [.row 3 1 p54 n56 c55 j9, .row 3 1 p60 n62 c61 kc, .blk B38 (.cells #[.slice p60 n62 c61, .slice p54 n56 c55, .slice none 0 0, .slice none 0 0] 35 (0, 0)), .blk B21 (.cells #[.slice av r14.R.length aw, .slice ax r14.L.length ay, .slice am r14.J.length ao, .slice az r14.H.length aA, .slice aj r14.Below.length ak] 29 (0, 0)), .blk B2 (.cells #[.slice none 0 0, .slice none 0 0, .slice none 0 0, .slice none 0 0] 35 (0, 0))] ++ A) w bn bo a0 ∧ ISl (Rp.int .i64) (bl [.row 3 1 p54 n56 c55 j9, .row 3 1 p60 n62 c61 kc, .blk B38 (.cells #[.slice p60 n62 c61, .slice p54 n56 c55, .slice none 0 0, .slice none 0 0] 35 (0, 0)), .blk B21 (.cells #[.slice av r14.R.length aw, .slice ax r14.L.length ay, .slice am r14.J.length ao, .slice az r14.H.length aA, .slice aj r14.Below.length ak] 29 (0, 0)), .blk B2 (.cells #[.slice none 0 0, .slice none 0 0, .slice none 0 0, .slice none 0 0] 35 (0, 0))] ++ A) w av aw r14.R ∧ ISl (Rp.int .i64) (bl [.row 3 1 p54 n56 c55 j9, .row 3 1 p60 n62 c61 kc, .blk B38 (.cells #[.slice p60 n62 c61, .slice p54 n56 c55, .slice none 0 0, .slice none 0 0] 35 (0, 0)), .blk B21 (.cells #[.slice av r14.R.length aw, .slice ax r14.L.length ay, .slice am r14.J.length ao, .slice az r14.H.length aA, .slice aj r14.Below.length ak] 29 (0, 0)), .blk B2 (.cells #[.slice none 0 0, .slice none 0 0, .slice none 0 0, .slice none 0 0] 35 (0, 0))] ++ A) w ax ay r14.L ∧ ISl (Rp.int .i64) (bl [.row 3 1 p54 n56 c55 j9, .row 3 1 p60 n62 c61 kc, .blk B38 (.cells #[.slice p60 n62 c61, .slice p54 n56 c55, .slice none 0 0, .slice none 0 0] 35 (0, 0)), .blk B21 (.cells #[.slice av r14.R.length aw, .slice ax r14.L.length ay, .slice am r14.J.length ao, .slice az r14.H.length aA, .slice aj r14.Below.length ak] 29 (0, 0)), .blk B2 (.cells #[.slice none 0 0, .slice none 0 0, .slice none 0 0, .slice none 0 0] 35 (0, 0))] ++ A) w am ao r14.J ∧ ISl (Rp.int .i64) (bl [.row 3 1 p54 n56 c55 j9, .row 3 1 p60 n62 c61 kc, .blk B38 (.cells #[.slice p60 n62 c61, .slice p54 n56 c55, .slice none 0 0, .slice none 0 0] 35 (0, 0)), .blk B21 (.cells #[.slice av r14.R.length aw, .slice ax r14.L.length ay, .slice am r14.J.length ao, .slice az r14.H.length aA, .slice aj r14.Below.length ak] 29 (0, 0)), .blk B2 (.cells #[.slice none 0 0, .slice none 0 0, .slice none 0 0, .slice none 0 0] 35 (0, 0))] ++ A) w az aA r14.H ∧ ISl (Rp.sl (Rp.bool)) (bl [.row 3 1 p54 n56 c55 j9, .row 3 1 p60 n62 c61 kc, .blk B38 (.cells #[.slice p60 n62 c61, .slice p54 n56 c55, .slice none 0 0, .slice none 0 0] 35 (0, 0)), .blk B21 (.cells #[.slice av r14.R.length aw, .slice ax r14.L.length ay, .slice am r14.J.length ao, .slice az r14.H.length aA, .slice aj r14.Below.length ak] 29 (0, 0)), .blk B2 (.cells #[.slice none 0 0, .slice none 0 0, .slice none 0 0, .slice none 0 0] 35 (0, 0))] ++ A) w aj ak r14.Below ∧ Fr (bl []) w0 (bl [.row 3 1 p54 n56 c55 j9, .row 3 1 p60 n62 c61 kc, .blk B38 (.cells #[.slice p60 n62 c61, .slice p54 n56 c55, .slice none 0 0, .slice none 0 0] 35 (0, 0)), .blk B21 (.cells #[.slice av r14.R.length aw, .slice ax r14.L.length ay, .slice am r14.J.length ao, .slice az r14.H.length aA, .slice aj r14.Below.length ak] 29 (0, 0)), .blk B2 (.cells #[.slice none 0 0, .slice none 0 0, .slice none 0 0, .slice none 0 0] 35 (0, 0))]) w) H ⟨0, none, 0, [], 0, none, 0, [], ⟨rfl, rfl, rfl, rfl, rfl, rfl, rfl, rfl, trivial⟩, hO, x3, qf, ai, ad, ae, ab, af, aa, hB⟩ ?_
  intro X1
  refine prE fun k1_50 => prE fun d_51 => fun d_57 => ?_
  intro H hX1 σ w49
  refine exE fun n56 => exE fun p54 => exE fun c55 => exE fun j9 => exE fun n62 => exE fun p60 => exE fun c61 => exE fun kc => andE fun hag => andE fun hO => andE fun bV => andE fun lg => andE fun ai => andE fun ad => andE fun ae => andE fun ab => andE fun af => andE fun aa => fun hB => ?_
  dsimp only at H
  refine Go1.keep [(0, .slice bn a0.length bo), (1, .int .i64 a1), (4, .pointer (some ⟨B2, 0, none⟩)), (7, .pointer (some ⟨B21, 0, none⟩)), (8, .pointer (some ⟨B38, 0, none⟩)), (36, .slice am r14.J.length ao), (37, .int .i64 (r14.J.length : Int)), (38, .int .i64 (k1_50 : Int))] hag ?_
  refine Go1.seq ?_
  refine Go1.region ?_
  by_cases h63 : (k1_50 : Int) < (r14.J.length : Int)
  ·replace H := ifp h63 H
   refine GoR.op ((fun w => opB (J0s rfl rfl w) (decide_eq_true h63)) _) rfl rfl ?_
   refine GoR.nil ?_
   refine Go1.seq ?_
   refine Go1.condT rfl rfl ?_
   refine Go1.skip ?_
   refine Go1.seq ?_
   refine Go1.block ?_
   refine Go1.seq ?_
   refine Go1.region ?_
   refine GoR.op ((J00 rfl) _) rfl rfl ?_
   obtain ⟨h64, H⟩ := H
   obtain ⟨h65, H⟩ := H
   refine GoR.op ((J01 Try.underlying26 ti3 rfl rfl h64 h65 (ab.some_ h64 h65)) _) rfl rfl ?_
   refine GoR.op ((ldInt ab h64 h65 Try.underlying3 rfl rfl) _ (Same.refl _)) rfl rfl ?_
   refine GoR.op ((J04 rfl) _) rfl rfl ?_
   refine GoR.op ((J04 rfl) _) rfl rfl ?_
   refine GoR.nil ?_
   refine Go1.seq ?_
   refine Go1.region ?_
   refine GoR.op ((J00 rfl) _) rfl rfl ?_
   refine GoR.op ((J00 rfl) _) rfl rfl ?_
   by_cases h66 : (ix r14.J (k1_50 : Int)) = a1
   ·replace H := ifp h66 H
    refine GoR.op ((fun w => opB (J15 rfl rfl w) (decide_eq_true h66)) _) rfl rfl ?_
    refine GoR.nil ?_
    refine Go1.condT rfl rfl ?_
    refine Go1.seq ?_
    refine Go1.drawS 4 [(0, .pure), (1, .stable), (2, .pure), (3, .stable), (4, .pure), (5, .pure), (6, .stable), (7, .loud), (8, .last), (9, .pure), (10, .last)] mixed (by kernel_rfl) ?_
    intro w67 x4
    have ko := Stp.same hO x4
    replace bV := bV.ch ko.ch
    replace lg := lg.ch ko.ch
    replace hO := ko.own
    replace ai := ai.ch ko.ch
    replace ad := ad.ch ko.ch
    replace ae := ae.ch ko.ch
    replace ab := ab.ch ko.ch
    replace af := af.ch ko.ch
    replace aa := aa.ch ko.ch
    replace hB := hB.trans ko.fr
    refine GoQ.pure rfl (J03 Try.underlying35 rfl ti26 rfl (by decide)) rfl rfl ?_
    refine GoQ.stable rfl (oblk (i := 0) 2 hO rfl rfl Try.underlying26 rfl rfl) rfl rfl ?_
    refine GoQ.pure rfl (J03 Try.underlying29 rfl ti26 rfl (by decide)) rfl rfl ?_
    refine GoQ.stable rfl (oblk (i := 0) 3 hO rfl rfl Try.underlying26 rfl rfl) rfl rfl ?_
    refine GoQ.pure rfl (J00 rfl) rfl rfl ?_
    obtain ⟨h70, H⟩ := H
    obtain ⟨h71, H⟩ := H
    refine GoQ.pure rfl (J01 Try.underlying26 ti3 rfl rfl h70 h71 (ad.some_ h70 h71)) rfl rfl ?_
    refine GoQ.stable rfl (ldInt ad h70 h71 Try.underlying3 rfl rfl) rfl rfl ?_
    have hobt := J2O (r := Rp.int .i64) (n := 1) (parts := [(0, .int .i64 (ix r14.R (k1_50 : Int)))]) (vs := [.int .i64 (ix r14.R (k1_50 : Int))]) (xs := [(ix r14.R (k1_50 : Int))]) rfl Try.underlying26 ti3 hO (by decide) (by kernel_rfl) (Els.cons rfl rfl (Els.nil _ _ _) (by simp [mx])) rfl
    obtain ⟨w72, p73, kq, x5, x6, vg⟩ := hobt
    refine GoQ.loud rfl (vg rfl) x6 rfl rfl ?_
    replace bV := bV.ch kq.ch
    replace lg := lg.ch kq.ch
    replace hO := kq.own
    replace ai := ai.ch kq.ch
    replace ad := ad.ch kq.ch
    replace ae := ae.ch kq.ch
    replace ab := ab.ch kq.ch
    replace af := af.ch kq.ch
    replace aa := aa.ch kq.ch
    replace hB := hB.trans kq.fr
    have hobt := freeze 0 hO rfl x5
    obtain ⟨hO1, li, jm, x7⟩ := hobt
    dsimp only [eS, eZ] at hO1 li jm
    replace ai := ai.ch li
    replace ad := ad.ch li
    replace ae := ae.ch li
    replace ab := ab.ch li
    replace af := af.ch li
    replace aa := aa.ch li
    replace bV := bV.ch li
    replace lg := lg.ch li
    replace hB := hB.trans (Owns.J0W _ _ 0)
    dsimp only [eS, eZ] at hB
    replace hO := hO1; clear hO1
    obtain ⟨h82, H⟩ := H
    have hobt := oapp Try.underlying26 ti3 rfl 1 hO rfl lg jm x7 h82 (by decide)
    obtain ⟨w83, p84, c85, x8, jj, jW, vh⟩ := hobt
    dsimp only [sS, sZ] at jj jW
    refine GoQ.last rfl (vh (by exact rfl) (by exact rfl)) rfl rfl ?_
    replace bV := bV.ch jj.ch
    replace hO := jj.own
    replace ai := ai.ch jj.ch
    replace ad := ad.ch jj.ch
    replace ae := ae.ch jj.ch
    replace ab := ab.ch jj.ch
    replace af := af.ch jj.ch
    replace aa := aa.ch jj.ch
    replace jm := jm.ch jj.ch
    replace hB := hB.trans jj.fr
    refine GoQ.pure rfl (J03 Try.underlying35 rfl ti26 rfl (by decide)) rfl rfl ?_
    have hobt := J2a (v := .slice p84 (n62 + 1) c85) (i := 0) (cs' := #[.slice p84 (n62 + 1) c85, .slice p54 n56 c55, .slice none 0 0, .slice none 0 0]) 2 hO rfl rfl rfl rfl
    obtain ⟨w91, jP, vi⟩ := hobt
    dsimp only [sS, sZ] at jP
    refine GoQ.last rfl (vi Try.underlying26 rfl ti26 (by exact rfl) (by exact rfl)) rfl rfl ?_
    replace bV := bV.ch jP.ch
    replace jW := jW.ch jP.ch
    replace hO := jP.own
    replace ai := ai.ch jP.ch
    replace ad := ad.ch jP.ch
    replace ae := ae.ch jP.ch
    replace ab := ab.ch jP.ch
    replace af := af.ch jP.ch
    replace aa := aa.ch jP.ch
    replace jm := jm.ch jP.ch
    replace hB := hB.trans jP.fr
    refine GoQ.nil ?_
    refine Go1.cut [(0, .slice bn a0.length bo), (1, .int .i64 a1), (4, .pointer (some ⟨B2, 0, none⟩)), (7, .pointer (some ⟨B21, 0, none⟩)), (8, .pointer (some ⟨B38, 0, none⟩)), (9, .int .i64 (k1_50 : Int)), (36, .slice am r14.J.length ao), (37, .int .i64 (r14.J.length : Int)), (38, .int .i64 (k1_50 : Int))] ⟨rfl, rfl, rfl, rfl, rfl, rfl, rfl, rfl, rfl, trivial⟩ ?_
    intro σ _
    refine Go1.drawS 4 [(0, .pure), (1, .stable), (2, .pure), (3, .stable), (4, .pure), (5, .pure), (6, .stable), (7, .loud), (8, .last), (9, .pure), (10, .last)] mixed (by kernel_rfl) ?_
    intro w94 x9
    have jX := Stp.same hO x9
    replace bV := bV.ch jX.ch
    replace jW := jW.ch jX.ch
    replace hO := jX.own
    replace ai := ai.ch jX.ch
    replace ad := ad.ch jX.ch
    replace ae := ae.ch jX.ch
    replace ab := ab.ch jX.ch
    replace af := af.ch jX.ch
    replace aa := aa.ch jX.ch
    replace jm := jm.ch jX.ch
    replace hB := hB.trans jX.fr
    refine GoQ.pure rfl (J03 Try.underlying35 rfl ti26 rfl (by decide)) rfl rfl ?_
    refine GoQ.stable rfl (oblk (i := 1) 2 hO rfl rfl Try.underlying26 rfl rfl) rfl rfl ?_
    refine GoQ.pure rfl (J03 Try.underlying29 rfl ti26 rfl (by decide)) rfl rfl ?_
    refine GoQ.stable rfl (oblk (i := 1) 3 hO rfl rfl Try.underlying26 rfl rfl) rfl rfl ?_
    refine GoQ.pure rfl (J00 rfl) rfl rfl ?_
    obtain ⟨h97, H⟩ := H
    obtain ⟨h98, H⟩ := H
    refine GoQ.pure rfl (J01 Try.underlying26 ti3 rfl rfl h97 h98 (ae.some_ h97 h98)) rfl rfl ?_
    refine GoQ.stable rfl (ldInt ae h97 h98 Try.underlying3 rfl rfl) rfl rfl ?_
    have hobt := J2O (r := Rp.int .i64) (n := 1) (parts := [(0, .int .i64 (ix r14.L (k1_50 : Int)))]) (vs := [.int .i64 (ix r14.L (k1_50 : Int))]) (xs := [(ix r14.L (k1_50 : Int))]) rfl Try.underlying26 ti3 hO (by decide) (by kernel_rfl) (Els.cons rfl rfl (Els.nil _ _ _) (by simp [mx])) rfl
    obtain ⟨w99, Au, iv, vj, vk, tA⟩ := hobt
    refine GoQ.loud rfl (tA rfl) vk rfl rfl ?_
    replace bV := bV.ch iv.ch
    replace jW := jW.ch iv.ch
    replace hO := iv.own
    replace ai := ai.ch iv.ch
    replace ad := ad.ch iv.ch
    replace ae := ae.ch iv.ch
    replace ab := ab.ch iv.ch
    replace af := af.ch iv.ch
    replace aa := aa.ch iv.ch
    replace jm := jm.ch iv.ch
    replace hB := hB.trans iv.fr
    have hobt := freeze 0 hO rfl vj
    obtain ⟨hO1, kr, l8, vm⟩ := hobt
    dsimp only [eS, eZ] at hO1 kr l8
    replace ai := ai.ch kr
    replace ad := ad.ch kr
    replace ae := ae.ch kr
    replace ab := ab.ch kr
    replace af := af.ch kr
    replace aa := aa.ch kr
    replace jm := jm.ch kr
    replace bV := bV.ch kr
    replace jW := jW.ch kr
    replace hB := hB.trans (Owns.J0W _ _ 0)
    dsimp only [eS, eZ] at hB
    replace hO := hO1; clear hO1
    obtain ⟨ya, H⟩ := H
    have hobt := oapp Try.underlying26 ti3 rfl 0 hO rfl bV l8 vm ya (by decide)
    obtain ⟨Aw, qg, qh, vn, fw, nI, tB⟩ := hobt
    dsimp only [sS, sZ] at fw nI
    refine GoQ.last rfl (tB (by exact rfl) (by exact rfl)) rfl rfl ?_
    replace jW := jW.ch fw.ch
    replace hO := fw.own
    replace ai := ai.ch fw.ch
    replace ad := ad.ch fw.ch
    replace ae := ae.ch fw.ch
    replace ab := ab.ch fw.ch
    replace af := af.ch fw.ch
    replace aa := aa.ch fw.ch
    replace jm := jm.ch fw.ch
    replace l8 := l8.ch fw.ch
    replace hB := hB.trans fw.fr
    refine GoQ.pure rfl (J03 Try.underlying35 rfl ti26 rfl (by decide)) rfl rfl ?_
    have hobt := J2a (v := .slice qg (n56 + 1) qh) (i := 1) (cs' := #[.slice p84 (n62 + 1) c85, .slice qg (n56 + 1) qh, .slice none 0 0, .slice none 0 0]) 2 hO rfl rfl rfl rfl
    obtain ⟨Ax, bY, n7⟩ := hobt
    dsimp only [sS, sZ] at bY
    refine GoQ.last rfl (n7 Try.underlying26 rfl ti26 (by exact rfl) (by exact rfl)) rfl rfl ?_
    replace nI := nI.ch bY.ch
    replace jW := jW.ch bY.ch
    replace hO := bY.own
    replace ai := ai.ch bY.ch
    replace ad := ad.ch bY.ch
    replace ae := ae.ch bY.ch
    replace ab := ab.ch bY.ch
    replace af := af.ch bY.ch
    replace aa := aa.ch bY.ch
    replace jm := jm.ch bY.ch
    replace l8 := l8.ch bY.ch
    replace hB := hB.trans bY.fr
    refine GoQ.nil ?_
    refine Go1.inBlock ?_
    refine Go1.region ?_
    refine GoR.op ((J06 rfl rfl (wrap_i64 (natbd h63 ab.bd))) _) rfl rfl ?_
    refine GoR.op ((J00 rfl) _) rfl rfl ?_
    refine GoR.nil ?_
    exact hX1 _ H _ _ ⟨n56 + 1, qg, qh, vn, n62 + 1, p84, c85, x8, ⟨rfl, rfl, rfl, rfl, rfl, rfl, rfl, rfl, trivial⟩, hO, nI, jW, ai, ad, ae, ab, af, aa, hB⟩
   replace H := ifn h66 H
   refine GoR.op ((fun w => opB (J15 rfl rfl w) (decide_eq_false h66)) _) rfl rfl ?_
   refine GoR.nil ?_
   refine Go1.condF rfl rfl ?_
   refine Go1.skip ?_
   refine Go1.inBlock ?_
   refine Go1.region ?_
   refine GoR.op ((J06 rfl rfl (wrap_i64 (natbd h63 ab.bd))) _) rfl rfl ?_
   refine GoR.op ((J00 rfl) _) rfl rfl ?_
   refine GoR.nil ?_
   exact hX1 _ H _ _ ⟨n56, p54, c55, j9, n62, p60, c61, kc, ⟨rfl, rfl, rfl, rfl, rfl, rfl, rfl, rfl, trivial⟩, hO, bV, lg, ai, ad, ae, ab, af, aa, hB⟩
  replace H := ifn h63 H
  refine GoR.op ((fun w => opB (J0s rfl rfl w) (decide_eq_false h63)) _) rfl rfl ?_
  refine GoR.nil ?_
  refine Go1.seq ?_
  refine Go1.condF rfl rfl ?_
  refine Go1.exit rfl ?_
  refine Go1.seq ?_
  refine Go1.region ?_
  refine GoR.op ((J03 Try.underlying35 rfl ti26 rfl (by decide)) _) rfl rfl ?_
  refine GoR.op ((oblk (i := 0) 2 hO rfl rfl Try.underlying26 rfl rfl) _ (Same.refl _)) rfl rfl ?_
  obtain ⟨yb, H⟩ := H
  refine GoR.call (osort body34 1 hO rfl lg yb rfl) rfl rfl ?_
  rintro Ay Az ⟨rfl, l9, jo, kW⟩
  dsimp only [sS, sZ] at jo kW
  replace bV := bV.ch jo.ch
  replace hO := jo.own
  replace ai := ai.ch jo.ch
  replace ad := ad.ch jo.ch
  replace ae := ae.ch jo.ch
  replace ab := ab.ch jo.ch
  replace af := af.ch jo.ch
  replace aa := aa.ch jo.ch
  replace hB := hB.trans jo.fr
  refine GoR.nil ?_
  refine Go1.seq ?_
  refine Go1.region ?_
  refine GoR.op ((J03 Try.underlying35 rfl ti26 rfl (by decide)) _) rfl rfl ?_
  refine GoR.op ((oblk (i := 1) 2 hO rfl rfl Try.underlying26 rfl rfl) _ (Same.refl _)) rfl rfl ?_
  obtain ⟨tn, H⟩ := H
  refine GoR.call (osort body34 0 hO rfl bV tn rfl) rfl rfl ?_
  rintro AA AB ⟨rfl, bX, jp, kX⟩
  dsimp only [sS, sZ] at jp kX
  replace kW := kW.ch jp.ch
  replace hO := jp.own
  replace ai := ai.ch jp.ch
  replace ad := ad.ch jp.ch
  replace ae := ae.ch jp.ch
  replace ab := ab.ch jp.ch
  replace af := af.ch jp.ch
  replace aa := aa.ch jp.ch
  replace hB := hB.trans jp.fr
  refine GoR.nil ?_
  refine Go1.seq ?_
  refine Go1.cut [(0, .slice bn a0.length bo), (1, .int .i64 a1), (4, .pointer (some ⟨B2, 0, none⟩)), (7, .pointer (some ⟨B21, 0, none⟩)), (8, .pointer (some ⟨B38, 0, none⟩))] ⟨rfl, rfl, rfl, rfl, rfl, trivial⟩ ?_
  intro σ _
  refine Go1.drawT (ok := fun _ => True) (CSv.tr [(some ⟨B38, 0, none⟩), (some ⟨B38, 1, none⟩)]) [5, 7, 9] 10 (.qp 0 (.qs 1 (.qp 3 (.qs 4 (.alt 2 (.qp 6 (.alt 5 (.alt 7 (.qp 8 (.alt 9 .nil .fin)) .fin) .fin)) .fin))))) mixed (by kernel_rfl) ?_
  intro m7 vo
  have jq := Stp.same hO vo
  replace kX := kX.ch jq.ch
  replace kW := kW.ch jq.ch
  replace hO := jq.own
  replace ai := ai.ch jq.ch
  replace ad := ad.ch jq.ch
  replace ae := ae.ch jq.ch
  replace ab := ab.ch jq.ch
  replace af := af.ch jq.ch
  replace aa := aa.ch jq.ch
  replace hB := hB.trans jq.fr
  refine GoT.pure rfl (J03 Try.underlying35 rfl ti26 rfl (by decide)) rfl rfl ?_
  refine GoT.stable rfl (loadV (.head _) rfl (J1o 2 hO rfl rfl) Try.underlying26 rfl rfl) rfl rfl ?_
  refine GoT.pure rfl (J03 Try.underlying35 rfl ti26 rfl (by decide)) rfl rfl ?_
  refine GoT.stable rfl (loadV (.tail _ (.head _)) rfl (J1o 2 hO rfl rfl) Try.underlying26 rfl rfl) rfl rfl ?_
  skip
  have iw := Stp.front 1 hO rfl
  dsimp only [eS, eZ] at iw
  replace kX := kX.ch iw.ch
  replace kW := kW.ch iw.ch
  replace hO := iw.own
  replace ai := ai.ch iw.ch
  replace ad := ad.ch iw.ch
  replace ae := ae.ch iw.ch
  replace ab := ab.ch iw.ch
  replace af := af.ch iw.ch
  replace aa := aa.ch iw.ch
  replace hB := hB.trans iw.fr
  have oF : Owns w0.heap.size m7 ([.row 3 1 p60 n62 c61 l9] ++ [.row 3 1 p54 n56 c55 bX, .blk B38 (.cells #[.slice p60 n62 c61, .slice p54 n56 c55, .slice none 0 0, .slice none 0 0] 35 (0, 0)), .blk B21 (.cells #[.slice av r14.R.length aw, .slice ax r14.L.length ay, .slice am r14.J.length ao, .slice az r14.H.length aA, .slice aj r14.Below.length ak] 29 (0, 0)), .blk B2 (.cells #[.slice none 0 0, .slice none 0 0, .slice none 0 0, .slice none 0 0] 35 (0, 0))]) A := hO
  have vr := Owns.split oF
  have hca139 : Ch (bl [.row 3 1 p60 n62 c61 l9, .row 3 1 p54 n56 c55 bX, .blk B38 (.cells #[.slice p60 n62 c61, .slice p54 n56 c55, .slice none 0 0, .slice none 0 0] 35 (0, 0)), .blk B21 (.cells #[.slice av r14.R.length aw, .slice ax r14.L.length ay, .slice am r14.J.length ao, .slice az r14.H.length aA, .slice aj r14.Below.length ak] 29 (0, 0)), .blk B2 (.cells #[.slice none 0 0, .slice none 0 0, .slice none 0 0, .slice none 0 0] 35 (0, 0))] ++ A) m7 (bl [.row 3 1 p60 n62 c61 l9] ++ (bl [.row 3 1 p54 n56 c55 bX, .blk B38 (.cells #[.slice p60 n62 c61, .slice p54 n56 c55, .slice none 0 0, .slice none 0 0] 35 (0, 0)), .blk B21 (.cells #[.slice av r14.R.length aw, .slice ax r14.L.length ay, .slice am r14.J.length ao, .slice az r14.H.length aA, .slice aj r14.Below.length ak] 29 (0, 0)), .blk B2 (.cells #[.slice none 0 0, .slice none 0 0, .slice none 0 0, .slice none 0 0] 35 (0, 0))] ++ A)) m7 := Ch.assoc' [.row 3 1 p60 n62 c61 l9] [.row 3 1 p54 n56 c55 bX, .blk B38 (.cells #[.slice p60 n62 c61, .slice p54 n56 c55, .slice none 0 0, .slice none 0 0] 35 (0, 0)), .blk B21 (.cells #[.slice av r14.R.length aw, .slice ax r14.L.length ay, .slice am r14.J.length ao, .slice az r14.H.length aA, .slice aj r14.Below.length ak] 29 (0, 0)), .blk B2 (.cells #[.slice none 0 0, .slice none 0 0, .slice none 0 0, .slice none 0 0] 35 (0, 0))] A m7
  refine GoT.call rfl (J05 body35 rfl (J1a vr (kW.ch hca139) H)) (fun v kM hr => by obtain ⟨_, _, hN, hF, _, _⟩ := hr; have hst : Stp w0.heap.size A m7 [.row 3 1 p60 n62 c61 l9, .row 3 1 p54 n56 c55 bX, .blk B38 (.cells #[.slice p60 n62 c61, .slice p54 n56 c55, .slice none 0 0, .slice none 0 0] 35 (0, 0)), .blk B21 (.cells #[.slice av r14.R.length aw, .slice ax r14.L.length ay, .slice am r14.J.length ao, .slice az r14.H.length aA, .slice aj r14.Below.length ak] 29 (0, 0)), .blk B2 (.cells #[.slice none 0 0, .slice none 0 0, .slice none 0 0, .slice none 0 0] 35 (0, 0))] kM [.row 3 1 p54 n56 c55 bX, .blk B38 (.cells #[.slice p60 n62 c61, .slice p54 n56 c55, .slice none 0 0, .slice none 0 0] 35 (0, 0)), .blk B21 (.cells #[.slice av r14.R.length aw, .slice ax r14.L.length ay, .slice am r14.J.length ao, .slice az r14.H.length aA, .slice aj r14.Below.length ak] 29 (0, 0)), .blk B2 (.cells #[.slice none 0 0, .slice none 0 0, .slice none 0 0, .slice none 0 0] 35 (0, 0))] := Stp.join oF hN hF; exact (CSv.cons (cs_eq (J1o 2 hO rfl rfl) (J1o 1 hst.own rfl rfl)) (CSv.cons (cs_eq (J1o 2 hO rfl rfl) (J1o 1 hst.own rfl rfl)) (CSv.nil _ _)))) rfl rfl ?_
  intro AC kM
  refine exE fun r140 => andE fun hv147 => andE fun hN143 => andE fun hF144 => andE fun ag => fun H => ?_
  subst hv147
  have jY : Stp w0.heap.size A m7 [.row 3 1 p60 n62 c61 l9, .row 3 1 p54 n56 c55 bX, .blk B38 (.cells #[.slice p60 n62 c61, .slice p54 n56 c55, .slice none 0 0, .slice none 0 0] 35 (0, 0)), .blk B21 (.cells #[.slice av r14.R.length aw, .slice ax r14.L.length ay, .slice am r14.J.length ao, .slice az r14.H.length aA, .slice aj r14.Below.length ak] 29 (0, 0)), .blk B2 (.cells #[.slice none 0 0, .slice none 0 0, .slice none 0 0, .slice none 0 0] 35 (0, 0))] kM [.row 3 1 p54 n56 c55 bX, .blk B38 (.cells #[.slice p60 n62 c61, .slice p54 n56 c55, .slice none 0 0, .slice none 0 0] 35 (0, 0)), .blk B21 (.cells #[.slice av r14.R.length aw, .slice ax r14.L.length ay, .slice am r14.J.length ao, .slice az r14.H.length aA, .slice aj r14.Below.length ak] 29 (0, 0)), .blk B2 (.cells #[.slice none 0 0, .slice none 0 0, .slice none 0 0, .slice none 0 0] 35 (0, 0))] := Stp.join oF hN143 hF144
  replace kX := kX.ch jY.ch
  replace hO := jY.own
  replace ai := ai.ch jY.ch
  replace ad := ad.ch jY.ch
  replace ae := ae.ch jY.ch
  replace ab := ab.ch jY.ch
  replace af := af.ch jY.ch
  replace aa := aa.ch jY.ch
  replace hB := hB.trans jY.fr
  have hca148 : Ch (bl [] ++ (bl [.row 3 1 p54 n56 c55 bX, .blk B38 (.cells #[.slice p60 n62 c61, .slice p54 n56 c55, .slice none 0 0, .slice none 0 0] 35 (0, 0)), .blk B21 (.cells #[.slice av r14.R.length aw, .slice ax r14.L.length ay, .slice am r14.J.length ao, .slice az r14.H.length aA, .slice aj r14.Below.length ak] 29 (0, 0)), .blk B2 (.cells #[.slice none 0 0, .slice none 0 0, .slice none 0 0, .slice none 0 0] 35 (0, 0))] ++ A)) kM (bl [.row 3 1 p54 n56 c55 bX, .blk B38 (.cells #[.slice p60 n62 c61, .slice p54 n56 c55, .slice none 0 0, .slice none 0 0] 35 (0, 0)), .blk B21 (.cells #[.slice av r14.R.length aw, .slice ax r14.L.length ay, .slice am r14.J.length ao, .slice az r14.H.length aA, .slice aj r14.Below.length ak] 29 (0, 0)), .blk B2 (.cells #[.slice none 0 0, .slice none 0 0, .slice none 0 0, .slice none 0 0] 35 (0, 0))] ++ A) kM := Ch.assoc [] [.row 3 1 p54 n56 c55 bX, .blk B38 (.cells #[.slice p60 n62 c61, .slice p54 n56 c55, .slice none 0 0, .slice none 0 0] 35 (0, 0)), .blk B21 (.cells #[.slice av r14.R.length aw, .slice ax r14.L.length ay, .slice am r14.J.length ao, .slice az r14.H.length aA, .slice aj r14.Below.length ak] 29 (0, 0)), .blk B2 (.cells #[.slice none 0 0, .slice none 0 0, .slice none 0 0, .slice none 0 0] 35 (0, 0))] A kM
  replace ag := ag.ch hca148
  refine GoT.pure rfl (J03 Try.underlying35 rfl ti26 rfl (by decide)) rfl rfl ?_
  skip
  have te : Owns w0.heap.size kM ([.row 3 1 p54 n56 c55 bX] ++ [.blk B38 (.cells #[.slice p60 n62 c61, .slice p54 n56 c55, .slice none 0 0, .slice none 0 0] 35 (0, 0)), .blk B21 (.cells #[.slice av r14.R.length aw, .slice ax r14.L.length ay, .slice am r14.J.length ao, .slice az r14.H.length aA, .slice aj r14.Below.length ak] 29 (0, 0)), .blk B2 (.cells #[.slice none 0 0, .slice none 0 0, .slice none 0 0, .slice none 0 0] 35 (0, 0))]) A := hO
  have vu := Owns.split te
  have hca151 : Ch (bl [.row 3 1 p54 n56 c55 bX, .blk B38 (.cells #[.slice p60 n62 c61, .slice p54 n56 c55, .slice none 0 0, .slice none 0 0] 35 (0, 0)), .blk B21 (.cells #[.slice av r14.R.length aw, .slice ax r14.L.length ay, .slice am r14.J.length ao, .slice az r14.H.length aA, .slice aj r14.Below.length ak] 29 (0, 0)), .blk B2 (.cells #[.slice none 0 0, .slice none 0 0, .slice none 0 0, .slice none 0 0] 35 (0, 0))] ++ A) kM (bl [.row 3 1 p54 n56 c55 bX] ++ (bl [.blk B38 (.cells #[.slice p60 n62 c61, .slice p54 n56 c55, .slice none 0 0, .slice none 0 0] 35 (0, 0)), .blk B21 (.cells #[.slice av r14.R.length aw, .slice ax r14.L.length ay, .slice am r14.J.length ao, .slice az r14.H.length aA, .slice aj r14.Below.length ak] 29 (0, 0)), .blk B2 (.cells #[.slice none 0 0, .slice none 0 0, .slice none 0 0, .slice none 0 0] 35 (0, 0))] ++ A)) kM := Ch.assoc' [.row 3 1 p54 n56 c55 bX] [.blk B38 (.cells #[.slice p60 n62 c61, .slice p54 n56 c55, .slice none 0 0, .slice none 0 0] 35 (0, 0)), .blk B21 (.cells #[.slice av r14.R.length aw, .slice ax r14.L.length ay, .slice am r14.J.length ao, .slice az r14.H.length aA, .slice aj r14.Below.length ak] 29 (0, 0)), .blk B2 (.cells #[.slice none 0 0, .slice none 0 0, .slice none 0 0, .slice none 0 0] 35 (0, 0))] A kM
  refine GoT.callX rfl (J05 body35 rfl (J1a vu (kX.ch hca151) H)) rfl rfl rfl ?_
  intro AD oG
  refine exE fun r152 => andE fun hv159 => andE fun hN155 => andE fun hF156 => andE fun ah => fun H => ?_
  subst hv159
  have j8 : Stp w0.heap.size A kM [.row 3 1 p54 n56 c55 bX, .blk B38 (.cells #[.slice p60 n62 c61, .slice p54 n56 c55, .slice none 0 0, .slice none 0 0] 35 (0, 0)), .blk B21 (.cells #[.slice av r14.R.length aw, .slice ax r14.L.length ay, .slice am r14.J.length ao, .slice az r14.H.length aA, .slice aj r14.Below.length ak] 29 (0, 0)), .blk B2 (.cells #[.slice none 0 0, .slice none 0 0, .slice none 0 0, .slice none 0 0] 35 (0, 0))] oG [.blk B38 (.cells #[.slice p60 n62 c61, .slice p54 n56 c55, .slice none 0 0, .slice none 0 0] 35 (0, 0)), .blk B21 (.cells #[.slice av r14.R.length aw, .slice ax r14.L.length ay, .slice am r14.J.length ao, .slice az r14.H.length aA, .slice aj r14.Below.length ak] 29 (0, 0)), .blk B2 (.cells #[.slice none 0 0, .slice none 0 0, .slice none 0 0, .slice none 0 0] 35 (0, 0))] := Stp.join te hN155 hF156
  replace hO := j8.own
  replace ai := ai.ch j8.ch
  replace ad := ad.ch j8.ch
  replace ae := ae.ch j8.ch
  replace ab := ab.ch j8.ch
  replace af := af.ch j8.ch
  replace aa := aa.ch j8.ch
  replace ag := ag.ch j8.ch
  replace hB := hB.trans j8.fr
  have hca160 : Ch (bl [] ++ (bl [.blk B38 (.cells #[.slice p60 n62 c61, .slice p54 n56 c55, .slice none 0 0, .slice none 0 0] 35 (0, 0)), .blk B21 (.cells #[.slice av r14.R.length aw, .slice ax r14.L.length ay, .slice am r14.J.length ao, .slice az r14.H.length aA, .slice aj r14.Below.length ak] 29 (0, 0)), .blk B2 (.cells #[.slice none 0 0, .slice none 0 0, .slice none 0 0, .slice none 0 0] 35 (0, 0))] ++ A)) oG (bl [.blk B38 (.cells #[.slice p60 n62 c61, .slice p54 n56 c55, .slice none 0 0, .slice none 0 0] 35 (0, 0)), .blk B21 (.cells #[.slice av r14.R.length aw, .slice ax r14.L.length ay, .slice am r14.J.length ao, .slice az r14.H.length aA, .slice aj r14.Below.length ak] 29 (0, 0)), .blk B2 (.cells #[.slice none 0 0, .slice none 0 0, .slice none 0 0, .slice none 0 0] 35 (0, 0))] ++ A) oG := Ch.assoc [] [.blk B38 (.cells #[.slice p60 n62 c61, .slice p54 n56 c55, .slice none 0 0, .slice none 0 0] 35 (0, 0)), .blk B21 (.cells #[.slice av r14.R.length aw, .slice ax r14.L.length ay, .slice am r14.J.length ao, .slice az r14.H.length aA, .slice aj r14.Below.length ak] 29 (0, 0)), .blk B2 (.cells #[.slice none 0 0, .slice none 0 0, .slice none 0 0, .slice none 0 0] 35 (0, 0))] A oG
  replace ah := ah.ch hca160
  skip
  have hobt := J2a (v := .slice p60 r140.length c61) (i := 0) (cs' := #[.slice p60 r140.length c61, .slice p54 n56 c55, .slice none 0 0, .slice none 0 0]) 0 hO rfl rfl rfl rfl
  obtain ⟨AE, jr, tC⟩ := hobt
  refine GoT.stepX rfl (tC Try.underlying26 rfl ti26 (by exact rfl) (by exact rfl)) rfl rfl rfl ?_
  replace hO := jr.own
  replace ai := ai.ch jr.ch
  replace ad := ad.ch jr.ch
  replace ae := ae.ch jr.ch
  replace ab := ab.ch jr.ch
  replace af := af.ch jr.ch
  replace aa := aa.ch jr.ch
  replace ag := ag.ch jr.ch
  replace ah := ah.ch jr.ch
  replace hB := hB.trans jr.fr
  refine GoT.pure rfl (J03 Try.underlying35 rfl ti26 rfl (by decide)) rfl rfl ?_
  skip
  have hobt := J2a (v := .slice p54 r152.length c55) (i := 1) (cs' := #[.slice p60 r140.length c61, .slice p54 r152.length c55, .slice none 0 0, .slice none 0 0]) 0 hO rfl rfl rfl rfl
  obtain ⟨AF, jt, tD⟩ := hobt
  refine GoT.stepX rfl (tD Try.underlying26 rfl ti26 (by exact rfl) (by exact rfl)) rfl rfl rfl ?_
  replace hO := jt.own
  replace ai := ai.ch jt.ch
  replace ad := ad.ch jt.ch
  replace ae := ae.ch jt.ch
  replace ab := ab.ch jt.ch
  replace af := af.ch jt.ch
  replace aa := aa.ch jt.ch
  replace ag := ag.ch jt.ch
  replace ah := ah.ch jt.ch
  replace hB := hB.trans jt.fr
  refine GoT.nil ?_
  refine Go1.seq ?_
  refine Go1.seq ?_
  refine Go1.region ?_
  refine GoR.op ((J03 Try.underlying35 rfl ti26 rfl (by decide)) _) rfl rfl ?_
  refine GoR.op ((oblk (i := 0) 0 hO rfl rfl Try.underlying26 rfl rfl) _ (Same.refl _)) rfl rfl ?_
  refine GoR.op ((J27 Try.underlying26 rfl) _) rfl rfl ?_
  replace H := H ag.bd
  refine GoR.op ((J00 rfl) _) rfl rfl ?_
  refine GoR.nil ?_
  refine Go1.block ?_
  have ju := t3nil (e := 22) (e1 := 26) (e2 := 3) (hf := (Fl.int .i64)) (ps := fun _ => (none, 0)) (hss := fun _ _ => (none, 0)) hO
  replace hO := ju.own
  replace ai := ai.ch ju.ch
  replace ad := ad.ch ju.ch
  replace ae := ae.ch ju.ch
  replace ab := ab.ch ju.ch
  replace af := af.ch ju.ch
  replace aa := aa.ch ju.ch
  replace ag := ag.ch ju.ch
  replace ah := ah.ch ju.ch
  replace hB := hB.trans ju.fr
  have jv := t2nil (e := 42) (e' := 4) Fl.bool hO
  replace hO := jv.own
  replace ai := ai.ch jv.ch
  replace ad := ad.ch jv.ch
  replace ae := ae.ch jv.ch
  replace ab := ab.ch jv.ch
  replace af := af.ch jv.ch
  replace aa := aa.ch jv.ch
  replace ag := ag.ch jv.ch
  replace ah := ah.ch jv.ch
  replace hB := hB.trans jv.fr
  refine Go1.loopW (S := Nat × List (List Bool) × List (List (List Int))) (fun s σ w => match s with | (k2_172, d_173, d_178) => ∃ (aW : Nat), ∃ (aY : Option Addr), ∃ (a8 : Nat), ∃ (bA : Hd), ∃ (aX : Nat), ∃ (a9 : Option Addr), ∃ (ba : Nat), ∃ (jk : List Value), ∃ (ps180 : Hd), ∃ (jl : Nat → Hd), agrees σ [(0, .slice bn a0.length bo), (1, .int .i64 a1), (4, .pointer (some ⟨B2, 0, none⟩)), (7, .pointer (some ⟨B21, 0, none⟩)), (8, .pointer (some ⟨B38, 0, none⟩)), (83, .int .i64 (r140.length : Int)), (84, .int .i64 (k2_172 : Int))] ∧ Owns w0.heap.size w [t2 Fl.bool 42 4 aY aW a8 bA d_173, .row 22 1 a9 aX ba jk, famE d_178.length (lay3 (Fl.int .i64) 26 3 ps180 jl d_178), .blk B38 (.cells #[.slice p60 r140.length c61, .slice p54 r152.length c55, .slice a9 aX ba, .slice aY aW a8] 35 (0, 0)), .blk B21 (.cells #[.slice av r14.R.length aw, .slice ax r14.L.length ay, .slice am r14.J.length ao, .slice az r14.H.length aA, .slice aj r14.Below.length ak] 29 (0, 0)), .blk B2 (.cells #[.slice none 0 0, .slice none 0 0, .slice none 0 0, .slice none 0 0] 35 (0, 0))] A ∧ T3F jk ps180 d_178 ∧ ISl (Rp.sl (Rp.int .i64)) (bl [t2 Fl.bool 42 4 aY aW a8 bA d_173, .row 22 1 a9 aX ba jk, famE d_178.length (lay3 (Fl.int .i64) 26 3 ps180 jl d_178), .blk B38 (.cells #[.slice p60 r140.length c61, .slice p54 r152.length c55, .slice a9 aX ba, .slice aY aW a8] 35 (0, 0)), .blk B21 (.cells #[.slice av r14.R.length aw, .slice ax r14.L.length ay, .slice am r14.J.length ao, .slice az r14.H.length aA, .slice aj r14.Below.length ak] 29 (0, 0)), .blk B2 (.cells #[.slice none 0 0, .slice none 0 0, .slice none 0 0, .slice none 0 0] 35 (0, 0))] ++ A) w bn bo a0 ∧ ISl (Rp.int .i64) (bl [t2 Fl.bool 42 4 aY aW a8 bA d_173, .row 22 1 a9 aX ba jk, famE d_178.length (lay3 (Fl.int .i64) 26 3 ps180 jl d_178), .blk B38 (.cells #[.slice p60 r140.length c61, .slice p54 r152.length c55, .slice a9 aX ba, .slice aY aW a8] 35 (0, 0)), .blk B21 (.cells #[.slice av r14.R.length aw, .slice ax r14.L.length ay, .slice am r14.J.length ao, .slice az r14.H.length aA, .slice aj r14.Below.length ak] 29 (0, 0)), .blk B2 (.cells #[.slice none 0 0, .slice none 0 0, .slice none 0 0, .slice none 0 0] 35 (0, 0))] ++ A) w av aw r14.R ∧ ISl (Rp.int .i64) (bl [t2 Fl.bool 42 4 aY aW a8 bA d_173, .row 22 1 a9 aX ba jk, famE d_178.length (lay3 (Fl.int .i64) 26 3 ps180 jl d_178), .blk B38 (.cells #[.slice p60 r140.length c61, .slice p54 r152.length c55, .slice a9 aX ba, .slice aY aW a8] 35 (0, 0)), .blk B21 (.cells #[.slice av r14.R.length aw, .slice ax r14.L.length ay, .slice am r14.J.length ao, .slice az r14.H.length aA, .slice aj r14.Below.length ak] 29 (0, 0)), .blk B2 (.cells #[.slice none 0 0, .slice none 0 0, .slice none 0 0, .slice none 0 0] 35 (0, 0))] ++ A) w ax ay r14.L ∧ ISl (Rp.int .i64) (bl [t2 Fl.bool 42 4 aY aW a8 bA d_173, .row 22 1 a9 aX ba jk, famE d_178.length (lay3 (Fl.int .i64) 26 3 ps180 jl d_178), .blk B38 (.cells #[.slice p60 r140.length c61, .slice p54 r152.length c55, .slice a9 aX ba, .slice aY aW a8] 35 (0, 0)), .blk B21 (.cells #[.slice av r14.R.length aw, .slice ax r14.L.length ay, .slice am r14.J.length ao, .slice az r14.H.length aA, .slice aj r14.Below.length ak] 29 (0, 0)), .blk B2 (.cells #[.slice none 0 0, .slice none 0 0, .slice none 0 0, .slice none 0 0] 35 (0, 0))] ++ A) w am ao r14.J ∧ ISl (Rp.int .i64) (bl [t2 Fl.bool 42 4 aY aW a8 bA d_173, .row 22 1 a9 aX ba jk, famE d_178.length (lay3 (Fl.int .i64) 26 3 ps180 jl d_178), .blk B38 (.cells #[.slice p60 r140.length c61, .slice p54 r152.length c55, .slice a9 aX ba, .slice aY aW a8] 35 (0, 0)), .blk B21 (.cells #[.slice av r14.R.length aw, .slice ax r14.L.length ay, .slice am r14.J.length ao, .slice az r14.H.length aA, .slice aj r14.Below.length ak] 29 (0, 0)), .blk B2 (.cells #[.slice none 0 0, .slice none 0 0, .slice none 0 0, .slice none 0 0] 35 (0, 0))] ++ A) w az aA r14.H ∧ ISl (Rp.sl (Rp.bool)) (bl [t2 Fl.bool 42 4 aY aW a8 bA d_173, .row 22 1 a9 aX ba jk, famE d_178.length (lay3 (Fl.int .i64) 26 3 ps180 jl d_178), .blk B38 (.cells #[.slice p60 r140.length c61, .slice p54 r152.length c55, .slice a9 aX ba, .slice aY aW a8] 35 (0, 0)), .blk B21 (.cells #[.slice av r14.R.length aw, .slice ax r14.L.length ay, .slice am r14.J.length ao, .slice az r14.H.length aA, .slice aj r14.Below.length ak] 29 (0, 0)), .blk B2 (.cells #[.slice none 0 0, .slice none 0 0, .slice none 0 0, .slice none 0 0] 35 (0, 0))] ++ A) w aj ak r14.Below ∧ ISl (Rp.int .i64) (bl [t2 Fl.bool 42 4 aY aW a8 bA d_173, .row 22 1 a9 aX ba jk, famE d_178.length (lay3 (Fl.int .i64) 26 3 ps180 jl d_178), .blk B38 (.cells #[.slice p60 r140.length c61, .slice p54 r152.length c55, .slice a9 aX ba, .slice aY aW a8] 35 (0, 0)), .blk B21 (.cells #[.slice av r14.R.length aw, .slice ax r14.L.length ay, .slice am r14.J.length ao, .slice az r14.H.length aA, .slice aj r14.Below.length ak] 29 (0, 0)), .blk B2 (.cells #[.slice none 0 0, .slice none 0 0, .slice none 0 0, .slice none 0 0] 35 (0, 0))] ++ A) w p60 c61 r140 ∧ ISl (Rp.int .i64) (bl [t2 Fl.bool 42 4 aY aW a8 bA d_173, .row 22 1 a9 aX ba jk, famE d_178.length (lay3 (Fl.int .i64) 26 3 ps180 jl d_178), .blk B38 (.cells #[.slice p60 r140.length c61, .slice p54 r152.length c55, .slice a9 aX ba, .slice aY aW a8] 35 (0, 0)), .blk B21 (.cells #[.slice av r14.R.length aw, .slice ax r14.L.length ay, .slice am r14.J.length ao, .slice az r14.H.length aA, .slice aj r14.Below.length ak] 29 (0, 0)), .blk B2 (.cells #[.slice none 0 0, .slice none 0 0, .slice none 0 0, .slice none 0 0] 35 (0, 0))] ++ A) w p54 c55 r152 ∧ Fr (bl []) w0 (bl [t2 Fl.bool 42 4 aY aW a8 bA d_173, .row 22 1 a9 aX ba jk, famE d_178.length (lay3 (Fl.int .i64) 26 3 ps180 jl d_178), .blk B38 (.cells #[.slice p60 r140.length c61, .slice p54 r152.length c55, .slice a9 aX ba, .slice aY aW a8] 35 (0, 0)), .blk B21 (.cells #[.slice av r14.R.length aw, .slice ax r14.L.length ay, .slice am r14.J.length ao, .slice az r14.H.length aA, .slice aj r14.Below.length ak] 29 (0, 0)), .blk B2 (.cells #[.slice none 0 0, .slice none 0 0, .slice none 0 0, .slice none 0 0] 35 (0, 0))]) w) H ⟨0, none, 0, (fun _ => (none, 0)), 0, none, 0, (hcells (fun _ => (none, 0)) ([] : List (List (List Int)))), (fun _ => (none, 0)), (fun _ _ => (none, 0)), ⟨rfl, rfl, rfl, rfl, rfl, rfl, rfl, trivial⟩, hO, (T3F.nil _), ai, ad, ae, ab, af, aa, ag, ah, hB⟩ ?_
  intro X2
  refine prE fun k2_172 => prE fun d_173 => fun d_178 => ?_
  intro H hX2 σ AG
  refine exE fun aW => exE fun aY => exE fun a8 => exE fun bA => exE fun aX => exE fun a9 => exE fun ba => exE fun jk => exE fun ps180 => exE fun jl => andE fun hag => andE fun hO => andE fun hF182 => andE fun ai => andE fun ad => andE fun ae => andE fun ab => andE fun af => andE fun aa => andE fun ag => andE fun ah => fun hB => ?_
  dsimp only at H
  refine Go1.keep [(0, .slice bn a0.length bo), (1, .int .i64 a1), (4, .pointer (some ⟨B2, 0, none⟩)), (7, .pointer (some ⟨B21, 0, none⟩)), (8, .pointer (some ⟨B38, 0, none⟩)), (83, .int .i64 (r140.length : Int)), (84, .int .i64 (k2_172 : Int))] hag ?_
  refine Go1.seq ?_
  refine Go1.region ?_
  by_cases n8 : (k2_172 : Int) < (r140.length : Int)
  ·replace H := ifp n8 H
   refine GoR.op ((fun w => opB (J0s rfl rfl w) (decide_eq_true n8)) _) rfl rfl ?_
   refine GoR.nil ?_
   refine Go1.seq ?_
   refine Go1.condT rfl rfl ?_
   refine Go1.skip ?_
   refine Go1.seq ?_
   refine Go1.block ?_
   refine Go1.seq ?_
   refine Go1.drawS 4 [(0, .pure), (1, .stable), (2, .pure), (3, .stable), (4, .pure), (5, .loud), (6, .loud), (7, .last), (8, .pure), (9, .last)] mixed (by kernel_rfl) ?_
   intro AH vw
   have jw := Stp.same hO vw
   replace hO := jw.own
   replace ai := ai.ch jw.ch
   replace ad := ad.ch jw.ch
   replace ae := ae.ch jw.ch
   replace ab := ab.ch jw.ch
   replace af := af.ch jw.ch
   replace aa := aa.ch jw.ch
   replace ag := ag.ch jw.ch
   replace ah := ah.ch jw.ch
   replace hB := hB.trans jw.fr
   refine GoQ.pure rfl (J03 Try.underlying35 rfl ti33 rfl (by decide)) rfl rfl ?_
   refine GoQ.stable rfl (oblk (i := 2) 3 hO rfl rfl Try.underlying33 rfl rfl) rfl rfl ?_
   refine GoQ.pure rfl (J03 Try.underlying35 rfl ti26 rfl (by decide)) rfl rfl ?_
   refine GoQ.stable rfl (oblk (i := 1) 3 hO rfl rfl Try.underlying26 rfl rfl) rfl rfl ?_
   refine GoQ.pure rfl (J27 Try.underlying26 rfl) rfl rfl ?_
   replace H := H ah.bd
   obtain ⟨yc, H⟩ := H
   obtain ⟨yd, H⟩ := H
   have hobt := t2makeS (m := (r152.length : Int)) (e' := 3) (Fl.int .i64) Try.underlying22 ti26 hO yc yd (by decide)
   obtain ⟨AI, tE, jx, vy, tF, hz200⟩ := hobt
   refine GoQ.loud rfl (tF rfl rfl) vy rfl rfl ?_
   replace hO := jx.own
   replace ai := ai.ch jx.ch
   replace ad := ad.ch jx.ch
   replace ae := ae.ch jx.ch
   replace ab := ab.ch jx.ch
   replace af := af.ch jx.ch
   replace aa := aa.ch jx.ch
   replace ag := ag.ch jx.ch
   replace ah := ah.ch jx.ch
   replace hB := hB.trans jx.fr
   have hobt := t3build1S (e := 22) (hf := (Fl.int .i64)) Try.underlying33 ti22 hO
   obtain ⟨AJ, AK, jy, vz, tG⟩ := hobt
   refine GoQ.loud rfl (tG rfl) vz rfl rfl ?_
   replace hO := jy.own
   replace ai := ai.ch jy.ch
   replace ad := ad.ch jy.ch
   replace ae := ae.ch jy.ch
   replace ab := ab.ch jy.ch
   replace af := af.ch jy.ch
   replace aa := aa.ch jy.ch
   replace ag := ag.ch jy.ch
   replace ah := ah.ch jy.ch
   replace hB := hB.trans jy.fr
   have iA := Stp.front 4 hO rfl
   dsimp only [eS, eZ] at iA
   replace hO := iA.own
   replace ai := ai.ch iA.ch
   replace ad := ad.ch iA.ch
   replace ae := ae.ch iA.ch
   replace ab := ab.ch iA.ch
   replace af := af.ch iA.ch
   replace aa := aa.ch iA.ch
   replace ag := ag.ch iA.ch
   replace ah := ah.ch iA.ch
   replace hB := hB.trans iA.fr
   have iB := Stp.front 4 hO rfl
   dsimp only [eS, eZ] at iB
   replace hO := iB.own
   replace ai := ai.ch iB.ch
   replace ad := ad.ch iB.ch
   replace ae := ae.ch iB.ch
   replace ab := ab.ch iB.ch
   replace af := af.ch iB.ch
   replace aa := aa.ch iB.ch
   replace ag := ag.ch iB.ch
   replace ah := ah.ch iB.ch
   replace hB := hB.trans iB.fr
   have iC := Stp.front 3 hO rfl
   dsimp only [eS, eZ] at iC
   replace hO := iC.own
   replace ai := ai.ch iC.ch
   replace ad := ad.ch iC.ch
   replace ae := ae.ch iC.ch
   replace ab := ab.ch iC.ch
   replace af := af.ch iC.ch
   replace aa := aa.ch iC.ch
   replace ag := ag.ch iC.ch
   replace ah := ah.ch iC.ch
   replace hB := hB.trans iC.fr
   have iD := Stp.front 3 hO rfl
   dsimp only [eS, eZ] at iD
   replace hO := iD.own
   replace ai := ai.ch iD.ch
   replace ad := ad.ch iD.ch
   replace ae := ae.ch iD.ch
   replace ab := ab.ch iD.ch
   replace af := af.ch iD.ch
   replace aa := aa.ch iD.ch
   replace ag := ag.ch iD.ch
   replace ah := ah.ch iD.ch
   replace hB := hB.trans iD.fr
   obtain ⟨tH, H⟩ := H
   have hobt := t3catF (hf := (Fl.int .i64)) Try.underlying33 ti22 hO (T3F.one _ _) hF182 tH (by decide)
   obtain ⟨AM, oH, oI, jz, tI⟩ := hobt
   refine GoQ.last rfl (tI (by exact rfl) (by exact rfl)) rfl rfl ?_
   replace hO := jz.own
   replace ai := ai.ch jz.ch
   replace ad := ad.ch jz.ch
   replace ae := ae.ch jz.ch
   replace ab := ab.ch jz.ch
   replace af := af.ch jz.ch
   replace aa := aa.ch jz.ch
   replace ag := ag.ch jz.ch
   replace ah := ah.ch jz.ch
   replace hB := hB.trans jz.fr
   refine GoQ.pure rfl (J03 Try.underlying35 rfl ti33 rfl (by decide)) rfl rfl ?_
   have hobt := J2a (v := .slice oH (aX + 1) oI) (i := 2) (cs' := #[.slice p60 r140.length c61, .slice p54 r152.length c55, .slice oH (aX + 1) oI, .slice aY aW a8]) 3 hO rfl rfl rfl rfl
   obtain ⟨AO, iE, tJ⟩ := hobt
   dsimp only [sS, sZ] at iE
   refine GoQ.last rfl (tJ Try.underlying33 rfl ti33 (by exact rfl) (by exact rfl)) rfl rfl ?_
   replace hO := iE.own
   replace ai := ai.ch iE.ch
   replace ad := ad.ch iE.ch
   replace ae := ae.ch iE.ch
   replace ab := ab.ch iE.ch
   replace af := af.ch iE.ch
   replace aa := aa.ch iE.ch
   replace ag := ag.ch iE.ch
   replace ah := ah.ch iE.ch
   replace hB := hB.trans iE.fr
   refine GoQ.nil ?_
   refine Go1.drawS 4 [(0, .pure), (1, .stable), (2, .pure), (3, .stable), (4, .pure), (5, .loud), (6, .loud), (7, .last), (8, .pure), (9, .last)] mixed (by kernel_rfl) ?_
   intro AP vA
   have jA := Stp.same hO vA
   replace hO := jA.own
   replace ai := ai.ch jA.ch
   replace ad := ad.ch jA.ch
   replace ae := ae.ch jA.ch
   replace ab := ab.ch jA.ch
   replace af := af.ch jA.ch
   replace aa := aa.ch jA.ch
   replace ag := ag.ch jA.ch
   replace ah := ah.ch jA.ch
   replace hB := hB.trans jA.fr
   refine GoQ.pure rfl (J03 Try.underlying35 rfl ti27 rfl (by decide)) rfl rfl ?_
   refine GoQ.stable rfl (oblk (i := 3) 3 hO rfl rfl Try.underlying27 rfl rfl) rfl rfl ?_
   refine GoQ.pure rfl (J03 Try.underlying35 rfl ti26 rfl (by decide)) rfl rfl ?_
   refine GoQ.stable rfl (oblk (i := 1) 3 hO rfl rfl Try.underlying26 rfl rfl) rfl rfl ?_
   refine GoQ.pure rfl (J27 Try.underlying26 rfl) rfl rfl ?_
   obtain ⟨ye, H⟩ := H
   obtain ⟨yf, H⟩ := H
   have hobt := omake (n := (r152.length : Int)) (r := Rp.bool) (d := false) Try.underlying42 ti4 (fun _ _ => rfl) rfl hO ye yf (by decide)
   obtain ⟨AQ, yg, zB, jB, vB, vC, tK⟩ := hobt
   refine GoQ.loud rfl (tK rfl rfl) vC rfl rfl ?_
   replace hO := jB.own
   replace ai := ai.ch jB.ch
   replace ad := ad.ch jB.ch
   replace ae := ae.ch jB.ch
   replace ab := ab.ch jB.ch
   replace af := af.ch jB.ch
   replace aa := aa.ch jB.ch
   replace ag := ag.ch jB.ch
   replace ah := ah.ch jB.ch
   replace hB := hB.trans jB.fr
   have hobt := t2build1S Fl.bool Try.underlying27 ti42 hO vB
   obtain ⟨AR, AT, jC, vD, tL⟩ := hobt
   refine GoQ.loud rfl (tL rfl) vD rfl rfl ?_
   replace hO := jC.own
   replace ai := ai.ch jC.ch
   replace ad := ad.ch jC.ch
   replace ae := ae.ch jC.ch
   replace ab := ab.ch jC.ch
   replace af := af.ch jC.ch
   replace aa := aa.ch jC.ch
   replace ag := ag.ch jC.ch
   replace ah := ah.ch jC.ch
   replace hB := hB.trans jC.fr
   have iG := Stp.front 3 hO rfl
   dsimp only [eS, eZ] at iG
   replace hO := iG.own
   replace ai := ai.ch iG.ch
   replace ad := ad.ch iG.ch
   replace ae := ae.ch iG.ch
   replace ab := ab.ch iG.ch
   replace af := af.ch iG.ch
   replace aa := aa.ch iG.ch
   replace ag := ag.ch iG.ch
   replace ah := ah.ch iG.ch
   replace hB := hB.trans iG.fr
   have iH := Stp.front 1 hO rfl
   dsimp only [eS, eZ] at iH
   replace hO := iH.own
   replace ai := ai.ch iH.ch
   replace ad := ad.ch iH.ch
   replace ae := ae.ch iH.ch
   replace ab := ab.ch iH.ch
   replace af := af.ch iH.ch
   replace aa := aa.ch iH.ch
   replace ag := ag.ch iH.ch
   replace ah := ah.ch iH.ch
   replace hB := hB.trans iH.fr
   obtain ⟨yh, H⟩ := H
   have hobt := t2cat Try.underlying27 ti42 hO yh (by decide)
   obtain ⟨AU, qi, qj, jD, tM⟩ := hobt
   refine GoQ.last rfl (tM (by exact rfl) (by exact rfl)) rfl rfl ?_
   replace hO := jD.own
   replace ai := ai.ch jD.ch
   replace ad := ad.ch jD.ch
   replace ae := ae.ch jD.ch
   replace ab := ab.ch jD.ch
   replace af := af.ch jD.ch
   replace aa := aa.ch jD.ch
   replace ag := ag.ch jD.ch
   replace ah := ah.ch jD.ch
   replace hB := hB.trans jD.fr
   refine GoQ.pure rfl (J03 Try.underlying35 rfl ti27 rfl (by decide)) rfl rfl ?_
   have hobt := J2a (v := .slice qi (aW + 1) qj) (i := 3) (cs' := #[.slice p60 r140.length c61, .slice p54 r152.length c55, .slice oH (aX + 1) oI, .slice qi (aW + 1) qj]) 3 hO rfl rfl rfl rfl
   obtain ⟨AV, iI, tN⟩ := hobt
   dsimp only [sS, sZ] at iI
   refine GoQ.last rfl (tN Try.underlying27 rfl ti27 (by exact rfl) (by exact rfl)) rfl rfl ?_
   replace hO := iI.own
   replace ai := ai.ch iI.ch
   replace ad := ad.ch iI.ch
   replace ae := ae.ch iI.ch
   replace ab := ab.ch iI.ch
   replace af := af.ch iI.ch
   replace aa := aa.ch iI.ch
   replace ag := ag.ch iI.ch
   replace ah := ah.ch iI.ch
   replace hB := hB.trans iI.fr
   refine GoQ.nil ?_
   refine Go1.inBlock ?_
   refine Go1.cut [(0, .slice bn a0.length bo), (1, .int .i64 a1), (4, .pointer (some ⟨B2, 0, none⟩)), (7, .pointer (some ⟨B21, 0, none⟩)), (8, .pointer (some ⟨B38, 0, none⟩)), (83, .int .i64 (r140.length : Int)), (84, .int .i64 (k2_172 : Int))] ⟨rfl, rfl, rfl, rfl, rfl, rfl, rfl, trivial⟩ ?_
   intro σ _
   refine Go1.region ?_
   refine GoR.op ((J06 rfl rfl (wrap_i64 (natbd n8 ag.bd))) _) rfl rfl ?_
   refine GoR.op ((J00 rfl) _) rfl rfl ?_
   refine GoR.nil ?_
   exact hX2 _ H _ _ ⟨aW + 1, qi, qj, hcat bA d_173.length ((fun _ => (yg, r152.length))), aX + 1, oH, oI, hcells (hcat ps180 d_178.length ((fun _ => (tE, r152.length)))) (d_178 ++ ([List.replicate r152.length ([] : List Int)])), hcat ps180 d_178.length ((fun _ => (tE, r152.length))), hsscat jl d_178.length ((fun _ => (fun _ => (none, 0)))), ⟨rfl, rfl, rfl, rfl, rfl, rfl, rfl, trivial⟩, hO, (T3F.cat _ tH), ai, ad, ae, ab, af, aa, ag, ah, hB⟩
  replace H := ifn n8 H
  refine GoR.op ((fun w => opB (J0s rfl rfl w) (decide_eq_false n8)) _) rfl rfl ?_
  refine GoR.nil ?_
  refine Go1.seq ?_
  refine Go1.condF rfl rfl ?_
  refine Go1.exit rfl ?_
  refine Go1.seq ?_
  refine Go1.seq ?_
  refine Go1.region ?_
  refine GoR.op ((J03 Try.underlying29 rfl ti26 rfl (by decide)) _) rfl rfl ?_
  refine GoR.op ((oblk (i := 2) 4 hO rfl rfl Try.underlying26 rfl rfl) _ (Same.refl _)) rfl rfl ?_
  refine GoR.op ((J27 Try.underlying26 rfl) _) rfl rfl ?_
  refine GoR.op ((J00 rfl) _) rfl rfl ?_
  refine GoR.nil ?_
  refine Go1.block ?_
  refine Go1.loopW (S := Nat × List (List Bool) × List (List (List Int))) (fun s σ w => match s with | (k3_251, d_252, d_253) => ∃ (bm : List Value), ∃ (ps255 : Hd), ∃ (aB : Nat → Hd), agrees σ [(0, .slice bn a0.length bo), (1, .int .i64 a1), (4, .pointer (some ⟨B2, 0, none⟩)), (7, .pointer (some ⟨B21, 0, none⟩)), (8, .pointer (some ⟨B38, 0, none⟩)), (106, .slice am r14.J.length ao), (107, .int .i64 (r14.J.length : Int)), (108, .int .i64 (k3_251 : Int))] ∧ Owns w0.heap.size w [t2 Fl.bool 42 4 aY aW a8 bA d_252, .row 22 1 a9 aX ba bm, famE d_253.length (lay3 (Fl.int .i64) 26 3 ps255 aB d_253), .blk B38 (.cells #[.slice p60 r140.length c61, .slice p54 r152.length c55, .slice a9 aX ba, .slice aY aW a8] 35 (0, 0)), .blk B21 (.cells #[.slice av r14.R.length aw, .slice ax r14.L.length ay, .slice am r14.J.length ao, .slice az r14.H.length aA, .slice aj r14.Below.length ak] 29 (0, 0)), .blk B2 (.cells #[.slice none 0 0, .slice none 0 0, .slice none 0 0, .slice none 0 0] 35 (0, 0))] A ∧ T3F bm ps255 d_253 ∧ ISl (Rp.sl (Rp.int .i64)) (bl [t2 Fl.bool 42 4 aY aW a8 bA d_252, .row 22 1 a9 aX ba bm, famE d_253.length (lay3 (Fl.int .i64) 26 3 ps255 aB d_253), .blk B38 (.cells #[.slice p60 r140.length c61, .slice p54 r152.length c55, .slice a9 aX ba, .slice aY aW a8] 35 (0, 0)), .blk B21 (.cells #[.slice av r14.R.length aw, .slice ax r14.L.length ay, .slice am r14.J.length ao, .slice az r14.H.length aA, .slice aj r14.Below.length ak] 29 (0, 0)), .blk B2 (.cells #[.slice none 0 0, .slice none 0 0, .slice none 0 0, .slice none 0 0] 35 (0, 0))] ++ A) w bn bo a0 ∧ ISl (Rp.int .i64) (bl [t2 Fl.bool 42 4 aY aW a8 bA d_252, .row 22 1 a9 aX ba bm, famE d_253.length (lay3 (Fl.int .i64) 26 3 ps255 aB d_253), .blk B38 (.cells #[.slice p60 r140.length c61, .slice p54 r152.length c55, .slice a9 aX ba, .slice aY aW a8] 35 (0, 0)), .blk B21 (.cells #[.slice av r14.R.length aw, .slice ax r14.L.length ay, .slice am r14.J.length ao, .slice az r14.H.length aA, .slice aj r14.Below.length ak] 29 (0, 0)), .blk B2 (.cells #[.slice none 0 0, .slice none 0 0, .slice none 0 0, .slice none 0 0] 35 (0, 0))] ++ A) w av aw r14.R ∧ ISl (Rp.int .i64) (bl [t2 Fl.bool 42 4 aY aW a8 bA d_252, .row 22 1 a9 aX ba bm, famE d_253.length (lay3 (Fl.int .i64) 26 3 ps255 aB d_253), .blk B38 (.cells #[.slice p60 r140.length c61, .slice p54 r152.length c55, .slice a9 aX ba, .slice aY aW a8] 35 (0, 0)), .blk B21 (.cells #[.slice av r14.R.length aw, .slice ax r14.L.length ay, .slice am r14.J.length ao, .slice az r14.H.length aA, .slice aj r14.Below.length ak] 29 (0, 0)), .blk B2 (.cells #[.slice none 0 0, .slice none 0 0, .slice none 0 0, .slice none 0 0] 35 (0, 0))] ++ A) w ax ay r14.L ∧ ISl (Rp.int .i64) (bl [t2 Fl.bool 42 4 aY aW a8 bA d_252, .row 22 1 a9 aX ba bm, famE d_253.length (lay3 (Fl.int .i64) 26 3 ps255 aB d_253), .blk B38 (.cells #[.slice p60 r140.length c61, .slice p54 r152.length c55, .slice a9 aX ba, .slice aY aW a8] 35 (0, 0)), .blk B21 (.cells #[.slice av r14.R.length aw, .slice ax r14.L.length ay, .slice am r14.J.length ao, .slice az r14.H.length aA, .slice aj r14.Below.length ak] 29 (0, 0)), .blk B2 (.cells #[.slice none 0 0, .slice none 0 0, .slice none 0 0, .slice none 0 0] 35 (0, 0))] ++ A) w am ao r14.J ∧ ISl (Rp.int .i64) (bl [t2 Fl.bool 42 4 aY aW a8 bA d_252, .row 22 1 a9 aX ba bm, famE d_253.length (lay3 (Fl.int .i64) 26 3 ps255 aB d_253), .blk B38 (.cells #[.slice p60 r140.length c61, .slice p54 r152.length c55, .slice a9 aX ba, .slice aY aW a8] 35 (0, 0)), .blk B21 (.cells #[.slice av r14.R.length aw, .slice ax r14.L.length ay, .slice am r14.J.length ao, .slice az r14.H.length aA, .slice aj r14.Below.length ak] 29 (0, 0)), .blk B2 (.cells #[.slice none 0 0, .slice none 0 0, .slice none 0 0, .slice none 0 0] 35 (0, 0))] ++ A) w az aA r14.H ∧ ISl (Rp.sl (Rp.bool)) (bl [t2 Fl.bool 42 4 aY aW a8 bA d_252, .row 22 1 a9 aX ba bm, famE d_253.length (lay3 (Fl.int .i64) 26 3 ps255 aB d_253), .blk B38 (.cells #[.slice p60 r140.length c61, .slice p54 r152.length c55, .slice a9 aX ba, .slice aY aW a8] 35 (0, 0)), .blk B21 (.cells #[.slice av r14.R.length aw, .slice ax r14.L.length ay, .slice am r14.J.length ao, .slice az r14.H.length aA, .slice aj r14.Below.length ak] 29 (0, 0)), .blk B2 (.cells #[.slice none 0 0, .slice none 0 0, .slice none 0 0, .slice none 0 0] 35 (0, 0))] ++ A) w aj ak r14.Below ∧ ISl (Rp.int .i64) (bl [t2 Fl.bool 42 4 aY aW a8 bA d_252, .row 22 1 a9 aX ba bm, famE d_253.length (lay3 (Fl.int .i64) 26 3 ps255 aB d_253), .blk B38 (.cells #[.slice p60 r140.length c61, .slice p54 r152.length c55, .slice a9 aX ba, .slice aY aW a8] 35 (0, 0)), .blk B21 (.cells #[.slice av r14.R.length aw, .slice ax r14.L.length ay, .slice am r14.J.length ao, .slice az r14.H.length aA, .slice aj r14.Below.length ak] 29 (0, 0)), .blk B2 (.cells #[.slice none 0 0, .slice none 0 0, .slice none 0 0, .slice none 0 0] 35 (0, 0))] ++ A) w p60 c61 r140 ∧ ISl (Rp.int .i64) (bl [t2 Fl.bool 42 4 aY aW a8 bA d_252, .row 22 1 a9 aX ba bm, famE d_253.length (lay3 (Fl.int .i64) 26 3 ps255 aB d_253), .blk B38 (.cells #[.slice p60 r140.length c61, .slice p54 r152.length c55, .slice a9 aX ba, .slice aY aW a8] 35 (0, 0)), .blk B21 (.cells #[.slice av r14.R.length aw, .slice ax r14.L.length ay, .slice am r14.J.length ao, .slice az r14.H.length aA, .slice aj r14.Below.length ak] 29 (0, 0)), .blk B2 (.cells #[.slice none 0 0, .slice none 0 0, .slice none 0 0, .slice none 0 0] 35 (0, 0))] ++ A) w p54 c55 r152 ∧ Fr (bl []) w0 (bl [t2 Fl.bool 42 4 aY aW a8 bA d_252, .row 22 1 a9 aX ba bm, famE d_253.length (lay3 (Fl.int .i64) 26 3 ps255 aB d_253), .blk B38 (.cells #[.slice p60 r140.length c61, .slice p54 r152.length c55, .slice a9 aX ba, .slice aY aW a8] 35 (0, 0)), .blk B21 (.cells #[.slice av r14.R.length aw, .slice ax r14.L.length ay, .slice am r14.J.length ao, .slice az r14.H.length aA, .slice aj r14.Below.length ak] 29 (0, 0)), .blk B2 (.cells #[.slice none 0 0, .slice none 0 0, .slice none 0 0, .slice none 0 0] 35 (0, 0))]) w) H ⟨jk, ps180, jl, ⟨rfl, rfl, rfl, rfl, rfl, rfl, rfl, rfl, trivial⟩, hO, hF182, ai, ad, ae, ab, af, aa, ag, ah, hB⟩ ?_
  intro X3
  refine prE fun k3_251 => prE fun d_252 => fun d_253 => ?_
  intro H hX3 σ AW
  refine exE fun bm => exE fun ps255 => exE fun aB => andE fun hag => andE fun hO => andE fun hF257 => andE fun ai => andE fun ad => andE fun ae => andE fun ab => andE fun af => andE fun aa => andE fun ag => andE fun ah => fun hB => ?_
  dsimp only at H
  refine Go1.keep [(0, .slice bn a0.length bo), (1, .int .i64 a1), (4, .pointer (some ⟨B2, 0, none⟩)), (7, .pointer (some ⟨B21, 0, none⟩)), (8, .pointer (some ⟨B38, 0, none⟩)), (106, .slice am r14.J.length ao), (107, .int .i64 (r14.J.length : Int)), (108, .int .i64 (k3_251 : Int))] hag ?_
  refine Go1.seq ?_
  refine Go1.region ?_
  by_cases bG : (k3_251 : Int) < (r14.J.length : Int)
  ·replace H := ifp bG H
   refine GoR.op ((fun w => opB (J0s rfl rfl w) (decide_eq_true bG)) _) rfl rfl ?_
   refine GoR.nil ?_
   refine Go1.seq ?_
   refine Go1.condT rfl rfl ?_
   refine Go1.skip ?_
   refine Go1.seq ?_
   refine Go1.block ?_
   refine Go1.seq ?_
   refine Go1.region ?_
   refine GoR.op ((J00 rfl) _) rfl rfl ?_
   obtain ⟨qk, H⟩ := H
   obtain ⟨ql, H⟩ := H
   refine GoR.op ((J01 Try.underlying26 ti3 rfl rfl qk ql (ab.some_ qk ql)) _) rfl rfl ?_
   refine GoR.op ((ldInt ab qk ql Try.underlying3 rfl rfl) _ (Same.refl _)) rfl rfl ?_
   refine GoR.op ((J04 rfl) _) rfl rfl ?_
   refine GoR.op ((J04 rfl) _) rfl rfl ?_
   refine GoR.nil ?_
   refine Go1.seq ?_
   refine Go1.region ?_
   refine GoR.op ((J00 rfl) _) rfl rfl ?_
   refine GoR.op ((J00 rfl) _) rfl rfl ?_
   by_cases oJ : (ix r14.J (k3_251 : Int)) = a1
   ·replace H := ifp oJ H
    refine GoR.op ((fun w => opB (J15 rfl rfl w) (decide_eq_true oJ)) _) rfl rfl ?_
    refine GoR.nil ?_
    refine Go1.condT rfl rfl ?_
    refine Go1.seq ?_
    refine Go1.drawS 0 [(0, .pure), (1, .stable), (2, .pure), (3, .stable), (4, .pure), (5, .pure), (6, .stable), (7, .loud), (8, .pure), (9, .pure), (10, .pure), (11, .pure), (12, .pure)] mixed (by kernel_rfl) ?_
    intro AX vE
    have jE := Stp.same hO vE
    replace hO := jE.own
    replace ai := ai.ch jE.ch
    replace ad := ad.ch jE.ch
    replace ae := ae.ch jE.ch
    replace ab := ab.ch jE.ch
    replace af := af.ch jE.ch
    replace aa := aa.ch jE.ch
    replace ag := ag.ch jE.ch
    replace ah := ah.ch jE.ch
    replace hB := hB.trans jE.fr
    refine GoQ.pure rfl (J03 Try.underlying35 rfl ti26 rfl (by decide)) rfl rfl ?_
    refine GoQ.stable rfl (oblk (i := 0) 3 hO rfl rfl Try.underlying26 rfl rfl) rfl rfl ?_
    refine GoQ.pure rfl (J03 Try.underlying29 rfl ti26 rfl (by decide)) rfl rfl ?_
    refine GoQ.stable rfl (oblk (i := 0) 4 hO rfl rfl Try.underlying26 rfl rfl) rfl rfl ?_
    refine GoQ.pure rfl (J00 rfl) rfl rfl ?_
    obtain ⟨qm, H⟩ := H
    obtain ⟨qn, H⟩ := H
    refine GoQ.pure rfl (J01 Try.underlying26 ti3 rfl rfl qm qn (ad.some_ qm qn)) rfl rfl ?_
    refine GoQ.stable rfl (ldInt ad qm qn Try.underlying3 rfl rfl) rfl rfl ?_
    refine GoQ.call rfl (J05 body36 rfl (J0z hO.lt ag H)) (fun v w hr => by obtain ⟨_, _, _, hs, _⟩ := hr; assumption) rfl rfl ?_
    rintro AY A4 ⟨r267, r268, rfl, vF, H⟩
    have jF := Stp.same hO vF
    replace hO := jF.own
    replace ai := ai.ch jF.ch
    replace ad := ad.ch jF.ch
    replace ae := ae.ch jF.ch
    replace ab := ab.ch jF.ch
    replace af := af.ch jF.ch
    replace aa := aa.ch jF.ch
    replace ag := ag.ch jF.ch
    replace ah := ah.ch jF.ch
    replace hB := hB.trans jF.fr
    refine GoQ.pure rfl (J00 rfl) rfl rfl ?_
    refine GoQ.pure rfl (J25 rfl rfl) rfl rfl ?_
    refine GoQ.pure rfl (J25 rfl rfl) rfl rfl ?_
    refine GoQ.pure rfl (J04 rfl) rfl rfl ?_
    refine GoQ.pure rfl (J04 rfl) rfl rfl ?_
    refine GoQ.nil ?_
    refine Go1.seq ?_
    refine Go1.cut [(0, .slice bn a0.length bo), (1, .int .i64 a1), (4, .pointer (some ⟨B2, 0, none⟩)), (7, .pointer (some ⟨B21, 0, none⟩)), (8, .pointer (some ⟨B38, 0, none⟩)), (11, .int .i64 (k3_251 : Int)), (13, .int .i64 r267), (106, .slice am r14.J.length ao), (107, .int .i64 (r14.J.length : Int)), (108, .int .i64 (k3_251 : Int))] ⟨rfl, rfl, rfl, rfl, rfl, rfl, rfl, rfl, rfl, rfl, trivial⟩ ?_
    intro σ _
    refine Go1.drawS 0 [(0, .pure), (1, .stable), (2, .pure), (3, .stable), (4, .pure), (5, .pure), (6, .stable), (7, .loud), (8, .pure), (9, .pure), (10, .pure), (11, .pure), (12, .pure)] mixed (by kernel_rfl) ?_
    intro A5 vG
    have jG := Stp.same hO vG
    replace hO := jG.own
    replace ai := ai.ch jG.ch
    replace ad := ad.ch jG.ch
    replace ae := ae.ch jG.ch
    replace ab := ab.ch jG.ch
    replace af := af.ch jG.ch
    replace aa := aa.ch jG.ch
    replace ag := ag.ch jG.ch
    replace ah := ah.ch jG.ch
    replace hB := hB.trans jG.fr
    refine GoQ.pure rfl (J03 Try.underlying35 rfl ti26 rfl (by decide)) rfl rfl ?_
    refine GoQ.stable rfl (oblk (i := 1) 3 hO rfl rfl Try.underlying26 rfl rfl) rfl rfl ?_
    refine GoQ.pure rfl (J03 Try.underlying29 rfl ti26 rfl (by decide)) rfl rfl ?_
    refine GoQ.stable rfl (oblk (i := 1) 4 hO rfl rfl Try.underlying26 rfl rfl) rfl rfl ?_
    refine GoQ.pure rfl (J00 rfl) rfl rfl ?_
    obtain ⟨qo, H⟩ := H
    obtain ⟨qr, H⟩ := H
    refine GoQ.pure rfl (J01 Try.underlying26 ti3 rfl rfl qo qr (ae.some_ qo qr)) rfl rfl ?_
    refine GoQ.stable rfl (ldInt ae qo qr Try.underlying3 rfl rfl) rfl rfl ?_
    refine GoQ.call rfl (J05 body36 rfl (J0z hO.lt ah H)) (fun v w hr => by obtain ⟨_, _, _, hs, _⟩ := hr; assumption) rfl rfl ?_
    rintro A6 A7 ⟨r279, r280, rfl, vH, H⟩
    have jH := Stp.same hO vH
    replace hO := jH.own
    replace ai := ai.ch jH.ch
    replace ad := ad.ch jH.ch
    replace ae := ae.ch jH.ch
    replace ab := ab.ch jH.ch
    replace af := af.ch jH.ch
    replace aa := aa.ch jH.ch
    replace ag := ag.ch jH.ch
    replace ah := ah.ch jH.ch
    replace hB := hB.trans jH.fr
    refine GoQ.pure rfl (J00 rfl) rfl rfl ?_
    refine GoQ.pure rfl (J25 rfl rfl) rfl rfl ?_
    refine GoQ.pure rfl (J25 rfl rfl) rfl rfl ?_
    refine GoQ.pure rfl (J04 rfl) rfl rfl ?_
    refine GoQ.pure rfl (J04 rfl) rfl rfl ?_
    refine GoQ.nil ?_
    refine Go1.seq ?_
    refine Go1.drawT (ok := fun _ => True) Same.tr [16, 18] 19 (.qp 0 (.qp 2 (.qp 5 (.qp 6 (.qs 7 (.qp 8 (.qp 9 (.qs 10 (.qp 11 (.qp 12 (.qs 13 (.qp 14 (.alt 1 (.qp 3 (.alt 4 (.alt 15 (.alt 16 (.qp 17 (.alt 18 .nil .fin)) .fin) .fin) (.alt 15 (.alt 4 (.alt 16 (.qp 17 (.alt 18 .nil .fin)) .fin) (.alt 16 (.alt 4 (.qp 17 (.alt 18 .nil .fin)) .fin) .fin)) .fin))) (.alt 15 (.alt 1 (.qp 3 (.alt 4 (.alt 16 (.qp 17 (.alt 18 .nil .fin)) .fin) (.alt 16 (.alt 4 (.qp 17 (.alt 18 .nil .fin)) .fin) .fin))) (.alt 16 (.alt 1 (.qp 3 (.alt 4 (.qp 17 (.alt 18 .nil .fin)) .fin)) .fin) .fin)) .fin)))))))))))))) mixed (by kernel_rfl) ?_
    intro A8 vI
    have jI := Stp.same hO vI
    replace hO := jI.own
    replace ai := ai.ch jI.ch
    replace ad := ad.ch jI.ch
    replace ae := ae.ch jI.ch
    replace ab := ab.ch jI.ch
    replace af := af.ch jI.ch
    replace aa := aa.ch jI.ch
    replace ag := ag.ch jI.ch
    replace ah := ah.ch jI.ch
    replace hB := hB.trans jI.fr
    refine GoT.pure rfl (J03 Try.underlying35 rfl ti33 rfl (by decide)) rfl rfl ?_
    refine GoT.pure rfl (J00 rfl) rfl rfl ?_
    refine GoT.pure rfl (J00 rfl) rfl rfl ?_
    refine GoT.pure rfl (J03 Try.underlying35 rfl ti33 rfl (by decide)) rfl rfl ?_
    refine GoT.stable rfl (oblk (i := 2) 3 hO rfl rfl Try.underlying33 rfl rfl) rfl rfl ?_
    refine GoT.pure rfl (J00 rfl) rfl rfl ?_
    obtain ⟨bM, H⟩ := H
    obtain ⟨bN, H⟩ := H
    refine GoT.pure rfl (J01 Try.underlying33 ti22 rfl rfl bM (ltn (t3neqF 1 hO rfl hF257) bN) (t3someF 1 hO rfl hF257 bM bN)) rfl rfl ?_
    refine GoT.stable rfl (t3headF 1 hO rfl hF257 bM bN Try.underlying22 rfl rfl) rfl rfl ?_
    have iJ := Stp.front 2 hO rfl
    dsimp only [eS, eZ] at iJ
    replace hO := iJ.own
    replace ai := ai.ch iJ.ch
    replace ad := ad.ch iJ.ch
    replace ae := ae.ch iJ.ch
    replace ab := ab.ch iJ.ch
    replace af := af.ch iJ.ch
    replace aa := aa.ch iJ.ch
    replace ag := ag.ch iJ.ch
    replace ah := ah.ch iJ.ch
    replace hB := hB.trans iJ.fr
    have jJ := t3take (hf := (Fl.int .i64)) hO bM bN
    replace hO := jJ.own
    replace ai := ai.ch jJ.ch
    replace ad := ad.ch jJ.ch
    replace ae := ae.ch jJ.ch
    replace ab := ab.ch jJ.ch
    replace af := af.ch jJ.ch
    replace aa := aa.ch jJ.ch
    replace ag := ag.ch jJ.ch
    replace ah := ah.ch jJ.ch
    replace hB := hB.trans jJ.fr
    refine GoT.pure rfl (J00 rfl) rfl rfl ?_
    obtain ⟨lj, H⟩ := H
    obtain ⟨lk, H⟩ := H
    refine GoT.pure rfl (J01 Try.underlying22 ti26 rfl rfl lj (ltn (t2neq 0 hO rfl) lk) (t2some 0 hO rfl lj lk)) rfl rfl ?_
    refine GoT.stable rfl (t2head 0 hO rfl lj lk Try.underlying26 rfl rfl) rfl rfl ?_
    refine GoT.pure rfl (J00 rfl) rfl rfl ?_
    refine GoT.both ?_ ?_
    ·skip
     replace H := H.1
     refine GoT.step rfl ((oblk (i := 2) 4 hO rfl rfl Try.underlying33 rfl rfl) _ (Same.refl _)) (Same.refl _) rfl rfl ?_
     obtain ⟨n9, H⟩ := H
     obtain ⟨oc, H⟩ := H
     refine GoT.pure rfl (J01 Try.underlying33 ti22 rfl rfl n9 (ltn (t3neqF 3 hO rfl hF257) oc) (t3someF 3 hO rfl hF257 n9 oc)) rfl rfl ?_
     refine GoT.both ?_ ?_
     ·skip
      skip
      refine GoT.step rfl ((t3headF 3 hO rfl hF257 n9 oc Try.underlying22 rfl rfl) _ (Same.refl _)) (Same.refl _) rfl rfl ?_
      skip
      have hobt := J2O (r := Rp.int .i64) (n := 1) (parts := [(0, .int .i64 (k3_251 : Int))]) (vs := [.int .i64 (k3_251 : Int)]) (xs := [(k3_251 : Int)]) rfl Try.underlying26 ti3 hO (by decide) (by kernel_rfl) (Els.cons rfl rfl (Els.nil _ _ _) (by simp [mx])) rfl
      obtain ⟨A9, yk, jK, mG, vJ, tO⟩ := hobt
      refine GoT.step rfl (tO rfl) vJ rfl rfl ?_
      replace hO := jK.own
      replace ai := ai.ch jK.ch
      replace ad := ad.ch jK.ch
      replace ae := ae.ch jK.ch
      replace ab := ab.ch jK.ch
      replace af := af.ch jK.ch
      replace aa := aa.ch jK.ch
      replace ag := ag.ch jK.ch
      replace ah := ah.ch jK.ch
      replace hB := hB.trans jK.fr
      skip
      have fx := Stp.front 1 hO rfl
      dsimp only [eS, eZ] at fx
      replace mG := mG.ch fx.ch
      replace hO := fx.own
      replace ai := ai.ch fx.ch
      replace ad := ad.ch fx.ch
      replace ae := ae.ch fx.ch
      replace ab := ab.ch fx.ch
      replace af := af.ch fx.ch
      replace aa := aa.ch fx.ch
      replace ag := ag.ch fx.ch
      replace ah := ah.ch fx.ch
      replace hB := hB.trans fx.fr
      have hobt := t2take (hf := (Fl.int .i64)) hO lj lk
      obtain ⟨vK, iK, vL⟩ := hobt
      replace mG := mG.ch iK.ch
      replace hO := iK.own
      replace ai := ai.ch iK.ch
      replace ad := ad.ch iK.ch
      replace ae := ae.ch iK.ch
      replace ab := ab.ch iK.ch
      replace af := af.ch iK.ch
      replace aa := aa.ch iK.ch
      replace ag := ag.ch iK.ch
      replace ah := ah.ch iK.ch
      replace hB := hB.trans iK.fr
      have oK := vL (bl [.row 3 1 (((aB r267.toNat)) r279.toNat).1 ((ix ((ix d_253 r267)) r279).length) ((((aB r267.toNat)) r279.toNat).2) vK, t2h (Fl.int .i64) 26 3 (ps255 r267.toNat).1 ((ix d_253 r267).length) ((ps255 r267.toNat).2) ((aB r267.toNat)) ((ix d_253 r267)) r279.toNat, .row 3 1 yk 1 1 [.int .i64 (k3_251 : Int)], famH d_253.length (lay3 (Fl.int .i64) 26 3 ps255 aB d_253) r267.toNat, t2 Fl.bool 42 4 aY aW a8 bA d_252, .row 22 1 a9 aX ba bm, .blk B38 (.cells #[.slice p60 r140.length c61, .slice p54 r152.length c55, .slice a9 aX ba, .slice aY aW a8] 35 (0, 0)), .blk B21 (.cells #[.slice av r14.R.length aw, .slice ax r14.L.length ay, .slice am r14.J.length ao, .slice az r14.H.length aA, .slice aj r14.Below.length ak] 29 (0, 0)), .blk B2 (.cells #[.slice none 0 0, .slice none 0 0, .slice none 0 0, .slice none 0 0] 35 (0, 0))] ++ A)
      have hobt := freeze 2 hO rfl mG
      obtain ⟨hO1, kt, aC, vM⟩ := hobt
      dsimp only [eS, eZ] at hO1 kt aC
      replace ai := ai.ch kt
      replace ad := ad.ch kt
      replace ae := ae.ch kt
      replace ab := ab.ch kt
      replace af := af.ch kt
      replace aa := aa.ch kt
      replace ag := ag.ch kt
      replace ah := ah.ch kt
      replace oK := oK.ch kt
      replace hB := hB.trans (Owns.J0W _ _ 2)
      dsimp only [eS, eZ] at hB
      replace hO := hO1; clear hO1
      obtain ⟨ym, H⟩ := H
      have hobt := oapp Try.underlying26 ti3 rfl 0 hO rfl oK aC vM ym (by decide)
      obtain ⟨Ba, qt, qu, zC, fy, ma, tP⟩ := hobt
      dsimp only [sS, sZ] at fy ma
      refine GoT.stepX rfl (tP (by exact rfl) (by exact rfl)) rfl rfl rfl ?_
      replace hO := fy.own
      replace ai := ai.ch fy.ch
      replace ad := ad.ch fy.ch
      replace ae := ae.ch fy.ch
      replace ab := ab.ch fy.ch
      replace af := af.ch fy.ch
      replace aa := aa.ch fy.ch
      replace ag := ag.ch fy.ch
      replace ah := ah.ch fy.ch
      replace aC := aC.ch fy.ch
      replace hB := hB.trans fy.fr
      obtain ⟨qv, H⟩ := H
      obtain ⟨qw, H⟩ := H
      refine GoT.pure rfl (J01 Try.underlying22 ti26 rfl rfl qv (ltn (t2neqH 1 hO rfl) qw) (t2someH 1 hO rfl qv qw)) rfl rfl ?_
      skip
      have b7 := Stp.front 1 hO rfl
      dsimp only [eS, eZ] at b7
      replace ma := ma.ch b7.ch
      replace hO := b7.own
      replace ai := ai.ch b7.ch
      replace ad := ad.ch b7.ch
      replace ae := ae.ch b7.ch
      replace ab := ab.ch b7.ch
      replace af := af.ch b7.ch
      replace aa := aa.ch b7.ch
      replace ag := ag.ch b7.ch
      replace ah := ah.ch b7.ch
      replace aC := aC.ch b7.ch
      replace hB := hB.trans b7.fr
      have b8 := Stp.front 1 hO rfl
      dsimp only [eS, eZ] at b8
      replace ma := ma.ch b8.ch
      replace hO := b8.own
      replace ai := ai.ch b8.ch
      replace ad := ad.ch b8.ch
      replace ae := ae.ch b8.ch
      replace ab := ab.ch b8.ch
      replace af := af.ch b8.ch
      replace aa := aa.ch b8.ch
      replace ag := ag.ch b8.ch
      replace ah := ah.ch b8.ch
      replace aC := aC.ch b8.ch
      replace hB := hB.trans b8.fr
      have hobt := t2fix (hf := (Fl.int .i64)) hO ma qv qw rfl
      obtain ⟨Bb, iL, tQ⟩ := hobt
      refine GoT.stepX rfl (tQ Try.underlying26 rfl ti26 (by exact rfl) (by exact rfl)) rfl rfl rfl ?_
      replace hO := iL.own
      replace ai := ai.ch iL.ch
      replace ad := ad.ch iL.ch
      replace ae := ae.ch iL.ch
      replace ab := ab.ch iL.ch
      replace af := af.ch iL.ch
      replace aa := aa.ch iL.ch
      replace ag := ag.ch iL.ch
      replace ah := ah.ch iL.ch
      replace aC := aC.ch iL.ch
      replace hB := hB.trans iL.fr
      refine GoT.nil ?_
      refine Go1.cut [(0, .slice bn a0.length bo), (1, .int .i64 a1), (4, .pointer (some ⟨B2, 0, none⟩)), (7, .pointer (some ⟨B21, 0, none⟩)), (8, .pointer (some ⟨B38, 0, none⟩)), (11, .int .i64 (k3_251 : Int)), (13, .int .i64 r267), (15, .int .i64 r279), (106, .slice am r14.J.length ao), (107, .int .i64 (r14.J.length : Int)), (108, .int .i64 (k3_251 : Int))] ⟨rfl, rfl, rfl, rfl, rfl, rfl, rfl, rfl, rfl, rfl, rfl, trivial⟩ ?_
      intro σ _
      refine Go1.drawS 1 [(0, .pure), (1, .stable), (2, .pure), (3, .pure), (4, .stable), (5, .pure), (6, .pure), (7, .stable), (8, .pure), (9, .pure), (10, .stable), (11, .pure), (12, .pure), (13, .stable), (14, .pure), (15, .pure), (16, .pure), (17, .pure), (18, .stable), (19, .pure), (20, .pure), (21, .stable), (22, .pure), (23, .pure), (24, .pure), (25, .pure), (26, .last)] mixed (by kernel_rfl) ?_
      intro Bc vN
      have iM := Stp.same hO vN
      replace hO := iM.own
      replace ai := ai.ch iM.ch
      replace ad := ad.ch iM.ch
      replace ae := ae.ch iM.ch
      replace ab := ab.ch iM.ch
      replace af := af.ch iM.ch
      replace aa := aa.ch iM.ch
      replace ag := ag.ch iM.ch
      replace ah := ah.ch iM.ch
      replace aC := aC.ch iM.ch
      replace hB := hB.trans iM.fr
      refine GoQ.pure rfl (J03 Try.underlying35 rfl ti27 rfl (by decide)) rfl rfl ?_
      refine GoQ.stable rfl (oblk (i := 3) 4 hO rfl rfl Try.underlying27 rfl rfl) rfl rfl ?_
      refine GoQ.pure rfl (J00 rfl) rfl rfl ?_
      obtain ⟨lm, H⟩ := H
      obtain ⟨lA, H⟩ := H
      refine GoQ.pure rfl (J01 Try.underlying27 ti42 rfl rfl lm (ltn (t2neq 2 hO rfl) lA) (t2some 2 hO rfl lm lA)) rfl rfl ?_
      refine GoQ.stable rfl (t2head 2 hO rfl lm lA Try.underlying42 rfl rfl) rfl rfl ?_
      refine GoQ.pure rfl (J00 rfl) rfl rfl ?_
      refine GoQ.pure rfl (J03 Try.underlying35 rfl ti27 rfl (by decide)) rfl rfl ?_
      refine GoQ.stable rfl (oblk (i := 3) 4 hO rfl rfl Try.underlying27 rfl rfl) rfl rfl ?_
      refine GoQ.pure rfl (J00 rfl) rfl rfl ?_
      obtain ⟨m8, H⟩ := H
      obtain ⟨m9, H⟩ := H
      refine GoQ.pure rfl (J01 Try.underlying27 ti42 rfl rfl m8 (ltn (t2neq 2 hO rfl) m9) (t2some 2 hO rfl m8 m9)) rfl rfl ?_
      refine GoQ.stable rfl (t2head 2 hO rfl m8 m9 Try.underlying42 rfl rfl) rfl rfl ?_
      refine GoQ.pure rfl (J00 rfl) rfl rfl ?_
      obtain ⟨oL, H⟩ := H
      obtain ⟨oM, H⟩ := H
      refine GoQ.pure rfl (J01 Try.underlying42 ti4 rfl rfl oL oM (t2isome 2 hO rfl m8 m9 oL oM)) rfl rfl ?_
      by_cases oN : ix (ix d_252 r267) r279 = true
      ·replace H := ifp oN H
       refine GoQ.stable rfl (fun w hw => opB ((t2Bool 2 hO rfl m8 m9 oL oM Try.underlying4 rfl rfl) w hw) (oN)) rfl rfl ?_
       refine GoQ.pure rfl (J00 rfl) rfl rfl ?_
       refine GoQ.pass rfl rfl rfl ?_
       refine GoQ.pass rfl rfl rfl ?_
       refine GoQ.pass rfl rfl rfl ?_
       refine GoQ.pass rfl rfl rfl ?_
       refine GoQ.pass rfl rfl rfl ?_
       refine GoQ.pass rfl rfl rfl ?_
       refine GoQ.pass rfl rfl rfl ?_
       refine GoQ.pass rfl rfl rfl ?_
       refine GoQ.pass rfl rfl rfl ?_
       refine GoQ.pure rfl (J1t rfl rfl rfl) rfl rfl ?_
       obtain ⟨qz, H⟩ := H
       obtain ⟨qA, H⟩ := H
       refine GoQ.pure rfl (J01 Try.underlying42 ti4 rfl rfl qz qA (t2isome 2 hO rfl lm lA qz qA)) rfl rfl ?_
       have hobt := t2st (r := Rp.bool) (hf := Fl.bool) rfl 2 hO rfl lm lA qz qA (v := .bool true) (u := true) rfl rfl
       obtain ⟨Bd, fA, tR⟩ := hobt
       dsimp only [sS, sZ] at fA
       refine GoQ.last rfl (tR Try.underlying4 rfl ti4 (by exact rfl) (by exact rfl)) rfl rfl ?_
       replace hO := fA.own
       replace ai := ai.ch fA.ch
       replace ad := ad.ch fA.ch
       replace ae := ae.ch fA.ch
       replace ab := ab.ch fA.ch
       replace af := af.ch fA.ch
       replace aa := aa.ch fA.ch
       replace ag := ag.ch fA.ch
       replace ah := ah.ch fA.ch
       replace aC := aC.ch fA.ch
       replace hB := hB.trans fA.fr
       refine GoQ.nil ?_
       refine Go1.inBlock ?_
       refine Go1.cut [(0, .slice bn a0.length bo), (1, .int .i64 a1), (4, .pointer (some ⟨B2, 0, none⟩)), (7, .pointer (some ⟨B21, 0, none⟩)), (8, .pointer (some ⟨B38, 0, none⟩)), (106, .slice am r14.J.length ao), (107, .int .i64 (r14.J.length : Int)), (108, .int .i64 (k3_251 : Int))] ⟨rfl, rfl, rfl, rfl, rfl, rfl, rfl, rfl, trivial⟩ ?_
       intro σ _
       refine Go1.region ?_
       refine GoR.op ((J06 rfl rfl (wrap_i64 (natbd bG ab.bd))) _) rfl rfl ?_
       refine GoR.op ((J00 rfl) _) rfl rfl ?_
       refine GoR.nil ?_
       have fB := Stp.front 1 hO rfl
       dsimp only [eS, eZ] at fB
       replace hO := fB.own
       replace ai := ai.ch fB.ch
       replace ad := ad.ch fB.ch
       replace ae := ae.ch fB.ch
       replace ab := ab.ch fB.ch
       replace af := af.ch fB.ch
       replace aa := aa.ch fB.ch
       replace ag := ag.ch fB.ch
       replace ah := ah.ch fB.ch
       replace aC := aC.ch fB.ch
       replace hB := hB.trans fB.fr
       have fC := Stp.front 1 hO rfl
       dsimp only [eS, eZ] at fC
       replace hO := fC.own
       replace ai := ai.ch fC.ch
       replace ad := ad.ch fC.ch
       replace ae := ae.ch fC.ch
       replace ab := ab.ch fC.ch
       replace af := af.ch fC.ch
       replace aa := aa.ch fC.ch
       replace ag := ag.ch fC.ch
       replace ah := ah.ch fC.ch
       replace aC := aC.ch fC.ch
       replace hB := hB.trans fC.fr
       have hobt := t3backF (hf := (Fl.int .i64)) hO hF257 bM bN (by simp only [J02])
       obtain ⟨iN, hF348⟩ := hobt
       replace hO := iN.own
       replace ai := ai.ch iN.ch
       replace ad := ad.ch iN.ch
       replace ae := ae.ch iN.ch
       replace ab := ab.ch iN.ch
       replace af := af.ch iN.ch
       replace aa := aa.ch iN.ch
       replace ag := ag.ch iN.ch
       replace ah := ah.ch iN.ch
       replace aC := aC.ch iN.ch
       replace hB := hB.trans iN.fr
       have fD := Stp.front 5 hO rfl
       dsimp only [eS, eZ] at fD
       replace hO := fD.own
       replace ai := ai.ch fD.ch
       replace ad := ad.ch fD.ch
       replace ae := ae.ch fD.ch
       replace ab := ab.ch fD.ch
       replace af := af.ch fD.ch
       replace aa := aa.ch fD.ch
       replace ag := ag.ch fD.ch
       replace ah := ah.ch fD.ch
       replace aC := aC.ch fD.ch
       replace hB := hB.trans fD.fr
       have fE := Stp.front 5 hO rfl
       dsimp only [eS, eZ] at fE
       replace hO := fE.own
       replace ai := ai.ch fE.ch
       replace ad := ad.ch fE.ch
       replace ae := ae.ch fE.ch
       replace ab := ab.ch fE.ch
       replace af := af.ch fE.ch
       replace aa := aa.ch fE.ch
       replace ag := ag.ch fE.ch
       replace ah := ah.ch fE.ch
       replace aC := aC.ch fE.ch
       replace hB := hB.trans fE.fr
       have fF := Stp.front 5 hO rfl
       dsimp only [eS, eZ] at fF
       replace hO := fF.own
       replace ai := ai.ch fF.ch
       replace ad := ad.ch fF.ch
       replace ae := ae.ch fF.ch
       replace ab := ab.ch fF.ch
       replace af := af.ch fF.ch
       replace aa := aa.ch fF.ch
       replace ag := ag.ch fF.ch
       replace ah := ah.ch fF.ch
       replace aC := aC.ch fF.ch
       replace hB := hB.trans fF.fr
       have fG := Stp.front 3 hO rfl
       dsimp only [eS, eZ] at fG
       replace hO := fG.own
       replace ai := ai.ch fG.ch
       replace ad := ad.ch fG.ch
       replace ae := ae.ch fG.ch
       replace ab := ab.ch fG.ch
       replace af := af.ch fG.ch
       replace aa := aa.ch fG.ch
       replace ag := ag.ch fG.ch
       replace ah := ah.ch fG.ch
       replace aC := aC.ch fG.ch
       replace hB := hB.trans fG.fr
       have fH := Stp.front 5 hO rfl
       dsimp only [eS, eZ] at fH
       replace hO := fH.own
       replace ai := ai.ch fH.ch
       replace ad := ad.ch fH.ch
       replace ae := ae.ch fH.ch
       replace ab := ab.ch fH.ch
       replace af := af.ch fH.ch
       replace aa := aa.ch fH.ch
       replace ag := ag.ch fH.ch
       replace ah := ah.ch fH.ch
       replace aC := aC.ch fH.ch
       replace hB := hB.trans fH.fr
       have fI := Stp.front 5 hO rfl
       dsimp only [eS, eZ] at fI
       replace hO := fI.own
       replace ai := ai.ch fI.ch
       replace ad := ad.ch fI.ch
       replace ae := ae.ch fI.ch
       replace ab := ab.ch fI.ch
       replace af := af.ch fI.ch
       replace aa := aa.ch fI.ch
       replace ag := ag.ch fI.ch
       replace ah := ah.ch fI.ch
       replace aC := aC.ch fI.ch
       replace hB := hB.trans fI.fr
       exact hX3 _ H _ _ ⟨bm, ps255, (fun k => if k = r267.toNat then hup ((aB r267.toNat)) r279.toNat (qt, qu) else aB k), ⟨rfl, rfl, rfl, rfl, rfl, rfl, rfl, rfl, trivial⟩, hO, hF348, ai, ad, ae, ab, af, aa, ag, ah, hB⟩
      replace H := ifn oN H
      refine GoQ.stable rfl (fun w hw => opB ((t2Bool 2 hO rfl m8 m9 oL oM Try.underlying4 rfl rfl) w hw) (Bool.eq_false_iff.2 oN)) rfl rfl ?_
      refine GoQ.pure rfl (J00 rfl) rfl rfl ?_
      refine GoQ.pure rfl (J00 rfl) rfl rfl ?_
      refine GoQ.pure rfl (J00 rfl) rfl rfl ?_
      obtain ⟨qB, H⟩ := H
      obtain ⟨qC, H⟩ := H
      refine GoQ.pure rfl (J01 Try.underlying22 ti26 rfl rfl qB qC (ai.some_ qB qC)) rfl rfl ?_
      have hobt := ldSl ai qB qC
      obtain ⟨Be, Bf, bc, vO⟩ := hobt
      refine GoQ.stable rfl (vO Try.underlying26 rfl rfl) rfl rfl ?_
      refine GoQ.pure rfl (J00 rfl) rfl rfl ?_
      obtain ⟨qD, H⟩ := H
      obtain ⟨qE, H⟩ := H
      refine GoQ.pure rfl (J01 Try.underlying26 ti3 rfl rfl qD qE (bc.some_ qD qE)) rfl rfl ?_
      refine GoQ.stable rfl (ldInt bc qD qE Try.underlying3 rfl rfl) rfl rfl ?_
      refine GoQ.pure rfl (J00 rfl) rfl rfl ?_
      by_cases oO : (ix (ix a0 (k3_251 : Int)) (k3_251 : Int)) = (k3_251 : Int)
      ·replace H := ifp oO H
       refine GoQ.pure rfl (fun w => opB (J15 rfl rfl w) (decide_eq_true oO)) rfl rfl ?_
       refine GoQ.pure rfl (J0m rfl rfl rfl) rfl rfl ?_
       obtain ⟨qF, H⟩ := H
       obtain ⟨qG, H⟩ := H
       refine GoQ.pure rfl (J01 Try.underlying42 ti4 rfl rfl qF qG (t2isome 2 hO rfl lm lA qF qG)) rfl rfl ?_
       have hobt := t2st (r := Rp.bool) (hf := Fl.bool) rfl 2 hO rfl lm lA qF qG (v := .bool true) (u := true) rfl rfl
       obtain ⟨Bg, b9, tS⟩ := hobt
       dsimp only [sS, sZ] at b9
       refine GoQ.last rfl (tS Try.underlying4 rfl ti4 (by exact rfl) (by exact rfl)) rfl rfl ?_
       replace hO := b9.own
       replace ai := ai.ch b9.ch
       replace ad := ad.ch b9.ch
       replace ae := ae.ch b9.ch
       replace ab := ab.ch b9.ch
       replace af := af.ch b9.ch
       replace aa := aa.ch b9.ch
       replace ag := ag.ch b9.ch
       replace ah := ah.ch b9.ch
       replace aC := aC.ch b9.ch
       replace bc := bc.ch b9.ch
       replace hB := hB.trans b9.fr
       refine GoQ.nil ?_
       refine Go1.inBlock ?_
       refine Go1.region ?_
       refine GoR.op ((J06 rfl rfl (wrap_i64 (natbd bG ab.bd))) _) rfl rfl ?_
       refine GoR.op ((J00 rfl) _) rfl rfl ?_
       refine GoR.nil ?_
       have ca := Stp.front 1 hO rfl
       dsimp only [eS, eZ] at ca
       replace hO := ca.own
       replace ai := ai.ch ca.ch
       replace ad := ad.ch ca.ch
       replace ae := ae.ch ca.ch
       replace ab := ab.ch ca.ch
       replace af := af.ch ca.ch
       replace aa := aa.ch ca.ch
       replace ag := ag.ch ca.ch
       replace ah := ah.ch ca.ch
       replace aC := aC.ch ca.ch
       replace bc := bc.ch ca.ch
       replace hB := hB.trans ca.fr
       have cb := Stp.front 1 hO rfl
       dsimp only [eS, eZ] at cb
       replace hO := cb.own
       replace ai := ai.ch cb.ch
       replace ad := ad.ch cb.ch
       replace ae := ae.ch cb.ch
       replace ab := ab.ch cb.ch
       replace af := af.ch cb.ch
       replace aa := aa.ch cb.ch
       replace ag := ag.ch cb.ch
       replace ah := ah.ch cb.ch
       replace aC := aC.ch cb.ch
       replace bc := bc.ch cb.ch
       replace hB := hB.trans cb.fr
       have hobt := t3backF (hf := (Fl.int .i64)) hO hF257 bM bN (by simp only [J02])
       obtain ⟨fJ, hF372⟩ := hobt
       replace hO := fJ.own
       replace ai := ai.ch fJ.ch
       replace ad := ad.ch fJ.ch
       replace ae := ae.ch fJ.ch
       replace ab := ab.ch fJ.ch
       replace af := af.ch fJ.ch
       replace aa := aa.ch fJ.ch
       replace ag := ag.ch fJ.ch
       replace ah := ah.ch fJ.ch
       replace aC := aC.ch fJ.ch
       replace bc := bc.ch fJ.ch
       replace hB := hB.trans fJ.fr
       have cd := Stp.front 5 hO rfl
       dsimp only [eS, eZ] at cd
       replace hO := cd.own
       replace ai := ai.ch cd.ch
       replace ad := ad.ch cd.ch
       replace ae := ae.ch cd.ch
       replace ab := ab.ch cd.ch
       replace af := af.ch cd.ch
       replace aa := aa.ch cd.ch
       replace ag := ag.ch cd.ch
       replace ah := ah.ch cd.ch
       replace aC := aC.ch cd.ch
       replace bc := bc.ch cd.ch
       replace hB := hB.trans cd.fr
       have ce := Stp.front 5 hO rfl
       dsimp only [eS, eZ] at ce
       replace hO := ce.own
       replace ai := ai.ch ce.ch
       replace ad := ad.ch ce.ch
       replace ae := ae.ch ce.ch
       replace ab := ab.ch ce.ch
       replace af := af.ch ce.ch
       replace aa := aa.ch ce.ch
       replace ag := ag.ch ce.ch
       replace ah := ah.ch ce.ch
       replace aC := aC.ch ce.ch
       replace bc := bc.ch ce.ch
       replace hB := hB.trans ce.fr
       have cf := Stp.front 5 hO rfl
       dsimp only [eS, eZ] at cf
       replace hO := cf.own
       replace ai := ai.ch cf.ch
       replace ad := ad.ch cf.ch
       replace ae := ae.ch cf.ch
       replace ab := ab.ch cf.ch
       replace af := af.ch cf.ch
       replace aa := aa.ch cf.ch
       replace ag := ag.ch cf.ch
       replace ah := ah.ch cf.ch
       replace aC := aC.ch cf.ch
       replace bc := bc.ch cf.ch
       replace hB := hB.trans cf.fr
       have cg := Stp.front 3 hO rfl
       dsimp only [eS, eZ] at cg
       replace hO := cg.own
       replace ai := ai.ch cg.ch
       replace ad := ad.ch cg.ch
       replace ae := ae.ch cg.ch
       replace ab := ab.ch cg.ch
       replace af := af.ch cg.ch
       replace aa := aa.ch cg.ch
       replace ag := ag.ch cg.ch
       replace ah := ah.ch cg.ch
       replace aC := aC.ch cg.ch
       replace bc := bc.ch cg.ch
       replace hB := hB.trans cg.fr
       have ci := Stp.front 5 hO rfl
       dsimp only [eS, eZ] at ci
       replace hO := ci.own
       replace ai := ai.ch ci.ch
       replace ad := ad.ch ci.ch
       replace ae := ae.ch ci.ch
       replace ab := ab.ch ci.ch
       replace af := af.ch ci.ch
       replace aa := aa.ch ci.ch
       replace ag := ag.ch ci.ch
       replace ah := ah.ch ci.ch
       replace aC := aC.ch ci.ch
       replace bc := bc.ch ci.ch
       replace hB := hB.trans ci.fr
       have cj := Stp.front 5 hO rfl
       dsimp only [eS, eZ] at cj
       replace hO := cj.own
       replace ai := ai.ch cj.ch
       replace ad := ad.ch cj.ch
       replace ae := ae.ch cj.ch
       replace ab := ab.ch cj.ch
       replace af := af.ch cj.ch
       replace aa := aa.ch cj.ch
       replace ag := ag.ch cj.ch
       replace ah := ah.ch cj.ch
       replace aC := aC.ch cj.ch
       replace bc := bc.ch cj.ch
       replace hB := hB.trans cj.fr
       exact hX3 _ H _ _ ⟨bm, ps255, (fun k => if k = r267.toNat then hup ((aB r267.toNat)) r279.toNat (qt, qu) else aB k), ⟨rfl, rfl, rfl, rfl, rfl, rfl, rfl, rfl, trivial⟩, hO, hF372, ai, ad, ae, ab, af, aa, ag, ah, hB⟩
      replace H := ifn oO H
      refine GoQ.pure rfl (fun w => opB (J15 rfl rfl w) (decide_eq_false oO)) rfl rfl ?_
      refine GoQ.pure rfl (J0m rfl rfl rfl) rfl rfl ?_
      obtain ⟨qH, H⟩ := H
      obtain ⟨qI, H⟩ := H
      refine GoQ.pure rfl (J01 Try.underlying42 ti4 rfl rfl qH qI (t2isome 2 hO rfl lm lA qH qI)) rfl rfl ?_
      have hobt := t2st (r := Rp.bool) (hf := Fl.bool) rfl 2 hO rfl lm lA qH qI (v := .bool false) (u := false) rfl rfl
      obtain ⟨Bi, ck, tT⟩ := hobt
      dsimp only [sS, sZ] at ck
      refine GoQ.last rfl (tT Try.underlying4 rfl ti4 (by exact rfl) (by exact rfl)) rfl rfl ?_
      replace hO := ck.own
      replace ai := ai.ch ck.ch
      replace ad := ad.ch ck.ch
      replace ae := ae.ch ck.ch
      replace ab := ab.ch ck.ch
      replace af := af.ch ck.ch
      replace aa := aa.ch ck.ch
      replace ag := ag.ch ck.ch
      replace ah := ah.ch ck.ch
      replace aC := aC.ch ck.ch
      replace bc := bc.ch ck.ch
      replace hB := hB.trans ck.fr
      refine GoQ.nil ?_
      refine Go1.inBlock ?_
      refine Go1.cut [(0, .slice bn a0.length bo), (1, .int .i64 a1), (4, .pointer (some ⟨B2, 0, none⟩)), (7, .pointer (some ⟨B21, 0, none⟩)), (8, .pointer (some ⟨B38, 0, none⟩)), (106, .slice am r14.J.length ao), (107, .int .i64 (r14.J.length : Int)), (108, .int .i64 (k3_251 : Int))] ⟨rfl, rfl, rfl, rfl, rfl, rfl, rfl, rfl, trivial⟩ ?_
      intro σ _
      refine Go1.region ?_
      refine GoR.op ((J06 rfl rfl (wrap_i64 (natbd bG ab.bd))) _) rfl rfl ?_
      refine GoR.op ((J00 rfl) _) rfl rfl ?_
      refine GoR.nil ?_
      have co := Stp.front 1 hO rfl
      dsimp only [eS, eZ] at co
      replace hO := co.own
      replace ai := ai.ch co.ch
      replace ad := ad.ch co.ch
      replace ae := ae.ch co.ch
      replace ab := ab.ch co.ch
      replace af := af.ch co.ch
      replace aa := aa.ch co.ch
      replace ag := ag.ch co.ch
      replace ah := ah.ch co.ch
      replace aC := aC.ch co.ch
      replace bc := bc.ch co.ch
      replace hB := hB.trans co.fr
      have cp := Stp.front 1 hO rfl
      dsimp only [eS, eZ] at cp
      replace hO := cp.own
      replace ai := ai.ch cp.ch
      replace ad := ad.ch cp.ch
      replace ae := ae.ch cp.ch
      replace ab := ab.ch cp.ch
      replace af := af.ch cp.ch
      replace aa := aa.ch cp.ch
      replace ag := ag.ch cp.ch
      replace ah := ah.ch cp.ch
      replace aC := aC.ch cp.ch
      replace bc := bc.ch cp.ch
      replace hB := hB.trans cp.fr
      have hobt := t3backF (hf := (Fl.int .i64)) hO hF257 bM bN (by simp only [J02])
      obtain ⟨fK, hF387⟩ := hobt
      replace hO := fK.own
      replace ai := ai.ch fK.ch
      replace ad := ad.ch fK.ch
      replace ae := ae.ch fK.ch
      replace ab := ab.ch fK.ch
      replace af := af.ch fK.ch
      replace aa := aa.ch fK.ch
      replace ag := ag.ch fK.ch
      replace ah := ah.ch fK.ch
      replace aC := aC.ch fK.ch
      replace bc := bc.ch fK.ch
      replace hB := hB.trans fK.fr
      have cq := Stp.front 5 hO rfl
      dsimp only [eS, eZ] at cq
      replace hO := cq.own
      replace ai := ai.ch cq.ch
      replace ad := ad.ch cq.ch
      replace ae := ae.ch cq.ch
      replace ab := ab.ch cq.ch
      replace af := af.ch cq.ch
      replace aa := aa.ch cq.ch
      replace ag := ag.ch cq.ch
      replace ah := ah.ch cq.ch
      replace aC := aC.ch cq.ch
      replace bc := bc.ch cq.ch
      replace hB := hB.trans cq.fr
      have cv := Stp.front 5 hO rfl
      dsimp only [eS, eZ] at cv
      replace hO := cv.own
      replace ai := ai.ch cv.ch
      replace ad := ad.ch cv.ch
      replace ae := ae.ch cv.ch
      replace ab := ab.ch cv.ch
      replace af := af.ch cv.ch
      replace aa := aa.ch cv.ch
      replace ag := ag.ch cv.ch
      replace ah := ah.ch cv.ch
      replace aC := aC.ch cv.ch
      replace bc := bc.ch cv.ch
      replace hB := hB.trans cv.fr
      have cw := Stp.front 5 hO rfl
      dsimp only [eS, eZ] at cw
      replace hO := cw.own
      replace ai := ai.ch cw.ch
      replace ad := ad.ch cw.ch
      replace ae := ae.ch cw.ch
      replace ab := ab.ch cw.ch
      replace af := af.ch cw.ch
      replace aa := aa.ch cw.ch
      replace ag := ag.ch cw.ch
      replace ah := ah.ch cw.ch
      replace aC := aC.ch cw.ch
      replace bc := bc.ch cw.ch
      replace hB := hB.trans cw.fr
      have cx := Stp.front 3 hO rfl
      dsimp only [eS, eZ] at cx
      replace hO := cx.own
      replace ai := ai.ch cx.ch
      replace ad := ad.ch cx.ch
      replace ae := ae.ch cx.ch
      replace ab := ab.ch cx.ch
      replace af := af.ch cx.ch
      replace aa := aa.ch cx.ch
      replace ag := ag.ch cx.ch
      replace ah := ah.ch cx.ch
      replace aC := aC.ch cx.ch
      replace bc := bc.ch cx.ch
      replace hB := hB.trans cx.fr
      have cy := Stp.front 5 hO rfl
      dsimp only [eS, eZ] at cy
      replace hO := cy.own
      replace ai := ai.ch cy.ch
      replace ad := ad.ch cy.ch
      replace ae := ae.ch cy.ch
      replace ab := ab.ch cy.ch
      replace af := af.ch cy.ch
      replace aa := aa.ch cy.ch
      replace ag := ag.ch cy.ch
      replace ah := ah.ch cy.ch
      replace aC := aC.ch cy.ch
      replace bc := bc.ch cy.ch
      replace hB := hB.trans cy.fr
      have cz := Stp.front 5 hO rfl
      dsimp only [eS, eZ] at cz
      replace hO := cz.own
      replace ai := ai.ch cz.ch
      replace ad := ad.ch cz.ch
      replace ae := ae.ch cz.ch
      replace ab := ab.ch cz.ch
      replace af := af.ch cz.ch
      replace aa := aa.ch cz.ch
      replace ag := ag.ch cz.ch
      replace ah := ah.ch cz.ch
      replace aC := aC.ch cz.ch
      replace bc := bc.ch cz.ch
      replace hB := hB.trans cz.fr
      exact hX3 _ H _ _ ⟨bm, ps255, (fun k => if k = r267.toNat then hup ((aB r267.toNat)) r279.toNat (qt, qu) else aB k), ⟨rfl, rfl, rfl, rfl, rfl, rfl, rfl, rfl, trivial⟩, hO, hF387, ai, ad, ae, ab, af, aa, ag, ah, hB⟩
     skip
     have hobt := J2O (r := Rp.int .i64) (n := 1) (parts := [(0, .int .i64 (k3_251 : Int))]) (vs := [.int .i64 (k3_251 : Int)]) (xs := [(k3_251 : Int)]) rfl Try.underlying26 ti3 hO (by decide) (by kernel_rfl) (Els.cons rfl rfl (Els.nil _ _ _) (by simp [mx])) rfl
     obtain ⟨Bj, tU, jL, ku, vP, tV⟩ := hobt
     refine GoT.step rfl (tV rfl) vP rfl rfl ?_
     replace hO := jL.own
     replace ai := ai.ch jL.ch
     replace ad := ad.ch jL.ch
     replace ae := ae.ch jL.ch
     replace ab := ab.ch jL.ch
     replace af := af.ch jL.ch
     replace aa := aa.ch jL.ch
     replace ag := ag.ch jL.ch
     replace ah := ah.ch jL.ch
     replace hB := hB.trans jL.fr
     refine GoT.both ?_ ?_
     ·skip
      skip
      refine GoT.step rfl ((t3headF 4 hO rfl hF257 n9 oc Try.underlying22 rfl rfl) _ (Same.refl _)) (Same.refl _) rfl rfl ?_
      skip
      have fL := Stp.front 1 hO rfl
      dsimp only [eS, eZ] at fL
      replace ku := ku.ch fL.ch
      replace hO := fL.own
      replace ai := ai.ch fL.ch
      replace ad := ad.ch fL.ch
      replace ae := ae.ch fL.ch
      replace ab := ab.ch fL.ch
      replace af := af.ch fL.ch
      replace aa := aa.ch fL.ch
      replace ag := ag.ch fL.ch
      replace ah := ah.ch fL.ch
      replace hB := hB.trans fL.fr
      have hobt := t2take (hf := (Fl.int .i64)) hO lj lk
      obtain ⟨vQ, iO, vR⟩ := hobt
      replace ku := ku.ch iO.ch
      replace hO := iO.own
      replace ai := ai.ch iO.ch
      replace ad := ad.ch iO.ch
      replace ae := ae.ch iO.ch
      replace ab := ab.ch iO.ch
      replace af := af.ch iO.ch
      replace aa := aa.ch iO.ch
      replace ag := ag.ch iO.ch
      replace ah := ah.ch iO.ch
      replace hB := hB.trans iO.fr
      have oP := vR (bl [.row 3 1 (((aB r267.toNat)) r279.toNat).1 ((ix ((ix d_253 r267)) r279).length) ((((aB r267.toNat)) r279.toNat).2) vQ, t2h (Fl.int .i64) 26 3 (ps255 r267.toNat).1 ((ix d_253 r267).length) ((ps255 r267.toNat).2) ((aB r267.toNat)) ((ix d_253 r267)) r279.toNat, .row 3 1 tU 1 1 [.int .i64 (k3_251 : Int)], famH d_253.length (lay3 (Fl.int .i64) 26 3 ps255 aB d_253) r267.toNat, t2 Fl.bool 42 4 aY aW a8 bA d_252, .row 22 1 a9 aX ba bm, .blk B38 (.cells #[.slice p60 r140.length c61, .slice p54 r152.length c55, .slice a9 aX ba, .slice aY aW a8] 35 (0, 0)), .blk B21 (.cells #[.slice av r14.R.length aw, .slice ax r14.L.length ay, .slice am r14.J.length ao, .slice az r14.H.length aA, .slice aj r14.Below.length ak] 29 (0, 0)), .blk B2 (.cells #[.slice none 0 0, .slice none 0 0, .slice none 0 0, .slice none 0 0] 35 (0, 0))] ++ A)
      have hobt := freeze 2 hO rfl ku
      obtain ⟨hO1, kw, aD, vS⟩ := hobt
      dsimp only [eS, eZ] at hO1 kw aD
      replace ai := ai.ch kw
      replace ad := ad.ch kw
      replace ae := ae.ch kw
      replace ab := ab.ch kw
      replace af := af.ch kw
      replace aa := aa.ch kw
      replace ag := ag.ch kw
      replace ah := ah.ch kw
      replace oP := oP.ch kw
      replace hB := hB.trans (Owns.J0W _ _ 2)
      dsimp only [eS, eZ] at hB
      replace hO := hO1; clear hO1
      obtain ⟨yo, H⟩ := H
      have hobt := oapp Try.underlying26 ti3 rfl 0 hO rfl oP aD vS yo (by decide)
      obtain ⟨Bk, qJ, qK, zD, fM, mb, tW⟩ := hobt
      dsimp only [sS, sZ] at fM mb
      refine GoT.stepX rfl (tW (by exact rfl) (by exact rfl)) rfl rfl rfl ?_
      replace hO := fM.own
      replace ai := ai.ch fM.ch
      replace ad := ad.ch fM.ch
      replace ae := ae.ch fM.ch
      replace ab := ab.ch fM.ch
      replace af := af.ch fM.ch
      replace aa := aa.ch fM.ch
      replace ag := ag.ch fM.ch
      replace ah := ah.ch fM.ch
      replace aD := aD.ch fM.ch
      replace hB := hB.trans fM.fr
      obtain ⟨qL, H⟩ := H
      obtain ⟨qM, H⟩ := H
      refine GoT.pure rfl (J01 Try.underlying22 ti26 rfl rfl qL (ltn (t2neqH 1 hO rfl) qM) (t2someH 1 hO rfl qL qM)) rfl rfl ?_
      skip
      have cA := Stp.front 1 hO rfl
      dsimp only [eS, eZ] at cA
      replace mb := mb.ch cA.ch
      replace hO := cA.own
      replace ai := ai.ch cA.ch
      replace ad := ad.ch cA.ch
      replace ae := ae.ch cA.ch
      replace ab := ab.ch cA.ch
      replace af := af.ch cA.ch
      replace aa := aa.ch cA.ch
      replace ag := ag.ch cA.ch
      replace ah := ah.ch cA.ch
      replace aD := aD.ch cA.ch
      replace hB := hB.trans cA.fr
      have cB := Stp.front 1 hO rfl
      dsimp only [eS, eZ] at cB
      replace mb := mb.ch cB.ch
      replace hO := cB.own
      replace ai := ai.ch cB.ch
      replace ad := ad.ch cB.ch
      replace ae := ae.ch cB.ch
      replace ab := ab.ch cB.ch
      replace af := af.ch cB.ch
      replace aa := aa.ch cB.ch
      replace ag := ag.ch cB.ch
      replace ah := ah.ch cB.ch
      replace aD := aD.ch cB.ch
      replace hB := hB.trans cB.fr
      have hobt := t2fix (hf := (Fl.int .i64)) hO mb qL qM rfl
      obtain ⟨Bl, iP, tX⟩ := hobt
      refine GoT.stepX rfl (tX Try.underlying26 rfl ti26 (by exact rfl) (by exact rfl)) rfl rfl rfl ?_
      replace hO := iP.own
      replace ai := ai.ch iP.ch
      replace ad := ad.ch iP.ch
      replace ae := ae.ch iP.ch
      replace ab := ab.ch iP.ch
      replace af := af.ch iP.ch
      replace aa := aa.ch iP.ch
      replace ag := ag.ch iP.ch
      replace ah := ah.ch iP.ch
      replace aD := aD.ch iP.ch
      replace hB := hB.trans iP.fr
      refine GoT.nil ?_
      refine Go1.drawS 1 [(0, .pure), (1, .stable), (2, .pure), (3, .pure), (4, .stable), (5, .pure), (6, .pure), (7, .stable), (8, .pure), (9, .pure), (10, .stable), (11, .pure), (12, .pure), (13, .stable), (14, .pure), (15, .pure), (16, .pure), (17, .pure), (18, .stable), (19, .pure), (20, .pure), (21, .stable), (22, .pure), (23, .pure), (24, .pure), (25, .pure), (26, .last)] mixed (by kernel_rfl) ?_
      intro Bm vT
      have iQ := Stp.same hO vT
      replace hO := iQ.own
      replace ai := ai.ch iQ.ch
      replace ad := ad.ch iQ.ch
      replace ae := ae.ch iQ.ch
      replace ab := ab.ch iQ.ch
      replace af := af.ch iQ.ch
      replace aa := aa.ch iQ.ch
      replace ag := ag.ch iQ.ch
      replace ah := ah.ch iQ.ch
      replace aD := aD.ch iQ.ch
      replace hB := hB.trans iQ.fr
      refine GoQ.pure rfl (J03 Try.underlying35 rfl ti27 rfl (by decide)) rfl rfl ?_
      refine GoQ.stable rfl (oblk (i := 3) 4 hO rfl rfl Try.underlying27 rfl rfl) rfl rfl ?_
      refine GoQ.pure rfl (J00 rfl) rfl rfl ?_
      obtain ⟨lB, H⟩ := H
      obtain ⟨lC, H⟩ := H
      refine GoQ.pure rfl (J01 Try.underlying27 ti42 rfl rfl lB (ltn (t2neq 2 hO rfl) lC) (t2some 2 hO rfl lB lC)) rfl rfl ?_
      refine GoQ.stable rfl (t2head 2 hO rfl lB lC Try.underlying42 rfl rfl) rfl rfl ?_
      refine GoQ.pure rfl (J00 rfl) rfl rfl ?_
      refine GoQ.pure rfl (J03 Try.underlying35 rfl ti27 rfl (by decide)) rfl rfl ?_
      refine GoQ.stable rfl (oblk (i := 3) 4 hO rfl rfl Try.underlying27 rfl rfl) rfl rfl ?_
      refine GoQ.pure rfl (J00 rfl) rfl rfl ?_
      obtain ⟨na, H⟩ := H
      obtain ⟨nb, H⟩ := H
      refine GoQ.pure rfl (J01 Try.underlying27 ti42 rfl rfl na (ltn (t2neq 2 hO rfl) nb) (t2some 2 hO rfl na nb)) rfl rfl ?_
      refine GoQ.stable rfl (t2head 2 hO rfl na nb Try.underlying42 rfl rfl) rfl rfl ?_
      refine GoQ.pure rfl (J00 rfl) rfl rfl ?_
      obtain ⟨oQ, H⟩ := H
      obtain ⟨oR, H⟩ := H
      refine GoQ.pure rfl (J01 Try.underlying42 ti4 rfl rfl oQ oR (t2isome 2 hO rfl na nb oQ oR)) rfl rfl ?_
      by_cases oS : ix (ix d_252 r267) r279 = true
      ·replace H := ifp oS H
       refine GoQ.stable rfl (fun w hw => opB ((t2Bool 2 hO rfl na nb oQ oR Try.underlying4 rfl rfl) w hw) (oS)) rfl rfl ?_
       refine GoQ.pure rfl (J00 rfl) rfl rfl ?_
       refine GoQ.pass rfl rfl rfl ?_
       refine GoQ.pass rfl rfl rfl ?_
       refine GoQ.pass rfl rfl rfl ?_
       refine GoQ.pass rfl rfl rfl ?_
       refine GoQ.pass rfl rfl rfl ?_
       refine GoQ.pass rfl rfl rfl ?_
       refine GoQ.pass rfl rfl rfl ?_
       refine GoQ.pass rfl rfl rfl ?_
       refine GoQ.pass rfl rfl rfl ?_
       refine GoQ.pure rfl (J1t rfl rfl rfl) rfl rfl ?_
       obtain ⟨qN, H⟩ := H
       obtain ⟨qO, H⟩ := H
       refine GoQ.pure rfl (J01 Try.underlying42 ti4 rfl rfl qN qO (t2isome 2 hO rfl lB lC qN qO)) rfl rfl ?_
       have hobt := t2st (r := Rp.bool) (hf := Fl.bool) rfl 2 hO rfl lB lC qN qO (v := .bool true) (u := true) rfl rfl
       obtain ⟨Bn, fN, tY⟩ := hobt
       dsimp only [sS, sZ] at fN
       refine GoQ.last rfl (tY Try.underlying4 rfl ti4 (by exact rfl) (by exact rfl)) rfl rfl ?_
       replace hO := fN.own
       replace ai := ai.ch fN.ch
       replace ad := ad.ch fN.ch
       replace ae := ae.ch fN.ch
       replace ab := ab.ch fN.ch
       replace af := af.ch fN.ch
       replace aa := aa.ch fN.ch
       replace ag := ag.ch fN.ch
       replace ah := ah.ch fN.ch
       replace aD := aD.ch fN.ch
       replace hB := hB.trans fN.fr
       refine GoQ.nil ?_
       refine Go1.inBlock ?_
       refine Go1.cut [(0, .slice bn a0.length bo), (1, .int .i64 a1), (4, .pointer (some ⟨B2, 0, none⟩)), (7, .pointer (some ⟨B21, 0, none⟩)), (8, .pointer (some ⟨B38, 0, none⟩)), (106, .slice am r14.J.length ao), (107, .int .i64 (r14.J.length : Int)), (108, .int .i64 (k3_251 : Int))] ⟨rfl, rfl, rfl, rfl, rfl, rfl, rfl, rfl, trivial⟩ ?_
       intro σ _
       refine Go1.region ?_
       refine GoR.op ((J06 rfl rfl (wrap_i64 (natbd bG ab.bd))) _) rfl rfl ?_
       refine GoR.op ((J00 rfl) _) rfl rfl ?_
       refine GoR.nil ?_
       have fO := Stp.front 1 hO rfl
       dsimp only [eS, eZ] at fO
       replace hO := fO.own
       replace ai := ai.ch fO.ch
       replace ad := ad.ch fO.ch
       replace ae := ae.ch fO.ch
       replace ab := ab.ch fO.ch
       replace af := af.ch fO.ch
       replace aa := aa.ch fO.ch
       replace ag := ag.ch fO.ch
       replace ah := ah.ch fO.ch
       replace aD := aD.ch fO.ch
       replace hB := hB.trans fO.fr
       have fP := Stp.front 1 hO rfl
       dsimp only [eS, eZ] at fP
       replace hO := fP.own
       replace ai := ai.ch fP.ch
       replace ad := ad.ch fP.ch
       replace ae := ae.ch fP.ch
       replace ab := ab.ch fP.ch
       replace af := af.ch fP.ch
       replace aa := aa.ch fP.ch
       replace ag := ag.ch fP.ch
       replace ah := ah.ch fP.ch
       replace aD := aD.ch fP.ch
       replace hB := hB.trans fP.fr
       have hobt := t3backF (hf := (Fl.int .i64)) hO hF257 bM bN (by simp only [J02])
       obtain ⟨iR, hF444⟩ := hobt
       replace hO := iR.own
       replace ai := ai.ch iR.ch
       replace ad := ad.ch iR.ch
       replace ae := ae.ch iR.ch
       replace ab := ab.ch iR.ch
       replace af := af.ch iR.ch
       replace aa := aa.ch iR.ch
       replace ag := ag.ch iR.ch
       replace ah := ah.ch iR.ch
       replace aD := aD.ch iR.ch
       replace hB := hB.trans iR.fr
       have fQ := Stp.front 5 hO rfl
       dsimp only [eS, eZ] at fQ
       replace hO := fQ.own
       replace ai := ai.ch fQ.ch
       replace ad := ad.ch fQ.ch
       replace ae := ae.ch fQ.ch
       replace ab := ab.ch fQ.ch
       replace af := af.ch fQ.ch
       replace aa := aa.ch fQ.ch
       replace ag := ag.ch fQ.ch
       replace ah := ah.ch fQ.ch
       replace aD := aD.ch fQ.ch
       replace hB := hB.trans fQ.fr
       have fR := Stp.front 5 hO rfl
       dsimp only [eS, eZ] at fR
       replace hO := fR.own
       replace ai := ai.ch fR.ch
       replace ad := ad.ch fR.ch
       replace ae := ae.ch fR.ch
       replace ab := ab.ch fR.ch
       replace af := af.ch fR.ch
       replace aa := aa.ch fR.ch
       replace ag := ag.ch fR.ch
       replace ah := ah.ch fR.ch
       replace aD := aD.ch fR.ch
       replace hB := hB.trans fR.fr
       have fS := Stp.front 5 hO rfl
       dsimp only [eS, eZ] at fS
       replace hO := fS.own
       replace ai := ai.ch fS.ch
       replace ad := ad.ch fS.ch
       replace ae := ae.ch fS.ch
       replace ab := ab.ch fS.ch
       replace af := af.ch fS.ch
       replace aa := aa.ch fS.ch
       replace ag := ag.ch fS.ch
       replace ah := ah.ch fS.ch
       replace aD := aD.ch fS.ch
       replace hB := hB.trans fS.fr
       have fT := Stp.front 3 hO rfl
       dsimp only [eS, eZ] at fT
       replace hO := fT.own
       replace ai := ai.ch fT.ch
       replace ad := ad.ch fT.ch
       replace ae := ae.ch fT.ch
       replace ab := ab.ch fT.ch
       replace af := af.ch fT.ch
       replace aa := aa.ch fT.ch
       replace ag := ag.ch fT.ch
       replace ah := ah.ch fT.ch
       replace aD := aD.ch fT.ch
       replace hB := hB.trans fT.fr
       have fU := Stp.front 5 hO rfl
       dsimp only [eS, eZ] at fU
       replace hO := fU.own
       replace ai := ai.ch fU.ch
       replace ad := ad.ch fU.ch
       replace ae := ae.ch fU.ch
       replace ab := ab.ch fU.ch
       replace af := af.ch fU.ch
       replace aa := aa.ch fU.ch
       replace ag := ag.ch fU.ch
       replace ah := ah.ch fU.ch
       replace aD := aD.ch fU.ch
       replace hB := hB.trans fU.fr
       have fV := Stp.front 5 hO rfl
       dsimp only [eS, eZ] at fV
       replace hO := fV.own
       replace ai := ai.ch fV.ch
       replace ad := ad.ch fV.ch
       replace ae := ae.ch fV.ch
       replace ab := ab.ch fV.ch
       replace af := af.ch fV.ch
       replace aa := aa.ch fV.ch
       replace ag := ag.ch fV.ch
       replace ah := ah.ch fV.ch
       replace aD := aD.ch fV.ch
       replace hB := hB.trans fV.fr
       exact hX3 _ H _ _ ⟨bm, ps255, (fun k => if k = r267.toNat then hup ((aB r267.toNat)) r279.toNat (qJ, qK) else aB k), ⟨rfl, rfl, rfl, rfl, rfl, rfl, rfl, rfl, trivial⟩, hO, hF444, ai, ad, ae, ab, af, aa, ag, ah, hB⟩
      replace H := ifn oS H
      refine GoQ.stable rfl (fun w hw => opB ((t2Bool 2 hO rfl na nb oQ oR Try.underlying4 rfl rfl) w hw) (Bool.eq_false_iff.2 oS)) rfl rfl ?_
      refine GoQ.pure rfl (J00 rfl) rfl rfl ?_
      refine GoQ.pure rfl (J00 rfl) rfl rfl ?_
      refine GoQ.pure rfl (J00 rfl) rfl rfl ?_
      obtain ⟨qP, H⟩ := H
      obtain ⟨qQ, H⟩ := H
      refine GoQ.pure rfl (J01 Try.underlying22 ti26 rfl rfl qP qQ (ai.some_ qP qQ)) rfl rfl ?_
      have hobt := ldSl ai qP qQ
      obtain ⟨Bo, Bp, bg, vU⟩ := hobt
      refine GoQ.stable rfl (vU Try.underlying26 rfl rfl) rfl rfl ?_
      refine GoQ.pure rfl (J00 rfl) rfl rfl ?_
      obtain ⟨qR, H⟩ := H
      obtain ⟨qS, H⟩ := H
      refine GoQ.pure rfl (J01 Try.underlying26 ti3 rfl rfl qR qS (bg.some_ qR qS)) rfl rfl ?_
      refine GoQ.stable rfl (ldInt bg qR qS Try.underlying3 rfl rfl) rfl rfl ?_
      refine GoQ.pure rfl (J00 rfl) rfl rfl ?_
      by_cases oT : (ix (ix a0 (k3_251 : Int)) (k3_251 : Int)) = (k3_251 : Int)
      ·replace H := ifp oT H
       refine GoQ.pure rfl (fun w => opB (J15 rfl rfl w) (decide_eq_true oT)) rfl rfl ?_
       refine GoQ.pure rfl (J0m rfl rfl rfl) rfl rfl ?_
       obtain ⟨qT, H⟩ := H
       obtain ⟨qU, H⟩ := H
       refine GoQ.pure rfl (J01 Try.underlying42 ti4 rfl rfl qT qU (t2isome 2 hO rfl lB lC qT qU)) rfl rfl ?_
       have hobt := t2st (r := Rp.bool) (hf := Fl.bool) rfl 2 hO rfl lB lC qT qU (v := .bool true) (u := true) rfl rfl
       obtain ⟨Bq, cC, t5⟩ := hobt
       dsimp only [sS, sZ] at cC
       refine GoQ.last rfl (t5 Try.underlying4 rfl ti4 (by exact rfl) (by exact rfl)) rfl rfl ?_
       replace hO := cC.own
       replace ai := ai.ch cC.ch
       replace ad := ad.ch cC.ch
       replace ae := ae.ch cC.ch
       replace ab := ab.ch cC.ch
       replace af := af.ch cC.ch
       replace aa := aa.ch cC.ch
       replace ag := ag.ch cC.ch
       replace ah := ah.ch cC.ch
       replace aD := aD.ch cC.ch
       replace bg := bg.ch cC.ch
       replace hB := hB.trans cC.fr
       refine GoQ.nil ?_
       refine Go1.inBlock ?_
       refine Go1.region ?_
       refine GoR.op ((J06 rfl rfl (wrap_i64 (natbd bG ab.bd))) _) rfl rfl ?_
       refine GoR.op ((J00 rfl) _) rfl rfl ?_
       refine GoR.nil ?_
       have cD := Stp.front 1 hO rfl
       dsimp only [eS, eZ] at cD
       replace hO := cD.own
       replace ai := ai.ch cD.ch
       replace ad := ad.ch cD.ch
       replace ae := ae.ch cD.ch
       replace ab := ab.ch cD.ch
       replace af := af.ch cD.ch
       replace aa := aa.ch cD.ch
       replace ag := ag.ch cD.ch
       replace ah := ah.ch cD.ch
       replace aD := aD.ch cD.ch
       replace bg := bg.ch cD.ch
       replace hB := hB.trans cD.fr
       have cE := Stp.front 1 hO rfl
       dsimp only [eS, eZ] at cE
       replace hO := cE.own
       replace ai := ai.ch cE.ch
       replace ad := ad.ch cE.ch
       replace ae := ae.ch cE.ch
       replace ab := ab.ch cE.ch
       replace af := af.ch cE.ch
       replace aa := aa.ch cE.ch
       replace ag := ag.ch cE.ch
       replace ah := ah.ch cE.ch
       replace aD := aD.ch cE.ch
       replace bg := bg.ch cE.ch
       replace hB := hB.trans cE.fr
       have hobt := t3backF (hf := (Fl.int .i64)) hO hF257 bM bN (by simp only [J02])
       obtain ⟨fW, hF468⟩ := hobt
       replace hO := fW.own
       replace ai := ai.ch fW.ch
       replace ad := ad.ch fW.ch
       replace ae := ae.ch fW.ch
       replace ab := ab.ch fW.ch
       replace af := af.ch fW.ch
       replace aa := aa.ch fW.ch
       replace ag := ag.ch fW.ch
       replace ah := ah.ch fW.ch
       replace aD := aD.ch fW.ch
       replace bg := bg.ch fW.ch
       replace hB := hB.trans fW.fr
       have cG := Stp.front 5 hO rfl
       dsimp only [eS, eZ] at cG
       replace hO := cG.own
       replace ai := ai.ch cG.ch
       replace ad := ad.ch cG.ch
       replace ae := ae.ch cG.ch
       replace ab := ab.ch cG.ch
       replace af := af.ch cG.ch
       replace aa := aa.ch cG.ch
       replace ag := ag.ch cG.ch
       replace ah := ah.ch cG.ch
       replace aD := aD.ch cG.ch
       replace bg := bg.ch cG.ch
       replace hB := hB.trans cG.fr
       have cH := Stp.front 5 hO rfl
       dsimp only [eS, eZ] at cH
       replace hO := cH.own
       replace ai := ai.ch cH.ch
       replace ad := ad.ch cH.ch
       replace ae := ae.ch cH.ch
       replace ab := ab.ch cH.ch
       replace af := af.ch cH.ch
       replace aa := aa.ch cH.ch
       replace ag := ag.ch cH.ch
       replace ah := ah.ch cH.ch
       replace aD := aD.ch cH.ch
       replace bg := bg.ch cH.ch
       replace hB := hB.trans cH.fr
       have cI := Stp.front 5 hO rfl
       dsimp only [eS, eZ] at cI
       replace hO := cI.own
       replace ai := ai.ch cI.ch
       replace ad := ad.ch cI.ch
       replace ae := ae.ch cI.ch
       replace ab := ab.ch cI.ch
       replace af := af.ch cI.ch
       replace aa := aa.ch cI.ch
       replace ag := ag.ch cI.ch
       replace ah := ah.ch cI.ch
       replace aD := aD.ch cI.ch
       replace bg := bg.ch cI.ch
       replace hB := hB.trans cI.fr
       have cJ := Stp.front 3 hO rfl
       dsimp only [eS, eZ] at cJ
       replace hO := cJ.own
       replace ai := ai.ch cJ.ch
       replace ad := ad.ch cJ.ch
       replace ae := ae.ch cJ.ch
       replace ab := ab.ch cJ.ch
       replace af := af.ch cJ.ch
       replace aa := aa.ch cJ.ch
       replace ag := ag.ch cJ.ch
       replace ah := ah.ch cJ.ch
       replace aD := aD.ch cJ.ch
       replace bg := bg.ch cJ.ch
       replace hB := hB.trans cJ.fr
       have cK := Stp.front 5 hO rfl
       dsimp only [eS, eZ] at cK
       replace hO := cK.own
       replace ai := ai.ch cK.ch
       replace ad := ad.ch cK.ch
       replace ae := ae.ch cK.ch
       replace ab := ab.ch cK.ch
       replace af := af.ch cK.ch
       replace aa := aa.ch cK.ch
       replace ag := ag.ch cK.ch
       replace ah := ah.ch cK.ch
       replace aD := aD.ch cK.ch
       replace bg := bg.ch cK.ch
       replace hB := hB.trans cK.fr
       have cL := Stp.front 5 hO rfl
       dsimp only [eS, eZ] at cL
       replace hO := cL.own
       replace ai := ai.ch cL.ch
       replace ad := ad.ch cL.ch
       replace ae := ae.ch cL.ch
       replace ab := ab.ch cL.ch
       replace af := af.ch cL.ch
       replace aa := aa.ch cL.ch
       replace ag := ag.ch cL.ch
       replace ah := ah.ch cL.ch
       replace aD := aD.ch cL.ch
       replace bg := bg.ch cL.ch
       replace hB := hB.trans cL.fr
       exact hX3 _ H _ _ ⟨bm, ps255, (fun k => if k = r267.toNat then hup ((aB r267.toNat)) r279.toNat (qJ, qK) else aB k), ⟨rfl, rfl, rfl, rfl, rfl, rfl, rfl, rfl, trivial⟩, hO, hF468, ai, ad, ae, ab, af, aa, ag, ah, hB⟩
      replace H := ifn oT H
      refine GoQ.pure rfl (fun w => opB (J15 rfl rfl w) (decide_eq_false oT)) rfl rfl ?_
      refine GoQ.pure rfl (J0m rfl rfl rfl) rfl rfl ?_
      obtain ⟨qV, H⟩ := H
      obtain ⟨qW, H⟩ := H
      refine GoQ.pure rfl (J01 Try.underlying42 ti4 rfl rfl qV qW (t2isome 2 hO rfl lB lC qV qW)) rfl rfl ?_
      have hobt := t2st (r := Rp.bool) (hf := Fl.bool) rfl 2 hO rfl lB lC qV qW (v := .bool false) (u := false) rfl rfl
      obtain ⟨Br, cM, t6⟩ := hobt
      dsimp only [sS, sZ] at cM
      refine GoQ.last rfl (t6 Try.underlying4 rfl ti4 (by exact rfl) (by exact rfl)) rfl rfl ?_
      replace hO := cM.own
      replace ai := ai.ch cM.ch
      replace ad := ad.ch cM.ch
      replace ae := ae.ch cM.ch
      replace ab := ab.ch cM.ch
      replace af := af.ch cM.ch
      replace aa := aa.ch cM.ch
      replace ag := ag.ch cM.ch
      replace ah := ah.ch cM.ch
      replace aD := aD.ch cM.ch
      replace bg := bg.ch cM.ch
      replace hB := hB.trans cM.fr
      refine GoQ.nil ?_
      refine Go1.inBlock ?_
      refine Go1.cut [(0, .slice bn a0.length bo), (1, .int .i64 a1), (4, .pointer (some ⟨B2, 0, none⟩)), (7, .pointer (some ⟨B21, 0, none⟩)), (8, .pointer (some ⟨B38, 0, none⟩)), (106, .slice am r14.J.length ao), (107, .int .i64 (r14.J.length : Int)), (108, .int .i64 (k3_251 : Int))] ⟨rfl, rfl, rfl, rfl, rfl, rfl, rfl, rfl, trivial⟩ ?_
      intro σ _
      refine Go1.region ?_
      refine GoR.op ((J06 rfl rfl (wrap_i64 (natbd bG ab.bd))) _) rfl rfl ?_
      refine GoR.op ((J00 rfl) _) rfl rfl ?_
      refine GoR.nil ?_
      have cN := Stp.front 1 hO rfl
      dsimp only [eS, eZ] at cN
      replace hO := cN.own
      replace ai := ai.ch cN.ch
      replace ad := ad.ch cN.ch
      replace ae := ae.ch cN.ch
      replace ab := ab.ch cN.ch
      replace af := af.ch cN.ch
      replace aa := aa.ch cN.ch
      replace ag := ag.ch cN.ch
      replace ah := ah.ch cN.ch
      replace aD := aD.ch cN.ch
      replace bg := bg.ch cN.ch
      replace hB := hB.trans cN.fr
      have cO := Stp.front 1 hO rfl
      dsimp only [eS, eZ] at cO
      replace hO := cO.own
      replace ai := ai.ch cO.ch
      replace ad := ad.ch cO.ch
      replace ae := ae.ch cO.ch
      replace ab := ab.ch cO.ch
      replace af := af.ch cO.ch
      replace aa := aa.ch cO.ch
      replace ag := ag.ch cO.ch
      replace ah := ah.ch cO.ch
      replace aD := aD.ch cO.ch
      replace bg := bg.ch cO.ch
      replace hB := hB.trans cO.fr
      have hobt := t3backF (hf := (Fl.int .i64)) hO hF257 bM bN (by simp only [J02])
      obtain ⟨fX, hF483⟩ := hobt
      replace hO := fX.own
      replace ai := ai.ch fX.ch
      replace ad := ad.ch fX.ch
      replace ae := ae.ch fX.ch
      replace ab := ab.ch fX.ch
      replace af := af.ch fX.ch
      replace aa := aa.ch fX.ch
      replace ag := ag.ch fX.ch
      replace ah := ah.ch fX.ch
      replace aD := aD.ch fX.ch
      replace bg := bg.ch fX.ch
      replace hB := hB.trans fX.fr
      have cP := Stp.front 5 hO rfl
      dsimp only [eS, eZ] at cP
      replace hO := cP.own
      replace ai := ai.ch cP.ch
      replace ad := ad.ch cP.ch
      replace ae := ae.ch cP.ch
      replace ab := ab.ch cP.ch
      replace af := af.ch cP.ch
      replace aa := aa.ch cP.ch
      replace ag := ag.ch cP.ch
      replace ah := ah.ch cP.ch
      replace aD := aD.ch cP.ch
      replace bg := bg.ch cP.ch
      replace hB := hB.trans cP.fr
      have cQ := Stp.front 5 hO rfl
      dsimp only [eS, eZ] at cQ
      replace hO := cQ.own
      replace ai := ai.ch cQ.ch
      replace ad := ad.ch cQ.ch
      replace ae := ae.ch cQ.ch
      replace ab := ab.ch cQ.ch
      replace af := af.ch cQ.ch
      replace aa := aa.ch cQ.ch
      replace ag := ag.ch cQ.ch
      replace ah := ah.ch cQ.ch
      replace aD := aD.ch cQ.ch
      replace bg := bg.ch cQ.ch
      replace hB := hB.trans cQ.fr
      have cR := Stp.front 5 hO rfl
      dsimp only [eS, eZ] at cR
      replace hO := cR.own
      replace ai := ai.ch cR.ch
      replace ad := ad.ch cR.ch
      replace ae := ae.ch cR.ch
      replace ab := ab.ch cR.ch
      replace af := af.ch cR.ch
      replace aa := aa.ch cR.ch
      replace ag := ag.ch cR.ch
      replace ah := ah.ch cR.ch
      replace aD := aD.ch cR.ch
      replace bg := bg.ch cR.ch
      replace hB := hB.trans cR.fr
      have cS := Stp.front 3 hO rfl
      dsimp only [eS, eZ] at cS
      replace hO := cS.own
      replace ai := ai.ch cS.ch
      replace ad := ad.ch cS.ch
      replace ae := ae.ch cS.ch
      replace ab := ab.ch cS.ch
      replace af := af.ch cS.ch
      replace aa := aa.ch cS.ch
      replace ag := ag.ch cS.ch
      replace ah := ah.ch cS.ch
      replace aD := aD.ch cS.ch
      replace bg := bg.ch cS.ch
      replace hB := hB.trans cS.fr
      have cU := Stp.front 5 hO rfl
      dsimp only [eS, eZ] at cU
      replace hO := cU.own
      replace ai := ai.ch cU.ch
      replace ad := ad.ch cU.ch
      replace ae := ae.ch cU.ch
      replace ab := ab.ch cU.ch
      replace af := af.ch cU.ch
      replace aa := aa.ch cU.ch
      replace ag := ag.ch cU.ch
      replace ah := ah.ch cU.ch
      replace aD := aD.ch cU.ch
      replace bg := bg.ch cU.ch
      replace hB := hB.trans cU.fr
      have cV := Stp.front 5 hO rfl
      dsimp only [eS, eZ] at cV
      replace hO := cV.own
      replace ai := ai.ch cV.ch
      replace ad := ad.ch cV.ch
      replace ae := ae.ch cV.ch
      replace ab := ab.ch cV.ch
      replace af := af.ch cV.ch
      replace aa := aa.ch cV.ch
      replace ag := ag.ch cV.ch
      replace ah := ah.ch cV.ch
      replace aD := aD.ch cV.ch
      replace bg := bg.ch cV.ch
      replace hB := hB.trans cV.fr
      exact hX3 _ H _ _ ⟨bm, ps255, (fun k => if k = r267.toNat then hup ((aB r267.toNat)) r279.toNat (qJ, qK) else aB k), ⟨rfl, rfl, rfl, rfl, rfl, rfl, rfl, rfl, trivial⟩, hO, hF483, ai, ad, ae, ab, af, aa, ag, ah, hB⟩
     skip
     have fY := Stp.front 1 hO rfl
     dsimp only [eS, eZ] at fY
     replace ku := ku.ch fY.ch
     replace hO := fY.own
     replace ai := ai.ch fY.ch
     replace ad := ad.ch fY.ch
     replace ae := ae.ch fY.ch
     replace ab := ab.ch fY.ch
     replace af := af.ch fY.ch
     replace aa := aa.ch fY.ch
     replace ag := ag.ch fY.ch
     replace ah := ah.ch fY.ch
     replace hB := hB.trans fY.fr
     have hobt := t2take (hf := (Fl.int .i64)) hO lj lk
     obtain ⟨vV, iU, vW⟩ := hobt
     replace ku := ku.ch iU.ch
     replace hO := iU.own
     replace ai := ai.ch iU.ch
     replace ad := ad.ch iU.ch
     replace ae := ae.ch iU.ch
     replace ab := ab.ch iU.ch
     replace af := af.ch iU.ch
     replace aa := aa.ch iU.ch
     replace ag := ag.ch iU.ch
     replace ah := ah.ch iU.ch
     replace hB := hB.trans iU.fr
     have oU := vW (bl [.row 3 1 (((aB r267.toNat)) r279.toNat).1 ((ix ((ix d_253 r267)) r279).length) ((((aB r267.toNat)) r279.toNat).2) vV, t2h (Fl.int .i64) 26 3 (ps255 r267.toNat).1 ((ix d_253 r267).length) ((ps255 r267.toNat).2) ((aB r267.toNat)) ((ix d_253 r267)) r279.toNat, .row 3 1 tU 1 1 [.int .i64 (k3_251 : Int)], famH d_253.length (lay3 (Fl.int .i64) 26 3 ps255 aB d_253) r267.toNat, t2 Fl.bool 42 4 aY aW a8 bA d_252, .row 22 1 a9 aX ba bm, .blk B38 (.cells #[.slice p60 r140.length c61, .slice p54 r152.length c55, .slice a9 aX ba, .slice aY aW a8] 35 (0, 0)), .blk B21 (.cells #[.slice av r14.R.length aw, .slice ax r14.L.length ay, .slice am r14.J.length ao, .slice az r14.H.length aA, .slice aj r14.Below.length ak] 29 (0, 0)), .blk B2 (.cells #[.slice none 0 0, .slice none 0 0, .slice none 0 0, .slice none 0 0] 35 (0, 0))] ++ A)
     have hobt := freeze 2 hO rfl ku
     obtain ⟨hO1, kx, aE, vX⟩ := hobt
     dsimp only [eS, eZ] at hO1 kx aE
     replace ai := ai.ch kx
     replace ad := ad.ch kx
     replace ae := ae.ch kx
     replace ab := ab.ch kx
     replace af := af.ch kx
     replace aa := aa.ch kx
     replace ag := ag.ch kx
     replace ah := ah.ch kx
     replace oU := oU.ch kx
     replace hB := hB.trans (Owns.J0W _ _ 2)
     dsimp only [eS, eZ] at hB
     replace hO := hO1; clear hO1
     obtain ⟨yu, H⟩ := H
     have hobt := oapp Try.underlying26 ti3 rfl 0 hO rfl oU aE vX yu (by decide)
     obtain ⟨Bs, qX, qY, zE, f5, mf, t7⟩ := hobt
     dsimp only [sS, sZ] at f5 mf
     refine GoT.stepX rfl (t7 (by exact rfl) (by exact rfl)) rfl rfl rfl ?_
     replace hO := f5.own
     replace ai := ai.ch f5.ch
     replace ad := ad.ch f5.ch
     replace ae := ae.ch f5.ch
     replace ab := ab.ch f5.ch
     replace af := af.ch f5.ch
     replace aa := aa.ch f5.ch
     replace ag := ag.ch f5.ch
     replace ah := ah.ch f5.ch
     replace aE := aE.ch f5.ch
     replace hB := hB.trans f5.fr
     skip
     refine GoT.step rfl ((t3headF 4 hO rfl hF257 n9 oc Try.underlying22 rfl rfl) _ (Same.refl _)) (Same.refl _) rfl rfl ?_
     obtain ⟨q8, H⟩ := H
     obtain ⟨q9, H⟩ := H
     refine GoT.pure rfl (J01 Try.underlying22 ti26 rfl rfl q8 (ltn (t2neqH 1 hO rfl) q9) (t2someH 1 hO rfl q8 q9)) rfl rfl ?_
     skip
     have cW := Stp.front 1 hO rfl
     dsimp only [eS, eZ] at cW
     replace mf := mf.ch cW.ch
     replace hO := cW.own
     replace ai := ai.ch cW.ch
     replace ad := ad.ch cW.ch
     replace ae := ae.ch cW.ch
     replace ab := ab.ch cW.ch
     replace af := af.ch cW.ch
     replace aa := aa.ch cW.ch
     replace ag := ag.ch cW.ch
     replace ah := ah.ch cW.ch
     replace aE := aE.ch cW.ch
     replace hB := hB.trans cW.fr
     have cX := Stp.front 1 hO rfl
     dsimp only [eS, eZ] at cX
     replace mf := mf.ch cX.ch
     replace hO := cX.own
     replace ai := ai.ch cX.ch
     replace ad := ad.ch cX.ch
     replace ae := ae.ch cX.ch
     replace ab := ab.ch cX.ch
     replace af := af.ch cX.ch
     replace aa := aa.ch cX.ch
     replace ag := ag.ch cX.ch
     replace ah := ah.ch cX.ch
     replace aE := aE.ch cX.ch
     replace hB := hB.trans cX.fr
     have hobt := t2fix (hf := (Fl.int .i64)) hO mf q8 q9 rfl
     obtain ⟨Bt, iV, t8⟩ := hobt
     refine GoT.stepX rfl (t8 Try.underlying26 rfl ti26 (by exact rfl) (by exact rfl)) rfl rfl rfl ?_
     replace hO := iV.own
     replace ai := ai.ch iV.ch
     replace ad := ad.ch iV.ch
     replace ae := ae.ch iV.ch
     replace ab := ab.ch iV.ch
     replace af := af.ch iV.ch
     replace aa := aa.ch iV.ch
     replace ag := ag.ch iV.ch
     replace ah := ah.ch iV.ch
     replace aE := aE.ch iV.ch
     replace hB := hB.trans iV.fr
     refine GoT.nil ?_
     refine Go1.drawS 1 [(0, .pure), (1, .stable), (2, .pure), (3, .pure), (4, .stable), (5, .pure), (6, .pure), (7, .stable), (8, .pure), (9, .pure), (10, .stable), (11, .pure), (12, .pure), (13, .stable), (14, .pure), (15, .pure), (16, .pure), (17, .pure), (18, .stable), (19, .pure), (20, .pure), (21, .stable), (22, .pure), (23, .pure), (24, .pure), (25, .pure), (26, .last)] mixed (by kernel_rfl) ?_
     intro Bu vY
     have iW := Stp.same hO vY
     replace hO := iW.own
     replace ai := ai.ch iW.ch
     replace ad := ad.ch iW.ch
     replace ae := ae.ch iW.ch
     replace ab := ab.ch iW.ch
     replace af := af.ch iW.ch
     replace aa := aa.ch iW.ch
     replace ag := ag.ch iW.ch
     replace ah := ah.ch iW.ch
     replace aE := aE.ch iW.ch
     replace hB := hB.trans iW.fr
     refine GoQ.pure rfl (J03 Try.underlying35 rfl ti27 rfl (by decide)) rfl rfl ?_
     refine GoQ.stable rfl (oblk (i := 3) 4 hO rfl rfl Try.underlying27 rfl rfl) rfl rfl ?_
     refine GoQ.pure rfl (J00 rfl) rfl rfl ?_
     obtain ⟨lD, H⟩ := H
     obtain ⟨lE, H⟩ := H
     refine GoQ.pure rfl (J01 Try.underlying27 ti42 rfl rfl lD (ltn (t2neq 2 hO rfl) lE) (t2some 2 hO rfl lD lE)) rfl rfl ?_
     refine GoQ.stable rfl (t2head 2 hO rfl lD lE Try.underlying42 rfl rfl) rfl rfl ?_
     refine GoQ.pure rfl (J00 rfl) rfl rfl ?_
     refine GoQ.pure rfl (J03 Try.underlying35 rfl ti27 rfl (by decide)) rfl rfl ?_
     refine GoQ.stable rfl (oblk (i := 3) 4 hO rfl rfl Try.underlying27 rfl rfl) rfl rfl ?_
     refine GoQ.pure rfl (J00 rfl) rfl rfl ?_
     obtain ⟨nc, H⟩ := H
     obtain ⟨ne, H⟩ := H
     refine GoQ.pure rfl (J01 Try.underlying27 ti42 rfl rfl nc (ltn (t2neq 2 hO rfl) ne) (t2some 2 hO rfl nc ne)) rfl rfl ?_
     refine GoQ.stable rfl (t2head 2 hO rfl nc ne Try.underlying42 rfl rfl) rfl rfl ?_
     refine GoQ.pure rfl (J00 rfl) rfl rfl ?_
     obtain ⟨oV, H⟩ := H
     obtain ⟨oW, H⟩ := H
     refine GoQ.pure rfl (J01 Try.underlying42 ti4 rfl rfl oV oW (t2isome 2 hO rfl nc ne oV oW)) rfl rfl ?_
     by_cases oX : ix (ix d_252 r267) r279 = true
     ·replace H := ifp oX H
      refine GoQ.stable rfl (fun w hw => opB ((t2Bool 2 hO rfl nc ne oV oW Try.underlying4 rfl rfl) w hw) (oX)) rfl rfl ?_
      refine GoQ.pure rfl (J00 rfl) rfl rfl ?_
      refine GoQ.pass rfl rfl rfl ?_
      refine GoQ.pass rfl rfl rfl ?_
      refine GoQ.pass rfl rfl rfl ?_
      refine GoQ.pass rfl rfl rfl ?_
      refine GoQ.pass rfl rfl rfl ?_
      refine GoQ.pass rfl rfl rfl ?_
      refine GoQ.pass rfl rfl rfl ?_
      refine GoQ.pass rfl rfl rfl ?_
      refine GoQ.pass rfl rfl rfl ?_
      refine GoQ.pure rfl (J1t rfl rfl rfl) rfl rfl ?_
      obtain ⟨rh, H⟩ := H
      obtain ⟨rk, H⟩ := H
      refine GoQ.pure rfl (J01 Try.underlying42 ti4 rfl rfl rh rk (t2isome 2 hO rfl lD lE rh rk)) rfl rfl ?_
      have hobt := t2st (r := Rp.bool) (hf := Fl.bool) rfl 2 hO rfl lD lE rh rk (v := .bool true) (u := true) rfl rfl
      obtain ⟨Bv, gf, t9⟩ := hobt
      dsimp only [sS, sZ] at gf
      refine GoQ.last rfl (t9 Try.underlying4 rfl ti4 (by exact rfl) (by exact rfl)) rfl rfl ?_
      replace hO := gf.own
      replace ai := ai.ch gf.ch
      replace ad := ad.ch gf.ch
      replace ae := ae.ch gf.ch
      replace ab := ab.ch gf.ch
      replace af := af.ch gf.ch
      replace aa := aa.ch gf.ch
      replace ag := ag.ch gf.ch
      replace ah := ah.ch gf.ch
      replace aE := aE.ch gf.ch
      replace hB := hB.trans gf.fr
      refine GoQ.nil ?_
      refine Go1.inBlock ?_
      refine Go1.cut [(0, .slice bn a0.length bo), (1, .int .i64 a1), (4, .pointer (some ⟨B2, 0, none⟩)), (7, .pointer (some ⟨B21, 0, none⟩)), (8, .pointer (some ⟨B38, 0, none⟩)), (106, .slice am r14.J.length ao), (107, .int .i64 (r14.J.length : Int)), (108, .int .i64 (k3_251 : Int))] ⟨rfl, rfl, rfl, rfl, rfl, rfl, rfl, rfl, trivial⟩ ?_
      intro σ _
      refine Go1.region ?_
      refine GoR.op ((J06 rfl rfl (wrap_i64 (natbd bG ab.bd))) _) rfl rfl ?_
      refine GoR.op ((J00 rfl) _) rfl rfl ?_
      refine GoR.nil ?_
      have gh := Stp.front 1 hO rfl
      dsimp only [eS, eZ] at gh
      replace hO := gh.own
      replace ai := ai.ch gh.ch
      replace ad := ad.ch gh.ch
      replace ae := ae.ch gh.ch
      replace ab := ab.ch gh.ch
      replace af := af.ch gh.ch
      replace aa := aa.ch gh.ch
      replace ag := ag.ch gh.ch
      replace ah := ah.ch gh.ch
      replace aE := aE.ch gh.ch
      replace hB := hB.trans gh.fr
      have gi := Stp.front 1 hO rfl
      dsimp only [eS, eZ] at gi
      replace hO := gi.own
      replace ai := ai.ch gi.ch
      replace ad := ad.ch gi.ch
      replace ae := ae.ch gi.ch
      replace ab := ab.ch gi.ch
      replace af := af.ch gi.ch
      replace aa := aa.ch gi.ch
      replace ag := ag.ch gi.ch
      replace ah := ah.ch gi.ch
      replace aE := aE.ch gi.ch
      replace hB := hB.trans gi.fr
      have hobt := t3backF (hf := (Fl.int .i64)) hO hF257 bM bN (by simp only [J02])
      obtain ⟨iX, hF533⟩ := hobt
      replace hO := iX.own
      replace ai := ai.ch iX.ch
      replace ad := ad.ch iX.ch
      replace ae := ae.ch iX.ch
      replace ab := ab.ch iX.ch
      replace af := af.ch iX.ch
      replace aa := aa.ch iX.ch
      replace ag := ag.ch iX.ch
      replace ah := ah.ch iX.ch
      replace aE := aE.ch iX.ch
      replace hB := hB.trans iX.fr
      have gj := Stp.front 5 hO rfl
      dsimp only [eS, eZ] at gj
      replace hO := gj.own
      replace ai := ai.ch gj.ch
      replace ad := ad.ch gj.ch
      replace ae := ae.ch gj.ch
      replace ab := ab.ch gj.ch
      replace af := af.ch gj.ch
      replace aa := aa.ch gj.ch
      replace ag := ag.ch gj.ch
      replace ah := ah.ch gj.ch
      replace aE := aE.ch gj.ch
      replace hB := hB.trans gj.fr
      have gk := Stp.front 5 hO rfl
      dsimp only [eS, eZ] at gk
      replace hO := gk.own
      replace ai := ai.ch gk.ch
      replace ad := ad.ch gk.ch
      replace ae := ae.ch gk.ch
      replace ab := ab.ch gk.ch
      replace af := af.ch gk.ch
      replace aa := aa.ch gk.ch
      replace ag := ag.ch gk.ch
      replace ah := ah.ch gk.ch
      replace aE := aE.ch gk.ch
      replace hB := hB.trans gk.fr
      have gm := Stp.front 5 hO rfl
      dsimp only [eS, eZ] at gm
      replace hO := gm.own
      replace ai := ai.ch gm.ch
      replace ad := ad.ch gm.ch
      replace ae := ae.ch gm.ch
      replace ab := ab.ch gm.ch
      replace af := af.ch gm.ch
      replace aa := aa.ch gm.ch
      replace ag := ag.ch gm.ch
      replace ah := ah.ch gm.ch
      replace aE := aE.ch gm.ch
      replace hB := hB.trans gm.fr
      have gn := Stp.front 3 hO rfl
      dsimp only [eS, eZ] at gn
      replace hO := gn.own
      replace ai := ai.ch gn.ch
      replace ad := ad.ch gn.ch
      replace ae := ae.ch gn.ch
      replace ab := ab.ch gn.ch
      replace af := af.ch gn.ch
      replace aa := aa.ch gn.ch
      replace ag := ag.ch gn.ch
      replace ah := ah.ch gn.ch
      replace aE := aE.ch gn.ch
      replace hB := hB.trans gn.fr
      have gq := Stp.front 5 hO rfl
      dsimp only [eS, eZ] at gq
      replace hO := gq.own
      replace ai := ai.ch gq.ch
      replace ad := ad.ch gq.ch
      replace ae := ae.ch gq.ch
      replace ab := ab.ch gq.ch
      replace af := af.ch gq.ch
      replace aa := aa.ch gq.ch
      replace ag := ag.ch gq.ch
      replace ah := ah.ch gq.ch
      replace aE := aE.ch gq.ch
      replace hB := hB.trans gq.fr
      have gt := Stp.front 5 hO rfl
      dsimp only [eS, eZ] at gt
      replace hO := gt.own
      replace ai := ai.ch gt.ch
      replace ad := ad.ch gt.ch
      replace ae := ae.ch gt.ch
      replace ab := ab.ch gt.ch
      replace af := af.ch gt.ch
      replace aa := aa.ch gt.ch
      replace ag := ag.ch gt.ch
      replace ah := ah.ch gt.ch
      replace aE := aE.ch gt.ch
      replace hB := hB.trans gt.fr
      exact hX3 _ H _ _ ⟨bm, ps255, (fun k => if k = r267.toNat then hup ((aB r267.toNat)) r279.toNat (qX, qY) else aB k), ⟨rfl, rfl, rfl, rfl, rfl, rfl, rfl, rfl, trivial⟩, hO, hF533, ai, ad, ae, ab, af, aa, ag, ah, hB⟩
     replace H := ifn oX H
     refine GoQ.stable rfl (fun w hw => opB ((t2Bool 2 hO rfl nc ne oV oW Try.underlying4 rfl rfl) w hw) (Bool.eq_false_iff.2 oX)) rfl rfl ?_
     refine GoQ.pure rfl (J00 rfl) rfl rfl ?_
     refine GoQ.pure rfl (J00 rfl) rfl rfl ?_
     refine GoQ.pure rfl (J00 rfl) rfl rfl ?_
     obtain ⟨ro, H⟩ := H
     obtain ⟨rq, H⟩ := H
     refine GoQ.pure rfl (J01 Try.underlying22 ti26 rfl rfl ro rq (ai.some_ ro rq)) rfl rfl ?_
     have hobt := ldSl ai ro rq
     obtain ⟨Bw, Bx, bh, v6⟩ := hobt
     refine GoQ.stable rfl (v6 Try.underlying26 rfl rfl) rfl rfl ?_
     refine GoQ.pure rfl (J00 rfl) rfl rfl ?_
     obtain ⟨ru, H⟩ := H
     obtain ⟨rv, H⟩ := H
     refine GoQ.pure rfl (J01 Try.underlying26 ti3 rfl rfl ru rv (bh.some_ ru rv)) rfl rfl ?_
     refine GoQ.stable rfl (ldInt bh ru rv Try.underlying3 rfl rfl) rfl rfl ?_
     refine GoQ.pure rfl (J00 rfl) rfl rfl ?_
     by_cases oY : (ix (ix a0 (k3_251 : Int)) (k3_251 : Int)) = (k3_251 : Int)
     ·replace H := ifp oY H
      refine GoQ.pure rfl (fun w => opB (J15 rfl rfl w) (decide_eq_true oY)) rfl rfl ?_
      refine GoQ.pure rfl (J0m rfl rfl rfl) rfl rfl ?_
      obtain ⟨rB, H⟩ := H
      obtain ⟨rC, H⟩ := H
      refine GoQ.pure rfl (J01 Try.underlying42 ti4 rfl rfl rB rC (t2isome 2 hO rfl lD lE rB rC)) rfl rfl ?_
      have hobt := t2st (r := Rp.bool) (hf := Fl.bool) rfl 2 hO rfl lD lE rB rC (v := .bool true) (u := true) rfl rfl
      obtain ⟨By, cY, ua⟩ := hobt
      dsimp only [sS, sZ] at cY
      refine GoQ.last rfl (ua Try.underlying4 rfl ti4 (by exact rfl) (by exact rfl)) rfl rfl ?_
      replace hO := cY.own
      replace ai := ai.ch cY.ch
      replace ad := ad.ch cY.ch
      replace ae := ae.ch cY.ch
      replace ab := ab.ch cY.ch
      replace af := af.ch cY.ch
      replace aa := aa.ch cY.ch
      replace ag := ag.ch cY.ch
      replace ah := ah.ch cY.ch
      replace aE := aE.ch cY.ch
      replace bh := bh.ch cY.ch
      replace hB := hB.trans cY.fr
      refine GoQ.nil ?_
      refine Go1.inBlock ?_
      refine Go1.region ?_
      refine GoR.op ((J06 rfl rfl (wrap_i64 (natbd bG ab.bd))) _) rfl rfl ?_
      refine GoR.op ((J00 rfl) _) rfl rfl ?_
      refine GoR.nil ?_
      have c6 := Stp.front 1 hO rfl
      dsimp only [eS, eZ] at c6
      replace hO := c6.own
      replace ai := ai.ch c6.ch
      replace ad := ad.ch c6.ch
      replace ae := ae.ch c6.ch
      replace ab := ab.ch c6.ch
      replace af := af.ch c6.ch
      replace aa := aa.ch c6.ch
      replace ag := ag.ch c6.ch
      replace ah := ah.ch c6.ch
      replace aE := aE.ch c6.ch
      replace bh := bh.ch c6.ch
      replace hB := hB.trans c6.fr
      have c8 := Stp.front 1 hO rfl
      dsimp only [eS, eZ] at c8
      replace hO := c8.own
      replace ai := ai.ch c8.ch
      replace ad := ad.ch c8.ch
      replace ae := ae.ch c8.ch
      replace ab := ab.ch c8.ch
      replace af := af.ch c8.ch
      replace aa := aa.ch c8.ch
      replace ag := ag.ch c8.ch
      replace ah := ah.ch c8.ch
      replace aE := aE.ch c8.ch
      replace bh := bh.ch c8.ch
      replace hB := hB.trans c8.fr
      have hobt := t3backF (hf := (Fl.int .i64)) hO hF257 bM bN (by simp only [J02])
      obtain ⟨gv, hF557⟩ := hobt
      replace hO := gv.own
      replace ai := ai.ch gv.ch
      replace ad := ad.ch gv.ch
      replace ae := ae.ch gv.ch
      replace ab := ab.ch gv.ch
      replace af := af.ch gv.ch
      replace aa := aa.ch gv.ch
      replace ag := ag.ch gv.ch
      replace ah := ah.ch gv.ch
      replace aE := aE.ch gv.ch
      replace bh := bh.ch gv.ch
      replace hB := hB.trans gv.fr
      have c9 := Stp.front 5 hO rfl
      dsimp only [eS, eZ] at c9
      replace hO := c9.own
      replace ai := ai.ch c9.ch
      replace ad := ad.ch c9.ch
      replace ae := ae.ch c9.ch
      replace ab := ab.ch c9.ch
      replace af := af.ch c9.ch
      replace aa := aa.ch c9.ch
      replace ag := ag.ch c9.ch
      replace ah := ah.ch c9.ch
      replace aE := aE.ch c9.ch
      replace bh := bh.ch c9.ch
      replace hB := hB.trans c9.fr
      have db := Stp.front 5 hO rfl
      dsimp only [eS, eZ] at db
      replace hO := db.own
      replace ai := ai.ch db.ch
      replace ad := ad.ch db.ch
      replace ae := ae.ch db.ch
      replace ab := ab.ch db.ch
      replace af := af.ch db.ch
      replace aa := aa.ch db.ch
      replace ag := ag.ch db.ch
      replace ah := ah.ch db.ch
      replace aE := aE.ch db.ch
      replace bh := bh.ch db.ch
      replace hB := hB.trans db.fr
      have de := Stp.front 5 hO rfl
      dsimp only [eS, eZ] at de
      replace hO := de.own
      replace ai := ai.ch de.ch
      replace ad := ad.ch de.ch
      replace ae := ae.ch de.ch
      replace ab := ab.ch de.ch
      replace af := af.ch de.ch
      replace aa := aa.ch de.ch
      replace ag := ag.ch de.ch
      replace ah := ah.ch de.ch
      replace aE := aE.ch de.ch
      replace bh := bh.ch de.ch
      replace hB := hB.trans de.fr
      have dg := Stp.front 3 hO rfl
      dsimp only [eS, eZ] at dg
      replace hO := dg.own
      replace ai := ai.ch dg.ch
      replace ad := ad.ch dg.ch
      replace ae := ae.ch dg.ch
      replace ab := ab.ch dg.ch
      replace af := af.ch dg.ch
      replace aa := aa.ch dg.ch
      replace ag := ag.ch dg.ch
      replace ah := ah.ch dg.ch
      replace aE := aE.ch dg.ch
      replace bh := bh.ch dg.ch
      replace hB := hB.trans dg.fr
      have dh := Stp.front 5 hO rfl
      dsimp only [eS, eZ] at dh
      replace hO := dh.own
      replace ai := ai.ch dh.ch
      replace ad := ad.ch dh.ch
      replace ae := ae.ch dh.ch
      replace ab := ab.ch dh.ch
      replace af := af.ch dh.ch
      replace aa := aa.ch dh.ch
      replace ag := ag.ch dh.ch
      replace ah := ah.ch dh.ch
      replace aE := aE.ch dh.ch
      replace bh := bh.ch dh.ch
      replace hB := hB.trans dh.fr
      have di := Stp.front 5 hO rfl
      dsimp only [eS, eZ] at di
      replace hO := di.own
      replace ai := ai.ch di.ch
      replace ad := ad.ch di.ch
      replace ae := ae.ch di.ch
      replace ab := ab.ch di.ch
      replace af := af.ch di.ch
      replace aa := aa.ch di.ch
      replace ag := ag.ch di.ch
      replace ah := ah.ch di.ch
      replace aE := aE.ch di.ch
      replace bh := bh.ch di.ch
      replace hB := hB.trans di.fr
      exact hX3 _ H _ _ ⟨bm, ps255, (fun k => if k = r267.toNat then hup ((aB r267.toNat)) r279.toNat (qX, qY) else aB k), ⟨rfl, rfl, rfl, rfl, rfl, rfl, rfl, rfl, trivial⟩, hO, hF557, ai, ad, ae, ab, af, aa, ag, ah, hB⟩
     replace H := ifn oY H
     refine GoQ.pure rfl (fun w => opB (J15 rfl rfl w) (decide_eq_false oY)) rfl rfl ?_
     refine GoQ.pure rfl (J0m rfl rfl rfl) rfl rfl ?_
     obtain ⟨rD, H⟩ := H
     obtain ⟨rE, H⟩ := H
     refine GoQ.pure rfl (J01 Try.underlying42 ti4 rfl rfl rD rE (t2isome 2 hO rfl lD lE rD rE)) rfl rfl ?_
     have hobt := t2st (r := Rp.bool) (hf := Fl.bool) rfl 2 hO rfl lD lE rD rE (v := .bool false) (u := false) rfl rfl
     obtain ⟨Bz, dj, ub⟩ := hobt
     dsimp only [sS, sZ] at dj
     refine GoQ.last rfl (ub Try.underlying4 rfl ti4 (by exact rfl) (by exact rfl)) rfl rfl ?_
     replace hO := dj.own
     replace ai := ai.ch dj.ch
     replace ad := ad.ch dj.ch
     replace ae := ae.ch dj.ch
     replace ab := ab.ch dj.ch
     replace af := af.ch dj.ch
     replace aa := aa.ch dj.ch
     replace ag := ag.ch dj.ch
     replace ah := ah.ch dj.ch
     replace aE := aE.ch dj.ch
     replace bh := bh.ch dj.ch
     replace hB := hB.trans dj.fr
     refine GoQ.nil ?_
     refine Go1.inBlock ?_
     refine Go1.cut [(0, .slice bn a0.length bo), (1, .int .i64 a1), (4, .pointer (some ⟨B2, 0, none⟩)), (7, .pointer (some ⟨B21, 0, none⟩)), (8, .pointer (some ⟨B38, 0, none⟩)), (106, .slice am r14.J.length ao), (107, .int .i64 (r14.J.length : Int)), (108, .int .i64 (k3_251 : Int))] ⟨rfl, rfl, rfl, rfl, rfl, rfl, rfl, rfl, trivial⟩ ?_
     intro σ _
     refine Go1.region ?_
     refine GoR.op ((J06 rfl rfl (wrap_i64 (natbd bG ab.bd))) _) rfl rfl ?_
     refine GoR.op ((J00 rfl) _) rfl rfl ?_
     refine GoR.nil ?_
     have dk := Stp.front 1 hO rfl
     dsimp only [eS, eZ] at dk
     replace hO := dk.own
     replace ai := ai.ch dk.ch
     replace ad := ad.ch dk.ch
     replace ae := ae.ch dk.ch
     replace ab := ab.ch dk.ch
     replace af := af.ch dk.ch
     replace aa := aa.ch dk.ch
     replace ag := ag.ch dk.ch
     replace ah := ah.ch dk.ch
     replace aE := aE.ch dk.ch
     replace bh := bh.ch dk.ch
     replace hB := hB.trans dk.fr
     have dm := Stp.front 1 hO rfl
     dsimp only [eS, eZ] at dm
     replace hO := dm.own
     replace ai := ai.ch dm.ch
     replace ad := ad.ch dm.ch
     replace ae := ae.ch dm.ch
     replace ab := ab.ch dm.ch
     replace af := af.ch dm.ch
     replace aa := aa.ch dm.ch
     replace ag := ag.ch dm.ch
     replace ah := ah.ch dm.ch
     replace aE := aE.ch dm.ch
     replace bh := bh.ch dm.ch
     replace hB := hB.trans dm.fr
     have hobt := t3backF (hf := (Fl.int .i64)) hO hF257 bM bN (by simp only [J02])
     obtain ⟨gx, hF572⟩ := hobt
     replace hO := gx.own
     replace ai := ai.ch gx.ch
     replace ad := ad.ch gx.ch
     replace ae := ae.ch gx.ch
     replace ab := ab.ch gx.ch
     replace af := af.ch gx.ch
     replace aa := aa.ch gx.ch
     replace ag := ag.ch gx.ch
     replace ah := ah.ch gx.ch
     replace aE := aE.ch gx.ch
     replace bh := bh.ch gx.ch
     replace hB := hB.trans gx.fr
     have dp := Stp.front 5 hO rfl
     dsimp only [eS, eZ] at dp
     replace hO := dp.own
     replace ai := ai.ch dp.ch
     replace ad := ad.ch dp.ch
     replace ae := ae.ch dp.ch
     replace ab := ab.ch dp.ch
     replace af := af.ch dp.ch
     replace aa := aa.ch dp.ch
     replace ag := ag.ch dp.ch
     replace ah := ah.ch dp.ch
     replace aE := aE.ch dp.ch
     replace bh := bh.ch dp.ch
     replace hB := hB.trans dp.fr
     have dq := Stp.front 5 hO rfl
     dsimp only [eS, eZ] at dq
     replace hO := dq.own
     replace ai := ai.ch dq.ch
     replace ad := ad.ch dq.ch
     replace ae := ae.ch dq.ch
     replace ab := ab.ch dq.ch
     replace af := af.ch dq.ch
     replace aa := aa.ch dq.ch
     replace ag := ag.ch dq.ch
     replace ah := ah.ch dq.ch
     replace aE := aE.ch dq.ch
     replace bh := bh.ch dq.ch
     replace hB := hB.trans dq.fr
     have dr := Stp.front 5 hO rfl
     dsimp only [eS, eZ] at dr
     replace hO := dr.own
     replace ai := ai.ch dr.ch
     replace ad := ad.ch dr.ch
     replace ae := ae.ch dr.ch
     replace ab := ab.ch dr.ch
     replace af := af.ch dr.ch
     replace aa := aa.ch dr.ch
     replace ag := ag.ch dr.ch
     replace ah := ah.ch dr.ch
     replace aE := aE.ch dr.ch
     replace bh := bh.ch dr.ch
     replace hB := hB.trans dr.fr
     have dt := Stp.front 3 hO rfl
     dsimp only [eS, eZ] at dt
     replace hO := dt.own
     replace ai := ai.ch dt.ch
     replace ad := ad.ch dt.ch
     replace ae := ae.ch dt.ch
     replace ab := ab.ch dt.ch
     replace af := af.ch dt.ch
     replace aa := aa.ch dt.ch
     replace ag := ag.ch dt.ch
     replace ah := ah.ch dt.ch
     replace aE := aE.ch dt.ch
     replace bh := bh.ch dt.ch
     replace hB := hB.trans dt.fr
     have du := Stp.front 5 hO rfl
     dsimp only [eS, eZ] at du
     replace hO := du.own
     replace ai := ai.ch du.ch
     replace ad := ad.ch du.ch
     replace ae := ae.ch du.ch
     replace ab := ab.ch du.ch
     replace af := af.ch du.ch
     replace aa := aa.ch du.ch
     replace ag := ag.ch du.ch
     replace ah := ah.ch du.ch
     replace aE := aE.ch du.ch
     replace bh := bh.ch du.ch
     replace hB := hB.trans du.fr
     have dw := Stp.front 5 hO rfl
     dsimp only [eS, eZ] at dw
     replace hO := dw.own
     replace ai := ai.ch dw.ch
     replace ad := ad.ch dw.ch
     replace ae := ae.ch dw.ch
     replace ab := ab.ch dw.ch
     replace af := af.ch dw.ch
     replace aa := aa.ch dw.ch
     replace ag := ag.ch dw.ch
     replace ah := ah.ch dw.ch
     replace aE := aE.ch dw.ch
     replace bh := bh.ch dw.ch
     replace hB := hB.trans dw.fr
     exact hX3 _ H _ _ ⟨bm, ps255, (fun k => if k = r267.toNat then hup ((aB r267.toNat)) r279.toNat (qX, qY) else aB k), ⟨rfl, rfl, rfl, rfl, rfl, rfl, rfl, rfl, trivial⟩, hO, hF572, ai, ad, ae, ab, af, aa, ag, ah, hB⟩
    replace H := H.2
    have hobt := J2O (r := Rp.int .i64) (n := 1) (parts := [(0, .int .i64 (k3_251 : Int))]) (vs := [.int .i64 (k3_251 : Int)]) (xs := [(k3_251 : Int)]) rfl Try.underlying26 ti3 hO (by decide) (by kernel_rfl) (Els.cons rfl rfl (Els.nil _ _ _) (by simp [mx])) rfl
    obtain ⟨BA, rF, jM, fv, v7, uc⟩ := hobt
    refine GoT.step rfl (uc rfl) v7 rfl rfl ?_
    replace hO := jM.own
    replace ai := ai.ch jM.ch
    replace ad := ad.ch jM.ch
    replace ae := ae.ch jM.ch
    replace ab := ab.ch jM.ch
    replace af := af.ch jM.ch
    replace aa := aa.ch jM.ch
    replace ag := ag.ch jM.ch
    replace ah := ah.ch jM.ch
    replace hB := hB.trans jM.fr
    refine GoT.both ?_ ?_
    ·skip
     replace H := H.1
     refine GoT.step rfl ((oblk (i := 2) 5 hO rfl rfl Try.underlying33 rfl rfl) _ (Same.refl _)) (Same.refl _) rfl rfl ?_
     obtain ⟨o3, H⟩ := H
     obtain ⟨o4, H⟩ := H
     refine GoT.pure rfl (J01 Try.underlying33 ti22 rfl rfl o3 (ltn (t3neqF 4 hO rfl hF257) o4) (t3someF 4 hO rfl hF257 o3 o4)) rfl rfl ?_
     refine GoT.both ?_ ?_
     ·skip
      skip
      refine GoT.step rfl ((t3headF 4 hO rfl hF257 o3 o4 Try.underlying22 rfl rfl) _ (Same.refl _)) (Same.refl _) rfl rfl ?_
      skip
      have gy := Stp.front 1 hO rfl
      dsimp only [eS, eZ] at gy
      replace fv := fv.ch gy.ch
      replace hO := gy.own
      replace ai := ai.ch gy.ch
      replace ad := ad.ch gy.ch
      replace ae := ae.ch gy.ch
      replace ab := ab.ch gy.ch
      replace af := af.ch gy.ch
      replace aa := aa.ch gy.ch
      replace ag := ag.ch gy.ch
      replace ah := ah.ch gy.ch
      replace hB := hB.trans gy.fr
      have hobt := t2take (hf := (Fl.int .i64)) hO lj lk
      obtain ⟨v8, iY, v9⟩ := hobt
      replace fv := fv.ch iY.ch
      replace hO := iY.own
      replace ai := ai.ch iY.ch
      replace ad := ad.ch iY.ch
      replace ae := ae.ch iY.ch
      replace ab := ab.ch iY.ch
      replace af := af.ch iY.ch
      replace aa := aa.ch iY.ch
      replace ag := ag.ch iY.ch
      replace ah := ah.ch iY.ch
      replace hB := hB.trans iY.fr
      have o5 := v9 (bl [.row 3 1 (((aB r267.toNat)) r279.toNat).1 ((ix ((ix d_253 r267)) r279).length) ((((aB r267.toNat)) r279.toNat).2) v8, t2h (Fl.int .i64) 26 3 (ps255 r267.toNat).1 ((ix d_253 r267).length) ((ps255 r267.toNat).2) ((aB r267.toNat)) ((ix d_253 r267)) r279.toNat, .row 3 1 rF 1 1 [.int .i64 (k3_251 : Int)], famH d_253.length (lay3 (Fl.int .i64) 26 3 ps255 aB d_253) r267.toNat, t2 Fl.bool 42 4 aY aW a8 bA d_252, .row 22 1 a9 aX ba bm, .blk B38 (.cells #[.slice p60 r140.length c61, .slice p54 r152.length c55, .slice a9 aX ba, .slice aY aW a8] 35 (0, 0)), .blk B21 (.cells #[.slice av r14.R.length aw, .slice ax r14.L.length ay, .slice am r14.J.length ao, .slice az r14.H.length aA, .slice aj r14.Below.length ak] 29 (0, 0)), .blk B2 (.cells #[.slice none 0 0, .slice none 0 0, .slice none 0 0, .slice none 0 0] 35 (0, 0))] ++ A)
      have hobt := freeze 2 hO rfl fv
      obtain ⟨hO1, kz, aF, wa⟩ := hobt
      dsimp only [eS, eZ] at hO1 kz aF
      replace ai := ai.ch kz
      replace ad := ad.ch kz
      replace ae := ae.ch kz
      replace ab := ab.ch kz
      replace af := af.ch kz
      replace aa := aa.ch kz
      replace ag := ag.ch kz
      replace ah := ah.ch kz
      replace o5 := o5.ch kz
      replace hB := hB.trans (Owns.J0W _ _ 2)
      dsimp only [eS, eZ] at hB
      replace hO := hO1; clear hO1
      obtain ⟨yv, H⟩ := H
      have hobt := oapp Try.underlying26 ti3 rfl 0 hO rfl o5 aF wa yv (by decide)
      obtain ⟨BB, rG, rH, zF, gz, mg, ud⟩ := hobt
      dsimp only [sS, sZ] at gz mg
      refine GoT.stepX rfl (ud (by exact rfl) (by exact rfl)) rfl rfl rfl ?_
      replace hO := gz.own
      replace ai := ai.ch gz.ch
      replace ad := ad.ch gz.ch
      replace ae := ae.ch gz.ch
      replace ab := ab.ch gz.ch
      replace af := af.ch gz.ch
      replace aa := aa.ch gz.ch
      replace ag := ag.ch gz.ch
      replace ah := ah.ch gz.ch
      replace aF := aF.ch gz.ch
      replace hB := hB.trans gz.fr
      obtain ⟨rI, H⟩ := H
      obtain ⟨rJ, H⟩ := H
      refine GoT.pure rfl (J01 Try.underlying22 ti26 rfl rfl rI (ltn (t2neqH 1 hO rfl) rJ) (t2someH 1 hO rfl rI rJ)) rfl rfl ?_
      skip
      have dx := Stp.front 1 hO rfl
      dsimp only [eS, eZ] at dx
      replace mg := mg.ch dx.ch
      replace hO := dx.own
      replace ai := ai.ch dx.ch
      replace ad := ad.ch dx.ch
      replace ae := ae.ch dx.ch
      replace ab := ab.ch dx.ch
      replace af := af.ch dx.ch
      replace aa := aa.ch dx.ch
      replace ag := ag.ch dx.ch
      replace ah := ah.ch dx.ch
      replace aF := aF.ch dx.ch
      replace hB := hB.trans dx.fr
      have dy := Stp.front 1 hO rfl
      dsimp only [eS, eZ] at dy
      replace mg := mg.ch dy.ch
      replace hO := dy.own
      replace ai := ai.ch dy.ch
      replace ad := ad.ch dy.ch
      replace ae := ae.ch dy.ch
      replace ab := ab.ch dy.ch
      replace af := af.ch dy.ch
      replace aa := aa.ch dy.ch
      replace ag := ag.ch dy.ch
      replace ah := ah.ch dy.ch
      replace aF := aF.ch dy.ch
      replace hB := hB.trans dy.fr
      have hobt := t2fix (hf := (Fl.int .i64)) hO mg rI rJ rfl
      obtain ⟨BC, i4, ue⟩ := hobt
      refine GoT.stepX rfl (ue Try.underlying26 rfl ti26 (by exact rfl) (by exact rfl)) rfl rfl rfl ?_
      replace hO := i4.own
      replace ai := ai.ch i4.ch
      replace ad := ad.ch i4.ch
      replace ae := ae.ch i4.ch
      replace ab := ab.ch i4.ch
      replace af := af.ch i4.ch
      replace aa := aa.ch i4.ch
      replace ag := ag.ch i4.ch
      replace ah := ah.ch i4.ch
      replace aF := aF.ch i4.ch
      replace hB := hB.trans i4.fr
      refine GoT.nil ?_
      refine Go1.drawS 1 [(0, .pure), (1, .stable), (2, .pure), (3, .pure), (4, .stable), (5, .pure), (6, .pure), (7, .stable), (8, .pure), (9, .pure), (10, .stable), (11, .pure), (12, .pure), (13, .stable), (14, .pure), (15, .pure), (16, .pure), (17, .pure), (18, .stable), (19, .pure), (20, .pure), (21, .stable), (22, .pure), (23, .pure), (24, .pure), (25, .pure), (26, .last)] mixed (by kernel_rfl) ?_
      intro BD wc
      have i5 := Stp.same hO wc
      replace hO := i5.own
      replace ai := ai.ch i5.ch
      replace ad := ad.ch i5.ch
      replace ae := ae.ch i5.ch
      replace ab := ab.ch i5.ch
      replace af := af.ch i5.ch
      replace aa := aa.ch i5.ch
      replace ag := ag.ch i5.ch
      replace ah := ah.ch i5.ch
      replace aF := aF.ch i5.ch
      replace hB := hB.trans i5.fr
      refine GoQ.pure rfl (J03 Try.underlying35 rfl ti27 rfl (by decide)) rfl rfl ?_
      refine GoQ.stable rfl (oblk (i := 3) 4 hO rfl rfl Try.underlying27 rfl rfl) rfl rfl ?_
      refine GoQ.pure rfl (J00 rfl) rfl rfl ?_
      obtain ⟨lF, H⟩ := H
      obtain ⟨lG, H⟩ := H
      refine GoQ.pure rfl (J01 Try.underlying27 ti42 rfl rfl lF (ltn (t2neq 2 hO rfl) lG) (t2some 2 hO rfl lF lG)) rfl rfl ?_
      refine GoQ.stable rfl (t2head 2 hO rfl lF lG Try.underlying42 rfl rfl) rfl rfl ?_
      refine GoQ.pure rfl (J00 rfl) rfl rfl ?_
      refine GoQ.pure rfl (J03 Try.underlying35 rfl ti27 rfl (by decide)) rfl rfl ?_
      refine GoQ.stable rfl (oblk (i := 3) 4 hO rfl rfl Try.underlying27 rfl rfl) rfl rfl ?_
      refine GoQ.pure rfl (J00 rfl) rfl rfl ?_
      obtain ⟨nf, H⟩ := H
      obtain ⟨ng, H⟩ := H
      refine GoQ.pure rfl (J01 Try.underlying27 ti42 rfl rfl nf (ltn (t2neq 2 hO rfl) ng) (t2some 2 hO rfl nf ng)) rfl rfl ?_
      refine GoQ.stable rfl (t2head 2 hO rfl nf ng Try.underlying42 rfl rfl) rfl rfl ?_
      refine GoQ.pure rfl (J00 rfl) rfl rfl ?_
      obtain ⟨o6, H⟩ := H
      obtain ⟨o7, H⟩ := H
      refine GoQ.pure rfl (J01 Try.underlying42 ti4 rfl rfl o6 o7 (t2isome 2 hO rfl nf ng o6 o7)) rfl rfl ?_
      by_cases o8 : ix (ix d_252 r267) r279 = true
      ·replace H := ifp o8 H
       refine GoQ.stable rfl (fun w hw => opB ((t2Bool 2 hO rfl nf ng o6 o7 Try.underlying4 rfl rfl) w hw) (o8)) rfl rfl ?_
       refine GoQ.pure rfl (J00 rfl) rfl rfl ?_
       refine GoQ.pass rfl rfl rfl ?_
       refine GoQ.pass rfl rfl rfl ?_
       refine GoQ.pass rfl rfl rfl ?_
       refine GoQ.pass rfl rfl rfl ?_
       refine GoQ.pass rfl rfl rfl ?_
       refine GoQ.pass rfl rfl rfl ?_
       refine GoQ.pass rfl rfl rfl ?_
       refine GoQ.pass rfl rfl rfl ?_
       refine GoQ.pass rfl rfl rfl ?_
       refine GoQ.pure rfl (J1t rfl rfl rfl) rfl rfl ?_
       obtain ⟨rK, H⟩ := H
       obtain ⟨rL, H⟩ := H
       refine GoQ.pure rfl (J01 Try.underlying42 ti4 rfl rfl rK rL (t2isome 2 hO rfl lF lG rK rL)) rfl rfl ?_
       have hobt := t2st (r := Rp.bool) (hf := Fl.bool) rfl 2 hO rfl lF lG rK rL (v := .bool true) (u := true) rfl rfl
       obtain ⟨BE, gA, uf⟩ := hobt
       dsimp only [sS, sZ] at gA
       refine GoQ.last rfl (uf Try.underlying4 rfl ti4 (by exact rfl) (by exact rfl)) rfl rfl ?_
       replace hO := gA.own
       replace ai := ai.ch gA.ch
       replace ad := ad.ch gA.ch
       replace ae := ae.ch gA.ch
       replace ab := ab.ch gA.ch
       replace af := af.ch gA.ch
       replace aa := aa.ch gA.ch
       replace ag := ag.ch gA.ch
       replace ah := ah.ch gA.ch
       replace aF := aF.ch gA.ch
       replace hB := hB.trans gA.fr
       refine GoQ.nil ?_
       refine Go1.inBlock ?_
       refine Go1.cut [(0, .slice bn a0.length bo), (1, .int .i64 a1), (4, .pointer (some ⟨B2, 0, none⟩)), (7, .pointer (some ⟨B21, 0, none⟩)), (8, .pointer (some ⟨B38, 0, none⟩)), (106, .slice am r14.J.length ao), (107, .int .i64 (r14.J.length : Int)), (108, .int .i64 (k3_251 : Int))] ⟨rfl, rfl, rfl, rfl, rfl, rfl, rfl, rfl, trivial⟩ ?_
       intro σ _
       refine Go1.region ?_
       refine GoR.op ((J06 rfl rfl (wrap_i64 (natbd bG ab.bd))) _) rfl rfl ?_
       refine GoR.op ((J00 rfl) _) rfl rfl ?_
       refine GoR.nil ?_
       have gB := Stp.front 1 hO rfl
       dsimp only [eS, eZ] at gB
       replace hO := gB.own
       replace ai := ai.ch gB.ch
       replace ad := ad.ch gB.ch
       replace ae := ae.ch gB.ch
       replace ab := ab.ch gB.ch
       replace af := af.ch gB.ch
       replace aa := aa.ch gB.ch
       replace ag := ag.ch gB.ch
       replace ah := ah.ch gB.ch
       replace aF := aF.ch gB.ch
       replace hB := hB.trans gB.fr
       have gC := Stp.front 1 hO rfl
       dsimp only [eS, eZ] at gC
       replace hO := gC.own
       replace ai := ai.ch gC.ch
       replace ad := ad.ch gC.ch
       replace ae := ae.ch gC.ch
       replace ab := ab.ch gC.ch
       replace af := af.ch gC.ch
       replace aa := aa.ch gC.ch
       replace ag := ag.ch gC.ch
       replace ah := ah.ch gC.ch
       replace aF := aF.ch gC.ch
       replace hB := hB.trans gC.fr
       have hobt := t3backF (hf := (Fl.int .i64)) hO hF257 bM bN (by simp only [J02])
       obtain ⟨i6, hF631⟩ := hobt
       replace hO := i6.own
       replace ai := ai.ch i6.ch
       replace ad := ad.ch i6.ch
       replace ae := ae.ch i6.ch
       replace ab := ab.ch i6.ch
       replace af := af.ch i6.ch
       replace aa := aa.ch i6.ch
       replace ag := ag.ch i6.ch
       replace ah := ah.ch i6.ch
       replace aF := aF.ch i6.ch
       replace hB := hB.trans i6.fr
       have gD := Stp.front 5 hO rfl
       dsimp only [eS, eZ] at gD
       replace hO := gD.own
       replace ai := ai.ch gD.ch
       replace ad := ad.ch gD.ch
       replace ae := ae.ch gD.ch
       replace ab := ab.ch gD.ch
       replace af := af.ch gD.ch
       replace aa := aa.ch gD.ch
       replace ag := ag.ch gD.ch
       replace ah := ah.ch gD.ch
       replace aF := aF.ch gD.ch
       replace hB := hB.trans gD.fr
       have gE := Stp.front 5 hO rfl
       dsimp only [eS, eZ] at gE
       replace hO := gE.own
       replace ai := ai.ch gE.ch
       replace ad := ad.ch gE.ch
       replace ae := ae.ch gE.ch
       replace ab := ab.ch gE.ch
       replace af := af.ch gE.ch
       replace aa := aa.ch gE.ch
       replace ag := ag.ch gE.ch
       replace ah := ah.ch gE.ch
       replace aF := aF.ch gE.ch
       replace hB := hB.trans gE.fr
       have gF := Stp.front 5 hO rfl
       dsimp only [eS, eZ] at gF
       replace hO := gF.own
       replace ai := ai.ch gF.ch
       replace ad := ad.ch gF.ch
       replace ae := ae.ch gF.ch
       replace ab := ab.ch gF.ch
       replace af := af.ch gF.ch
       replace aa := aa.ch gF.ch
       replace ag := ag.ch gF.ch
       replace ah := ah.ch gF.ch
       replace aF := aF.ch gF.ch
       replace hB := hB.trans gF.fr
       have gG := Stp.front 3 hO rfl
       dsimp only [eS, eZ] at gG
       replace hO := gG.own
       replace ai := ai.ch gG.ch
       replace ad := ad.ch gG.ch
       replace ae := ae.ch gG.ch
       replace ab := ab.ch gG.ch
       replace af := af.ch gG.ch
       replace aa := aa.ch gG.ch
       replace ag := ag.ch gG.ch
       replace ah := ah.ch gG.ch
       replace aF := aF.ch gG.ch
       replace hB := hB.trans gG.fr
       have gH := Stp.front 5 hO rfl
       dsimp only [eS, eZ] at gH
       replace hO := gH.own
       replace ai := ai.ch gH.ch
       replace ad := ad.ch gH.ch
       replace ae := ae.ch gH.ch
       replace ab := ab.ch gH.ch
       replace af := af.ch gH.ch
       replace aa := aa.ch gH.ch
       replace ag := ag.ch gH.ch
       replace ah := ah.ch gH.ch
       replace aF := aF.ch gH.ch
       replace hB := hB.trans gH.fr
       have gI := Stp.front 5 hO rfl
       dsimp only [eS, eZ] at gI
       replace hO := gI.own
       replace ai := ai.ch gI.ch
       replace ad := ad.ch gI.ch
       replace ae := ae.ch gI.ch
       replace ab := ab.ch gI.ch
       replace af := af.ch gI.ch
       replace aa := aa.ch gI.ch
       replace ag := ag.ch gI.ch
       replace ah := ah.ch gI.ch
       replace aF := aF.ch gI.ch
       replace hB := hB.trans gI.fr
       exact hX3 _ H _ _ ⟨bm, ps255, (fun k => if k = r267.toNat then hup ((aB r267.toNat)) r279.toNat (rG, rH) else aB k), ⟨rfl, rfl, rfl, rfl, rfl, rfl, rfl, rfl, trivial⟩, hO, hF631, ai, ad, ae, ab, af, aa, ag, ah, hB⟩
      replace H := ifn o8 H
      refine GoQ.stable rfl (fun w hw => opB ((t2Bool 2 hO rfl nf ng o6 o7 Try.underlying4 rfl rfl) w hw) (Bool.eq_false_iff.2 o8)) rfl rfl ?_
      refine GoQ.pure rfl (J00 rfl) rfl rfl ?_
      refine GoQ.pure rfl (J00 rfl) rfl rfl ?_
      refine GoQ.pure rfl (J00 rfl) rfl rfl ?_
      obtain ⟨rM, H⟩ := H
      obtain ⟨rN, H⟩ := H
      refine GoQ.pure rfl (J01 Try.underlying22 ti26 rfl rfl rM rN (ai.some_ rM rN)) rfl rfl ?_
      have hobt := ldSl ai rM rN
      obtain ⟨BG, BH, bi, wg⟩ := hobt
      refine GoQ.stable rfl (wg Try.underlying26 rfl rfl) rfl rfl ?_
      refine GoQ.pure rfl (J00 rfl) rfl rfl ?_
      obtain ⟨rO, H⟩ := H
      obtain ⟨rP, H⟩ := H
      refine GoQ.pure rfl (J01 Try.underlying26 ti3 rfl rfl rO rP (bi.some_ rO rP)) rfl rfl ?_
      refine GoQ.stable rfl (ldInt bi rO rP Try.underlying3 rfl rfl) rfl rfl ?_
      refine GoQ.pure rfl (J00 rfl) rfl rfl ?_
      by_cases o9 : (ix (ix a0 (k3_251 : Int)) (k3_251 : Int)) = (k3_251 : Int)
      ·replace H := ifp o9 H
       refine GoQ.pure rfl (fun w => opB (J15 rfl rfl w) (decide_eq_true o9)) rfl rfl ?_
       refine GoQ.pure rfl (J0m rfl rfl rfl) rfl rfl ?_
       obtain ⟨rQ, H⟩ := H
       obtain ⟨rR, H⟩ := H
       refine GoQ.pure rfl (J01 Try.underlying42 ti4 rfl rfl rQ rR (t2isome 2 hO rfl lF lG rQ rR)) rfl rfl ?_
       have hobt := t2st (r := Rp.bool) (hf := Fl.bool) rfl 2 hO rfl lF lG rQ rR (v := .bool true) (u := true) rfl rfl
       obtain ⟨BJ, dz, ug⟩ := hobt
       dsimp only [sS, sZ] at dz
       refine GoQ.last rfl (ug Try.underlying4 rfl ti4 (by exact rfl) (by exact rfl)) rfl rfl ?_
       replace hO := dz.own
       replace ai := ai.ch dz.ch
       replace ad := ad.ch dz.ch
       replace ae := ae.ch dz.ch
       replace ab := ab.ch dz.ch
       replace af := af.ch dz.ch
       replace aa := aa.ch dz.ch
       replace ag := ag.ch dz.ch
       replace ah := ah.ch dz.ch
       replace aF := aF.ch dz.ch
       replace bi := bi.ch dz.ch
       replace hB := hB.trans dz.fr
       refine GoQ.nil ?_
       refine Go1.inBlock ?_
       refine Go1.region ?_
       refine GoR.op ((J06 rfl rfl (wrap_i64 (natbd bG ab.bd))) _) rfl rfl ?_
       refine GoR.op ((J00 rfl) _) rfl rfl ?_
       refine GoR.nil ?_
       have dA := Stp.front 1 hO rfl
       dsimp only [eS, eZ] at dA
       replace hO := dA.own
       replace ai := ai.ch dA.ch
       replace ad := ad.ch dA.ch
       replace ae := ae.ch dA.ch
       replace ab := ab.ch dA.ch
       replace af := af.ch dA.ch
       replace aa := aa.ch dA.ch
       replace ag := ag.ch dA.ch
       replace ah := ah.ch dA.ch
       replace aF := aF.ch dA.ch
       replace bi := bi.ch dA.ch
       replace hB := hB.trans dA.fr
       have dB := Stp.front 1 hO rfl
       dsimp only [eS, eZ] at dB
       replace hO := dB.own
       replace ai := ai.ch dB.ch
       replace ad := ad.ch dB.ch
       replace ae := ae.ch dB.ch
       replace ab := ab.ch dB.ch
       replace af := af.ch dB.ch
       replace aa := aa.ch dB.ch
       replace ag := ag.ch dB.ch
       replace ah := ah.ch dB.ch
       replace aF := aF.ch dB.ch
       replace bi := bi.ch dB.ch
       replace hB := hB.trans dB.fr
       have hobt := t3backF (hf := (Fl.int .i64)) hO hF257 bM bN (by simp only [J02])
       obtain ⟨gJ, hF655⟩ := hobt
       replace hO := gJ.own
       replace ai := ai.ch gJ.ch
       replace ad := ad.ch gJ.ch
       replace ae := ae.ch gJ.ch
       replace ab := ab.ch gJ.ch
       replace af := af.ch gJ.ch
       replace aa := aa.ch gJ.ch
       replace ag := ag.ch gJ.ch
       replace ah := ah.ch gJ.ch
       replace aF := aF.ch gJ.ch
       replace bi := bi.ch gJ.ch
       replace hB := hB.trans gJ.fr
       have dC := Stp.front 5 hO rfl
       dsimp only [eS, eZ] at dC
       replace hO := dC.own
       replace ai := ai.ch dC.ch
       replace ad := ad.ch dC.ch
       replace ae := ae.ch dC.ch
       replace ab := ab.ch dC.ch
       replace af := af.ch dC.ch
       replace aa := aa.ch dC.ch
       replace ag := ag.ch dC.ch
       replace ah := ah.ch dC.ch
       replace aF := aF.ch dC.ch
       replace bi := bi.ch dC.ch
       replace hB := hB.trans dC.fr
       have dD := Stp.front 5 hO rfl
       dsimp only [eS, eZ] at dD
       replace hO := dD.own
       replace ai := ai.ch dD.ch
       replace ad := ad.ch dD.ch
       replace ae := ae.ch dD.ch
       replace ab := ab.ch dD.ch
       replace af := af.ch dD.ch
       replace aa := aa.ch dD.ch
       replace ag := ag.ch dD.ch
       replace ah := ah.ch dD.ch
       replace aF := aF.ch dD.ch
       replace bi := bi.ch dD.ch
       replace hB := hB.trans dD.fr
       have dE := Stp.front 5 hO rfl
       dsimp only [eS, eZ] at dE
       replace hO := dE.own
       replace ai := ai.ch dE.ch
       replace ad := ad.ch dE.ch
       replace ae := ae.ch dE.ch
       replace ab := ab.ch dE.ch
       replace af := af.ch dE.ch
       replace aa := aa.ch dE.ch
       replace ag := ag.ch dE.ch
       replace ah := ah.ch dE.ch
       replace aF := aF.ch dE.ch
       replace bi := bi.ch dE.ch
       replace hB := hB.trans dE.fr
       have dF := Stp.front 3 hO rfl
       dsimp only [eS, eZ] at dF
       replace hO := dF.own
       replace ai := ai.ch dF.ch
       replace ad := ad.ch dF.ch
       replace ae := ae.ch dF.ch
       replace ab := ab.ch dF.ch
       replace af := af.ch dF.ch
       replace aa := aa.ch dF.ch
       replace ag := ag.ch dF.ch
       replace ah := ah.ch dF.ch
       replace aF := aF.ch dF.ch
       replace bi := bi.ch dF.ch
       replace hB := hB.trans dF.fr
       have dG := Stp.front 5 hO rfl
       dsimp only [eS, eZ] at dG
       replace hO := dG.own
       replace ai := ai.ch dG.ch
       replace ad := ad.ch dG.ch
       replace ae := ae.ch dG.ch
       replace ab := ab.ch dG.ch
       replace af := af.ch dG.ch
       replace aa := aa.ch dG.ch
       replace ag := ag.ch dG.ch
       replace ah := ah.ch dG.ch
       replace aF := aF.ch dG.ch
       replace bi := bi.ch dG.ch
       replace hB := hB.trans dG.fr
       have dH := Stp.front 5 hO rfl
       dsimp only [eS, eZ] at dH
       replace hO := dH.own
       replace ai := ai.ch dH.ch
       replace ad := ad.ch dH.ch
       replace ae := ae.ch dH.ch
       replace ab := ab.ch dH.ch
       replace af := af.ch dH.ch
       replace aa := aa.ch dH.ch
       replace ag := ag.ch dH.ch
       replace ah := ah.ch dH.ch
       replace aF := aF.ch dH.ch
       replace bi := bi.ch dH.ch
       replace hB := hB.trans dH.fr
       exact hX3 _ H _ _ ⟨bm, ps255, (fun k => if k = r267.toNat then hup ((aB r267.toNat)) r279.toNat (rG, rH) else aB k), ⟨rfl, rfl, rfl, rfl, rfl, rfl, rfl, rfl, trivial⟩, hO, hF655, ai, ad, ae, ab, af, aa, ag, ah, hB⟩
      replace H := ifn o9 H
      refine GoQ.pure rfl (fun w => opB (J15 rfl rfl w) (decide_eq_false o9)) rfl rfl ?_
      refine GoQ.pure rfl (J0m rfl rfl rfl) rfl rfl ?_
      obtain ⟨rS, H⟩ := H
      obtain ⟨rT, H⟩ := H
      refine GoQ.pure rfl (J01 Try.underlying42 ti4 rfl rfl rS rT (t2isome 2 hO rfl lF lG rS rT)) rfl rfl ?_
      have hobt := t2st (r := Rp.bool) (hf := Fl.bool) rfl 2 hO rfl lF lG rS rT (v := .bool false) (u := false) rfl rfl
      obtain ⟨BK, dI, uh⟩ := hobt
      dsimp only [sS, sZ] at dI
      refine GoQ.last rfl (uh Try.underlying4 rfl ti4 (by exact rfl) (by exact rfl)) rfl rfl ?_
      replace hO := dI.own
      replace ai := ai.ch dI.ch
      replace ad := ad.ch dI.ch
      replace ae := ae.ch dI.ch
      replace ab := ab.ch dI.ch
      replace af := af.ch dI.ch
      replace aa := aa.ch dI.ch
      replace ag := ag.ch dI.ch
      replace ah := ah.ch dI.ch
      replace aF := aF.ch dI.ch
      replace bi := bi.ch dI.ch
      replace hB := hB.trans dI.fr
      refine GoQ.nil ?_
      refine Go1.inBlock ?_
      refine Go1.cut [(0, .slice bn a0.length bo), (1, .int .i64 a1), (4, .pointer (some ⟨B2, 0, none⟩)), (7, .pointer (some ⟨B21, 0, none⟩)), (8, .pointer (some ⟨B38, 0, none⟩)), (106, .slice am r14.J.length ao), (107, .int .i64 (r14.J.length : Int)), (108, .int .i64 (k3_251 : Int))] ⟨rfl, rfl, rfl, rfl, rfl, rfl, rfl, rfl, trivial⟩ ?_
      intro σ _
      refine Go1.region ?_
      refine GoR.op ((J06 rfl rfl (wrap_i64 (natbd bG ab.bd))) _) rfl rfl ?_
      refine GoR.op ((J00 rfl) _) rfl rfl ?_
      refine GoR.nil ?_
      have dJ := Stp.front 1 hO rfl
      dsimp only [eS, eZ] at dJ
      replace hO := dJ.own
      replace ai := ai.ch dJ.ch
      replace ad := ad.ch dJ.ch
      replace ae := ae.ch dJ.ch
      replace ab := ab.ch dJ.ch
      replace af := af.ch dJ.ch
      replace aa := aa.ch dJ.ch
      replace ag := ag.ch dJ.ch
      replace ah := ah.ch dJ.ch
      replace aF := aF.ch dJ.ch
      replace bi := bi.ch dJ.ch
      replace hB := hB.trans dJ.fr
      have dK := Stp.front 1 hO rfl
      dsimp only [eS, eZ] at dK
      replace hO := dK.own
      replace ai := ai.ch dK.ch
      replace ad := ad.ch dK.ch
      replace ae := ae.ch dK.ch
      replace ab := ab.ch dK.ch
      replace af := af.ch dK.ch
      replace aa := aa.ch dK.ch
      replace ag := ag.ch dK.ch
      replace ah := ah.ch dK.ch
      replace aF := aF.ch dK.ch
      replace bi := bi.ch dK.ch
      replace hB := hB.trans dK.fr
      have hobt := t3backF (hf := (Fl.int .i64)) hO hF257 bM bN (by simp only [J02])
      obtain ⟨gK, hF670⟩ := hobt
      replace hO := gK.own
      replace ai := ai.ch gK.ch
      replace ad := ad.ch gK.ch
      replace ae := ae.ch gK.ch
      replace ab := ab.ch gK.ch
      replace af := af.ch gK.ch
      replace aa := aa.ch gK.ch
      replace ag := ag.ch gK.ch
      replace ah := ah.ch gK.ch
      replace aF := aF.ch gK.ch
      replace bi := bi.ch gK.ch
      replace hB := hB.trans gK.fr
      have dM := Stp.front 5 hO rfl
      dsimp only [eS, eZ] at dM
      replace hO := dM.own
      replace ai := ai.ch dM.ch
      replace ad := ad.ch dM.ch
      replace ae := ae.ch dM.ch
      replace ab := ab.ch dM.ch
      replace af := af.ch dM.ch
      replace aa := aa.ch dM.ch
      replace ag := ag.ch dM.ch
      replace ah := ah.ch dM.ch
      replace aF := aF.ch dM.ch
      replace bi := bi.ch dM.ch
      replace hB := hB.trans dM.fr
      have dN := Stp.front 5 hO rfl
      dsimp only [eS, eZ] at dN
      replace hO := dN.own
      replace ai := ai.ch dN.ch
      replace ad := ad.ch dN.ch
      replace ae := ae.ch dN.ch
      replace ab := ab.ch dN.ch
      replace af := af.ch dN.ch
      replace aa := aa.ch dN.ch
      replace ag := ag.ch dN.ch
      replace ah := ah.ch dN.ch
      replace aF := aF.ch dN.ch
      replace bi := bi.ch dN.ch
      replace hB := hB.trans dN.fr
      have dO := Stp.front 5 hO rfl
      dsimp only [eS, eZ] at dO
      replace hO := dO.own
      replace ai := ai.ch dO.ch
      replace ad := ad.ch dO.ch
      replace ae := ae.ch dO.ch
      replace ab := ab.ch dO.ch
      replace af := af.ch dO.ch
      replace aa := aa.ch dO.ch
      replace ag := ag.ch dO.ch
      replace ah := ah.ch dO.ch
      replace aF := aF.ch dO.ch
      replace bi := bi.ch dO.ch
      replace hB := hB.trans dO.fr
      have dP := Stp.front 3 hO rfl
      dsimp only [eS, eZ] at dP
      replace hO := dP.own
      replace ai := ai.ch dP.ch
      replace ad := ad.ch dP.ch
      replace ae := ae.ch dP.ch
      replace ab := ab.ch dP.ch
      replace af := af.ch dP.ch
      replace aa := aa.ch dP.ch
      replace ag := ag.ch dP.ch
      replace ah := ah.ch dP.ch
      replace aF := aF.ch dP.ch
      replace bi := bi.ch dP.ch
      replace hB := hB.trans dP.fr
      have dQ := Stp.front 5 hO rfl
      dsimp only [eS, eZ] at dQ
      replace hO := dQ.own
      replace ai := ai.ch dQ.ch
      replace ad := ad.ch dQ.ch
      replace ae := ae.ch dQ.ch
      replace ab := ab.ch dQ.ch
      replace af := af.ch dQ.ch
      replace aa := aa.ch dQ.ch
      replace ag := ag.ch dQ.ch
      replace ah := ah.ch dQ.ch
      replace aF := aF.ch dQ.ch
      replace bi := bi.ch dQ.ch
      replace hB := hB.trans dQ.fr
      have dS := Stp.front 5 hO rfl
      dsimp only [eS, eZ] at dS
      replace hO := dS.own
      replace ai := ai.ch dS.ch
      replace ad := ad.ch dS.ch
      replace ae := ae.ch dS.ch
      replace ab := ab.ch dS.ch
      replace af := af.ch dS.ch
      replace aa := aa.ch dS.ch
      replace ag := ag.ch dS.ch
      replace ah := ah.ch dS.ch
      replace aF := aF.ch dS.ch
      replace bi := bi.ch dS.ch
      replace hB := hB.trans dS.fr
      exact hX3 _ H _ _ ⟨bm, ps255, (fun k => if k = r267.toNat then hup ((aB r267.toNat)) r279.toNat (rG, rH) else aB k), ⟨rfl, rfl, rfl, rfl, rfl, rfl, rfl, rfl, trivial⟩, hO, hF670, ai, ad, ae, ab, af, aa, ag, ah, hB⟩
     skip
     have gL := Stp.front 1 hO rfl
     dsimp only [eS, eZ] at gL
     replace fv := fv.ch gL.ch
     replace hO := gL.own
     replace ai := ai.ch gL.ch
     replace ad := ad.ch gL.ch
     replace ae := ae.ch gL.ch
     replace ab := ab.ch gL.ch
     replace af := af.ch gL.ch
     replace aa := aa.ch gL.ch
     replace ag := ag.ch gL.ch
     replace ah := ah.ch gL.ch
     replace hB := hB.trans gL.fr
     have hobt := t2take (hf := (Fl.int .i64)) hO lj lk
     obtain ⟨wh, i7, wi⟩ := hobt
     replace fv := fv.ch i7.ch
     replace hO := i7.own
     replace ai := ai.ch i7.ch
     replace ad := ad.ch i7.ch
     replace ae := ae.ch i7.ch
     replace ab := ab.ch i7.ch
     replace af := af.ch i7.ch
     replace aa := aa.ch i7.ch
     replace ag := ag.ch i7.ch
     replace ah := ah.ch i7.ch
     replace hB := hB.trans i7.fr
     have pc := wi (bl [.row 3 1 (((aB r267.toNat)) r279.toNat).1 ((ix ((ix d_253 r267)) r279).length) ((((aB r267.toNat)) r279.toNat).2) wh, t2h (Fl.int .i64) 26 3 (ps255 r267.toNat).1 ((ix d_253 r267).length) ((ps255 r267.toNat).2) ((aB r267.toNat)) ((ix d_253 r267)) r279.toNat, .row 3 1 rF 1 1 [.int .i64 (k3_251 : Int)], famH d_253.length (lay3 (Fl.int .i64) 26 3 ps255 aB d_253) r267.toNat, t2 Fl.bool 42 4 aY aW a8 bA d_252, .row 22 1 a9 aX ba bm, .blk B38 (.cells #[.slice p60 r140.length c61, .slice p54 r152.length c55, .slice a9 aX ba, .slice aY aW a8] 35 (0, 0)), .blk B21 (.cells #[.slice av r14.R.length aw, .slice ax r14.L.length ay, .slice am r14.J.length ao, .slice az r14.H.length aA, .slice aj r14.Below.length ak] 29 (0, 0)), .blk B2 (.cells #[.slice none 0 0, .slice none 0 0, .slice none 0 0, .slice none 0 0] 35 (0, 0))] ++ A)
     have hobt := freeze 2 hO rfl fv
     obtain ⟨hO1, kA, aG, wj⟩ := hobt
     dsimp only [eS, eZ] at hO1 kA aG
     replace ai := ai.ch kA
     replace ad := ad.ch kA
     replace ae := ae.ch kA
     replace ab := ab.ch kA
     replace af := af.ch kA
     replace aa := aa.ch kA
     replace ag := ag.ch kA
     replace ah := ah.ch kA
     replace pc := pc.ch kA
     replace hB := hB.trans (Owns.J0W _ _ 2)
     dsimp only [eS, eZ] at hB
     replace hO := hO1; clear hO1
     obtain ⟨yw, H⟩ := H
     have hobt := oapp Try.underlying26 ti3 rfl 0 hO rfl pc aG wj yw (by decide)
     obtain ⟨BL, rU, rV, zG, gM, mh, ui⟩ := hobt
     dsimp only [sS, sZ] at gM mh
     refine GoT.stepX rfl (ui (by exact rfl) (by exact rfl)) rfl rfl rfl ?_
     replace hO := gM.own
     replace ai := ai.ch gM.ch
     replace ad := ad.ch gM.ch
     replace ae := ae.ch gM.ch
     replace ab := ab.ch gM.ch
     replace af := af.ch gM.ch
     replace aa := aa.ch gM.ch
     replace ag := ag.ch gM.ch
     replace ah := ah.ch gM.ch
     replace aG := aG.ch gM.ch
     replace hB := hB.trans gM.fr
     skip
     refine GoT.step rfl ((t3headF 4 hO rfl hF257 o3 o4 Try.underlying22 rfl rfl) _ (Same.refl _)) (Same.refl _) rfl rfl ?_
     obtain ⟨rW, H⟩ := H
     obtain ⟨rX, H⟩ := H
     refine GoT.pure rfl (J01 Try.underlying22 ti26 rfl rfl rW (ltn (t2neqH 1 hO rfl) rX) (t2someH 1 hO rfl rW rX)) rfl rfl ?_
     skip
     have dT := Stp.front 1 hO rfl
     dsimp only [eS, eZ] at dT
     replace mh := mh.ch dT.ch
     replace hO := dT.own
     replace ai := ai.ch dT.ch
     replace ad := ad.ch dT.ch
     replace ae := ae.ch dT.ch
     replace ab := ab.ch dT.ch
     replace af := af.ch dT.ch
     replace aa := aa.ch dT.ch
     replace ag := ag.ch dT.ch
     replace ah := ah.ch dT.ch
     replace aG := aG.ch dT.ch
     replace hB := hB.trans dT.fr
     have dU := Stp.front 1 hO rfl
     dsimp only [eS, eZ] at dU
     replace mh := mh.ch dU.ch
     replace hO := dU.own
     replace ai := ai.ch dU.ch
     replace ad := ad.ch dU.ch
     replace ae := ae.ch dU.ch
     replace ab := ab.ch dU.ch
     replace af := af.ch dU.ch
     replace aa := aa.ch dU.ch
     replace ag := ag.ch dU.ch
     replace ah := ah.ch dU.ch
     replace aG := aG.ch dU.ch
     replace hB := hB.trans dU.fr
     have hobt := t2fix (hf := (Fl.int .i64)) hO mh rW rX rfl
     obtain ⟨BM, i8, uj⟩ := hobt
     refine GoT.stepX rfl (uj Try.underlying26 rfl ti26 (by exact rfl) (by exact rfl)) rfl rfl rfl ?_
     replace hO := i8.own
     replace ai := ai.ch i8.ch
     replace ad := ad.ch i8.ch
     replace ae := ae.ch i8.ch
     replace ab := ab.ch i8.ch
     replace af := af.ch i8.ch
     replace aa := aa.ch i8.ch
     replace ag := ag.ch i8.ch
     replace ah := ah.ch i8.ch
     replace aG := aG.ch i8.ch
     replace hB := hB.trans i8.fr
     refine GoT.nil ?_
     refine Go1.drawS 1 [(0, .pure), (1, .stable), (2, .pure), (3, .pure), (4, .stable), (5, .pure), (6, .pure), (7, .stable), (8, .pure), (9, .pure), (10, .stable), (11, .pure), (12, .pure), (13, .stable), (14, .pure), (15, .pure), (16, .pure), (17, .pure), (18, .stable), (19, .pure), (20, .pure), (21, .stable), (22, .pure), (23, .pure), (24, .pure), (25, .pure), (26, .last)] mixed (by kernel_rfl) ?_
     intro BN wk
     have i9 := Stp.same hO wk
     replace hO := i9.own
     replace ai := ai.ch i9.ch
     replace ad := ad.ch i9.ch
     replace ae := ae.ch i9.ch
     replace ab := ab.ch i9.ch
     replace af := af.ch i9.ch
     replace aa := aa.ch i9.ch
     replace ag := ag.ch i9.ch
     replace ah := ah.ch i9.ch
     replace aG := aG.ch i9.ch
     replace hB := hB.trans i9.fr
     refine GoQ.pure rfl (J03 Try.underlying35 rfl ti27 rfl (by decide)) rfl rfl ?_
     refine GoQ.stable rfl (oblk (i := 3) 4 hO rfl rfl Try.underlying27 rfl rfl) rfl rfl ?_
     refine GoQ.pure rfl (J00 rfl) rfl rfl ?_
     obtain ⟨lH, H⟩ := H
     obtain ⟨lI, H⟩ := H
     refine GoQ.pure rfl (J01 Try.underlying27 ti42 rfl rfl lH (ltn (t2neq 2 hO rfl) lI) (t2some 2 hO rfl lH lI)) rfl rfl ?_
     refine GoQ.stable rfl (t2head 2 hO rfl lH lI Try.underlying42 rfl rfl) rfl rfl ?_
     refine GoQ.pure rfl (J00 rfl) rfl rfl ?_
     refine GoQ.pure rfl (J03 Try.underlying35 rfl ti27 rfl (by decide)) rfl rfl ?_
     refine GoQ.stable rfl (oblk (i := 3) 4 hO rfl rfl Try.underlying27 rfl rfl) rfl rfl ?_
     refine GoQ.pure rfl (J00 rfl) rfl rfl ?_
     obtain ⟨nh, H⟩ := H
     obtain ⟨ni, H⟩ := H
     refine GoQ.pure rfl (J01 Try.underlying27 ti42 rfl rfl nh (ltn (t2neq 2 hO rfl) ni) (t2some 2 hO rfl nh ni)) rfl rfl ?_
     refine GoQ.stable rfl (t2head 2 hO rfl nh ni Try.underlying42 rfl rfl) rfl rfl ?_
     refine GoQ.pure rfl (J00 rfl) rfl rfl ?_
     obtain ⟨pe, H⟩ := H
     obtain ⟨pg, H⟩ := H
     refine GoQ.pure rfl (J01 Try.underlying42 ti4 rfl rfl pe pg (t2isome 2 hO rfl nh ni pe pg)) rfl rfl ?_
     by_cases ph : ix (ix d_252 r267) r279 = true
     ·replace H := ifp ph H
      refine GoQ.stable rfl (fun w hw => opB ((t2Bool 2 hO rfl nh ni pe pg Try.underlying4 rfl rfl) w hw) (ph)) rfl rfl ?_
      refine GoQ.pure rfl (J00 rfl) rfl rfl ?_
      refine GoQ.pass rfl rfl rfl ?_
      refine GoQ.pass rfl rfl rfl ?_
      refine GoQ.pass rfl rfl rfl ?_
      refine GoQ.pass rfl rfl rfl ?_
      refine GoQ.pass rfl rfl rfl ?_
      refine GoQ.pass rfl rfl rfl ?_
      refine GoQ.pass rfl rfl rfl ?_
      refine GoQ.pass rfl rfl rfl ?_
      refine GoQ.pass rfl rfl rfl ?_
      refine GoQ.pure rfl (J1t rfl rfl rfl) rfl rfl ?_
      obtain ⟨rY, H⟩ := H
      obtain ⟨sb, H⟩ := H
      refine GoQ.pure rfl (J01 Try.underlying42 ti4 rfl rfl rY sb (t2isome 2 hO rfl lH lI rY sb)) rfl rfl ?_
      have hobt := t2st (r := Rp.bool) (hf := Fl.bool) rfl 2 hO rfl lH lI rY sb (v := .bool true) (u := true) rfl rfl
      obtain ⟨BO, gN, uk⟩ := hobt
      dsimp only [sS, sZ] at gN
      refine GoQ.last rfl (uk Try.underlying4 rfl ti4 (by exact rfl) (by exact rfl)) rfl rfl ?_
      replace hO := gN.own
      replace ai := ai.ch gN.ch
      replace ad := ad.ch gN.ch
      replace ae := ae.ch gN.ch
      replace ab := ab.ch gN.ch
      replace af := af.ch gN.ch
      replace aa := aa.ch gN.ch
      replace ag := ag.ch gN.ch
      replace ah := ah.ch gN.ch
      replace aG := aG.ch gN.ch
      replace hB := hB.trans gN.fr
      refine GoQ.nil ?_
      refine Go1.inBlock ?_
      refine Go1.cut [(0, .slice bn a0.length bo), (1, .int .i64 a1), (4, .pointer (some ⟨B2, 0, none⟩)), (7, .pointer (some ⟨B21, 0, none⟩)), (8, .pointer (some ⟨B38, 0, none⟩)), (106, .slice am r14.J.length ao), (107, .int .i64 (r14.J.length : Int)), (108, .int .i64 (k3_251 : Int))] ⟨rfl, rfl, rfl, rfl, rfl, rfl, rfl, rfl, trivial⟩ ?_
      intro σ _
      refine Go1.region ?_
      refine GoR.op ((J06 rfl rfl (wrap_i64 (natbd bG ab.bd))) _) rfl rfl ?_
      refine GoR.op ((J00 rfl) _) rfl rfl ?_
      refine GoR.nil ?_
      have gO := Stp.front 1 hO rfl
      dsimp only [eS, eZ] at gO
      replace hO := gO.own
      replace ai := ai.ch gO.ch
      replace ad := ad.ch gO.ch
      replace ae := ae.ch gO.ch
      replace ab := ab.ch gO.ch
      replace af := af.ch gO.ch
      replace aa := aa.ch gO.ch
      replace ag := ag.ch gO.ch
      replace ah := ah.ch gO.ch
      replace aG := aG.ch gO.ch
      replace hB := hB.trans gO.fr
      have gP := Stp.front 1 hO rfl
      dsimp only [eS, eZ] at gP
      replace hO := gP.own
      replace ai := ai.ch gP.ch
      replace ad := ad.ch gP.ch
      replace ae := ae.ch gP.ch
      replace ab := ab.ch gP.ch
      replace af := af.ch gP.ch
      replace aa := aa.ch gP.ch
      replace ag := ag.ch gP.ch
      replace ah := ah.ch gP.ch
      replace aG := aG.ch gP.ch
      replace hB := hB.trans gP.fr
      have hobt := t3backF (hf := (Fl.int .i64)) hO hF257 bM bN (by simp only [J02])
      obtain ⟨ja, hF720⟩ := hobt
      replace hO := ja.own
      replace ai := ai.ch ja.ch
      replace ad := ad.ch ja.ch
      replace ae := ae.ch ja.ch
      replace ab := ab.ch ja.ch
      replace af := af.ch ja.ch
      replace aa := aa.ch ja.ch
      replace ag := ag.ch ja.ch
      replace ah := ah.ch ja.ch
      replace aG := aG.ch ja.ch
      replace hB := hB.trans ja.fr
      have gQ := Stp.front 5 hO rfl
      dsimp only [eS, eZ] at gQ
      replace hO := gQ.own
      replace ai := ai.ch gQ.ch
      replace ad := ad.ch gQ.ch
      replace ae := ae.ch gQ.ch
      replace ab := ab.ch gQ.ch
      replace af := af.ch gQ.ch
      replace aa := aa.ch gQ.ch
      replace ag := ag.ch gQ.ch
      replace ah := ah.ch gQ.ch
      replace aG := aG.ch gQ.ch
      replace hB := hB.trans gQ.fr
      have gR := Stp.front 5 hO rfl
      dsimp only [eS, eZ] at gR
      replace hO := gR.own
      replace ai := ai.ch gR.ch
      replace ad := ad.ch gR.ch
      replace ae := ae.ch gR.ch
      replace ab := ab.ch gR.ch
      replace af := af.ch gR.ch
      replace aa := aa.ch gR.ch
      replace ag := ag.ch gR.ch
      replace ah := ah.ch gR.ch
      replace aG := aG.ch gR.ch
      replace hB := hB.trans gR.fr
      have gS := Stp.front 5 hO rfl
      dsimp only [eS, eZ] at gS
      replace hO := gS.own
      replace ai := ai.ch gS.ch
      replace ad := ad.ch gS.ch
      replace ae := ae.ch gS.ch
      replace ab := ab.ch gS.ch
      replace af := af.ch gS.ch
      replace aa := aa.ch gS.ch
      replace ag := ag.ch gS.ch
      replace ah := ah.ch gS.ch
      replace aG := aG.ch gS.ch
      replace hB := hB.trans gS.fr
      have gT := Stp.front 3 hO rfl
      dsimp only [eS, eZ] at gT
      replace hO := gT.own
      replace ai := ai.ch gT.ch
      replace ad := ad.ch gT.ch
      replace ae := ae.ch gT.ch
      replace ab := ab.ch gT.ch
      replace af := af.ch gT.ch
      replace aa := aa.ch gT.ch
      replace ag := ag.ch gT.ch
      replace ah := ah.ch gT.ch
      replace aG := aG.ch gT.ch
      replace hB := hB.trans gT.fr
      have gU := Stp.front 5 hO rfl
      dsimp only [eS, eZ] at gU
      replace hO := gU.own
      replace ai := ai.ch gU.ch
      replace ad := ad.ch gU.ch
      replace ae := ae.ch gU.ch
      replace ab := ab.ch gU.ch
      replace af := af.ch gU.ch
      replace aa := aa.ch gU.ch
      replace ag := ag.ch gU.ch
      replace ah := ah.ch gU.ch
      replace aG := aG.ch gU.ch
      replace hB := hB.trans gU.fr
      have gV := Stp.front 5 hO rfl
      dsimp only [eS, eZ] at gV
      replace hO := gV.own
      replace ai := ai.ch gV.ch
      replace ad := ad.ch gV.ch
      replace ae := ae.ch gV.ch
      replace ab := ab.ch gV.ch
      replace af := af.ch gV.ch
      replace aa := aa.ch gV.ch
      replace ag := ag.ch gV.ch
      replace ah := ah.ch gV.ch
      replace aG := aG.ch gV.ch
      replace hB := hB.trans gV.fr
      exact hX3 _ H _ _ ⟨bm, ps255, (fun k => if k = r267.toNat then hup ((aB r267.toNat)) r279.toNat (rU, rV) else aB k), ⟨rfl, rfl, rfl, rfl, rfl, rfl, rfl, rfl, trivial⟩, hO, hF720, ai, ad, ae, ab, af, aa, ag, ah, hB⟩
     replace H := ifn ph H
     refine GoQ.stable rfl (fun w hw => opB ((t2Bool 2 hO rfl nh ni pe pg Try.underlying4 rfl rfl) w hw) (Bool.eq_false_iff.2 ph)) rfl rfl ?_
     refine GoQ.pure rfl (J00 rfl) rfl rfl ?_
     refine GoQ.pure rfl (J00 rfl) rfl rfl ?_
     refine GoQ.pure rfl (J00 rfl) rfl rfl ?_
     obtain ⟨sd, H⟩ := H
     obtain ⟨se, H⟩ := H
     refine GoQ.pure rfl (J01 Try.underlying22 ti26 rfl rfl sd se (ai.some_ sd se)) rfl rfl ?_
     have hobt := ldSl ai sd se
     obtain ⟨BP, BQ, bj, wm⟩ := hobt
     refine GoQ.stable rfl (wm Try.underlying26 rfl rfl) rfl rfl ?_
     refine GoQ.pure rfl (J00 rfl) rfl rfl ?_
     obtain ⟨sf, H⟩ := H
     obtain ⟨sj, H⟩ := H
     refine GoQ.pure rfl (J01 Try.underlying26 ti3 rfl rfl sf sj (bj.some_ sf sj)) rfl rfl ?_
     refine GoQ.stable rfl (ldInt bj sf sj Try.underlying3 rfl rfl) rfl rfl ?_
     refine GoQ.pure rfl (J00 rfl) rfl rfl ?_
     by_cases pk : (ix (ix a0 (k3_251 : Int)) (k3_251 : Int)) = (k3_251 : Int)
     ·replace H := ifp pk H
      refine GoQ.pure rfl (fun w => opB (J15 rfl rfl w) (decide_eq_true pk)) rfl rfl ?_
      refine GoQ.pure rfl (J0m rfl rfl rfl) rfl rfl ?_
      obtain ⟨sk, H⟩ := H
      obtain ⟨sn, H⟩ := H
      refine GoQ.pure rfl (J01 Try.underlying42 ti4 rfl rfl sk sn (t2isome 2 hO rfl lH lI sk sn)) rfl rfl ?_
      have hobt := t2st (r := Rp.bool) (hf := Fl.bool) rfl 2 hO rfl lH lI sk sn (v := .bool true) (u := true) rfl rfl
      obtain ⟨BR, dV, ul⟩ := hobt
      dsimp only [sS, sZ] at dV
      refine GoQ.last rfl (ul Try.underlying4 rfl ti4 (by exact rfl) (by exact rfl)) rfl rfl ?_
      replace hO := dV.own
      replace ai := ai.ch dV.ch
      replace ad := ad.ch dV.ch
      replace ae := ae.ch dV.ch
      replace ab := ab.ch dV.ch
      replace af := af.ch dV.ch
      replace aa := aa.ch dV.ch
      replace ag := ag.ch dV.ch
      replace ah := ah.ch dV.ch
      replace aG := aG.ch dV.ch
      replace bj := bj.ch dV.ch
      replace hB := hB.trans dV.fr
      refine GoQ.nil ?_
      refine Go1.inBlock ?_
      refine Go1.region ?_
      refine GoR.op ((J06 rfl rfl (wrap_i64 (natbd bG ab.bd))) _) rfl rfl ?_
      refine GoR.op ((J00 rfl) _) rfl rfl ?_
      refine GoR.nil ?_
      have dW := Stp.front 1 hO rfl
      dsimp only [eS, eZ] at dW
      replace hO := dW.own
      replace ai := ai.ch dW.ch
      replace ad := ad.ch dW.ch
      replace ae := ae.ch dW.ch
      replace ab := ab.ch dW.ch
      replace af := af.ch dW.ch
      replace aa := aa.ch dW.ch
      replace ag := ag.ch dW.ch
      replace ah := ah.ch dW.ch
      replace aG := aG.ch dW.ch
      replace bj := bj.ch dW.ch
      replace hB := hB.trans dW.fr
      have dX := Stp.front 1 hO rfl
      dsimp only [eS, eZ] at dX
      replace hO := dX.own
      replace ai := ai.ch dX.ch
      replace ad := ad.ch dX.ch
      replace ae := ae.ch dX.ch
      replace ab := ab.ch dX.ch
      replace af := af.ch dX.ch
      replace aa := aa.ch dX.ch
      replace ag := ag.ch dX.ch
      replace ah := ah.ch dX.ch
      replace aG := aG.ch dX.ch
      replace bj := bj.ch dX.ch
      replace hB := hB.trans dX.fr
      have hobt := t3backF (hf := (Fl.int .i64)) hO hF257 bM bN (by simp only [J02])
      obtain ⟨gW, hF744⟩ := hobt
      replace hO := gW.own
      replace ai := ai.ch gW.ch
      replace ad := ad.ch gW.ch
      replace ae := ae.ch gW.ch
      replace ab := ab.ch gW.ch
      replace af := af.ch gW.ch
      replace aa := aa.ch gW.ch
      replace ag := ag.ch gW.ch
      replace ah := ah.ch gW.ch
      replace aG := aG.ch gW.ch
      replace bj := bj.ch gW.ch
      replace hB := hB.trans gW.fr
      have dY := Stp.front 5 hO rfl
      dsimp only [eS, eZ] at dY
      replace hO := dY.own
      replace ai := ai.ch dY.ch
      replace ad := ad.ch dY.ch
      replace ae := ae.ch dY.ch
      replace ab := ab.ch dY.ch
      replace af := af.ch dY.ch
      replace aa := aa.ch dY.ch
      replace ag := ag.ch dY.ch
      replace ah := ah.ch dY.ch
      replace aG := aG.ch dY.ch
      replace bj := bj.ch dY.ch
      replace hB := hB.trans dY.fr
      have d5 := Stp.front 5 hO rfl
      dsimp only [eS, eZ] at d5
      replace hO := d5.own
      replace ai := ai.ch d5.ch
      replace ad := ad.ch d5.ch
      replace ae := ae.ch d5.ch
      replace ab := ab.ch d5.ch
      replace af := af.ch d5.ch
      replace aa := aa.ch d5.ch
      replace ag := ag.ch d5.ch
      replace ah := ah.ch d5.ch
      replace aG := aG.ch d5.ch
      replace bj := bj.ch d5.ch
      replace hB := hB.trans d5.fr
      have d6 := Stp.front 5 hO rfl
      dsimp only [eS, eZ] at d6
      replace hO := d6.own
      replace ai := ai.ch d6.ch
      replace ad := ad.ch d6.ch
      replace ae := ae.ch d6.ch
      replace ab := ab.ch d6.ch
      replace af := af.ch d6.ch
      replace aa := aa.ch d6.ch
      replace ag := ag.ch d6.ch
      replace ah := ah.ch d6.ch
      replace aG := aG.ch d6.ch
      replace bj := bj.ch d6.ch
      replace hB := hB.trans d6.fr
      have d7 := Stp.front 3 hO rfl
      dsimp only [eS, eZ] at d7
      replace hO := d7.own
      replace ai := ai.ch d7.ch
      replace ad := ad.ch d7.ch
      replace ae := ae.ch d7.ch
      replace ab := ab.ch d7.ch
      replace af := af.ch d7.ch
      replace aa := aa.ch d7.ch
      replace ag := ag.ch d7.ch
      replace ah := ah.ch d7.ch
      replace aG := aG.ch d7.ch
      replace bj := bj.ch d7.ch
      replace hB := hB.trans d7.fr
      have d8 := Stp.front 5 hO rfl
      dsimp only [eS, eZ] at d8
      replace hO := d8.own
      replace ai := ai.ch d8.ch
      replace ad := ad.ch d8.ch
      replace ae := ae.ch d8.ch
      replace ab := ab.ch d8.ch
      replace af := af.ch d8.ch
      replace aa := aa.ch d8.ch
      replace ag := ag.ch d8.ch
      replace ah := ah.ch d8.ch
      replace aG := aG.ch d8.ch
      replace bj := bj.ch d8.ch
      replace hB := hB.trans d8.fr
      have d9 := Stp.front 5 hO rfl
      dsimp only [eS, eZ] at d9
      replace hO := d9.own
      replace ai := ai.ch d9.ch
      replace ad := ad.ch d9.ch
      replace ae := ae.ch d9.ch
      replace ab := ab.ch d9.ch
      replace af := af.ch d9.ch
      replace aa := aa.ch d9.ch
      replace ag := ag.ch d9.ch
      replace ah := ah.ch d9.ch
      replace aG := aG.ch d9.ch
      replace bj := bj.ch d9.ch
      replace hB := hB.trans d9.fr
      exact hX3 _ H _ _ ⟨bm, ps255, (fun k => if k = r267.toNat then hup ((aB r267.toNat)) r279.toNat (rU, rV) else aB k), ⟨rfl, rfl, rfl, rfl, rfl, rfl, rfl, rfl, trivial⟩, hO, hF744, ai, ad, ae, ab, af, aa, ag, ah, hB⟩
     replace H := ifn pk H
     refine GoQ.pure rfl (fun w => opB (J15 rfl rfl w) (decide_eq_false pk)) rfl rfl ?_
     refine GoQ.pure rfl (J0m rfl rfl rfl) rfl rfl ?_
     obtain ⟨sq, H⟩ := H
     obtain ⟨sr, H⟩ := H
     refine GoQ.pure rfl (J01 Try.underlying42 ti4 rfl rfl sq sr (t2isome 2 hO rfl lH lI sq sr)) rfl rfl ?_
     have hobt := t2st (r := Rp.bool) (hf := Fl.bool) rfl 2 hO rfl lH lI sq sr (v := .bool false) (u := false) rfl rfl
     obtain ⟨BS, eh, um⟩ := hobt
     dsimp only [sS, sZ] at eh
     refine GoQ.last rfl (um Try.underlying4 rfl ti4 (by exact rfl) (by exact rfl)) rfl rfl ?_
     replace hO := eh.own
     replace ai := ai.ch eh.ch
     replace ad := ad.ch eh.ch
     replace ae := ae.ch eh.ch
     replace ab := ab.ch eh.ch
     replace af := af.ch eh.ch
     replace aa := aa.ch eh.ch
     replace ag := ag.ch eh.ch
     replace ah := ah.ch eh.ch
     replace aG := aG.ch eh.ch
     replace bj := bj.ch eh.ch
     replace hB := hB.trans eh.fr
     refine GoQ.nil ?_
     refine Go1.inBlock ?_
     refine Go1.cut [(0, .slice bn a0.length bo), (1, .int .i64 a1), (4, .pointer (some ⟨B2, 0, none⟩)), (7, .pointer (some ⟨B21, 0, none⟩)), (8, .pointer (some ⟨B38, 0, none⟩)), (106, .slice am r14.J.length ao), (107, .int .i64 (r14.J.length : Int)), (108, .int .i64 (k3_251 : Int))] ⟨rfl, rfl, rfl, rfl, rfl, rfl, rfl, rfl, trivial⟩ ?_
     intro σ _
     refine Go1.region ?_
     refine GoR.op ((J06 rfl rfl (wrap_i64 (natbd bG ab.bd))) _) rfl rfl ?_
     refine GoR.op ((J00 rfl) _) rfl rfl ?_
     refine GoR.nil ?_
     have en := Stp.front 1 hO rfl
     dsimp only [eS, eZ] at en
     replace hO := en.own
     replace ai := ai.ch en.ch
     replace ad := ad.ch en.ch
     replace ae := ae.ch en.ch
     replace ab := ab.ch en.ch
     replace af := af.ch en.ch
     replace aa := aa.ch en.ch
     replace ag := ag.ch en.ch
     replace ah := ah.ch en.ch
     replace aG := aG.ch en.ch
     replace bj := bj.ch en.ch
     replace hB := hB.trans en.fr
     have eo := Stp.front 1 hO rfl
     dsimp only [eS, eZ] at eo
     replace hO := eo.own
     replace ai := ai.ch eo.ch
     replace ad := ad.ch eo.ch
     replace ae := ae.ch eo.ch
     replace ab := ab.ch eo.ch
     replace af := af.ch eo.ch
     replace aa := aa.ch eo.ch
     replace ag := ag.ch eo.ch
     replace ah := ah.ch eo.ch
     replace aG := aG.ch eo.ch
     replace bj := bj.ch eo.ch
     replace hB := hB.trans eo.fr
     have hobt := t3backF (hf := (Fl.int .i64)) hO hF257 bM bN (by simp only [J02])
     obtain ⟨gX, hF759⟩ := hobt
     replace hO := gX.own
     replace ai := ai.ch gX.ch
     replace ad := ad.ch gX.ch
     replace ae := ae.ch gX.ch
     replace ab := ab.ch gX.ch
     replace af := af.ch gX.ch
     replace aa := aa.ch gX.ch
     replace ag := ag.ch gX.ch
     replace ah := ah.ch gX.ch
     replace aG := aG.ch gX.ch
     replace bj := bj.ch gX.ch
     replace hB := hB.trans gX.fr
     have eA := Stp.front 5 hO rfl
     dsimp only [eS, eZ] at eA
     replace hO := eA.own
     replace ai := ai.ch eA.ch
     replace ad := ad.ch eA.ch
     replace ae := ae.ch eA.ch
     replace ab := ab.ch eA.ch
     replace af := af.ch eA.ch
     replace aa := aa.ch eA.ch
     replace ag := ag.ch eA.ch
     replace ah := ah.ch eA.ch
     replace aG := aG.ch eA.ch
     replace bj := bj.ch eA.ch
     replace hB := hB.trans eA.fr
     have eB := Stp.front 5 hO rfl
     dsimp only [eS, eZ] at eB
     replace hO := eB.own
     replace ai := ai.ch eB.ch
     replace ad := ad.ch eB.ch
     replace ae := ae.ch eB.ch
     replace ab := ab.ch eB.ch
     replace af := af.ch eB.ch
     replace aa := aa.ch eB.ch
     replace ag := ag.ch eB.ch
     replace ah := ah.ch eB.ch
     replace aG := aG.ch eB.ch
     replace bj := bj.ch eB.ch
     replace hB := hB.trans eB.fr
     have eC := Stp.front 5 hO rfl
     dsimp only [eS, eZ] at eC
     replace hO := eC.own
     replace ai := ai.ch eC.ch
     replace ad := ad.ch eC.ch
     replace ae := ae.ch eC.ch
     replace ab := ab.ch eC.ch
     replace af := af.ch eC.ch
     replace aa := aa.ch eC.ch
     replace ag := ag.ch eC.ch
     replace ah := ah.ch eC.ch
     replace aG := aG.ch eC.ch
     replace bj := bj.ch eC.ch
     replace hB := hB.trans eC.fr
     have eF := Stp.front 3 hO rfl
     dsimp only [eS, eZ] at eF
     replace hO := eF.own
     replace ai := ai.ch eF.ch
     replace ad := ad.ch eF.ch
     replace ae := ae.ch eF.ch
     replace ab := ab.ch eF.ch
     replace af := af.ch eF.ch
     replace aa := aa.ch eF.ch
     replace ag := ag.ch eF.ch
     replace ah := ah.ch eF.ch
     replace aG := aG.ch eF.ch
     replace bj := bj.ch eF.ch
     replace hB := hB.trans eF.fr
     have eG := Stp.front 5 hO rfl
     dsimp only [eS, eZ] at eG
     replace hO := eG.own
     replace ai := ai.ch eG.ch
     replace ad := ad.ch eG.ch
     replace ae := ae.ch eG.ch
     replace ab := ab.ch eG.ch
     replace af := af.ch eG.ch
     replace aa := aa.ch eG.ch
     replace ag := ag.ch eG.ch
     replace ah := ah.ch eG.ch
     replace aG := aG.ch eG.ch
     replace bj := bj.ch eG.ch
     replace hB := hB.trans eG.fr
     have eH := Stp.front 5 hO rfl
     dsimp only [eS, eZ] at eH
     replace hO := eH.own
     replace ai := ai.ch eH.ch
     replace ad := ad.ch eH.ch
     replace ae := ae.ch eH.ch
     replace ab := ab.ch eH.ch
     replace af := af.ch eH.ch
     replace aa := aa.ch eH.ch
     replace ag := ag.ch eH.ch
     replace ah := ah.ch eH.ch
     replace aG := aG.ch eH.ch
     replace bj := bj.ch eH.ch
     replace hB := hB.trans eH.fr
     exact hX3 _ H _ _ ⟨bm, ps255, (fun k => if k = r267.toNat then hup ((aB r267.toNat)) r279.toNat (rU, rV) else aB k), ⟨rfl, rfl, rfl, rfl, rfl, rfl, rfl, rfl, trivial⟩, hO, hF759, ai, ad, ae, ab, af, aa, ag, ah, hB⟩
    replace H := H.2
    have gY := Stp.front 1 hO rfl
    dsimp only [eS, eZ] at gY
    replace fv := fv.ch gY.ch
    replace hO := gY.own
    replace ai := ai.ch gY.ch
    replace ad := ad.ch gY.ch
    replace ae := ae.ch gY.ch
    replace ab := ab.ch gY.ch
    replace af := af.ch gY.ch
    replace aa := aa.ch gY.ch
    replace ag := ag.ch gY.ch
    replace ah := ah.ch gY.ch
    replace hB := hB.trans gY.fr
    have hobt := t2take (hf := (Fl.int .i64)) hO lj lk
    obtain ⟨wn, jb, wo⟩ := hobt
    replace fv := fv.ch jb.ch
    replace hO := jb.own
    replace ai := ai.ch jb.ch
    replace ad := ad.ch jb.ch
    replace ae := ae.ch jb.ch
    replace ab := ab.ch jb.ch
    replace af := af.ch jb.ch
    replace aa := aa.ch jb.ch
    replace ag := ag.ch jb.ch
    replace ah := ah.ch jb.ch
    replace hB := hB.trans jb.fr
    have po := wo (bl [.row 3 1 (((aB r267.toNat)) r279.toNat).1 ((ix ((ix d_253 r267)) r279).length) ((((aB r267.toNat)) r279.toNat).2) wn, t2h (Fl.int .i64) 26 3 (ps255 r267.toNat).1 ((ix d_253 r267).length) ((ps255 r267.toNat).2) ((aB r267.toNat)) ((ix d_253 r267)) r279.toNat, .row 3 1 rF 1 1 [.int .i64 (k3_251 : Int)], famH d_253.length (lay3 (Fl.int .i64) 26 3 ps255 aB d_253) r267.toNat, t2 Fl.bool 42 4 aY aW a8 bA d_252, .row 22 1 a9 aX ba bm, .blk B38 (.cells #[.slice p60 r140.length c61, .slice p54 r152.length c55, .slice a9 aX ba, .slice aY aW a8] 35 (0, 0)), .blk B21 (.cells #[.slice av r14.R.length aw, .slice ax r14.L.length ay, .slice am r14.J.length ao, .slice az r14.H.length aA, .slice aj r14.Below.length ak] 29 (0, 0)), .blk B2 (.cells #[.slice none 0 0, .slice none 0 0, .slice none 0 0, .slice none 0 0] 35 (0, 0))] ++ A)
    have hobt := freeze 2 hO rfl fv
    obtain ⟨hO1, kB, aH, wq⟩ := hobt
    dsimp only [eS, eZ] at hO1 kB aH
    replace ai := ai.ch kB
    replace ad := ad.ch kB
    replace ae := ae.ch kB
    replace ab := ab.ch kB
    replace af := af.ch kB
    replace aa := aa.ch kB
    replace ag := ag.ch kB
    replace ah := ah.ch kB
    replace po := po.ch kB
    replace hB := hB.trans (Owns.J0W _ _ 2)
    dsimp only [eS, eZ] at hB
    replace hO := hO1; clear hO1
    obtain ⟨yz, H⟩ := H
    have hobt := oapp Try.underlying26 ti3 rfl 0 hO rfl po aH wq yz (by decide)
    obtain ⟨BT, ss, su, zH, g5, mj, uo⟩ := hobt
    dsimp only [sS, sZ] at g5 mj
    refine GoT.stepX rfl (uo (by exact rfl) (by exact rfl)) rfl rfl rfl ?_
    replace hO := g5.own
    replace ai := ai.ch g5.ch
    replace ad := ad.ch g5.ch
    replace ae := ae.ch g5.ch
    replace ab := ab.ch g5.ch
    replace af := af.ch g5.ch
    replace aa := aa.ch g5.ch
    replace ag := ag.ch g5.ch
    replace ah := ah.ch g5.ch
    replace aH := aH.ch g5.ch
    replace hB := hB.trans g5.fr
    skip
    refine GoT.step rfl ((oblk (i := 2) 5 hO rfl rfl Try.underlying33 rfl rfl) _ (Same.refl _)) (Same.refl _) rfl rfl ?_
    obtain ⟨sv, H⟩ := H
    obtain ⟨sw, H⟩ := H
    refine GoT.pure rfl (J01 Try.underlying33 ti22 rfl rfl sv (ltn (t3neqF 4 hO rfl hF257) sw) (t3someF 4 hO rfl hF257 sv sw)) rfl rfl ?_
    skip
    refine GoT.step rfl ((t3headF 4 hO rfl hF257 sv sw Try.underlying22 rfl rfl) _ (Same.refl _)) (Same.refl _) rfl rfl ?_
    obtain ⟨sx, H⟩ := H
    obtain ⟨sy, H⟩ := H
    refine GoT.pure rfl (J01 Try.underlying22 ti26 rfl rfl sx (ltn (t2neqH 1 hO rfl) sy) (t2someH 1 hO rfl sx sy)) rfl rfl ?_
    skip
    have eI := Stp.front 1 hO rfl
    dsimp only [eS, eZ] at eI
    replace mj := mj.ch eI.ch
    replace hO := eI.own
    replace ai := ai.ch eI.ch
    replace ad := ad.ch eI.ch
    replace ae := ae.ch eI.ch
    replace ab := ab.ch eI.ch
    replace af := af.ch eI.ch
    replace aa := aa.ch eI.ch
    replace ag := ag.ch eI.ch
    replace ah := ah.ch eI.ch
    replace aH := aH.ch eI.ch
    replace hB := hB.trans eI.fr
    have eK := Stp.front 1 hO rfl
    dsimp only [eS, eZ] at eK
    replace mj := mj.ch eK.ch
    replace hO := eK.own
    replace ai := ai.ch eK.ch
    replace ad := ad.ch eK.ch
    replace ae := ae.ch eK.ch
    replace ab := ab.ch eK.ch
    replace af := af.ch eK.ch
    replace aa := aa.ch eK.ch
    replace ag := ag.ch eK.ch
    replace ah := ah.ch eK.ch
    replace aH := aH.ch eK.ch
    replace hB := hB.trans eK.fr
    have hobt := t2fix (hf := (Fl.int .i64)) hO mj sx sy rfl
    obtain ⟨BU, jc, uq⟩ := hobt
    refine GoT.stepX rfl (uq Try.underlying26 rfl ti26 (by exact rfl) (by exact rfl)) rfl rfl rfl ?_
    replace hO := jc.own
    replace ai := ai.ch jc.ch
    replace ad := ad.ch jc.ch
    replace ae := ae.ch jc.ch
    replace ab := ab.ch jc.ch
    replace af := af.ch jc.ch
    replace aa := aa.ch jc.ch
    replace ag := ag.ch jc.ch
    replace ah := ah.ch jc.ch
    replace aH := aH.ch jc.ch
    replace hB := hB.trans jc.fr
    refine GoT.nil ?_
    refine Go1.drawS 1 [(0, .pure), (1, .stable), (2, .pure), (3, .pure), (4, .stable), (5, .pure), (6, .pure), (7, .stable), (8, .pure), (9, .pure), (10, .stable), (11, .pure), (12, .pure), (13, .stable), (14, .pure), (15, .pure), (16, .pure), (17, .pure), (18, .stable), (19, .pure), (20, .pure), (21, .stable), (22, .pure), (23, .pure), (24, .pure), (25, .pure), (26, .last)] mixed (by kernel_rfl) ?_
    intro BV wr
    have jd := Stp.same hO wr
    replace hO := jd.own
    replace ai := ai.ch jd.ch
    replace ad := ad.ch jd.ch
    replace ae := ae.ch jd.ch
    replace ab := ab.ch jd.ch
    replace af := af.ch jd.ch
    replace aa := aa.ch jd.ch
    replace ag := ag.ch jd.ch
    replace ah := ah.ch jd.ch
    replace aH := aH.ch jd.ch
    replace hB := hB.trans jd.fr
    refine GoQ.pure rfl (J03 Try.underlying35 rfl ti27 rfl (by decide)) rfl rfl ?_
    refine GoQ.stable rfl (oblk (i := 3) 4 hO rfl rfl Try.underlying27 rfl rfl) rfl rfl ?_
    refine GoQ.pure rfl (J00 rfl) rfl rfl ?_
    obtain ⟨lK, H⟩ := H
    obtain ⟨lM, H⟩ := H
    refine GoQ.pure rfl (J01 Try.underlying27 ti42 rfl rfl lK (ltn (t2neq 2 hO rfl) lM) (t2some 2 hO rfl lK lM)) rfl rfl ?_
    refine GoQ.stable rfl (t2head 2 hO rfl lK lM Try.underlying42 rfl rfl) rfl rfl ?_
    refine GoQ.pure rfl (J00 rfl) rfl rfl ?_
    refine GoQ.pure rfl (J03 Try.underlying35 rfl ti27 rfl (by decide)) rfl rfl ?_
    refine GoQ.stable rfl (oblk (i := 3) 4 hO rfl rfl Try.underlying27 rfl rfl) rfl rfl ?_
    refine GoQ.pure rfl (J00 rfl) rfl rfl ?_
    obtain ⟨nj, H⟩ := H
    obtain ⟨nk, H⟩ := H
    refine GoQ.pure rfl (J01 Try.underlying27 ti42 rfl rfl nj (ltn (t2neq 2 hO rfl) nk) (t2some 2 hO rfl nj nk)) rfl rfl ?_
    refine GoQ.stable rfl (t2head 2 hO rfl nj nk Try.underlying42 rfl rfl) rfl rfl ?_
    refine GoQ.pure rfl (J00 rfl) rfl rfl ?_
    obtain ⟨pp, H⟩ := H
    obtain ⟨pq, H⟩ := H
    refine GoQ.pure rfl (J01 Try.underlying42 ti4 rfl rfl pp pq (t2isome 2 hO rfl nj nk pp pq)) rfl rfl ?_
    by_cases pr : ix (ix d_252 r267) r279 = true
    ·replace H := ifp pr H
     refine GoQ.stable rfl (fun w hw => opB ((t2Bool 2 hO rfl nj nk pp pq Try.underlying4 rfl rfl) w hw) (pr)) rfl rfl ?_
     refine GoQ.pure rfl (J00 rfl) rfl rfl ?_
     refine GoQ.pass rfl rfl rfl ?_
     refine GoQ.pass rfl rfl rfl ?_
     refine GoQ.pass rfl rfl rfl ?_
     refine GoQ.pass rfl rfl rfl ?_
     refine GoQ.pass rfl rfl rfl ?_
     refine GoQ.pass rfl rfl rfl ?_
     refine GoQ.pass rfl rfl rfl ?_
     refine GoQ.pass rfl rfl rfl ?_
     refine GoQ.pass rfl rfl rfl ?_
     refine GoQ.pure rfl (J1t rfl rfl rfl) rfl rfl ?_
     obtain ⟨sA, H⟩ := H
     obtain ⟨sB, H⟩ := H
     refine GoQ.pure rfl (J01 Try.underlying42 ti4 rfl rfl sA sB (t2isome 2 hO rfl lK lM sA sB)) rfl rfl ?_
     have hobt := t2st (r := Rp.bool) (hf := Fl.bool) rfl 2 hO rfl lK lM sA sB (v := .bool true) (u := true) rfl rfl
     obtain ⟨BW, g6, ur⟩ := hobt
     dsimp only [sS, sZ] at g6
     refine GoQ.last rfl (ur Try.underlying4 rfl ti4 (by exact rfl) (by exact rfl)) rfl rfl ?_
     replace hO := g6.own
     replace ai := ai.ch g6.ch
     replace ad := ad.ch g6.ch
     replace ae := ae.ch g6.ch
     replace ab := ab.ch g6.ch
     replace af := af.ch g6.ch
     replace aa := aa.ch g6.ch
     replace ag := ag.ch g6.ch
     replace ah := ah.ch g6.ch
     replace aH := aH.ch g6.ch
     replace hB := hB.trans g6.fr
     refine GoQ.nil ?_
     refine Go1.inBlock ?_
     refine Go1.cut [(0, .slice bn a0.length bo), (1, .int .i64 a1), (4, .pointer (some ⟨B2, 0, none⟩)), (7, .pointer (some ⟨B21, 0, none⟩)), (8, .pointer (some ⟨B38, 0, none⟩)), (106, .slice am r14.J.length ao), (107, .int .i64 (r14.J.length : Int)), (108, .int .i64 (k3_251 : Int))] ⟨rfl, rfl, rfl, rfl, rfl, rfl, rfl, rfl, trivial⟩ ?_
     intro σ _
     refine Go1.region ?_
     refine GoR.op ((J06 rfl rfl (wrap_i64 (natbd bG ab.bd))) _) rfl rfl ?_
     refine GoR.op ((J00 rfl) _) rfl rfl ?_
     refine GoR.nil ?_
     have g7 := Stp.front 1 hO rfl
     dsimp only [eS, eZ] at g7
     replace hO := g7.own
     replace ai := ai.ch g7.ch
     replace ad := ad.ch g7.ch
     replace ae := ae.ch g7.ch
     replace ab := ab.ch g7.ch
     replace af := af.ch g7.ch
     replace aa := aa.ch g7.ch
     replace ag := ag.ch g7.ch
     replace ah := ah.ch g7.ch
     replace aH := aH.ch g7.ch
     replace hB := hB.trans g7.fr
     have g8 := Stp.front 1 hO rfl
     dsimp only [eS, eZ] at g8
     replace hO := g8.own
     replace ai := ai.ch g8.ch
     replace ad := ad.ch g8.ch
     replace ae := ae.ch g8.ch
     replace ab := ab.ch g8.ch
     replace af := af.ch g8.ch
     replace aa := aa.ch g8.ch
     replace ag := ag.ch g8.ch
     replace ah := ah.ch g8.ch
     replace aH := aH.ch g8.ch
     replace hB := hB.trans g8.fr
     have hobt := t3backF (hf := (Fl.int .i64)) hO hF257 bM bN (by simp only [J02])
     obtain ⟨je, hF811⟩ := hobt
     replace hO := je.own
     replace ai := ai.ch je.ch
     replace ad := ad.ch je.ch
     replace ae := ae.ch je.ch
     replace ab := ab.ch je.ch
     replace af := af.ch je.ch
     replace aa := aa.ch je.ch
     replace ag := ag.ch je.ch
     replace ah := ah.ch je.ch
     replace aH := aH.ch je.ch
     replace hB := hB.trans je.fr
     have g9 := Stp.front 5 hO rfl
     dsimp only [eS, eZ] at g9
     replace hO := g9.own
     replace ai := ai.ch g9.ch
     replace ad := ad.ch g9.ch
     replace ae := ae.ch g9.ch
     replace ab := ab.ch g9.ch
     replace af := af.ch g9.ch
     replace aa := aa.ch g9.ch
     replace ag := ag.ch g9.ch
     replace ah := ah.ch g9.ch
     replace aH := aH.ch g9.ch
     replace hB := hB.trans g9.fr
     have ia := Stp.front 5 hO rfl
     dsimp only [eS, eZ] at ia
     replace hO := ia.own
     replace ai := ai.ch ia.ch
     replace ad := ad.ch ia.ch
     replace ae := ae.ch ia.ch
     replace ab := ab.ch ia.ch
     replace af := af.ch ia.ch
     replace aa := aa.ch ia.ch
     replace ag := ag.ch ia.ch
     replace ah := ah.ch ia.ch
     replace aH := aH.ch ia.ch
     replace hB := hB.trans ia.fr
     have ic := Stp.front 5 hO rfl
     dsimp only [eS, eZ] at ic
     replace hO := ic.own
     replace ai := ai.ch ic.ch
     replace ad := ad.ch ic.ch
     replace ae := ae.ch ic.ch
     replace ab := ab.ch ic.ch
     replace af := af.ch ic.ch
     replace aa := aa.ch ic.ch
     replace ag := ag.ch ic.ch
     replace ah := ah.ch ic.ch
     replace aH := aH.ch ic.ch
     replace hB := hB.trans ic.fr
     have ie := Stp.front 3 hO rfl
     dsimp only [eS, eZ] at ie
     replace hO := ie.own
     replace ai := ai.ch ie.ch
     replace ad := ad.ch ie.ch
     replace ae := ae.ch ie.ch
     replace ab := ab.ch ie.ch
     replace af := af.ch ie.ch
     replace aa := aa.ch ie.ch
     replace ag := ag.ch ie.ch
     replace ah := ah.ch ie.ch
     replace aH := aH.ch ie.ch
     replace hB := hB.trans ie.fr
     have ig := Stp.front 5 hO rfl
     dsimp only [eS, eZ] at ig
     replace hO := ig.own
     replace ai := ai.ch ig.ch
     replace ad := ad.ch ig.ch
     replace ae := ae.ch ig.ch
     replace ab := ab.ch ig.ch
     replace af := af.ch ig.ch
     replace aa := aa.ch ig.ch
     replace ag := ag.ch ig.ch
     replace ah := ah.ch ig.ch
     replace aH := aH.ch ig.ch
     replace hB := hB.trans ig.fr
     have ik := Stp.front 5 hO rfl
     dsimp only [eS, eZ] at ik
     replace hO := ik.own
     replace ai := ai.ch ik.ch
     replace ad := ad.ch ik.ch
     replace ae := ae.ch ik.ch
     replace ab := ab.ch ik.ch
     replace af := af.ch ik.ch
     replace aa := aa.ch ik.ch
     replace ag := ag.ch ik.ch
     replace ah := ah.ch ik.ch
     replace aH := aH.ch ik.ch
     replace hB := hB.trans ik.fr
     exact hX3 _ H _ _ ⟨bm, ps255, (fun k => if k = r267.toNat then hup ((aB r267.toNat)) r279.toNat (ss, su) else aB k), ⟨rfl, rfl, rfl, rfl, rfl, rfl, rfl, rfl, trivial⟩, hO, hF811, ai, ad, ae, ab, af, aa, ag, ah, hB⟩
    replace H := ifn pr H
    refine GoQ.stable rfl (fun w hw => opB ((t2Bool 2 hO rfl nj nk pp pq Try.underlying4 rfl rfl) w hw) (Bool.eq_false_iff.2 pr)) rfl rfl ?_
    refine GoQ.pure rfl (J00 rfl) rfl rfl ?_
    refine GoQ.pure rfl (J00 rfl) rfl rfl ?_
    refine GoQ.pure rfl (J00 rfl) rfl rfl ?_
    obtain ⟨sC, H⟩ := H
    obtain ⟨sD, H⟩ := H
    refine GoQ.pure rfl (J01 Try.underlying22 ti26 rfl rfl sC sD (ai.some_ sC sD)) rfl rfl ?_
    have hobt := ldSl ai sC sD
    obtain ⟨BX, BY, bk, ws⟩ := hobt
    refine GoQ.stable rfl (ws Try.underlying26 rfl rfl) rfl rfl ?_
    refine GoQ.pure rfl (J00 rfl) rfl rfl ?_
    obtain ⟨sE, H⟩ := H
    obtain ⟨sF, H⟩ := H
    refine GoQ.pure rfl (J01 Try.underlying26 ti3 rfl rfl sE sF (bk.some_ sE sF)) rfl rfl ?_
    refine GoQ.stable rfl (ldInt bk sE sF Try.underlying3 rfl rfl) rfl rfl ?_
    refine GoQ.pure rfl (J00 rfl) rfl rfl ?_
    by_cases pt : (ix (ix a0 (k3_251 : Int)) (k3_251 : Int)) = (k3_251 : Int)
    ·replace H := ifp pt H
     refine GoQ.pure rfl (fun w => opB (J15 rfl rfl w) (decide_eq_true pt)) rfl rfl ?_
     refine GoQ.pure rfl (J0m rfl rfl rfl) rfl rfl ?_
     obtain ⟨sG, H⟩ := H
     obtain ⟨sH, H⟩ := H
     refine GoQ.pure rfl (J01 Try.underlying42 ti4 rfl rfl sG sH (t2isome 2 hO rfl lK lM sG sH)) rfl rfl ?_
     have hobt := t2st (r := Rp.bool) (hf := Fl.bool) rfl 2 hO rfl lK lM sG sH (v := .bool true) (u := true) rfl rfl
     obtain ⟨B1, eM, ut⟩ := hobt
     dsimp only [sS, sZ] at eM
     refine GoQ.last rfl (ut Try.underlying4 rfl ti4 (by exact rfl) (by exact rfl)) rfl rfl ?_
     replace hO := eM.own
     replace ai := ai.ch eM.ch
     replace ad := ad.ch eM.ch
     replace ae := ae.ch eM.ch
     replace ab := ab.ch eM.ch
     replace af := af.ch eM.ch
     replace aa := aa.ch eM.ch
     replace ag := ag.ch eM.ch
     replace ah := ah.ch eM.ch
     replace aH := aH.ch eM.ch
     replace bk := bk.ch eM.ch
     replace hB := hB.trans eM.fr
     refine GoQ.nil ?_
     refine Go1.inBlock ?_
     refine Go1.region ?_
     refine GoR.op ((J06 rfl rfl (wrap_i64 (natbd bG ab.bd))) _) rfl rfl ?_
     refine GoR.op ((J00 rfl) _) rfl rfl ?_
     refine GoR.nil ?_
     have eN := Stp.front 1 hO rfl
     dsimp only [eS, eZ] at eN
     replace hO := eN.own
     replace ai := ai.ch eN.ch
     replace ad := ad.ch eN.ch
     replace ae := ae.ch eN.ch
     replace ab := ab.ch eN.ch
     replace af := af.ch eN.ch
     replace aa := aa.ch eN.ch
     replace ag := ag.ch eN.ch
     replace ah := ah.ch eN.ch
     replace aH := aH.ch eN.ch
     replace bk := bk.ch eN.ch
     replace hB := hB.trans eN.fr
     have eO := Stp.front 1 hO rfl
     dsimp only [eS, eZ] at eO
     replace hO := eO.own
     replace ai := ai.ch eO.ch
     replace ad := ad.ch eO.ch
     replace ae := ae.ch eO.ch
     replace ab := ab.ch eO.ch
     replace af := af.ch eO.ch
     replace aa := aa.ch eO.ch
     replace ag := ag.ch eO.ch
     replace ah := ah.ch eO.ch
     replace aH := aH.ch eO.ch
     replace bk := bk.ch eO.ch
     replace hB := hB.trans eO.fr
     have hobt := t3backF (hf := (Fl.int .i64)) hO hF257 bM bN (by simp only [J02])
     obtain ⟨io, hF835⟩ := hobt
     replace hO := io.own
     replace ai := ai.ch io.ch
     replace ad := ad.ch io.ch
     replace ae := ae.ch io.ch
     replace ab := ab.ch io.ch
     replace af := af.ch io.ch
     replace aa := aa.ch io.ch
     replace ag := ag.ch io.ch
     replace ah := ah.ch io.ch
     replace aH := aH.ch io.ch
     replace bk := bk.ch io.ch
     replace hB := hB.trans io.fr
     have eP := Stp.front 5 hO rfl
     dsimp only [eS, eZ] at eP
     replace hO := eP.own
     replace ai := ai.ch eP.ch
     replace ad := ad.ch eP.ch
     replace ae := ae.ch eP.ch
     replace ab := ab.ch eP.ch
     replace af := af.ch eP.ch
     replace aa := aa.ch eP.ch
     replace ag := ag.ch eP.ch
     replace ah := ah.ch eP.ch
     replace aH := aH.ch eP.ch
     replace bk := bk.ch eP.ch
     replace hB := hB.trans eP.fr
     have eQ := Stp.front 5 hO rfl
     dsimp only [eS, eZ] at eQ
     replace hO := eQ.own
     replace ai := ai.ch eQ.ch
     replace ad := ad.ch eQ.ch
     replace ae := ae.ch eQ.ch
     replace ab := ab.ch eQ.ch
     replace af := af.ch eQ.ch
     replace aa := aa.ch eQ.ch
     replace ag := ag.ch eQ.ch
     replace ah := ah.ch eQ.ch
     replace aH := aH.ch eQ.ch
     replace bk := bk.ch eQ.ch
     replace hB := hB.trans eQ.fr
     have eU := Stp.front 5 hO rfl
     dsimp only [eS, eZ] at eU
     replace hO := eU.own
     replace ai := ai.ch eU.ch
     replace ad := ad.ch eU.ch
     replace ae := ae.ch eU.ch
     replace ab := ab.ch eU.ch
     replace af := af.ch eU.ch
     replace aa := aa.ch eU.ch
     replace ag := ag.ch eU.ch
     replace ah := ah.ch eU.ch
     replace aH := aH.ch eU.ch
     replace bk := bk.ch eU.ch
     replace hB := hB.trans eU.fr
     have eV := Stp.front 3 hO rfl
     dsimp only [eS, eZ] at eV
     replace hO := eV.own
     replace ai := ai.ch eV.ch
     replace ad := ad.ch eV.ch
     replace ae := ae.ch eV.ch
     replace ab := ab.ch eV.ch
     replace af := af.ch eV.ch
     replace aa := aa.ch eV.ch
     replace ag := ag.ch eV.ch
     replace ah := ah.ch eV.ch
     replace aH := aH.ch eV.ch
     replace bk := bk.ch eV.ch
     replace hB := hB.trans eV.fr
     have eX := Stp.front 5 hO rfl
     dsimp only [eS, eZ] at eX
     replace hO := eX.own
     replace ai := ai.ch eX.ch
     replace ad := ad.ch eX.ch
     replace ae := ae.ch eX.ch
     replace ab := ab.ch eX.ch
     replace af := af.ch eX.ch
     replace aa := aa.ch eX.ch
     replace ag := ag.ch eX.ch
     replace ah := ah.ch eX.ch
     replace aH := aH.ch eX.ch
     replace bk := bk.ch eX.ch
     replace hB := hB.trans eX.fr
     have eY := Stp.front 5 hO rfl
     dsimp only [eS, eZ] at eY
     replace hO := eY.own
     replace ai := ai.ch eY.ch
     replace ad := ad.ch eY.ch
     replace ae := ae.ch eY.ch
     replace ab := ab.ch eY.ch
     replace af := af.ch eY.ch
     replace aa := aa.ch eY.ch
     replace ag := ag.ch eY.ch
     replace ah := ah.ch eY.ch
     replace aH := aH.ch eY.ch
     replace bk := bk.ch eY.ch
     replace hB := hB.trans eY.fr
     exact hX3 _ H _ _ ⟨bm, ps255, (fun k => if k = r267.toNat then hup ((aB r267.toNat)) r279.toNat (ss, su) else aB k), ⟨rfl, rfl, rfl, rfl, rfl, rfl, rfl, rfl, trivial⟩, hO, hF835, ai, ad, ae, ab, af, aa, ag, ah, hB⟩
    replace H := ifn pt H
    refine GoQ.pure rfl (fun w => opB (J15 rfl rfl w) (decide_eq_false pt)) rfl rfl ?_
    refine GoQ.pure rfl (J0m rfl rfl rfl) rfl rfl ?_
    obtain ⟨sI, H⟩ := H
    obtain ⟨sJ, H⟩ := H
    refine GoQ.pure rfl (J01 Try.underlying42 ti4 rfl rfl sI sJ (t2isome 2 hO rfl lK lM sI sJ)) rfl rfl ?_
    have hobt := t2st (r := Rp.bool) (hf := Fl.bool) rfl 2 hO rfl lK lM sI sJ (v := .bool false) (u := false) rfl rfl
    obtain ⟨B3, e8, uu⟩ := hobt
    dsimp only [sS, sZ] at e8
    refine GoQ.last rfl (uu Try.underlying4 rfl ti4 (by exact rfl) (by exact rfl)) rfl rfl ?_
    replace hO := e8.own
    replace ai := ai.ch e8.ch
    replace ad := ad.ch e8.ch
    replace ae := ae.ch e8.ch
    replace ab := ab.ch e8.ch
    replace af := af.ch e8.ch
    replace aa := aa.ch e8.ch
    replace ag := ag.ch e8.ch
    replace ah := ah.ch e8.ch
    replace aH := aH.ch e8.ch
    replace bk := bk.ch e8.ch
    replace hB := hB.trans e8.fr
    refine GoQ.nil ?_
    refine Go1.inBlock ?_
    refine Go1.cut [(0, .slice bn a0.length bo), (1, .int .i64 a1), (4, .pointer (some ⟨B2, 0, none⟩)), (7, .pointer (some ⟨B21, 0, none⟩)), (8, .pointer (some ⟨B38, 0, none⟩)), (106, .slice am r14.J.length ao), (107, .int .i64 (r14.J.length : Int)), (108, .int .i64 (k3_251 : Int))] ⟨rfl, rfl, rfl, rfl, rfl, rfl, rfl, rfl, trivial⟩ ?_
    intro σ _
    refine Go1.region ?_
    refine GoR.op ((J06 rfl rfl (wrap_i64 (natbd bG ab.bd))) _) rfl rfl ?_
    refine GoR.op ((J00 rfl) _) rfl rfl ?_
    refine GoR.nil ?_
    have e9 := Stp.front 1 hO rfl
    dsimp only [eS, eZ] at e9
    replace hO := e9.own
    replace ai := ai.ch e9.ch
    replace ad := ad.ch e9.ch
    replace ae := ae.ch e9.ch
    replace ab := ab.ch e9.ch
    replace af := af.ch e9.ch
    replace aa := aa.ch e9.ch
    replace ag := ag.ch e9.ch
    replace ah := ah.ch e9.ch
    replace aH := aH.ch e9.ch
    replace bk := bk.ch e9.ch
    replace hB := hB.trans e9.fr
    have fe := Stp.front 1 hO rfl
    dsimp only [eS, eZ] at fe
    replace hO := fe.own
    replace ai := ai.ch fe.ch
    replace ad := ad.ch fe.ch
    replace ae := ae.ch fe.ch
    replace ab := ab.ch fe.ch
    replace af := af.ch fe.ch
    replace aa := aa.ch fe.ch
    replace ag := ag.ch fe.ch
    replace ah := ah.ch fe.ch
    replace aH := aH.ch fe.ch
    replace bk := bk.ch fe.ch
    replace hB := hB.trans fe.fr
    have hobt := t3backF (hf := (Fl.int .i64)) hO hF257 bM bN (by simp only [J02])
    obtain ⟨ip, hF850⟩ := hobt
    replace hO := ip.own
    replace ai := ai.ch ip.ch
    replace ad := ad.ch ip.ch
    replace ae := ae.ch ip.ch
    replace ab := ab.ch ip.ch
    replace af := af.ch ip.ch
    replace aa := aa.ch ip.ch
    replace ag := ag.ch ip.ch
    replace ah := ah.ch ip.ch
    replace aH := aH.ch ip.ch
    replace bk := bk.ch ip.ch
    replace hB := hB.trans ip.fr
    have fh := Stp.front 5 hO rfl
    dsimp only [eS, eZ] at fh
    replace hO := fh.own
    replace ai := ai.ch fh.ch
    replace ad := ad.ch fh.ch
    replace ae := ae.ch fh.ch
    replace ab := ab.ch fh.ch
    replace af := af.ch fh.ch
    replace aa := aa.ch fh.ch
    replace ag := ag.ch fh.ch
    replace ah := ah.ch fh.ch
    replace aH := aH.ch fh.ch
    replace bk := bk.ch fh.ch
    replace hB := hB.trans fh.fr
    have fk := Stp.front 5 hO rfl
    dsimp only [eS, eZ] at fk
    replace hO := fk.own
    replace ai := ai.ch fk.ch
    replace ad := ad.ch fk.ch
    replace ae := ae.ch fk.ch
    replace ab := ab.ch fk.ch
    replace af := af.ch fk.ch
    replace aa := aa.ch fk.ch
    replace ag := ag.ch fk.ch
    replace ah := ah.ch fk.ch
    replace aH := aH.ch fk.ch
    replace bk := bk.ch fk.ch
    replace hB := hB.trans fk.fr
    have fm := Stp.front 5 hO rfl
    dsimp only [eS, eZ] at fm
    replace hO := fm.own
    replace ai := ai.ch fm.ch
    replace ad := ad.ch fm.ch
    replace ae := ae.ch fm.ch
    replace ab := ab.ch fm.ch
    replace af := af.ch fm.ch
    replace aa := aa.ch fm.ch
    replace ag := ag.ch fm.ch
    replace ah := ah.ch fm.ch
    replace aH := aH.ch fm.ch
    replace bk := bk.ch fm.ch
    replace hB := hB.trans fm.fr
    have fo := Stp.front 3 hO rfl
    dsimp only [eS, eZ] at fo
    replace hO := fo.own
    replace ai := ai.ch fo.ch
    replace ad := ad.ch fo.ch
    replace ae := ae.ch fo.ch
    replace ab := ab.ch fo.ch
    replace af := af.ch fo.ch
    replace aa := aa.ch fo.ch
    replace ag := ag.ch fo.ch
    replace ah := ah.ch fo.ch
    replace aH := aH.ch fo.ch
    replace bk := bk.ch fo.ch
    replace hB := hB.trans fo.fr
    have fq := Stp.front 5 hO rfl
    dsimp only [eS, eZ] at fq
    replace hO := fq.own
    replace ai := ai.ch fq.ch
    replace ad := ad.ch fq.ch
    replace ae := ae.ch fq.ch
    replace ab := ab.ch fq.ch
    replace af := af.ch fq.ch
    replace aa := aa.ch fq.ch
    replace ag := ag.ch fq.ch
    replace ah := ah.ch fq.ch
    replace aH := aH.ch fq.ch
    replace bk := bk.ch fq.ch
    replace hB := hB.trans fq.fr
    have ft := Stp.front 5 hO rfl
    dsimp only [eS, eZ] at ft
    replace hO := ft.own
    replace ai := ai.ch ft.ch
    replace ad := ad.ch ft.ch
    replace ae := ae.ch ft.ch
    replace ab := ab.ch ft.ch
    replace af := af.ch ft.ch
    replace aa := aa.ch ft.ch
    replace ag := ag.ch ft.ch
    replace ah := ah.ch ft.ch
    replace aH := aH.ch ft.ch
    replace bk := bk.ch ft.ch
    replace hB := hB.trans ft.fr
    exact hX3 _ H _ _ ⟨bm, ps255, (fun k => if k = r267.toNat then hup ((aB r267.toNat)) r279.toNat (ss, su) else aB k), ⟨rfl, rfl, rfl, rfl, rfl, rfl, rfl, rfl, trivial⟩, hO, hF850, ai, ad, ae, ab, af, aa, ag, ah, hB⟩
   replace H := ifn oJ H
   refine GoR.op ((fun w => opB (J15 rfl rfl w) (decide_eq_false oJ)) _) rfl rfl ?_
   refine GoR.nil ?_
   refine Go1.condF rfl rfl ?_
   refine Go1.skip ?_
   refine Go1.inBlock ?_
   refine Go1.region ?_
   refine GoR.op ((J06 rfl rfl (wrap_i64 (natbd bG ab.bd))) _) rfl rfl ?_
   refine GoR.op ((J00 rfl) _) rfl rfl ?_
   refine GoR.nil ?_
   exact hX3 _ H _ _ ⟨bm, ps255, aB, ⟨rfl, rfl, rfl, rfl, rfl, rfl, rfl, rfl, trivial⟩, hO, hF257, ai, ad, ae, ab, af, aa, ag, ah, hB⟩
  replace H := ifn bG H
  refine GoR.op ((fun w => opB (J0s rfl rfl w) (decide_eq_false bG)) _) rfl rfl ?_
  refine GoR.nil ?_
  refine Go1.seq ?_
  refine Go1.condF rfl rfl ?_
  refine Go1.exit rfl ?_
  refine Go1.seq ?_
  refine Go1.region ?_
  refine GoR.op ((J66 (vs := [.slice p60 r140.length c61, .slice p54 r152.length c55, .slice a9 aX ba, .slice aY aW a8]) (i := 0) 3 hO rfl rfl Try.underlying35 rfl ti35 rfl) _ (Same.refl _)) rfl rfl ?_
  have hobt := J1W (us := [.slice p60 r140.length c61, .slice p54 r152.length c55, .slice a9 aX ba, .slice aY aW a8]) (o := 0) (cs' := #[.slice p60 r140.length c61, .slice p54 r152.length c55, .slice a9 aX ba, .slice aY aW a8]) 5 hO rfl rfl (Nat.le_of_ble_eq_true rfl) rfl
  obtain ⟨B4, jf, uv⟩ := hobt
  dsimp only [sS, sZ] at jf
  refine GoR.op (uv ti35 (by exact rfl) (by exact rfl) rfl) rfl rfl ?_
  replace hO := jf.own
  replace ai := ai.ch jf.ch
  replace ad := ad.ch jf.ch
  replace ae := ae.ch jf.ch
  replace ab := ab.ch jf.ch
  replace af := af.ch jf.ch
  replace aa := aa.ch jf.ch
  replace ag := ag.ch jf.ch
  replace ah := ah.ch jf.ch
  replace hB := hB.trans jf.fr
  refine GoR.op ((J04 rfl) _) rfl rfl ?_
  refine GoR.nil ?_
  have jg := Stp.front 2 hO rfl
  dsimp only [eS, eZ] at jg
  replace hO := jg.own
  replace ai := ai.ch jg.ch
  replace ad := ad.ch jg.ch
  replace ae := ae.ch jg.ch
  replace ab := ab.ch jg.ch
  replace af := af.ch jg.ch
  replace aa := aa.ch jg.ch
  replace ag := ag.ch jg.ch
  replace ah := ah.ch jg.ch
  replace hB := hB.trans jg.fr
  have jh := Stp.front 2 hO rfl
  dsimp only [eS, eZ] at jh
  replace hO := jh.own
  replace ai := ai.ch jh.ch
  replace ad := ad.ch jh.ch
  replace ae := ae.ch jh.ch
  replace ab := ab.ch jh.ch
  replace af := af.ch jh.ch
  replace aa := aa.ch jh.ch
  replace ag := ag.ch jh.ch
  replace ah := ah.ch jh.ch
  replace hB := hB.trans jh.fr
  have hobt := t3freeze (hf := (Fl.int .i64)) hO hF257
  obtain ⟨hO1, uw, kY, pv, wt⟩ := hobt
  replace ai := ai.ch kY
  replace ad := ad.ch kY
  replace ae := ae.ch kY
  replace ab := ab.ch kY
  replace af := af.ch kY
  replace aa := aa.ch kY
  replace ag := ag.ch kY
  replace ah := ah.ch kY
  replace hB := hB.trans uw
  replace hO := hO1; clear hO1
  have hobt := t2freezeA 0 hO rfl
  obtain ⟨hO1, kC, tf, wu⟩ := hobt
  dsimp only [eS, eZ] at hO1 kC tf
  replace ai := ai.ch kC
  replace ad := ad.ch kC
  replace ae := ae.ch kC
  replace ab := ab.ch kC
  replace af := af.ch kC
  replace aa := aa.ch kC
  replace ag := ag.ch kC
  replace ah := ah.ch kC
  replace pv := pv.ch kC
  replace hB := hB.trans (Owns.J0W _ _ 0)
  dsimp only [eS, eZ] at hB
  replace hO := hO1; clear hO1
  refine Go1.retC2 Try.func14 rfl rfl (J1V (vs := [.slice p60 r140.length c61, .slice p54 r152.length c55, .slice a9 aX ba, .slice aY aW a8]) 2 hO rfl rfl Try.underlying35 rfl ti35) ?_
  exact ⟨(⟨r140, r152, d_253, d_252⟩ : Box), (0 : Int), p60, c61, p54, c55, a9, ba, aY, a8, (congrArg (fun l => Value.tuple (List.toArray l)) (J1p (congrArg (fun l => Value.agg (List.toArray l)) (J1p rfl (J1p rfl (J1p (congrArg (fun nn => Value.slice a9 nn ba) wt) (J1p (congrArg (fun nn => Value.slice aY nn a8) wu) rfl))))) (J1p rfl rfl))), hB.same, (ag.ch (Ch.weak _ _ _)), (ah.ch (Ch.weak _ _ _)), (pv.ch (Ch.weak _ _ _)), (tf.ch (Ch.weak _ _ _)), H⟩
 replace H := ifn h13 H
 refine GoR.op ((fun w => opB (J3y rfl rfl w) (ndF h13)) _) rfl rfl ?_
 refine GoR.nil ?_
 refine Go1.condT rfl rfl ?_
 refine Go1.seq ?_
 refine Go1.region ?_
 refine GoR.op ((J3k Try.underlying35 ti35 (pl := [(0, 1), (1, 1), (2, 1), (3, 1)]) (vs := []) (cs := #[.slice none 0 0, .slice none 0 0, .slice none 0 0, .slice none 0 0]) (by kernel_rfl) rfl (by kernel_rfl)) _) rfl rfl ?_
 refine GoR.op ((J00 rfl) _) rfl rfl ?_
 have hobt := J1W (us := [.slice none 0 0, .slice none 0 0, .slice none 0 0, .slice none 0 0]) (o := 0) (cs' := #[.slice none 0 0, .slice none 0 0, .slice none 0 0, .slice none 0 0]) 0 hO rfl rfl (Nat.le_of_ble_eq_true rfl) rfl
 obtain ⟨B5, od, ux⟩ := hobt
 refine GoR.op (ux ti35 (by exact rfl) (by exact rfl) rfl) rfl rfl ?_
 replace hO := od.own
 replace ai := ai.ch od.ch
 replace hB := hB.trans od.fr
 refine GoR.op ((J04 rfl) _) rfl rfl ?_
 refine GoR.nil ?_
 refine Go1.retC2 Try.func14 rfl rfl (J1V (vs := [.slice none 0 0, .slice none 0 0, .slice none 0 0, .slice none 0 0]) 0 hO rfl rfl Try.underlying35 rfl ti35) ?_
 exact ⟨(⟨([] : List Int), ([] : List Int), ([] : List (List (List Int))), ([] : List (List Bool))⟩ : Box), r7, none, 0, none, 0, none, 0, none, 0, rfl, hB.same, (ISl.null _ _ _), (ISl.null _ _ _), (ISl.null _ _ _), (ISl.null _ _ _), H⟩
end Sg
