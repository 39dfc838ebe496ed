/- -/
import Derived.Test.YtlneebpmblkllaaTi
import Derived.Test.YtlneebpmblkllaaWSyntacticJointc
import Derived.Test.YtlneebpmblkllaaWSyntacticMonoids
import Derived.Test.YtlneebpmblkllaaWSyntacticMonoidse
import Derived.Test.YtlneebpmblkllaaWSyntacticMonoidsf
import Derived.Test.YtlneebpmblkllaaWSyntacticRefuses
import Derived.Test.YtlneebpmblkllaaAl
namespace Sg
open Go Go.RowKit Go.Proofs
set_option linter.unusedVariables false
set_option linter.unusedSimpArgs false
set_option maxRecDepth 100000
set_option maxHeartbeats 4000000
theorem body89 : Body Try.prog 89 := ⟨Try.f89, Try.func89, rfl, by kernel_rfl⟩
theorem walk_word_Valid {A : List Nat} {w0 : World} {w_ : Str} {letters : Int} (hA : ∀ b ∈ A, b < w0.heap.size) (iN : w_.length ≤ mx) {K : Bool → Prop} (H : word_Valid w_ letters K) :
    CallsV Try.prog 89 #[.string (gstr w_), .int .i64 letters] w0 (fun v w' => ∃ (r0 : Bool), v = .bool r0 ∧ Same w0 w' ∧ K r0) := by
 refine CallsV.of (l := [.string (gstr w_), .int .i64 letters]) Try.func89 rfl Try.ntmps89 rfl ?_
 have hO := Owns.start hA
 have hB := Fr.refl (bl []) w0
 unfold word_Valid at H
 refine zq (zr (za rfl (zn (zq (zq ?_)))))
 refine zr (zm rfl ?_)
 by_cases h1 : letters < (1 : Int)
 ·replace H := ifp h1 H
  refine zo (fun w => opB (J08 rfl rfl w) (decide_eq_true h1)) (zm rfl (zp (zp (zo (J05 rfl rfl rfl) (zm rfl ?_)))))
  refine zp (zp (zp (zo (J05 rfl rfl rfl) (zn (zt rfl rfl ?_)))))
  refine zq (zr (za rfl (zn ?_)))
  refine Go1.ret1 Try.func89 rfl ?_
  exact ⟨false, rfl, hB.same, H⟩
 replace H := ifn h1 H
 refine zo (fun w => opB (J08 rfl rfl w) (decide_eq_false h1)) (zm rfl (zm rfl ?_))
 by_cases h2 : (6 : Int) < letters
 ·replace H := ifp h2 H
  refine zo (fun w => opB (J0M rfl rfl w) (decide_eq_true h2)) (zo (J04 rfl rfl rfl) (zm rfl (zp (zp (zp ?_)))))
  refine zo (J05 rfl rfl rfl) (zn (zt rfl rfl (zq ?_)))
  refine Go1.cut [] trivial ?_
  intro σ _
  refine zr (za rfl (zn ?_))
  refine Go1.ret1 Try.func89 rfl ?_
  exact ⟨false, rfl, hB.same, H⟩
 replace H := ifn h2 H
 refine zo (fun w => opB (J0M rfl rfl w) (decide_eq_false h2)) (zo (J04 rfl rfl rfl) (zm rfl (zm rfl (zo (op_lenS Try.underlying9 rfl) ?_))))
 replace H := H iN
 by_cases h3 : (2048 : Int) < (w_.length : Int)
 ·replace H := ifp h3 H
  refine zo (fun w => opB (J0M rfl rfl w) (decide_eq_true h3)) (zo (J04 rfl rfl rfl) (zn (zt rfl rfl (zq (zr ?_)))))
  refine za rfl (zn ?_)
  refine Go1.ret1 Try.func89 rfl ?_
  exact ⟨false, rfl, hB.same, H⟩
 replace H := ifn h3 H
 refine zo (fun w => opB (J0M rfl rfl w) (decide_eq_false h3)) (zo (J04 rfl rfl rfl) (zn (zf rfl rfl (zk (zq ?_)))))
 refine zq (zr (zm rfl (zo (op_lenS Try.underlying9 rfl) (zm rfl (zn ?_)))))
 refine zb ?_
 refine Go1.loopW (S := Nat) (fun s σ w => agrees σ [(0, .string (gstr w_)), (1, .int .i64 letters), (18, .int .i64 (w_.length : Int)), (19, .int .i64 (s : Int))] ∧ Owns w0.heap.size w [] A ∧ Fr (bl []) w0 (bl []) w) H ⟨⟨rfl, rfl, rfl, rfl, trivial⟩, hO, hB⟩ ?_
 intro X1 k1_5
 intro H hX1 σ w4
 refine andE fun hag => andE fun hO => fun hB => ?_
 refine Go1.keep [(0, .string (gstr w_)), (1, .int .i64 letters), (18, .int .i64 (w_.length : Int)), (19, .int .i64 (k1_5 : Int))] hag ?_
 refine zq (zr ?_)
 by_cases h6 : (k1_5 : Int) < (w_.length : Int)
 ·replace H := ifp h6 H
  refine zo (fun w => opB (J08 rfl rfl w) (decide_eq_true h6)) (zn (zq (zt rfl rfl (zk (zq ?_)))))
  refine zb (zq (zr (zm rfl (za rfl (zn ?_)))))
  refine zq (zr (zm rfl (zm rfl ?_)))
  obtain ⟨h7, H⟩ := H
  obtain ⟨h8, H⟩ := H
  refine zo (op_indexS Try.underlying9 rfl rfl h7 h8) ?_
  by_cases h9 : ((ix w_ (k1_5 : Int)).toNat : Int) < (97 : Int)
  ·replace H := ifp h9 H
   refine zo (fun w => opB (J08 rfl rfl w) (decide_eq_true h9)) (zm rfl (zp (zp (zp (zp ?_)))))
   refine zp (zp (zp (zo (J05 rfl rfl rfl) (zn (zt rfl rfl ?_)))))
   refine zq (zr (za rfl (zn ?_)))
   refine Go1.ret1 Try.func89 rfl ?_
   exact ⟨false, rfl, hB.same, H⟩
  replace H := ifn h9 H
  refine zo (fun w => opB (J08 rfl rfl w) (decide_eq_false h9)) (zm rfl (zm rfl (zm rfl ?_)))
  obtain ⟨h10, H⟩ := H
  obtain ⟨h11, H⟩ := H
  refine zo (op_indexS Try.underlying9 rfl rfl h10 h11) (zo (op_sub rfl rfl rfl) (zo (op_conv Try.underlying5 Try.underlying3 rfl rfl) (zm rfl ?_)))
  by_cases h12 : letters ≤ (IntKind.i64.wrap (IntKind.u8.wrap (((ix w_ (k1_5 : Int)).toNat : Int) - (97 : Int))))
  ·replace H := ifp h12 H
   refine zo (fun w => opB (J0L rfl rfl w) (decide_eq_true h12)) (zo (J04 rfl rfl rfl) (zn (zt rfl rfl (zq ?_))))
   refine Go1.cut [] trivial ?_
   intro σ _
   refine zr (za rfl (zn ?_))
   refine Go1.ret1 Try.func89 rfl ?_
   exact ⟨false, rfl, hB.same, H⟩
  replace H := ifn h12 H
  refine zo (fun w => opB (J0L rfl rfl w) (decide_eq_false h12)) (zo (J04 rfl rfl rfl) (zn (zf rfl rfl (zk ?_))))
  refine Go1.inBlock ?_
  refine zr (zo (J0c rfl rfl (wrap_i64 (natbd h6 iN))) (zm rfl (zn ?_)))
  exact hX1 _ H _ _ ⟨⟨rfl, rfl, rfl, rfl, trivial⟩, hO, hB⟩
 replace H := ifn h6 H
 refine zo (fun w => opB (J08 rfl rfl w) (decide_eq_false h6)) (zn (zq (zf rfl rfl ?_)))
 refine Go1.exit rfl ?_
 refine zq (zr (za rfl (zn ?_)))
 refine Go1.ret1 Try.func89 rfl ?_
 exact ⟨true, rfl, hB.same, H⟩
theorem body80 : Body Try.prog 80 := ⟨Try.f80, Try.func80, rfl, by kernel_rfl⟩
theorem walk_syntactic_value {A : List Nat} {w0 : World} {bn : Option Addr} {bo : Nat} {bE : Option Addr} {bF : Nat} {bh : Option Addr} {bi : Nat} {bk : Option Addr} {bm : Nat} {bO : Option Addr} {bP : Nat} {s_ : Syntactic} {w_ : Str} (hA : ∀ b ∈ A, b < w0.heap.size) (aC : ISl (Rp.sl (Rp.int .i64)) A w0 bn bo s_.Table) (aL : ISl (Rp.str) A w0 bE bF s_.Words) (av : ISl (Rp.int .i64) A w0 bh bi s_.Images) (ax : ISl (Rp.bool) A w0 bk bm s_.Accept) (aY : ISl (Rp.bool) A w0 bO bP s_.Plus) (iN : w_.length ≤ mx) {K : Int → Prop} (H : J13 s_ w_ K) :
    CallsV Try.prog 80 #[.agg #[.int .i64 s_.Letters, .slice bn s_.Table.length bo, .slice bE s_.Words.length bF, .slice bh s_.Images.length bi, .slice bk s_.Accept.length bm, .slice bO s_.Plus.length bP], .string (gstr w_)] w0 (fun v w' => ∃ (r0 : Int), v = .int .i64 r0 ∧ Same w0 w' ∧ K r0) := by
 refine CallsV.of (l := [.agg #[.int .i64 s_.Letters, .slice bn s_.Table.length bo, .slice bE s_.Words.length bF, .slice bh s_.Images.length bi, .slice bk s_.Accept.length bm, .slice bO s_.Plus.length bP], .string (gstr w_)]) Try.func80 rfl Try.ntmps80 rfl ?_
 have hO := Owns.start hA
 have hB := Fr.refl (bl []) w0
 unfold J13 at H
 refine zq (zr ?_)
 have zz := obox (t := 33) (v := .agg #[.int .i64 s_.Letters, .slice bn s_.Table.length bo, .slice bE s_.Words.length bF, .slice bh s_.Images.length bi, .slice bk s_.Accept.length bm, .slice bO s_.Plus.length bP]) (cs := #[.int .i64 s_.Letters, .slice bn s_.Table.length bo, .slice bE s_.Words.length bF, .slice bh s_.Images.length bi, .slice bk s_.Accept.length bm, .slice bO s_.Plus.length bP]) hO rfl
 obtain ⟨w1, B2, cB, hs4, ic⟩ := zz
 refine zg (ic rfl) ?_
 replace hO := cB.own
 refine za rfl (zn (zq (zq (zr (zm rfl ?_)))))
 refine zo (J00 Try.underlying33 rfl ti3 rfl (by decide)) (zs (oblk (i := 0) 0 hO rfl rfl Try.underlying3 rfl rfl) ?_)
 refine GoR.call (J0a body89 rfl (walk_word_Valid hO.lt iN H)) rfl rfl ?_
 rintro v11 w8 ⟨r7, rfl, hs9, H⟩
 have d8 := Stp.same hO hs9
 replace hO := d8.own
 cases r7
 ·replace H := ifn Bool.false_ne_true H
  refine zo (J0l rfl) (zn (zt rfl rfl (zq (zr (za rfl ?_)))))
  refine zn ?_
  refine Go1.ret1 Try.func80 rfl ?_
  replace hB := (hB.trans cB.fr).trans d8.fr
  exact ⟨(-1 : Int), rfl, hB.same, H⟩
 replace H := ifp rfl H
 refine zo (J0l rfl) (zn (zf rfl rfl (zk (zq (zr ?_)))))
 refine za rfl (zn (zq (zq (zr (zm rfl ?_)))))
 refine zo (op_lenS Try.underlying9 rfl) ?_
 replace H := H iN
 refine zm rfl (zn (zb ?_))
 replace hB := (hB.trans cB.fr).trans d8.fr
 have Z1 := ((Ch.start A w0).trans cB.ch).trans d8.ch
 replace aC := aC.ch Z1
 replace aL := aL.ch Z1
 replace av := av.ch Z1
 replace ax := ax.ch Z1
 replace aY := aY.ch Z1
 refine Go1.loopW (S := Int × Nat) (fun s σ w => match s with | (x1_14, k1_15) => agrees σ [(1, .string (gstr w_)), (2, .pointer (some ⟨B2, 0, none⟩)), (5, .int .i64 x1_14), (13, .int .i64 (w_.length : Int)), (14, .int .i64 (k1_15 : Int))] ∧ (fun Z0 => Owns w0.heap.size w Z0 A ∧ ISl (Rp.sl (Rp.int .i64)) (bl Z0 ++ A) w bn bo s_.Table ∧ ISl (Rp.str) (bl Z0 ++ A) w bE bF s_.Words ∧ ISl (Rp.int .i64) (bl Z0 ++ A) w bh bi s_.Images ∧ ISl (Rp.bool) (bl Z0 ++ A) w bk bm s_.Accept ∧ ISl (Rp.bool) (bl Z0 ++ A) w bO bP s_.Plus ∧ Fr (bl []) w0 (bl Z0) w) [.blk B2 (.cells #[.int .i64 s_.Letters, .slice bn s_.Table.length bo, .slice bE s_.Words.length bF, .slice bh s_.Images.length bi, .slice bk s_.Accept.length bm, .slice bO s_.Plus.length bP] 33 (0, 0))]) H ⟨⟨rfl, rfl, rfl, rfl, rfl, trivial⟩, hO, aC, aL, av, ax, aY, hB⟩ ?_
 intro X1
 refine prE fun x1_14 => fun k1_15 => ?_
 intro H hX1 σ w13
 refine andE fun hag => andE fun hO => andE fun aC => andE fun aL => andE fun av => andE fun ax => andE fun aY => fun hB => ?_
 dsimp only at H
 refine Go1.keep [(1, .string (gstr w_)), (2, .pointer (some ⟨B2, 0, none⟩)), (5, .int .i64 x1_14), (13, .int .i64 (w_.length : Int)), (14, .int .i64 (k1_15 : Int))] hag ?_
 refine zq (zr ?_)
 by_cases h16 : (k1_15 : Int) < (w_.length : Int)
 ·replace H := ifp h16 H
  refine zo (fun w => opB (J08 rfl rfl w) (decide_eq_true h16)) (zn (zq (zt rfl rfl (zk (zq ?_)))))
  refine zb (zq (zr (zm rfl (za rfl (zn ?_)))))
  refine Go1.drawS 0 [(0, .pure), (1, .stable), (2, .pure), (3, .pure), (4, .stable), (5, .pure), (6, .stable), (7, .pure), (8, .pure), (9, .pure), (10, .pure), (11, .pure), (12, .stable), (13, .pure), (14, .stable), (15, .pure)] mixed (by kernel_rfl) ?_
  intro w17 Bi
  have i6 := Stp.same hO Bi
  replace hO := i6.own
  refine GoQ.pure rfl (J00 Try.underlying33 rfl ti23 rfl (by decide)) rfl rfl ?_
  refine GoQ.stable rfl (oblk (i := 1) 0 hO rfl rfl Try.underlying23 rfl rfl) rfl rfl ?_
  refine GoQ.pure rfl (J03 rfl) rfl rfl ?_
  obtain ⟨h20, H⟩ := H
  obtain ⟨h21, H⟩ := H
  replace aC := aC.ch i6.ch
  refine GoQ.pure rfl (J02 Try.underlying23 ti31 rfl rfl h20 h21 (aC.some_ h20 h21)) rfl rfl ?_
  have zz := ldSl aC h20 h21
  obtain ⟨p22, c23, DU, HV⟩ := zz
  refine GoQ.stable rfl (HV Try.underlying31 rfl rfl) rfl rfl ?_
  refine GoQ.pure rfl (J00 Try.underlying33 rfl ti31 rfl (by decide)) rfl rfl ?_
  refine GoQ.stable rfl (oblk (i := 3) 0 hO rfl rfl Try.underlying31 rfl rfl) rfl rfl ?_
  refine GoQ.pure rfl (J03 rfl) rfl rfl ?_
  refine GoQ.pure rfl (J03 rfl) rfl rfl ?_
  obtain ⟨h26, H⟩ := H
  obtain ⟨h27, H⟩ := H
  refine GoQ.pure rfl (op_indexS Try.underlying9 rfl rfl h26 h27) rfl rfl ?_
  refine GoQ.pure rfl (op_sub rfl rfl rfl) rfl rfl ?_
  obtain ⟨h28, H⟩ := H
  obtain ⟨h29, H⟩ := H
  replace av := av.ch i6.ch
  refine GoQ.pure rfl (J02 Try.underlying31 ti3 rfl rfl h28 h29 (av.some_ h28 h29)) rfl rfl ?_
  refine GoQ.stable rfl (ldInt av h28 h29 Try.underlying3 rfl rfl) rfl rfl ?_
  obtain ⟨h30, H⟩ := H
  obtain ⟨h31, H⟩ := H
  refine GoQ.pure rfl (J02 Try.underlying31 ti3 rfl rfl h30 h31 (DU.some_ h30 h31)) rfl rfl ?_
  refine GoQ.stable rfl (ldInt DU h30 h31 Try.underlying3 rfl rfl) rfl rfl ?_
  refine GoQ.pure rfl (J0i rfl) rfl rfl ?_
  refine GoQ.nil ?_
  refine Go1.inBlock ?_
  refine Go1.cut [(1, .string (gstr w_)), (2, .pointer (some ⟨B2, 0, none⟩)), (5, .int .i64 (ix (ix s_.Table x1_14) (ix s_.Images (IntKind.u8.wrap (((ix w_ (k1_15 : Int)).toNat : Int) - (97 : Int)))))), (13, .int .i64 (w_.length : Int)), (14, .int .i64 (k1_15 : Int))] ⟨rfl, rfl, rfl, rfl, rfl, trivial⟩ ?_
  intro σ _
  refine zr (zo (J0c rfl rfl (wrap_i64 (natbd h16 iN))) (zm rfl (zn ?_)))
  replace aL := aL.ch i6.ch
  replace ax := ax.ch i6.ch
  replace aY := aY.ch i6.ch
  replace hB := hB.trans i6.fr
  exact hX1 _ H _ _ ⟨⟨rfl, rfl, rfl, rfl, rfl, trivial⟩, hO, aC, aL, av, ax, aY, hB⟩
 replace H := ifn h16 H
 refine zo (fun w => opB (J08 rfl rfl w) (decide_eq_false h16)) (zn (zq (zf rfl rfl ?_)))
 refine Go1.exit rfl ?_
 refine zq (zr (zm rfl (za rfl (zn ?_))))
 refine Go1.ret1 Try.func80 rfl ?_
 exact ⟨x1_14, rfl, hB.same, H⟩
theorem body37 : Body Try.prog 37 := ⟨Try.f37, Try.func37, rfl, by kernel_rfl⟩
theorem J19 {A : List Nat} {w0 : World} {bn : Option Addr} {bo : Nat} {bE : Option Addr} {bF : Nat} {bh : Option Addr} {bi : Nat} {bk : Option Addr} {bm : Nat} {bO : Option Addr} {bP : Nat} {s_ : Syntactic} {w_ : Str} (hA : ∀ b ∈ A, b < w0.heap.size) (aC : ISl (Rp.sl (Rp.int .i64)) A w0 bn bo s_.Table) (aL : ISl (Rp.str) A w0 bE bF s_.Words) (av : ISl (Rp.int .i64) A w0 bh bi s_.Images) (ax : ISl (Rp.bool) A w0 bk bm s_.Accept) (aY : ISl (Rp.bool) A w0 bO bP s_.Plus) (iN : w_.length ≤ mx) {K : Int → Prop} (H : J0A s_ w_ K) :
    CallsV Try.prog 37 #[.agg #[.int .i64 s_.Letters, .slice bn s_.Table.length bo, .slice bE s_.Words.length bF, .slice bh s_.Images.length bi, .slice bk s_.Accept.length bm, .slice bO s_.Plus.length bP], .string (gstr w_)] w0 (fun v w' => ∃ (r0 : Int), v = .int .i64 r0 ∧ Same w0 w' ∧ K r0) := by
 refine CallsV.of (l := [.agg #[.int .i64 s_.Letters, .slice bn s_.Table.length bo, .slice bE s_.Words.length bF, .slice bh s_.Images.length bi, .slice bk s_.Accept.length bm, .slice bO s_.Plus.length bP], .string (gstr w_)]) Try.func37 rfl Try.ntmps37 rfl ?_
 have hO := Owns.start hA
 have hB := Fr.refl (bl []) w0
 unfold J0A at H
 refine zq (zr ?_)
 have zz := obox (t := 33) (v := .agg #[.int .i64 s_.Letters, .slice bn s_.Table.length bo, .slice bE s_.Words.length bF, .slice bh s_.Images.length bi, .slice bk s_.Accept.length bm, .slice bO s_.Plus.length bP]) (cs := #[.int .i64 s_.Letters, .slice bn s_.Table.length bo, .slice bE s_.Words.length bF, .slice bh s_.Images.length bi, .slice bk s_.Accept.length bm, .slice bO s_.Plus.length bP]) hO rfl
 obtain ⟨w1, B2, cB, hs4, ic⟩ := zz
 refine zg (ic rfl) ?_
 replace hO := cB.own
 refine za rfl (zn (zq (zq (zr (zs (J0j (vs := [.int .i64 s_.Letters, .slice bn s_.Table.length bo, .slice bE s_.Words.length bF, .slice bh s_.Images.length bi, .slice bk s_.Accept.length bm, .slice bO s_.Plus.length bP]) (i := 0) 0 hO rfl rfl Try.underlying33 rfl ti33 rfl) ?_)))))
 have Z1 := (Ch.start A w0).trans cB.ch
 replace aC := aC.ch Z1
 replace aL := aL.ch Z1
 replace av := av.ch Z1
 replace ax := ax.ch Z1
 replace aY := aY.ch Z1
 refine GoR.call (J0a body28 rfl (J1r (a0 := s_) hO.lt aC aL av ax aY H)) rfl rfl ?_
 rintro v11 w8 ⟨r7, rfl, hs9, H⟩
 have d8 := Stp.same hO hs9
 replace hO := d8.own
 by_cases h13 : r7 = (0 : Int)
 ·replace H := ifp h13 H
  refine zo (fun w => opB (J0g rfl rfl w) (ndT h13)) (zn (zf rfl rfl (zk (zq (zr ?_)))))
  refine zs (J0j (vs := [.int .i64 s_.Letters, .slice bn s_.Table.length bo, .slice bE s_.Words.length bF, .slice bh s_.Images.length bi, .slice bk s_.Accept.length bm, .slice bO s_.Plus.length bP]) (i := 0) 0 hO rfl rfl Try.underlying33 rfl ti33 rfl) (zm rfl ?_)
  replace aC := aC.ch d8.ch
  replace aL := aL.ch d8.ch
  replace av := av.ch d8.ch
  replace ax := ax.ch d8.ch
  replace aY := aY.ch d8.ch
  refine GoR.call (J0a body80 rfl (walk_syntactic_value (s_ := s_) hO.lt aC aL av ax aY iN H)) rfl rfl ?_
  rintro v18 w15 ⟨r14, rfl, F0, H⟩
  have i6 := Stp.same hO F0
  replace hO := i6.own
  refine za rfl (zn ?_)
  refine Go1.ret1 Try.func37 rfl ?_
  replace hB := ((hB.trans cB.fr).trans d8.fr).trans i6.fr
  exact ⟨r14, rfl, hB.same, H⟩
 replace H := ifn h13 H
 refine zo (fun w => opB (J0g rfl rfl w) (ndF h13)) (zn (zt rfl rfl (zq (zr (za rfl ?_)))))
 refine zn ?_
 refine Go1.ret1 Try.func37 rfl ?_
 replace hB := (hB.trans cB.fr).trans d8.fr
 exact ⟨(-1 : Int), rfl, hB.same, H⟩
theorem body38 : Body Try.prog 38 := ⟨Try.f38, Try.func38, rfl, by kernel_rfl⟩
theorem walk_syntactic_Member {A : List Nat} {w0 : World} {bn : Option Addr} {bo : Nat} {bE : Option Addr} {bF : Nat} {bh : Option Addr} {bi : Nat} {bk : Option Addr} {bm : Nat} {bO : Option Addr} {bP : Nat} {s_ : Syntactic} {w_ : Str} (hA : ∀ b ∈ A, b < w0.heap.size) (aC : ISl (Rp.sl (Rp.int .i64)) A w0 bn bo s_.Table) (aL : ISl (Rp.str) A w0 bE bF s_.Words) (av : ISl (Rp.int .i64) A w0 bh bi s_.Images) (ax : ISl (Rp.bool) A w0 bk bm s_.Accept) (aY : ISl (Rp.bool) A w0 bO bP s_.Plus) (iN : w_.length ≤ mx) {K : Bool → Prop} (H : J0F s_ w_ K) :
    CallsV Try.prog 38 #[.agg #[.int .i64 s_.Letters, .slice bn s_.Table.length bo, .slice bE s_.Words.length bF, .slice bh s_.Images.length bi, .slice bk s_.Accept.length bm, .slice bO s_.Plus.length bP], .string (gstr w_)] w0 (fun v w' => ∃ (r0 : Bool), v = .bool r0 ∧ Same w0 w' ∧ K r0) := by
 refine CallsV.of (l := [.agg #[.int .i64 s_.Letters, .slice bn s_.Table.length bo, .slice bE s_.Words.length bF, .slice bh s_.Images.length bi, .slice bk s_.Accept.length bm, .slice bO s_.Plus.length bP], .string (gstr w_)]) Try.func38 rfl Try.ntmps38 rfl ?_
 have hO := Owns.start hA
 have hB := Fr.refl (bl []) w0
 unfold J0F at H
 refine zq (zr ?_)
 have zz := obox (t := 33) (v := .agg #[.int .i64 s_.Letters, .slice bn s_.Table.length bo, .slice bE s_.Words.length bF, .slice bh s_.Images.length bi, .slice bk s_.Accept.length bm, .slice bO s_.Plus.length bP]) (cs := #[.int .i64 s_.Letters, .slice bn s_.Table.length bo, .slice bE s_.Words.length bF, .slice bh s_.Images.length bi, .slice bk s_.Accept.length bm, .slice bO s_.Plus.length bP]) hO rfl
 obtain ⟨w1, B2, cB, hs4, ic⟩ := zz
 refine zg (ic rfl) ?_
 replace hO := cB.own
 refine za rfl (zn (zq (zr (zs (J0j (vs := [.int .i64 s_.Letters, .slice bn s_.Table.length bo, .slice bE s_.Words.length bF, .slice bh s_.Images.length bi, .slice bk s_.Accept.length bm, .slice bO s_.Plus.length bP]) (i := 0) 0 hO rfl rfl Try.underlying33 rfl ti33 rfl) (zm rfl ?_)))))
 have Z1 := (Ch.start A w0).trans cB.ch
 replace aC := aC.ch Z1
 replace aL := aL.ch Z1
 replace av := av.ch Z1
 replace ax := ax.ch Z1
 replace aY := aY.ch Z1
 refine GoR.call (J0a body37 rfl (J19 (s_ := s_) hO.lt aC aL av ax aY iN H)) rfl rfl ?_
 rintro v11 w8 ⟨r7, rfl, hs9, H⟩
 have d8 := Stp.same hO hs9
 replace hO := d8.own
 refine za rfl (zn (zq (zr (zm rfl ?_))))
 by_cases h13 : (0 : Int) ≤ r7
 ·replace H := ifp h13 H
  refine zo (fun w => opB (J0L rfl rfl w) (decide_eq_true h13)) (zm rfl (zo (J00 Try.underlying33 rfl ti22 rfl (by decide)) (zs (oblk (i := 4) 0 hO rfl rfl Try.underlying22 rfl rfl) (zm rfl ?_))))
  obtain ⟨h14, H⟩ := H
  obtain ⟨h15, H⟩ := H
  replace ax := ax.ch d8.ch
  refine zo (J02 Try.underlying22 ti4 rfl rfl h14 h15 (ax.some_ h14 h15)) ?_
  by_cases h16 : ix s_.Accept r7 = true
  ·replace H := ifp h16 H
   refine zg (opB ((ldBool ax h14 h15 Try.underlying4 rfl rfl) _ (Same.refl _)) (h16)) (zo (J05 rfl rfl rfl) (za rfl (zn ?_)))
   refine Go1.ret1 Try.func38 rfl ?_
   replace hB := (hB.trans cB.fr).trans d8.fr
   exact ⟨true, rfl, hB.same, H⟩
  replace H := ifn h16 H
  refine zg (opB ((ldBool ax h14 h15 Try.underlying4 rfl rfl) _ (Same.refl _)) (Bool.eq_false_iff.2 h16)) (zo (J05 rfl rfl rfl) (za rfl (zn ?_)))
  refine Go1.ret1 Try.func38 rfl ?_
  replace hB := (hB.trans cB.fr).trans d8.fr
  exact ⟨false, rfl, hB.same, H⟩
 replace H := ifn h13 H
 refine zo (fun w => opB (J0L rfl rfl w) (decide_eq_false h13)) (zm rfl (zp (zp (zp (zp ?_)))))
 refine zp (zo (J04 rfl rfl rfl) (za rfl (zn ?_)))
 refine Go1.ret1 Try.func38 rfl ?_
 replace hB := (hB.trans cB.fr).trans d8.fr
 exact ⟨false, rfl, hB.same, H⟩
theorem body39 : Body Try.prog 39 := ⟨Try.f39, Try.func39, rfl, by kernel_rfl⟩
theorem walk_ref21_Value {A : List Nat} {w0 : World} {bn : Option Addr} {bo : Nat} {bE : Option Addr} {bF : Nat} {bh : Option Addr} {bi : Nat} {bk : Option Addr} {bm : Nat} {bO : Option Addr} {bP : Nat} {s_ : Syntactic} {w_ : Str} (hA : ∀ b ∈ A, b < w0.heap.size) (aC : ISl (Rp.sl (Rp.int .i64)) A w0 bn bo s_.Table) (aL : ISl (Rp.str) A w0 bE bF s_.Words) (av : ISl (Rp.int .i64) A w0 bh bi s_.Images) (ax : ISl (Rp.bool) A w0 bk bm s_.Accept) (aY : ISl (Rp.bool) A w0 bO bP s_.Plus) (iN : w_.length ≤ mx) {K : Int → Prop} (H : ref21_Value s_ w_ K) :
    CallsV Try.prog 39 #[.agg #[.int .i64 s_.Letters, .slice bn s_.Table.length bo, .slice bE s_.Words.length bF, .slice bh s_.Images.length bi, .slice bk s_.Accept.length bm, .slice bO s_.Plus.length bP], .string (gstr w_)] w0 (fun v w' => ∃ (r0 : Int), v = .int .i64 r0 ∧ Same w0 w' ∧ K r0) := by
 refine CallsV.of (l := [.agg #[.int .i64 s_.Letters, .slice bn s_.Table.length bo, .slice bE s_.Words.length bF, .slice bh s_.Images.length bi, .slice bk s_.Accept.length bm, .slice bO s_.Plus.length bP], .string (gstr w_)]) Try.func39 rfl Try.ntmps39 rfl ?_
 have hO := Owns.start hA
 have hB := Fr.refl (bl []) w0
 unfold ref21_Value at H
 refine zq (zr ?_)
 have zz := obox (t := 33) (v := .agg #[.int .i64 s_.Letters, .slice bn s_.Table.length bo, .slice bE s_.Words.length bF, .slice bh s_.Images.length bi, .slice bk s_.Accept.length bm, .slice bO s_.Plus.length bP]) (cs := #[.int .i64 s_.Letters, .slice bn s_.Table.length bo, .slice bE s_.Words.length bF, .slice bh s_.Images.length bi, .slice bk s_.Accept.length bm, .slice bO s_.Plus.length bP]) hO rfl
 obtain ⟨w1, B2, cB, hs4, ic⟩ := zz
 refine zg (ic rfl) ?_
 replace hO := cB.own
 refine za rfl (zn (zq (zq (zr (zm rfl ?_)))))
 refine zo (J00 Try.underlying33 rfl ti3 rfl (by decide)) (zs (oblk (i := 0) 0 hO rfl rfl Try.underlying3 rfl rfl) ?_)
 refine GoR.call (J0a body41 rfl (walk_ref01_Valid hO.lt iN H)) rfl rfl ?_
 rintro v11 w8 ⟨r7, rfl, hs9, H⟩
 have d8 := Stp.same hO hs9
 replace hO := d8.own
 cases r7
 ·replace H := ifn Bool.false_ne_true H
  refine zo (J0l rfl) (zn (zt rfl rfl (zq (zr (za rfl ?_)))))
  refine zn ?_
  refine Go1.ret1 Try.func39 rfl ?_
  replace hB := (hB.trans cB.fr).trans d8.fr
  exact ⟨(-1 : Int), rfl, hB.same, H⟩
 replace H := ifp rfl H
 refine zo (J0l rfl) (zn (zf rfl rfl (zk (zq (zr ?_)))))
 refine za rfl (zn (zq (zq (zr (za rfl ?_)))))
 refine zn (zb ?_)
 replace hB := (hB.trans cB.fr).trans d8.fr
 have Z1 := ((Ch.start A w0).trans cB.ch).trans d8.ch
 replace aC := aC.ch Z1
 replace aL := aL.ch Z1
 replace av := av.ch Z1
 replace ax := ax.ch Z1
 replace aY := aY.ch Z1
 refine Go1.loopW (S := Int × Nat) (fun s σ w => match s with | (x1_14, i1_15) => agrees σ [(1, .string (gstr w_)), (2, .pointer (some ⟨B2, 0, none⟩)), (5, .int .i64 x1_14), (6, .int .i64 (i1_15 : Int))] ∧ (fun Z0 => Owns w0.heap.size w Z0 A ∧ ISl (Rp.sl (Rp.int .i64)) (bl Z0 ++ A) w bn bo s_.Table ∧ ISl (Rp.str) (bl Z0 ++ A) w bE bF s_.Words ∧ ISl (Rp.int .i64) (bl Z0 ++ A) w bh bi s_.Images ∧ ISl (Rp.bool) (bl Z0 ++ A) w bk bm s_.Accept ∧ ISl (Rp.bool) (bl Z0 ++ A) w bO bP s_.Plus ∧ Fr (bl []) w0 (bl Z0) w) [.blk B2 (.cells #[.int .i64 s_.Letters, .slice bn s_.Table.length bo, .slice bE s_.Words.length bF, .slice bh s_.Images.length bi, .slice bk s_.Accept.length bm, .slice bO s_.Plus.length bP] 33 (0, 0))]) H ⟨⟨rfl, rfl, rfl, rfl, trivial⟩, hO, aC, aL, av, ax, aY, hB⟩ ?_
 intro X1
 refine prE fun x1_14 => fun i1_15 => ?_
 intro H hX1 σ w13
 refine andE fun hag => andE fun hO => andE fun aC => andE fun aL => andE fun av => andE fun ax => andE fun aY => fun hB => ?_
 dsimp only at H
 refine Go1.keep [(1, .string (gstr w_)), (2, .pointer (some ⟨B2, 0, none⟩)), (5, .int .i64 x1_14), (6, .int .i64 (i1_15 : Int))] hag ?_
 refine zq (zq (zr (zm rfl (zm rfl (zo (op_lenS Try.underlying9 rfl) ?_)))))
 replace H := H iN
 by_cases h16 : (i1_15 : Int) < (w_.length : Int)
 ·replace H := ifp h16 H
  refine zo (fun w => opB (J08 rfl rfl w) (decide_eq_true h16)) (zn (zt rfl rfl (zk (zq (zb ?_)))))
  refine Go1.drawS 0 [(0, .pure), (1, .stable), (2, .pure), (3, .pure), (4, .stable), (5, .pure), (6, .stable), (7, .pure), (8, .pure), (9, .pure), (10, .pure), (11, .pure), (12, .pure), (13, .stable), (14, .pure), (15, .stable), (16, .pure)] mixed (by kernel_rfl) ?_
  intro w17 Bi
  have i6 := Stp.same hO Bi
  replace hO := i6.own
  refine GoQ.pure rfl (J00 Try.underlying33 rfl ti23 rfl (by decide)) rfl rfl ?_
  refine GoQ.stable rfl (oblk (i := 1) 0 hO rfl rfl Try.underlying23 rfl rfl) rfl rfl ?_
  refine GoQ.pure rfl (J03 rfl) rfl rfl ?_
  obtain ⟨h20, H⟩ := H
  obtain ⟨h21, H⟩ := H
  replace aC := aC.ch i6.ch
  refine GoQ.pure rfl (J02 Try.underlying23 ti31 rfl rfl h20 h21 (aC.some_ h20 h21)) rfl rfl ?_
  have zz := ldSl aC h20 h21
  obtain ⟨p22, c23, DU, HV⟩ := zz
  refine GoQ.stable rfl (HV Try.underlying31 rfl rfl) rfl rfl ?_
  refine GoQ.pure rfl (J00 Try.underlying33 rfl ti31 rfl (by decide)) rfl rfl ?_
  refine GoQ.stable rfl (oblk (i := 3) 0 hO rfl rfl Try.underlying31 rfl rfl) rfl rfl ?_
  refine GoQ.pure rfl (J03 rfl) rfl rfl ?_
  refine GoQ.pure rfl (J03 rfl) rfl rfl ?_
  obtain ⟨h26, H⟩ := H
  obtain ⟨h27, H⟩ := H
  refine GoQ.pure rfl (op_indexS Try.underlying9 rfl rfl h26 h27) rfl rfl ?_
  refine GoQ.pure rfl (op_sub rfl rfl rfl) rfl rfl ?_
  refine GoQ.pure rfl (op_conv Try.underlying5 Try.underlying3 rfl rfl) rfl rfl ?_
  obtain ⟨h28, H⟩ := H
  obtain ⟨h29, H⟩ := H
  replace av := av.ch i6.ch
  refine GoQ.pure rfl (J02 Try.underlying31 ti3 rfl rfl h28 h29 (av.some_ h28 h29)) rfl rfl ?_
  refine GoQ.stable rfl (ldInt av h28 h29 Try.underlying3 rfl rfl) rfl rfl ?_
  obtain ⟨h30, H⟩ := H
  obtain ⟨h31, H⟩ := H
  refine GoQ.pure rfl (J02 Try.underlying31 ti3 rfl rfl h30 h31 (DU.some_ h30 h31)) rfl rfl ?_
  refine GoQ.stable rfl (ldInt DU h30 h31 Try.underlying3 rfl rfl) rfl rfl ?_
  refine GoQ.pure rfl (J0i rfl) rfl rfl ?_
  refine GoQ.nil ?_
  refine Go1.inBlock ?_
  refine Go1.cut [(1, .string (gstr w_)), (2, .pointer (some ⟨B2, 0, none⟩)), (5, .int .i64 (ix (ix s_.Table x1_14) (ix s_.Images (IntKind.i64.wrap (IntKind.u8.wrap (((ix w_ (i1_15 : Int)).toNat : Int) - (97 : Int))))))), (6, .int .i64 (i1_15 : Int))] ⟨rfl, rfl, rfl, rfl, trivial⟩ ?_
  intro σ _
  refine zr (zm rfl (zo (J0c rfl rfl (wrap_i64 (natbd h16 iN))) (za rfl (zn ?_))))
  replace aL := aL.ch i6.ch
  replace ax := ax.ch i6.ch
  replace aY := aY.ch i6.ch
  replace hB := hB.trans i6.fr
  exact hX1 _ H _ _ ⟨⟨rfl, rfl, rfl, rfl, trivial⟩, hO, aC, aL, av, ax, aY, hB⟩
 replace H := ifn h16 H
 refine zo (fun w => opB (J08 rfl rfl w) (decide_eq_false h16)) (zn (zf rfl rfl ?_))
 refine Go1.exit rfl ?_
 refine zq (zr (zm rfl (za rfl (zn ?_))))
 refine Go1.ret1 Try.func39 rfl ?_
 exact ⟨x1_14, rfl, hB.same, H⟩
theorem body81 : Body Try.prog 81 := ⟨Try.f81, Try.func81, rfl, by kernel_rfl⟩
theorem walk_dfa_Run {A : List Nat} {w0 : World} {aQ : Option Addr} {aR : Nat} {aW : Option Addr} {aX : Nat} {d : DFA} {state : Int} {w_ : Str} (hA : ∀ b ∈ A, b < w0.heap.size) (aa : ISl (Rp.bool) A w0 aQ aR d.Final) (ai : ISl (Rp.sl (Rp.int .i64)) A w0 aW aX d.Next) (iN : w_.length ≤ mx) {K : Int → Prop} (H : dfa_Run d state w_ K) :
    CallsV Try.prog 81 #[.agg #[.int .i64 d.Letters, .int .i64 d.Start, .slice aQ d.Final.length aR, .slice aW d.Next.length aX], .int .i64 state, .string (gstr w_)] w0 (fun v w' => ∃ (r0 : Int), v = .int .i64 r0 ∧ Same w0 w' ∧ K r0) := by
 refine CallsV.of (l := [.agg #[.int .i64 d.Letters, .int .i64 d.Start, .slice aQ d.Final.length aR, .slice aW d.Next.length aX], .int .i64 state, .string (gstr w_)]) Try.func81 rfl Try.ntmps81 rfl ?_
 have hO := Owns.start hA
 have hB := Fr.refl (bl []) w0
 unfold dfa_Run at H
 refine zq (zr ?_)
 have zz := obox (t := 25) (v := .agg #[.int .i64 d.Letters, .int .i64 d.Start, .slice aQ d.Final.length aR, .slice aW d.Next.length aX]) (cs := #[.int .i64 d.Letters, .int .i64 d.Start, .slice aQ d.Final.length aR, .slice aW d.Next.length aX]) hO rfl
 obtain ⟨w1, B2, cB, hs4, ic⟩ := zz
 refine zg (ic rfl) ?_
 replace hO := cB.own
 refine za rfl (zn (zq (zq (zr (zs (J0j (vs := [.int .i64 d.Letters, .int .i64 d.Start, .slice aQ d.Final.length aR, .slice aW d.Next.length aX]) (i := 0) 0 hO rfl rfl Try.underlying25 rfl ti25 rfl) ?_)))))
 have Z1 := (Ch.start A w0).trans cB.ch
 replace aa := aa.ch Z1
 replace ai := ai.ch Z1
 refine GoR.call (J0a body61 rfl (J0P (d := d) hO.lt aa ai H)) rfl rfl ?_
 rintro v11 w8 ⟨r7, rfl, hs9, H⟩
 have d8 := Stp.same hO hs9
 replace hO := d8.own
 by_cases h13 : r7 = (0 : Int)
 ·replace H := ifp h13 H
  refine zo (fun w => opB (J0g rfl rfl w) (ndT h13)) (zm rfl (zm rfl ?_))
  by_cases h14 : state < (0 : Int)
  ·replace H := ifp h14 H
   refine zo (fun w => opB (J08 rfl rfl w) (decide_eq_true h14)) (zo (J04 rfl rfl rfl) (zm rfl (zp (zp (zp ?_)))))
   refine zp (zp (zo (J05 rfl rfl rfl) (zm rfl (zp (zp ?_)))))
   refine zp (zp (zp (zo (J05 rfl rfl rfl) (zn (zt rfl rfl ?_)))))
   refine zq ?_
   refine Go1.cut [] trivial ?_
   intro σ _
   refine zr (za rfl (zn ?_))
   refine Go1.ret1 Try.func81 rfl ?_
   replace hB := (hB.trans cB.fr).trans d8.fr
   exact ⟨(-1 : Int), rfl, hB.same, H⟩
  replace H := ifn h14 H
  refine zo (fun w => opB (J08 rfl rfl w) (decide_eq_false h14)) (zo (J04 rfl rfl rfl) (zm rfl (zm rfl (zo (J00 Try.underlying25 rfl ti22 rfl (by decide)) (zs (oblk (i := 2) 0 hO rfl rfl Try.underlying22 rfl rfl) ?_)))))
  refine zo (J0d Try.underlying22 rfl) ?_
  replace aa := aa.ch d8.ch
  replace H := H aa.bd
  by_cases h15 : (d.Final.length : Int) ≤ state
  ·replace H := ifp h15 H
   refine zo (fun w => opB (J0L rfl rfl w) (decide_eq_true h15)) (zo (J04 rfl rfl rfl) (zm rfl (zp (zp (zp ?_)))))
   refine zp (zp (zo (J05 rfl rfl rfl) (zn (zt rfl rfl (zq ?_)))))
   refine zr (za rfl (zn ?_))
   refine Go1.ret1 Try.func81 rfl ?_
   replace hB := (hB.trans cB.fr).trans d8.fr
   exact ⟨(-1 : Int), rfl, hB.same, H⟩
  replace H := ifn h15 H
  refine zo (fun w => opB (J0L rfl rfl w) (decide_eq_false h15)) (zo (J04 rfl rfl rfl) (zm rfl (zm rfl (zo (J00 Try.underlying25 rfl ti3 rfl (by decide)) (zs (oblk (i := 0) 0 hO rfl rfl Try.underlying3 rfl rfl) ?_)))))
  refine GoR.call (J0a body89 rfl (walk_word_Valid hO.lt iN H)) rfl rfl ?_
  rintro v20 w17 ⟨r16, rfl, Bi, H⟩
  have oe := Stp.same hO Bi
  replace hO := oe.own
  cases r16
  ·replace H := ifn Bool.false_ne_true H
   refine zo (J0l rfl) (zo (J04 rfl rfl rfl) (zn (zt rfl rfl (zq ?_))))
   refine Go1.cut [] trivial ?_
   intro σ _
   refine zr (za rfl (zn ?_))
   refine Go1.ret1 Try.func81 rfl ?_
   replace hB := ((hB.trans cB.fr).trans d8.fr).trans oe.fr
   exact ⟨(-1 : Int), rfl, hB.same, H⟩
  replace H := ifp rfl H
  refine zo (J0l rfl) (zo (J04 rfl rfl rfl) (zn (zf rfl rfl (zk (zq ?_)))))
  refine zq (zr (zm rfl (zo (op_lenS Try.underlying9 rfl) ?_)))
  replace H := H iN
  refine zm rfl (zn (zb ?_))
  replace aa := aa.ch oe.ch
  replace ai := (ai.ch d8.ch).ch oe.ch
  replace hB := ((hB.trans cB.fr).trans d8.fr).trans oe.fr
  refine Go1.loopW (S := Int × Nat) (fun s σ w => match s with | (state1_23, k1_24) => agrees σ [(1, .int .i64 state1_23), (2, .string (gstr w_)), (3, .pointer (some ⟨B2, 0, none⟩)), (30, .int .i64 (w_.length : Int)), (31, .int .i64 (k1_24 : Int))] ∧ (fun Z0 => Owns w0.heap.size w Z0 A ∧ ISl (Rp.bool) (bl Z0 ++ A) w aQ aR d.Final ∧ ISl (Rp.sl (Rp.int .i64)) (bl Z0 ++ A) w aW aX d.Next ∧ Fr (bl []) w0 (bl Z0) w) [.blk B2 (.cells #[.int .i64 d.Letters, .int .i64 d.Start, .slice aQ d.Final.length aR, .slice aW d.Next.length aX] 25 (0, 0))]) H ⟨⟨rfl, rfl, rfl, rfl, rfl, trivial⟩, hO, aa, ai, hB⟩ ?_
  intro X1
  refine prE fun state1_23 => fun k1_24 => ?_
  intro H hX1 σ w22
  refine andE fun hag => andE fun hO => andE fun aa => andE fun ai => fun hB => ?_
  dsimp only at H
  refine Go1.keep [(1, .int .i64 state1_23), (2, .string (gstr w_)), (3, .pointer (some ⟨B2, 0, none⟩)), (30, .int .i64 (w_.length : Int)), (31, .int .i64 (k1_24 : Int))] hag ?_
  refine zq (zr ?_)
  by_cases h25 : (k1_24 : Int) < (w_.length : Int)
  ·replace H := ifp h25 H
   refine zo (fun w => opB (J08 rfl rfl w) (decide_eq_true h25)) (zn (zq (zt rfl rfl (zk (zq ?_)))))
   refine zb (zq (zr (zm rfl (za rfl (zn ?_)))))
   refine Go1.drawS 0 [(0, .pure), (1, .stable), (2, .pure), (3, .pure), (4, .stable), (5, .pure), (6, .pure), (7, .pure), (8, .pure), (9, .pure), (10, .stable), (11, .pure)] mixed (by kernel_rfl) ?_
   intro w26 HR
   have j4 := Stp.same hO HR
   replace hO := j4.own
   refine GoQ.pure rfl (J00 Try.underlying25 rfl ti23 rfl (by decide)) rfl rfl ?_
   refine GoQ.stable rfl (oblk (i := 3) 0 hO rfl rfl Try.underlying23 rfl rfl) rfl rfl ?_
   refine GoQ.pure rfl (J03 rfl) rfl rfl ?_
   obtain ⟨h29, H⟩ := H
   obtain ⟨h30, H⟩ := H
   replace ai := ai.ch j4.ch
   refine GoQ.pure rfl (J02 Try.underlying23 ti31 rfl rfl h29 h30 (ai.some_ h29 h30)) rfl rfl ?_
   have zz := ldSl ai h29 h30
   obtain ⟨p31, c32, LS, Tq⟩ := zz
   refine GoQ.stable rfl (Tq Try.underlying31 rfl rfl) rfl rfl ?_
   refine GoQ.pure rfl (J03 rfl) rfl rfl ?_
   refine GoQ.pure rfl (J03 rfl) rfl rfl ?_
   obtain ⟨h35, H⟩ := H
   obtain ⟨h36, H⟩ := H
   refine GoQ.pure rfl (op_indexS Try.underlying9 rfl rfl h35 h36) rfl rfl ?_
   refine GoQ.pure rfl (op_sub rfl rfl rfl) rfl rfl ?_
   obtain ⟨h37, H⟩ := H
   obtain ⟨h38, H⟩ := H
   refine GoQ.pure rfl (J02 Try.underlying31 ti3 rfl rfl h37 h38 (LS.some_ h37 h38)) rfl rfl ?_
   refine GoQ.stable rfl (ldInt LS h37 h38 Try.underlying3 rfl rfl) rfl rfl ?_
   refine GoQ.pure rfl (J0i rfl) rfl rfl ?_
   refine GoQ.nil ?_
   refine Go1.inBlock ?_
   refine zr (zo (J0c rfl rfl (wrap_i64 (natbd h25 iN))) (zm rfl (zn ?_)))
   replace aa := aa.ch j4.ch
   replace hB := hB.trans j4.fr
   exact hX1 _ H _ _ ⟨⟨rfl, rfl, rfl, rfl, rfl, trivial⟩, hO, aa, ai, hB⟩
  replace H := ifn h25 H
  refine zo (fun w => opB (J08 rfl rfl w) (decide_eq_false h25)) (zn (zq (zf rfl rfl ?_)))
  refine Go1.exit rfl ?_
  refine zq (zr (zm rfl (za rfl (zn ?_))))
  refine Go1.ret1 Try.func81 rfl ?_
  exact ⟨state1_23, rfl, hB.same, H⟩
 replace H := ifn h13 H
 refine zo (fun w => opB (J0g rfl rfl w) (ndF h13)) (zm rfl (zp (zp (zo (J05 rfl rfl rfl) (zm rfl ?_)))))
 refine zp (zp (zp (zp (zp (zo (J05 rfl rfl rfl) ?_)))))
 refine zm rfl (zp (zp (zp (zp (zp ?_)))))
 refine zo (J05 rfl rfl rfl) (zn (zt rfl rfl (zq ?_)))
 refine Go1.cut [] trivial ?_
 intro σ _
 refine zr (za rfl (zn ?_))
 refine Go1.ret1 Try.func81 rfl ?_
 replace hB := (hB.trans cB.fr).trans d8.fr
 exact ⟨(-1 : Int), rfl, hB.same, H⟩
theorem body40 : Body Try.prog 40 := ⟨Try.f40, Try.func40, rfl, by kernel_rfl⟩
theorem walk_dfa_Accepts {A : List Nat} {w0 : World} {aQ : Option Addr} {aR : Nat} {aW : Option Addr} {aX : Nat} {d : DFA} {w_ : Str} (hA : ∀ b ∈ A, b < w0.heap.size) (aa : ISl (Rp.bool) A w0 aQ aR d.Final) (ai : ISl (Rp.sl (Rp.int .i64)) A w0 aW aX d.Next) (iN : w_.length ≤ mx) {K : Bool → Prop} (H : dfa_Accepts d w_ K) :
    CallsV Try.prog 40 #[.agg #[.int .i64 d.Letters, .int .i64 d.Start, .slice aQ d.Final.length aR, .slice aW d.Next.length aX], .string (gstr w_)] w0 (fun v w' => ∃ (r0 : Bool), v = .bool r0 ∧ Same w0 w' ∧ K r0) := by
 refine CallsV.of (l := [.agg #[.int .i64 d.Letters, .int .i64 d.Start, .slice aQ d.Final.length aR, .slice aW d.Next.length aX], .string (gstr w_)]) Try.func40 rfl Try.ntmps40 rfl ?_
 have hO := Owns.start hA
 have hB := Fr.refl (bl []) w0
 unfold dfa_Accepts at H
 refine zq (zr ?_)
 have zz := obox (t := 25) (v := .agg #[.int .i64 d.Letters, .int .i64 d.Start, .slice aQ d.Final.length aR, .slice aW d.Next.length aX]) (cs := #[.int .i64 d.Letters, .int .i64 d.Start, .slice aQ d.Final.length aR, .slice aW d.Next.length aX]) hO rfl
 obtain ⟨w1, B2, cB, hs4, ic⟩ := zz
 refine zg (ic rfl) ?_
 replace hO := cB.own
 refine za rfl (zn (zq (zr (zs (J0j (vs := [.int .i64 d.Letters, .int .i64 d.Start, .slice aQ d.Final.length aR, .slice aW d.Next.length aX]) (i := 0) 0 hO rfl rfl Try.underlying25 rfl ti25 rfl) (zo (J00 Try.underlying25 rfl ti3 rfl (by decide)) ?_)))))
 refine zs (oblk (i := 1) 0 hO rfl rfl Try.underlying3 rfl rfl) (zm rfl ?_)
 have Z1 := (Ch.start A w0).trans cB.ch
 replace aa := aa.ch Z1
 replace ai := ai.ch Z1
 refine GoR.call (J0a body81 rfl (walk_dfa_Run (d := d) hO.lt aa ai iN H)) rfl rfl ?_
 rintro v11 w8 ⟨r7, rfl, hs9, H⟩
 have d8 := Stp.same hO hs9
 replace hO := d8.own
 refine za rfl (zn (zq (zr (zm rfl ?_))))
 by_cases h13 : (0 : Int) ≤ r7
 ·replace H := ifp h13 H
  refine zo (fun w => opB (J0L rfl rfl w) (decide_eq_true h13)) (zm rfl (zo (J00 Try.underlying25 rfl ti22 rfl (by decide)) (zs (oblk (i := 2) 0 hO rfl rfl Try.underlying22 rfl rfl) (zm rfl ?_))))
  obtain ⟨h14, H⟩ := H
  obtain ⟨h15, H⟩ := H
  replace aa := aa.ch d8.ch
  refine zo (J02 Try.underlying22 ti4 rfl rfl h14 h15 (aa.some_ h14 h15)) ?_
  by_cases h16 : ix d.Final r7 = true
  ·replace H := ifp h16 H
   refine zg (opB ((ldBool aa h14 h15 Try.underlying4 rfl rfl) _ (Same.refl _)) (h16)) (zo (J05 rfl rfl rfl) (za rfl (zn ?_)))
   refine Go1.ret1 Try.func40 rfl ?_
   replace hB := (hB.trans cB.fr).trans d8.fr
   exact ⟨true, rfl, hB.same, H⟩
  replace H := ifn h16 H
  refine zg (opB ((ldBool aa h14 h15 Try.underlying4 rfl rfl) _ (Same.refl _)) (Bool.eq_false_iff.2 h16)) (zo (J05 rfl rfl rfl) (za rfl (zn ?_)))
  refine Go1.ret1 Try.func40 rfl ?_
  replace hB := (hB.trans cB.fr).trans d8.fr
  exact ⟨false, rfl, hB.same, H⟩
 replace H := ifn h13 H
 refine zo (fun w => opB (J0L rfl rfl w) (decide_eq_false h13)) (zm rfl (zp (zp (zp (zp ?_)))))
 refine zp (zo (J04 rfl rfl rfl) (za rfl (zn ?_)))
 refine Go1.ret1 Try.func40 rfl ?_
 replace hB := (hB.trans cB.fr).trans d8.fr
 exact ⟨false, rfl, hB.same, H⟩
theorem walk_law21_SyntacticValues {A : List Nat} {w0 : World} {aQ : Option Addr} {aR : Nat} {aW : Option Addr} {aX : Nat} {d : DFA} {w_ : Str} (hA : ∀ b ∈ A, b < w0.heap.size) (aa : ISl (Rp.bool) A w0 aQ aR d.Final) (ai : ISl (Rp.sl (Rp.int .i64)) A w0 aW aX d.Next) (iN : w_.length ≤ mx) {K : Bool → Prop} (H : law21_SyntacticValues d w_ K) :
    CallsV Try.prog 10 #[.agg #[.int .i64 d.Letters, .int .i64 d.Start, .slice aQ d.Final.length aR, .slice aW d.Next.length aX], .string (gstr w_)] w0 (fun v w' => ∃ (r0 : Bool), v = .bool r0 ∧ Same w0 w' ∧ K r0) := by
 refine CallsV.of (l := [.agg #[.int .i64 d.Letters, .int .i64 d.Start, .slice aQ d.Final.length aR, .slice aW d.Next.length aX], .string (gstr w_)]) Try.func10 rfl Try.ntmps10 rfl ?_
 have hO := Owns.start hA
 have hB := Fr.refl (bl []) w0
 unfold law21_SyntacticValues at H
 refine zq (zr ?_)
 have zz := obox (t := 25) (v := .agg #[.int .i64 d.Letters, .int .i64 d.Start, .slice aQ d.Final.length aR, .slice aW d.Next.length aX]) (cs := #[.int .i64 d.Letters, .int .i64 d.Start, .slice aQ d.Final.length aR, .slice aW d.Next.length aX]) hO rfl
 obtain ⟨w1, B2, cB, hs4, ic⟩ := zz
 refine zg (ic rfl) ?_
 replace hO := cB.own
 refine za rfl (zn (zq (zq (zr (zs (J0j (vs := [.int .i64 d.Letters, .int .i64 d.Start, .slice aQ d.Final.length aR, .slice aW d.Next.length aX]) (i := 0) 0 hO rfl rfl Try.underlying25 rfl ti25 rfl) ?_)))))
 have Z1 := (Ch.start A w0).trans cB.ch
 replace aa := aa.ch Z1
 replace ai := ai.ch Z1
 refine GoR.call (J0a body17 rfl (walk_law21_small (d := d) hO.lt aa ai H)) rfl rfl ?_
 rintro v11 w8 ⟨r7, rfl, hs9, H⟩
 have d8 := Stp.same hO hs9
 replace hO := d8.own
 cases r7
 ·replace H := ifn Bool.false_ne_true H
  refine zo (J0l rfl) (zn (zt rfl rfl (zq (zr (zo (J0q Try.underlying33 ti33 (pl := [(0, 1), (1, 1), (2, 1), (3, 1), (4, 1), (5, 1)]) (vs := []) (cs := #[.int .i64 0, .slice none 0 0, .slice none 0 0, .slice none 0 0, .slice none 0 0, .slice none 0 0]) (by kernel_rfl) rfl (by kernel_rfl)) ?_)))))
  refine zm rfl ?_
  refine GoR.call (J0a body37 rfl (J19 (s_ := (⟨(0 : Int), [], [], [], [], []⟩ : Syntactic)) hO.lt (ISl.null _ _ _) (ISl.null _ _ _) (ISl.null _ _ _) (ISl.null _ _ _) (ISl.null _ _ _) iN H)) rfl rfl ?_
  rintro v17 w14 ⟨r13, rfl, xP, H⟩
  have gG := Stp.same hO xP
  replace hO := gG.own
  by_cases h19 : r13 = (-1 : Int)
  ·replace H := ifp h19 H
   refine zo (fun w => opB (J0w rfl rfl w) (decide_eq_true h19)) (zm rfl (zo (J0q Try.underlying33 ti33 (pl := [(0, 1), (1, 1), (2, 1), (3, 1), (4, 1), (5, 1)]) (vs := []) (cs := #[.int .i64 0, .slice none 0 0, .slice none 0 0, .slice none 0 0, .slice none 0 0, .slice none 0 0]) (by kernel_rfl) rfl (by kernel_rfl)) (zm rfl ?_)))
   refine GoR.call (J0a body38 rfl (walk_syntactic_Member (s_ := (⟨(0 : Int), [], [], [], [], []⟩ : Syntactic)) hO.lt (ISl.null _ _ _) (ISl.null _ _ _) (ISl.null _ _ _) (ISl.null _ _ _) (ISl.null _ _ _) iN H)) rfl rfl ?_
   rintro v24 w21 ⟨r20, rfl, HS, H⟩
   have mT := Stp.same hO HS
   replace hO := mT.own
   cases r20
   ·replace H := ifn Bool.false_ne_true H
    refine zo (J0l rfl) (zo (J05 rfl rfl rfl) (zm rfl ?_))
    refine GoR.call (J0a body18 rfl (walk_law21_awake hO.lt H)) rfl rfl ?_
    rintro v30 w27 ⟨r26, rfl, Fc, H⟩
    have wv := Stp.same hO Fc
    replace hO := wv.own
    refine zo (J05 rfl rfl rfl) (za rfl (zn ?_))
    refine Go1.ret1 Try.func10 rfl ?_
    replace hB := ((((hB.trans cB.fr).trans d8.fr).trans gG.fr).trans mT.fr).trans wv.fr
    exact ⟨r26, rfl, hB.same, H⟩
   replace H := ifp rfl H
   refine zo (J0l rfl) (zo (J05 rfl rfl rfl) (zm rfl (zp (zo (J04 rfl rfl rfl) (za rfl ?_)))))
   refine zn ?_
   refine Go1.ret1 Try.func10 rfl ?_
   replace hB := (((hB.trans cB.fr).trans d8.fr).trans gG.fr).trans mT.fr
   exact ⟨false, rfl, hB.same, H⟩
  replace H := ifn h19 H
  refine zo (fun w => opB (J0w rfl rfl w) (decide_eq_false h19)) (zm rfl (zp (zp (zp (zp ?_)))))
  refine zo (J04 rfl rfl rfl) (zm rfl (zp (zo (J04 rfl rfl rfl) (za rfl (zn ?_)))))
  refine Go1.ret1 Try.func10 rfl ?_
  replace hB := ((hB.trans cB.fr).trans d8.fr).trans gG.fr
  exact ⟨false, rfl, hB.same, H⟩
 replace H := ifp rfl H
 refine zo (J0l rfl) (zn (zf rfl rfl (zk (zq ?_))))
 refine Go1.cut [(1, .string (gstr w_)), (2, .pointer (some ⟨B2, 0, none⟩))] ⟨rfl, rfl, trivial⟩ ?_
 intro σ _
 refine zr (zs (J0j (vs := [.int .i64 d.Letters, .int .i64 d.Start, .slice aQ d.Final.length aR, .slice aW d.Next.length aX]) (i := 0) 0 hO rfl rfl Try.underlying25 rfl ti25 rfl) ?_)
 replace aa := aa.ch d8.ch
 replace ai := ai.ch d8.ch
 refine GoR.call (J0a body19 rfl (walk_syntactic_Of (d := d) hO.lt aa ai H)) rfl rfl ?_
 rintro v37 w34 ⟨r32, r33, sE, sF, sG, sH, qD, qE, qF, qG, tT, tU, rfl, Ts, eP, eQ, eG, eH, fm, H⟩
 have wn := Stp.same hO Ts
 replace hO := wn.own
 refine zm rfl (zo (J07 rfl rfl) (zo (J07 rfl rfl) ?_))
 have zz := oalloc (t := 33) (cs := #[.int .i64 0, .slice none 0 0, .slice none 0 0, .slice none 0 0, .slice none 0 0, .slice none 0 0]) ti33 hO rfl
 obtain ⟨w39, B40, ma, aam, xX⟩ := zz
 refine GoR.op xX rfl rfl ?_
 replace hO := ma.own
 have zz := J0b (us := [.int .i64 r32.Letters, .slice sE r32.Table.length sF, .slice sG r32.Words.length sH, .slice qD r32.Images.length qE, .slice qF r32.Accept.length qG, .slice tT r32.Plus.length tU]) (o := 0) (cs' := #[.int .i64 r32.Letters, .slice sE r32.Table.length sF, .slice sG r32.Words.length sH, .slice qD r32.Images.length qE, .slice qF r32.Accept.length qG, .slice tT r32.Plus.length tU]) 0 hO rfl rfl (Nat.le_of_ble_eq_true rfl) rfl
 obtain ⟨w45, pe, QB⟩ := zz
 refine zg (QB ti33 (by exact rfl) (by exact rfl) rfl) ?_
 replace hO := pe.own
 refine za rfl (zn (zq (zq (zr (zm rfl ?_)))))
 by_cases h48 : r33 = (0 : Int)
 ·replace H := ifp h48 H
  refine zo (fun w => opB (J0g rfl rfl w) (ndT h48)) (zm rfl (zs (J0j (vs := [.int .i64 r32.Letters, .slice sE r32.Table.length sF, .slice sG r32.Words.length sH, .slice qD r32.Images.length qE, .slice qF r32.Accept.length qG, .slice tT r32.Plus.length tU]) (i := 0) 0 hO rfl rfl Try.underlying33 rfl ti33 rfl) ?_))
  have Z2 := ma.ch.trans pe.ch
  replace eP := eP.ch Z2
  replace eQ := eQ.ch Z2
  replace eG := eG.ch Z2
  replace eH := eH.ch Z2
  replace fm := fm.ch Z2
  refine GoR.call (J0a body28 rfl (J1r (a0 := r32) hO.lt eP eQ eG eH fm H)) rfl rfl ?_
  rintro v53 w50 ⟨r49, rfl, Tt, H⟩
  have qS := Stp.same hO Tt
  replace hO := qS.own
  by_cases h55 : r49 = (0 : Int)
  ·replace H := ifp h55 H
   refine zo (fun w => opB (J0g rfl rfl w) (ndT h55)) (zo (J04 rfl rfl rfl) (zn (zf rfl rfl (zk (zq ?_)))))
   refine Go1.drawS 0 [(0, .stable), (1, .pure), (3, .stable), (4, .pure), (2, .loud), (5, .loud), (6, .pure), (7, .pure), (8, .stable), (9, .pure), (11, .stable), (12, .pure), (10, .loud), (13, .loud), (14, .pure), (15, .pure), (16, .pure), (17, .loud), (18, .pure), (19, .pure)] mixed (by kernel_rfl) ?_
   intro w56 Tu
   have wz := Stp.same hO Tu
   replace hO := wz.own
   refine GoQ.stable rfl (J0j (vs := [.int .i64 r32.Letters, .slice sE r32.Table.length sF, .slice sG r32.Words.length sH, .slice qD r32.Images.length qE, .slice qF r32.Accept.length qG, .slice tT r32.Plus.length tU]) (i := 0) 0 hO rfl rfl Try.underlying33 rfl ti33 rfl) rfl rfl ?_
   refine GoQ.pure rfl (J03 rfl) rfl rfl ?_
   refine GoQ.stable rfl (J0j (vs := [.int .i64 r32.Letters, .slice sE r32.Table.length sF, .slice sG r32.Words.length sH, .slice qD r32.Images.length qE, .slice qF r32.Accept.length qG, .slice tT r32.Plus.length tU]) (i := 0) 0 hO rfl rfl Try.underlying33 rfl ti33 rfl) rfl rfl ?_
   refine GoQ.pure rfl (J03 rfl) rfl rfl ?_
   have Z3 := qS.ch.trans wz.ch
   replace eP := eP.ch Z3
   replace eQ := eQ.ch Z3
   replace eG := eG.ch Z3
   replace eH := eH.ch Z3
   replace fm := fm.ch Z3
   refine GoQ.call rfl (J0a body37 rfl (J19 (s_ := r32) hO.lt eP eQ eG eH fm iN H)) (fun v w hr => by obtain ⟨_, _, hs, _⟩ := hr; assumption) rfl rfl ?_
   rintro v63 w60 ⟨r59, rfl, yg, H⟩
   have pg := Stp.same hO yg
   replace hO := pg.own
   replace eP := eP.ch pg.ch
   replace eQ := eQ.ch pg.ch
   replace eG := eG.ch pg.ch
   replace eH := eH.ch pg.ch
   replace fm := fm.ch pg.ch
   refine GoQ.call rfl (J0a body39 rfl (walk_ref21_Value (s_ := r32) hO.lt eP eQ eG eH fm iN H)) (fun v w hr => by obtain ⟨_, _, hs, _⟩ := hr; assumption) rfl rfl ?_
   rintro v69 w66 ⟨r65, rfl, Tv, H⟩
   have tn := Stp.same hO Tv
   replace hO := tn.own
   by_cases h71 : r59 = r65
   ·replace H := ifp h71 H
    refine GoQ.pure rfl (fun w => opB (J0w rfl rfl w) (decide_eq_true h71)) rfl rfl ?_
    refine GoQ.pure rfl (J03 rfl) rfl rfl ?_
    refine GoQ.stable rfl (J0j (vs := [.int .i64 r32.Letters, .slice sE r32.Table.length sF, .slice sG r32.Words.length sH, .slice qD r32.Images.length qE, .slice qF r32.Accept.length qG, .slice tT r32.Plus.length tU]) (i := 0) 0 hO rfl rfl Try.underlying33 rfl ti33 rfl) rfl rfl ?_
    refine GoQ.pure rfl (J03 rfl) rfl rfl ?_
    refine GoQ.stable rfl (J0j (vs := [.int .i64 d.Letters, .int .i64 d.Start, .slice aQ d.Final.length aR, .slice aW d.Next.length aX]) (i := 0) 1 hO rfl rfl Try.underlying25 rfl ti25 rfl) rfl rfl ?_
    refine GoQ.pure rfl (J03 rfl) rfl rfl ?_
    replace eP := eP.ch tn.ch
    replace eQ := eQ.ch tn.ch
    replace eG := eG.ch tn.ch
    replace eH := eH.ch tn.ch
    replace fm := fm.ch tn.ch
    refine GoQ.call rfl (J0a body38 rfl (walk_syntactic_Member (s_ := r32) hO.lt eP eQ eG eH fm iN H)) (fun v w hr => by obtain ⟨_, _, hs, _⟩ := hr; assumption) rfl rfl ?_
    rintro v76 w73 ⟨r72, rfl, Fw, H⟩
    have wA := Stp.same hO Fw
    replace hO := wA.own
    have Z4 := ((((((wn.ch.trans ma.ch).trans pe.ch).trans qS.ch).trans wz.ch).trans pg.ch).trans tn.ch).trans wA.ch
    replace aa := aa.ch Z4
    replace ai := ai.ch Z4
    refine GoQ.call rfl (J0a body40 rfl (walk_dfa_Accepts (d := d) hO.lt aa ai iN H)) (fun v w hr => by obtain ⟨_, _, hs, _⟩ := hr; assumption) rfl rfl ?_
    rintro v82 w79 ⟨r78, rfl, Tw, H⟩
    have wB := Stp.same hO Tw
    replace hO := wB.own
    cases r72
    ·replace H := ifn Bool.false_ne_true H
     cases r78
     ·replace H := ifn Bool.false_ne_true H
      refine GoQ.pure rfl (op_eqlB Try.underlying4 rfl rfl) rfl rfl ?_
      refine GoQ.pure rfl (J05 rfl rfl rfl) rfl rfl ?_
      refine GoQ.pure rfl (J03 rfl) rfl rfl ?_
      refine GoQ.call rfl (J0a body18 rfl (walk_law21_awake hO.lt H)) (fun v w hr => by obtain ⟨_, _, hs, _⟩ := hr; assumption) rfl rfl ?_
      rintro v88 w85 ⟨r84, rfl, GY, H⟩
      have gQ := Stp.same hO GY
      replace hO := gQ.own
      refine GoQ.pure rfl (J05 rfl rfl rfl) rfl rfl ?_
      refine GoQ.pure rfl (J0i rfl) rfl rfl ?_
      refine GoQ.nil ?_
      refine Go1.ret1 Try.func10 rfl ?_
      replace hB := (((((((((((hB.trans cB.fr).trans d8.fr).trans wn.fr).trans ma.fr).trans pe.fr).trans qS.fr).trans wz.fr).trans pg.fr).trans tn.fr).trans wA.fr).trans wB.fr).trans gQ.fr
      exact ⟨r84, rfl, hB.same, H⟩
     replace H := ifp rfl H
     refine GoQ.pure rfl (op_eqlB Try.underlying4 rfl rfl) rfl rfl ?_
     refine GoQ.pure rfl (J05 rfl rfl rfl) rfl rfl ?_
     refine GoQ.pure rfl (J03 rfl) rfl rfl ?_
     refine GoQ.pass rfl rfl rfl ?_
     refine GoQ.pure rfl (J04 rfl rfl rfl) rfl rfl ?_
     refine GoQ.pure rfl (J0i rfl) rfl rfl ?_
     refine GoQ.nil ?_
     refine Go1.ret1 Try.func10 rfl ?_
     replace hB := ((((((((((hB.trans cB.fr).trans d8.fr).trans wn.fr).trans ma.fr).trans pe.fr).trans qS.fr).trans wz.fr).trans pg.fr).trans tn.fr).trans wA.fr).trans wB.fr
     exact ⟨false, rfl, hB.same, H⟩
    replace H := ifp rfl H
    cases r78
    ·replace H := ifn Bool.false_ne_true H
     refine GoQ.pure rfl (op_eqlB Try.underlying4 rfl rfl) rfl rfl ?_
     refine GoQ.pure rfl (J05 rfl rfl rfl) rfl rfl ?_
     refine GoQ.pure rfl (J03 rfl) rfl rfl ?_
     refine GoQ.pass rfl rfl rfl ?_
     refine GoQ.pure rfl (J04 rfl rfl rfl) rfl rfl ?_
     refine GoQ.pure rfl (J0i rfl) rfl rfl ?_
     refine GoQ.nil ?_
     refine Go1.ret1 Try.func10 rfl ?_
     replace hB := ((((((((((hB.trans cB.fr).trans d8.fr).trans wn.fr).trans ma.fr).trans pe.fr).trans qS.fr).trans wz.fr).trans pg.fr).trans tn.fr).trans wA.fr).trans wB.fr
     exact ⟨false, rfl, hB.same, H⟩
    replace H := ifp rfl H
    refine GoQ.pure rfl (op_eqlB Try.underlying4 rfl rfl) rfl rfl ?_
    refine GoQ.pure rfl (J05 rfl rfl rfl) rfl rfl ?_
    refine GoQ.pure rfl (J03 rfl) rfl rfl ?_
    refine GoQ.call rfl (J0a body18 rfl (walk_law21_awake hO.lt H)) (fun v w hr => by obtain ⟨_, _, hs, _⟩ := hr; assumption) rfl rfl ?_
    rintro v94 w91 ⟨r90, rfl, Tx, H⟩
    have pr := Stp.same hO Tx
    replace hO := pr.own
    refine GoQ.pure rfl (J05 rfl rfl rfl) rfl rfl ?_
    refine GoQ.pure rfl (J0i rfl) rfl rfl ?_
    refine GoQ.nil ?_
    refine Go1.ret1 Try.func10 rfl ?_
    replace hB := (((((((((((hB.trans cB.fr).trans d8.fr).trans wn.fr).trans ma.fr).trans pe.fr).trans qS.fr).trans wz.fr).trans pg.fr).trans tn.fr).trans wA.fr).trans wB.fr).trans pr.fr
    exact ⟨r90, rfl, hB.same, H⟩
   replace H := ifn h71 H
   refine GoQ.pure rfl (fun w => opB (J0w rfl rfl w) (decide_eq_false h71)) rfl rfl ?_
   refine GoQ.pure rfl (J03 rfl) rfl rfl ?_
   refine GoQ.pass rfl rfl rfl ?_
   refine GoQ.pass rfl rfl rfl ?_
   refine GoQ.pass rfl rfl rfl ?_
   refine GoQ.pass rfl rfl rfl ?_
   refine GoQ.pass rfl rfl rfl ?_
   refine GoQ.pass rfl rfl rfl ?_
   refine GoQ.pass rfl rfl rfl ?_
   refine GoQ.pure rfl (J04 rfl rfl rfl) rfl rfl ?_
   refine GoQ.pure rfl (J03 rfl) rfl rfl ?_
   refine GoQ.pass rfl rfl rfl ?_
   refine GoQ.pure rfl (J04 rfl rfl rfl) rfl rfl ?_
   refine GoQ.pure rfl (J0i rfl) rfl rfl ?_
   refine GoQ.nil ?_
   refine Go1.ret1 Try.func10 rfl ?_
   replace hB := ((((((((hB.trans cB.fr).trans d8.fr).trans wn.fr).trans ma.fr).trans pe.fr).trans qS.fr).trans wz.fr).trans pg.fr).trans tn.fr
   exact ⟨false, rfl, hB.same, H⟩
  replace H := ifn h55 H
  refine zo (fun w => opB (J0g rfl rfl w) (ndF h55)) (zo (J04 rfl rfl rfl) (zn (zt rfl rfl (zq ?_))))
  refine Go1.cut [] trivial ?_
  intro σ _
  refine zr (za rfl (zn ?_))
  refine Go1.ret1 Try.func10 rfl ?_
  replace hB := (((((hB.trans cB.fr).trans d8.fr).trans wn.fr).trans ma.fr).trans pe.fr).trans qS.fr
  exact ⟨false, rfl, hB.same, H⟩
 replace H := ifn h48 H
 refine zo (fun w => opB (J0g rfl rfl w) (ndF h48)) (zm rfl (zp (zp (zp (zo (J05 rfl rfl rfl) ?_)))))
 refine zn (zt rfl rfl (zq (zr (za rfl (zn ?_)))))
 refine Go1.ret1 Try.func10 rfl ?_
 replace hB := ((((hB.trans cB.fr).trans d8.fr).trans wn.fr).trans ma.fr).trans pe.fr
 exact ⟨false, rfl, hB.same, H⟩
end Sg
