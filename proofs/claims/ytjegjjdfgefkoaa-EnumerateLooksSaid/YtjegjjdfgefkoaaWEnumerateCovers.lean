/- The walks: each call keeps to its plain transformer. Printed by walkgen.py. -/
import Derived.Test.YtjegjjdfgefkoaaTi
import Derived.Test.YtjegjjdfgefkoaaWEnumerateBuildsb
import Derived.Test.YtjegjjdfgefkoaaWEnumerateBuildsc
import Derived.Test.YtjegjjdfgefkoaaAl
namespace Sg
open Go Go.RowKit Go.Proofs
set_option linter.unusedVariables false
set_option linter.unusedSimpArgs false
set_option maxRecDepth 100000
set_option maxHeartbeats 4000000
theorem body56 : Body Try.prog 56 := ⟨Try.f56, Try.func56, rfl, by kernel_rfl⟩
theorem walk_ref01_MayLetters {A : List Nat} {w0 : World} {letters : Int} (hA : ∀ b ∈ A, b < w0.heap.size) {K : Bool → Prop} (H : ref01_MayLetters letters K) :
    CallsV Try.prog 56 #[.int .i64 letters] w0 (fun v w' => ∃ (r0 : Bool), v = .bool r0 ∧ Same w0 w' ∧ K r0) := by
 refine CallsV.of (l := [.int .i64 letters]) Try.func56 rfl Try.ntmps56 rfl ?_
 have hO := Owns.start hA
 have hB := Fr.refl (bl []) w0
 unfold ref01_MayLetters at H
 refine zq (zr (za rfl (zn (zq (zr ?_)))))
 refine zm rfl ?_
 by_cases h1 : (1 : Int) ≤ letters
 ·replace H := ifp h1 H
  refine zo (fun w => opB (op_geq rfl rfl w) (decide_eq_true h1)) (zm rfl (zm rfl ?_))
  by_cases h2 : letters ≤ (6 : Int)
  ·replace H := ifp h2 H
   refine zo (fun w => opB (op_leq rfl rfl w) (decide_eq_true h2)) (zo (op_pickT rfl rfl rfl) (za rfl (zn ?_)))
   refine Go1.ret1 Try.func56 rfl ?_
   exact ⟨true, rfl, hB.same, H⟩
  replace H := ifn h2 H
  refine zo (fun w => opB (op_leq rfl rfl w) (decide_eq_false h2)) (zo (op_pickT rfl rfl rfl) (za rfl (zn ?_)))
  refine Go1.ret1 Try.func56 rfl ?_
  exact ⟨false, rfl, hB.same, H⟩
 replace H := ifn h1 H
 refine zo (fun w => opB (op_geq rfl rfl w) (decide_eq_false h1)) (zm rfl (zp (zp (zo (op_pickF rfl rfl rfl) (za rfl ?_)))))
 refine zn ?_
 refine Go1.ret1 Try.func56 rfl ?_
 exact ⟨false, rfl, hB.same, H⟩
theorem body27 : Body Try.prog 27 := ⟨Try.f27, Try.func27, rfl, by kernel_rfl⟩
theorem walk_ref01_Valid {A : List Nat} {w0 : World} {w_ : Str} {letters : Int} (hA : ∀ b ∈ A, b < w0.heap.size) (m6 : w_.length ≤ mx) {K : Bool → Prop} (H : ref01_Valid w_ letters K) :
    CallsV Try.prog 27 #[.string (gstr w_), .int .i64 letters] w0 (fun v w' => ∃ (r0 : Bool), v = .bool r0 ∧ Same w0 w' ∧ K r0) := by
 refine CallsV.of (l := [.string (gstr w_), .int .i64 letters]) Try.func27 rfl Try.ntmps27 rfl ?_
 have hO := Owns.start hA
 have hB := Fr.refl (bl []) w0
 unfold ref01_Valid at H
 refine zq (zr (za rfl (zn (zq (zq ?_)))))
 refine zr (zm rfl ?_)
 refine GoR.call (op_call body56 rfl (walk_ref01_MayLetters hO.lt H)) rfl rfl ?_
 rintro v5 w2 ⟨r1, rfl, hs3, H⟩
 have vc := Stp.same hO hs3
 replace hO := vc.own
 cases r1
 ·replace H := ifn Bool.false_ne_true H
  refine zo (op_not rfl) (zm rfl (zp (zp (zp (zo (op_pickT rfl rfl rfl) ?_)))))
  refine zn (zt rfl rfl (zq (zr (za rfl (zn ?_)))))
  refine Go1.ret1 Try.func27 rfl ?_
  replace hB := hB.trans vc.fr
  exact ⟨false, rfl, hB.same, H⟩
 replace H := ifp rfl H
 refine zo (op_not rfl) (zm rfl (zm rfl (zo (op_lenS Try.underlying9 rfl) ?_)))
 replace H := H m6
 by_cases h7 : (2048 : Int) < (w_.length : Int)
 ·replace H := ifp h7 H
  refine zo (fun w => opB (op_gtr rfl rfl w) (decide_eq_true h7)) (zo (op_pickF rfl rfl rfl) (zn (zt rfl rfl (zq (zr ?_)))))
  refine za rfl (zn ?_)
  refine Go1.ret1 Try.func27 rfl ?_
  replace hB := hB.trans vc.fr
  exact ⟨false, rfl, hB.same, H⟩
 replace H := ifn h7 H
 refine zo (fun w => opB (op_gtr rfl rfl w) (decide_eq_false h7)) (zo (op_pickF rfl rfl rfl) (zn (zf rfl rfl (zk (zq ?_)))))
 refine zq ?_
 refine Go1.cut [(0, .string (gstr w_)), (1, .int .i64 letters)] ⟨rfl, rfl, trivial⟩ ?_
 intro σ _
 refine zr (za rfl (zn (zb ?_)))
 replace hB := hB.trans vc.fr
 refine Go1.loopW (S := Nat) (fun s σ w => agrees σ [(0, .string (gstr w_)), (1, .int .i64 letters), (5, .int .i64 (s : Int))] ∧ Owns w0.heap.size w [] A ∧ Fr (bl []) w0 (bl []) w) H ⟨⟨rfl, rfl, rfl, trivial⟩, hO, hB⟩ ?_
 intro X1 i1_9
 intro H hX1 σ w8
 refine andE fun hag => andE fun hO => fun hB => ?_
 refine Go1.keep [(0, .string (gstr w_)), (1, .int .i64 letters), (5, .int .i64 (i1_9 : Int))] hag ?_
 refine zq (zq (zr (zm rfl (zm rfl (zo (op_lenS Try.underlying9 rfl) ?_)))))
 by_cases h10 : (i1_9 : Int) < (w_.length : Int)
 ·replace H := ifp h10 H
  refine zo (fun w => opB (op_lss rfl rfl w) (decide_eq_true h10)) (zn (zt rfl rfl (zk (zq (zb ?_)))))
  refine zq (zr (zm rfl (zm rfl ?_)))
  obtain ⟨h11, H⟩ := H
  obtain ⟨h12, H⟩ := H
  refine zo (op_indexS Try.underlying9 rfl rfl h11 h12) ?_
  by_cases h13 : ((ix w_ (i1_9 : Int)).toNat : Int) < (97 : Int)
  ·replace H := ifp h13 H
   refine zo (fun w => opB (op_lss rfl rfl w) (decide_eq_true h13)) (zm rfl (zp (zp (zp (zp ?_)))))
   refine zp (zp (zp (zo (op_pickT rfl rfl rfl) (zn (zt rfl rfl ?_)))))
   refine zq (zr (za rfl (zn ?_)))
   refine Go1.ret1 Try.func27 rfl ?_
   exact ⟨false, rfl, hB.same, H⟩
  replace H := ifn h13 H
  refine zo (fun w => opB (op_lss rfl rfl w) (decide_eq_false h13)) (zm rfl (zm rfl (zm rfl ?_)))
  obtain ⟨h14, H⟩ := H
  obtain ⟨h15, H⟩ := H
  refine zo (op_indexS Try.underlying9 rfl rfl h14 h15) (zo (op_sub rfl rfl rfl) (zo (op_conv Try.underlying5 Try.underlying3 rfl rfl) (zm rfl ?_)))
  by_cases h16 : letters ≤ (IntKind.i64.wrap (IntKind.u8.wrap (((ix w_ (i1_9 : Int)).toNat : Int) - (97 : Int))))
  ·replace H := ifp h16 H
   refine zo (fun w => opB (op_geq rfl rfl w) (decide_eq_true h16)) (zo (op_pickF rfl rfl rfl) (zn (zt rfl rfl (zq ?_))))
   refine Go1.cut [] trivial ?_
   intro σ _
   refine zr (za rfl (zn ?_))
   refine Go1.ret1 Try.func27 rfl ?_
   exact ⟨false, rfl, hB.same, H⟩
  replace H := ifn h16 H
  refine zo (fun w => opB (op_geq rfl rfl w) (decide_eq_false h16)) (zo (op_pickF rfl rfl rfl) (zn (zf rfl rfl (zk ?_))))
  refine Go1.inBlock ?_
  refine zr (zm rfl (zo (op_add rfl rfl (wrap_i64 (natbd h10 m6))) (za rfl (zn ?_))))
  exact hX1 _ H _ _ ⟨⟨rfl, rfl, rfl, trivial⟩, hO, hB⟩
 replace H := ifn h10 H
 refine zo (fun w => opB (op_lss rfl rfl w) (decide_eq_false h10)) (zn (zf rfl rfl ?_))
 refine Go1.exit rfl ?_
 refine zq (zr (za rfl (zn ?_)))
 refine Go1.ret1 Try.func27 rfl ?_
 exact ⟨true, rfl, hB.same, H⟩
theorem body58 : Body Try.prog 58 := ⟨Try.f58, Try.func58, rfl, by kernel_rfl⟩
theorem walk_word_Valid {A : List Nat} {w0 : World} {w_ : Str} {letters : Int} (hA : ∀ b ∈ A, b < w0.heap.size) (m6 : w_.length ≤ mx) {K : Bool → Prop} (H : word_Valid w_ letters K) :
    CallsV Try.prog 58 #[.string (gstr w_), .int .i64 letters] w0 (fun v w' => ∃ (r0 : Bool), v = .bool r0 ∧ Same w0 w' ∧ K r0) := by
 refine CallsV.of (l := [.string (gstr w_), .int .i64 letters]) Try.func58 rfl Try.ntmps58 rfl ?_
 have hO := Owns.start hA
 have hB := Fr.refl (bl []) w0
 unfold word_Valid at H
 refine zq (zr (za rfl (zn (zq (zq ?_)))))
 refine zr (zm rfl ?_)
 by_cases h1 : letters < (1 : Int)
 ·replace H := ifp h1 H
  refine zo (fun w => opB (op_lss rfl rfl w) (decide_eq_true h1)) (zm rfl (zp (zp (zo (op_pickT rfl rfl rfl) (zm rfl ?_)))))
  refine zp (zp (zp (zo (op_pickT rfl rfl rfl) (zn (zt rfl rfl ?_)))))
  refine zq (zr (za rfl (zn ?_)))
  refine Go1.ret1 Try.func58 rfl ?_
  exact ⟨false, rfl, hB.same, H⟩
 replace H := ifn h1 H
 refine zo (fun w => opB (op_lss rfl rfl w) (decide_eq_false h1)) (zm rfl (zm rfl ?_))
 by_cases h2 : (6 : Int) < letters
 ·replace H := ifp h2 H
  refine zo (fun w => opB (op_gtr rfl rfl w) (decide_eq_true h2)) (zo (op_pickF rfl rfl rfl) (zm rfl (zp (zp (zp ?_)))))
  refine zo (op_pickT rfl rfl rfl) (zn (zt rfl rfl (zq ?_)))
  refine Go1.cut [] trivial ?_
  intro σ _
  refine zr (za rfl (zn ?_))
  refine Go1.ret1 Try.func58 rfl ?_
  exact ⟨false, rfl, hB.same, H⟩
 replace H := ifn h2 H
 refine zo (fun w => opB (op_gtr rfl rfl w) (decide_eq_false h2)) (zo (op_pickF rfl rfl rfl) (zm rfl (zm rfl (zo (op_lenS Try.underlying9 rfl) ?_))))
 replace H := H m6
 by_cases h3 : (2048 : Int) < (w_.length : Int)
 ·replace H := ifp h3 H
  refine zo (fun w => opB (op_gtr rfl rfl w) (decide_eq_true h3)) (zo (op_pickF rfl rfl rfl) (zn (zt rfl rfl (zq (zr ?_)))))
  refine za rfl (zn ?_)
  refine Go1.ret1 Try.func58 rfl ?_
  exact ⟨false, rfl, hB.same, H⟩
 replace H := ifn h3 H
 refine zo (fun w => opB (op_gtr rfl rfl w) (decide_eq_false h3)) (zo (op_pickF rfl rfl rfl) (zn (zf rfl rfl (zk (zq ?_)))))
 refine zq (zr (zm rfl (zo (op_lenS Try.underlying9 rfl) (zm rfl (zn ?_)))))
 refine zb ?_
 refine Go1.loopW (S := Nat) (fun s σ w => agrees σ [(0, .string (gstr w_)), (1, .int .i64 letters), (18, .int .i64 (w_.length : Int)), (19, .int .i64 (s : Int))] ∧ Owns w0.heap.size w [] A ∧ Fr (bl []) w0 (bl []) w) H ⟨⟨rfl, rfl, rfl, rfl, trivial⟩, hO, hB⟩ ?_
 intro X1 k1_5
 intro H hX1 σ w4
 refine andE fun hag => andE fun hO => fun hB => ?_
 refine Go1.keep [(0, .string (gstr w_)), (1, .int .i64 letters), (18, .int .i64 (w_.length : Int)), (19, .int .i64 (k1_5 : Int))] hag ?_
 refine zq (zr ?_)
 by_cases h6 : (k1_5 : Int) < (w_.length : Int)
 ·replace H := ifp h6 H
  refine zo (fun w => opB (op_lss rfl rfl w) (decide_eq_true h6)) (zn (zq (zt rfl rfl (zk (zq ?_)))))
  refine zb (zq (zr (zm rfl (za rfl (zn ?_)))))
  refine zq (zr (zm rfl (zm rfl ?_)))
  obtain ⟨h7, H⟩ := H
  obtain ⟨h8, H⟩ := H
  refine zo (op_indexS Try.underlying9 rfl rfl h7 h8) ?_
  by_cases h9 : ((ix w_ (k1_5 : Int)).toNat : Int) < (97 : Int)
  ·replace H := ifp h9 H
   refine zo (fun w => opB (op_lss rfl rfl w) (decide_eq_true h9)) (zm rfl (zp (zp (zp (zp ?_)))))
   refine zp (zp (zp (zo (op_pickT rfl rfl rfl) (zn (zt rfl rfl ?_)))))
   refine zq (zr (za rfl (zn ?_)))
   refine Go1.ret1 Try.func58 rfl ?_
   exact ⟨false, rfl, hB.same, H⟩
  replace H := ifn h9 H
  refine zo (fun w => opB (op_lss rfl rfl w) (decide_eq_false h9)) (zm rfl (zm rfl (zm rfl ?_)))
  obtain ⟨h10, H⟩ := H
  obtain ⟨h11, H⟩ := H
  refine zo (op_indexS Try.underlying9 rfl rfl h10 h11) (zo (op_sub rfl rfl rfl) (zo (op_conv Try.underlying5 Try.underlying3 rfl rfl) (zm rfl ?_)))
  by_cases h12 : letters ≤ (IntKind.i64.wrap (IntKind.u8.wrap (((ix w_ (k1_5 : Int)).toNat : Int) - (97 : Int))))
  ·replace H := ifp h12 H
   refine zo (fun w => opB (op_geq rfl rfl w) (decide_eq_true h12)) (zo (op_pickF rfl rfl rfl) (zn (zt rfl rfl (zq ?_))))
   refine Go1.cut [] trivial ?_
   intro σ _
   refine zr (za rfl (zn ?_))
   refine Go1.ret1 Try.func58 rfl ?_
   exact ⟨false, rfl, hB.same, H⟩
  replace H := ifn h12 H
  refine zo (fun w => opB (op_geq rfl rfl w) (decide_eq_false h12)) (zo (op_pickF rfl rfl rfl) (zn (zf rfl rfl (zk ?_))))
  refine Go1.inBlock ?_
  refine zr (zo (op_add rfl rfl (wrap_i64 (natbd h6 m6))) (zm rfl (zn ?_)))
  exact hX1 _ H _ _ ⟨⟨rfl, rfl, rfl, rfl, trivial⟩, hO, hB⟩
 replace H := ifn h6 H
 refine zo (fun w => opB (op_lss rfl rfl w) (decide_eq_false h6)) (zn (zq (zf rfl rfl ?_)))
 refine Go1.exit rfl ?_
 refine zq (zr (za rfl (zn ?_)))
 refine Go1.ret1 Try.func58 rfl ?_
 exact ⟨true, rfl, hB.same, H⟩
theorem body59 : Body Try.prog 59 := ⟨Try.f59, Try.func59, rfl, by kernel_rfl⟩
theorem body57 : Body Try.prog 57 := ⟨Try.f57, Try.func57, rfl, by kernel_rfl⟩
theorem body30 : Body Try.prog 30 := ⟨Try.f30, Try.func30, rfl, by kernel_rfl⟩
theorem walk_enumerate_OfWord {A : List Nat} {w0 : World} {cd : Option Addr} {ce : Nat} {bG : Option Addr} {bH : Nat} {bq : Option Addr} {bt : Nat} {b7 : Option Addr} {b8 : Nat} {bI : Option Addr} {bK : Nat} {bM : Option Addr} {bN : Nat} {e : Enum} {w_ : Str} (hA : ∀ b ∈ A, b < w0.heap.size) (aR : ISl (Rp.sl (Rp.int .i64)) A w0 cd ce e.Gens) (aK : ISl (Rp.sl (Rp.int .i64)) A w0 bG bH e.Elems) (aC : ISl (Rp.int .i64) A w0 bq bt e.Prefix) (aS : ISl (Rp.int .i64) A w0 b7 b8 e.Last) (aL : ISl (Rp.sl (Rp.int .i64)) A w0 bI bK e.Right) (aM : ISl (rpRule) A w0 bM bN e.Rules) (m6 : w_.length ≤ mx) {K : Int → Prop} (H : enumerate_OfWord e w_ K) :
    CallsV Try.prog 30 #[.agg #[.int .i64 e.Points, .bool e.Monoid, .slice cd e.Gens.length ce, .slice bG e.Elems.length bH, .slice bq e.Prefix.length bt, .slice b7 e.Last.length b8, .slice bI e.Right.length bK, .slice bM e.Rules.length bN, .int .i64 e.Done], .string (gstr w_)] w0 (fun v w' => ∃ (r0 : Int), v = .int .i64 r0 ∧ Same w0 w' ∧ K r0) := by
 refine CallsV.of (l := [.agg #[.int .i64 e.Points, .bool e.Monoid, .slice cd e.Gens.length ce, .slice bG e.Elems.length bH, .slice bq e.Prefix.length bt, .slice b7 e.Last.length b8, .slice bI e.Right.length bK, .slice bM e.Rules.length bN, .int .i64 e.Done], .string (gstr w_)]) Try.func30 rfl Try.ntmps30 rfl ?_
 have hO := Owns.start hA
 have hB := Fr.refl (bl []) w0
 unfold enumerate_OfWord at H
 refine zq (zr ?_)
 have hobt := obox (t := 29) (v := .agg #[.int .i64 e.Points, .bool e.Monoid, .slice cd e.Gens.length ce, .slice bG e.Elems.length bH, .slice bq e.Prefix.length bt, .slice b7 e.Last.length b8, .slice bI e.Right.length bK, .slice bM e.Rules.length bN, .int .i64 e.Done]) (cs := #[.int .i64 e.Points, .bool e.Monoid, .slice cd e.Gens.length ce, .slice bG e.Elems.length bH, .slice bq e.Prefix.length bt, .slice b7 e.Last.length b8, .slice bI e.Right.length bK, .slice bM e.Rules.length bN, .int .i64 e.Done]) hO rfl
 obtain ⟨w1, B2, dI, hs4, qb⟩ := hobt
 refine zg (qb rfl) ?_
 replace hO := dI.own
 refine za rfl (zn (zq (zr (zs (oblkAgg (vs := [.int .i64 e.Points, .bool e.Monoid, .slice cd e.Gens.length ce, .slice bG e.Elems.length bH, .slice bq e.Prefix.length bt, .slice b7 e.Last.length b8, .slice bI e.Right.length bK, .slice bM e.Rules.length bN, .int .i64 e.Done]) (i := 0) 0 hO rfl rfl Try.underlying29 rfl ti29 rfl) ?_))))
 refine GoR.inl (vs := [.agg #[.int .i64 e.Points, .bool e.Monoid, .slice cd e.Gens.length ce, .slice bG e.Elems.length bH, .slice bq e.Prefix.length bt, .slice b7 e.Last.length b8, .slice bI e.Right.length bK, .slice bM e.Rules.length bN, .int .i64 e.Done]]) (caps := []) rfl rfl body57 Try.func57 rfl Try.ntmps57 rfl rfl rfl ?_
 intro RhR7 hR7
 refine zq (zr ?_)
 have hobt := obox (t := 29) (v := .agg #[.int .i64 e.Points, .bool e.Monoid, .slice cd e.Gens.length ce, .slice bG e.Elems.length bH, .slice bq e.Prefix.length bt, .slice b7 e.Last.length b8, .slice bI e.Right.length bK, .slice bM e.Rules.length bN, .int .i64 e.Done]) (cs := #[.int .i64 e.Points, .bool e.Monoid, .slice cd e.Gens.length ce, .slice bG e.Elems.length bH, .slice bq e.Prefix.length bt, .slice b7 e.Last.length b8, .slice bI e.Right.length bK, .slice bM e.Rules.length bN, .int .i64 e.Done]) hO rfl
 obtain ⟨w8, B9, o5, vL, Ge⟩ := hobt
 refine zg (Ge rfl) ?_
 replace hO := o5.own
 refine za rfl (za rfl (zn (zq (zr (zs (oblkAgg (vs := [.int .i64 e.Points, .bool e.Monoid, .slice cd e.Gens.length ce, .slice bG e.Elems.length bH, .slice bq e.Prefix.length bt, .slice b7 e.Last.length b8, .slice bI e.Right.length bK, .slice bM e.Rules.length bN, .int .i64 e.Done]) (i := 0) 0 hO rfl rfl Try.underlying29 rfl ti29 rfl) ?_)))))
 have Z1 := ((Ch.start A w0).trans dI.ch).trans o5.ch
 replace aR := aR.ch Z1
 replace aK := aK.ch Z1
 replace aC := aC.ch Z1
 replace aS := aS.ch Z1
 replace aL := aL.ch Z1
 replace aM := aM.ch Z1
 refine GoR.call (op_call body53 rfl (walk_enumerate_replay (e := e) hO.lt aR aK aC aS aL aM H)) rfl rfl ?_
 intro v16 w17 hcase20
 refine Or.elim hcase20 ?_ ?_
 ·refine exE fun r15 => andE fun hv21 => andE fun z8 => fun H => ?_
  subst hv21
  clear hcase20
  replace H := oElimN H
  have eK := Stp.same hO z8
  replace hO := eK.own
  refine zm rfl (zo (op_extract rfl rfl) (zo (op_extract rfl rfl) (za rfl (za rfl (zn ?_)))))
  refine zq (zr (zm rfl (zm rfl (zm rfl ?_))))
  cases r15
  ·replace H := ifn Bool.false_ne_true H
   refine zp (zp (zo (op_pickF rfl rfl rfl) (za rfl (za rfl (zn ?_)))))
   refine Go1.ret2V Try.func57 rfl (show _ = .pointer none from rfl) (show _ = .bool false from rfl) ?_
   refine hR7 _ _ ?_
   refine zm rfl (zo (op_extract rfl rfl) (zo (op_extract rfl rfl) (za rfl (za rfl (zn ?_)))))
   refine zq (zq ?_)
   refine Go1.cut [(1, .string (gstr w_)), (5, .pointer none), (6, .bool false)] ⟨rfl, rfl, rfl, trivial⟩ ?_
   intro σ _
   refine zr (zm rfl (zo (op_not rfl) (zm rfl (zp (zp ?_)))))
   refine zp (zp (zp (zp (zp (zp ?_)))))
   refine zp (zo (op_pickT rfl rfl rfl) (zm rfl (zp (zp (zp ?_)))))
   refine zp (zp (zp (zp (zp (zp ?_)))))
   refine zp (zo (op_pickT rfl rfl rfl) (zn (zt rfl rfl (zq ?_))))
   refine Go1.cut [] trivial ?_
   intro σ _
   refine zr (za rfl (zn ?_))
   refine Go1.ret1 Try.func30 rfl ?_
   replace hB := ((hB.trans dI.fr).trans o5.fr).trans eK.fr
   exact ⟨(-1 : Int), rfl, hB.same, H⟩
  replace H := ifp rfl H
  refine zm rfl ?_
  refine GoR.inl (vs := [.pointer none]) (caps := []) rfl rfl body50 Try.func50 rfl Try.ntmps50 rfl rfl rfl ?_
  intro RhR23 hR23
  refine zq (zr (za rfl (zn (zq ?_))))
  refine Go1.drawS 0 [(0, .pure), (1, .pure), (2, .pure), (3, .pure), (4, .stable), (5, .pure), (6, .pure), (7, .pure), (8, .pure), (9, .stable), (10, .pure), (11, .pure), (12, .pure)] mixed (by kernel_rfl) ?_
  intro w24 CM
  have jA := Stp.same hO CM
  replace hO := jA.own
  refine GoQ.pure rfl (op_move rfl) rfl rfl ?_
  exact H.elim
 ·refine exE fun r14 => exE fun r15 => exE fun bW => exE fun am => exE fun ao => exE fun ap => exE fun aV => exE fun ad => exE fun ae => exE fun af => exE fun aO => exE fun aa => exE fun ab => exE fun ac => exE fun aN => exE fun aq => exE fun ar => exE fun au => exE fun aW => exE fun ag => exE fun ah => exE fun ai => exE fun aP => exE fun aj => exE fun ak => exE fun al => exE fun aQ => exE fun av => exE fun aE => exE fun aF => exE fun aG => exE fun bi => exE fun aw => exE fun ax => exE fun ay => exE fun bc => exE fun az => exE fun aA => exE fun aB => exE fun bf => andE fun hv27 => andE fun z8 => andE fun hN19 => andE fun a8 => andE fun aU => andE fun aT => andE fun a9 => andE fun aI => andE fun aX => andE fun bg => andE fun bh => andE fun a7 => fun H => ?_
  subst hv27
  clear hcase20
  replace H := oElimS H
  have gY := Stp.more hO z8 hN19
  dsimp only [List.cons_append, List.nil_append] at gY
  replace hO := gY.own
  replace a8 := a8.ch (Ch.assoc _ _ _ _)
  dsimp only [List.cons_append, List.nil_append] at a8
  replace aU := aU.ch (Ch.assoc _ _ _ _)
  dsimp only [List.cons_append, List.nil_append] at aU
  replace aT := aT.ch (Ch.assoc _ _ _ _)
  dsimp only [List.cons_append, List.nil_append] at aT
  replace a9 := a9.ch (Ch.assoc _ _ _ _)
  dsimp only [List.cons_append, List.nil_append] at a9
  replace aI := aI.ch (Ch.assoc _ _ _ _)
  dsimp only [List.cons_append, List.nil_append] at aI
  replace aX := aX.ch (Ch.assoc _ _ _ _)
  dsimp only [List.cons_append, List.nil_append] at aX
  replace bg := bg.ch (Ch.assoc _ _ _ _)
  dsimp only [List.cons_append, List.nil_append] at bg
  replace bh := bh.ch (Ch.assoc _ _ _ _)
  dsimp only [List.cons_append, List.nil_append] at bh
  replace a7 := a7.ch (Ch.assoc _ _ _ _)
  dsimp only [List.cons_append, List.nil_append] at a7
  refine zm rfl (zo (op_extract rfl rfl) (zo (op_extract rfl rfl) (za rfl (za rfl (zn ?_)))))
  refine zq (zr (zm rfl (zm rfl (zm rfl ?_))))
  cases r15
  ·replace H := ifn Bool.false_ne_true H
   refine zp (zp (zo (op_pickF rfl rfl rfl) (za rfl (za rfl (zn ?_)))))
   refine Go1.ret2V Try.func57 rfl (show _ = .pointer (some ⟨bW, 0, none⟩) from rfl) (show _ = .bool false from rfl) ?_
   refine hR7 _ _ ?_
   refine zm rfl (zo (op_extract rfl rfl) (zo (op_extract rfl rfl) (za rfl (za rfl (zn ?_)))))
   refine zq (zq ?_)
   refine Go1.cut [(1, .string (gstr w_)), (5, .pointer (some ⟨bW, 0, none⟩)), (6, .bool false)] ⟨rfl, rfl, rfl, trivial⟩ ?_
   intro σ _
   refine zr (zm rfl (zo (op_not rfl) (zm rfl (zp (zp ?_)))))
   refine zp (zp (zp (zp (zp (zp ?_)))))
   refine zp (zo (op_pickT rfl rfl rfl) (zm rfl (zp (zp (zp ?_)))))
   refine zp (zp (zp (zp (zp (zp ?_)))))
   refine zp (zo (op_pickT rfl rfl rfl) (zn (zt rfl rfl (zq ?_))))
   refine Go1.cut [] trivial ?_
   intro σ _
   refine zr (za rfl (zn ?_))
   refine Go1.ret1 Try.func30 rfl ?_
   replace hB := ((hB.trans dI.fr).trans o5.fr).trans gY.fr
   exact ⟨(-1 : Int), rfl, hB.same, H⟩
  replace H := ifp rfl H
  refine zm rfl ?_
  refine GoR.inl (vs := [.pointer (some ⟨bW, 0, none⟩)]) (caps := []) rfl rfl body50 Try.func50 rfl Try.ntmps50 rfl rfl rfl ?_
  intro RhR40 hR40
  refine zq (zr (za rfl (zn (zq ?_))))
  refine Go1.drawS 0 [(0, .pure), (1, .pure), (2, .pure), (3, .pure), (4, .stable), (5, .pure), (6, .pure), (7, .pure), (8, .pure), (9, .stable), (10, .pure), (11, .pure), (12, .pure)] mixed (by kernel_rfl) ?_
  intro w41 H5
  have eY := Stp.same hO H5
  replace hO := eY.own
  refine GoQ.pure rfl (op_move rfl) rfl rfl ?_
  refine GoQ.pure rfl (op_nilCheck rfl) rfl rfl ?_
  refine GoQ.pure rfl (op_fieldAddr Try.underlying72 rfl ti29 rfl (by decide)) rfl rfl ?_
  refine GoQ.pure rfl (op_fieldAddr Try.underlying29 rfl ti3 rfl (by decide)) rfl rfl ?_
  refine GoQ.stable rfl (oblk (i := 8) 0 hO rfl rfl Try.underlying3 rfl rfl) rfl rfl ?_
  refine GoQ.pure rfl (op_move rfl) rfl rfl ?_
  refine GoQ.pure rfl (op_nilCheck rfl) rfl rfl ?_
  refine GoQ.pure rfl (op_fieldAddr Try.underlying72 rfl ti29 rfl (by decide)) rfl rfl ?_
  refine GoQ.pure rfl (op_fieldAddr Try.underlying29 rfl ti22 rfl (by decide)) rfl rfl ?_
  refine GoQ.stable rfl (oblk (i := 3) 0 hO rfl rfl Try.underlying22 rfl rfl) rfl rfl ?_
  replace aU := aU.ch eY.ch
  refine GoQ.pure rfl (op_lenN Try.underlying22 rfl (aU.neq hO 2 rfl)) rfl rfl ?_
  by_cases h44 : r14.Enum.Done = (r14.Enum.Elems.length : Int)
  ·replace H := ifp h44 H
   refine GoQ.pure rfl (fun w => opB (op_eql rfl rfl w) (decide_eq_true h44)) rfl rfl ?_
   refine GoQ.pure rfl (op_assign rfl) rfl rfl ?_
   refine GoQ.nil ?_
   refine Go1.ret1V Try.func50 rfl (show _ = .bool true from rfl) ?_
   refine hR40 _ _ ?_
   refine zo (op_pickT rfl rfl rfl) (za rfl (za rfl (zn ?_)))
   refine Go1.ret2V Try.func57 rfl (show _ = .pointer (some ⟨bW, 0, none⟩) from rfl) (show _ = .bool true from rfl) ?_
   refine hR7 _ _ ?_
   refine zm rfl (zo (op_extract rfl rfl) (zo (op_extract rfl rfl) (za rfl (za rfl (zn ?_)))))
   refine zq (zq ?_)
   refine Go1.cut [(1, .string (gstr w_)), (5, .pointer (some ⟨bW, 0, none⟩)), (6, .bool true)] ⟨rfl, rfl, rfl, trivial⟩ ?_
   intro σ _
   refine zr (zm rfl (zo (op_not rfl) (zm rfl (zm rfl (zm rfl ?_)))))
   refine zo (op_nilCheck rfl) (zo (op_fieldAddr Try.underlying72 rfl ti29 rfl (by decide)) (zo (op_fieldAddr Try.underlying29 rfl ti22 rfl (by decide)) (zs (oblk (i := 2) 0 hO rfl rfl Try.underlying22 rfl rfl) ?_)))
   replace a8 := a8.ch eY.ch
   refine zo (op_lenN Try.underlying22 rfl (a8.neq hO 1 rfl)) ?_
   refine GoR.call (op_call body58 rfl (walk_word_Valid hO.lt m6 H)) rfl rfl ?_
   rintro v49 w46 ⟨r45, rfl, WA, H⟩
   have sK := Stp.same hO WA
   replace hO := sK.own
   cases r45
   ·replace H := ifn Bool.false_ne_true H
    refine zo (op_not rfl) (zo (op_pickF rfl rfl rfl) (zm rfl (zp (zp (zp ?_)))))
    refine zp (zp (zp (zp (zp (zp ?_)))))
    refine zp (zo (op_pickT rfl rfl rfl) (zn (zt rfl rfl (zq ?_))))
    refine Go1.cut [] trivial ?_
    intro σ _
    refine zr (za rfl (zn ?_))
    refine Go1.ret1 Try.func30 rfl ?_
    replace hB := ((((hB.trans dI.fr).trans o5.fr).trans gY.fr).trans eY.fr).trans sK.fr
    exact ⟨(-1 : Int), rfl, hB.same, H⟩
   replace H := ifp rfl H
   refine zo (op_not rfl) (zo (op_pickF rfl rfl rfl) (zm rfl (zm rfl ?_)))
   by_cases h51 : w_ = (([] : Str))
   ·replace H := ifp h51 H
    refine zo (fun w => opB (op_eqlS rfl rfl w) (decide_eq_true h51)) (zm rfl (zm rfl (zo (op_nilCheck rfl) (zo (op_fieldAddr Try.underlying72 rfl ti29 rfl (by decide)) (zo (op_fieldAddr Try.underlying29 rfl ti4 rfl (by decide)) ?_)))))
    by_cases h52 : r14.Enum.Monoid = true
    ·replace H := ifp h52 H
     refine zg (opB ((oblk (i := 1) 0 hO rfl rfl Try.underlying4 rfl rfl) _ (Same.refl _)) (h52)) (zo (op_not rfl) (zo (op_pickT rfl rfl rfl) (zo (op_pickF rfl rfl rfl) (zn (zf rfl rfl ?_)))))
     refine zk (zq (zr (zm rfl (zm rfl ?_))))
     refine GoR.inl (vs := [.pointer (some ⟨bW, 0, none⟩), .int .i64 (-1 : Int), .string (gstr w_)]) (caps := []) rfl rfl body59 Try.func59 rfl Try.ntmps59 rfl rfl rfl ?_
     intro RhR53 hR53
     refine zq (zr (za rfl (zn (zq (zq ?_)))))
     refine Go1.cut [(0, .pointer (some ⟨bW, 0, none⟩)), (1, .int .i64 (-1 : Int)), (2, .string (gstr w_))] ⟨rfl, rfl, rfl, trivial⟩ ?_
     intro σ _
     refine zr (zm rfl ?_)
     by_cases h54 : (-1 : Int) = (-1 : Int)
     ·replace H := ifp h54 H
      refine zo (fun w => opB (op_eql rfl rfl w) (decide_eq_true h54)) (zm rfl (zm rfl (zo (fun w => opB (op_eqlS rfl rfl w) (decide_eq_true h51)) (zo (op_pickT rfl rfl rfl) (zn ?_)))))
      refine zt rfl rfl (zq (zr (za rfl (zn ?_))))
      refine Go1.ret1V Try.func59 rfl (show _ = .int .i64 (0 : Int) from rfl) ?_
      refine hR53 _ _ ?_
      refine za rfl (zn ?_)
      refine Go1.ret1 Try.func30 rfl ?_
      replace hB := ((((hB.trans dI.fr).trans o5.fr).trans gY.fr).trans eY.fr).trans sK.fr
      exact ⟨(0 : Int), rfl, hB.same, H⟩
     replace H := ifn h54 H
     refine zo (fun w => opB (op_eql rfl rfl w) (decide_eq_false h54)) (zm rfl (zp (zp (zo (op_pickF rfl rfl rfl) (zn ?_)))))
     refine zf rfl rfl (zk (zq (zq (zr (zm rfl ?_)))))
     refine zo (op_lenS Try.underlying9 rfl) ?_
     replace H := H m6
     refine zm rfl (zn (zb ?_))
     replace hO := hO.drop 11
     have Z2 := sK.ch.trans (Owns.dropCh _ _ 11)
     replace a8 := a8.ch Z2
     replace aU := aU.ch Z2
     have Z3 := (eY.ch.trans sK.ch).trans (Owns.dropCh _ _ 11)
     replace aT := aT.ch Z3
     replace a9 := a9.ch Z3
     replace aI := aI.ch Z3
     replace aX := aX.ch Z3
     replace bg := bg.ch Z3
     replace bh := bh.ch Z3
     replace a7 := a7.ch Z3
     have Z4 := ((gY.ch.trans eY.ch).trans sK.ch).trans (Owns.dropCh _ _ 11)
     replace aR := aR.ch Z4
     replace aK := aK.ch Z4
     replace aC := aC.ch Z4
     replace aS := aS.ch Z4
     replace aL := aL.ch Z4
     replace aM := aM.ch Z4
     replace hB := (((((hB.trans dI.fr).trans o5.fr).trans gY.fr).trans eY.fr).trans sK.fr).trans (Owns.dropFr _ _ 11)
     dsimp only [eS, eZ] at hB hO aR aK aC aS aL aM a8 aU aT a9 aI aX bg bh a7
     replace hO := hO.drop 11
     replace aR := aR.ch (Owns.dropCh _ _ 11)
     replace aK := aK.ch (Owns.dropCh _ _ 11)
     replace aC := aC.ch (Owns.dropCh _ _ 11)
     replace aS := aS.ch (Owns.dropCh _ _ 11)
     replace aL := aL.ch (Owns.dropCh _ _ 11)
     replace aM := aM.ch (Owns.dropCh _ _ 11)
     replace a8 := a8.ch (Owns.dropCh _ _ 11)
     replace aU := aU.ch (Owns.dropCh _ _ 11)
     replace aT := aT.ch (Owns.dropCh _ _ 11)
     replace a9 := a9.ch (Owns.dropCh _ _ 11)
     replace aI := aI.ch (Owns.dropCh _ _ 11)
     replace aX := aX.ch (Owns.dropCh _ _ 11)
     replace bg := bg.ch (Owns.dropCh _ _ 11)
     replace bh := bh.ch (Owns.dropCh _ _ 11)
     replace a7 := a7.ch (Owns.dropCh _ _ 11)
     replace hB := hB.trans (Owns.dropFr _ _ 11)
     dsimp only [eS, eZ] at hB hO aR aK aC aS aL aM a8 aU aT a9 aI aX bg bh a7
     refine Go1.loopW (S := Int × Nat) (fun s σ w => match s with | (i1_56, k1_57) => agrees σ [(0, .pointer (some ⟨bW, 0, none⟩)), (1, .int .i64 i1_56), (2, .string (gstr w_)), (15, .int .i64 (w_.length : Int)), (16, .int .i64 (k1_57 : Int))] ∧ (fun Z0 => Owns w0.heap.size w Z0 A ∧ Els (Rp.sl (Rp.int .i64)) (bl Z0 ++ A) w aV r14.Enum.Gens ∧ Els (Rp.sl (Rp.int .i64)) (bl Z0 ++ A) w aO r14.Enum.Elems ∧ Els (Rp.int .i64) (bl Z0 ++ A) w aN r14.Enum.Prefix ∧ Els (Rp.int .i64) (bl Z0 ++ A) w aW r14.Enum.Last ∧ Els (Rp.sl (Rp.int .i64)) (bl Z0 ++ A) w aP r14.Enum.Right ∧ Els (rpRule) (bl Z0 ++ A) w aQ r14.Enum.Rules ∧ Els (Rp.str) (bl Z0 ++ A) w bi r14.words ∧ Els (Rp.int .i64) (bl Z0 ++ A) w bc r14.behind ∧ Els (Rp.int .i64) (bl Z0 ++ A) w bf r14.single ∧ Fr (bl []) w0 (bl Z0) w) [.blk bW (.cells #[.int .i64 r14.Enum.Points, .bool r14.Enum.Monoid, .slice ao am ap, .slice ae ad af, .slice ab aa ac, .slice ar aq au, .slice ah ag ai, .slice ak aj al, .int .i64 r14.Enum.Done, .map (some av), .slice aF aE aG, .slice ax aw ay, .slice aA az aB] 72 (0, 0)), .row 26 1 ao am ap aV, .row 26 1 ae ad af aO, .row 3 1 ab aa ac aN, .row 3 1 ar aq au aW, .row 26 1 ah ag ai aP, .row 39 2 ak aj al aQ, .row 9 1 aF aE aG bi, .row 3 1 ax aw ay bc, .row 3 1 aA az aB bf, .any (mapE (fun a : List UInt8 => Value.string (gstr a)) (fun a : Int => Value.int .i64 a) av r14.number)]) H ⟨⟨rfl, rfl, rfl, rfl, rfl, trivial⟩, hO, a8, aU, aT, a9, aI, aX, bg, bh, a7, hB⟩ ?_
     intro X1
     refine prE fun i1_56 => fun k1_57 => ?_
     intro H hX1 σ w55
     refine andE fun hag => andE fun hO => andE fun a8 => andE fun aU => andE fun aT => andE fun a9 => andE fun aI => andE fun aX => andE fun bg => andE fun bh => andE fun a7 => fun hB => ?_
     dsimp only at H
     refine Go1.keep [(0, .pointer (some ⟨bW, 0, none⟩)), (1, .int .i64 i1_56), (2, .string (gstr w_)), (15, .int .i64 (w_.length : Int)), (16, .int .i64 (k1_57 : Int))] hag ?_
     refine zq (zr ?_)
     by_cases h58 : (k1_57 : Int) < (w_.length : Int)
     ·replace H := ifp h58 H
      refine zo (fun w => opB (op_lss rfl rfl w) (decide_eq_true h58)) (zn (zq (zt rfl rfl (zk (zq ?_)))))
      refine zb (zq (zr (zm rfl (za rfl (zn ?_)))))
      refine zr (zm rfl (zm rfl (zm rfl (zm rfl ?_))))
      obtain ⟨h59, H⟩ := H
      obtain ⟨h60, H⟩ := H
      refine zo (op_indexS Try.underlying9 rfl rfl h59 h60) (zo (op_sub rfl rfl rfl) (zo (op_conv Try.underlying5 Try.underlying3 rfl rfl) ?_))
      refine GoR.inl (vs := [.pointer (some ⟨bW, 0, none⟩), .int .i64 i1_56, .int .i64 (IntKind.i64.wrap (IntKind.u8.wrap (((ix w_ (k1_57 : Int)).toNat : Int) - (97 : Int))))]) (caps := []) rfl rfl body66 Try.func66 rfl Try.ntmps66 rfl rfl rfl ?_
      intro RhR61 hR61
      refine zq (zr (za rfl (zn (zq (zq ?_)))))
      refine zr (zm rfl ?_)
      by_cases h62 : i1_56 = (-1 : Int)
      ·replace H := ifp h62 H
       refine zo (fun w => opB (op_eql rfl rfl w) (decide_eq_true h62)) (zn (zt rfl rfl (zq (zr (zm rfl ?_)))))
       refine zo (op_nilCheck rfl) (zo (op_fieldAddr Try.underlying72 rfl ti26 rfl (by decide)) (zs (oblk (i := 12) 0 hO rfl rfl Try.underlying26 rfl rfl) (zm rfl ?_)))
       obtain ⟨h63, H⟩ := H
       obtain ⟨h64, H⟩ := H
       refine zo (op_index Try.underlying26 ti3 rfl rfl h63 (ltn (a7.neq hO 9 rfl) h64) (a7.psome hO 9 rfl h63 h64)) (zs (oldInt 9 hO rfl a7 h63 h64 Try.underlying3 rfl rfl) (za rfl (zn ?_)))
       refine Go1.ret1V Try.func66 rfl (show _ = .int .i64 (ix r14.single (IntKind.i64.wrap (IntKind.u8.wrap (((ix w_ (k1_57 : Int)).toNat : Int) - (97 : Int))))) from rfl) ?_
       refine hR61 _ _ ?_
       refine za rfl (zn ?_)
       refine Go1.inBlock ?_
       refine Go1.cut [(0, .pointer (some ⟨bW, 0, none⟩)), (1, .int .i64 (ix r14.single (IntKind.i64.wrap (IntKind.u8.wrap (((ix w_ (k1_57 : Int)).toNat : Int) - (97 : Int)))))), (2, .string (gstr w_)), (15, .int .i64 (w_.length : Int)), (16, .int .i64 (k1_57 : Int))] ⟨rfl, rfl, rfl, rfl, rfl, trivial⟩ ?_
       intro σ _
       refine zr (zo (op_add rfl rfl (wrap_i64 (natbd h58 m6))) (zm rfl (zn ?_)))
       exact hX1 _ H _ _ ⟨⟨rfl, rfl, rfl, rfl, rfl, trivial⟩, hO, a8, aU, aT, a9, aI, aX, bg, bh, a7, hB⟩
      replace H := ifn h62 H
      refine zo (fun w => opB (op_eql rfl rfl w) (decide_eq_false h62)) (zn (zf rfl rfl (zk (zq (zr ?_)))))
      refine zm rfl (zo (op_nilCheck rfl) (zo (op_fieldAddr Try.underlying72 rfl ti29 rfl (by decide)) (zo (op_fieldAddr Try.underlying29 rfl ti22 rfl (by decide)) (zs (oblk (i := 6) 0 hO rfl rfl Try.underlying22 rfl rfl) (zm rfl ?_)))))
      obtain ⟨h65, H⟩ := H
      obtain ⟨h66, H⟩ := H
      refine zo (op_index Try.underlying22 ti26 rfl rfl h65 (ltn (aI.neq hO 5 rfl) h66) (aI.psome hO 5 rfl h65 h66)) ?_
      have hobt := oldSl 5 hO rfl aI h65 h66
      obtain ⟨p67, c68, Fz, H6⟩ := hobt
      refine zs (H6 Try.underlying26 rfl rfl) (zm rfl ?_)
      obtain ⟨h71, H⟩ := H
      obtain ⟨h72, H⟩ := H
      refine zo (op_index Try.underlying26 ti3 rfl rfl h71 h72 (Fz.some_ h71 h72)) (zs (ldInt Fz h71 h72 Try.underlying3 rfl rfl) (za rfl (zn ?_)))
      refine Go1.ret1V Try.func66 rfl (show _ = .int .i64 (ix (ix r14.Enum.Right i1_56) (IntKind.i64.wrap (IntKind.u8.wrap (((ix w_ (k1_57 : Int)).toNat : Int) - (97 : Int))))) from rfl) ?_
      refine hR61 _ _ ?_
      refine za rfl (zn ?_)
      refine Go1.inBlock ?_
      refine zr (zo (op_add rfl rfl (wrap_i64 (natbd h58 m6))) (zm rfl (zn ?_)))
      exact hX1 _ H _ _ ⟨⟨rfl, rfl, rfl, rfl, rfl, trivial⟩, hO, a8, aU, aT, a9, aI, aX, bg, bh, a7, hB⟩
     replace H := ifn h58 H
     refine zo (fun w => opB (op_lss rfl rfl w) (decide_eq_false h58)) (zn (zq (zf rfl rfl ?_)))
     refine Go1.exit rfl ?_
     refine zq (zr (zm rfl (za rfl (zn ?_))))
     refine Go1.ret1V Try.func59 rfl (show _ = .int .i64 i1_56 from rfl) ?_
     refine hR53 _ _ ?_
     refine za rfl (zn ?_)
     refine Go1.ret1 Try.func30 rfl ?_
     exact ⟨i1_56, rfl, hB.same, H⟩
    replace H := ifn h52 H
    refine zg (opB ((oblk (i := 1) 0 hO rfl rfl Try.underlying4 rfl rfl) _ (Same.refl _)) (Bool.eq_false_iff.2 h52)) (zo (op_not rfl) (zo (op_pickT rfl rfl rfl) (zo (op_pickF rfl rfl rfl) (zn (zt rfl rfl ?_)))))
    refine zq ?_
    refine Go1.cut [] trivial ?_
    intro σ _
    refine zr (za rfl (zn ?_))
    refine Go1.ret1 Try.func30 rfl ?_
    replace hB := ((((hB.trans dI.fr).trans o5.fr).trans gY.fr).trans eY.fr).trans sK.fr
    exact ⟨(-1 : Int), rfl, hB.same, H⟩
   replace H := ifn h51 H
   refine zo (fun w => opB (op_eqlS rfl rfl w) (decide_eq_false h51)) (zm rfl (zp (zp (zp (zp ?_)))))
   refine zp (zp (zo (op_pickF rfl rfl rfl) (zo (op_pickF rfl rfl rfl) (zn (zf rfl rfl ?_)))))
   refine zk (zq (zr (zm rfl (zm rfl ?_))))
   refine GoR.inl (vs := [.pointer (some ⟨bW, 0, none⟩), .int .i64 (-1 : Int), .string (gstr w_)]) (caps := []) rfl rfl body59 Try.func59 rfl Try.ntmps59 rfl rfl rfl ?_
   intro RhR73 hR73
   refine zq (zr (za rfl (zn (zq (zq ?_)))))
   refine zr (zm rfl ?_)
   by_cases h74 : (-1 : Int) = (-1 : Int)
   ·replace H := ifp h74 H
    refine zo (fun w => opB (op_eql rfl rfl w) (decide_eq_true h74)) (zm rfl (zm rfl (zo (fun w => opB (op_eqlS rfl rfl w) (decide_eq_false h51)) (zo (op_pickT rfl rfl rfl) (zn ?_)))))
    refine zf rfl rfl (zk (zq (zq ?_)))
    refine Go1.cut [(0, .pointer (some ⟨bW, 0, none⟩)), (1, .int .i64 (-1 : Int)), (2, .string (gstr w_))] ⟨rfl, rfl, rfl, trivial⟩ ?_
    intro σ _
    refine zr (zm rfl (zo (op_lenS Try.underlying9 rfl) ?_))
    replace H := H m6
    refine zm rfl (zn (zb ?_))
    replace hO := hO.drop 11
    have Z5 := sK.ch.trans (Owns.dropCh _ _ 11)
    replace a8 := a8.ch Z5
    replace aU := aU.ch Z5
    have Z6 := (eY.ch.trans sK.ch).trans (Owns.dropCh _ _ 11)
    replace aT := aT.ch Z6
    replace a9 := a9.ch Z6
    replace aI := aI.ch Z6
    replace aX := aX.ch Z6
    replace bg := bg.ch Z6
    replace bh := bh.ch Z6
    replace a7 := a7.ch Z6
    have Z7 := ((gY.ch.trans eY.ch).trans sK.ch).trans (Owns.dropCh _ _ 11)
    replace aR := aR.ch Z7
    replace aK := aK.ch Z7
    replace aC := aC.ch Z7
    replace aS := aS.ch Z7
    replace aL := aL.ch Z7
    replace aM := aM.ch Z7
    replace hB := (((((hB.trans dI.fr).trans o5.fr).trans gY.fr).trans eY.fr).trans sK.fr).trans (Owns.dropFr _ _ 11)
    dsimp only [eS, eZ] at hB hO aR aK aC aS aL aM a8 aU aT a9 aI aX bg bh a7
    replace hO := hO.drop 11
    replace aR := aR.ch (Owns.dropCh _ _ 11)
    replace aK := aK.ch (Owns.dropCh _ _ 11)
    replace aC := aC.ch (Owns.dropCh _ _ 11)
    replace aS := aS.ch (Owns.dropCh _ _ 11)
    replace aL := aL.ch (Owns.dropCh _ _ 11)
    replace aM := aM.ch (Owns.dropCh _ _ 11)
    replace a8 := a8.ch (Owns.dropCh _ _ 11)
    replace aU := aU.ch (Owns.dropCh _ _ 11)
    replace aT := aT.ch (Owns.dropCh _ _ 11)
    replace a9 := a9.ch (Owns.dropCh _ _ 11)
    replace aI := aI.ch (Owns.dropCh _ _ 11)
    replace aX := aX.ch (Owns.dropCh _ _ 11)
    replace bg := bg.ch (Owns.dropCh _ _ 11)
    replace bh := bh.ch (Owns.dropCh _ _ 11)
    replace a7 := a7.ch (Owns.dropCh _ _ 11)
    replace hB := hB.trans (Owns.dropFr _ _ 11)
    dsimp only [eS, eZ] at hB hO aR aK aC aS aL aM a8 aU aT a9 aI aX bg bh a7
    refine Go1.loopW (S := Int × Nat) (fun s σ w => match s with | (i2_76, k2_77) => agrees σ [(0, .pointer (some ⟨bW, 0, none⟩)), (1, .int .i64 i2_76), (2, .string (gstr w_)), (15, .int .i64 (w_.length : Int)), (16, .int .i64 (k2_77 : Int))] ∧ (fun Z0 => Owns w0.heap.size w Z0 A ∧ Els (Rp.sl (Rp.int .i64)) (bl Z0 ++ A) w aV r14.Enum.Gens ∧ Els (Rp.sl (Rp.int .i64)) (bl Z0 ++ A) w aO r14.Enum.Elems ∧ Els (Rp.int .i64) (bl Z0 ++ A) w aN r14.Enum.Prefix ∧ Els (Rp.int .i64) (bl Z0 ++ A) w aW r14.Enum.Last ∧ Els (Rp.sl (Rp.int .i64)) (bl Z0 ++ A) w aP r14.Enum.Right ∧ Els (rpRule) (bl Z0 ++ A) w aQ r14.Enum.Rules ∧ Els (Rp.str) (bl Z0 ++ A) w bi r14.words ∧ Els (Rp.int .i64) (bl Z0 ++ A) w bc r14.behind ∧ Els (Rp.int .i64) (bl Z0 ++ A) w bf r14.single ∧ Fr (bl []) w0 (bl Z0) w) [.blk bW (.cells #[.int .i64 r14.Enum.Points, .bool r14.Enum.Monoid, .slice ao am ap, .slice ae ad af, .slice ab aa ac, .slice ar aq au, .slice ah ag ai, .slice ak aj al, .int .i64 r14.Enum.Done, .map (some av), .slice aF aE aG, .slice ax aw ay, .slice aA az aB] 72 (0, 0)), .row 26 1 ao am ap aV, .row 26 1 ae ad af aO, .row 3 1 ab aa ac aN, .row 3 1 ar aq au aW, .row 26 1 ah ag ai aP, .row 39 2 ak aj al aQ, .row 9 1 aF aE aG bi, .row 3 1 ax aw ay bc, .row 3 1 aA az aB bf, .any (mapE (fun a : List UInt8 => Value.string (gstr a)) (fun a : Int => Value.int .i64 a) av r14.number)]) H ⟨⟨rfl, rfl, rfl, rfl, rfl, trivial⟩, hO, a8, aU, aT, a9, aI, aX, bg, bh, a7, hB⟩ ?_
    intro X2
    refine prE fun i2_76 => fun k2_77 => ?_
    intro H hX2 σ w75
    refine andE fun hag => andE fun hO => andE fun a8 => andE fun aU => andE fun aT => andE fun a9 => andE fun aI => andE fun aX => andE fun bg => andE fun bh => andE fun a7 => fun hB => ?_
    dsimp only at H
    refine Go1.keep [(0, .pointer (some ⟨bW, 0, none⟩)), (1, .int .i64 i2_76), (2, .string (gstr w_)), (15, .int .i64 (w_.length : Int)), (16, .int .i64 (k2_77 : Int))] hag ?_
    refine zq (zr ?_)
    by_cases h78 : (k2_77 : Int) < (w_.length : Int)
    ·replace H := ifp h78 H
     refine zo (fun w => opB (op_lss rfl rfl w) (decide_eq_true h78)) (zn (zq (zt rfl rfl (zk (zq ?_)))))
     refine zb (zq (zr (zm rfl (za rfl (zn ?_)))))
     refine zr (zm rfl (zm rfl (zm rfl (zm rfl ?_))))
     obtain ⟨h79, H⟩ := H
     obtain ⟨h80, H⟩ := H
     refine zo (op_indexS Try.underlying9 rfl rfl h79 h80) (zo (op_sub rfl rfl rfl) (zo (op_conv Try.underlying5 Try.underlying3 rfl rfl) ?_))
     refine GoR.inl (vs := [.pointer (some ⟨bW, 0, none⟩), .int .i64 i2_76, .int .i64 (IntKind.i64.wrap (IntKind.u8.wrap (((ix w_ (k2_77 : Int)).toNat : Int) - (97 : Int))))]) (caps := []) rfl rfl body66 Try.func66 rfl Try.ntmps66 rfl rfl rfl ?_
     intro RhR81 hR81
     refine zq (zr (za rfl (zn (zq (zq ?_)))))
     refine zr (zm rfl ?_)
     by_cases h82 : i2_76 = (-1 : Int)
     ·replace H := ifp h82 H
      refine zo (fun w => opB (op_eql rfl rfl w) (decide_eq_true h82)) (zn (zt rfl rfl (zq (zr (zm rfl ?_)))))
      refine zo (op_nilCheck rfl) (zo (op_fieldAddr Try.underlying72 rfl ti26 rfl (by decide)) (zs (oblk (i := 12) 0 hO rfl rfl Try.underlying26 rfl rfl) (zm rfl ?_)))
      obtain ⟨h83, H⟩ := H
      obtain ⟨h84, H⟩ := H
      refine zo (op_index Try.underlying26 ti3 rfl rfl h83 (ltn (a7.neq hO 9 rfl) h84) (a7.psome hO 9 rfl h83 h84)) (zs (oldInt 9 hO rfl a7 h83 h84 Try.underlying3 rfl rfl) (za rfl (zn ?_)))
      refine Go1.ret1V Try.func66 rfl (show _ = .int .i64 (ix r14.single (IntKind.i64.wrap (IntKind.u8.wrap (((ix w_ (k2_77 : Int)).toNat : Int) - (97 : Int))))) from rfl) ?_
      refine hR81 _ _ ?_
      refine za rfl (zn ?_)
      refine Go1.inBlock ?_
      refine Go1.cut [(0, .pointer (some ⟨bW, 0, none⟩)), (1, .int .i64 (ix r14.single (IntKind.i64.wrap (IntKind.u8.wrap (((ix w_ (k2_77 : Int)).toNat : Int) - (97 : Int)))))), (2, .string (gstr w_)), (15, .int .i64 (w_.length : Int)), (16, .int .i64 (k2_77 : Int))] ⟨rfl, rfl, rfl, rfl, rfl, trivial⟩ ?_
      intro σ _
      refine zr (zo (op_add rfl rfl (wrap_i64 (natbd h78 m6))) (zm rfl (zn ?_)))
      exact hX2 _ H _ _ ⟨⟨rfl, rfl, rfl, rfl, rfl, trivial⟩, hO, a8, aU, aT, a9, aI, aX, bg, bh, a7, hB⟩
     replace H := ifn h82 H
     refine zo (fun w => opB (op_eql rfl rfl w) (decide_eq_false h82)) (zn (zf rfl rfl (zk (zq (zr ?_)))))
     refine zm rfl (zo (op_nilCheck rfl) (zo (op_fieldAddr Try.underlying72 rfl ti29 rfl (by decide)) (zo (op_fieldAddr Try.underlying29 rfl ti22 rfl (by decide)) (zs (oblk (i := 6) 0 hO rfl rfl Try.underlying22 rfl rfl) (zm rfl ?_)))))
     obtain ⟨h85, H⟩ := H
     obtain ⟨h86, H⟩ := H
     refine zo (op_index Try.underlying22 ti26 rfl rfl h85 (ltn (aI.neq hO 5 rfl) h86) (aI.psome hO 5 rfl h85 h86)) ?_
     have hobt := oldSl 5 hO rfl aI h85 h86
     obtain ⟨p87, c88, Oa, WB⟩ := hobt
     refine zs (WB Try.underlying26 rfl rfl) (zm rfl ?_)
     obtain ⟨h91, H⟩ := H
     obtain ⟨h92, H⟩ := H
     refine zo (op_index Try.underlying26 ti3 rfl rfl h91 h92 (Oa.some_ h91 h92)) (zs (ldInt Oa h91 h92 Try.underlying3 rfl rfl) (za rfl (zn ?_)))
     refine Go1.ret1V Try.func66 rfl (show _ = .int .i64 (ix (ix r14.Enum.Right i2_76) (IntKind.i64.wrap (IntKind.u8.wrap (((ix w_ (k2_77 : Int)).toNat : Int) - (97 : Int))))) from rfl) ?_
     refine hR81 _ _ ?_
     refine za rfl (zn ?_)
     refine Go1.inBlock ?_
     refine zr (zo (op_add rfl rfl (wrap_i64 (natbd h78 m6))) (zm rfl (zn ?_)))
     exact hX2 _ H _ _ ⟨⟨rfl, rfl, rfl, rfl, rfl, trivial⟩, hO, a8, aU, aT, a9, aI, aX, bg, bh, a7, hB⟩
    replace H := ifn h78 H
    refine zo (fun w => opB (op_lss rfl rfl w) (decide_eq_false h78)) (zn (zq (zf rfl rfl ?_)))
    refine Go1.exit rfl ?_
    refine zq (zr (zm rfl (za rfl (zn ?_))))
    refine Go1.ret1V Try.func59 rfl (show _ = .int .i64 i2_76 from rfl) ?_
    refine hR73 _ _ ?_
    refine za rfl (zn ?_)
    refine Go1.ret1 Try.func30 rfl ?_
    exact ⟨i2_76, rfl, hB.same, H⟩
   replace H := ifn h74 H
   refine zo (fun w => opB (op_eql rfl rfl w) (decide_eq_false h74)) (zm rfl (zp (zp (zo (op_pickF rfl rfl rfl) (zn ?_)))))
   refine zf rfl rfl (zk (zq (zq ?_)))
   refine Go1.cut [(0, .pointer (some ⟨bW, 0, none⟩)), (1, .int .i64 (-1 : Int)), (2, .string (gstr w_))] ⟨rfl, rfl, rfl, trivial⟩ ?_
   intro σ _
   refine zr (zm rfl (zo (op_lenS Try.underlying9 rfl) ?_))
   replace H := H m6
   refine zm rfl (zn (zb ?_))
   replace hO := hO.drop 11
   have Z8 := sK.ch.trans (Owns.dropCh _ _ 11)
   replace a8 := a8.ch Z8
   replace aU := aU.ch Z8
   have Z9 := (eY.ch.trans sK.ch).trans (Owns.dropCh _ _ 11)
   replace aT := aT.ch Z9
   replace a9 := a9.ch Z9
   replace aI := aI.ch Z9
   replace aX := aX.ch Z9
   replace bg := bg.ch Z9
   replace bh := bh.ch Z9
   replace a7 := a7.ch Z9
   have Z10 := ((gY.ch.trans eY.ch).trans sK.ch).trans (Owns.dropCh _ _ 11)
   replace aR := aR.ch Z10
   replace aK := aK.ch Z10
   replace aC := aC.ch Z10
   replace aS := aS.ch Z10
   replace aL := aL.ch Z10
   replace aM := aM.ch Z10
   replace hB := (((((hB.trans dI.fr).trans o5.fr).trans gY.fr).trans eY.fr).trans sK.fr).trans (Owns.dropFr _ _ 11)
   dsimp only [eS, eZ] at hB hO aR aK aC aS aL aM a8 aU aT a9 aI aX bg bh a7
   replace hO := hO.drop 11
   replace aR := aR.ch (Owns.dropCh _ _ 11)
   replace aK := aK.ch (Owns.dropCh _ _ 11)
   replace aC := aC.ch (Owns.dropCh _ _ 11)
   replace aS := aS.ch (Owns.dropCh _ _ 11)
   replace aL := aL.ch (Owns.dropCh _ _ 11)
   replace aM := aM.ch (Owns.dropCh _ _ 11)
   replace a8 := a8.ch (Owns.dropCh _ _ 11)
   replace aU := aU.ch (Owns.dropCh _ _ 11)
   replace aT := aT.ch (Owns.dropCh _ _ 11)
   replace a9 := a9.ch (Owns.dropCh _ _ 11)
   replace aI := aI.ch (Owns.dropCh _ _ 11)
   replace aX := aX.ch (Owns.dropCh _ _ 11)
   replace bg := bg.ch (Owns.dropCh _ _ 11)
   replace bh := bh.ch (Owns.dropCh _ _ 11)
   replace a7 := a7.ch (Owns.dropCh _ _ 11)
   replace hB := hB.trans (Owns.dropFr _ _ 11)
   dsimp only [eS, eZ] at hB hO aR aK aC aS aL aM a8 aU aT a9 aI aX bg bh a7
   refine Go1.loopW (S := Int × Nat) (fun s σ w => match s with | (i3_94, k3_95) => agrees σ [(0, .pointer (some ⟨bW, 0, none⟩)), (1, .int .i64 i3_94), (2, .string (gstr w_)), (15, .int .i64 (w_.length : Int)), (16, .int .i64 (k3_95 : Int))] ∧ (fun Z0 => Owns w0.heap.size w Z0 A ∧ Els (Rp.sl (Rp.int .i64)) (bl Z0 ++ A) w aV r14.Enum.Gens ∧ Els (Rp.sl (Rp.int .i64)) (bl Z0 ++ A) w aO r14.Enum.Elems ∧ Els (Rp.int .i64) (bl Z0 ++ A) w aN r14.Enum.Prefix ∧ Els (Rp.int .i64) (bl Z0 ++ A) w aW r14.Enum.Last ∧ Els (Rp.sl (Rp.int .i64)) (bl Z0 ++ A) w aP r14.Enum.Right ∧ Els (rpRule) (bl Z0 ++ A) w aQ r14.Enum.Rules ∧ Els (Rp.str) (bl Z0 ++ A) w bi r14.words ∧ Els (Rp.int .i64) (bl Z0 ++ A) w bc r14.behind ∧ Els (Rp.int .i64) (bl Z0 ++ A) w bf r14.single ∧ Fr (bl []) w0 (bl Z0) w) [.blk bW (.cells #[.int .i64 r14.Enum.Points, .bool r14.Enum.Monoid, .slice ao am ap, .slice ae ad af, .slice ab aa ac, .slice ar aq au, .slice ah ag ai, .slice ak aj al, .int .i64 r14.Enum.Done, .map (some av), .slice aF aE aG, .slice ax aw ay, .slice aA az aB] 72 (0, 0)), .row 26 1 ao am ap aV, .row 26 1 ae ad af aO, .row 3 1 ab aa ac aN, .row 3 1 ar aq au aW, .row 26 1 ah ag ai aP, .row 39 2 ak aj al aQ, .row 9 1 aF aE aG bi, .row 3 1 ax aw ay bc, .row 3 1 aA az aB bf, .any (mapE (fun a : List UInt8 => Value.string (gstr a)) (fun a : Int => Value.int .i64 a) av r14.number)]) H ⟨⟨rfl, rfl, rfl, rfl, rfl, trivial⟩, hO, a8, aU, aT, a9, aI, aX, bg, bh, a7, hB⟩ ?_
   intro X3
   refine prE fun i3_94 => fun k3_95 => ?_
   intro H hX3 σ w93
   refine andE fun hag => andE fun hO => andE fun a8 => andE fun aU => andE fun aT => andE fun a9 => andE fun aI => andE fun aX => andE fun bg => andE fun bh => andE fun a7 => fun hB => ?_
   dsimp only at H
   refine Go1.keep [(0, .pointer (some ⟨bW, 0, none⟩)), (1, .int .i64 i3_94), (2, .string (gstr w_)), (15, .int .i64 (w_.length : Int)), (16, .int .i64 (k3_95 : Int))] hag ?_
   refine zq (zr ?_)
   by_cases h96 : (k3_95 : Int) < (w_.length : Int)
   ·replace H := ifp h96 H
    refine zo (fun w => opB (op_lss rfl rfl w) (decide_eq_true h96)) (zn (zq (zt rfl rfl (zk (zq ?_)))))
    refine zb (zq (zr (zm rfl (za rfl (zn ?_)))))
    refine zr (zm rfl (zm rfl (zm rfl (zm rfl ?_))))
    obtain ⟨h97, H⟩ := H
    obtain ⟨h98, H⟩ := H
    refine zo (op_indexS Try.underlying9 rfl rfl h97 h98) (zo (op_sub rfl rfl rfl) (zo (op_conv Try.underlying5 Try.underlying3 rfl rfl) ?_))
    refine GoR.inl (vs := [.pointer (some ⟨bW, 0, none⟩), .int .i64 i3_94, .int .i64 (IntKind.i64.wrap (IntKind.u8.wrap (((ix w_ (k3_95 : Int)).toNat : Int) - (97 : Int))))]) (caps := []) rfl rfl body66 Try.func66 rfl Try.ntmps66 rfl rfl rfl ?_
    intro RhR99 hR99
    refine zq (zr (za rfl (zn (zq (zq ?_)))))
    refine zr (zm rfl ?_)
    by_cases yv : i3_94 = (-1 : Int)
    ·replace H := ifp yv H
     refine zo (fun w => opB (op_eql rfl rfl w) (decide_eq_true yv)) (zn (zt rfl rfl (zq (zr (zm rfl ?_)))))
     refine zo (op_nilCheck rfl) (zo (op_fieldAddr Try.underlying72 rfl ti26 rfl (by decide)) (zs (oblk (i := 12) 0 hO rfl rfl Try.underlying26 rfl rfl) (zm rfl ?_)))
     obtain ⟨t0, H⟩ := H
     obtain ⟨xD, H⟩ := H
     refine zo (op_index Try.underlying26 ti3 rfl rfl t0 (ltn (a7.neq hO 9 rfl) xD) (a7.psome hO 9 rfl t0 xD)) (zs (oldInt 9 hO rfl a7 t0 xD Try.underlying3 rfl rfl) (za rfl (zn ?_)))
     refine Go1.ret1V Try.func66 rfl (show _ = .int .i64 (ix r14.single (IntKind.i64.wrap (IntKind.u8.wrap (((ix w_ (k3_95 : Int)).toNat : Int) - (97 : Int))))) from rfl) ?_
     refine hR99 _ _ ?_
     refine za rfl (zn ?_)
     refine Go1.inBlock ?_
     refine Go1.cut [(0, .pointer (some ⟨bW, 0, none⟩)), (1, .int .i64 (ix r14.single (IntKind.i64.wrap (IntKind.u8.wrap (((ix w_ (k3_95 : Int)).toNat : Int) - (97 : Int)))))), (2, .string (gstr w_)), (15, .int .i64 (w_.length : Int)), (16, .int .i64 (k3_95 : Int))] ⟨rfl, rfl, rfl, rfl, rfl, trivial⟩ ?_
     intro σ _
     refine zr (zo (op_add rfl rfl (wrap_i64 (natbd h96 m6))) (zm rfl (zn ?_)))
     exact hX3 _ H _ _ ⟨⟨rfl, rfl, rfl, rfl, rfl, trivial⟩, hO, a8, aU, aT, a9, aI, aX, bg, bh, a7, hB⟩
    replace H := ifn yv H
    refine zo (fun w => opB (op_eql rfl rfl w) (decide_eq_false yv)) (zn (zf rfl rfl (zk (zq (zr ?_)))))
    refine zm rfl (zo (op_nilCheck rfl) (zo (op_fieldAddr Try.underlying72 rfl ti29 rfl (by decide)) (zo (op_fieldAddr Try.underlying29 rfl ti22 rfl (by decide)) (zs (oblk (i := 6) 0 hO rfl rfl Try.underlying22 rfl rfl) (zm rfl ?_)))))
    obtain ⟨AX, H⟩ := H
    obtain ⟨yw, H⟩ := H
    refine zo (op_index Try.underlying22 ti26 rfl rfl AX (ltn (aI.neq hO 5 rfl) yw) (aI.psome hO 5 rfl AX yw)) ?_
    have hobt := oldSl 5 hO rfl aI AX yw
    obtain ⟨ac1, ac2, KD, SR⟩ := hobt
    refine zs (SR Try.underlying26 rfl rfl) (zm rfl ?_)
    obtain ⟨zG, H⟩ := H
    obtain ⟨D4, H⟩ := H
    refine zo (op_index Try.underlying26 ti3 rfl rfl zG D4 (KD.some_ zG D4)) (zs (ldInt KD zG D4 Try.underlying3 rfl rfl) (za rfl (zn ?_)))
    refine Go1.ret1V Try.func66 rfl (show _ = .int .i64 (ix (ix r14.Enum.Right i3_94) (IntKind.i64.wrap (IntKind.u8.wrap (((ix w_ (k3_95 : Int)).toNat : Int) - (97 : Int))))) from rfl) ?_
    refine hR99 _ _ ?_
    refine za rfl (zn ?_)
    refine Go1.inBlock ?_
    refine zr (zo (op_add rfl rfl (wrap_i64 (natbd h96 m6))) (zm rfl (zn ?_)))
    exact hX3 _ H _ _ ⟨⟨rfl, rfl, rfl, rfl, rfl, trivial⟩, hO, a8, aU, aT, a9, aI, aX, bg, bh, a7, hB⟩
   replace H := ifn h96 H
   refine zo (fun w => opB (op_lss rfl rfl w) (decide_eq_false h96)) (zn (zq (zf rfl rfl ?_)))
   refine Go1.exit rfl ?_
   refine zq (zr (zm rfl (za rfl (zn ?_))))
   refine Go1.ret1V Try.func59 rfl (show _ = .int .i64 i3_94 from rfl) ?_
   refine hR73 _ _ ?_
   refine za rfl (zn ?_)
   refine Go1.ret1 Try.func30 rfl ?_
   exact ⟨i3_94, rfl, hB.same, H⟩
  replace H := ifn h44 H
  refine GoQ.pure rfl (fun w => opB (op_eql rfl rfl w) (decide_eq_false h44)) rfl rfl ?_
  refine GoQ.pure rfl (op_assign rfl) rfl rfl ?_
  refine GoQ.nil ?_
  refine Go1.ret1V Try.func50 rfl (show _ = .bool false from rfl) ?_
  refine hR40 _ _ ?_
  refine zo (op_pickT rfl rfl rfl) (za rfl (za rfl (zn ?_)))
  refine Go1.ret2V Try.func57 rfl (show _ = .pointer (some ⟨bW, 0, none⟩) from rfl) (show _ = .bool false from rfl) ?_
  refine hR7 _ _ ?_
  refine zm rfl (zo (op_extract rfl rfl) (zo (op_extract rfl rfl) (za rfl (za rfl (zn ?_)))))
  refine zq (zq ?_)
  refine Go1.cut [(1, .string (gstr w_)), (5, .pointer (some ⟨bW, 0, none⟩)), (6, .bool false)] ⟨rfl, rfl, rfl, trivial⟩ ?_
  intro σ _
  refine zr (zm rfl (zo (op_not rfl) (zm rfl (zp (zp ?_)))))
  refine zp (zp (zp (zp (zp (zp ?_)))))
  refine zp (zo (op_pickT rfl rfl rfl) (zm rfl (zp (zp (zp ?_)))))
  refine zp (zp (zp (zp (zp (zp ?_)))))
  refine zp (zo (op_pickT rfl rfl rfl) (zn (zt rfl rfl (zq ?_))))
  refine Go1.cut [] trivial ?_
  intro σ _
  refine zr (za rfl (zn ?_))
  refine Go1.ret1 Try.func30 rfl ?_
  replace hB := (((hB.trans dI.fr).trans o5.fr).trans gY.fr).trans eY.fr
  exact ⟨(-1 : Int), rfl, hB.same, H⟩
end Sg
