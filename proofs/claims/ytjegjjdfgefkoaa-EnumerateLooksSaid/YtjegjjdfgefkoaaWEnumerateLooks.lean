/- The walks: each call keeps to its plain transformer. Printed by walkgen.py. -/
import Derived.Test.YtjegjjdfgefkoaaTi
import Derived.Test.YtjegjjdfgefkoaaWEnumerateActs
import Derived.Test.YtjegjjdfgefkoaaWEnumerateBuilds
import Derived.Test.YtjegjjdfgefkoaaWEnumerateBuildsc
import Derived.Test.YtjegjjdfgefkoaaWEnumerateBuildsd
import Derived.Test.YtjegjjdfgefkoaaWEnumerateCovers
import Derived.Test.YtjegjjdfgefkoaaWEnumerateRefuses
import Derived.Test.YtjegjjdfgefkoaaWEnumerateRules
import Derived.Test.YtjegjjdfgefkoaaAl
namespace Sg
open Go Go.RowKit Go.Proofs
set_option linter.unusedVariables false
set_option linter.unusedSimpArgs false
set_option maxRecDepth 100000
set_option maxHeartbeats 4000000
theorem body39 : Body Try.prog 39 := ⟨Try.f39, Try.func39, rfl, by kernel_rfl⟩
theorem walk_law12_within {A : List Nat} {w0 : World} {i : Int} {n : Int} (hA : ∀ b ∈ A, b < w0.heap.size) {K : Bool → Prop} (H : law12_within i n K) :
    CallsV Try.prog 39 #[.int .i64 i, .int .i64 n] w0 (fun v w' => ∃ (r0 : Bool), v = .bool r0 ∧ Same w0 w' ∧ K r0) := by
 refine CallsV.of (l := [.int .i64 i, .int .i64 n]) Try.func39 rfl Try.ntmps39 rfl ?_
 have hO := Owns.start hA
 have hB := Fr.refl (bl []) w0
 unfold law12_within at H
 refine zq (zr (za rfl (zn (zq (zr ?_)))))
 refine zm rfl ?_
 by_cases h1 : (0 : Int) ≤ i
 ·replace H := ifp h1 H
  refine zo (fun w => opB (op_geq rfl rfl w) (decide_eq_true h1)) (zm rfl (zm rfl (zm rfl ?_)))
  by_cases h2 : i < n
  ·replace H := ifp h2 H
   refine zo (fun w => opB (op_lss rfl rfl w) (decide_eq_true h2)) (zo (op_pickT rfl rfl rfl) (za rfl (zn ?_)))
   refine Go1.ret1 Try.func39 rfl ?_
   exact ⟨true, rfl, hB.same, H⟩
  replace H := ifn h2 H
  refine zo (fun w => opB (op_lss rfl rfl w) (decide_eq_false h2)) (zo (op_pickT rfl rfl rfl) (za rfl (zn ?_)))
  refine Go1.ret1 Try.func39 rfl ?_
  exact ⟨false, rfl, hB.same, H⟩
 replace H := ifn h1 H
 refine zo (fun w => opB (op_geq rfl rfl w) (decide_eq_false h1)) (zm rfl (zp (zp (zp (zo (op_pickF rfl rfl rfl) ?_)))))
 refine za rfl (zn ?_)
 refine Go1.ret1 Try.func39 rfl ?_
 exact ⟨false, rfl, hB.same, H⟩
theorem body63 : Body Try.prog 63 := ⟨Try.f63, Try.func63, rfl, by kernel_rfl⟩
theorem walk_ref11_OfWord {A : List Nat} {w0 : World} {kz : Option Addr} {kA : Nat} {gens : List (List Int)} {w_ : Str} (hA : ∀ b ∈ A, b < w0.heap.size) (fC : ISl (Rp.sl (Rp.int .i64)) A w0 kz kA gens) (m6 : w_.length ≤ mx) {K : List Int → Prop} (H : ref11_OfWord gens w_ K) :
    CallsV Try.prog 63 #[.slice kz gens.length kA, .string (gstr w_)] w0 (fun v w' => ∃ (r0 : List Int), ∃ (sL : Option Addr), ∃ (sM : Nat), v = .slice sL r0.length sM ∧ Same w0 w' ∧ ISl (Rp.int .i64) A w' sL sM r0 ∧ K r0) := by
 refine CallsV.of (l := [.slice kz gens.length kA, .string (gstr w_)]) Try.func63 rfl Try.ntmps63 rfl ?_
 have hO := Owns.start hA
 have hB := Fr.refl (bl []) w0
 unfold ref11_OfWord at H
 refine zq (zr (za rfl (zn (zq (zq ?_)))))
 refine zr (zm rfl (zm rfl (zo (op_len Try.underlying22 rfl) ?_)))
 replace fC := fC.ch (Ch.start A w0)
 replace H := H fC.bd
 refine GoR.call (op_call body27 rfl (walk_ref01_Valid hO.lt m6 H)) rfl rfl ?_
 rintro v5 w2 ⟨r1, rfl, hs3, H⟩
 have vc := Stp.same hO hs3
 replace hO := vc.own
 cases r1
 ·replace H := ifn Bool.false_ne_true H
  refine zo (op_not rfl) (zn (zt rfl rfl (zq (zr (za rfl ?_)))))
  refine zn ?_
  refine Go1.ret1 Try.func63 rfl ?_
  replace hB := hB.trans vc.fr
  exact ⟨([] : List Int), none, 0, rfl, hB.same, (ISl.null _ _ _), H⟩
 replace H := ifp rfl H
 refine zo (op_not rfl) (zn (zf rfl rfl (zk (zq (zr ?_)))))
 refine zm rfl ?_
 obtain ⟨h7, H⟩ := H
 obtain ⟨h8, H⟩ := H
 replace fC := fC.ch vc.ch
 refine zo (op_index Try.underlying22 ti26 rfl rfl h7 h8 (fC.some_ h7 h8)) ?_
 have hobt := ldSl fC h7 h8
 obtain ⟨p9, c10, JO, WC⟩ := hobt
 refine zs (WC Try.underlying26 rfl rfl) (zo (op_len Try.underlying26 rfl) ?_)
 replace H := H JO.bd
 refine GoR.call (op_call body54 rfl (walk_ref03_Discrete hO.lt H)) rfl rfl ?_
 rintro v17 w14 ⟨r13, SS, ST, rfl, JP, SU, H⟩
 have lC := Stp.same hO JP
 replace hO := lC.own
 refine za rfl (zn (zq (zq (zr (za rfl ?_)))))
 refine zn (zb ?_)
 replace fC := fC.ch lC.ch
 replace hB := (hB.trans vc.fr).trans lC.fr
 refine Go1.loopW (S := List Int × Nat) (fun s σ w => match s with | (out1_20, i1_24) => ∃ (p21 : Option Addr), ∃ (c22 : Nat), agrees σ [(0, .slice kz gens.length kA), (1, .string (gstr w_)), (5, .slice p21 out1_20.length c22), (6, .int .i64 (i1_24 : Int))] ∧ Owns w0.heap.size w [] A ∧ ISl (Rp.sl (Rp.int .i64)) (bl [] ++ A) w kz kA gens ∧ ISl (Rp.int .i64) (bl [] ++ A) w p21 c22 out1_20 ∧ Fr (bl []) w0 (bl []) w) H ⟨SS, ST, ⟨rfl, rfl, rfl, rfl, trivial⟩, hO, fC, SU, hB⟩ ?_
 intro X1
 refine prE fun out1_20 => fun i1_24 => ?_
 intro H hX1 σ w19
 refine exE fun p21 => exE fun c22 => andE fun hag => andE fun hO => andE fun fC => andE fun HR => fun hB => ?_
 dsimp only at H
 refine Go1.keep [(0, .slice kz gens.length kA), (1, .string (gstr w_)), (5, .slice p21 out1_20.length c22), (6, .int .i64 (i1_24 : Int))] hag ?_
 refine zq (zq (zr (zm rfl (zm rfl (zo (op_lenS Try.underlying9 rfl) ?_)))))
 replace H := H m6
 by_cases h25 : (i1_24 : Int) < (w_.length : Int)
 ·replace H := ifp h25 H
  refine zo (fun w => opB (op_lss rfl rfl w) (decide_eq_true h25)) (zn (zt rfl rfl (zk (zq (zb ?_)))))
  refine zr (zm rfl (zm rfl (zm rfl (zm rfl ?_))))
  obtain ⟨h26, H⟩ := H
  obtain ⟨h27, H⟩ := H
  refine zo (op_indexS Try.underlying9 rfl rfl h26 h27) (zo (op_sub rfl rfl rfl) (zo (op_conv Try.underlying5 Try.underlying3 rfl rfl) ?_))
  obtain ⟨h28, H⟩ := H
  obtain ⟨h29, H⟩ := H
  refine zo (op_index Try.underlying22 ti26 rfl rfl h28 h29 (fC.some_ h28 h29)) ?_
  have hobt := ldSl fC h28 h29
  obtain ⟨p30, c31, JQ, WD⟩ := hobt
  refine zs (WD Try.underlying26 rfl rfl) ?_
  refine GoR.call (op_call body43 rfl (walk_ref11_Compose hO.lt HR JQ H)) rfl rfl ?_
  rintro v38 w35 ⟨r34, SV, SW, rfl, WE, SX, H⟩
  have yH := Stp.same hO WE
  replace hO := yH.own
  refine za rfl (zn ?_)
  refine Go1.inBlock ?_
  refine zr (zm rfl (zo (op_add rfl rfl (wrap_i64 (natbd h25 m6))) (za rfl (zn ?_))))
  replace fC := fC.ch yH.ch
  replace hB := hB.trans yH.fr
  exact hX1 _ H _ _ ⟨SV, SW, ⟨rfl, rfl, rfl, rfl, trivial⟩, hO, fC, SX, hB⟩
 replace H := ifn h25 H
 refine zo (fun w => opB (op_lss rfl rfl w) (decide_eq_false h25)) (zn (zf rfl rfl ?_))
 refine Go1.exit rfl ?_
 refine zq (zr (zm rfl (za rfl (zn ?_))))
 refine Go1.ret1 Try.func63 rfl ?_
 exact ⟨out1_20, p21, c22, rfl, hB.same, (HR.ch (Ch.weak _ _ _)), H⟩
theorem body42 : Body Try.prog 42 := ⟨Try.f42, Try.func42, rfl, by kernel_rfl⟩
theorem walk_ref12_OfWord {A : List Nat} {w0 : World} {cd : Option Addr} {ce : Nat} {bG : Option Addr} {bH : Nat} {bq : Option Addr} {bt : Nat} {b7 : Option Addr} {b8 : Nat} {bI : Option Addr} {bK : Nat} {bM : Option Addr} {bN : Nat} {e : Enum} {w_ : Str} (hA : ∀ b ∈ A, b < w0.heap.size) (aR : ISl (Rp.sl (Rp.int .i64)) A w0 cd ce e.Gens) (aK : ISl (Rp.sl (Rp.int .i64)) A w0 bG bH e.Elems) (aC : ISl (Rp.int .i64) A w0 bq bt e.Prefix) (aS : ISl (Rp.int .i64) A w0 b7 b8 e.Last) (aL : ISl (Rp.sl (Rp.int .i64)) A w0 bI bK e.Right) (aM : ISl (rpRule) A w0 bM bN e.Rules) (m6 : w_.length ≤ mx) {K : Int → Prop} (H : ref12_OfWord e w_ K) :
    CallsV Try.prog 42 #[.agg #[.int .i64 e.Points, .bool e.Monoid, .slice cd e.Gens.length ce, .slice bG e.Elems.length bH, .slice bq e.Prefix.length bt, .slice b7 e.Last.length b8, .slice bI e.Right.length bK, .slice bM e.Rules.length bN, .int .i64 e.Done], .string (gstr w_)] w0 (fun v w' => ∃ (r0 : Int), v = .int .i64 r0 ∧ Same w0 w' ∧ K r0) := by
 refine CallsV.of (l := [.agg #[.int .i64 e.Points, .bool e.Monoid, .slice cd e.Gens.length ce, .slice bG e.Elems.length bH, .slice bq e.Prefix.length bt, .slice b7 e.Last.length b8, .slice bI e.Right.length bK, .slice bM e.Rules.length bN, .int .i64 e.Done], .string (gstr w_)]) Try.func42 rfl Try.ntmps42 rfl ?_
 have hO := Owns.start hA
 have hB := Fr.refl (bl []) w0
 unfold ref12_OfWord at H
 refine zq (zr ?_)
 have hobt := obox (t := 29) (v := .agg #[.int .i64 e.Points, .bool e.Monoid, .slice cd e.Gens.length ce, .slice bG e.Elems.length bH, .slice bq e.Prefix.length bt, .slice b7 e.Last.length b8, .slice bI e.Right.length bK, .slice bM e.Rules.length bN, .int .i64 e.Done]) (cs := #[.int .i64 e.Points, .bool e.Monoid, .slice cd e.Gens.length ce, .slice bG e.Elems.length bH, .slice bq e.Prefix.length bt, .slice b7 e.Last.length b8, .slice bI e.Right.length bK, .slice bM e.Rules.length bN, .int .i64 e.Done]) hO rfl
 obtain ⟨w1, B2, dI, hs4, qb⟩ := hobt
 refine zg (qb rfl) ?_
 replace hO := dI.own
 refine za rfl (zn (zq (zq (zr (zm rfl ?_)))))
 refine zo (op_fieldAddr Try.underlying29 rfl ti22 rfl (by decide)) (zs (oblk (i := 2) 0 hO rfl rfl Try.underlying22 rfl rfl) (zo (op_len Try.underlying22 rfl) ?_))
 replace aR := (aR.ch (Ch.start A w0)).ch dI.ch
 replace H := H aR.bd
 refine GoR.call (op_call body27 rfl (walk_ref01_Valid hO.lt m6 H)) rfl rfl ?_
 rintro v11 w8 ⟨r7, rfl, hs9, H⟩
 have wu := Stp.same hO hs9
 replace hO := wu.own
 cases r7
 ·replace H := ifn Bool.false_ne_true H
  refine zo (op_not rfl) (zm rfl (zp (zp (zp (zp ?_)))))
  refine zp (zp (zp (zo (op_pickT rfl rfl rfl) (zn (zt rfl rfl ?_)))))
  refine zq (zr (za rfl (zn ?_)))
  refine Go1.ret1 Try.func42 rfl ?_
  replace hB := (hB.trans dI.fr).trans wu.fr
  exact ⟨(-1 : Int), rfl, hB.same, H⟩
 replace H := ifp rfl H
 refine zo (op_not rfl) (zm rfl (zm rfl ?_))
 by_cases h13 : w_ = (([] : Str))
 ·replace H := ifp h13 H
  refine zo (fun w => opB (op_eqlS rfl rfl w) (decide_eq_true h13)) (zm rfl (zo (op_fieldAddr Try.underlying29 rfl ti4 rfl (by decide)) ?_))
  by_cases h14 : e.Monoid = true
  ·replace H := ifp h14 H
   refine zg (opB ((oblk (i := 1) 0 hO rfl rfl Try.underlying4 rfl rfl) _ (Same.refl _)) (h14)) (zo (op_not rfl) (zo (op_pickT rfl rfl rfl) (zo (op_pickF rfl rfl rfl) (zn (zf rfl rfl ?_)))))
   refine zk (zq ?_)
   refine Go1.cut [(1, .string (gstr w_)), (2, .pointer (some ⟨B2, 0, none⟩))] ⟨rfl, rfl, trivial⟩ ?_
   intro σ _
   refine Go1.drawS 0 [(0, .pure), (1, .stable), (2, .pure), (3, .stable), (4, .pure), (5, .loud), (6, .loud), (7, .pure)] mixed (by kernel_rfl) ?_
   intro w15 JR
   have lB := Stp.same hO JR
   replace hO := lB.own
   refine GoQ.pure rfl (op_fieldAddr Try.underlying29 rfl ti22 rfl (by decide)) rfl rfl ?_
   refine GoQ.stable rfl (oblk (i := 3) 0 hO rfl rfl Try.underlying22 rfl rfl) rfl rfl ?_
   refine GoQ.pure rfl (op_fieldAddr Try.underlying29 rfl ti22 rfl (by decide)) rfl rfl ?_
   refine GoQ.stable rfl (oblk (i := 2) 0 hO rfl rfl Try.underlying22 rfl rfl) rfl rfl ?_
   refine GoQ.pure rfl (op_move rfl) rfl rfl ?_
   replace aR := (aR.ch wu.ch).ch lB.ch
   refine GoQ.call rfl (op_call body63 rfl (walk_ref11_OfWord hO.lt aR m6 H)) (fun v w hr => by obtain ⟨_, _, _, _, hs, _, _⟩ := hr; assumption) rfl rfl ?_
   rintro v22 w19 ⟨r18, XT, XU, rfl, Hk, HS, H⟩
   have mX := Stp.same hO Hk
   replace hO := mX.own
   have Z1 := ((((Ch.start A w0).trans dI.ch).trans wu.ch).trans lB.ch).trans mX.ch
   replace aK := aK.ch Z1
   refine GoQ.call rfl (op_call body41 rfl (walk_ref12_Find hO.lt aK HS H)) (fun v w hr => by obtain ⟨_, _, hs, _⟩ := hr; assumption) rfl rfl ?_
   rintro v28 w25 ⟨r24, rfl, WF, H⟩
   have vA := Stp.same hO WF
   replace hO := vA.own
   refine GoQ.pure rfl (op_assign rfl) rfl rfl ?_
   refine GoQ.nil ?_
   refine Go1.ret1 Try.func42 rfl ?_
   replace hB := ((((hB.trans dI.fr).trans wu.fr).trans lB.fr).trans mX.fr).trans vA.fr
   exact ⟨r24, rfl, hB.same, H⟩
  replace H := ifn h14 H
  refine zg (opB ((oblk (i := 1) 0 hO rfl rfl Try.underlying4 rfl rfl) _ (Same.refl _)) (Bool.eq_false_iff.2 h14)) (zo (op_not rfl) (zo (op_pickT rfl rfl rfl) (zo (op_pickF rfl rfl rfl) (zn (zt rfl rfl ?_)))))
  refine zq (zr (za rfl (zn ?_)))
  refine Go1.ret1 Try.func42 rfl ?_
  replace hB := (hB.trans dI.fr).trans wu.fr
  exact ⟨(-1 : Int), rfl, hB.same, H⟩
 replace H := ifn h13 H
 refine zo (fun w => opB (op_eqlS rfl rfl w) (decide_eq_false h13)) (zm rfl (zp (zp (zp (zo (op_pickF rfl rfl rfl) ?_)))))
 refine zo (op_pickF rfl rfl rfl) (zn (zf rfl rfl (zk (zq ?_))))
 refine Go1.drawS 0 [(0, .pure), (1, .stable), (2, .pure), (3, .stable), (4, .pure), (5, .loud), (6, .loud), (7, .pure)] mixed (by kernel_rfl) ?_
 intro w30 JL
 have ob := Stp.same hO JL
 replace hO := ob.own
 refine GoQ.pure rfl (op_fieldAddr Try.underlying29 rfl ti22 rfl (by decide)) rfl rfl ?_
 refine GoQ.stable rfl (oblk (i := 3) 0 hO rfl rfl Try.underlying22 rfl rfl) rfl rfl ?_
 refine GoQ.pure rfl (op_fieldAddr Try.underlying29 rfl ti22 rfl (by decide)) rfl rfl ?_
 refine GoQ.stable rfl (oblk (i := 2) 0 hO rfl rfl Try.underlying22 rfl rfl) rfl rfl ?_
 refine GoQ.pure rfl (op_move rfl) rfl rfl ?_
 replace aR := (aR.ch wu.ch).ch ob.ch
 refine GoQ.call rfl (op_call body63 rfl (walk_ref11_OfWord hO.lt aR m6 H)) (fun v w hr => by obtain ⟨_, _, _, _, hs, _, _⟩ := hr; assumption) rfl rfl ?_
 rintro v37 w34 ⟨r33, XV, XW, rfl, WG, HT, H⟩
 have gl := Stp.same hO WG
 replace hO := gl.own
 have Z2 := ((((Ch.start A w0).trans dI.ch).trans wu.ch).trans ob.ch).trans gl.ch
 replace aK := aK.ch Z2
 refine GoQ.call rfl (op_call body41 rfl (walk_ref12_Find hO.lt aK HT H)) (fun v w hr => by obtain ⟨_, _, hs, _⟩ := hr; assumption) rfl rfl ?_
 rintro v43 w40 ⟨r39, rfl, Hq, H⟩
 have qS := Stp.same hO Hq
 replace hO := qS.own
 refine GoQ.pure rfl (op_assign rfl) rfl rfl ?_
 refine GoQ.nil ?_
 refine Go1.ret1 Try.func42 rfl ?_
 replace hB := ((((hB.trans dI.fr).trans wu.fr).trans ob.fr).trans gl.fr).trans qS.fr
 exact ⟨r39, rfl, hB.same, H⟩
theorem walk_law12_EnumerateLooks {A : List Nat} {w0 : World} {nr : Option Addr} {ns : Nat} {Gc : Option Addr} {Gd : Nat} {a0 : List (List Int)} {a1 : Bool} {a2 : Int} {a3 : Int} {a4 : Int} {a5 : Str} {a6 : List Int} (hA : ∀ b ∈ A, b < w0.heap.size) (ba : ISl (Rp.sl (Rp.int .i64)) A w0 nr ns a0) (yV : a5.length ≤ mx) (dP : ISl (Rp.int .i64) A w0 Gc Gd a6) {K : Bool → Prop} (H : law12_EnumerateLooks a0 a1 a2 a3 a4 a5 a6 K) :
    CallsV Try.prog 11 #[.slice nr a0.length ns, .bool a1, .int .u8 a2, .int .i64 a3, .int .i64 a4, .string (gstr a5), .slice Gc a6.length Gd] w0 (fun v w' => ∃ (r0 : Bool), v = .bool r0 ∧ Same w0 w' ∧ K r0) := by
 refine CallsV.of (l := [.slice nr a0.length ns, .bool a1, .int .u8 a2, .int .i64 a3, .int .i64 a4, .string (gstr a5), .slice Gc a6.length Gd]) Try.func11 rfl Try.ntmps11 rfl ?_
 have hO := Owns.start hA
 have hB := Fr.refl (bl []) w0
 unfold law12_EnumerateLooks at H
 refine zq (zr (za rfl (zn (zq (zq ?_)))))
 refine zr (zm rfl ?_)
 replace ba := ba.ch (Ch.start A w0)
 refine GoR.call (op_call body15 rfl (walk_law12_little hO.lt ba H)) rfl rfl ?_
 rintro v5 w2 ⟨r1, rfl, hs3, H⟩
 have vc := Stp.same hO hs3
 replace hO := vc.own
 cases r1
 ·replace H := ifn Bool.false_ne_true H
  refine zo (op_not rfl) (zn (zt rfl rfl (zq (zr ?_))))
  refine GoR.call (op_call body16 rfl (walk_law12_awake hO.lt H)) rfl rfl ?_
  rintro v11 w8 ⟨r7, rfl, hs9, H⟩
  have wu := Stp.same hO hs9
  replace hO := wu.own
  refine za rfl (zn ?_)
  refine Go1.ret1 Try.func11 rfl ?_
  replace hB := (hB.trans vc.fr).trans wu.fr
  exact ⟨r7, rfl, hB.same, H⟩
 replace H := ifp rfl H
 refine zo (op_not rfl) (zn (zf rfl rfl (zk (zq (zr ?_)))))
 refine zm rfl (zm rfl ?_)
 replace ba := ba.ch vc.ch
 refine GoR.call (op_call body22 rfl (walk_ref12_Start hO.lt ba H)) rfl rfl ?_
 rintro v18 w15 ⟨r13, r14, Cw, Cx, Bh, Bi, Al, Am, Cy, Cz, Bj, Bk, Bl, Bm, rfl, JR, bT, bz, bp, bU, bA, bB, H⟩
 have m5 := Stp.same hO JR
 replace hO := m5.own
 refine zm rfl (zo (op_extract rfl rfl) (zo (op_extract rfl rfl) ?_))
 have hobt := oalloc (t := 29) (cs := #[.int .i64 (0 : Int), .bool false, .slice none 0 0, .slice none 0 0, .slice none 0 0, .slice none 0 0, .slice none 0 0, .slice none 0 0, .int .i64 (0 : Int)]) ti29 hO rfl
 obtain ⟨w20, B21, eK, Ob, Hl⟩ := hobt
 refine GoR.op Hl rfl rfl ?_
 replace hO := eK.own
 have hobt := oblkStAgg (us := [.int .i64 r13.Points, .bool r13.Monoid, .slice Cw r13.Gens.length Cx, .slice Bh r13.Elems.length Bi, .slice Al r13.Prefix.length Am, .slice Cy r13.Last.length Cz, .slice Bj r13.Right.length Bk, .slice Bl r13.Rules.length Bm, .int .i64 r13.Done]) (o := 0) (cs' := #[.int .i64 r13.Points, .bool r13.Monoid, .slice Cw r13.Gens.length Cx, .slice Bh r13.Elems.length Bi, .slice Al r13.Prefix.length Am, .slice Cy r13.Last.length Cz, .slice Bj r13.Right.length Bk, .slice Bl r13.Rules.length Bm, .int .i64 r13.Done]) 0 hO rfl rfl (Nat.le_of_ble_eq_true rfl) rfl
 obtain ⟨w26, yW, SY⟩ := hobt
 refine zg (SY ti29 (by exact rfl) (by exact rfl) rfl) ?_
 replace hO := yW.own
 refine za rfl (zn (zq (zq (zr (zm rfl ?_)))))
 by_cases h29 : r14 = (0 : Int)
 ·replace H := ifp h29 H
  refine zo (fun w => opB (op_neq rfl rfl w) (ndT h29)) (zn (zf rfl rfl (zk (zq ?_))))
  refine Go1.cut [(2, .int .u8 a2), (3, .int .i64 a3), (4, .int .i64 a4), (5, .string (gstr a5)), (6, .slice Gc a6.length Gd), (15, .pointer (some ⟨B21, 0, none⟩))] ⟨rfl, rfl, rfl, rfl, rfl, rfl, trivial⟩ ?_
  intro σ _
  refine zr (zs (oblkAgg (vs := [.int .i64 r13.Points, .bool r13.Monoid, .slice Cw r13.Gens.length Cx, .slice Bh r13.Elems.length Bi, .slice Al r13.Prefix.length Am, .slice Cy r13.Last.length Cz, .slice Bj r13.Right.length Bk, .slice Bl r13.Rules.length Bm, .int .i64 r13.Done]) (i := 0) 0 hO rfl rfl Try.underlying29 rfl ti29 rfl) (zm rfl (zo (op_conv Try.underlying5 Try.underlying3 rfl rfl) ?_)))
  have Z1 := eK.ch.trans yW.ch
  replace bT := bT.ch Z1
  replace bz := bz.ch Z1
  replace bp := bp.ch Z1
  replace bU := bU.ch Z1
  replace bA := bA.ch Z1
  replace bB := bB.ch Z1
  refine GoR.call (op_call body23 rfl (walk_ref12_Step (e := r13) hO.lt bT bz bp bU bA bB H)) rfl rfl ?_
  rintro v35 w32 ⟨r30, r31, gv, gw, fP, fQ, fJ, fK, gx, gy, fR, fS, fT, fU, rfl, WH, bu, bj, bk, bv, bm, bn, H⟩
  have yX := Stp.same hO WH
  replace hO := yX.own
  refine zm rfl (zo (op_extract rfl rfl) (zo (op_extract rfl rfl) ?_))
  have hobt := oblkStAgg (us := [.int .i64 r30.Points, .bool r30.Monoid, .slice gv r30.Gens.length gw, .slice fP r30.Elems.length fQ, .slice fJ r30.Prefix.length fK, .slice gx r30.Last.length gy, .slice fR r30.Right.length fS, .slice fT r30.Rules.length fU, .int .i64 r30.Done]) (o := 0) (cs' := #[.int .i64 r30.Points, .bool r30.Monoid, .slice gv r30.Gens.length gw, .slice fP r30.Elems.length fQ, .slice fJ r30.Prefix.length fK, .slice gx r30.Last.length gy, .slice fR r30.Right.length fS, .slice fT r30.Rules.length fU, .int .i64 r30.Done]) 0 hO rfl rfl (Nat.le_of_ble_eq_true rfl) rfl
  obtain ⟨w37, gl, S0⟩ := hobt
  refine zg (S0 ti29 (by exact rfl) (by exact rfl) rfl) ?_
  replace hO := gl.own
  refine za rfl (zn (zq (zq (zr (zm rfl ?_)))))
  by_cases h40 : r31 = (0 : Int)
  ·replace H := ifp h40 H
   refine zo (fun w => opB (op_neq rfl rfl w) (ndT h40)) (zn (zf rfl rfl (zk (zq (zr ?_)))))
   refine zo (op_fieldAddr Try.underlying29 rfl ti22 rfl (by decide)) (zs (oblk (i := 3) 0 hO rfl rfl Try.underlying22 rfl rfl) (zo (op_len Try.underlying22 rfl) ?_))
   replace bj := bj.ch gl.ch
   replace H := H bj.bd
   refine za rfl (zn (zq (zr (za rfl (zn ?_)))))
   refine zq (zq (zr (zm rfl (zm rfl ?_))))
   refine GoR.call (op_call body39 rfl (walk_law12_within hO.lt H)) rfl rfl ?_
   rintro v45 w42 ⟨r41, rfl, JM, H⟩
   have gD := Stp.same hO JM
   replace hO := gD.own
   refine zn ?_
   cases r41
   ·replace H := ifn Bool.false_ne_true H
    refine zf rfl rfl (zk (zq (zq ?_)))
    refine Go1.cut [(3, .int .i64 a3), (4, .int .i64 a4), (5, .string (gstr a5)), (6, .slice Gc a6.length Gd), (15, .pointer (some ⟨B21, 0, none⟩)), (17, .int .i64 (r30.Elems.length : Int)), (18, .string (gstr (([] : Str))))] ⟨rfl, rfl, rfl, rfl, rfl, rfl, rfl, trivial⟩ ?_
    intro σ _
    refine Go1.drawS 0 [(0, .stable), (1, .pure), (3, .pure), (2, .loud), (4, .pure), (5, .pure), (6, .stable), (7, .pure), (9, .pure), (10, .stable), (11, .pure), (8, .loud), (12, .loud), (13, .pure), (14, .pure)] mixed (by kernel_rfl) ?_
    intro w47 IC
    have th := Stp.same hO IC
    replace hO := th.own
    refine GoQ.stable rfl (oblkAgg (vs := [.int .i64 r30.Points, .bool r30.Monoid, .slice gv r30.Gens.length gw, .slice fP r30.Elems.length fQ, .slice fJ r30.Prefix.length fK, .slice gx r30.Last.length gy, .slice fR r30.Right.length fS, .slice fT r30.Rules.length fU, .int .i64 r30.Done]) (i := 0) 0 hO rfl rfl Try.underlying29 rfl ti29 rfl) rfl rfl ?_
    refine GoQ.pure rfl (op_move rfl) rfl rfl ?_
    refine GoQ.pure rfl (op_move rfl) rfl rfl ?_
    replace bj := (bj.ch gD.ch).ch th.ch
    have Z2 := (gl.ch.trans gD.ch).trans th.ch
    replace bu := bu.ch Z2
    replace bk := bk.ch Z2
    replace bv := bv.ch Z2
    replace bm := bm.ch Z2
    replace bn := bn.ch Z2
    refine GoQ.call rfl (op_call body29 rfl (walk_enumerate_Word (e := r30) hO.lt bu bj bk bv bm bn H)) (fun v w hr => by obtain ⟨_, _, hs, _, _⟩ := hr; assumption) rfl rfl ?_
    rintro v54 w51 ⟨r50, rfl, F6, MO, H⟩
    have k8 := Stp.same hO F6
    replace hO := k8.own
    by_cases h56 : r50 = (([] : Str))
    ·replace H := ifp h56 H
     refine GoQ.pure rfl (fun w => opB (op_neqS rfl rfl w) (ndT h56)) rfl rfl ?_
     refine GoQ.pure rfl (op_move rfl) rfl rfl ?_
     refine GoQ.stable rfl (oblkAgg (vs := [.int .i64 r30.Points, .bool r30.Monoid, .slice gv r30.Gens.length gw, .slice fP r30.Elems.length fQ, .slice fJ r30.Prefix.length fK, .slice gx r30.Last.length gy, .slice fR r30.Right.length fS, .slice fT r30.Rules.length fU, .int .i64 r30.Done]) (i := 0) 0 hO rfl rfl Try.underlying29 rfl ti29 rfl) rfl rfl ?_
     refine GoQ.pure rfl (op_move rfl) rfl rfl ?_
     refine GoQ.pure rfl (op_fieldAddr Try.underlying29 rfl ti22 rfl (by decide)) rfl rfl ?_
     refine GoQ.stable rfl (oblk (i := 3) 0 hO rfl rfl Try.underlying22 rfl rfl) rfl rfl ?_
     refine GoQ.pure rfl (op_move rfl) rfl rfl ?_
     replace bu := bu.ch k8.ch
     replace bj := bj.ch k8.ch
     replace bk := bk.ch k8.ch
     replace bv := bv.ch k8.ch
     replace bm := bm.ch k8.ch
     replace bn := bn.ch k8.ch
     have Z3 := (((((((((Ch.start A w0).trans vc.ch).trans m5.ch).trans eK.ch).trans yW.ch).trans yX.ch).trans gl.ch).trans gD.ch).trans th.ch).trans k8.ch
     replace dP := dP.ch Z3
     refine GoQ.call rfl (op_call body32 rfl (walk_enumerate_Find (e := r30) hO.lt bu bj bk bv bm bn dP H)) (fun v w hr => by obtain ⟨_, _, hs, _⟩ := hr; assumption) rfl rfl ?_
     rintro v61 w58 ⟨r57, rfl, WI, H⟩
     have iX := Stp.same hO WI
     replace hO := iX.own
     replace dP := dP.ch iX.ch
     replace bj := bj.ch iX.ch
     refine GoQ.call rfl (op_call body41 rfl (walk_ref12_Find hO.lt bj dP H)) (fun v w hr => by obtain ⟨_, _, hs, _⟩ := hr; assumption) rfl rfl ?_
     rintro v67 w64 ⟨r63, rfl, JN, H⟩
     have g0 := Stp.same hO JN
     replace hO := g0.own
     by_cases h69 : r57 = r63
     ·replace H := ifp h69 H
      refine GoQ.pure rfl (fun w => opB (op_neq rfl rfl w) (ndT h69)) rfl rfl ?_
      refine GoQ.pure rfl (op_pickF rfl rfl rfl) rfl rfl ?_
      refine GoQ.nil ?_
      refine zf rfl rfl (zk (zq (zr (za rfl (za rfl ?_)))))
      refine zn (zq (zq (zr (zo (op_fieldAddr Try.underlying29 rfl ti3 rfl (by decide)) (zs (oblk (i := 8) 0 hO rfl rfl Try.underlying3 rfl rfl) ?_)))))
      refine zm rfl ?_
      by_cases h70 : r30.Done = (r30.Elems.length : Int)
      ·replace H := ifp h70 H
       refine zo (fun w => opB (op_eql rfl rfl w) (decide_eq_true h70)) (zn (zt rfl rfl (zq ?_)))
       refine Go1.cut [(3, .int .i64 a3), (4, .int .i64 a4), (5, .string (gstr a5)), (15, .pointer (some ⟨B21, 0, none⟩)), (17, .int .i64 (r30.Elems.length : Int)), (20, .int .i64 (-1 : Int))] ⟨rfl, rfl, rfl, rfl, rfl, rfl, trivial⟩ ?_
       intro σ _
       refine zr (zs (oblkAgg (vs := [.int .i64 r30.Points, .bool r30.Monoid, .slice gv r30.Gens.length gw, .slice fP r30.Elems.length fQ, .slice fJ r30.Prefix.length fK, .slice gx r30.Last.length gy, .slice fR r30.Right.length fS, .slice fT r30.Rules.length fU, .int .i64 r30.Done]) (i := 0) 0 hO rfl rfl Try.underlying29 rfl ti29 rfl) (zm rfl ?_))
       replace bj := bj.ch g0.ch
       have Z4 := iX.ch.trans g0.ch
       replace bu := bu.ch Z4
       replace bk := bk.ch Z4
       replace bv := bv.ch Z4
       replace bm := bm.ch Z4
       replace bn := bn.ch Z4
       refine GoR.call (op_call body42 rfl (walk_ref12_OfWord (e := r30) hO.lt bu bj bk bv bm bn yV H)) rfl rfl ?_
       rintro v75 w72 ⟨r71, rfl, IV, H⟩
       have tj := Stp.same hO IV
       replace hO := tj.own
       refine za rfl (zn (zq (zr (zm rfl (zm rfl ?_)))))
       refine GoR.call (op_call body39 rfl (walk_law12_within hO.lt H)) rfl rfl ?_
       rintro v81 w78 ⟨r77, rfl, WJ, H⟩
       have tk := Stp.same hO WJ
       replace hO := tk.own
       refine zm rfl ?_
       cases r77
       ·replace H := ifn Bool.false_ne_true H
        refine zp (zp (zp (zo (op_pickF rfl rfl rfl) (zn (zf rfl rfl ?_)))))
        refine zk (zq (zr (zs (oblkAgg (vs := [.int .i64 r30.Points, .bool r30.Monoid, .slice gv r30.Gens.length gw, .slice fP r30.Elems.length fQ, .slice fJ r30.Prefix.length fK, .slice gx r30.Last.length gy, .slice fR r30.Right.length fS, .slice fT r30.Rules.length fU, .int .i64 r30.Done]) (i := 0) 0 hO rfl rfl Try.underlying29 rfl ti29 rfl) (zm rfl ?_))))
        have Z5 := tj.ch.trans tk.ch
        replace bu := bu.ch Z5
        replace bj := bj.ch Z5
        replace bk := bk.ch Z5
        replace bv := bv.ch Z5
        replace bm := bm.ch Z5
        replace bn := bn.ch Z5
        refine GoR.call (op_call body30 rfl (walk_enumerate_OfWord (e := r30) hO.lt bu bj bk bv bm bn yV H)) rfl rfl ?_
        rintro v87 w84 ⟨r83, rfl, WK, H⟩
        have tm := Stp.same hO WK
        replace hO := tm.own
        refine zm rfl ?_
        by_cases h89 : r83 = r71
        ·replace H := ifp h89 H
         refine zo (fun w => opB (op_eql rfl rfl w) (decide_eq_true h89)) (zm rfl (zs (oblkAgg (vs := [.int .i64 r30.Points, .bool r30.Monoid, .slice gv r30.Gens.length gw, .slice fP r30.Elems.length fQ, .slice fJ r30.Prefix.length fK, .slice gx r30.Last.length gy, .slice fR r30.Right.length fS, .slice fT r30.Rules.length fU, .int .i64 r30.Done]) (i := 0) 0 hO rfl rfl Try.underlying29 rfl ti29 rfl) (zm rfl (zm rfl ?_))))
         replace bu := bu.ch tm.ch
         replace bj := bj.ch tm.ch
         replace bk := bk.ch tm.ch
         replace bv := bv.ch tm.ch
         replace bm := bm.ch tm.ch
         replace bn := bn.ch tm.ch
         refine GoR.call (op_call body36 rfl (walk_enumerate_Product (e := r30) hO.lt bu bj bk bv bm bn H)) rfl rfl ?_
         rintro v94 w91 ⟨r90, rfl, WL, H⟩
         have nu := Stp.same hO WL
         replace hO := nu.own
         refine zm rfl ?_
         by_cases h96 : r90 = (-1 : Int)
         ·replace H := ifp h96 H
          refine zo (fun w => opB (op_eql rfl rfl w) (decide_eq_true h96)) (zo (op_pickT rfl rfl rfl) (zm rfl ?_))
          refine GoR.call (op_call body16 rfl (walk_law12_awake hO.lt H)) rfl rfl ?_
          rintro ac3 w98 ⟨r97, rfl, WM, H⟩
          have qu := Stp.same hO WM
          replace hO := qu.own
          refine zo (op_pickT rfl rfl rfl) (za rfl (zn ?_))
          refine Go1.ret1 Try.func11 rfl ?_
          replace hB := (((((((((((((((hB.trans vc.fr).trans m5.fr).trans eK.fr).trans yW.fr).trans yX.fr).trans gl.fr).trans gD.fr).trans th.fr).trans k8.fr).trans iX.fr).trans g0.fr).trans tj.fr).trans tk.fr).trans tm.fr).trans nu.fr).trans qu.fr
          exact ⟨r97, rfl, hB.same, H⟩
         replace H := ifn h96 H
         refine zo (fun w => opB (op_eql rfl rfl w) (decide_eq_false h96)) (zo (op_pickT rfl rfl rfl) (zm rfl (zp (zo (op_pickF rfl rfl rfl) (za rfl ?_)))))
         refine zn ?_
         refine Go1.ret1 Try.func11 rfl ?_
         replace hB := ((((((((((((((hB.trans vc.fr).trans m5.fr).trans eK.fr).trans yW.fr).trans yX.fr).trans gl.fr).trans gD.fr).trans th.fr).trans k8.fr).trans iX.fr).trans g0.fr).trans tj.fr).trans tk.fr).trans tm.fr).trans nu.fr
         exact ⟨false, rfl, hB.same, H⟩
        replace H := ifn h89 H
        refine zo (fun w => opB (op_eql rfl rfl w) (decide_eq_false h89)) (zm rfl (zp (zp (zp (zp ?_)))))
        refine zp (zp (zo (op_pickF rfl rfl rfl) (zm rfl (zp (zo (op_pickF rfl rfl rfl) ?_)))))
        refine za rfl (zn ?_)
        refine Go1.ret1 Try.func11 rfl ?_
        replace hB := (((((((((((((hB.trans vc.fr).trans m5.fr).trans eK.fr).trans yW.fr).trans yX.fr).trans gl.fr).trans gD.fr).trans th.fr).trans k8.fr).trans iX.fr).trans g0.fr).trans tj.fr).trans tk.fr).trans tm.fr
        exact ⟨false, rfl, hB.same, H⟩
       replace H := ifp rfl H
       refine zm rfl (zm rfl ?_)
       refine GoR.call (op_call body39 rfl (walk_law12_within hO.lt H)) rfl rfl ?_
       rintro ac4 ac5 ⟨r103, rfl, S1, H⟩
       have qv := Stp.same hO S1
       replace hO := qv.own
       refine zo (op_pickT rfl rfl rfl) (zn ?_)
       cases r103
       ·replace H := ifn Bool.false_ne_true H
        refine zf rfl rfl (zk (zq ?_))
        refine Go1.cut [(3, .int .i64 a3), (4, .int .i64 a4), (5, .string (gstr a5)), (15, .pointer (some ⟨B21, 0, none⟩)), (19, .int .i64 r71), (20, .int .i64 (-1 : Int))] ⟨rfl, rfl, rfl, rfl, rfl, rfl, trivial⟩ ?_
        intro σ _
        refine zr (zs (oblkAgg (vs := [.int .i64 r30.Points, .bool r30.Monoid, .slice gv r30.Gens.length gw, .slice fP r30.Elems.length fQ, .slice fJ r30.Prefix.length fK, .slice gx r30.Last.length gy, .slice fR r30.Right.length fS, .slice fT r30.Rules.length fU, .int .i64 r30.Done]) (i := 0) 0 hO rfl rfl Try.underlying29 rfl ti29 rfl) (zm rfl ?_))
        have Z6 := (tj.ch.trans tk.ch).trans qv.ch
        replace bu := bu.ch Z6
        replace bj := bj.ch Z6
        replace bk := bk.ch Z6
        replace bv := bv.ch Z6
        replace bm := bm.ch Z6
        replace bn := bn.ch Z6
        refine GoR.call (op_call body30 rfl (walk_enumerate_OfWord (e := r30) hO.lt bu bj bk bv bm bn yV H)) rfl rfl ?_
        rintro ac6 ac7 ⟨r109, rfl, S2, H⟩
        have qw := Stp.same hO S2
        replace hO := qw.own
        refine zm rfl ?_
        by_cases yp : r109 = r71
        ·replace H := ifp yp H
         refine zo (fun w => opB (op_eql rfl rfl w) (decide_eq_true yp)) (zm rfl (zs (oblkAgg (vs := [.int .i64 r30.Points, .bool r30.Monoid, .slice gv r30.Gens.length gw, .slice fP r30.Elems.length fQ, .slice fJ r30.Prefix.length fK, .slice gx r30.Last.length gy, .slice fR r30.Right.length fS, .slice fT r30.Rules.length fU, .int .i64 r30.Done]) (i := 0) 0 hO rfl rfl Try.underlying29 rfl ti29 rfl) (zm rfl (zm rfl ?_))))
         replace bu := bu.ch qw.ch
         replace bj := bj.ch qw.ch
         replace bk := bk.ch qw.ch
         replace bv := bv.ch qw.ch
         replace bm := bm.ch qw.ch
         replace bn := bn.ch qw.ch
         refine GoR.call (op_call body36 rfl (walk_enumerate_Product (e := r30) hO.lt bu bj bk bv bm bn H)) rfl rfl ?_
         rintro ac8 Vs ⟨r116, rfl, S3, H⟩
         have ir := Stp.same hO S3
         replace hO := ir.own
         refine zm rfl ?_
         by_cases HU : r116 = (-1 : Int)
         ·replace H := ifp HU H
          refine zo (fun w => opB (op_eql rfl rfl w) (decide_eq_true HU)) (zo (op_pickT rfl rfl rfl) (zm rfl ?_))
          refine GoR.call (op_call body16 rfl (walk_law12_awake hO.lt H)) rfl rfl ?_
          rintro ac9 ada ⟨r123, rfl, S4, H⟩
          have qx := Stp.same hO S4
          replace hO := qx.own
          refine zo (op_pickT rfl rfl rfl) (za rfl (zn ?_))
          refine Go1.ret1 Try.func11 rfl ?_
          replace hB := ((((((((((((((((hB.trans vc.fr).trans m5.fr).trans eK.fr).trans yW.fr).trans yX.fr).trans gl.fr).trans gD.fr).trans th.fr).trans k8.fr).trans iX.fr).trans g0.fr).trans tj.fr).trans tk.fr).trans qv.fr).trans qw.fr).trans ir.fr).trans qx.fr
          exact ⟨r123, rfl, hB.same, H⟩
         replace H := ifn HU H
         refine zo (fun w => opB (op_eql rfl rfl w) (decide_eq_false HU)) (zo (op_pickT rfl rfl rfl) (zm rfl (zp (zo (op_pickF rfl rfl rfl) (za rfl ?_)))))
         refine zn ?_
         refine Go1.ret1 Try.func11 rfl ?_
         replace hB := (((((((((((((((hB.trans vc.fr).trans m5.fr).trans eK.fr).trans yW.fr).trans yX.fr).trans gl.fr).trans gD.fr).trans th.fr).trans k8.fr).trans iX.fr).trans g0.fr).trans tj.fr).trans tk.fr).trans qv.fr).trans qw.fr).trans ir.fr
         exact ⟨false, rfl, hB.same, H⟩
        replace H := ifn yp H
        refine zo (fun w => opB (op_eql rfl rfl w) (decide_eq_false yp)) (zm rfl (zp (zp (zp (zp ?_)))))
        refine zp (zp (zo (op_pickF rfl rfl rfl) (zm rfl (zp (zo (op_pickF rfl rfl rfl) ?_)))))
        refine za rfl (zn ?_)
        refine Go1.ret1 Try.func11 rfl ?_
        replace hB := ((((((((((((((hB.trans vc.fr).trans m5.fr).trans eK.fr).trans yW.fr).trans yX.fr).trans gl.fr).trans gD.fr).trans th.fr).trans k8.fr).trans iX.fr).trans g0.fr).trans tj.fr).trans tk.fr).trans qv.fr).trans qw.fr
        exact ⟨false, rfl, hB.same, H⟩
       replace H := ifp rfl H
       refine zt rfl rfl ?_
       refine Go1.cut [(3, .int .i64 a3), (4, .int .i64 a4), (5, .string (gstr a5)), (15, .pointer (some ⟨B21, 0, none⟩)), (19, .int .i64 r71)] ⟨rfl, rfl, rfl, rfl, rfl, trivial⟩ ?_
       intro σ _
       refine Go1.drawS 0 [(0, .pure), (1, .stable), (2, .pure), (3, .stable), (4, .pure), (5, .pure), (6, .stable), (7, .pure), (8, .stable), (9, .pure), (10, .pure), (11, .stable), (12, .loud), (13, .loud), (14, .pure)] mixed (by kernel_rfl) ?_
       intro F4 S5
       have qy := Stp.same hO S5
       replace hO := qy.own
       refine GoQ.pure rfl (op_fieldAddr Try.underlying29 rfl ti22 rfl (by decide)) rfl rfl ?_
       refine GoQ.stable rfl (oblk (i := 3) 0 hO rfl rfl Try.underlying22 rfl rfl) rfl rfl ?_
       refine GoQ.pure rfl (op_fieldAddr Try.underlying29 rfl ti22 rfl (by decide)) rfl rfl ?_
       refine GoQ.stable rfl (oblk (i := 3) 0 hO rfl rfl Try.underlying22 rfl rfl) rfl rfl ?_
       refine GoQ.pure rfl (op_move rfl) rfl rfl ?_
       obtain ⟨DM, H⟩ := H
       obtain ⟨DN, H⟩ := H
       have Z7 := ((tj.ch.trans tk.ch).trans qv.ch).trans qy.ch
       replace bj := bj.ch Z7
       refine GoQ.pure rfl (op_index Try.underlying22 ti26 rfl rfl DM DN (bj.some_ DM DN)) rfl rfl ?_
       have hobt := ldSl bj DM DN
       obtain ⟨adb, adc, yf, Eo⟩ := hobt
       refine GoQ.stable rfl (Eo Try.underlying26 rfl rfl) rfl rfl ?_
       refine GoQ.pure rfl (op_fieldAddr Try.underlying29 rfl ti22 rfl (by decide)) rfl rfl ?_
       refine GoQ.stable rfl (oblk (i := 3) 0 hO rfl rfl Try.underlying22 rfl rfl) rfl rfl ?_
       refine GoQ.pure rfl (op_move rfl) rfl rfl ?_
       obtain ⟨CQ, H⟩ := H
       obtain ⟨JS, H⟩ := H
       refine GoQ.pure rfl (op_index Try.underlying22 ti26 rfl rfl CQ JS (bj.some_ CQ JS)) rfl rfl ?_
       have hobt := ldSl bj CQ JS
       obtain ⟨ade, adf, yg, Hv⟩ := hobt
       refine GoQ.stable rfl (Hv Try.underlying26 rfl rfl) rfl rfl ?_
       refine GoQ.call rfl (op_call body43 rfl (walk_ref11_Compose hO.lt yf yg H)) (fun v w hr => by obtain ⟨_, _, _, _, hs, _, _⟩ := hr; assumption) rfl rfl ?_
       rintro adg adh ⟨r144, W9, Xa, rfl, S6, yh, H⟩
       have oW := Stp.same hO S6
       replace hO := oW.own
       replace bj := bj.ch oW.ch
       refine GoQ.call rfl (op_call body41 rfl (walk_ref12_Find hO.lt bj yh H)) (fun v w hr => by obtain ⟨_, _, hs, _⟩ := hr; assumption) rfl rfl ?_
       rintro adi adk ⟨r150, rfl, S7, H⟩
       have oc := Stp.same hO S7
       replace hO := oc.own
       refine GoQ.pure rfl (op_assign rfl) rfl rfl ?_
       refine GoQ.nil ?_
       refine zq (zr (zs (oblkAgg (vs := [.int .i64 r30.Points, .bool r30.Monoid, .slice gv r30.Gens.length gw, .slice fP r30.Elems.length fQ, .slice fJ r30.Prefix.length fK, .slice gx r30.Last.length gy, .slice fR r30.Right.length fS, .slice fT r30.Rules.length fU, .int .i64 r30.Done]) (i := 0) 0 hO rfl rfl Try.underlying29 rfl ti29 rfl) (zm rfl ?_)))
       replace bj := bj.ch oc.ch
       have Z8 := (Z7.trans oW.ch).trans oc.ch
       replace bu := bu.ch Z8
       replace bk := bk.ch Z8
       replace bv := bv.ch Z8
       replace bm := bm.ch Z8
       replace bn := bn.ch Z8
       refine GoR.call (op_call body30 rfl (walk_enumerate_OfWord (e := r30) hO.lt bu bj bk bv bm bn yV H)) rfl rfl ?_
       rintro adl UY ⟨r156, rfl, S8, H⟩
       have iq := Stp.same hO S8
       replace hO := iq.own
       refine zm rfl ?_
       by_cases zI : r156 = r71
       ·replace H := ifp zI H
        refine zo (fun w => opB (op_eql rfl rfl w) (decide_eq_true zI)) (zm rfl (zs (oblkAgg (vs := [.int .i64 r30.Points, .bool r30.Monoid, .slice gv r30.Gens.length gw, .slice fP r30.Elems.length fQ, .slice fJ r30.Prefix.length fK, .slice gx r30.Last.length gy, .slice fR r30.Right.length fS, .slice fT r30.Rules.length fU, .int .i64 r30.Done]) (i := 0) 0 hO rfl rfl Try.underlying29 rfl ti29 rfl) (zm rfl (zm rfl ?_))))
        replace bu := bu.ch iq.ch
        replace bj := bj.ch iq.ch
        replace bk := bk.ch iq.ch
        replace bv := bv.ch iq.ch
        replace bm := bm.ch iq.ch
        replace bn := bn.ch iq.ch
        refine GoR.call (op_call body36 rfl (walk_enumerate_Product (e := r30) hO.lt bu bj bk bv bm bn H)) rfl rfl ?_
        rintro adm T7 ⟨r163, rfl, Gz, H⟩
        have od := Stp.same hO Gz
        replace hO := od.own
        refine zm rfl ?_
        by_cases zH : r163 = r150
        ·replace H := ifp zH H
         refine zo (fun w => opB (op_eql rfl rfl w) (decide_eq_true zH)) (zo (op_pickT rfl rfl rfl) (zm rfl ?_))
         refine GoR.call (op_call body16 rfl (walk_law12_awake hO.lt H)) rfl rfl ?_
         rintro adn VJ ⟨r170, rfl, S9, H⟩
         have oe := Stp.same hO S9
         replace hO := oe.own
         refine zo (op_pickT rfl rfl rfl) (za rfl (zn ?_))
         refine Go1.ret1 Try.func11 rfl ?_
         replace hB := (((((((((((((((((((hB.trans vc.fr).trans m5.fr).trans eK.fr).trans yW.fr).trans yX.fr).trans gl.fr).trans gD.fr).trans th.fr).trans k8.fr).trans iX.fr).trans g0.fr).trans tj.fr).trans tk.fr).trans qv.fr).trans qy.fr).trans oW.fr).trans oc.fr).trans iq.fr).trans od.fr).trans oe.fr
         exact ⟨r170, rfl, hB.same, H⟩
        replace H := ifn zH H
        refine zo (fun w => opB (op_eql rfl rfl w) (decide_eq_false zH)) (zo (op_pickT rfl rfl rfl) (zm rfl (zp (zo (op_pickF rfl rfl rfl) (za rfl ?_)))))
        refine zn ?_
        refine Go1.ret1 Try.func11 rfl ?_
        replace hB := ((((((((((((((((((hB.trans vc.fr).trans m5.fr).trans eK.fr).trans yW.fr).trans yX.fr).trans gl.fr).trans gD.fr).trans th.fr).trans k8.fr).trans iX.fr).trans g0.fr).trans tj.fr).trans tk.fr).trans qv.fr).trans qy.fr).trans oW.fr).trans oc.fr).trans iq.fr).trans od.fr
        exact ⟨false, rfl, hB.same, H⟩
       replace H := ifn zI H
       refine zo (fun w => opB (op_eql rfl rfl w) (decide_eq_false zI)) (zm rfl (zp (zp (zp (zp ?_)))))
       refine zp (zp (zo (op_pickF rfl rfl rfl) (zm rfl (zp (zo (op_pickF rfl rfl rfl) ?_)))))
       refine za rfl (zn ?_)
       refine Go1.ret1 Try.func11 rfl ?_
       replace hB := (((((((((((((((((hB.trans vc.fr).trans m5.fr).trans eK.fr).trans yW.fr).trans yX.fr).trans gl.fr).trans gD.fr).trans th.fr).trans k8.fr).trans iX.fr).trans g0.fr).trans tj.fr).trans tk.fr).trans qv.fr).trans qy.fr).trans oW.fr).trans oc.fr).trans iq.fr
       exact ⟨false, rfl, hB.same, H⟩
      replace H := ifn h70 H
      refine zo (fun w => opB (op_eql rfl rfl w) (decide_eq_false h70)) (zn (zf rfl rfl (zk (zq ?_))))
      refine Go1.cut [(3, .int .i64 a3), (4, .int .i64 a4), (5, .string (gstr a5)), (15, .pointer (some ⟨B21, 0, none⟩)), (19, .int .i64 (-1 : Int)), (20, .int .i64 (-1 : Int))] ⟨rfl, rfl, rfl, rfl, rfl, rfl, trivial⟩ ?_
      intro σ _
      refine zr (zs (oblkAgg (vs := [.int .i64 r30.Points, .bool r30.Monoid, .slice gv r30.Gens.length gw, .slice fP r30.Elems.length fQ, .slice fJ r30.Prefix.length fK, .slice gx r30.Last.length gy, .slice fR r30.Right.length fS, .slice fT r30.Rules.length fU, .int .i64 r30.Done]) (i := 0) 0 hO rfl rfl Try.underlying29 rfl ti29 rfl) (zm rfl ?_))
      replace bj := bj.ch g0.ch
      have Z9 := iX.ch.trans g0.ch
      replace bu := bu.ch Z9
      replace bk := bk.ch Z9
      replace bv := bv.ch Z9
      replace bm := bm.ch Z9
      replace bn := bn.ch Z9
      refine GoR.call (op_call body30 rfl (walk_enumerate_OfWord (e := r30) hO.lt bu bj bk bv bm bn yV H)) rfl rfl ?_
      rintro ado adp ⟨r176, rfl, Ta, H⟩
      have qz := Stp.same hO Ta
      replace hO := qz.own
      refine zm rfl ?_
      by_cases HV : r176 = (-1 : Int)
      ·replace H := ifp HV H
       refine zo (fun w => opB (op_eql rfl rfl w) (decide_eq_true HV)) (zm rfl (zs (oblkAgg (vs := [.int .i64 r30.Points, .bool r30.Monoid, .slice gv r30.Gens.length gw, .slice fP r30.Elems.length fQ, .slice fJ r30.Prefix.length fK, .slice gx r30.Last.length gy, .slice fR r30.Right.length fS, .slice fT r30.Rules.length fU, .int .i64 r30.Done]) (i := 0) 0 hO rfl rfl Try.underlying29 rfl ti29 rfl) (zm rfl (zm rfl ?_))))
       replace bu := bu.ch qz.ch
       replace bj := bj.ch qz.ch
       replace bk := bk.ch qz.ch
       replace bv := bv.ch qz.ch
       replace bm := bm.ch qz.ch
       replace bn := bn.ch qz.ch
       refine GoR.call (op_call body36 rfl (walk_enumerate_Product (e := r30) hO.lt bu bj bk bv bm bn H)) rfl rfl ?_
       rintro adq adr ⟨r183, rfl, Tc, H⟩
       have qA := Stp.same hO Tc
       replace hO := qA.own
       refine zm rfl ?_
       by_cases Aa : r183 = (-1 : Int)
       ·replace H := ifp Aa H
        refine zo (fun w => opB (op_eql rfl rfl w) (decide_eq_true Aa)) (zo (op_pickT rfl rfl rfl) (zm rfl ?_))
        refine GoR.call (op_call body16 rfl (walk_law12_awake hO.lt H)) rfl rfl ?_
        rintro ads KO ⟨r190, rfl, Td, H⟩
        have i9 := Stp.same hO Td
        replace hO := i9.own
        refine zo (op_pickT rfl rfl rfl) (za rfl (zn ?_))
        refine Go1.ret1 Try.func11 rfl ?_
        replace hB := (((((((((((((hB.trans vc.fr).trans m5.fr).trans eK.fr).trans yW.fr).trans yX.fr).trans gl.fr).trans gD.fr).trans th.fr).trans k8.fr).trans iX.fr).trans g0.fr).trans qz.fr).trans qA.fr).trans i9.fr
        exact ⟨r190, rfl, hB.same, H⟩
       replace H := ifn Aa H
       refine zo (fun w => opB (op_eql rfl rfl w) (decide_eq_false Aa)) (zo (op_pickT rfl rfl rfl) (zm rfl (zp (zo (op_pickF rfl rfl rfl) (za rfl ?_)))))
       refine zn ?_
       refine Go1.ret1 Try.func11 rfl ?_
       replace hB := ((((((((((((hB.trans vc.fr).trans m5.fr).trans eK.fr).trans yW.fr).trans yX.fr).trans gl.fr).trans gD.fr).trans th.fr).trans k8.fr).trans iX.fr).trans g0.fr).trans qz.fr).trans qA.fr
       exact ⟨false, rfl, hB.same, H⟩
      replace H := ifn HV H
      refine zo (fun w => opB (op_eql rfl rfl w) (decide_eq_false HV)) (zm rfl (zp (zp (zp (zp ?_)))))
      refine zp (zp (zo (op_pickF rfl rfl rfl) (zm rfl (zp (zo (op_pickF rfl rfl rfl) ?_)))))
      refine za rfl (zn ?_)
      refine Go1.ret1 Try.func11 rfl ?_
      replace hB := (((((((((((hB.trans vc.fr).trans m5.fr).trans eK.fr).trans yW.fr).trans yX.fr).trans gl.fr).trans gD.fr).trans th.fr).trans k8.fr).trans iX.fr).trans g0.fr).trans qz.fr
      exact ⟨false, rfl, hB.same, H⟩
     replace H := ifn h69 H
     refine GoQ.pure rfl (fun w => opB (op_neq rfl rfl w) (ndF h69)) rfl rfl ?_
     refine GoQ.pure rfl (op_pickF rfl rfl rfl) rfl rfl ?_
     refine GoQ.nil ?_
     refine zt rfl rfl (zq ?_)
     refine Go1.cut [] trivial ?_
     intro σ _
     refine zr (za rfl (zn ?_))
     refine Go1.ret1 Try.func11 rfl ?_
     replace hB := ((((((((((hB.trans vc.fr).trans m5.fr).trans eK.fr).trans yW.fr).trans yX.fr).trans gl.fr).trans gD.fr).trans th.fr).trans k8.fr).trans iX.fr).trans g0.fr
     exact ⟨false, rfl, hB.same, H⟩
    replace H := ifn h56 H
    refine GoQ.pure rfl (fun w => opB (op_neqS rfl rfl w) (ndF h56)) rfl rfl ?_
    refine GoQ.pure rfl (op_move rfl) rfl rfl ?_
    refine GoQ.pass rfl rfl rfl ?_
    refine GoQ.pass rfl rfl rfl ?_
    refine GoQ.pass rfl rfl rfl ?_
    refine GoQ.pass rfl rfl rfl ?_
    refine GoQ.pass rfl rfl rfl ?_
    refine GoQ.pass rfl rfl rfl ?_
    refine GoQ.pass rfl rfl rfl ?_
    refine GoQ.pass rfl rfl rfl ?_
    refine GoQ.pure rfl (op_pickT rfl rfl rfl) rfl rfl ?_
    refine GoQ.nil ?_
    refine zt rfl rfl (zq (zr (za rfl (zn ?_))))
    refine Go1.ret1 Try.func11 rfl ?_
    replace hB := ((((((((hB.trans vc.fr).trans m5.fr).trans eK.fr).trans yW.fr).trans yX.fr).trans gl.fr).trans gD.fr).trans th.fr).trans k8.fr
    exact ⟨false, rfl, hB.same, H⟩
   replace H := ifp rfl H
   refine zt rfl rfl (zr (zs (oblkAgg (vs := [.int .i64 r30.Points, .bool r30.Monoid, .slice gv r30.Gens.length gw, .slice fP r30.Elems.length fQ, .slice fJ r30.Prefix.length fK, .slice gx r30.Last.length gy, .slice fR r30.Right.length fS, .slice fT r30.Rules.length fU, .int .i64 r30.Done]) (i := 0) 0 hO rfl rfl Try.underlying29 rfl ti29 rfl) (zm rfl ?_)))
   replace bj := bj.ch gD.ch
   have Z10 := gl.ch.trans gD.ch
   replace bu := bu.ch Z10
   replace bk := bk.ch Z10
   replace bv := bv.ch Z10
   replace bm := bm.ch Z10
   replace bn := bn.ch Z10
   refine GoR.call (op_call body40 rfl (walk_ref12_Word (e := r30) hO.lt bu bj bk bv bm bn H)) rfl rfl ?_
   rintro adt adu ⟨r196, rfl, Te, W4, H⟩
   have kh := Stp.same hO Te
   replace hO := kh.own
   refine za rfl (zn (zq (zq ?_)))
   refine Go1.drawS 0 [(0, .stable), (1, .pure), (3, .pure), (2, .loud), (4, .pure), (5, .pure), (6, .stable), (7, .pure), (9, .pure), (10, .stable), (11, .pure), (8, .loud), (12, .loud), (13, .pure), (14, .pure)] mixed (by kernel_rfl) ?_
   intro Ub Kt
   have ja := Stp.same hO Kt
   replace hO := ja.own
   refine GoQ.stable rfl (oblkAgg (vs := [.int .i64 r30.Points, .bool r30.Monoid, .slice gv r30.Gens.length gw, .slice fP r30.Elems.length fQ, .slice fJ r30.Prefix.length fK, .slice gx r30.Last.length gy, .slice fR r30.Right.length fS, .slice fT r30.Rules.length fU, .int .i64 r30.Done]) (i := 0) 0 hO rfl rfl Try.underlying29 rfl ti29 rfl) rfl rfl ?_
   refine GoQ.pure rfl (op_move rfl) rfl rfl ?_
   refine GoQ.pure rfl (op_move rfl) rfl rfl ?_
   have Z11 := kh.ch.trans ja.ch
   replace bu := bu.ch Z11
   replace bj := bj.ch Z11
   replace bk := bk.ch Z11
   replace bv := bv.ch Z11
   replace bm := bm.ch Z11
   replace bn := bn.ch Z11
   refine GoQ.call rfl (op_call body29 rfl (walk_enumerate_Word (e := r30) hO.lt bu bj bk bv bm bn H)) (fun v w hr => by obtain ⟨_, _, hs, _, _⟩ := hr; assumption) rfl rfl ?_
   rintro adv U1 ⟨r205, rfl, Tf, W5, H⟩
   have qB := Stp.same hO Tf
   replace hO := qB.own
   by_cases yq : r205 = r196
   ·replace H := ifp yq H
    refine GoQ.pure rfl (fun w => opB (op_neqS rfl rfl w) (ndT yq)) rfl rfl ?_
    refine GoQ.pure rfl (op_move rfl) rfl rfl ?_
    refine GoQ.stable rfl (oblkAgg (vs := [.int .i64 r30.Points, .bool r30.Monoid, .slice gv r30.Gens.length gw, .slice fP r30.Elems.length fQ, .slice fJ r30.Prefix.length fK, .slice gx r30.Last.length gy, .slice fR r30.Right.length fS, .slice fT r30.Rules.length fU, .int .i64 r30.Done]) (i := 0) 0 hO rfl rfl Try.underlying29 rfl ti29 rfl) rfl rfl ?_
    refine GoQ.pure rfl (op_move rfl) rfl rfl ?_
    refine GoQ.pure rfl (op_fieldAddr Try.underlying29 rfl ti22 rfl (by decide)) rfl rfl ?_
    refine GoQ.stable rfl (oblk (i := 3) 0 hO rfl rfl Try.underlying22 rfl rfl) rfl rfl ?_
    refine GoQ.pure rfl (op_move rfl) rfl rfl ?_
    replace bu := bu.ch qB.ch
    replace bj := bj.ch qB.ch
    replace bk := bk.ch qB.ch
    replace bv := bv.ch qB.ch
    replace bm := bm.ch qB.ch
    replace bn := bn.ch qB.ch
    have Z12 := ((((((((((Ch.start A w0).trans vc.ch).trans m5.ch).trans eK.ch).trans yW.ch).trans yX.ch).trans gl.ch).trans gD.ch).trans kh.ch).trans ja.ch).trans qB.ch
    replace dP := dP.ch Z12
    refine GoQ.call rfl (op_call body32 rfl (walk_enumerate_Find (e := r30) hO.lt bu bj bk bv bm bn dP H)) (fun v w hr => by obtain ⟨_, _, hs, _⟩ := hr; assumption) rfl rfl ?_
    rintro adw KR ⟨r212, rfl, Tg, H⟩
    have iO := Stp.same hO Tg
    replace hO := iO.own
    replace dP := dP.ch iO.ch
    replace bj := bj.ch iO.ch
    refine GoQ.call rfl (op_call body41 rfl (walk_ref12_Find hO.lt bj dP H)) (fun v w hr => by obtain ⟨_, _, hs, _⟩ := hr; assumption) rfl rfl ?_
    rintro adx ady ⟨r218, rfl, Th, H⟩
    have qC := Stp.same hO Th
    replace hO := qC.own
    by_cases EX : r212 = r218
    ·replace H := ifp EX H
     refine GoQ.pure rfl (fun w => opB (op_neq rfl rfl w) (ndT EX)) rfl rfl ?_
     refine GoQ.pure rfl (op_pickF rfl rfl rfl) rfl rfl ?_
     refine GoQ.nil ?_
     refine zf rfl rfl (zk (zq ?_))
     refine Go1.cut [(3, .int .i64 a3), (4, .int .i64 a4), (5, .string (gstr a5)), (15, .pointer (some ⟨B21, 0, none⟩)), (17, .int .i64 (r30.Elems.length : Int))] ⟨rfl, rfl, rfl, rfl, rfl, trivial⟩ ?_
     intro σ _
     refine zr (za rfl (za rfl (zn (zq (zq ?_)))))
     refine zr (zo (op_fieldAddr Try.underlying29 rfl ti3 rfl (by decide)) (zs (oblk (i := 8) 0 hO rfl rfl Try.underlying3 rfl rfl) (zm rfl ?_)))
     by_cases BR : r30.Done = (r30.Elems.length : Int)
     ·replace H := ifp BR H
      refine zo (fun w => opB (op_eql rfl rfl w) (decide_eq_true BR)) (zn (zt rfl rfl (zq (zr (zs (oblkAgg (vs := [.int .i64 r30.Points, .bool r30.Monoid, .slice gv r30.Gens.length gw, .slice fP r30.Elems.length fQ, .slice fJ r30.Prefix.length fK, .slice gx r30.Last.length gy, .slice fR r30.Right.length fS, .slice fT r30.Rules.length fU, .int .i64 r30.Done]) (i := 0) 0 hO rfl rfl Try.underlying29 rfl ti29 rfl) ?_)))))
      refine zm rfl ?_
      replace bj := bj.ch qC.ch
      have Z13 := iO.ch.trans qC.ch
      replace bu := bu.ch Z13
      replace bk := bk.ch Z13
      replace bv := bv.ch Z13
      replace bm := bm.ch Z13
      replace bn := bn.ch Z13
      refine GoR.call (op_call body42 rfl (walk_ref12_OfWord (e := r30) hO.lt bu bj bk bv bm bn yV H)) rfl rfl ?_
      rintro adz adA ⟨r226, rfl, Tj, H⟩
      have qD := Stp.same hO Tj
      replace hO := qD.own
      refine za rfl (zn (zq (zr (zm rfl (zm rfl ?_)))))
      refine GoR.call (op_call body39 rfl (walk_law12_within hO.lt H)) rfl rfl ?_
      rintro adB Ud ⟨r232, rfl, GF, H⟩
      have qE := Stp.same hO GF
      replace hO := qE.own
      refine zm rfl ?_
      cases r232
      ·replace H := ifn Bool.false_ne_true H
       refine zp (zp (zp (zo (op_pickF rfl rfl rfl) (zn (zf rfl rfl ?_)))))
       refine zk (zq ?_)
       refine Go1.cut [(3, .int .i64 a3), (4, .int .i64 a4), (5, .string (gstr a5)), (15, .pointer (some ⟨B21, 0, none⟩)), (19, .int .i64 r226), (20, .int .i64 (-1 : Int))] ⟨rfl, rfl, rfl, rfl, rfl, rfl, trivial⟩ ?_
       intro σ _
       refine zr (zs (oblkAgg (vs := [.int .i64 r30.Points, .bool r30.Monoid, .slice gv r30.Gens.length gw, .slice fP r30.Elems.length fQ, .slice fJ r30.Prefix.length fK, .slice gx r30.Last.length gy, .slice fR r30.Right.length fS, .slice fT r30.Rules.length fU, .int .i64 r30.Done]) (i := 0) 0 hO rfl rfl Try.underlying29 rfl ti29 rfl) (zm rfl ?_))
       have Z14 := qD.ch.trans qE.ch
       replace bu := bu.ch Z14
       replace bj := bj.ch Z14
       replace bk := bk.ch Z14
       replace bv := bv.ch Z14
       replace bm := bm.ch Z14
       replace bn := bn.ch Z14
       refine GoR.call (op_call body30 rfl (walk_enumerate_OfWord (e := r30) hO.lt bu bj bk bv bm bn yV H)) rfl rfl ?_
       rintro adC adD ⟨r238, rfl, Tk, H⟩
       have qF := Stp.same hO Tk
       replace hO := qF.own
       refine zm rfl ?_
       by_cases HW : r238 = r226
       ·replace H := ifp HW H
        refine zo (fun w => opB (op_eql rfl rfl w) (decide_eq_true HW)) (zm rfl (zs (oblkAgg (vs := [.int .i64 r30.Points, .bool r30.Monoid, .slice gv r30.Gens.length gw, .slice fP r30.Elems.length fQ, .slice fJ r30.Prefix.length fK, .slice gx r30.Last.length gy, .slice fR r30.Right.length fS, .slice fT r30.Rules.length fU, .int .i64 r30.Done]) (i := 0) 0 hO rfl rfl Try.underlying29 rfl ti29 rfl) (zm rfl (zm rfl ?_))))
        replace bu := bu.ch qF.ch
        replace bj := bj.ch qF.ch
        replace bk := bk.ch qF.ch
        replace bv := bv.ch qF.ch
        replace bm := bm.ch qF.ch
        replace bn := bn.ch qF.ch
        refine GoR.call (op_call body36 rfl (walk_enumerate_Product (e := r30) hO.lt bu bj bk bv bm bn H)) rfl rfl ?_
        rintro adE adF ⟨r245, rfl, Tl, H⟩
        have ig := Stp.same hO Tl
        replace hO := ig.own
        refine zm rfl ?_
        by_cases EY : r245 = (-1 : Int)
        ·replace H := ifp EY H
         refine zo (fun w => opB (op_eql rfl rfl w) (decide_eq_true EY)) (zo (op_pickT rfl rfl rfl) (zm rfl ?_))
         refine GoR.call (op_call body16 rfl (walk_law12_awake hO.lt H)) rfl rfl ?_
         rintro adG adH ⟨r252, rfl, Tm, H⟩
         have qG := Stp.same hO Tm
         replace hO := qG.own
         refine zo (op_pickT rfl rfl rfl) (za rfl (zn ?_))
         refine Go1.ret1 Try.func11 rfl ?_
         replace hB := ((((((((((((((((hB.trans vc.fr).trans m5.fr).trans eK.fr).trans yW.fr).trans yX.fr).trans gl.fr).trans gD.fr).trans kh.fr).trans ja.fr).trans qB.fr).trans iO.fr).trans qC.fr).trans qD.fr).trans qE.fr).trans qF.fr).trans ig.fr).trans qG.fr
         exact ⟨r252, rfl, hB.same, H⟩
        replace H := ifn EY H
        refine zo (fun w => opB (op_eql rfl rfl w) (decide_eq_false EY)) (zo (op_pickT rfl rfl rfl) (zm rfl (zp (zo (op_pickF rfl rfl rfl) (za rfl ?_)))))
        refine zn ?_
        refine Go1.ret1 Try.func11 rfl ?_
        replace hB := (((((((((((((((hB.trans vc.fr).trans m5.fr).trans eK.fr).trans yW.fr).trans yX.fr).trans gl.fr).trans gD.fr).trans kh.fr).trans ja.fr).trans qB.fr).trans iO.fr).trans qC.fr).trans qD.fr).trans qE.fr).trans qF.fr).trans ig.fr
        exact ⟨false, rfl, hB.same, H⟩
       replace H := ifn HW H
       refine zo (fun w => opB (op_eql rfl rfl w) (decide_eq_false HW)) (zm rfl (zp (zp (zp (zp ?_)))))
       refine zp (zp (zo (op_pickF rfl rfl rfl) (zm rfl (zp (zo (op_pickF rfl rfl rfl) ?_)))))
       refine za rfl (zn ?_)
       refine Go1.ret1 Try.func11 rfl ?_
       replace hB := ((((((((((((((hB.trans vc.fr).trans m5.fr).trans eK.fr).trans yW.fr).trans yX.fr).trans gl.fr).trans gD.fr).trans kh.fr).trans ja.fr).trans qB.fr).trans iO.fr).trans qC.fr).trans qD.fr).trans qE.fr).trans qF.fr
       exact ⟨false, rfl, hB.same, H⟩
      replace H := ifp rfl H
      refine zm rfl (zm rfl ?_)
      refine GoR.call (op_call body39 rfl (walk_law12_within hO.lt H)) rfl rfl ?_
      rintro adI adJ ⟨r258, rfl, Tn, H⟩
      have qH := Stp.same hO Tn
      replace hO := qH.own
      refine zo (op_pickT rfl rfl rfl) (zn ?_)
      cases r258
      ·replace H := ifn Bool.false_ne_true H
       refine zf rfl rfl (zk (zq ?_))
       refine Go1.cut [(3, .int .i64 a3), (4, .int .i64 a4), (5, .string (gstr a5)), (15, .pointer (some ⟨B21, 0, none⟩)), (19, .int .i64 r226), (20, .int .i64 (-1 : Int))] ⟨rfl, rfl, rfl, rfl, rfl, rfl, trivial⟩ ?_
       intro σ _
       refine zr (zs (oblkAgg (vs := [.int .i64 r30.Points, .bool r30.Monoid, .slice gv r30.Gens.length gw, .slice fP r30.Elems.length fQ, .slice fJ r30.Prefix.length fK, .slice gx r30.Last.length gy, .slice fR r30.Right.length fS, .slice fT r30.Rules.length fU, .int .i64 r30.Done]) (i := 0) 0 hO rfl rfl Try.underlying29 rfl ti29 rfl) (zm rfl ?_))
       have Z15 := (qD.ch.trans qE.ch).trans qH.ch
       replace bu := bu.ch Z15
       replace bj := bj.ch Z15
       replace bk := bk.ch Z15
       replace bv := bv.ch Z15
       replace bm := bm.ch Z15
       replace bn := bn.ch Z15
       refine GoR.call (op_call body30 rfl (walk_enumerate_OfWord (e := r30) hO.lt bu bj bk bv bm bn yV H)) rfl rfl ?_
       rintro adK adL ⟨r264, rfl, To, H⟩
       have qI := Stp.same hO To
       replace hO := qI.own
       refine zm rfl ?_
       by_cases HX : r264 = r226
       ·replace H := ifp HX H
        refine zo (fun w => opB (op_eql rfl rfl w) (decide_eq_true HX)) (zm rfl (zs (oblkAgg (vs := [.int .i64 r30.Points, .bool r30.Monoid, .slice gv r30.Gens.length gw, .slice fP r30.Elems.length fQ, .slice fJ r30.Prefix.length fK, .slice gx r30.Last.length gy, .slice fR r30.Right.length fS, .slice fT r30.Rules.length fU, .int .i64 r30.Done]) (i := 0) 0 hO rfl rfl Try.underlying29 rfl ti29 rfl) (zm rfl (zm rfl ?_))))
        replace bu := bu.ch qI.ch
        replace bj := bj.ch qI.ch
        replace bk := bk.ch qI.ch
        replace bv := bv.ch qI.ch
        replace bm := bm.ch qI.ch
        replace bn := bn.ch qI.ch
        refine GoR.call (op_call body36 rfl (walk_enumerate_Product (e := r30) hO.lt bu bj bk bv bm bn H)) rfl rfl ?_
        rintro adM M5 ⟨r271, rfl, Tp, H⟩
        have ii := Stp.same hO Tp
        replace hO := ii.own
        refine zm rfl ?_
        by_cases HY : r271 = (-1 : Int)
        ·replace H := ifp HY H
         refine zo (fun w => opB (op_eql rfl rfl w) (decide_eq_true HY)) (zo (op_pickT rfl rfl rfl) (zm rfl ?_))
         refine GoR.call (op_call body16 rfl (walk_law12_awake hO.lt H)) rfl rfl ?_
         rintro adN VL ⟨r278, rfl, Tq, H⟩
         have ip := Stp.same hO Tq
         replace hO := ip.own
         refine zo (op_pickT rfl rfl rfl) (za rfl (zn ?_))
         refine Go1.ret1 Try.func11 rfl ?_
         replace hB := (((((((((((((((((hB.trans vc.fr).trans m5.fr).trans eK.fr).trans yW.fr).trans yX.fr).trans gl.fr).trans gD.fr).trans kh.fr).trans ja.fr).trans qB.fr).trans iO.fr).trans qC.fr).trans qD.fr).trans qE.fr).trans qH.fr).trans qI.fr).trans ii.fr).trans ip.fr
         exact ⟨r278, rfl, hB.same, H⟩
        replace H := ifn HY H
        refine zo (fun w => opB (op_eql rfl rfl w) (decide_eq_false HY)) (zo (op_pickT rfl rfl rfl) (zm rfl (zp (zo (op_pickF rfl rfl rfl) (za rfl ?_)))))
        refine zn ?_
        refine Go1.ret1 Try.func11 rfl ?_
        replace hB := ((((((((((((((((hB.trans vc.fr).trans m5.fr).trans eK.fr).trans yW.fr).trans yX.fr).trans gl.fr).trans gD.fr).trans kh.fr).trans ja.fr).trans qB.fr).trans iO.fr).trans qC.fr).trans qD.fr).trans qE.fr).trans qH.fr).trans qI.fr).trans ii.fr
        exact ⟨false, rfl, hB.same, H⟩
       replace H := ifn HX H
       refine zo (fun w => opB (op_eql rfl rfl w) (decide_eq_false HX)) (zm rfl (zp (zp (zp (zp ?_)))))
       refine zp (zp (zo (op_pickF rfl rfl rfl) (zm rfl (zp (zo (op_pickF rfl rfl rfl) ?_)))))
       refine za rfl (zn ?_)
       refine Go1.ret1 Try.func11 rfl ?_
       replace hB := (((((((((((((((hB.trans vc.fr).trans m5.fr).trans eK.fr).trans yW.fr).trans yX.fr).trans gl.fr).trans gD.fr).trans kh.fr).trans ja.fr).trans qB.fr).trans iO.fr).trans qC.fr).trans qD.fr).trans qE.fr).trans qH.fr).trans qI.fr
       exact ⟨false, rfl, hB.same, H⟩
      replace H := ifp rfl H
      refine zt rfl rfl ?_
      refine Go1.cut [(3, .int .i64 a3), (4, .int .i64 a4), (5, .string (gstr a5)), (15, .pointer (some ⟨B21, 0, none⟩)), (19, .int .i64 r226)] ⟨rfl, rfl, rfl, rfl, rfl, trivial⟩ ?_
      intro σ _
      refine Go1.drawS 0 [(0, .pure), (1, .stable), (2, .pure), (3, .stable), (4, .pure), (5, .pure), (6, .stable), (7, .pure), (8, .stable), (9, .pure), (10, .pure), (11, .stable), (12, .loud), (13, .loud), (14, .pure)] mixed (by kernel_rfl) ?_
      intro Ui Tr
      have qJ := Stp.same hO Tr
      replace hO := qJ.own
      refine GoQ.pure rfl (op_fieldAddr Try.underlying29 rfl ti22 rfl (by decide)) rfl rfl ?_
      refine GoQ.stable rfl (oblk (i := 3) 0 hO rfl rfl Try.underlying22 rfl rfl) rfl rfl ?_
      refine GoQ.pure rfl (op_fieldAddr Try.underlying29 rfl ti22 rfl (by decide)) rfl rfl ?_
      refine GoQ.stable rfl (oblk (i := 3) 0 hO rfl rfl Try.underlying22 rfl rfl) rfl rfl ?_
      refine GoQ.pure rfl (op_move rfl) rfl rfl ?_
      obtain ⟨JT, H⟩ := H
      obtain ⟨JU, H⟩ := H
      have Z16 := ((qD.ch.trans qE.ch).trans qH.ch).trans qJ.ch
      replace bj := bj.ch Z16
      refine GoQ.pure rfl (op_index Try.underlying22 ti26 rfl rfl JT JU (bj.some_ JT JU)) rfl rfl ?_
      have hobt := ldSl bj JT JU
      obtain ⟨adO, adP, yi, Ts⟩ := hobt
      refine GoQ.stable rfl (Ts Try.underlying26 rfl rfl) rfl rfl ?_
      refine GoQ.pure rfl (op_fieldAddr Try.underlying29 rfl ti22 rfl (by decide)) rfl rfl ?_
      refine GoQ.stable rfl (oblk (i := 3) 0 hO rfl rfl Try.underlying22 rfl rfl) rfl rfl ?_
      refine GoQ.pure rfl (op_move rfl) rfl rfl ?_
      obtain ⟨JV, H⟩ := H
      obtain ⟨JW, H⟩ := H
      refine GoQ.pure rfl (op_index Try.underlying22 ti26 rfl rfl JV JW (bj.some_ JV JW)) rfl rfl ?_
      have hobt := ldSl bj JV JW
      obtain ⟨adQ, adR, yj, Tt⟩ := hobt
      refine GoQ.stable rfl (Tt Try.underlying26 rfl rfl) rfl rfl ?_
      refine GoQ.call rfl (op_call body43 rfl (walk_ref11_Compose hO.lt yi yj H)) (fun v w hr => by obtain ⟨_, _, _, _, hs, _, _⟩ := hr; assumption) rfl rfl ?_
      rintro adS adT ⟨r299, Xb, Xc, rfl, Tu, yk, H⟩
      have oX := Stp.same hO Tu
      replace hO := oX.own
      replace bj := bj.ch oX.ch
      refine GoQ.call rfl (op_call body41 rfl (walk_ref12_Find hO.lt bj yk H)) (fun v w hr => by obtain ⟨_, _, hs, _⟩ := hr; assumption) rfl rfl ?_
      rintro adU Uk ⟨r305, rfl, Tv, H⟩
      have gp := Stp.same hO Tv
      replace hO := gp.own
      refine GoQ.pure rfl (op_assign rfl) rfl rfl ?_
      refine GoQ.nil ?_
      refine zq (zr (zs (oblkAgg (vs := [.int .i64 r30.Points, .bool r30.Monoid, .slice gv r30.Gens.length gw, .slice fP r30.Elems.length fQ, .slice fJ r30.Prefix.length fK, .slice gx r30.Last.length gy, .slice fR r30.Right.length fS, .slice fT r30.Rules.length fU, .int .i64 r30.Done]) (i := 0) 0 hO rfl rfl Try.underlying29 rfl ti29 rfl) (zm rfl ?_)))
      replace bj := bj.ch gp.ch
      have Z17 := (Z16.trans oX.ch).trans gp.ch
      replace bu := bu.ch Z17
      replace bk := bk.ch Z17
      replace bv := bv.ch Z17
      replace bm := bm.ch Z17
      replace bn := bn.ch Z17
      refine GoR.call (op_call body30 rfl (walk_enumerate_OfWord (e := r30) hO.lt bu bj bk bv bm bn yV H)) rfl rfl ?_
      rintro adV V5 ⟨r311, rfl, HH, H⟩
      have gL := Stp.same hO HH
      replace hO := gL.own
      refine zm rfl ?_
      by_cases H0 : r311 = r226
      ·replace H := ifp H0 H
       refine zo (fun w => opB (op_eql rfl rfl w) (decide_eq_true H0)) (zm rfl (zs (oblkAgg (vs := [.int .i64 r30.Points, .bool r30.Monoid, .slice gv r30.Gens.length gw, .slice fP r30.Elems.length fQ, .slice fJ r30.Prefix.length fK, .slice gx r30.Last.length gy, .slice fR r30.Right.length fS, .slice fT r30.Rules.length fU, .int .i64 r30.Done]) (i := 0) 0 hO rfl rfl Try.underlying29 rfl ti29 rfl) (zm rfl (zm rfl ?_))))
       replace bu := bu.ch gL.ch
       replace bj := bj.ch gL.ch
       replace bk := bk.ch gL.ch
       replace bv := bv.ch gL.ch
       replace bm := bm.ch gL.ch
       replace bn := bn.ch gL.ch
       refine GoR.call (op_call body36 rfl (walk_enumerate_Product (e := r30) hO.lt bu bj bk bv bm bn H)) rfl rfl ?_
       rintro adW adX ⟨r318, rfl, Tw, H⟩
       have og := Stp.same hO Tw
       replace hO := og.own
       refine zm rfl ?_
       by_cases H1 : r318 = r305
       ·replace H := ifp H1 H
        refine zo (fun w => opB (op_eql rfl rfl w) (decide_eq_true H1)) (zo (op_pickT rfl rfl rfl) (zm rfl ?_))
        refine GoR.call (op_call body16 rfl (walk_law12_awake hO.lt H)) rfl rfl ?_
        rintro adY ad0 ⟨r325, rfl, Tx, H⟩
        have oh := Stp.same hO Tx
        replace hO := oh.own
        refine zo (op_pickT rfl rfl rfl) (za rfl (zn ?_))
        refine Go1.ret1 Try.func11 rfl ?_
        replace hB := ((((((((((((((((((((hB.trans vc.fr).trans m5.fr).trans eK.fr).trans yW.fr).trans yX.fr).trans gl.fr).trans gD.fr).trans kh.fr).trans ja.fr).trans qB.fr).trans iO.fr).trans qC.fr).trans qD.fr).trans qE.fr).trans qH.fr).trans qJ.fr).trans oX.fr).trans gp.fr).trans gL.fr).trans og.fr).trans oh.fr
        exact ⟨r325, rfl, hB.same, H⟩
       replace H := ifn H1 H
       refine zo (fun w => opB (op_eql rfl rfl w) (decide_eq_false H1)) (zo (op_pickT rfl rfl rfl) (zm rfl (zp (zo (op_pickF rfl rfl rfl) (za rfl ?_)))))
       refine zn ?_
       refine Go1.ret1 Try.func11 rfl ?_
       replace hB := (((((((((((((((((((hB.trans vc.fr).trans m5.fr).trans eK.fr).trans yW.fr).trans yX.fr).trans gl.fr).trans gD.fr).trans kh.fr).trans ja.fr).trans qB.fr).trans iO.fr).trans qC.fr).trans qD.fr).trans qE.fr).trans qH.fr).trans qJ.fr).trans oX.fr).trans gp.fr).trans gL.fr).trans og.fr
       exact ⟨false, rfl, hB.same, H⟩
      replace H := ifn H0 H
      refine zo (fun w => opB (op_eql rfl rfl w) (decide_eq_false H0)) (zm rfl (zp (zp (zp (zp ?_)))))
      refine zp (zp (zo (op_pickF rfl rfl rfl) (zm rfl (zp (zo (op_pickF rfl rfl rfl) ?_)))))
      refine za rfl (zn ?_)
      refine Go1.ret1 Try.func11 rfl ?_
      replace hB := ((((((((((((((((((hB.trans vc.fr).trans m5.fr).trans eK.fr).trans yW.fr).trans yX.fr).trans gl.fr).trans gD.fr).trans kh.fr).trans ja.fr).trans qB.fr).trans iO.fr).trans qC.fr).trans qD.fr).trans qE.fr).trans qH.fr).trans qJ.fr).trans oX.fr).trans gp.fr).trans gL.fr
      exact ⟨false, rfl, hB.same, H⟩
     replace H := ifn BR H
     refine zo (fun w => opB (op_eql rfl rfl w) (decide_eq_false BR)) (zn (zf rfl rfl (zk (zq ?_))))
     refine Go1.cut [(3, .int .i64 a3), (4, .int .i64 a4), (5, .string (gstr a5)), (15, .pointer (some ⟨B21, 0, none⟩)), (19, .int .i64 (-1 : Int)), (20, .int .i64 (-1 : Int))] ⟨rfl, rfl, rfl, rfl, rfl, rfl, trivial⟩ ?_
     intro σ _
     refine zr (zs (oblkAgg (vs := [.int .i64 r30.Points, .bool r30.Monoid, .slice gv r30.Gens.length gw, .slice fP r30.Elems.length fQ, .slice fJ r30.Prefix.length fK, .slice gx r30.Last.length gy, .slice fR r30.Right.length fS, .slice fT r30.Rules.length fU, .int .i64 r30.Done]) (i := 0) 0 hO rfl rfl Try.underlying29 rfl ti29 rfl) (zm rfl ?_))
     replace bj := bj.ch qC.ch
     have Z18 := iO.ch.trans qC.ch
     replace bu := bu.ch Z18
     replace bk := bk.ch Z18
     replace bv := bv.ch Z18
     replace bm := bm.ch Z18
     replace bn := bn.ch Z18
     refine GoR.call (op_call body30 rfl (walk_enumerate_OfWord (e := r30) hO.lt bu bj bk bv bm bn yV H)) rfl rfl ?_
     rintro ad1 ad2 ⟨r331, rfl, Ty, H⟩
     have qK := Stp.same hO Ty
     replace hO := qK.own
     refine zm rfl ?_
     by_cases H2 : r331 = (-1 : Int)
     ·replace H := ifp H2 H
      refine zo (fun w => opB (op_eql rfl rfl w) (decide_eq_true H2)) (zm rfl (zs (oblkAgg (vs := [.int .i64 r30.Points, .bool r30.Monoid, .slice gv r30.Gens.length gw, .slice fP r30.Elems.length fQ, .slice fJ r30.Prefix.length fK, .slice gx r30.Last.length gy, .slice fR r30.Right.length fS, .slice fT r30.Rules.length fU, .int .i64 r30.Done]) (i := 0) 0 hO rfl rfl Try.underlying29 rfl ti29 rfl) (zm rfl (zm rfl ?_))))
      replace bu := bu.ch qK.ch
      replace bj := bj.ch qK.ch
      replace bk := bk.ch qK.ch
      replace bv := bv.ch qK.ch
      replace bm := bm.ch qK.ch
      replace bn := bn.ch qK.ch
      refine GoR.call (op_call body36 rfl (walk_enumerate_Product (e := r30) hO.lt bu bj bk bv bm bn H)) rfl rfl ?_
      rintro ad3 Um ⟨r338, rfl, Tz, H⟩
      have qL := Stp.same hO Tz
      replace hO := qL.own
      refine zm rfl ?_
      by_cases H3 : r338 = (-1 : Int)
      ·replace H := ifp H3 H
       refine zo (fun w => opB (op_eql rfl rfl w) (decide_eq_true H3)) (zo (op_pickT rfl rfl rfl) (zm rfl ?_))
       refine GoR.call (op_call body16 rfl (walk_law12_awake hO.lt H)) rfl rfl ?_
       rintro ad4 ad5 ⟨r345, rfl, TA, H⟩
       have qM := Stp.same hO TA
       replace hO := qM.own
       refine zo (op_pickT rfl rfl rfl) (za rfl (zn ?_))
       refine Go1.ret1 Try.func11 rfl ?_
       replace hB := ((((((((((((((hB.trans vc.fr).trans m5.fr).trans eK.fr).trans yW.fr).trans yX.fr).trans gl.fr).trans gD.fr).trans kh.fr).trans ja.fr).trans qB.fr).trans iO.fr).trans qC.fr).trans qK.fr).trans qL.fr).trans qM.fr
       exact ⟨r345, rfl, hB.same, H⟩
      replace H := ifn H3 H
      refine zo (fun w => opB (op_eql rfl rfl w) (decide_eq_false H3)) (zo (op_pickT rfl rfl rfl) (zm rfl (zp (zo (op_pickF rfl rfl rfl) (za rfl ?_)))))
      refine zn ?_
      refine Go1.ret1 Try.func11 rfl ?_
      replace hB := (((((((((((((hB.trans vc.fr).trans m5.fr).trans eK.fr).trans yW.fr).trans yX.fr).trans gl.fr).trans gD.fr).trans kh.fr).trans ja.fr).trans qB.fr).trans iO.fr).trans qC.fr).trans qK.fr).trans qL.fr
      exact ⟨false, rfl, hB.same, H⟩
     replace H := ifn H2 H
     refine zo (fun w => opB (op_eql rfl rfl w) (decide_eq_false H2)) (zm rfl (zp (zp (zp (zp ?_)))))
     refine zp (zp (zo (op_pickF rfl rfl rfl) (zm rfl (zp (zo (op_pickF rfl rfl rfl) ?_)))))
     refine za rfl (zn ?_)
     refine Go1.ret1 Try.func11 rfl ?_
     replace hB := ((((((((((((hB.trans vc.fr).trans m5.fr).trans eK.fr).trans yW.fr).trans yX.fr).trans gl.fr).trans gD.fr).trans kh.fr).trans ja.fr).trans qB.fr).trans iO.fr).trans qC.fr).trans qK.fr
     exact ⟨false, rfl, hB.same, H⟩
    replace H := ifn EX H
    refine GoQ.pure rfl (fun w => opB (op_neq rfl rfl w) (ndF EX)) rfl rfl ?_
    refine GoQ.pure rfl (op_pickF rfl rfl rfl) rfl rfl ?_
    refine GoQ.nil ?_
    refine zt rfl rfl (zq ?_)
    refine Go1.cut [] trivial ?_
    intro σ _
    refine zr (za rfl (zn ?_))
    refine Go1.ret1 Try.func11 rfl ?_
    replace hB := (((((((((((hB.trans vc.fr).trans m5.fr).trans eK.fr).trans yW.fr).trans yX.fr).trans gl.fr).trans gD.fr).trans kh.fr).trans ja.fr).trans qB.fr).trans iO.fr).trans qC.fr
    exact ⟨false, rfl, hB.same, H⟩
   replace H := ifn yq H
   refine GoQ.pure rfl (fun w => opB (op_neqS rfl rfl w) (ndF yq)) rfl rfl ?_
   refine GoQ.pure rfl (op_move rfl) rfl rfl ?_
   refine GoQ.pass rfl rfl rfl ?_
   refine GoQ.pass rfl rfl rfl ?_
   refine GoQ.pass rfl rfl rfl ?_
   refine GoQ.pass rfl rfl rfl ?_
   refine GoQ.pass rfl rfl rfl ?_
   refine GoQ.pass rfl rfl rfl ?_
   refine GoQ.pass rfl rfl rfl ?_
   refine GoQ.pass rfl rfl rfl ?_
   refine GoQ.pure rfl (op_pickT rfl rfl rfl) rfl rfl ?_
   refine GoQ.nil ?_
   refine zt rfl rfl (zq (zr (za rfl (zn ?_))))
   refine Go1.ret1 Try.func11 rfl ?_
   replace hB := (((((((((hB.trans vc.fr).trans m5.fr).trans eK.fr).trans yW.fr).trans yX.fr).trans gl.fr).trans gD.fr).trans kh.fr).trans ja.fr).trans qB.fr
   exact ⟨false, rfl, hB.same, H⟩
  replace H := ifn h40 H
  refine zo (fun w => opB (op_neq rfl rfl w) (ndF h40)) (zn (zt rfl rfl (zq (zr ?_))))
  refine GoR.call (op_call body16 rfl (walk_law12_awake hO.lt H)) rfl rfl ?_
  rintro ad6 ad7 ⟨r351, rfl, TB, H⟩
  have qN := Stp.same hO TB
  replace hO := qN.own
  refine za rfl (zn ?_)
  refine Go1.ret1 Try.func11 rfl ?_
  replace hB := ((((((hB.trans vc.fr).trans m5.fr).trans eK.fr).trans yW.fr).trans yX.fr).trans gl.fr).trans qN.fr
  exact ⟨r351, rfl, hB.same, H⟩
 replace H := ifn h29 H
 refine zo (fun w => opB (op_neq rfl rfl w) (ndF h29)) (zn (zt rfl rfl (zq (zr (za rfl ?_)))))
 refine zn ?_
 refine Go1.ret1 Try.func11 rfl ?_
 replace hB := (((hB.trans vc.fr).trans m5.fr).trans eK.fr).trans yW.fr
 exact ⟨false, rfl, hB.same, H⟩
end Sg
