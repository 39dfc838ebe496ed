/- -/
import Derived.Test.YtlneebpmblkllaaVd
import Derived.Test.YtlneebpmblkllaaWSyntacticMonoidsc
import Derived.Test.YtlneebpmblkllaaWSyntacticMonoidsd
namespace Sg
open Go Go.RowKit Go.Proofs
set_option linter.unusedVariables false
set_option linter.unusedSimpArgs false
set_option maxRecDepth 100000
set_option maxHeartbeats 4000000
theorem body161 : Body Try.prog 161 := ⟨Try.f161, Try.func161, rfl, by kernel_rfl⟩
theorem J47 {A : List Nat} {w0 : World} {dF : Option Addr} {dG : Nat} {gens : List (List Int)} (hA : ∀ b ∈ A, b < w0.heap.size) (fD : ISl (Rp.sl (Rp.int .i64)) A w0 dF dG gens) {K : Bool → Prop} (H : J17 gens K) :
    CallsV Try.prog 161 #[.slice dF gens.length dG] w0 (fun v w' => ∃ (r0 : Bool), v = .bool r0 ∧ Same w0 w' ∧ K r0) := by
 refine CallsV.of (l := [.slice dF gens.length dG]) Try.func161 rfl Try.ntmps161 rfl ?_
 have hO := Owns.start hA
 have hB := Fr.refl (bl []) w0
 unfold J17 at H
 refine au ?_
 refine sln0 ?_
 refine scm (H fD.bd) (fun h1 H => ?_) fun h1 H => ?_
 ·refine au ?_
  refine Go1.ret1 Try.func161 rfl ⟨_, ?_, frs, H⟩
  exact rfl
 refine au ?_
 refine sln0 ?_
 refine scm H (fun h2 H => ?_) fun h2 H => ?_
 ·refine au ?_
  refine Go1.ret1 Try.func161 rfl ⟨_, ?_, frs, H⟩
  exact rfl
 refine au ?_
 refine sln0 ?_
 refine au ?_
 refine lw H (fun k1_4 σ w => (fun Z => agrees σ [(0, .slice dF gens.length dG), (13, .slice dF gens.length dG), (14, .int .i64 (gens.length : Int)), (15, .int .i64 (k1_4 : Int))] ∧ Owns w0.heap.size w Z A ∧ Fr (bl []) w0 (bl Z) w) []) ⟨agr, hO, fr⟩ ?_
 refine fun X1 => fun k1_4 => fun H hX1 σ w3 => d2 fun hag hO hB => ?_
 refine Go1.keep _ hag ?_
 refine au ?_
 refine scm H (fun h5 H => ?_) fun h5 H => ?_
 ·refine au ?_
  refine sxls hO fD.u H.1 H.2.1 fun p6 c7 hi8 => ?_
  refine au ?_
  have h11 := H.1
  have h12 := H.2.1
  refine zcr (J02 body170 rfl (J4F hO.lt hi8.u H.2.2)) fun _ w10 => e1 fun r9 => sc0 hO fun s hO => fun H => ?_
  cases r9
  ·refine au ?_
   refine Go1.ret1 Try.func161 rfl ⟨_, ?_, frs, (iF H)⟩
   exact rfl
  refine au ?_
  refine sln0 ?_
  refine au ?_
  refine six fD ((iT H) hi8.bd).1 ((iT H) hi8.bd).2.1 ?_
  refine slds hO fD.u ((iT H) hi8.bd).1 ((iT H) hi8.bd).2.1 fun p13 c14 jM => ?_
  refine sln0 ?_
  have h16 := ((iT H) hi8.bd).1
  have h17 := ((iT H) hi8.bd).2.1
  refine scm (((iT H) hi8.bd).2.2 jM.bd) (fun h18 H => ?_) fun h18 H => ?_
  ·refine au ?_
   refine sinc (natbd h5 fD.bd) ?_
   refine au ?_
   exact hX1 _ H _ _ ⟨agr, hO, fr⟩
  refine au ?_
  refine Go1.ret1 Try.func161 rfl ⟨_, ?_, frs, H⟩
  exact rfl
 refine au ?_
 refine Go1.ret1 Try.func161 rfl ⟨_, ?_, frs, H⟩
 exact rfl
theorem body162 : Body Try.prog 162 := ⟨Try.f162, Try.func162, rfl, by kernel_rfl⟩
theorem J5f {A : List Nat} {w0 : World} {p_a : Option Addr} {c_a : Nat} {a : List (List Int)} (hA : ∀ b ∈ A, b < w0.heap.size) (h_a : ISl (Rp.sl (Rp.int .i64)) A w0 p_a c_a a) {K : List (List Int) → Prop} (H : J2w a K) :
    CallsV Try.prog 162 #[.slice p_a a.length c_a] w0 (fun v w' => ∃ (r0 : List (List Int)), ∃ (gA : Nat), ∃ (bS : Option Addr), ∃ (bT : Nat), ∃ (FT : Hd), v = .slice bS gA bT ∧ Same w0 w' ∧ Owns w0.heap.size w' [t2 Fl.i 31 3 bS gA bT FT r0] A ∧ K r0) := by
 refine CallsV.of (l := [.slice p_a a.length c_a]) Try.func162 rfl Try.ntmps162 rfl ?_
 have hO := Owns.start hA
 have hB := Fr.refl (bl []) w0
 unfold J2w at H
 refine au ?_
 refine sln0 ?_
 refine au ?_
 have hst2 := t2nil (e := 31) (e' := 3) Fl.i hO
 refine nst hst2 fun s hO => ?_
 refine lw (H h_a.bd) (fun (k1_4, out1_5) σ w => ∃ n8 p6 c7 hs9, (fun Z => agrees σ [(3, .slice p6 n8 c7), (6, .slice p_a a.length c_a), (7, .int .i64 (a.length : Int)), (8, .int .i64 (k1_4 : Int))] ∧ Owns w0.heap.size w Z A ∧ Fr (bl []) w0 (bl Z) w) [t2 Fl.i 31 3 p6 n8 c7 hs9 out1_5]) ⟨_, _, _, _, agr, hO, fr⟩ ?_
 refine fun X1 => p1 fun k1_4 out1_5 => fun H hX1 σ w3 => e4 fun n8 p6 c7 hs9 => d2 fun hag hO hB => ?_
 dsimp only at H
 refine Go1.keep _ hag ?_
 revert hO; repeat (rename Owns _ _ _ _ => q; clear q)
 intro hO; repeat (rename Sq _ _ _ _ _ _ => q; clear q)
 refine au ?_
 refine scm H (fun h10 H => ?_) fun h10 H => ?_
 ·refine au ?_
  refine sxls hO h_a.u H.1 H.2.1 fun p11 c12 Mn => ?_
  refine au ?_
  refine sbu Fl.i 3 ([] : List Int) hO fun w14 p15 s hO => ?_
  refine au ?_
  refine sap 0 hO Mn.u H.2.2 fun w17 p18 c19 s hO => ?_
  refine op1 0 hO fun Yq s hO Mo => ?_
  have zz := t2build1 Fl.i Try.underlying23 ti31 hO Mo.u
  obtain ⟨w22, p23, qk, FU⟩ := zz
  refine zg (FU rfl) ?_
  refine nst qk fun s hO => ?_
  refine sfr 1 hO fun s hO => ?_
  refine sfr 1 hO fun s hO => ?_
  have h27 := H.1
  have h28 := H.2.1
  replace H := H.2.2.2
  obtain ⟨h29, H⟩ := H
  have zz := t2cat Try.underlying23 ti31 hO h29 (by decide)
  obtain ⟨w30, p31, c32, FV, FW⟩ := zz
  refine zg (FW (by exact rfl) (by exact rfl)) ?_
  refine nst FV fun s hO => ?_
  refine au ?_
  refine sinc (natbd h10 h_a.bd) ?_
  refine au ?_
  exact hX1 _ H _ _ ⟨_, _, _, _, agr, hO, fr⟩
 refine au ?_
 refine Go1.ret1 Try.func162 rfl ⟨_, _, _, _, _, ?_, frs, hO, H⟩
 exact rfl
theorem body51 : Body Try.prog 51 := ⟨Try.f51, Try.func51, rfl, by kernel_rfl⟩
theorem J3H {A : List Nat} {w0 : World} {n : Int} (hA : ∀ b ∈ A, b < w0.heap.size) {K : List Int → Prop} (H : J0O n K) :
    CallsV Try.prog 51 #[.int .i64 n] w0 (fun v w' => ∃ (r0 : List Int), ∃ (bS : Option Addr), ∃ (bT : Nat), v = .slice bS r0.length bT ∧ Same w0 w' ∧ ISl (Rp.int .i64) A w' bS bT r0 ∧ K r0) := by
 refine CallsV.of (l := [.int .i64 n]) Try.func51 rfl Try.ntmps51 rfl ?_
 have hO := Owns.start hA
 have hB := Fr.refl (bl []) w0
 unfold J0O at H
 refine au ?_
 refine smk Fl.i H hO fun w1 p4 s hO => ?_
 refine au ?_
 refine sln1 0 hO ?_
 refine au ?_
 refine lw H.2.2 (fun (bC, A8) σ w => (fun Z => agrees σ [(3, .slice p4 n.toNat n.toNat), (8, .int .i64 ((List.replicate n.toNat ((0 : Int))).length : Int)), (9, .int .i64 (bC : Int))] ∧ Owns w0.heap.size w Z A ∧ Fr (bl []) w0 (bl Z) w) [t1 Fl.i 3 p4 n.toNat n.toNat A8]) ⟨agr, hO, fr⟩ ?_
 refine fun X1 => p1 fun bC A8 => fun H hX1 σ w6 => d2 fun hag hO hB => ?_
 dsimp only at H
 refine Go1.keep _ hag ?_
 revert hO; repeat (rename Owns _ _ _ _ => q; clear q)
 intro hO; repeat (rename Sq _ _ _ _ _ _ => q; clear q)
 refine au ?_
 refine scm H (fun h9 H => ?_) fun h9 H => ?_
 ·refine au ?_
  refine six1 0 hO H.1 H.2.1 ?_
  refine sst (u := (bC : Int)) 0 hO H.1 H.2.1 fun w10 s hO => ?_
  refine au ?_
  have h11 := H.1
  have h12 := H.2.1
  replace H := H.2.2
  obtain ⟨h13, H⟩ := H
  refine zo (J04 rfl rfl (wrap_i64 h13)) ?_
  refine au ?_
  exact hX1 _ H _ _ ⟨agr, hO, fr⟩
 refine au ?_
 refine sfz 0 hO fun s hO kG iW => ?_
 refine Go1.ret1 Try.func51 rfl ⟨_, _, _, ?_, frs, kG.r, H⟩
 exact (congrArg (fun nn => Value.slice p4 nn n.toNat) iW)
theorem body107 : Body Try.prog 107 := ⟨Try.f107, Try.func107, rfl, by kernel_rfl⟩
theorem J1e {A : List Nat} {w0 : World} {ks : Option Addr} {kt : Nat} {p_f : Option Addr} {c_f : Nat} {elems : List (List Int)} {f : List Int} (hA : ∀ b ∈ A, b < w0.heap.size) (mb : ISl (Rp.sl (Rp.int .i64)) A w0 ks kt elems) (h_f : ISl (Rp.int .i64) A w0 p_f c_f f) {K : Int → Prop} (H : J0Z elems f K) :
    CallsV Try.prog 107 #[.slice ks elems.length kt, .slice p_f f.length c_f] w0 (fun v w' => ∃ (r0 : Int), v = .int .i64 r0 ∧ Same w0 w' ∧ K r0) := by
 refine CallsV.of (l := [.slice ks elems.length kt, .slice p_f f.length c_f]) Try.func107 rfl Try.ntmps107 rfl ?_
 have hO := Owns.start hA
 have hB := Fr.refl (bl []) w0
 unfold J0Z at H
 refine au ?_
 refine sln0 ?_
 refine au ?_
 refine lw (H mb.bd) (fun k1_2 σ w => (fun Z => agrees σ [(0, .slice ks elems.length kt), (1, .slice p_f f.length c_f), (7, .int .i64 (elems.length : Int)), (8, .int .i64 (k1_2 : Int))] ∧ Owns w0.heap.size w Z A ∧ Fr (bl []) w0 (bl Z) w) []) ⟨agr, hO, fr⟩ ?_
 refine fun X1 => fun k1_2 => fun H hX1 σ w1 => d2 fun hag hO hB => ?_
 refine Go1.keep _ hag ?_
 refine au ?_
 refine scm H (fun h3 H => ?_) fun h3 H => ?_
 ·refine au ?_
  refine sxls hO mb.u H.1 H.2.1 fun p4 c5 hi6 => ?_
  refine au ?_
  have h9 := H.1
  have h10 := H.2.1
  refine zcr (J02 body49 rfl (J1b hO.lt hi6.u h_f.u H.2.2)) fun _ w8 => e1 fun r7 => sc0 hO fun s hO => fun H => ?_
  refine au ?_
  cases r7
  ·refine au ?_
   refine sinc (natbd h3 mb.bd) ?_
   refine au ?_
   exact hX1 _ (iF H) _ _ ⟨agr, hO, fr⟩
  refine au ?_
  refine Go1.ret1 Try.func107 rfl ⟨_, ?_, frs, (iT H)⟩
  exact rfl
 refine au ?_
 refine Go1.ret1 Try.func107 rfl ⟨_, ?_, frs, H⟩
 exact rfl
theorem body137 : Body Try.prog 137 := ⟨Try.f137, Try.func137, rfl, by kernel_rfl⟩
theorem J0J {A : List Nat} {w0 : World} {x : Int} (hA : ∀ b ∈ A, b < w0.heap.size) {K : Str → Prop} (H : J0u x K) :
    CallsV Try.prog 137 #[.int .i64 x] w0 (fun v w' => ∃ (r0 : Str), v = .string (gstr r0) ∧ Same w0 w' ∧ r0.length ≤ mx ∧ K r0) := by
 refine CallsV.of (l := [.int .i64 x]) Try.func137 rfl Try.ntmps137 rfl ?_
 have hO := Owns.start hA
 have hB := Fr.refl (bl []) w0
 unfold J0u at H
 refine au ?_
 obtain ⟨h1, H⟩ := H
 refine zo (J04 rfl rfl (wrap_i64 h1)) ?_
 refine zo (J2H Try.underlying3 Try.underlying5 rfl rfl) ?_
 refine sbu (Fl.int .u8) 5 [(IntKind.u8.wrap ((97 : Int) + x))] hO fun w2 p4 s hO => ?_
 refine op1 0 hO fun vs6 s hO hE7 => ?_
 have hle8 := J0p hE7.bd
 refine zs (oldBytes 0 hO rfl hE7.u Try.underlying126 Try.underlying5 Try.underlying9 rfl) ?_
 refine au ?_
 refine Go1.ret1 Try.func137 rfl ⟨_, ?_, frs, hle8, H⟩
 exact rfl
theorem body106 : Body Try.prog 106 := ⟨Try.f106, Try.func106, rfl, by kernel_rfl⟩
theorem J0G {A : List Nat} {w0 : World} {dp : Option Addr} {dq : Nat} {cU : Option Addr} {cV : Nat} {cK : Option Addr} {cL : Nat} {dr : Option Addr} {dt : Nat} {cW : Option Addr} {cX : Nat} {cY : Option Addr} {c8 : Nat} {e : Enum} {i : Int} (hA : ∀ b ∈ A, b < w0.heap.size) (oh : ISl (Rp.sl (Rp.int .i64)) A w0 dp dq e.Gens) (gW : ISl (Rp.sl (Rp.int .i64)) A w0 cU cV e.Elems) (jo : ISl (Rp.int .i64) A w0 cK cL e.Prefix) (iE : ISl (Rp.int .i64) A w0 dr dt e.Last) (jY : ISl (Rp.sl (Rp.int .i64)) A w0 cW cX e.Right) (mp : ISl (rpRule) A w0 cY c8 e.Rules) {K : Str → Prop} (H : J0L e i K) :
    CallsV Try.prog 106 #[.agg #[.int .i64 e.Points, .bool e.Monoid, .slice dp e.Gens.length dq, .slice cU e.Elems.length cV, .slice cK e.Prefix.length cL, .slice dr e.Last.length dt, .slice cW e.Right.length cX, .slice cY e.Rules.length c8, .int .i64 e.Done], .int .i64 i] w0 (fun v w' => ∃ (r0 : Str), v = .string (gstr r0) ∧ Same w0 w' ∧ r0.length ≤ mx ∧ K r0) := by
 refine CallsV.of (l := [.agg #[.int .i64 e.Points, .bool e.Monoid, .slice dp e.Gens.length dq, .slice cU e.Elems.length cV, .slice cK e.Prefix.length cL, .slice dr e.Last.length dt, .slice cW e.Right.length cX, .slice cY e.Rules.length c8, .int .i64 e.Done], .int .i64 i]) Try.func106 rfl Try.ntmps106 rfl ?_
 have hO := Owns.start hA
 have hB := Fr.refl (bl []) w0
 unfold J0L at H
 refine au ?_
 refine sbx hO fun w1 B2 s hO => ?_
 refine au ?_
 refine lw H (fun (i1_5, wu) σ w => (fun Z => agrees σ [(1, .int .i64 i1_5), (2, .pointer (some ⟨B2, 0, none⟩)), (5, .string (gstr wu))] ∧ Owns w0.heap.size w Z A ∧ wu.length ≤ mx ∧ Fr (bl []) w0 (bl Z) w) [.blk B2 (.cells #[.int .i64 e.Points, .bool e.Monoid, .slice dp e.Gens.length dq, .slice cU e.Elems.length cV, .slice cK e.Prefix.length cL, .slice dr e.Last.length dt, .slice cW e.Right.length cX, .slice cY e.Rules.length c8, .int .i64 e.Done] 123 (0, 0))]) ⟨agr, hO, (by decide), fr⟩ ?_
 refine fun X1 => p1 fun i1_5 wu => fun H hX1 σ w4 => d3 fun hag hO hle_w1_6 hB => ?_
 dsimp only at H
 refine Go1.keep _ hag ?_
 revert hO; repeat (rename Owns _ _ _ _ => q; clear q)
 intro hO; repeat (rename Sq _ _ _ _ _ _ => q; clear q)
 refine au ?_
 refine scm H (fun h7 H => ?_) fun h7 H => ?_
 ·refine au ?_
  refine six iE H.1 H.2.1 ?_
  refine sld hO iE.u H.1 H.2.1 ?_
  have h8 := H.1
  have h9 := H.2.1
  refine scm H.2.2 (fun h10 H => ?_) fun h10 H => ?_
  ·refine au ?_
   refine sxl hO iE.u H.1 H.2.1 ?_
   have h13 := H.1
   have h14 := H.2.1
   refine zcr (J02 body137 rfl (J0J hO.lt H.2.2)) fun _ w12 => e1 fun r11 => sc0 hO fun s hO => d1 fun NO H => ?_
   refine au ?_
   obtain ⟨h15, H⟩ := H
   refine zo (J0a rfl rfl h15) ?_
   refine au ?_
   refine sxl hO jo.u H.1 H.2.1 ?_
   refine au ?_
   exact hX1 _ H.2.2 _ _ ⟨agr, hO, (lenApp h15), fr⟩
  refine au ?_
  refine Go1.ret1 Try.func106 rfl ⟨_, ?_, frs, hle_w1_6, H⟩
  exact rfl
 refine au ?_
 refine Go1.ret1 Try.func106 rfl ⟨_, ?_, frs, hle_w1_6, H⟩
 exact rfl
theorem body135 : Body Try.prog 135 := ⟨Try.f135, Try.func135, rfl, by kernel_rfl⟩
theorem J4B {A : List Nat} {w0 : World} {fQ : Option Addr} {fR : Nat} {a0 : List (List Int)} {a1 : Bool} (hA : ∀ b ∈ A, b < w0.heap.size) (fm : ISl (Rp.sl (Rp.int .i64)) A w0 fQ fR a0) {K : Enum → Int → Prop} (H : J1V a0 a1 K) :
    CallsV Try.prog 135 #[.slice fQ a0.length fR, .bool a1] w0 (fun v w' => ∃ (r0 : Enum), ∃ (r1 : Int), ∃ (dH : Option Addr), ∃ (dI : Nat), ∃ (de : Option Addr), ∃ (dg : Nat), ∃ (cN : Option Addr), ∃ (cO : Nat), ∃ (dJ : Option Addr), ∃ (dK : Nat), ∃ (dh : Option Addr), ∃ (di : Nat), ∃ (dj : Option Addr), ∃ (dk : Nat), v = .tuple #[.agg #[.int .i64 r0.Points, .bool r0.Monoid, .slice dH r0.Gens.length dI, .slice de r0.Elems.length dg, .slice cN r0.Prefix.length cO, .slice dJ r0.Last.length dK, .slice dh r0.Right.length di, .slice dj r0.Rules.length dk, .int .i64 r0.Done], .int .i64 r1] ∧ Same w0 w' ∧ ISl (Rp.sl (Rp.int .i64)) A w' dH dI r0.Gens ∧ ISl (Rp.sl (Rp.int .i64)) A w' de dg r0.Elems ∧ ISl (Rp.int .i64) A w' cN cO r0.Prefix ∧ ISl (Rp.int .i64) A w' dJ dK r0.Last ∧ ISl (Rp.sl (Rp.int .i64)) A w' dh di r0.Right ∧ ISl (rpRule) A w' dj dk r0.Rules ∧ K r0 r1) := by
 refine CallsV.of (l := [.slice fQ a0.length fR, .bool a1]) Try.func135 rfl Try.ntmps135 rfl ?_
 have hO := Owns.start hA
 have hB := Fr.refl (bl []) w0
 unfold J1V at H
 refine au ?_
 refine sal hO fun w1 B2 s hO => ?_
 refine au ?_
 refine sln0 ?_
 refine scm (H fm.bd) (fun h4 H => ?_) fun h4 H => ?_
 ·refine au ?_
  refine zo (J06 Try.underlying123 ti123 (pl := [(0, 1), (1, 1), (2, 1), (3, 1), (4, 1), (5, 1), (6, 1), (7, 1), (8, 1)]) (vs := []) (cs := #[.int .i64 (0 : Int), .bool false, .slice none 0 0, .slice none 0 0, .slice none 0 0, .slice none 0 0, .slice none 0 0, .slice none 0 0, .int .i64 (0 : Int)]) (by kernel_rfl) rfl (by kernel_rfl)) ?_
  refine sba 0 hO fun w5 s hO => ?_
  refine au ?_
  refine Go1.retC2 Try.func135 rfl rfl (J03 (vs := [.int .i64 (0 : Int), .bool false, .slice none 0 0, .slice none 0 0, .slice none 0 0, .slice none 0 0, .slice none 0 0, .slice none 0 0, .int .i64 (0 : Int)]) 0 hO rfl rfl Try.underlying123 rfl ti123) ⟨((⟨(0 : Int), false, ([] : List (List Int)), ([] : List (List Int)), ([] : List Int), ([] : List Int), ([] : List (List Int)), ([] : List Rule), (0 : Int)⟩ : Enum)), _, _, _, _, _, _, _, _, _, _, _, _, _, ?_, frs, (ISl.null _ _ _), (ISl.null _ _ _), (ISl.null _ _ _), (ISl.null _ _ _), (ISl.null _ _ _), (ISl.null _ _ _), H⟩
  exact rfl
 refine au ?_
 refine sln0 ?_
 refine scm H (fun h6 H => ?_) fun h6 H => ?_
 ·refine au ?_
  refine zo (J06 Try.underlying123 ti123 (pl := [(0, 1), (1, 1), (2, 1), (3, 1), (4, 1), (5, 1), (6, 1), (7, 1), (8, 1)]) (vs := []) (cs := #[.int .i64 (0 : Int), .bool false, .slice none 0 0, .slice none 0 0, .slice none 0 0, .slice none 0 0, .slice none 0 0, .slice none 0 0, .int .i64 (0 : Int)]) (by kernel_rfl) rfl (by kernel_rfl)) ?_
  refine sba 0 hO fun w7 s hO => ?_
  refine au ?_
  refine Go1.retC2 Try.func135 rfl rfl (J03 (vs := [.int .i64 (0 : Int), .bool false, .slice none 0 0, .slice none 0 0, .slice none 0 0, .slice none 0 0, .slice none 0 0, .slice none 0 0, .int .i64 (0 : Int)]) 0 hO rfl rfl Try.underlying123 rfl ti123) ⟨((⟨(0 : Int), false, ([] : List (List Int)), ([] : List (List Int)), ([] : List Int), ([] : List Int), ([] : List (List Int)), ([] : List Rule), (0 : Int)⟩ : Enum)), _, _, _, _, _, _, _, _, _, _, _, _, _, ?_, frs, (ISl.null _ _ _), (ISl.null _ _ _), (ISl.null _ _ _), (ISl.null _ _ _), (ISl.null _ _ _), (ISl.null _ _ _), H⟩
  exact rfl
 refine au ?_
 refine zcr (J02 body161 rfl (J47 hO.lt fm.u H)) fun _ w9 => e1 fun r8 => sc0 hO fun s hO => fun H => ?_
 cases r8
 ·refine au ?_
  refine zo (J06 Try.underlying123 ti123 (pl := [(0, 1), (1, 1), (2, 1), (3, 1), (4, 1), (5, 1), (6, 1), (7, 1), (8, 1)]) (vs := []) (cs := #[.int .i64 (0 : Int), .bool false, .slice none 0 0, .slice none 0 0, .slice none 0 0, .slice none 0 0, .slice none 0 0, .slice none 0 0, .int .i64 (0 : Int)]) (by kernel_rfl) rfl (by kernel_rfl)) ?_
  refine sba 0 hO fun w10 s hO => ?_
  refine au ?_
  refine Go1.retC2 Try.func135 rfl rfl (J03 (vs := [.int .i64 (0 : Int), .bool false, .slice none 0 0, .slice none 0 0, .slice none 0 0, .slice none 0 0, .slice none 0 0, .slice none 0 0, .int .i64 (0 : Int)]) 0 hO rfl rfl Try.underlying123 rfl ti123) ⟨((⟨(0 : Int), false, ([] : List (List Int)), ([] : List (List Int)), ([] : List Int), ([] : List Int), ([] : List (List Int)), ([] : List Rule), (0 : Int)⟩ : Enum)), _, _, _, _, _, _, _, _, _, _, _, _, _, ?_, frs, (ISl.null _ _ _), (ISl.null _ _ _), (ISl.null _ _ _), (ISl.null _ _ _), (ISl.null _ _ _), (ISl.null _ _ _), (iF H)⟩
  exact rfl
 refine au ?_
 refine drA Same.tr 1 [(0, .pure), (1, .pure), (2, .stable), (3, .pure), (4, .pure), (5, .pure), (6, .loud), (7, .pure), (8, .alloc), (9, .last)] hO fun w11 s hO => ?_
 have wv := hO.le
 have hw13 := (fr : Fr (bl []) w0 _ w11).ch.size
 refine au ?_
 refine sxls hO fm.u (iT H).1 (iT H).2.1 fun p14 c15 iU => ?_
 refine sln0 ?_
 refine au ?_
 refine au ?_
 refine GoQA.loudI rfl rfl fun w17 A18 ww => ?_
 refine sgw ww hO fun s hO => ?_
 have h23 := (iT H).1
 have h24 := (iT H).2.1
 refine GoAt.call (J02 body162 rfl (J5f hO.lt fm.u ((iT H).2.2 iU.bd))) (fun _ _ hr => ⟨fun _ => saq hr, Same.kp hO (saq hr)⟩) rfl fun _ w22 => e4 fun r20 cy aY a8 => e1 fun fE => sA1 hO fun s hO => fun H => ?_
 refine GoQA.pure rfl (J06 Try.underlying123 ti123 (pl := [(0, 1), (1, 1), (2, 1), (3, 1), (4, 1), (5, 1), (6, 1), (7, 1), (8, 1)]) (vs := [(0, .int .i64 ((ix a0 (0 : Int)).length : Int)), (1, .bool a1), (2, .slice aY cy a8)]) (cs := #[.int .i64 ((ix a0 (0 : Int)).length : Int), .bool a1, .slice aY cy a8, .slice none 0 0, .slice none 0 0, .slice none 0 0, .slice none 0 0, .slice none 0 0, .int .i64 (0 : Int)]) (by kernel_rfl) rfl (by kernel_rfl)) rfl rfl ?_
 refine GoQA.alloc rfl rfl (alAlloc (cs := #[.int .i64 (0 : Int), .bool false, .slice none 0 0, .slice none 0 0, .slice none 0 0, .slice none 0 0, .slice none 0 0, .slice none 0 0, .int .i64 (0 : Int)]) ti123 rfl) ?_
 intro w27 A28 b29 A30 Mp Mq hd33 hnb34 hh35
 refine sgw Mp hO fun s hO => ?_
 refine sgn (e := .blk b29 (.cells #[.int .i64 (0 : Int), .bool false, .slice none 0 0, .slice none 0 0, .slice none 0 0, .slice none 0 0, .slice none 0 0, .slice none 0 0, .int .i64 (0 : Int)] 123 (0, 0))) Mq hO wv hw13 hnb34 rfl hh35 hd33 (fr : Fr (bl []) w0 _ w27) fun s hO hB => ?_
 refine GoQA.lastI rfl rfl fun w36 A37 wx => ?_
 refine sgw wx hO fun s hO => ?_
 refine sba 0 hO fun w39 s hO => ?_
 refine GoQA.nil fun w40 A41 Mr Mt => ?_
 refine sgw Mr hO fun s hO => ?_
 refine spm Mt hO fun s hO => ?_
 refine au ?_
 cases a1
 ·refine au ?_
  refine sln0 ?_
  refine au ?_
  have sE := Stp.nil (e := 31) (r := 1) hO
  refine nst sE fun s hO => ?_
  have wy := Els.nil (Rp.sl (Rp.int .i64)) (bl (.row 31 1 none 0 0 [] :: [.blk b29 (.cells #[.int .i64 ((ix a0 (0 : Int)).length : Int), .bool false, .slice aY cy a8, .slice none 0 0, .slice none 0 0, .slice none 0 0, .slice none 0 0, .slice none 0 0, .int .i64 (0 : Int)] 123 (0, 0)), t2 Fl.i 31 3 aY cy a8 fE r20, .blk B2 (.cells #[.int .i64 (0 : Int), .bool false, .slice none 0 0, .slice none 0 0, .slice none 0 0, .slice none 0 0, .slice none 0 0, .slice none 0 0, .int .i64 (0 : Int)] 123 (0, 0))]) ++ A) w40
  refine snil Fl.i 3 hO fun s hO => ?_
  refine snil Fl.i 3 hO fun s hO => ?_
  refine snil (id Fl.fl : Fl rpRule) 185 hO fun s hO => ?_
  refine lw (iF H) (fun (k1_51, d_52, jp, d_60, fP) σ w => ∃ n55 p53 c54 n59 p57 c58 n63 p61 c62 n69 p67 c68 ol, (fun Z => agrees σ [(4, .pointer (some ⟨B2, 0, none⟩)), (6, .pointer (some ⟨b29, 0, none⟩)), (7, .int .i64 (-1 : Int)), (42, .slice fQ a0.length fR), (43, .int .i64 (a0.length : Int)), (44, .int .i64 (k1_51 : Int))] ∧ Owns w0.heap.size w Z A ∧ Els (Rp.sl (Rp.int .i64)) (bl Z ++ A) w ol fP ∧ Fr (bl []) w0 (bl Z) w) [t1 (id Fl.fl : Fl rpRule) 185 p53 n55 c54 d_52, t1 Fl.i 3 p57 n59 c58 jp, t1 Fl.i 3 p61 n63 c62 d_60, .row 31 1 p67 n69 c68 ol, .blk b29 (.cells #[.int .i64 ((ix a0 (0 : Int)).length : Int), .bool false, .slice aY cy a8, .slice p67 n69 c68, .slice p61 n63 c62, .slice p57 n59 c58, .slice none 0 0, .slice p53 n55 c54, .int .i64 (0 : Int)] 123 (0, 0)), t2 Fl.i 31 3 aY cy a8 fE r20, .blk B2 (.cells #[.int .i64 (0 : Int), .bool false, .slice none 0 0, .slice none 0 0, .slice none 0 0, .slice none 0 0, .slice none 0 0, .slice none 0 0, .int .i64 (0 : Int)] 123 (0, 0))]) ⟨_, _, _, _, _, _, _, _, _, _, _, _, _, agr, hO, wy.u, fr⟩ ?_
  refine fun X1 => p1 fun k1_51 => p3 fun d_52 jp d_60 fP => fun H hX1 σ w50 => e4 fun n55 p53 c54 n59 => e4 fun p57 c58 n63 p61 => e4 fun c62 n69 p67 c68 => e1 fun ol => d3 fun hag hO om hB => ?_
  dsimp only at H
  refine Go1.keep _ hag ?_
  revert hO; repeat (rename Owns _ _ _ _ => q; clear q)
  intro hO; repeat (rename Sq _ _ _ _ _ _ => q; clear q)
  refine au ?_
  refine scm H (fun h70 H => ?_) fun h70 H => ?_
  ·refine au ?_
   refine sxls hO fm.u H.1 H.2.1 fun p71 c72 A9 => ?_
   refine au ?_
   have zz := rowlend 3 hO rfl om
   obtain ⟨Mu, Mv⟩ := zz
   have hOc76 := hO.drop 3
   have h79 := H.1
   have h80 := H.2.1
   refine zcr (J02 body107 (show ([.slice p67 n69 c68, .slice p71 ((ix a0 (k1_51 : Int)).length) c72] : List Value) = [.slice p67 fP.length c68, .slice p71 ((ix a0 (k1_51 : Int)).length) c72] from by rw [← Mv]) (J1e hOc76.lt Mu (A9.u.ch (Owns.J0c _ _ 3)) H.2.2)) fun _ w78 => e1 fun r77 => sc0 hO fun s hO => fun H => ?_
   refine au ?_
   refine scm H (fun h81 H => ?_) fun h81 H => ?_
   ·refine au ?_
    refine drw 2 [(0, .pure), (1, .stable), (2, .pure), (4, .stable), (5, .pure), (3, .loud), (6, .loud), (7, .pure), (8, .loud), (9, .last), (10, .pure), (11, .last)] hO fun w82 s hO => ?_
    refine au ?_
    refine GoQ.stable rfl (J05 (vs := [.int .i64 ((ix a0 (0 : Int)).length : Int), .bool false, .slice aY cy a8, .slice p67 n69 c68, .slice p61 n63 c62, .slice p57 n59 c58, .slice none 0 0, .slice p53 n55 c54, .int .i64 (0 : Int)]) (i := 0) 4 hO rfl rfl Try.underlying123 rfl ti123 rfl) rfl rfl ?_
    refine au ?_
    refine zcq rfl (J02 body137 rfl (J0J hO.lt H)) fun _ w84 => e1 fun r83 => sq0 hO fun s hO => d1 fun Ba H => ?_
    have Mw := t2lend 5 hO rfl
    have vj := t2neq 5 hO rfl
    have hOc87 := hO.drop 5
    have zz := rowlend 3 hOc87 rfl (om.u.ch (Owns.J0c _ _ 5))
    obtain ⟨Mx, vz⟩ := zz
    have hOc90 := hOc87.drop 3
    have My := t1lend 2 hOc90
    have uy := t1n 2 hOc90
    have hOc93 := hOc90.drop 2
    have Mz := t1lend 1 hOc93
    have MA := t1n 1 hOc93
    have hOc96 := hOc93.drop 1
    have MB := t1lend 0 hOc96
    have MC := t1n 0 hOc96
    have hOc99 := hOc96.drop 0
    refine zcq rfl (J02 body106 (show ([.agg #[.int .i64 ((ix a0 (0 : Int)).length : Int), .bool false, .slice aY cy a8, .slice p67 n69 c68, .slice p61 n63 c62, .slice p57 n59 c58, .slice none 0 0, .slice p53 n55 c54, .int .i64 (0 : Int)], .int .i64 r77] : List Value) = [.agg #[.int .i64 ((ix a0 (0 : Int)).length : Int), .bool false, .slice aY r20.length a8, .slice p67 fP.length c68, .slice p61 d_60.length c62, .slice p57 jp.length c58, .slice none 0 0, .slice p53 d_52.length c54, .int .i64 (0 : Int)], .int .i64 r77] from by rw [← vj, ← vz, ← uy, ← MA, ← MC]) (J0G (e := (⟨((ix a0 (0 : Int)).length : Int), false, r20, fP, d_60, jp, [], d_52, (0 : Int)⟩ : Enum)) hOc99.lt ((((Mw.ch (Owns.J0c _ _ 3)).ch (Owns.J0c _ _ 2)).ch (Owns.J0c _ _ 1)).ch (Owns.J0c _ _ 0)) (((Mx.ch (Owns.J0c _ _ 2)).ch (Owns.J0c _ _ 1)).ch (Owns.J0c _ _ 0)) ((My.ch (Owns.J0c _ _ 1)).ch (Owns.J0c _ _ 0)) (Mz.ch (Owns.J0c _ _ 0)) (ISl.null _ _ _) MB H)) fun _ uo => e1 fun r100 => sq0 hO fun s hO => d1 fun x5 H => ?_
    refine GoQ.pure rfl (J06 Try.underlying185 ti185 (pl := [(0, 1), (1, 1)]) (vs := [(0, .string (gstr r83)), (1, .string (gstr r100))]) (cs := #[.string (gstr r83), .string (gstr r100)]) (by kernel_rfl) rfl (by kernel_rfl)) rfl rfl ?_
    refine sapF (⟨r83, r100⟩ : Rule) 0 hO H (fun _ uW MD ME s hO => ?_) (hok := by exact ⟨Ba, x5⟩)
    refine au ?_
    refine sbs 4 hO fun qn s hO => ?_
    refine au ?_
    refine sinc (natbd h70 fm.bd) ?_
    refine au ?_
    exact hX1 _ H.2 _ _ ⟨_, _, _, _, _, _, _, _, _, _, _, _, _, agr, hO, om.u, fr⟩
   refine au ?_
   refine drA (CSv.tr [(some ⟨b29, 3, none⟩), (some ⟨b29, 4, none⟩), (some ⟨b29, 5, none⟩)]) 1 [(0, .pure), (1, .stable), (3, .pure), (7, .pure), (8, .stable), (9, .pure), (12, .pure), (13, .stable), (14, .pure), (2, .alloc), (4, .loud), (5, .alloc), (6, .loud), (17, .pure), (10, .alloc), (11, .loud), (15, .alloc), (16, .loud), (18, .last), (19, .pure), (20, .last), (21, .pure), (22, .last)] hO fun A7 s hO => ?_
   have ku := hO.le
   have hw108 := (fr : Fr (bl []) w0 _ A7).ch.size
   refine au ?_
   refine GoQA.stable rfl (loadV (.head _) rfl (J00 4 hO rfl rfl) Try.underlying23 rfl rfl) rfl rfl ?_
   refine au ?_
   refine au ?_
   refine GoQA.stable rfl (loadV (.tail _ (.head _)) rfl (J00 4 hO rfl rfl) Try.underlying31 rfl rfl) rfl rfl ?_
   refine au ?_
   refine au ?_
   refine GoQA.stable rfl (loadV (.tail _ (.tail _ (.head _))) rfl (J00 4 hO rfl rfl) Try.underlying31 rfl rfl) rfl rfl ?_
   refine au ?_
   refine GoQA.alloc rfl rfl (alBuild (n := 0) (parts := []) (vs := []) Try.underlying31 ti3 (by decide) (by decide) (by decide) (by kernel_rfl) rfl rfl) ?_
   intro wt A111 MF A113 FX FY hd116 hnb117 hh118
   refine sgw FX hO fun s hO => ?_
   have sF : Els (Rp.int .i64) (bl [t1 (id Fl.fl : Fl rpRule) 185 p53 n55 c54 d_52, t1 Fl.i 3 p57 n59 c58 jp, t1 Fl.i 3 p61 n63 c62 d_60, .row 31 1 p67 n69 c68 ol, .blk b29 (.cells #[.int .i64 ((ix a0 (0 : Int)).length : Int), .bool false, .slice aY cy a8, .slice p67 n69 c68, .slice p61 n63 c62, .slice p57 n59 c58, .slice none 0 0, .slice p53 n55 c54, .int .i64 (0 : Int)] 123 (0, 0)), t2 Fl.i 31 3 aY cy a8 fE r20, .blk B2 (.cells #[.int .i64 (0 : Int), .bool false, .slice none 0 0, .slice none 0 0, .slice none 0 0, .slice none 0 0, .slice none 0 0, .slice none 0 0, .int .i64 (0 : Int)] 123 (0, 0))] ++ A111) wt [] (([] : List Int)) := (Els.nil _ _ _)
   refine sgn (e := .row 3 1 (some ⟨MF, 0, none⟩) 0 0 []) FY hO ku hw108 hnb117 rfl hh118 hd116 (fr : Fr (bl []) w0 _ wt) fun s hO hB => ?_
   replace sF := sF.ch s.ch
   refine cl1 Fl.i 0 hO sF.u fun s hO => ?_
   refine GoQA.loudI rfl rfl fun qX A121 F0 => ?_
   refine sgw F0 hO fun s hO => ?_
   refine sapQ 0 hO A9.u H (fun JM kO mc s hO => ?_) (g := fun _ _ _ _ hv hst h => GoAt.step hv (fun _ => (CSv.cons (cs_eq (J00 5 hO rfl rfl) (J00 5 hst.own rfl rfl)) (CSv.cons (cs_eq (J00 5 hO rfl rfl) (J00 5 hst.own rfl rfl)) (CSv.cons (cs_eq (J00 5 hO rfl rfl) (J00 5 hst.own rfl rfl)) (CSv.nil _ _))))) (Stp.kp hO hst) rfl h)
   refine sfz 0 hO fun s hO F1 F2 => ?_
   refine GoQA.alloc rfl rfl (alBuild (n := 1) (parts := [(0, .slice kO (0 + ((ix a0 (k1_51 : Int)).length)) mc)]) (vs := [.slice kO (0 + ((ix a0 (k1_51 : Int)).length)) mc]) Try.underlying23 ti31 (by decide) (by decide) (by decide) (by kernel_rfl) rfl rfl) ?_
   intro wz A128 MG A130 F3 F4 hd133 hnb134 hh135
   refine sgw F3 hO fun s hO => ?_
   have kj : Els (Rp.sl (Rp.int .i64)) (bl [t1 (id Fl.fl : Fl rpRule) 185 p53 n55 c54 d_52, t1 Fl.i 3 p57 n59 c58 jp, t1 Fl.i 3 p61 n63 c62 d_60, .row 31 1 p67 n69 c68 ol, .blk b29 (.cells #[.int .i64 ((ix a0 (0 : Int)).length : Int), .bool false, .slice aY cy a8, .slice p67 n69 c68, .slice p61 n63 c62, .slice p57 n59 c58, .slice none 0 0, .slice p53 n55 c54, .int .i64 (0 : Int)] 123 (0, 0)), t2 Fl.i 31 3 aY cy a8 fE r20, .blk B2 (.cells #[.int .i64 (0 : Int), .bool false, .slice none 0 0, .slice none 0 0, .slice none 0 0, .slice none 0 0, .slice none 0 0, .slice none 0 0, .int .i64 (0 : Int)] 123 (0, 0))] ++ A128) wz [.slice kO (0 + ((ix a0 (k1_51 : Int)).length)) mc] [(([] : List Int)) ++ (ix a0 (k1_51 : Int))] := (Els.cons rfl ⟨kO, mc, congrArg some (congrArg (fun nn => Value.slice kO nn mc) F2), F1.u⟩ (Els.nil _ _ _) (by simp [mx]))
   refine sgn (e := .row 31 1 (some ⟨MG, 0, none⟩) 1 1 [.slice kO (0 + ((ix a0 (k1_51 : Int)).length)) mc]) F4 hO ku hw108 hnb134 rfl hh135 hd133 (fr : Fr (bl []) w0 _ wz) fun s hO hB => ?_
   replace kj := kj.ch s.ch
   refine GoQA.loudI rfl rfl fun I1 A140 F5 => ?_
   refine sgw F5 hO fun s hO => ?_
   refine sfzR 0 hO kj.u fun s hO F6 F7 => ?_
   replace H := H.2
   obtain ⟨MH, H⟩ := H
   have zz := oapp Try.underlying23 ti31 rfl 3 hO rfl om.u F6 F7 MH (by decide)
   obtain ⟨yI, uK, Bb, xL, j3, xM, Bc⟩ := zz
   dsimp only [sS, sZ] at xM
   refine GoAt.step (Bc (by exact rfl) (by exact rfl)) (fun _ => (CSv.cons (cs_eq (J00 4 hO rfl rfl) (J00 4 j3.own rfl rfl)) (CSv.cons (cs_eq (J00 4 hO rfl rfl) (J00 4 j3.own rfl rfl)) (CSv.cons (cs_eq (J00 4 hO rfl rfl) (J00 4 j3.own rfl rfl)) (CSv.nil _ _))))) (Stp.kp hO j3) rfl ?_
   refine nst j3 fun s hO => ?_
   refine au ?_
   refine GoQA.alloc rfl rfl (alBuild (n := 1) (parts := [(0, .int .i64 (-1 : Int))]) (vs := [.int .i64 (-1 : Int)]) Try.underlying31 ti3 (by decide) (by decide) (by decide) (by kernel_rfl) rfl rfl) ?_
   intro uY A155 MJ A157 F8 F9 hd160 hnb161 hh162
   refine sgw F8 hO fun s hO => ?_
   have sG : Els (Rp.int .i64) (bl [t1 (id Fl.fl : Fl rpRule) 185 p53 n55 c54 d_52, t1 Fl.i 3 p57 n59 c58 jp, t1 Fl.i 3 p61 n63 c62 d_60, .row 31 1 uK (n69 + 1) Bb xL, .blk b29 (.cells #[.int .i64 ((ix a0 (0 : Int)).length : Int), .bool false, .slice aY cy a8, .slice p67 n69 c68, .slice p61 n63 c62, .slice p57 n59 c58, .slice none 0 0, .slice p53 n55 c54, .int .i64 (0 : Int)] 123 (0, 0)), t2 Fl.i 31 3 aY cy a8 fE r20, .blk B2 (.cells #[.int .i64 (0 : Int), .bool false, .slice none 0 0, .slice none 0 0, .slice none 0 0, .slice none 0 0, .slice none 0 0, .slice none 0 0, .int .i64 (0 : Int)] 123 (0, 0))] ++ A155) uY [.int .i64 (-1 : Int)] [(-1 : Int)] := (Els.cons rfl rfl (Els.nil _ _ _) (by simp [mx]))
   refine sgn (e := .row 3 1 (some ⟨MJ, 0, none⟩) 1 1 [.int .i64 (-1 : Int)]) F9 hO ku hw108 hnb161 rfl hh162 hd160 (fr : Fr (bl []) w0 _ uY) fun s hO hB => ?_
   replace sG := sG.ch s.ch
   refine cl1 Fl.i 0 hO sG.u fun s hO => ?_
   refine GoQA.loudI rfl rfl fun uL A165 Ga => ?_
   refine sgw Ga hO fun s hO => ?_
   refine sfz 0 hO fun s hO Gb P1 => ?_
   refine sapQ 2 hO Gb H (fun JT ML MM s hO => ?_) (g := fun _ _ _ _ hv hst h => GoAt.step hv (fun _ => (CSv.cons (cs_eq (J00 4 hO rfl rfl) (J00 4 hst.own rfl rfl)) (CSv.cons (cs_eq (J00 4 hO rfl rfl) (J00 4 hst.own rfl rfl)) (CSv.cons (cs_eq (J00 4 hO rfl rfl) (J00 4 hst.own rfl rfl)) (CSv.nil _ _))))) (Stp.kp hO hst) rfl h)
   refine GoQA.alloc rfl rfl (alBuild (n := 1) (parts := [(0, .int .i64 (k1_51 : Int))]) (vs := [.int .i64 (k1_51 : Int)]) Try.underlying31 ti3 (by decide) (by decide) (by decide) (by kernel_rfl) rfl rfl) ?_
   intro nJ A174 MO A176 Gc Gd hd179 hnb180 hh181
   refine sgw Gc hO fun s hO => ?_
   have sH : Els (Rp.int .i64) (bl [t1 (id Fl.fl : Fl rpRule) 185 p53 n55 c54 d_52, t1 Fl.i 3 p57 n59 c58 jp, t1 Fl.i 3 ML (n63 + 1) MM (d_60 ++ ([(-1 : Int)])), .row 31 1 uK (n69 + 1) Bb xL, .blk b29 (.cells #[.int .i64 ((ix a0 (0 : Int)).length : Int), .bool false, .slice aY cy a8, .slice p67 n69 c68, .slice p61 n63 c62, .slice p57 n59 c58, .slice none 0 0, .slice p53 n55 c54, .int .i64 (0 : Int)] 123 (0, 0)), t2 Fl.i 31 3 aY cy a8 fE r20, .blk B2 (.cells #[.int .i64 (0 : Int), .bool false, .slice none 0 0, .slice none 0 0, .slice none 0 0, .slice none 0 0, .slice none 0 0, .slice none 0 0, .int .i64 (0 : Int)] 123 (0, 0))] ++ A174) nJ [.int .i64 (k1_51 : Int)] [(k1_51 : Int)] := (Els.cons rfl rfl (Els.nil _ _ _) (by simp [mx]))
   refine sgn (e := .row 3 1 (some ⟨MO, 0, none⟩) 1 1 [.int .i64 (k1_51 : Int)]) Gd hO ku hw108 hnb180 rfl hh181 hd179 (fr : Fr (bl []) w0 _ nJ) fun s hO hB => ?_
   replace sH := sH.ch s.ch
   refine cl1 Fl.i 0 hO sH.u fun s hO => ?_
   refine GoQA.loudI rfl rfl fun yj A184 Ge => ?_
   refine sgw Ge hO fun s hO => ?_
   refine sfz 0 hO fun s hO Gf P2 => ?_
   refine sapQ 1 hO Gf H.2 (fun yk lV Yr s hO => ?_) (g := fun _ _ _ _ hv hst h => GoAt.step hv (fun _ => (CSv.cons (cs_eq (J00 4 hO rfl rfl) (J00 4 hst.own rfl rfl)) (CSv.cons (cs_eq (J00 4 hO rfl rfl) (J00 4 hst.own rfl rfl)) (CSv.cons (cs_eq (J00 4 hO rfl rfl) (J00 4 hst.own rfl rfl)) (CSv.nil _ _))))) (Stp.kp hO hst) rfl h)
   refine GoQA.lastI rfl rfl fun ut A192 rp => ?_
   refine sgw rp hO fun s hO => ?_
   refine sbs 4 hO fun JX s hO => ?_
   refine au ?_
   refine GoQA.lastI rfl rfl fun yl A196 Gg => ?_
   refine sgw Gg hO fun s hO => ?_
   refine sbs 4 hO fun JY s hO => ?_
   refine au ?_
   refine GoQA.lastI rfl rfl fun yr A200 Gh => ?_
   refine sgw Gh hO fun s hO => ?_
   refine sbs 4 hO fun J0 s hO => ?_
   refine GoQA.nil fun yv A204 rq rs => ?_
   refine sgw rq hO fun s hO => ?_
   refine spm rs hO fun s hO => ?_
   refine au ?_
   refine au ?_
   refine sinc (natbd h70 fm.bd) ?_
   refine au ?_
   exact hX1 _ H.2.2 _ _ ⟨_, _, _, _, _, _, _, _, _, _, _, _, _, agr, hO, xM.u, fr⟩
  refine au ?_
  refine zs (J05 (vs := [.int .i64 ((ix a0 (0 : Int)).length : Int), .bool false, .slice aY cy a8, .slice p67 n69 c68, .slice p61 n63 c62, .slice p57 n59 c58, .slice none 0 0, .slice p53 n55 c54, .int .i64 (0 : Int)]) (i := 0) 4 hO rfl rfl Try.underlying123 rfl ti123 rfl) ?_
  refine sba 6 hO fun J1 s hO => ?_
  refine au ?_
  refine sfz2 5 hO fun s hO rf rh => ?_
  refine sfzR 3 hO om.u fun s hO Gi Gj => ?_
  refine sfz 2 hO fun s hO Gk Gl => ?_
  refine sfz 1 hO fun s hO Gm Gn => ?_
  refine sfz 0 hO fun s hO Gp Gq => ?_
  refine Go1.retC2 Try.func135 rfl rfl (J03 (vs := [.int .i64 ((ix a0 (0 : Int)).length : Int), .bool false, .slice aY cy a8, .slice p67 n69 c68, .slice p61 n63 c62, .slice p57 n59 c58, .slice none 0 0, .slice p53 n55 c54, .int .i64 (0 : Int)]) 1 hO rfl rfl Try.underlying123 rfl ti123) ⟨((⟨((ix a0 (0 : Int)).length : Int), false, r20, fP, d_60, jp, ([] : List (List Int)), d_52, (0 : Int)⟩ : Enum)), _, _, _, _, _, _, _, _, _, _, _, _, _, ?_, frs, rf.r, Gi.r, Gk.r, Gm.r, (ISl.null _ _ _), Gp.r, H⟩
  exact (congrArg (fun l => Value.tuple (List.toArray l)) (J01 (congrArg (fun l => Value.agg (List.toArray l)) (J01 rfl (J01 rfl (J01 (congrArg (fun nn => Value.slice aY nn a8) rh) (J01 (congrArg (fun nn => Value.slice p67 nn c68) Gj) (J01 (congrArg (fun nn => Value.slice p61 nn c62) Gl) (J01 (congrArg (fun nn => Value.slice p57 nn c58) Gn) (J01 rfl (J01 (congrArg (fun nn => Value.slice p53 nn c54) Gq) (J01 rfl rfl)))))))))) (J01 rfl rfl)))
 refine au ?_
 refine zcr (J02 body51 rfl (J3H hO.lt (iT H))) fun _ Je => e3 fun wA oo oq => sc0 hO fun s hO => d1 fun Bd H => ?_
 have zz := J1l (r := Rp.sl (Rp.int .i64)) (n := 1) (parts := [(0, .slice oo wA.length oq)]) (vs := [.slice oo wA.length oq]) (xs := [wA]) rfl Try.underlying23 ti31 hO (by decide) (by kernel_rfl) (Els.cons rfl ⟨oo, oq, rfl, Bd⟩ (Els.nil _ _ _) (by simp [mx])) rfl
 obtain ⟨J3, J4, Be, Gr, P3, Bf⟩ := zz
 refine zg (Bf rfl) ?_
 refine nst Be fun s hO => ?_
 refine sbu Fl.i 3 [(-1 : Int)] hO fun Jf Ys s hO => ?_
 refine sbu Fl.i 3 [(-1 : Int)] hO fun u5 K5 s hO => ?_
 refine au ?_
 refine sbs 3 hO fun Ab s hO => ?_
 refine au ?_
 refine sbs 3 hO fun Jg s hO => ?_
 refine au ?_
 refine sbs 3 hO fun Yt s hO => ?_
 refine au ?_
 refine sln0 ?_
 refine au ?_
 refine snil (id Fl.fl : Fl rpRule) 185 hO fun s hO => ?_
 refine lw H (fun (eK, ie, ig, ii, kw) σ w => ∃ gk fF fG gm fH fI gn fY f0 f5 fJ fK lK, (fun Z => agrees σ [(4, .pointer (some ⟨B2, 0, none⟩)), (6, .pointer (some ⟨b29, 0, none⟩)), (7, .int .i64 (0 : Int)), (42, .slice fQ a0.length fR), (43, .int .i64 (a0.length : Int)), (44, .int .i64 (eK : Int))] ∧ Owns w0.heap.size w Z A ∧ Els (Rp.sl (Rp.int .i64)) (bl Z ++ A) w lK kw ∧ Fr (bl []) w0 (bl Z) w) [t1 (id Fl.fl : Fl rpRule) 185 fF gk fG ie, t1 Fl.i 3 fH gm fI ig, t1 Fl.i 3 fY gn f0 ii, .row 31 1 fJ f5 fK lK, .blk b29 (.cells #[.int .i64 ((ix a0 (0 : Int)).length : Int), .bool true, .slice aY cy a8, .slice fJ f5 fK, .slice fY gn f0, .slice fH gm fI, .slice none 0 0, .slice fF gk fG, .int .i64 (0 : Int)] 123 (0, 0)), t2 Fl.i 31 3 aY cy a8 fE r20, .blk B2 (.cells #[.int .i64 (0 : Int), .bool false, .slice none 0 0, .slice none 0 0, .slice none 0 0, .slice none 0 0, .slice none 0 0, .slice none 0 0, .int .i64 (0 : Int)] 123 (0, 0))]) ⟨_, _, _, _, _, _, _, _, _, _, _, _, _, agr, hO, Gr.u, fr⟩ ?_
 refine fun X2 => p1 fun eK => p3 fun ie ig ii kw => fun H hX2 σ yW => e4 fun gk fF fG gm => e4 fun fH fI gn fY => e4 fun f0 f5 fJ fK => e1 fun lK => d3 fun hag hO lL hB => ?_
 dsimp only at H
 refine Go1.keep _ hag ?_
 revert hO; repeat (rename Owns _ _ _ _ => q; clear q)
 intro hO; repeat (rename Sq _ _ _ _ _ _ => q; clear q)
 refine au ?_
 refine scm H (fun rB H => ?_) fun rB H => ?_
 ·refine au ?_
  refine sxls hO fm.u H.1 H.2.1 fun Bg Bi xN => ?_
  refine au ?_
  have zz := rowlend 3 hO rfl lL
  obtain ⟨Gs, Gt⟩ := zz
  have hOc263 := hO.drop 3
  have Yu := H.1
  have Yv := H.2.1
  refine zcr (J02 body107 (show ([.slice fJ f5 fK, .slice Bg ((ix a0 (eK : Int)).length) Bi] : List Value) = [.slice fJ kw.length fK, .slice Bg ((ix a0 (eK : Int)).length) Bi] from by rw [← Gt]) (J1e hOc263.lt Gs (xN.u.ch (Owns.J0c _ _ 3)) H.2.2)) fun _ Yw => e1 fun r264 => sc0 hO fun s hO => fun H => ?_
  refine au ?_
  refine scm H (fun MP H => ?_) fun MP H => ?_
  ·refine au ?_
   refine drw 2 [(0, .pure), (1, .stable), (2, .pure), (4, .stable), (5, .pure), (3, .loud), (6, .loud), (7, .pure), (8, .loud), (9, .last), (10, .pure), (11, .last)] hO fun AP s hO => ?_
   refine au ?_
   refine GoQ.stable rfl (J05 (vs := [.int .i64 ((ix a0 (0 : Int)).length : Int), .bool true, .slice aY cy a8, .slice fJ f5 fK, .slice fY gn f0, .slice fH gm fI, .slice none 0 0, .slice fF gk fG, .int .i64 (0 : Int)]) (i := 0) 4 hO rfl rfl Try.underlying123 rfl ti123 rfl) rfl rfl ?_
   refine au ?_
   refine zcq rfl (J02 body137 rfl (J0J hO.lt H)) fun _ KD => e1 fun r270 => sq0 hO fun s hO => d1 fun x6 H => ?_
   have Gz := t2lend 5 hO rfl
   have mC := t2neq 5 hO rfl
   have hOc274 := hO.drop 5
   have zz := rowlend 3 hOc274 rfl (lL.u.ch (Owns.J0c _ _ 5))
   obtain ⟨GA, GB⟩ := zz
   have hOc277 := hOc274.drop 3
   have GC := t1lend 2 hOc277
   have GD := t1n 2 hOc277
   have hOc280 := hOc277.drop 2
   have GE := t1lend 1 hOc280
   have xK := t1n 1 hOc280
   have hOc283 := hOc280.drop 1
   have GF := t1lend 0 hOc283
   have GG := t1n 0 hOc283
   have hOc286 := hOc283.drop 0
   refine zcq rfl (J02 body106 (show ([.agg #[.int .i64 ((ix a0 (0 : Int)).length : Int), .bool true, .slice aY cy a8, .slice fJ f5 fK, .slice fY gn f0, .slice fH gm fI, .slice none 0 0, .slice fF gk fG, .int .i64 (0 : Int)], .int .i64 r264] : List Value) = [.agg #[.int .i64 ((ix a0 (0 : Int)).length : Int), .bool true, .slice aY r20.length a8, .slice fJ kw.length fK, .slice fY ii.length f0, .slice fH ig.length fI, .slice none 0 0, .slice fF ie.length fG, .int .i64 (0 : Int)], .int .i64 r264] from by rw [← mC, ← GB, ← GD, ← xK, ← GG]) (J0G (e := (⟨((ix a0 (0 : Int)).length : Int), true, r20, kw, ii, ig, [], ie, (0 : Int)⟩ : Enum)) hOc286.lt ((((Gz.ch (Owns.J0c _ _ 3)).ch (Owns.J0c _ _ 2)).ch (Owns.J0c _ _ 1)).ch (Owns.J0c _ _ 0)) (((GA.ch (Owns.J0c _ _ 2)).ch (Owns.J0c _ _ 1)).ch (Owns.J0c _ _ 0)) ((GC.ch (Owns.J0c _ _ 1)).ch (Owns.J0c _ _ 0)) (GE.ch (Owns.J0c _ _ 0)) (ISl.null _ _ _) GF H)) fun _ Ae => e1 fun wB => sq0 hO fun s hO => d1 fun x7 H => ?_
   refine GoQ.pure rfl (J06 Try.underlying185 ti185 (pl := [(0, 1), (1, 1)]) (vs := [(0, .string (gstr r270)), (1, .string (gstr wB))]) (cs := #[.string (gstr r270), .string (gstr wB)]) (by kernel_rfl) rfl (by kernel_rfl)) rfl rfl ?_
   refine sapF (⟨r270, wB⟩ : Rule) 0 hO H (fun _ yX Jm Jo s hO => ?_) (hok := by exact ⟨x6, x7⟩)
   refine au ?_
   refine sbs 4 hO fun Jp s hO => ?_
   refine au ?_
   refine sinc (natbd rB fm.bd) ?_
   refine au ?_
   exact hX2 _ H.2 _ _ ⟨_, _, _, _, _, _, _, _, _, _, _, _, _, agr, hO, lL.u, fr⟩
  refine au ?_
  refine drA (CSv.tr [(some ⟨b29, 3, none⟩), (some ⟨b29, 4, none⟩), (some ⟨b29, 5, none⟩)]) 1 [(0, .pure), (1, .stable), (3, .pure), (7, .pure), (8, .stable), (9, .pure), (12, .pure), (13, .stable), (14, .pure), (2, .alloc), (4, .loud), (5, .alloc), (6, .loud), (17, .pure), (10, .alloc), (11, .loud), (15, .alloc), (16, .loud), (18, .last), (19, .pure), (20, .last), (21, .pure), (22, .last)] hO fun uS s hO => ?_
  have mI := hO.le
  have hw295 := (fr : Fr (bl []) w0 _ uS).ch.size
  refine au ?_
  refine GoQA.stable rfl (loadV (.head _) rfl (J00 4 hO rfl rfl) Try.underlying23 rfl rfl) rfl rfl ?_
  refine au ?_
  refine au ?_
  refine GoQA.stable rfl (loadV (.tail _ (.head _)) rfl (J00 4 hO rfl rfl) Try.underlying31 rfl rfl) rfl rfl ?_
  refine au ?_
  refine au ?_
  refine GoQA.stable rfl (loadV (.tail _ (.tail _ (.head _))) rfl (J00 4 hO rfl rfl) Try.underlying31 rfl rfl) rfl rfl ?_
  refine au ?_
  refine GoQA.alloc rfl rfl (alBuild (n := 0) (parts := []) (vs := []) Try.underlying31 ti3 (by decide) (by decide) (by decide) (by kernel_rfl) rfl rfl) ?_
  intro Bj A298 MQ A300 GH GJ hd303 hnb304 hh305
  refine sgw GH hO fun s hO => ?_
  have sI : Els (Rp.int .i64) (bl [t1 (id Fl.fl : Fl rpRule) 185 fF gk fG ie, t1 Fl.i 3 fH gm fI ig, t1 Fl.i 3 fY gn f0 ii, .row 31 1 fJ f5 fK lK, .blk b29 (.cells #[.int .i64 ((ix a0 (0 : Int)).length : Int), .bool true, .slice aY cy a8, .slice fJ f5 fK, .slice fY gn f0, .slice fH gm fI, .slice none 0 0, .slice fF gk fG, .int .i64 (0 : Int)] 123 (0, 0)), t2 Fl.i 31 3 aY cy a8 fE r20, .blk B2 (.cells #[.int .i64 (0 : Int), .bool false, .slice none 0 0, .slice none 0 0, .slice none 0 0, .slice none 0 0, .slice none 0 0, .slice none 0 0, .int .i64 (0 : Int)] 123 (0, 0))] ++ A298) Bj [] (([] : List Int)) := (Els.nil _ _ _)
  refine sgn (e := .row 3 1 (some ⟨MQ, 0, none⟩) 0 0 []) GJ hO mI hw295 hnb304 rfl hh305 hd303 (fr : Fr (bl []) w0 _ Bj) fun s hO hB => ?_
  replace sI := sI.ch s.ch
  refine cl1 Fl.i 0 hO sI.u fun s hO => ?_
  refine GoQA.loudI rfl rfl fun Js A308 GK => ?_
  refine sgw GK hO fun s hO => ?_
  refine sapQ 0 hO xN.u H (fun Yx mf mg s hO => ?_) (g := fun _ _ _ _ hv hst h => GoAt.step hv (fun _ => (CSv.cons (cs_eq (J00 5 hO rfl rfl) (J00 5 hst.own rfl rfl)) (CSv.cons (cs_eq (J00 5 hO rfl rfl) (J00 5 hst.own rfl rfl)) (CSv.cons (cs_eq (J00 5 hO rfl rfl) (J00 5 hst.own rfl rfl)) (CSv.nil _ _))))) (Stp.kp hO hst) rfl h)
  refine sfz 0 hO fun s hO GL GM => ?_
  refine GoQA.alloc rfl rfl (alBuild (n := 1) (parts := [(0, .slice mf (0 + ((ix a0 (eK : Int)).length)) mg)]) (vs := [.slice mf (0 + ((ix a0 (eK : Int)).length)) mg]) Try.underlying23 ti31 (by decide) (by decide) (by decide) (by kernel_rfl) rfl rfl) ?_
  intro Bk A315 MR A317 GO GP hd320 hnb321 hh322
  refine sgw GO hO fun s hO => ?_
  have sJ : Els (Rp.sl (Rp.int .i64)) (bl [t1 (id Fl.fl : Fl rpRule) 185 fF gk fG ie, t1 Fl.i 3 fH gm fI ig, t1 Fl.i 3 fY gn f0 ii, .row 31 1 fJ f5 fK lK, .blk b29 (.cells #[.int .i64 ((ix a0 (0 : Int)).length : Int), .bool true, .slice aY cy a8, .slice fJ f5 fK, .slice fY gn f0, .slice fH gm fI, .slice none 0 0, .slice fF gk fG, .int .i64 (0 : Int)] 123 (0, 0)), t2 Fl.i 31 3 aY cy a8 fE r20, .blk B2 (.cells #[.int .i64 (0 : Int), .bool false, .slice none 0 0, .slice none 0 0, .slice none 0 0, .slice none 0 0, .slice none 0 0, .slice none 0 0, .int .i64 (0 : Int)] 123 (0, 0))] ++ A315) Bk [.slice mf (0 + ((ix a0 (eK : Int)).length)) mg] [(([] : List Int)) ++ (ix a0 (eK : Int))] := (Els.cons rfl ⟨mf, mg, congrArg some (congrArg (fun nn => Value.slice mf nn mg) GM), GL.u⟩ (Els.nil _ _ _) (by simp [mx]))
  refine sgn (e := .row 31 1 (some ⟨MR, 0, none⟩) 1 1 [.slice mf (0 + ((ix a0 (eK : Int)).length)) mg]) GP hO mI hw295 hnb321 rfl hh322 hd320 (fr : Fr (bl []) w0 _ Bk) fun s hO hB => ?_
  replace sJ := sJ.ch s.ch
  refine GoQA.loudI rfl rfl fun Yy A327 GQ => ?_
  refine sgw GQ hO fun s hO => ?_
  refine sfzR 0 hO sJ.u fun s hO GR GT => ?_
  replace H := H.2
  obtain ⟨nU, H⟩ := H
  have zz := oapp Try.underlying23 ti31 rfl 3 hO rfl lL.u GR GT nU (by decide)
  obtain ⟨zc, uU, uV, xO, j4, xP, Bl⟩ := zz
  dsimp only [sS, sZ] at xP
  refine GoAt.step (Bl (by exact rfl) (by exact rfl)) (fun _ => (CSv.cons (cs_eq (J00 4 hO rfl rfl) (J00 4 j4.own rfl rfl)) (CSv.cons (cs_eq (J00 4 hO rfl rfl) (J00 4 j4.own rfl rfl)) (CSv.cons (cs_eq (J00 4 hO rfl rfl) (J00 4 j4.own rfl rfl)) (CSv.nil _ _))))) (Stp.kp hO j4) rfl ?_
  refine nst j4 fun s hO => ?_
  refine au ?_
  refine GoQA.alloc rfl rfl (alBuild (n := 1) (parts := [(0, .int .i64 (0 : Int))]) (vs := [.int .i64 (0 : Int)]) Try.underlying31 ti3 (by decide) (by decide) (by decide) (by kernel_rfl) rfl rfl) ?_
  intro Bm A342 MS A344 GU GW hd347 hnb348 hh349
  refine sgw GU hO fun s hO => ?_
  have sK : Els (Rp.int .i64) (bl [t1 (id Fl.fl : Fl rpRule) 185 fF gk fG ie, t1 Fl.i 3 fH gm fI ig, t1 Fl.i 3 fY gn f0 ii, .row 31 1 uU (f5 + 1) uV xO, .blk b29 (.cells #[.int .i64 ((ix a0 (0 : Int)).length : Int), .bool true, .slice aY cy a8, .slice fJ f5 fK, .slice fY gn f0, .slice fH gm fI, .slice none 0 0, .slice fF gk fG, .int .i64 (0 : Int)] 123 (0, 0)), t2 Fl.i 31 3 aY cy a8 fE r20, .blk B2 (.cells #[.int .i64 (0 : Int), .bool false, .slice none 0 0, .slice none 0 0, .slice none 0 0, .slice none 0 0, .slice none 0 0, .slice none 0 0, .int .i64 (0 : Int)] 123 (0, 0))] ++ A342) Bm [.int .i64 (0 : Int)] [(0 : Int)] := (Els.cons rfl rfl (Els.nil _ _ _) (by simp [mx]))
  refine sgn (e := .row 3 1 (some ⟨MS, 0, none⟩) 1 1 [.int .i64 (0 : Int)]) GW hO mI hw295 hnb348 rfl hh349 hd347 (fr : Fr (bl []) w0 _ Bm) fun s hO hB => ?_
  replace sK := sK.ch s.ch
  refine cl1 Fl.i 0 hO sK.u fun s hO => ?_
  refine GoQA.loudI rfl rfl fun JF A352 GX => ?_
  refine sgw GX hO fun s hO => ?_
  refine sfz 0 hO fun s hO GY P4 => ?_
  refine sapQ 2 hO GY H (fun KH MT MU s hO => ?_) (g := fun _ _ _ _ hv hst h => GoAt.step hv (fun _ => (CSv.cons (cs_eq (J00 4 hO rfl rfl) (J00 4 hst.own rfl rfl)) (CSv.cons (cs_eq (J00 4 hO rfl rfl) (J00 4 hst.own rfl rfl)) (CSv.cons (cs_eq (J00 4 hO rfl rfl) (J00 4 hst.own rfl rfl)) (CSv.nil _ _))))) (Stp.kp hO hst) rfl h)
  refine GoQA.alloc rfl rfl (alBuild (n := 1) (parts := [(0, .int .i64 (eK : Int))]) (vs := [.int .i64 (eK : Int)]) Try.underlying31 ti3 (by decide) (by decide) (by decide) (by kernel_rfl) rfl rfl) ?_
  intro wC A361 MV A363 G0 G1 hd366 hnb367 hh368
  refine sgw G0 hO fun s hO => ?_
  have sL : Els (Rp.int .i64) (bl [t1 (id Fl.fl : Fl rpRule) 185 fF gk fG ie, t1 Fl.i 3 fH gm fI ig, t1 Fl.i 3 MT (gn + 1) MU (ii ++ ([(0 : Int)])), .row 31 1 uU (f5 + 1) uV xO, .blk b29 (.cells #[.int .i64 ((ix a0 (0 : Int)).length : Int), .bool true, .slice aY cy a8, .slice fJ f5 fK, .slice fY gn f0, .slice fH gm fI, .slice none 0 0, .slice fF gk fG, .int .i64 (0 : Int)] 123 (0, 0)), t2 Fl.i 31 3 aY cy a8 fE r20, .blk B2 (.cells #[.int .i64 (0 : Int), .bool false, .slice none 0 0, .slice none 0 0, .slice none 0 0, .slice none 0 0, .slice none 0 0, .slice none 0 0, .int .i64 (0 : Int)] 123 (0, 0))] ++ A361) wC [.int .i64 (eK : Int)] [(eK : Int)] := (Els.cons rfl rfl (Els.nil _ _ _) (by simp [mx]))
  refine sgn (e := .row 3 1 (some ⟨MV, 0, none⟩) 1 1 [.int .i64 (eK : Int)]) G1 hO mI hw295 hnb367 rfl hh368 hd366 (fr : Fr (bl []) w0 _ wC) fun s hO hB => ?_
  replace sL := sL.ch s.ch
  refine cl1 Fl.i 0 hO sL.u fun s hO => ?_
  refine GoQA.loudI rfl rfl fun Yz A371 G3 => ?_
  refine sgw G3 hO fun s hO => ?_
  refine sfz 0 hO fun s hO G4 P5 => ?_
  refine sapQ 1 hO G4 H.2 (fun YA YB YC s hO => ?_) (g := fun _ _ _ _ hv hst h => GoAt.step hv (fun _ => (CSv.cons (cs_eq (J00 4 hO rfl rfl) (J00 4 hst.own rfl rfl)) (CSv.cons (cs_eq (J00 4 hO rfl rfl) (J00 4 hst.own rfl rfl)) (CSv.cons (cs_eq (J00 4 hO rfl rfl) (J00 4 hst.own rfl rfl)) (CSv.nil _ _))))) (Stp.kp hO hst) rfl h)
  refine GoQA.lastI rfl rfl fun YE A379 G5 => ?_
  refine sgw G5 hO fun s hO => ?_
  refine sbs 4 hO fun YF s hO => ?_
  refine au ?_
  refine GoQA.lastI rfl rfl fun Lh A383 G6 => ?_
  refine sgw G6 hO fun s hO => ?_
  refine sbs 4 hO fun YG s hO => ?_
  refine au ?_
  refine GoQA.lastI rfl rfl fun KJ A387 G7 => ?_
  refine sgw G7 hO fun s hO => ?_
  refine sbs 4 hO fun YH s hO => ?_
  refine GoQA.nil fun YJ A391 G8 G9 => ?_
  refine sgw G8 hO fun s hO => ?_
  refine spm G9 hO fun s hO => ?_
  refine au ?_
  refine au ?_
  refine sinc (natbd rB fm.bd) ?_
  refine au ?_
  exact hX2 _ H.2.2 _ _ ⟨_, _, _, _, _, _, _, _, _, _, _, _, _, agr, hO, xP.u, fr⟩
 refine au ?_
 refine zs (J05 (vs := [.int .i64 ((ix a0 (0 : Int)).length : Int), .bool true, .slice aY cy a8, .slice fJ f5 fK, .slice fY gn f0, .slice fH gm fI, .slice none 0 0, .slice fF gk fG, .int .i64 (0 : Int)]) (i := 0) 4 hO rfl rfl Try.underlying123 rfl ti123 rfl) ?_
 refine sba 6 hO fun MW s hO => ?_
 refine au ?_
 refine sfz2 5 hO fun s hO Ha Hb => ?_
 refine sfzR 3 hO lL.u fun s hO sM sN => ?_
 refine sfz 2 hO fun s hO lG mE => ?_
 refine sfz 1 hO fun s hO sO sP => ?_
 refine sfz 0 hO fun s hO sQ sR => ?_
 refine Go1.retC2 Try.func135 rfl rfl (J03 (vs := [.int .i64 ((ix a0 (0 : Int)).length : Int), .bool true, .slice aY cy a8, .slice fJ f5 fK, .slice fY gn f0, .slice fH gm fI, .slice none 0 0, .slice fF gk fG, .int .i64 (0 : Int)]) 1 hO rfl rfl Try.underlying123 rfl ti123) ⟨((⟨((ix a0 (0 : Int)).length : Int), true, r20, kw, ii, ig, ([] : List (List Int)), ie, (0 : Int)⟩ : Enum)), _, _, _, _, _, _, _, _, _, _, _, _, _, ?_, frs, Ha.r, sM.r, lG.r, sO.r, (ISl.null _ _ _), sQ.r, H⟩
 exact (congrArg (fun l => Value.tuple (List.toArray l)) (J01 (congrArg (fun l => Value.agg (List.toArray l)) (J01 rfl (J01 rfl (J01 (congrArg (fun nn => Value.slice aY nn a8) Hb) (J01 (congrArg (fun nn => Value.slice fJ nn fK) sN) (J01 (congrArg (fun nn => Value.slice fY nn f0) mE) (J01 (congrArg (fun nn => Value.slice fH nn fI) sP) (J01 rfl (J01 (congrArg (fun nn => Value.slice fF nn fG) sR) (J01 rfl rfl)))))))))) (J01 rfl rfl)))
theorem body114 : Body Try.prog 114 := ⟨Try.f114, Try.func114, rfl, by kernel_rfl⟩
theorem J46 {A : List Nat} {w0 : World} {p_f : Option Addr} {c_f : Nat} {p_g : Option Addr} {c_g : Nat} {f : List Int} {g : List Int} (hA : ∀ b ∈ A, b < w0.heap.size) (h_f : ISl (Rp.int .i64) A w0 p_f c_f f) (h_g : ISl (Rp.int .i64) A w0 p_g c_g g) {K : List Int → Prop} (H : J15 f g K) :
    CallsV Try.prog 114 #[.slice p_f f.length c_f, .slice p_g g.length c_g] w0 (fun v w' => ∃ (r0 : List Int), ∃ (bS : Option Addr), ∃ (bT : Nat), v = .slice bS r0.length bT ∧ Same w0 w' ∧ ISl (Rp.int .i64) A w' bS bT r0 ∧ K r0) := by
 refine CallsV.of (l := [.slice p_f f.length c_f, .slice p_g g.length c_g]) Try.func114 rfl Try.ntmps114 rfl ?_
 have hO := Owns.start hA
 have hB := Fr.refl (bl []) w0
 unfold J15 at H
 refine au ?_
 refine sln0 ?_
 refine smk Fl.i (H h_f.bd) hO fun w1 p4 s hO => ?_
 refine au ?_
 refine sln0 ?_
 refine au ?_
 refine lw (H h_f.bd).2.2 (fun (bC, out1_8) σ w => (fun Z => agrees σ [(1, .slice p_g g.length c_g), (5, .slice p4 f.length f.length), (11, .slice p_f f.length c_f), (12, .int .i64 (f.length : Int)), (13, .int .i64 (bC : Int))] ∧ Owns w0.heap.size w Z A ∧ Fr (bl []) w0 (bl Z) w) [t1 Fl.i 3 p4 f.length f.length out1_8]) ⟨agr, hO, fr⟩ ?_
 refine fun X1 => p1 fun bC out1_8 => fun H hX1 σ w6 => d2 fun hag hO hB => ?_
 dsimp only at H
 refine Go1.keep _ hag ?_
 revert hO; repeat (rename Owns _ _ _ _ => q; clear q)
 intro hO; repeat (rename Sq _ _ _ _ _ _ => q; clear q)
 refine au ?_
 refine scm H (fun h9 H => ?_) fun h9 H => ?_
 ·refine au ?_
  refine sxl hO h_f.u H.1 H.2.1 ?_
  refine au ?_
  refine sxl hO h_g.u H.2.2.1 H.2.2.2.1 ?_
  refine six1 0 hO H.2.2.2.2.1 H.2.2.2.2.2.1 ?_
  refine sst (u := (ix g (ix f (bC : Int)))) 0 hO H.2.2.2.2.1 H.2.2.2.2.2.1 fun w10 s hO => ?_
  refine au ?_
  refine sinc (natbd h9 h_f.bd) ?_
  refine au ?_
  exact hX1 _ H.2.2.2.2.2.2 _ _ ⟨agr, hO, fr⟩
 refine au ?_
 refine sfz 0 hO fun s hO wD wv => ?_
 refine Go1.ret1 Try.func114 rfl ⟨_, _, _, ?_, frs, wD.r, H⟩
 exact (congrArg (fun nn => Value.slice p4 nn f.length) wv)
end Sg
