/- -/
import Derived.Test.YtlneebpmblkllaaMr
import Derived.Test.YtlneebpmblkllaaFnx
namespace Sg
open Go Go.RowKit Go.Proofs
set_option linter.unusedVariables false
set_option linter.unusedSimpArgs false
set_option maxRecDepth 100000
set_option maxHeartbeats 4000000
theorem body78 : Body Try.prog 78 := ⟨Try.f78, Try.func78, rfl, by kernel_rfl⟩
theorem J2S {A : List Nat} {w0 : World} {p_s__Table : Option Addr} {c_s__Table : Nat} {p_s__Words : Option Addr} {c_s__Words : Nat} {p_s__Images : Option Addr} {c_s__Images : Nat} {p_s__Accept : Option Addr} {c_s__Accept : Nat} {p_s__Plus : Option Addr} {c_s__Plus : Nat} {s_ : Syntactic} (hA : ∀ b ∈ A, b < w0.heap.size) (h_s__Table : ISl (Rp.sl (Rp.int .i64)) A w0 p_s__Table c_s__Table s_.Table) (h_s__Words : ISl (Rp.str) A w0 p_s__Words c_s__Words s_.Words) (h_s__Images : ISl (Rp.int .i64) A w0 p_s__Images c_s__Images s_.Images) (h_s__Accept : ISl (Rp.bool) A w0 p_s__Accept c_s__Accept s_.Accept) (h_s__Plus : ISl (Rp.bool) A w0 p_s__Plus c_s__Plus s_.Plus) {K : List (List (Int × Str)) → Prop} (H : J0F s_ K) :
    CallsV Try.prog 78 #[.agg #[.int .i64 s_.Letters, .slice p_s__Table s_.Table.length c_s__Table, .slice p_s__Words s_.Words.length c_s__Words, .slice p_s__Images s_.Images.length c_s__Images, .slice p_s__Accept s_.Accept.length c_s__Accept, .slice p_s__Plus s_.Plus.length c_s__Plus]] w0 (fun v w' => ∃ (r0 : List (List (Int × Str))), ∃ (p_r0 : Option Addr), ∃ (c_r0 : Nat), v = .slice p_r0 r0.length c_r0 ∧ Same w0 w' ∧ ISl (Rp.mp (fun a : Int => Value.int .i64 a) (fun a : List UInt8 => Value.string (gstr a))) A w' p_r0 c_r0 r0 ∧ K r0) := by
 refine CallsV.of (l := [.agg #[.int .i64 s_.Letters, .slice p_s__Table s_.Table.length c_s__Table, .slice p_s__Words s_.Words.length c_s__Words, .slice p_s__Images s_.Images.length c_s__Images, .slice p_s__Accept s_.Accept.length c_s__Accept, .slice p_s__Plus s_.Plus.length c_s__Plus]]) Try.func78 rfl Try.ntmps78 rfl ?_
 have hO := Owns.start hA
 have hB := Fr.refl (bl []) w0
 unfold J0F at H
 have hwb : s_.Words.length ≤ 9223372036854775807 := h_s__Words.bd
 refine sbx hO fun w1 B2 s hO => ?_
 refine au ?_
 refine sln0 ?_
 have zz := msE.nil (kv := (fun a : Int => Value.int .i64 a)) (vv := (fun a : List UInt8 => Value.string (gstr a))) hO
 refine nst zz fun s hO => ?_
 refine snil Fl.ref 99 hO fun s hO => ?_
 refine sdr [2] hO fun s hO => ?_
 refine au ?_
 refine lw H (fun (k, D) σ w => ∃ (bs : List Nat) (n : Nat) (p : Option Addr) (c : Nat), (fun Z => agrees σ [(3, .slice p n c), (7, .slice p_s__Words s_.Words.length c_s__Words), (8, .int .i64 (s_.Words.length : Int)), (9, .int .i64 (k : Int))] ∧ Owns w0.heap.size w Z A ∧ Fr (bl []) w0 (bl Z) w) [t1 Fl.ref 99 p n c bs, .any (msE (fun a : Int => Value.int .i64 a) (fun a : List UInt8 => Value.string (gstr a)) bs D)]) ⟨_, _, _, _, agr, hO, fr⟩ ?_
 refine fun X1 => p1 fun k D => fun H hX1 σ w2 => e4 fun bs n p c => d2 fun hag hO hB => ?_
 dsimp only at H
 refine Go1.keep _ hag ?_
 revert hO; repeat (rename Owns _ _ _ _ => q; clear q)
 intro hO; repeat (rename Sq _ _ _ _ _ _ => q; clear q)
 refine au ?_
 refine scm H (fun h1 H => ?_) fun h1 H => ?_
 ·refine sxl hO h_s__Words.u (Int.natCast_nonneg k) h1 ?_
  refine au ?_
  refine lw H (fun D σ w => ∃ (bs : List Nat) (n : Nat) (p : Option Addr) (c : Nat), (fun Z => agrees σ [(3, .slice p n c), (4, .int .i64 (k : Int)), (5, .string (gstr (ix s_.Words (k : Int)))), (7, .slice p_s__Words s_.Words.length c_s__Words), (8, .int .i64 (s_.Words.length : Int)), (9, .int .i64 (k : Int))] ∧ Owns w0.heap.size w Z A ∧ Fr (bl []) w0 (bl Z) w) [t1 Fl.ref 99 p n c bs, .any (msE (fun a : Int => Value.int .i64 a) (fun a : List UInt8 => Value.string (gstr a)) bs D)]) ⟨_, _, _, _, agr, hO, fr⟩ ?_
  refine fun X2 => fun D2 => fun H hX2 σ w3 => e4 fun bs2 n2 p2 c2 => d2 fun hag hO hB => ?_
  refine Go1.keep _ hag ?_
  revert hO; repeat (rename Owns _ _ _ _ => q; clear q)
  intro hO; repeat (rename Sq _ _ _ _ _ _ => q; clear q)
  have hbl : bs2.length = D2.length := (hO.at_ (.any (msE (fun a : Int => Value.int .i64 a) (fun a : List UInt8 => Value.string (gstr a)) bs2 D2)) (by simp)).1
  unfold J0C at H
  rw [← hbl] at H
  refine au ?_
  refine sln1 0 hO ?_
  refine au ?_
  refine zo (J1F Try.underlying9 rfl) ?_
  refine scm H (fun h2 H => ?_) fun h2 H => ?_
  ·refine au ?_
   have zz := omkM (fun a : Int => Value.int .i64 a) (fun a : List UInt8 => Value.string (gstr a)) hO
   obtain ⟨w4, B4, hst4, hs4, hop4⟩ := zz
   refine zg hop4 ?_
   refine nst hst4 fun s hO => ?_
   refine sap1 B4 1 hO H (fun _ w5 p5 c5 s hO => ?_)
   refine sfr 2 hO fun s hO => ?_
   have zz := msE.glue hO
   obtain ⟨hO2, s2⟩ := zz
   replace hO := hO2
   refine sfr 1 hO fun s hO => ?_
   refine au ?_
   exact hX2 _ H.2 _ _ ⟨_, _, _, _, agr, hO, fr⟩
  have hlt : (ix s_.Words (k : Int)).length < bs2.length := by omega
  have hb2 : bs2[(ix s_.Words (k : Int)).length]? = some (ix bs2 ((ix s_.Words (k : Int)).length : Int)) := by rw [ix_lt hlt]; exact List.getElem?_eq_getElem hlt
  have hD2 : D2[(ix s_.Words (k : Int)).length]? = some (D2.getD (ix s_.Words (k : Int)).length []) := by rw [List.getD_eq_getElem?_getD, List.getElem?_eq_getElem (by omega)]; rfl
  refine au ?_
  refine zo (J1F Try.underlying9 rfl) ?_
  have hlt' : ((ix s_.Words (k : Int)).length : Int) < (bs2.length : Int) := by omega
  refine sxl1 0 hO (Int.natCast_nonneg (ix s_.Words (k : Int)).length) hlt' ?_
  refine au ?_
  have zz := omsUpd (MK.int Try.underlying3) 1 hO rfl hb2 hD2 Try.underlying99 (k : Int) (ix s_.Words (k : Int))
  obtain ⟨w6, hst6, hop6⟩ := zz
  refine zg (hop6 (by exact rfl) (by exact rfl) (by exact rfl)) ?_
  refine nst hst6 fun s hO => ?_
  refine au ?_
  have hk1 : I64 ((k : Int) + 1) := ⟨by omega, by omega⟩
  refine sinc hk1 ?_
  refine au ?_
  exact hX1 _ H _ _ ⟨_, _, _, _, agr, hO, fr⟩
 refine au ?_
 have zz := msFreeze hO
 obtain ⟨hO2, hi, hn, s2⟩ := zz
 replace hO := hO2
 refine Go1.ret1 Try.func78 rfl ⟨_, _, _, ?_, frs, hi.r, H⟩
 exact congrArg (fun nn => Value.slice p nn c) hn
end Sg
