/- -/
import Derived.Test.YtlneebpmblkllaaVd
import Derived.Test.YtlneebpmblkllaaWSyntacticJoint
import Derived.Test.YtlneebpmblkllaaWSyntacticMonoidsc
namespace Sg
open Go Go.RowKit Go.Proofs
set_option linter.unusedVariables false
set_option linter.unusedSimpArgs false
set_option maxRecDepth 100000
set_option maxHeartbeats 4000000
theorem body76 : Body Try.prog 76 := ⟨Try.f76, Try.func76, rfl, by kernel_rfl⟩
theorem J1R {A : List Nat} {w0 : World} {jU : Option Addr} {jV : Nat} {list : List Int} {n : Int} (hA : ∀ b ∈ A, b < w0.heap.size) (mh : ISl (Rp.int .i64) A w0 jU jV list) {K : Bool → Prop} (H : J0w list n K) :
    CallsV Try.prog 76 #[.slice jU list.length jV, .int .i64 n] w0 (fun v w' => ∃ (r0 : Bool), v = .bool r0 ∧ Same w0 w' ∧ K r0) := by
 refine CallsV.of (l := [.slice jU list.length jV, .int .i64 n]) Try.func76 rfl Try.ntmps76 rfl ?_
 have hO := Owns.start hA
 have hB := Fr.refl (bl []) w0
 unfold J0w at H
 refine sln0 ?_
 refine au ?_
 refine lw (H mh.bd) (fun k1_2 σ w => (fun Z => agrees σ [(1, .int .i64 n), (7, .slice jU list.length jV), (8, .int .i64 (list.length : Int)), (9, .int .i64 (k1_2 : Int))] ∧ Owns w0.heap.size w Z A ∧ Fr (bl []) w0 (bl Z) w) []) ⟨agr, hO, fr⟩ ?_
 refine fun X1 => fun k1_2 => fun H hX1 σ w1 => d2 fun hag hO hB => ?_
 refine Go1.keep _ hag ?_
 refine scm H (fun h3 H => ?_) fun h3 H => ?_
 ·refine sxl hO mh.u H.1 H.2.1 ?_
  refine au ?_
  have h4 := H.1
  have h5 := H.2.1
  refine scm H.2.2 (fun h6 H => ?_) fun h6 H => ?_
  ·refine au ?_
   refine Go1.ret1 Try.func76 rfl ⟨_, ?_, frs, H⟩
   exact rfl
  refine scm H (fun h7 H => ?_) fun h7 H => ?_
  ·refine au ?_
   refine Go1.ret1 Try.func76 rfl ⟨_, ?_, frs, H⟩
   exact rfl
  refine sinc (natbd h3 mh.bd) ?_
  refine au ?_
  exact hX1 _ H _ _ ⟨agr, hO, fr⟩
 refine au ?_
 refine Go1.ret1 Try.func76 rfl ⟨_, ?_, frs, H⟩
 exact rfl
theorem body71 : Body Try.prog 71 := ⟨Try.f71, Try.func71, rfl, by kernel_rfl⟩
theorem J3B {A : List Nat} {w0 : World} {dt dQ dw dy en : Option Addr} {du dR dx dz eo : Nat} {a0 : Syntactic} (hA : ∀ b ∈ A, b < w0.heap.size) (eA : ISl (Rp.sl (Rp.int .i64)) A w0 dt du a0.Table) (f6 : ISl (Rp.str) A w0 dQ dR a0.Words) (eX : ISl (Rp.int .i64) A w0 dw dx a0.Images) (fJ : ISl (Rp.bool) A w0 dy dz a0.Accept) (gC : ISl (Rp.bool) A w0 en eo a0.Plus) {K : Bool → Prop} (H : J0L a0 K) :
    CallsV Try.prog 71 #[.agg #[.int .i64 a0.Letters, .slice dt a0.Table.length du, .slice dQ a0.Words.length dR, .slice dw a0.Images.length dx, .slice dy a0.Accept.length dz, .slice en a0.Plus.length eo]] w0 (fun v w' => ∃ (r0 : Bool), v = .bool r0 ∧ Same w0 w' ∧ K r0) := by
 refine CallsV.of (l := [.agg #[.int .i64 a0.Letters, .slice dt a0.Table.length du, .slice dQ a0.Words.length dR, .slice dw a0.Images.length dx, .slice dy a0.Accept.length dz, .slice en a0.Plus.length eo]]) Try.func71 rfl Try.ntmps71 rfl ?_
 have hO := Owns.start hA
 have hB := Fr.refl (bl []) w0
 unfold J0L at H
 refine sbx hO fun w1 B2 s hO => ?_
 refine sln0 ?_
 refine scm (H eA.bd) (fun h4 H => ?_) fun h4 H => ?_
 ·refine au ?_
  refine Go1.ret1 Try.func71 rfl ⟨_, ?_, frs, H⟩
  exact rfl
 refine scm H (fun h5 H => ?_) fun h5 H => ?_
 ·refine au ?_
  refine Go1.ret1 Try.func71 rfl ⟨_, ?_, frs, H⟩
  exact rfl
 refine scm H (fun h6 H => ?_) fun h6 H => ?_
 ·refine au ?_
  refine Go1.ret1 Try.func71 rfl ⟨_, ?_, frs, H⟩
  exact rfl
 refine scm H (fun h7 H => ?_) fun h7 H => ?_
 ·refine au ?_
  refine Go1.ret1 Try.func71 rfl ⟨_, ?_, frs, H⟩
  exact rfl
 refine sln0 ?_
 refine scm (H f6.bd) (fun h8 H => ?_) fun h8 H => ?_
 ·refine sln0 ?_
  refine scm (H fJ.bd) (fun h9 H => ?_) fun h9 H => ?_
  ·refine sln0 ?_
   refine scm (H gC.bd) (fun h10 H => ?_) fun h10 H => ?_
   ·refine sln0 ?_
    refine scm (H eX.bd) (fun h11 H => ?_) fun h11 H => ?_
    ·refine sln0 ?_
     refine au ?_
     refine lw H (fun jW σ w => (fun Z => agrees σ [(1, .pointer (some ⟨B2, 0, none⟩)), (3, .int .i64 (a0.Table.length : Int)), (53, .slice dt a0.Table.length du), (54, .int .i64 (a0.Table.length : Int)), (55, .int .i64 (jW : Int))] ∧ Owns w0.heap.size w Z A ∧ Fr (bl []) w0 (bl Z) w) [.blk B2 (.cells #[.int .i64 a0.Letters, .slice dt a0.Table.length du, .slice dQ a0.Words.length dR, .slice dw a0.Images.length dx, .slice dy a0.Accept.length dz, .slice en a0.Plus.length eo] 33 (0, 0))]) ⟨agr, hO, fr⟩ ?_
     refine fun X1 => fun jW => fun H hX1 σ w12 => d2 fun hag hO hB => ?_
     refine Go1.keep _ hag ?_
     revert hO; repeat (rename Owns _ _ _ _ => q; clear q)
     intro hO; repeat (rename Sq _ _ _ _ _ _ => q; clear q)
     refine scm H (fun h14 H => ?_) fun h14 H => ?_
     ·refine sxls hO eA.u H.1 H.2.1 fun p15 c16 xB => ?_
      refine sln0 ?_
      refine au ?_
      have h18 := H.1
      have h19 := H.2.1
      refine scm (H.2.2 xB.bd) (fun h20 H => ?_) fun h20 H => ?_
      ·refine au ?_
       refine zcr (J00 body76 rfl (J1R hO.lt xB.u H)) fun _ w22 => e1 fun r21 => sc0 hO fun s hO => fun H => ?_
       cases r21
       ·refine au ?_
        refine Go1.ret1 Try.func71 rfl ⟨_, ?_, frs, (iF H)⟩
        exact rfl
       refine sinc (natbd h14 eA.bd) ?_
       refine au ?_
       exact hX1 _ (iT H) _ _ ⟨agr, hO, fr⟩
      refine au ?_
      refine Go1.ret1 Try.func71 rfl ⟨_, ?_, frs, H⟩
      exact rfl
     refine au ?_
     refine zcr (J00 body76 rfl (J1R hO.lt eX.u H)) fun _ w24 => e1 fun r23 => sc0 hO fun s hO => fun H => ?_
     refine au ?_
     refine Go1.ret1 Try.func71 rfl ⟨_, ?_, frs, H⟩
     exact rfl
    refine au ?_
    refine Go1.ret1 Try.func71 rfl ⟨_, ?_, frs, H⟩
    exact rfl
   refine au ?_
   refine Go1.ret1 Try.func71 rfl ⟨_, ?_, frs, H⟩
   exact rfl
  refine au ?_
  refine Go1.ret1 Try.func71 rfl ⟨_, ?_, frs, H⟩
  exact rfl
 refine au ?_
 refine Go1.ret1 Try.func71 rfl ⟨_, ?_, frs, H⟩
 exact rfl
theorem body72 : Body Try.prog 72 := ⟨Try.f72, Try.func72, rfl, by kernel_rfl⟩
theorem J2X {A : List Nat} {w0 : World} {p_s__Table p_s__Words p_s__Images p_s__Accept p_s__Plus : Option Addr} {c_s__Table c_s__Words c_s__Images c_s__Accept c_s__Plus : Nat} {s_ : Syntactic} (hA : ∀ b ∈ A, b < w0.heap.size) (h_s__Table : ISl (Rp.sl (Rp.int .i64)) A w0 p_s__Table c_s__Table s_.Table) (h_s__Words : ISl (Rp.str) A w0 p_s__Words c_s__Words s_.Words) (h_s__Images : ISl (Rp.int .i64) A w0 p_s__Images c_s__Images s_.Images) (h_s__Accept : ISl (Rp.bool) A w0 p_s__Accept c_s__Accept s_.Accept) (h_s__Plus : ISl (Rp.bool) A w0 p_s__Plus c_s__Plus s_.Plus) {K : DFA → Prop} (H : J0t s_ K) :
    CallsV Try.prog 72 #[.agg #[.int .i64 s_.Letters, .slice p_s__Table s_.Table.length c_s__Table, .slice p_s__Words s_.Words.length c_s__Words, .slice p_s__Images s_.Images.length c_s__Images, .slice p_s__Accept s_.Accept.length c_s__Accept, .slice p_s__Plus s_.Plus.length c_s__Plus]] w0 (fun v w' => ∃ (r0 : DFA) (cR : Option Addr) (cS : Nat) (c6 : Option Addr) (c8 : Nat), v = .agg #[.int .i64 r0.Letters, .int .i64 r0.Start, .slice cR r0.Final.length cS, .slice c6 r0.Next.length c8] ∧ Same w0 w' ∧ ISl (Rp.bool) A w' cR cS r0.Final ∧ ISl (Rp.sl (Rp.int .i64)) A w' c6 c8 r0.Next ∧ K r0) := by
 refine CallsV.of (l := [.agg #[.int .i64 s_.Letters, .slice p_s__Table s_.Table.length c_s__Table, .slice p_s__Words s_.Words.length c_s__Words, .slice p_s__Images s_.Images.length c_s__Images, .slice p_s__Accept s_.Accept.length c_s__Accept, .slice p_s__Plus s_.Plus.length c_s__Plus]]) Try.func72 rfl Try.ntmps72 rfl ?_
 have hO := Owns.start hA
 have hB := Fr.refl (bl []) w0
 unfold J0t at H
 refine sbx hO fun w1 B2 s hO => ?_
 refine sal hO fun w4 B5 s hO => ?_
 refine au ?_
 refine drA Same.tr 1 [(0, .pure), (1, .stable), (2, .pure), (3, .stable), (5, .pure), (6, .stable), (7, .pure), (4, .loud), (8, .alloc), (9, .pure), (10, .alloc), (11, .last)] hO fun w7 s hO => ?_
 have hn8 := hO.le
 have hw9 := (fr : Fr (bl []) w0 _ w7).ch.size
 refine au ?_
 refine sbl 1 ?_
 refine au ?_
 refine sbl 1 ?_
 refine au ?_
 refine sbl 1 ?_
 refine sln0 ?_
 refine GoQA.loudI rfl rfl fun w10 A11 GB => ?_
 refine sgw GB hO fun s hO => ?_
 refine GoAt.call (J00 body69 rfl (J1A hO.lt h_s__Accept.u (H h_s__Table.bd))) (fun _ _ hr => ⟨fun _ => saq hr, Same.kp hO (saq hr)⟩) rfl fun _ w15 => e4 fun r13 i9 iG iH => sA1 hO fun s hO => fun H => ?_
 obtain ⟨h27, H⟩ := H
 obtain ⟨h28, H⟩ := H
 refine GoQA.alloc rfl rfl (alMake2 (e' := 3) Fl.i Try.underlying23 ti31 h27 h28 (by decide) rfl rfl) ?_
 intro w18 A19 b20 A21 GC GD hd24 hnb25 hh26
 refine sgw GC hO fun s hO => ?_
 refine sgn (e := t2 Fl.i 31 3 (some ⟨b20, 0, none⟩) s_.Table.length s_.Table.length ((fun _ => (none, 0))) (List.replicate s_.Table.length ([] : List Int))) GD hO hn8 hw9 hnb25 (J5a b20) hh26 hd24 (fr : Fr (bl []) w0 _ w18) fun s hO hB => ?_
 refine GoQA.pure rfl (J06 Try.underlying25 ti25 (pl := [(0, 1), (1, 1), (2, 1), (3, 1)]) (vs := [(0, .int .i64 s_.Letters), (2, .slice iG i9 iH), (3, .slice (some ⟨b20, 0, none⟩) s_.Table.length s_.Table.length)]) (cs := #[.int .i64 s_.Letters, .int .i64 (0 : Int), .slice iG i9 iH, .slice (some ⟨b20, 0, none⟩) s_.Table.length s_.Table.length]) (by kernel_rfl) rfl (by kernel_rfl)) rfl rfl ?_
 refine GoQA.alloc rfl rfl (alAlloc (cs := #[.int .i64 (0 : Int), .int .i64 (0 : Int), .slice none 0 0, .slice none 0 0]) ti25 rfl) ?_
 intro w30 A31 b32 A33 GE GF hd36 hnb37 hh38
 refine sgw GE hO fun s hO => ?_
 refine sgn (e := .blk b32 (.cells #[.int .i64 (0 : Int), .int .i64 (0 : Int), .slice none 0 0, .slice none 0 0] 25 (0, 0))) GF hO hn8 hw9 hnb37 rfl hh38 hd36 (fr : Fr (bl []) w0 _ w30) fun s hO hB => ?_
 refine GoQA.lastI rfl rfl fun w39 A40 GG => ?_
 refine sgw GG hO fun s hO => ?_
 refine sba 0 hO fun w42 s hO => ?_
 refine GoQA.nil fun w43 A44 GH GJ => ?_
 refine sgw GH hO fun s hO => ?_
 refine spm GJ hO fun s hO => ?_
 refine sln0 ?_
 refine au ?_
 refine lw H (fun (gJ, d_49) σ w => ∃ rB, (fun Z => agrees σ [(1, .pointer (some ⟨B2, 0, none⟩)), (2, .pointer (some ⟨B5, 0, none⟩)), (3, .pointer (some ⟨b32, 0, none⟩)), (19, .slice p_s__Table s_.Table.length c_s__Table), (20, .int .i64 (s_.Table.length : Int)), (21, .int .i64 (gJ : Int))] ∧ Owns w0.heap.size w Z A ∧ Fr (bl []) w0 (bl Z) w) [.blk b32 (.cells #[.int .i64 s_.Letters, .int .i64 (0 : Int), .slice iG i9 iH, .slice (some ⟨b20, 0, none⟩) s_.Table.length s_.Table.length] 25 (0, 0)), t2 Fl.i 31 3 (some ⟨b20, 0, none⟩) s_.Table.length s_.Table.length rB d_49, t1 Fl.bool 4 iG i9 iH r13, .blk B5 (.cells #[.int .i64 (0 : Int), .int .i64 (0 : Int), .slice none 0 0, .slice none 0 0] 25 (0, 0)), .blk B2 (.cells #[.int .i64 s_.Letters, .slice p_s__Table s_.Table.length c_s__Table, .slice p_s__Words s_.Words.length c_s__Words, .slice p_s__Images s_.Images.length c_s__Images, .slice p_s__Accept s_.Accept.length c_s__Accept, .slice p_s__Plus s_.Plus.length c_s__Plus] 33 (0, 0))]) ⟨_, agr, hO, fr⟩ ?_
 refine fun X1 => p1 fun gJ d_49 => fun H hX1 σ w47 => e1 fun rB => d2 fun hag hO hB => ?_
 dsimp only at H
 refine Go1.keep _ hag ?_
 revert hO; repeat (rename Owns _ _ _ _ => q; clear q)
 intro hO; repeat (rename Sq _ _ _ _ _ _ => q; clear q)
 refine scm H (fun h51 H => ?_) fun h51 H => ?_
 ·refine sxls hO h_s__Table.u H.1 H.2.1 fun p52 c53 ny => ?_
  refine au ?_
  refine drw 1 [(0, .pure), (1, .stable), (2, .pure), (3, .pure), (4, .stable), (5, .loud), (6, .pure), (7, .last)] hO fun w55 s hO => ?_
  refine smk Fl.i H.2.2 hO fun w56 p57 s hO => ?_
  have h59 := H.1
  have h60 := H.2.1
  replace H := H.2.2.2.2
  obtain ⟨h61, H⟩ := H
  obtain ⟨h62, H⟩ := H
  refine GoQ.pure rfl (J01 Try.underlying23 ti31 rfl rfl h61 (ltn (t2neq 2 hO rfl) h62) (t2some 2 hO rfl h61 h62)) rfl rfl ?_
  refine op1 0 hO fun Pa s hO GK => ?_
  refine sfr 2 hO fun s hO => ?_
  refine sfr 1 hO fun s hO => ?_
  have zz := t2put (hf := Fl.i) hO GK.u h61 h62
  obtain ⟨w65, CK, CM⟩ := zz
  refine GoQ.last rfl (CM Try.underlying31 rfl ti31 (by exact rfl) (by exact rfl)) rfl rfl ?_
  refine nst CK fun s hO => ?_
  refine sln0 ?_
  refine au ?_
  refine lw (H h_s__Images.bd) (fun (k2_69, d_70) σ w => (fun Z => agrees σ [(1, .pointer (some ⟨B2, 0, none⟩)), (2, .pointer (some ⟨B5, 0, none⟩)), (3, .pointer (some ⟨b32, 0, none⟩)), (4, .int .i64 (gJ : Int)), (5, .slice p52 ((ix s_.Table (gJ : Int)).length) c53), (19, .slice p_s__Table s_.Table.length c_s__Table), (20, .int .i64 (s_.Table.length : Int)), (21, .int .i64 (gJ : Int)), (34, .slice p_s__Images s_.Images.length c_s__Images), (35, .int .i64 (s_.Images.length : Int)), (36, .int .i64 (k2_69 : Int))] ∧ Owns w0.heap.size w Z A ∧ ISl (Rp.int .i64) (bl Z ++ A) w p52 c53 (ix s_.Table (gJ : Int)) ∧ Fr (bl []) w0 (bl Z) w) [t2 Fl.i 31 3 (some ⟨b20, 0, none⟩) s_.Table.length s_.Table.length (hup rB (gJ : Int).toNat (p57, s_.Letters.toNat)) d_70, .blk b32 (.cells #[.int .i64 s_.Letters, .int .i64 (0 : Int), .slice iG i9 iH, .slice (some ⟨b20, 0, none⟩) s_.Table.length s_.Table.length] 25 (0, 0)), t1 Fl.bool 4 iG i9 iH r13, .blk B5 (.cells #[.int .i64 (0 : Int), .int .i64 (0 : Int), .slice none 0 0, .slice none 0 0] 25 (0, 0)), .blk B2 (.cells #[.int .i64 s_.Letters, .slice p_s__Table s_.Table.length c_s__Table, .slice p_s__Words s_.Words.length c_s__Words, .slice p_s__Images s_.Images.length c_s__Images, .slice p_s__Accept s_.Accept.length c_s__Accept, .slice p_s__Plus s_.Plus.length c_s__Plus] 33 (0, 0))]) ⟨agr, hO, ny.u, fr⟩ ?_
  refine fun X2 => p1 fun k2_69 d_70 => fun H hX2 σ w68 => d3 fun hag hO ny hB => ?_
  dsimp only at H
  refine Go1.keep _ hag ?_
  revert hO; repeat (rename Owns _ _ _ _ => q; clear q)
  intro hO; repeat (rename Sq _ _ _ _ _ _ => q; clear q)
  refine scm H (fun h71 H => ?_) fun h71 H => ?_
  ·refine sxl hO h_s__Images.u H.1 H.2.1 ?_
   refine au ?_
   refine drw 1 [(0, .pure), (1, .stable), (2, .pure), (3, .pure), (4, .stable), (5, .pure), (6, .pure), (7, .pure), (8, .pure), (9, .stable), (10, .pure), (11, .last)] hO fun w72 s hO => ?_
   refine au ?_
   have h73 := H.1
   have h74 := H.2.1
   replace H := H.2.2
   obtain ⟨h75, H⟩ := H
   obtain ⟨h76, H⟩ := H
   refine GoQ.pure rfl (J01 Try.underlying23 ti31 rfl rfl h75 (ltn (t2neq 0 hO rfl) h76) (t2some 0 hO rfl h75 h76)) rfl rfl ?_
   refine GoQ.stable rfl (t2head 0 hO rfl h75 h76 Try.underlying31 rfl rfl) rfl rfl ?_
   refine sxl hO ny.u H.1 H.2.1 ?_
   have h77 := H.1
   have h78 := H.2.1
   replace H := H.2.2
   obtain ⟨h79, H⟩ := H
   obtain ⟨h80, H⟩ := H
   refine GoQ.pure rfl (J01 Try.underlying31 ti3 rfl rfl h79 h80 (t2isome 0 hO rfl h75 h76 h79 h80)) rfl rfl ?_
   have zz := t2st (r := Rp.int .i64) (hf := Fl.i) rfl 0 hO rfl h75 h76 h79 h80 (v := .int .i64 (ix (ix s_.Table (gJ : Int)) (ix s_.Images (k2_69 : Int)))) (u := (ix (ix s_.Table (gJ : Int)) (ix s_.Images (k2_69 : Int)))) rfl rfl
   obtain ⟨w81, mI, mJ⟩ := zz
   refine GoQ.last rfl (mJ Try.underlying3 rfl ti3 (by exact rfl) (by exact rfl)) rfl rfl ?_
   refine nst mI fun s hO => ?_
   refine sinc (natbd h71 h_s__Images.bd) ?_
   refine au ?_
   exact hX2 _ H _ _ ⟨agr, hO, ny.u, fr⟩
  refine sinc (natbd h51 h_s__Table.bd) ?_
  refine au ?_
  refine sfr 4 hO fun s hO => ?_
  refine sfr 4 hO fun s hO => ?_
  refine sfr 4 hO fun s hO => ?_
  refine sfr 3 hO fun s hO => ?_
  refine sfr 4 hO fun s hO => ?_
  exact hX1 _ H _ _ ⟨_, agr, hO, fr⟩
 refine sag 0 hO ?_
 refine sba 3 hO fun w84 s hO => ?_
 refine au ?_
 refine sfz 2 hO fun s hO qA qB => ?_
 refine sfz2 1 hO fun s hO GL nV => ?_
 refine Go1.retC1 Try.func72 rfl rfl (rlb 1 hO) ⟨((⟨s_.Letters, (0 : Int), r13, d_49⟩ : DFA)), _, _, _, _, ?_, frs, qA.r, GL.r, H⟩
 exact (congrArg (fun l => Value.agg (List.toArray l)) (J05 rfl (J05 rfl (J05 (congrArg (fun nn => Value.slice iG nn iH) qB) (J05 (congrArg (fun nn => Value.slice (some ⟨b20, 0, none⟩) nn s_.Table.length) nV) rfl)))))
theorem body73 : Body Try.prog 73 := ⟨Try.f73, Try.func73, rfl, by kernel_rfl⟩
theorem J1T {A : List Nat} {w0 : World} {f7 f9 : Option Addr} {f8 gf : Nat} {s1 s2 : List Int} (hA : ∀ b ∈ A, b < w0.heap.size) (gm : ISl (Rp.int .i64) A w0 f7 f8 s1) (ii : ISl (Rp.int .i64) A w0 f9 gf s2) {K : Bool → Prop} (H : J0G s1 s2 K) :
    CallsV Try.prog 73 #[.slice f7 s1.length f8, .slice f9 s2.length gf] w0 (fun v w' => ∃ (r0 : Bool), v = .bool r0 ∧ Same w0 w' ∧ K r0) := by
 refine CallsV.of (l := [.slice f7 s1.length f8, .slice f9 s2.length gf]) Try.func73 rfl Try.ntmps73 rfl ?_
 have hO := Owns.start hA
 have hB := Fr.refl (bl []) w0
 unfold J0G at H
 refine sln0 ?_
 refine sln0 ?_
 refine scm ((H gm.bd) ii.bd) (fun h1 H => ?_) fun h1 H => ?_
 ·refine sln0 ?_
  refine au ?_
  refine lw H (fun k1_3 σ w => (fun Z => agrees σ [(0, .slice f7 s1.length f8), (1, .slice f9 s2.length gf), (12, .int .i64 (s1.length : Int)), (13, .int .i64 (k1_3 : Int))] ∧ Owns w0.heap.size w Z A ∧ Fr (bl []) w0 (bl Z) w) []) ⟨agr, hO, fr⟩ ?_
  refine fun X1 => fun k1_3 => fun H hX1 σ w2 => d2 fun hag hO hB => ?_
  refine Go1.keep _ hag ?_
  refine scm H (fun h4 H => ?_) fun h4 H => ?_
  ·refine au ?_
   refine drw 0 [(0, .pure), (1, .pure), (2, .pure), (3, .stable), (4, .pure), (5, .pure), (6, .pure), (7, .stable), (8, .pure)] hO fun w5 s hO => ?_
   refine sxl hO gm.u H.1 H.2.1 ?_
   refine sxl hO ii.u H.2.2.1 H.2.2.2.1 ?_
   have h6 := H.1
   have h7 := H.2.1
   have h8 := H.2.2.1
   have h9 := H.2.2.2.1
   refine scm H.2.2.2.2 (fun h10 H => ?_) fun h10 H => ?_
   ·refine sinc (natbd h4 gm.bd) ?_
    refine au ?_
    exact hX1 _ H _ _ ⟨agr, hO, fr⟩
   refine au ?_
   refine Go1.ret1 Try.func73 rfl ⟨_, ?_, frs, H⟩
   exact rfl
  refine au ?_
  refine Go1.ret1 Try.func73 rfl ⟨_, ?_, frs, H⟩
  exact rfl
 refine au ?_
 refine Go1.ret1 Try.func73 rfl ⟨_, ?_, frs, H⟩
 exact rfl
theorem body74 : Body Try.prog 74 := ⟨Try.f74, Try.func74, rfl, by kernel_rfl⟩
theorem J2T {A : List Nat} {w0 : World} {f7 f9 : Option Addr} {f8 gf : Nat} {s1 s2 : List Str} (hA : ∀ b ∈ A, b < w0.heap.size) (gm : ISl (Rp.str) A w0 f7 f8 s1) (ii : ISl (Rp.str) A w0 f9 gf s2) {K : Bool → Prop} (H : J0F s1 s2 K) :
    CallsV Try.prog 74 #[.slice f7 s1.length f8, .slice f9 s2.length gf] w0 (fun v w' => ∃ (r0 : Bool), v = .bool r0 ∧ Same w0 w' ∧ K r0) := by
 refine CallsV.of (l := [.slice f7 s1.length f8, .slice f9 s2.length gf]) Try.func74 rfl Try.ntmps74 rfl ?_
 have hO := Owns.start hA
 have hB := Fr.refl (bl []) w0
 unfold J0F at H
 refine sln0 ?_
 refine sln0 ?_
 refine scm ((H gm.bd) ii.bd) (fun h1 H => ?_) fun h1 H => ?_
 ·refine sln0 ?_
  refine au ?_
  refine lw H (fun k1_3 σ w => (fun Z => agrees σ [(0, .slice f7 s1.length f8), (1, .slice f9 s2.length gf), (12, .int .i64 (s1.length : Int)), (13, .int .i64 (k1_3 : Int))] ∧ Owns w0.heap.size w Z A ∧ Fr (bl []) w0 (bl Z) w) []) ⟨agr, hO, fr⟩ ?_
  refine fun X1 => fun k1_3 => fun H hX1 σ w2 => d2 fun hag hO hB => ?_
  refine Go1.keep _ hag ?_
  refine scm H (fun h4 H => ?_) fun h4 H => ?_
  ·refine au ?_
   refine drw 0 [(0, .pure), (1, .pure), (2, .pure), (3, .stable), (4, .pure), (5, .pure), (6, .pure), (7, .stable), (8, .pure)] hO fun w5 s hO => ?_
   refine sxl hO gm.u H.1 H.2.1 ?_
   have hle6 := ISl.J7q gm H.1 H.2.1
   refine sxl hO ii.u H.2.2.1 H.2.2.2.1 ?_
   have hle7 := ISl.J7q ii H.2.2.1 H.2.2.2.1
   have h8 := H.1
   have h9 := H.2.1
   have h10 := H.2.2.1
   have h11 := H.2.2.2.1
   refine scm H.2.2.2.2 (fun h12 H => ?_) fun h12 H => ?_
   ·refine sinc (natbd h4 gm.bd) ?_
    refine au ?_
    exact hX1 _ H _ _ ⟨agr, hO, fr⟩
   refine au ?_
   refine Go1.ret1 Try.func74 rfl ⟨_, ?_, frs, H⟩
   exact rfl
  refine au ?_
  refine Go1.ret1 Try.func74 rfl ⟨_, ?_, frs, H⟩
  exact rfl
 refine au ?_
 refine Go1.ret1 Try.func74 rfl ⟨_, ?_, frs, H⟩
 exact rfl
theorem body75 : Body Try.prog 75 := ⟨Try.f75, Try.func75, rfl, by kernel_rfl⟩
theorem J1z {A : List Nat} {w0 : World} {f7 f9 : Option Addr} {f8 gf : Nat} {s1 s2 : List Bool} (hA : ∀ b ∈ A, b < w0.heap.size) (gm : ISl (Rp.bool) A w0 f7 f8 s1) (ii : ISl (Rp.bool) A w0 f9 gf s2) {K : Bool → Prop} (H : J0D s1 s2 K) :
    CallsV Try.prog 75 #[.slice f7 s1.length f8, .slice f9 s2.length gf] w0 (fun v w' => ∃ (r0 : Bool), v = .bool r0 ∧ Same w0 w' ∧ K r0) := by
 refine CallsV.of (l := [.slice f7 s1.length f8, .slice f9 s2.length gf]) Try.func75 rfl Try.ntmps75 rfl ?_
 have hO := Owns.start hA
 have hB := Fr.refl (bl []) w0
 unfold J0D at H
 refine sln0 ?_
 refine sln0 ?_
 refine scm ((H gm.bd) ii.bd) (fun h1 H => ?_) fun h1 H => ?_
 ·refine sln0 ?_
  refine au ?_
  refine lw H (fun k1_3 σ w => (fun Z => agrees σ [(0, .slice f7 s1.length f8), (1, .slice f9 s2.length gf), (12, .int .i64 (s1.length : Int)), (13, .int .i64 (k1_3 : Int))] ∧ Owns w0.heap.size w Z A ∧ Fr (bl []) w0 (bl Z) w) []) ⟨agr, hO, fr⟩ ?_
  refine fun X1 => fun k1_3 => fun H hX1 σ w2 => d2 fun hag hO hB => ?_
  refine Go1.keep _ hag ?_
  refine scm H (fun h4 H => ?_) fun h4 H => ?_
  ·refine au ?_
   refine drw 0 [(0, .pure), (1, .pure), (2, .pure), (3, .stable), (4, .pure), (5, .pure), (6, .pure), (7, .stable), (8, .pure)] hO fun w5 s hO => ?_
   refine au ?_
   have h6 := H.1
   have h7 := H.2.1
   refine sxb hO gm.u H.1 H.2.1 H.2.2 (fun h8 H => ?_) fun h8 H => ?_
   ·refine au ?_
    have h9 := H.1
    have h10 := H.2.1
    refine sxb hO ii.u H.1 H.2.1 H.2.2 (fun h11 H => ?_) fun h11 H => ?_
    ·refine GoQ.pure rfl (J0C Try.underlying4 rfl rfl) rfl rfl ?_
     refine sinc (natbd h4 gm.bd) ?_
     refine au ?_
     exact hX1 _ H _ _ ⟨agr, hO, fr⟩
    refine GoQ.pure rfl (J0C Try.underlying4 rfl rfl) rfl rfl ?_
    refine au ?_
    refine Go1.ret1 Try.func75 rfl ⟨_, ?_, frs, H⟩
    exact rfl
   refine au ?_
   have h12 := H.1
   have h13 := H.2.1
   refine sxb hO ii.u H.1 H.2.1 H.2.2 (fun h14 H => ?_) fun h14 H => ?_
   ·refine GoQ.pure rfl (J0C Try.underlying4 rfl rfl) rfl rfl ?_
    refine au ?_
    refine Go1.ret1 Try.func75 rfl ⟨_, ?_, frs, H⟩
    exact rfl
   refine GoQ.pure rfl (J0C Try.underlying4 rfl rfl) rfl rfl ?_
   refine sinc (natbd h4 gm.bd) ?_
   refine au ?_
   exact hX1 _ H _ _ ⟨agr, hO, fr⟩
  refine au ?_
  refine Go1.ret1 Try.func75 rfl ⟨_, ?_, frs, H⟩
  exact rfl
 refine au ?_
 refine Go1.ret1 Try.func75 rfl ⟨_, ?_, frs, H⟩
 exact rfl
theorem body28 : Body Try.prog 28 := ⟨Try.f28, Try.func28, rfl, by kernel_rfl⟩
theorem J3a {A : List Nat} {w0 : World} {dt dQ dw dy en : Option Addr} {du dR dx dz eo : Nat} {a0 : Syntactic} (hA : ∀ b ∈ A, b < w0.heap.size) (eA : ISl (Rp.sl (Rp.int .i64)) A w0 dt du a0.Table) (f6 : ISl (Rp.str) A w0 dQ dR a0.Words) (eX : ISl (Rp.int .i64) A w0 dw dx a0.Images) (fJ : ISl (Rp.bool) A w0 dy dz a0.Accept) (gC : ISl (Rp.bool) A w0 en eo a0.Plus) {K : Int → Prop} (H : J0y a0 K) :
    CallsV Try.prog 28 #[.agg #[.int .i64 a0.Letters, .slice dt a0.Table.length du, .slice dQ a0.Words.length dR, .slice dw a0.Images.length dx, .slice dy a0.Accept.length dz, .slice en a0.Plus.length eo]] w0 (fun v w' => ∃ (r0 : Int), v = .int .i64 r0 ∧ Same w0 w' ∧ K r0) := by
 refine CallsV.of (l := [.agg #[.int .i64 a0.Letters, .slice dt a0.Table.length du, .slice dQ a0.Words.length dR, .slice dw a0.Images.length dx, .slice dy a0.Accept.length dz, .slice en a0.Plus.length eo]]) Try.func28 rfl Try.ntmps28 rfl ?_
 have hO := Owns.start hA
 have hB := Fr.refl (bl []) w0
 unfold J0y at H
 refine sbx hO fun w1 B2 s hO => ?_
 refine sag 0 hO ?_
 refine zcr (J00 body71 rfl (J3B hO.lt eA.u f6.u eX.u fJ.u gC.u H)) fun _ w5 => e1 fun r4 => sc0 hO fun s hO => fun H => ?_
 cases r4
 ·refine au ?_
  refine Go1.ret1 Try.func28 rfl ⟨_, ?_, frs, (iF H)⟩
  exact rfl
 refine sag 0 hO ?_
 refine zcr (J00 body72 rfl (J2X hO.lt eA.u f6.u eX.u fJ.u gC.u (iT H))) fun _ w7 => e4 fun r6 CO CP CW => e1 fun CX => sc0 hO fun s hO => d2 fun nA nM H => ?_
 refine zcr (J00 body19 rfl (J0Z hO.lt nA nM H)) fun _ w10 => e4 fun r8 r9 iI iJ => e4 fun jX jY jh ji => e4 fun jj jk ku kw => sc0 hO fun s hO => d1 fun fm => d4 fun gK gt gv ie H => ?_
 refine sal hO fun w11 B12 s hO => ?_
 refine sba 0 hO fun w14 s hO => ?_
 refine scm H (fun h15 H => ?_) fun h15 H => ?_
 ·refine sln0 ?_
  refine sln0 ?_
  refine scm ((H fm.bd) eA.bd) (fun h16 H => ?_) fun h16 H => ?_
  ·refine sln0 ?_
   refine au ?_
   refine lw H (fun k1_18 σ w => (fun Z => agrees σ [(1, .pointer (some ⟨B2, 0, none⟩)), (3, .pointer (some ⟨B12, 0, none⟩)), (28, .slice iI r8.Table.length iJ), (29, .int .i64 (r8.Table.length : Int)), (30, .int .i64 (k1_18 : Int))] ∧ Owns w0.heap.size w Z A ∧ ISl (Rp.sl (Rp.int .i64)) (bl Z ++ A) w iI iJ r8.Table ∧ ISl (Rp.str) (bl Z ++ A) w jX jY r8.Words ∧ ISl (Rp.int .i64) (bl Z ++ A) w jh ji r8.Images ∧ ISl (Rp.bool) (bl Z ++ A) w jj jk r8.Accept ∧ ISl (Rp.bool) (bl Z ++ A) w ku kw r8.Plus ∧ Fr (bl []) w0 (bl Z) w) [.blk B12 (.cells #[.int .i64 r8.Letters, .slice iI r8.Table.length iJ, .slice jX r8.Words.length jY, .slice jh r8.Images.length ji, .slice jj r8.Accept.length jk, .slice ku r8.Plus.length kw] 33 (0, 0)), .blk B2 (.cells #[.int .i64 a0.Letters, .slice dt a0.Table.length du, .slice dQ a0.Words.length dR, .slice dw a0.Images.length dx, .slice dy a0.Accept.length dz, .slice en a0.Plus.length eo] 33 (0, 0))]) ⟨agr, hO, fm.u, gK.u, gt.u, gv.u, ie.u, fr⟩ ?_
   refine fun X1 => fun k1_18 => fun H hX1 σ w17 => d1 fun hag => d1 fun hO => d1 fun fm => d4 fun gK gt gv ie hB => ?_
   refine Go1.keep _ hag ?_
   revert hO; repeat (rename Owns _ _ _ _ => q; clear q)
   intro hO; repeat (rename Sq _ _ _ _ _ _ => q; clear q)
   refine scm H (fun h19 H => ?_) fun h19 H => ?_
   ·refine sxls hO fm H.1 H.2.1 fun p20 c21 ol => ?_
    refine sxls hO eA.u H.2.2.1 H.2.2.2.1 fun p23 c24 GM => ?_
    have h28 := H.1
    have h29 := H.2.1
    have h30 := H.2.2.1
    have h31 := H.2.2.2.1
    refine zcr (J00 body73 rfl (J1T hO.lt ol.u GM.u H.2.2.2.2)) fun _ w27 => e1 fun r26 => sc0 hO fun s hO => fun H => ?_
    cases r26
    ·refine au ?_
     refine Go1.ret1 Try.func28 rfl ⟨_, ?_, frs, (iF H)⟩
     exact rfl
    refine sinc (natbd h19 fm.bd) ?_
    refine au ?_
    exact hX1 _ (iT H) _ _ ⟨agr, hO, fm.u, gK.u, gt.u, gv.u, ie.u, fr⟩
   refine au ?_
   refine zcr (J00 body74 rfl (J2T hO.lt gK.u f6.u H)) fun _ w33 => e1 fun r32 => sc0 hO fun s hO => fun H => ?_
   cases r32
   ·refine au ?_
    refine Go1.ret1 Try.func28 rfl ⟨_, ?_, frs, (iF H)⟩
    exact rfl
   refine au ?_
   refine zcr (J00 body73 rfl (J1T hO.lt gt.u eX.u (iT H))) fun _ w35 => e1 fun r34 => sc0 hO fun s hO => fun H => ?_
   cases r34
   ·refine au ?_
    refine Go1.ret1 Try.func28 rfl ⟨_, ?_, frs, (iF H)⟩
    exact rfl
   refine au ?_
   refine zcr (J00 body75 rfl (J1z hO.lt gv.u fJ.u (iT H))) fun _ w37 => e1 fun r36 => sc0 hO fun s hO => fun H => ?_
   cases r36
   ·refine au ?_
    refine Go1.ret1 Try.func28 rfl ⟨_, ?_, frs, (iF H)⟩
    exact rfl
   refine au ?_
   refine zcr (J00 body75 rfl (J1z hO.lt ie.u gC.u (iT H))) fun _ w39 => e1 fun r38 => sc0 hO fun s hO => fun H => ?_
   cases r38
   ·refine au ?_
    refine Go1.ret1 Try.func28 rfl ⟨_, ?_, frs, (iF H)⟩
    exact rfl
   refine au ?_
   refine Go1.ret1 Try.func28 rfl ⟨_, ?_, frs, (iT H)⟩
   exact rfl
  refine au ?_
  refine Go1.ret1 Try.func28 rfl ⟨_, ?_, frs, H⟩
  exact rfl
 refine au ?_
 refine Go1.ret1 Try.func28 rfl ⟨_, ?_, frs, H⟩
 exact rfl
theorem body30 : Body Try.prog 30 := ⟨Try.f30, Try.func30, rfl, by kernel_rfl⟩
theorem J5V {A : List Nat} {w0 : World} {p_t p_l : Option Addr} {c_t c_l : Nat} {t : List (List Int)} {l : List Int} (hA : ∀ b ∈ A, b < w0.heap.size) (h_t : ISl (Rp.sl (Rp.int .i64)) A w0 p_t c_t t) (h_l : ISl (Rp.int .i64) A w0 p_l c_l l) {K : Bool → Prop} (H : J58 t l K) :
    CallsV Try.prog 30 #[.slice p_t t.length c_t, .slice p_l l.length c_l] w0 (fun v w' => ∃ (r0 : Bool), v = .bool r0 ∧ Same w0 w' ∧ K r0) := by
 refine CallsV.of (l := [.slice p_t t.length c_t, .slice p_l l.length c_l]) Try.func30 rfl Try.ntmps30 rfl ?_
 have hO := Owns.start hA
 have hB := Fr.refl (bl []) w0
 unfold J58 at H
 refine sln0 ?_
 refine au ?_
 refine lw (H h_l.bd) (fun k1_2 σ w => (fun Z => agrees σ [(0, .slice p_t t.length c_t), (7, .slice p_l l.length c_l), (8, .int .i64 (l.length : Int)), (9, .int .i64 (k1_2 : Int))] ∧ Owns w0.heap.size w Z A ∧ Fr (bl []) w0 (bl Z) w) []) ⟨agr, hO, fr⟩ ?_
 refine fun X1 => fun k1_2 => fun H hX1 σ w1 => d2 fun hag hO hB => ?_
 refine Go1.keep _ hag ?_
 refine scm H (fun h3 H => ?_) fun h3 H => ?_
 ·refine sxl hO h_l.u H.1 H.2.1 ?_
  refine au ?_
  have h4 := H.1
  have h5 := H.2.1
  refine scm H.2.2 (fun h6 H => ?_) fun h6 H => ?_
  ·refine au ?_
   refine Go1.ret1 Try.func30 rfl ⟨_, ?_, frs, H⟩
   exact rfl
  refine sln0 ?_
  refine scm (H h_t.bd) (fun h7 H => ?_) fun h7 H => ?_
  ·refine au ?_
   refine Go1.ret1 Try.func30 rfl ⟨_, ?_, frs, H⟩
   exact rfl
  refine sinc (natbd h3 h_l.bd) ?_
  refine au ?_
  exact hX1 _ H _ _ ⟨agr, hO, fr⟩
 refine au ?_
 refine Go1.ret1 Try.func30 rfl ⟨_, ?_, frs, H⟩
 exact rfl
end Sg
