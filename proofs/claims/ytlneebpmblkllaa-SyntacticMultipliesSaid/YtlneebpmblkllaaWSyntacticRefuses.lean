/- -/
import Derived.Test.YtlneebpmblkllaaVd
import Derived.Test.YtlneebpmblkllaaWSyntacticJoint
import Derived.Test.YtlneebpmblkllaaWSyntacticMonoidsc
namespace Sg
open Go Go.RowKit Go.Proofs
set_option linter.unusedVariables false
set_option linter.unusedSimpArgs false
set_option maxRecDepth 100000
set_option maxHeartbeats 4000000
theorem body76 : Body Try.prog 76 := ⟨Try.f76, Try.func76, rfl, by kernel_rfl⟩
theorem J1D {A : List Nat} {w0 : World} {iC : Option Addr} {iD : Nat} {list : List Int} {n : Int} (hA : ∀ b ∈ A, b < w0.heap.size) (jM : ISl (Rp.int .i64) A w0 iC iD list) {K : Bool → Prop} (H : J0k list n K) :
    CallsV Try.prog 76 #[.slice iC list.length iD, .int .i64 n] w0 (fun v w' => ∃ (r0 : Bool), v = .bool r0 ∧ Same w0 w' ∧ K r0) := by
 refine CallsV.of (l := [.slice iC list.length iD, .int .i64 n]) Try.func76 rfl Try.ntmps76 rfl ?_
 have hO := Owns.start hA
 have hB := Fr.refl (bl []) w0
 unfold J0k at H
 refine sln0 ?_
 refine au ?_
 refine lw (H jM.bd) (fun k1_2 σ w => (fun Z => agrees σ [(1, .int .i64 n), (7, .slice iC list.length iD), (8, .int .i64 (list.length : Int)), (9, .int .i64 (k1_2 : Int))] ∧ Owns w0.heap.size w Z A ∧ Fr (bl []) w0 (bl Z) w) []) ⟨agr, hO, fr⟩ ?_
 refine fun X1 => fun k1_2 => fun H hX1 σ w1 => d2 fun hag hO hB => ?_
 refine Go1.keep _ hag ?_
 refine scm H (fun h3 H => ?_) fun h3 H => ?_
 ·refine sxl hO jM.u H.1 H.2.1 ?_
  refine au ?_
  have h4 := H.1
  have h5 := H.2.1
  refine scm H.2.2 (fun h6 H => ?_) fun h6 H => ?_
  ·refine au ?_
   refine Go1.ret1 Try.func76 rfl ⟨_, ?_, frs, H⟩
   exact rfl
  refine scm H (fun h7 H => ?_) fun h7 H => ?_
  ·refine au ?_
   refine Go1.ret1 Try.func76 rfl ⟨_, ?_, frs, H⟩
   exact rfl
  refine sinc (natbd h3 jM.bd) ?_
  refine au ?_
  exact hX1 _ H _ _ ⟨agr, hO, fr⟩
 refine au ?_
 refine Go1.ret1 Try.func76 rfl ⟨_, ?_, frs, H⟩
 exact rfl
theorem body71 : Body Try.prog 71 := ⟨Try.f71, Try.func71, rfl, by kernel_rfl⟩
theorem J3p {A : List Nat} {w0 : World} {cL cY cN cP dt : Option Addr} {cM c8 cO cQ du : Nat} {a0 : Syntactic} (hA : ∀ b ∈ A, b < w0.heap.size) (dw : ISl (Rp.sl (Rp.int .i64)) A w0 cL cM a0.Table) (en : ISl (Rp.str) A w0 cY c8 a0.Words) (dF : ISl (Rp.int .i64) A w0 cN cO a0.Images) (dV : ISl (Rp.bool) A w0 cP cQ a0.Accept) (eV : ISl (Rp.bool) A w0 dt du a0.Plus) {K : Bool → Prop} (H : J0C a0 K) :
    CallsV Try.prog 71 #[.agg #[.int .i64 a0.Letters, .slice cL a0.Table.length cM, .slice cY a0.Words.length c8, .slice cN a0.Images.length cO, .slice cP a0.Accept.length cQ, .slice dt a0.Plus.length du]] w0 (fun v w' => ∃ (r0 : Bool), v = .bool r0 ∧ Same w0 w' ∧ K r0) := by
 refine CallsV.of (l := [.agg #[.int .i64 a0.Letters, .slice cL a0.Table.length cM, .slice cY a0.Words.length c8, .slice cN a0.Images.length cO, .slice cP a0.Accept.length cQ, .slice dt a0.Plus.length du]]) Try.func71 rfl Try.ntmps71 rfl ?_
 have hO := Owns.start hA
 have hB := Fr.refl (bl []) w0
 unfold J0C at H
 refine sbx hO fun w1 B2 s hO => ?_
 refine sln0 ?_
 refine scm (H dw.bd) (fun h4 H => ?_) fun h4 H => ?_
 ·refine au ?_
  refine Go1.ret1 Try.func71 rfl ⟨_, ?_, frs, H⟩
  exact rfl
 refine scm H (fun h5 H => ?_) fun h5 H => ?_
 ·refine au ?_
  refine Go1.ret1 Try.func71 rfl ⟨_, ?_, frs, H⟩
  exact rfl
 refine scm H (fun h6 H => ?_) fun h6 H => ?_
 ·refine au ?_
  refine Go1.ret1 Try.func71 rfl ⟨_, ?_, frs, H⟩
  exact rfl
 refine scm H (fun h7 H => ?_) fun h7 H => ?_
 ·refine au ?_
  refine Go1.ret1 Try.func71 rfl ⟨_, ?_, frs, H⟩
  exact rfl
 refine sln0 ?_
 refine scm (H en.bd) (fun h8 H => ?_) fun h8 H => ?_
 ·refine sln0 ?_
  refine scm (H dV.bd) (fun h9 H => ?_) fun h9 H => ?_
  ·refine sln0 ?_
   refine scm (H eV.bd) (fun h10 H => ?_) fun h10 H => ?_
   ·refine sln0 ?_
    refine scm (H dF.bd) (fun h11 H => ?_) fun h11 H => ?_
    ·refine sln0 ?_
     refine au ?_
     refine lw H (fun dj σ w => (fun Z => agrees σ [(1, .pointer (some ⟨B2, 0, none⟩)), (3, .int .i64 (a0.Table.length : Int)), (53, .slice cL a0.Table.length cM), (54, .int .i64 (a0.Table.length : Int)), (55, .int .i64 (dj : Int))] ∧ Owns w0.heap.size w Z A ∧ Fr (bl []) w0 (bl Z) w) [.blk B2 (.cells #[.int .i64 a0.Letters, .slice cL a0.Table.length cM, .slice cY a0.Words.length c8, .slice cN a0.Images.length cO, .slice cP a0.Accept.length cQ, .slice dt a0.Plus.length du] 33 (0, 0))]) ⟨agr, hO, fr⟩ ?_
     refine fun X1 => fun dj => fun H hX1 σ w12 => d2 fun hag hO hB => ?_
     refine Go1.keep _ hag ?_
     revert hO; repeat (rename Owns _ _ _ _ => q; clear q)
     intro hO; repeat (rename Sq _ _ _ _ _ _ => q; clear q)
     refine scm H (fun h14 H => ?_) fun h14 H => ?_
     ·refine sxls hO dw.u H.1 H.2.1 fun p15 c16 rW => ?_
      refine sln0 ?_
      refine au ?_
      have h18 := H.1
      have h19 := H.2.1
      refine scm (H.2.2 rW.bd) (fun h20 H => ?_) fun h20 H => ?_
      ·refine au ?_
       refine zcr (J00 body76 rfl (J1D hO.lt rW.u H)) fun _ w22 => e1 fun r21 => sc0 hO fun s hO => fun H => ?_
       cases r21
       ·refine au ?_
        refine Go1.ret1 Try.func71 rfl ⟨_, ?_, frs, (iF H)⟩
        exact rfl
       refine sinc (natbd h14 dw.bd) ?_
       refine au ?_
       exact hX1 _ (iT H) _ _ ⟨agr, hO, fr⟩
      refine au ?_
      refine Go1.ret1 Try.func71 rfl ⟨_, ?_, frs, H⟩
      exact rfl
     refine au ?_
     refine zcr (J00 body76 rfl (J1D hO.lt dF.u H)) fun _ w24 => e1 fun r23 => sc0 hO fun s hO => fun H => ?_
     refine au ?_
     refine Go1.ret1 Try.func71 rfl ⟨_, ?_, frs, H⟩
     exact rfl
    refine au ?_
    refine Go1.ret1 Try.func71 rfl ⟨_, ?_, frs, H⟩
    exact rfl
   refine au ?_
   refine Go1.ret1 Try.func71 rfl ⟨_, ?_, frs, H⟩
   exact rfl
  refine au ?_
  refine Go1.ret1 Try.func71 rfl ⟨_, ?_, frs, H⟩
  exact rfl
 refine au ?_
 refine Go1.ret1 Try.func71 rfl ⟨_, ?_, frs, H⟩
 exact rfl
theorem body72 : Body Try.prog 72 := ⟨Try.f72, Try.func72, rfl, by kernel_rfl⟩
theorem J2D {A : List Nat} {w0 : World} {p_s__Table p_s__Words p_s__Images p_s__Accept p_s__Plus : Option Addr} {c_s__Table c_s__Words c_s__Images c_s__Accept c_s__Plus : Nat} {s_ : Syntactic} (hA : ∀ b ∈ A, b < w0.heap.size) (h_s__Table : ISl (Rp.sl (Rp.int .i64)) A w0 p_s__Table c_s__Table s_.Table) (h_s__Words : ISl (Rp.str) A w0 p_s__Words c_s__Words s_.Words) (h_s__Images : ISl (Rp.int .i64) A w0 p_s__Images c_s__Images s_.Images) (h_s__Accept : ISl (Rp.bool) A w0 p_s__Accept c_s__Accept s_.Accept) (h_s__Plus : ISl (Rp.bool) A w0 p_s__Plus c_s__Plus s_.Plus) {K : DFA → Prop} (H : J0i s_ K) :
    CallsV Try.prog 72 #[.agg #[.int .i64 s_.Letters, .slice p_s__Table s_.Table.length c_s__Table, .slice p_s__Words s_.Words.length c_s__Words, .slice p_s__Images s_.Images.length c_s__Images, .slice p_s__Accept s_.Accept.length c_s__Accept, .slice p_s__Plus s_.Plus.length c_s__Plus]] w0 (fun v w' => ∃ (r0 : DFA) (cp : Option Addr) (cq : Nat) (cA : Option Addr) (cB : Nat), v = .agg #[.int .i64 r0.Letters, .int .i64 r0.Start, .slice cp r0.Final.length cq, .slice cA r0.Next.length cB] ∧ Same w0 w' ∧ ISl (Rp.bool) A w' cp cq r0.Final ∧ ISl (Rp.sl (Rp.int .i64)) A w' cA cB r0.Next ∧ K r0) := by
 refine CallsV.of (l := [.agg #[.int .i64 s_.Letters, .slice p_s__Table s_.Table.length c_s__Table, .slice p_s__Words s_.Words.length c_s__Words, .slice p_s__Images s_.Images.length c_s__Images, .slice p_s__Accept s_.Accept.length c_s__Accept, .slice p_s__Plus s_.Plus.length c_s__Plus]]) Try.func72 rfl Try.ntmps72 rfl ?_
 have hO := Owns.start hA
 have hB := Fr.refl (bl []) w0
 unfold J0i at H
 refine sbx hO fun w1 B2 s hO => ?_
 refine sal hO fun w4 B5 s hO => ?_
 refine au ?_
 refine drA Same.tr 1 [(0, .pure), (1, .stable), (2, .pure), (3, .stable), (5, .pure), (6, .stable), (7, .pure), (4, .loud), (8, .alloc), (9, .pure), (10, .alloc), (11, .last)] hO fun w7 s hO => ?_
 have hn8 := hO.le
 have hw9 := (fr : Fr (bl []) w0 _ w7).ch.size
 refine au ?_
 refine sbl 1 ?_
 refine au ?_
 refine sbl 1 ?_
 refine au ?_
 refine sbl 1 ?_
 refine sln0 ?_
 refine GoQA.loudI rfl rfl fun w10 A11 yM => ?_
 refine sgw yM hO fun s hO => ?_
 refine GoAt.call (J00 body69 rfl (J30 hO.lt h_s__Accept.u (H h_s__Table.bd))) (fun _ _ hr => ⟨fun _ => saq hr, Same.kp hO (saq hr)⟩) rfl fun _ w15 => e4 fun r13 gm fU fV => sA1 hO fun s hO => fun H => ?_
 obtain ⟨h27, H⟩ := H
 obtain ⟨h28, H⟩ := H
 refine GoQA.alloc rfl rfl (alMake2 (e' := 3) Fl.i Try.underlying23 ti31 h27 h28 (by decide) rfl rfl) ?_
 intro w18 A19 b20 A21 yN yO hd24 hnb25 hh26
 refine sgw yN hO fun s hO => ?_
 refine sgn (e := t2 Fl.i 31 3 (some ⟨b20, 0, none⟩) s_.Table.length s_.Table.length ((fun _ => (none, 0))) (List.replicate s_.Table.length ([] : List Int))) yO hO hn8 hw9 hnb25 (J5P b20) hh26 hd24 (fr : Fr (bl []) w0 _ w18) fun s hO hB => ?_
 refine GoQA.pure rfl (J09 Try.underlying25 ti25 (pl := [(0, 1), (1, 1), (2, 1), (3, 1)]) (vs := [(0, .int .i64 s_.Letters), (2, .slice fU gm fV), (3, .slice (some ⟨b20, 0, none⟩) s_.Table.length s_.Table.length)]) (cs := #[.int .i64 s_.Letters, .int .i64 (0 : Int), .slice fU gm fV, .slice (some ⟨b20, 0, none⟩) s_.Table.length s_.Table.length]) (by kernel_rfl) rfl (by kernel_rfl)) rfl rfl ?_
 refine GoQA.alloc rfl rfl (alAlloc (cs := #[.int .i64 (0 : Int), .int .i64 (0 : Int), .slice none 0 0, .slice none 0 0]) ti25 rfl) ?_
 intro w30 A31 b32 A33 yP yQ hd36 hnb37 hh38
 refine sgw yP hO fun s hO => ?_
 refine sgn (e := .blk b32 (.cells #[.int .i64 (0 : Int), .int .i64 (0 : Int), .slice none 0 0, .slice none 0 0] 25 (0, 0))) yQ hO hn8 hw9 hnb37 rfl hh38 hd36 (fr : Fr (bl []) w0 _ w30) fun s hO hB => ?_
 refine GoQA.lastI rfl rfl fun w39 A40 yR => ?_
 refine sgw yR hO fun s hO => ?_
 refine sba 0 hO fun w42 s hO => ?_
 refine GoQA.nil fun w43 A44 yS yT => ?_
 refine sgw yS hO fun s hO => ?_
 refine spm yT hO fun s hO => ?_
 refine sln0 ?_
 refine au ?_
 refine lw H (fun (fh, d_49) σ w => ∃ nO, (fun Z => agrees σ [(1, .pointer (some ⟨B2, 0, none⟩)), (2, .pointer (some ⟨B5, 0, none⟩)), (3, .pointer (some ⟨b32, 0, none⟩)), (19, .slice p_s__Table s_.Table.length c_s__Table), (20, .int .i64 (s_.Table.length : Int)), (21, .int .i64 (fh : Int))] ∧ Owns w0.heap.size w Z A ∧ Fr (bl []) w0 (bl Z) w) [.blk b32 (.cells #[.int .i64 s_.Letters, .int .i64 (0 : Int), .slice fU gm fV, .slice (some ⟨b20, 0, none⟩) s_.Table.length s_.Table.length] 25 (0, 0)), t2 Fl.i 31 3 (some ⟨b20, 0, none⟩) s_.Table.length s_.Table.length nO d_49, t1 Fl.bool 4 fU gm fV r13, .blk B5 (.cells #[.int .i64 (0 : Int), .int .i64 (0 : Int), .slice none 0 0, .slice none 0 0] 25 (0, 0)), .blk B2 (.cells #[.int .i64 s_.Letters, .slice p_s__Table s_.Table.length c_s__Table, .slice p_s__Words s_.Words.length c_s__Words, .slice p_s__Images s_.Images.length c_s__Images, .slice p_s__Accept s_.Accept.length c_s__Accept, .slice p_s__Plus s_.Plus.length c_s__Plus] 33 (0, 0))]) ⟨_, agr, hO, fr⟩ ?_
 refine fun X1 => p1 fun fh d_49 => fun H hX1 σ w47 => e1 fun nO => d2 fun hag hO hB => ?_
 dsimp only at H
 refine Go1.keep _ hag ?_
 revert hO; repeat (rename Owns _ _ _ _ => q; clear q)
 intro hO; repeat (rename Sq _ _ _ _ _ _ => q; clear q)
 refine scm H (fun h51 H => ?_) fun h51 H => ?_
 ·refine sxls hO h_s__Table.u H.1 H.2.1 fun p52 c53 kT => ?_
  refine au ?_
  refine drw 1 [(0, .pure), (1, .stable), (2, .pure), (3, .pure), (4, .stable), (5, .loud), (6, .pure), (7, .last)] hO fun w55 s hO => ?_
  refine smk Fl.i H.2.2 hO fun w56 p57 s hO => ?_
  have h59 := H.1
  have h60 := H.2.1
  replace H := H.2.2.2.2
  obtain ⟨h61, H⟩ := H
  obtain ⟨h62, H⟩ := H
  refine GoQ.pure rfl (J01 Try.underlying23 ti31 rfl rfl h61 (ltn (t2neq 2 hO rfl) h62) (t2some 2 hO rfl h61 h62)) rfl rfl ?_
  refine op1 0 hO fun Fb s hO yU => ?_
  refine sfr 2 hO fun s hO => ?_
  refine sfr 1 hO fun s hO => ?_
  have zz := t2put (hf := Fl.i) hO yU.u h61 h62
  obtain ⟨w65, vI, vJ⟩ := zz
  refine GoQ.last rfl (vJ Try.underlying31 rfl ti31 (by exact rfl) (by exact rfl)) rfl rfl ?_
  refine nst vI fun s hO => ?_
  refine sln0 ?_
  refine au ?_
  refine lw (H h_s__Images.bd) (fun (k2_69, d_70) σ w => (fun Z => agrees σ [(1, .pointer (some ⟨B2, 0, none⟩)), (2, .pointer (some ⟨B5, 0, none⟩)), (3, .pointer (some ⟨b32, 0, none⟩)), (4, .int .i64 (fh : Int)), (5, .slice p52 ((ix s_.Table (fh : Int)).length) c53), (19, .slice p_s__Table s_.Table.length c_s__Table), (20, .int .i64 (s_.Table.length : Int)), (21, .int .i64 (fh : Int)), (34, .slice p_s__Images s_.Images.length c_s__Images), (35, .int .i64 (s_.Images.length : Int)), (36, .int .i64 (k2_69 : Int))] ∧ Owns w0.heap.size w Z A ∧ ISl (Rp.int .i64) (bl Z ++ A) w p52 c53 (ix s_.Table (fh : Int)) ∧ Fr (bl []) w0 (bl Z) w) [t2 Fl.i 31 3 (some ⟨b20, 0, none⟩) s_.Table.length s_.Table.length (hup nO (fh : Int).toNat (p57, s_.Letters.toNat)) d_70, .blk b32 (.cells #[.int .i64 s_.Letters, .int .i64 (0 : Int), .slice fU gm fV, .slice (some ⟨b20, 0, none⟩) s_.Table.length s_.Table.length] 25 (0, 0)), t1 Fl.bool 4 fU gm fV r13, .blk B5 (.cells #[.int .i64 (0 : Int), .int .i64 (0 : Int), .slice none 0 0, .slice none 0 0] 25 (0, 0)), .blk B2 (.cells #[.int .i64 s_.Letters, .slice p_s__Table s_.Table.length c_s__Table, .slice p_s__Words s_.Words.length c_s__Words, .slice p_s__Images s_.Images.length c_s__Images, .slice p_s__Accept s_.Accept.length c_s__Accept, .slice p_s__Plus s_.Plus.length c_s__Plus] 33 (0, 0))]) ⟨agr, hO, kT.u, fr⟩ ?_
  refine fun X2 => p1 fun k2_69 d_70 => fun H hX2 σ w68 => d3 fun hag hO kT hB => ?_
  dsimp only at H
  refine Go1.keep _ hag ?_
  revert hO; repeat (rename Owns _ _ _ _ => q; clear q)
  intro hO; repeat (rename Sq _ _ _ _ _ _ => q; clear q)
  refine scm H (fun h71 H => ?_) fun h71 H => ?_
  ·refine sxl hO h_s__Images.u H.1 H.2.1 ?_
   refine au ?_
   refine drw 1 [(0, .pure), (1, .stable), (2, .pure), (3, .pure), (4, .stable), (5, .pure), (6, .pure), (7, .pure), (8, .pure), (9, .stable), (10, .pure), (11, .last)] hO fun w72 s hO => ?_
   refine au ?_
   have h73 := H.1
   have h74 := H.2.1
   replace H := H.2.2
   obtain ⟨h75, H⟩ := H
   obtain ⟨h76, H⟩ := H
   refine GoQ.pure rfl (J01 Try.underlying23 ti31 rfl rfl h75 (ltn (t2neq 0 hO rfl) h76) (t2some 0 hO rfl h75 h76)) rfl rfl ?_
   refine GoQ.stable rfl (t2head 0 hO rfl h75 h76 Try.underlying31 rfl rfl) rfl rfl ?_
   refine sxl hO kT.u H.1 H.2.1 ?_
   have h77 := H.1
   have h78 := H.2.1
   replace H := H.2.2
   obtain ⟨h79, H⟩ := H
   obtain ⟨h80, H⟩ := H
   refine GoQ.pure rfl (J01 Try.underlying31 ti3 rfl rfl h79 h80 (t2isome 0 hO rfl h75 h76 h79 h80)) rfl rfl ?_
   have zz := t2st (r := Rp.int .i64) (hf := Fl.i) rfl 0 hO rfl h75 h76 h79 h80 (v := .int .i64 (ix (ix s_.Table (fh : Int)) (ix s_.Images (k2_69 : Int)))) (u := (ix (ix s_.Table (fh : Int)) (ix s_.Images (k2_69 : Int)))) rfl rfl
   obtain ⟨w81, jS, jT⟩ := zz
   refine GoQ.last rfl (jT Try.underlying3 rfl ti3 (by exact rfl) (by exact rfl)) rfl rfl ?_
   refine nst jS fun s hO => ?_
   refine sinc (natbd h71 h_s__Images.bd) ?_
   refine au ?_
   exact hX2 _ H _ _ ⟨agr, hO, kT.u, fr⟩
  refine sinc (natbd h51 h_s__Table.bd) ?_
  refine au ?_
  refine sfr 4 hO fun s hO => ?_
  refine sfr 4 hO fun s hO => ?_
  refine sfr 4 hO fun s hO => ?_
  refine sfr 3 hO fun s hO => ?_
  refine sfr 4 hO fun s hO => ?_
  exact hX1 _ H _ _ ⟨_, agr, hO, fr⟩
 refine sag 0 hO ?_
 refine sba 3 hO fun w84 s hO => ?_
 refine au ?_
 refine sfz 2 hO fun s hO mU mV => ?_
 refine sfz2 1 hO fun s hO yV yW => ?_
 refine Go1.retC1 Try.func72 rfl rfl (rlb 1 hO) ⟨((⟨s_.Letters, (0 : Int), r13, d_49⟩ : DFA)), _, _, _, _, ?_, frs, mU.r, yV.r, H⟩
 exact (congrArg (fun l => Value.agg (List.toArray l)) (J02 rfl (J02 rfl (J02 (congrArg (fun nn => Value.slice fU nn fV) mV) (J02 (congrArg (fun nn => Value.slice (some ⟨b20, 0, none⟩) nn s_.Table.length) yW) rfl)))))
theorem body73 : Body Try.prog 73 := ⟨Try.f73, Try.func73, rfl, by kernel_rfl⟩
theorem J1A {A : List Nat} {w0 : World} {eo eB : Option Addr} {eA eC : Nat} {s1 s2 : List Int} (hA : ∀ b ∈ A, b < w0.heap.size) (eI : ISl (Rp.int .i64) A w0 eo eA s1) (fO : ISl (Rp.int .i64) A w0 eB eC s2) {K : Bool → Prop} (H : J0B s1 s2 K) :
    CallsV Try.prog 73 #[.slice eo s1.length eA, .slice eB s2.length eC] w0 (fun v w' => ∃ (r0 : Bool), v = .bool r0 ∧ Same w0 w' ∧ K r0) := by
 refine CallsV.of (l := [.slice eo s1.length eA, .slice eB s2.length eC]) Try.func73 rfl Try.ntmps73 rfl ?_
 have hO := Owns.start hA
 have hB := Fr.refl (bl []) w0
 unfold J0B at H
 refine sln0 ?_
 refine sln0 ?_
 refine scm ((H eI.bd) fO.bd) (fun h1 H => ?_) fun h1 H => ?_
 ·refine sln0 ?_
  refine au ?_
  refine lw H (fun k1_3 σ w => (fun Z => agrees σ [(0, .slice eo s1.length eA), (1, .slice eB s2.length eC), (12, .int .i64 (s1.length : Int)), (13, .int .i64 (k1_3 : Int))] ∧ Owns w0.heap.size w Z A ∧ Fr (bl []) w0 (bl Z) w) []) ⟨agr, hO, fr⟩ ?_
  refine fun X1 => fun k1_3 => fun H hX1 σ w2 => d2 fun hag hO hB => ?_
  refine Go1.keep _ hag ?_
  refine scm H (fun h4 H => ?_) fun h4 H => ?_
  ·refine au ?_
   refine drw 0 [(0, .pure), (1, .pure), (2, .pure), (3, .stable), (4, .pure), (5, .pure), (6, .pure), (7, .stable), (8, .pure)] hO fun w5 s hO => ?_
   refine sxl hO eI.u H.1 H.2.1 ?_
   refine sxl hO fO.u H.2.2.1 H.2.2.2.1 ?_
   have h6 := H.1
   have h7 := H.2.1
   have h8 := H.2.2.1
   have h9 := H.2.2.2.1
   refine scm H.2.2.2.2 (fun h10 H => ?_) fun h10 H => ?_
   ·refine sinc (natbd h4 eI.bd) ?_
    refine au ?_
    exact hX1 _ H _ _ ⟨agr, hO, fr⟩
   refine au ?_
   refine Go1.ret1 Try.func73 rfl ⟨_, ?_, frs, H⟩
   exact rfl
  refine au ?_
  refine Go1.ret1 Try.func73 rfl ⟨_, ?_, frs, H⟩
  exact rfl
 refine au ?_
 refine Go1.ret1 Try.func73 rfl ⟨_, ?_, frs, H⟩
 exact rfl
theorem body74 : Body Try.prog 74 := ⟨Try.f74, Try.func74, rfl, by kernel_rfl⟩
theorem J2C {A : List Nat} {w0 : World} {eo eB : Option Addr} {eA eC : Nat} {s1 s2 : List Str} (hA : ∀ b ∈ A, b < w0.heap.size) (eI : ISl (Rp.str) A w0 eo eA s1) (fO : ISl (Rp.str) A w0 eB eC s2) {K : Bool → Prop} (H : J0v s1 s2 K) :
    CallsV Try.prog 74 #[.slice eo s1.length eA, .slice eB s2.length eC] w0 (fun v w' => ∃ (r0 : Bool), v = .bool r0 ∧ Same w0 w' ∧ K r0) := by
 refine CallsV.of (l := [.slice eo s1.length eA, .slice eB s2.length eC]) Try.func74 rfl Try.ntmps74 rfl ?_
 have hO := Owns.start hA
 have hB := Fr.refl (bl []) w0
 unfold J0v at H
 refine sln0 ?_
 refine sln0 ?_
 refine scm ((H eI.bd) fO.bd) (fun h1 H => ?_) fun h1 H => ?_
 ·refine sln0 ?_
  refine au ?_
  refine lw H (fun k1_3 σ w => (fun Z => agrees σ [(0, .slice eo s1.length eA), (1, .slice eB s2.length eC), (12, .int .i64 (s1.length : Int)), (13, .int .i64 (k1_3 : Int))] ∧ Owns w0.heap.size w Z A ∧ Fr (bl []) w0 (bl Z) w) []) ⟨agr, hO, fr⟩ ?_
  refine fun X1 => fun k1_3 => fun H hX1 σ w2 => d2 fun hag hO hB => ?_
  refine Go1.keep _ hag ?_
  refine scm H (fun h4 H => ?_) fun h4 H => ?_
  ·refine au ?_
   refine drw 0 [(0, .pure), (1, .pure), (2, .pure), (3, .stable), (4, .pure), (5, .pure), (6, .pure), (7, .stable), (8, .pure)] hO fun w5 s hO => ?_
   refine sxl hO eI.u H.1 H.2.1 ?_
   have hle6 := ISl.J59 eI H.1 H.2.1
   refine sxl hO fO.u H.2.2.1 H.2.2.2.1 ?_
   have hle7 := ISl.J59 fO H.2.2.1 H.2.2.2.1
   have h8 := H.1
   have h9 := H.2.1
   have h10 := H.2.2.1
   have h11 := H.2.2.2.1
   refine scm H.2.2.2.2 (fun h12 H => ?_) fun h12 H => ?_
   ·refine sinc (natbd h4 eI.bd) ?_
    refine au ?_
    exact hX1 _ H _ _ ⟨agr, hO, fr⟩
   refine au ?_
   refine Go1.ret1 Try.func74 rfl ⟨_, ?_, frs, H⟩
   exact rfl
  refine au ?_
  refine Go1.ret1 Try.func74 rfl ⟨_, ?_, frs, H⟩
  exact rfl
 refine au ?_
 refine Go1.ret1 Try.func74 rfl ⟨_, ?_, frs, H⟩
 exact rfl
theorem body75 : Body Try.prog 75 := ⟨Try.f75, Try.func75, rfl, by kernel_rfl⟩
theorem J1m {A : List Nat} {w0 : World} {eo eB : Option Addr} {eA eC : Nat} {s1 s2 : List Bool} (hA : ∀ b ∈ A, b < w0.heap.size) (eI : ISl (Rp.bool) A w0 eo eA s1) (fO : ISl (Rp.bool) A w0 eB eC s2) {K : Bool → Prop} (H : J0r s1 s2 K) :
    CallsV Try.prog 75 #[.slice eo s1.length eA, .slice eB s2.length eC] w0 (fun v w' => ∃ (r0 : Bool), v = .bool r0 ∧ Same w0 w' ∧ K r0) := by
 refine CallsV.of (l := [.slice eo s1.length eA, .slice eB s2.length eC]) Try.func75 rfl Try.ntmps75 rfl ?_
 have hO := Owns.start hA
 have hB := Fr.refl (bl []) w0
 unfold J0r at H
 refine sln0 ?_
 refine sln0 ?_
 refine scm ((H eI.bd) fO.bd) (fun h1 H => ?_) fun h1 H => ?_
 ·refine sln0 ?_
  refine au ?_
  refine lw H (fun k1_3 σ w => (fun Z => agrees σ [(0, .slice eo s1.length eA), (1, .slice eB s2.length eC), (12, .int .i64 (s1.length : Int)), (13, .int .i64 (k1_3 : Int))] ∧ Owns w0.heap.size w Z A ∧ Fr (bl []) w0 (bl Z) w) []) ⟨agr, hO, fr⟩ ?_
  refine fun X1 => fun k1_3 => fun H hX1 σ w2 => d2 fun hag hO hB => ?_
  refine Go1.keep _ hag ?_
  refine scm H (fun h4 H => ?_) fun h4 H => ?_
  ·refine au ?_
   refine drw 0 [(0, .pure), (1, .pure), (2, .pure), (3, .stable), (4, .pure), (5, .pure), (6, .pure), (7, .stable), (8, .pure)] hO fun w5 s hO => ?_
   refine au ?_
   have h6 := H.1
   have h7 := H.2.1
   refine sxb hO eI.u H.1 H.2.1 H.2.2 (fun h8 H => ?_) fun h8 H => ?_
   ·refine au ?_
    have h9 := H.1
    have h10 := H.2.1
    refine sxb hO fO.u H.1 H.2.1 H.2.2 (fun h11 H => ?_) fun h11 H => ?_
    ·refine GoQ.pure rfl (J3q Try.underlying4 rfl rfl) rfl rfl ?_
     refine sinc (natbd h4 eI.bd) ?_
     refine au ?_
     exact hX1 _ H _ _ ⟨agr, hO, fr⟩
    refine GoQ.pure rfl (J3q Try.underlying4 rfl rfl) rfl rfl ?_
    refine au ?_
    refine Go1.ret1 Try.func75 rfl ⟨_, ?_, frs, H⟩
    exact rfl
   refine au ?_
   have h12 := H.1
   have h13 := H.2.1
   refine sxb hO fO.u H.1 H.2.1 H.2.2 (fun h14 H => ?_) fun h14 H => ?_
   ·refine GoQ.pure rfl (J3q Try.underlying4 rfl rfl) rfl rfl ?_
    refine au ?_
    refine Go1.ret1 Try.func75 rfl ⟨_, ?_, frs, H⟩
    exact rfl
   refine GoQ.pure rfl (J3q Try.underlying4 rfl rfl) rfl rfl ?_
   refine sinc (natbd h4 eI.bd) ?_
   refine au ?_
   exact hX1 _ H _ _ ⟨agr, hO, fr⟩
  refine au ?_
  refine Go1.ret1 Try.func75 rfl ⟨_, ?_, frs, H⟩
  exact rfl
 refine au ?_
 refine Go1.ret1 Try.func75 rfl ⟨_, ?_, frs, H⟩
 exact rfl
theorem body28 : Body Try.prog 28 := ⟨Try.f28, Try.func28, rfl, by kernel_rfl⟩
theorem J2G {A : List Nat} {w0 : World} {cL cY cN cP dt : Option Addr} {cM c8 cO cQ du : Nat} {a0 : Syntactic} (hA : ∀ b ∈ A, b < w0.heap.size) (dw : ISl (Rp.sl (Rp.int .i64)) A w0 cL cM a0.Table) (en : ISl (Rp.str) A w0 cY c8 a0.Words) (dF : ISl (Rp.int .i64) A w0 cN cO a0.Images) (dV : ISl (Rp.bool) A w0 cP cQ a0.Accept) (eV : ISl (Rp.bool) A w0 dt du a0.Plus) {K : Int → Prop} (H : J0o a0 K) :
    CallsV Try.prog 28 #[.agg #[.int .i64 a0.Letters, .slice cL a0.Table.length cM, .slice cY a0.Words.length c8, .slice cN a0.Images.length cO, .slice cP a0.Accept.length cQ, .slice dt a0.Plus.length du]] w0 (fun v w' => ∃ (r0 : Int), v = .int .i64 r0 ∧ Same w0 w' ∧ K r0) := by
 refine CallsV.of (l := [.agg #[.int .i64 a0.Letters, .slice cL a0.Table.length cM, .slice cY a0.Words.length c8, .slice cN a0.Images.length cO, .slice cP a0.Accept.length cQ, .slice dt a0.Plus.length du]]) Try.func28 rfl Try.ntmps28 rfl ?_
 have hO := Owns.start hA
 have hB := Fr.refl (bl []) w0
 unfold J0o at H
 refine sbx hO fun w1 B2 s hO => ?_
 refine sag 0 hO ?_
 refine zcr (J00 body71 rfl (J3p hO.lt dw.u en.u dF.u dV.u eV.u H)) fun _ w5 => e1 fun r4 => sc0 hO fun s hO => fun H => ?_
 cases r4
 ·refine au ?_
  refine Go1.ret1 Try.func28 rfl ⟨_, ?_, frs, (iF H)⟩
  exact rfl
 refine sag 0 hO ?_
 refine zcr (J00 body72 rfl (J2D hO.lt dw.u en.u dF.u dV.u eV.u (iT H))) fun _ w7 => e4 fun r6 vK vL vR => e1 fun vS => sc0 hO fun s hO => d2 fun kU li H => ?_
 refine zcr (J00 body19 rfl (J1s hO.lt kU li H)) fun _ w10 => e4 fun r8 r9 fW fX => e4 fun iE iG gC gD => e4 fun gE gF iX iY => sc0 hO fun s hO => d1 fun dJ => d4 fun fk eN eO fJ H => ?_
 refine sal hO fun w11 B12 s hO => ?_
 refine sba 0 hO fun w14 s hO => ?_
 refine scm H (fun h15 H => ?_) fun h15 H => ?_
 ·refine sln0 ?_
  refine sln0 ?_
  refine scm ((H dJ.bd) dw.bd) (fun h16 H => ?_) fun h16 H => ?_
  ·refine sln0 ?_
   refine au ?_
   refine lw H (fun k1_18 σ w => (fun Z => agrees σ [(1, .pointer (some ⟨B2, 0, none⟩)), (3, .pointer (some ⟨B12, 0, none⟩)), (28, .slice fW r8.Table.length fX), (29, .int .i64 (r8.Table.length : Int)), (30, .int .i64 (k1_18 : Int))] ∧ Owns w0.heap.size w Z A ∧ ISl (Rp.sl (Rp.int .i64)) (bl Z ++ A) w fW fX r8.Table ∧ ISl (Rp.str) (bl Z ++ A) w iE iG r8.Words ∧ ISl (Rp.int .i64) (bl Z ++ A) w gC gD r8.Images ∧ ISl (Rp.bool) (bl Z ++ A) w gE gF r8.Accept ∧ ISl (Rp.bool) (bl Z ++ A) w iX iY r8.Plus ∧ Fr (bl []) w0 (bl Z) w) [.blk B12 (.cells #[.int .i64 r8.Letters, .slice fW r8.Table.length fX, .slice iE r8.Words.length iG, .slice gC r8.Images.length gD, .slice gE r8.Accept.length gF, .slice iX r8.Plus.length iY] 33 (0, 0)), .blk B2 (.cells #[.int .i64 a0.Letters, .slice cL a0.Table.length cM, .slice cY a0.Words.length c8, .slice cN a0.Images.length cO, .slice cP a0.Accept.length cQ, .slice dt a0.Plus.length du] 33 (0, 0))]) ⟨agr, hO, dJ.u, fk.u, eN.u, eO.u, fJ.u, fr⟩ ?_
   refine fun X1 => fun k1_18 => fun H hX1 σ w17 => d1 fun hag => d1 fun hO => d1 fun dJ => d4 fun fk eN eO fJ hB => ?_
   refine Go1.keep _ hag ?_
   revert hO; repeat (rename Owns _ _ _ _ => q; clear q)
   intro hO; repeat (rename Sq _ _ _ _ _ _ => q; clear q)
   refine scm H (fun h19 H => ?_) fun h19 H => ?_
   ·refine sxls hO dJ H.1 H.2.1 fun p20 c21 yX => ?_
    refine sxls hO dw.u H.2.2.1 H.2.2.2.1 fun p23 c24 yY => ?_
    have h28 := H.1
    have h29 := H.2.1
    have h30 := H.2.2.1
    have h31 := H.2.2.2.1
    refine zcr (J00 body73 rfl (J1A hO.lt yX.u yY.u H.2.2.2.2)) fun _ w27 => e1 fun r26 => sc0 hO fun s hO => fun H => ?_
    cases r26
    ·refine au ?_
     refine Go1.ret1 Try.func28 rfl ⟨_, ?_, frs, (iF H)⟩
     exact rfl
    refine sinc (natbd h19 dJ.bd) ?_
    refine au ?_
    exact hX1 _ (iT H) _ _ ⟨agr, hO, dJ.u, fk.u, eN.u, eO.u, fJ.u, fr⟩
   refine au ?_
   refine zcr (J00 body74 rfl (J2C hO.lt fk.u en.u H)) fun _ w33 => e1 fun r32 => sc0 hO fun s hO => fun H => ?_
   cases r32
   ·refine au ?_
    refine Go1.ret1 Try.func28 rfl ⟨_, ?_, frs, (iF H)⟩
    exact rfl
   refine au ?_
   refine zcr (J00 body73 rfl (J1A hO.lt eN.u dF.u (iT H))) fun _ w35 => e1 fun r34 => sc0 hO fun s hO => fun H => ?_
   cases r34
   ·refine au ?_
    refine Go1.ret1 Try.func28 rfl ⟨_, ?_, frs, (iF H)⟩
    exact rfl
   refine au ?_
   refine zcr (J00 body75 rfl (J1m hO.lt eO.u dV.u (iT H))) fun _ w37 => e1 fun r36 => sc0 hO fun s hO => fun H => ?_
   cases r36
   ·refine au ?_
    refine Go1.ret1 Try.func28 rfl ⟨_, ?_, frs, (iF H)⟩
    exact rfl
   refine au ?_
   refine zcr (J00 body75 rfl (J1m hO.lt fJ.u eV.u (iT H))) fun _ w39 => e1 fun r38 => sc0 hO fun s hO => fun H => ?_
   cases r38
   ·refine au ?_
    refine Go1.ret1 Try.func28 rfl ⟨_, ?_, frs, (iF H)⟩
    exact rfl
   refine au ?_
   refine Go1.ret1 Try.func28 rfl ⟨_, ?_, frs, (iT H)⟩
   exact rfl
  refine au ?_
  refine Go1.ret1 Try.func28 rfl ⟨_, ?_, frs, H⟩
  exact rfl
 refine au ?_
 refine Go1.ret1 Try.func28 rfl ⟨_, ?_, frs, H⟩
 exact rfl
theorem body53 : Body Try.prog 53 := ⟨Try.f53, Try.func53, rfl, by kernel_rfl⟩
theorem J4K {A : List Nat} {w0 : World} {p_t : Option Addr} {c_t : Nat} {t : List (List Int)} (hA : ∀ b ∈ A, b < w0.heap.size) (h_t : ISl (Rp.sl (Rp.int .i64)) A w0 p_t c_t t) {K : Int → Prop} (H : J2Q t K) :
    CallsV Try.prog 53 #[.slice p_t t.length c_t] w0 (fun v w' => ∃ (r0 : Int), v = .int .i64 r0 ∧ Same w0 w' ∧ K r0) := by
 refine CallsV.of (l := [.slice p_t t.length c_t]) Try.func53 rfl Try.ntmps53 rfl ?_
 have hO := Owns.start hA
 have hB := Fr.refl (bl []) w0
 unfold J2Q at H
 refine sln0 ?_
 refine scm (H h_t.bd) (fun h1 H => ?_) fun h1 H => ?_
 ·refine au ?_
  refine Go1.ret1 Try.func53 rfl ⟨_, ?_, frs, H⟩
  exact rfl
 refine sln0 ?_
 refine scm H (fun h2 H => ?_) fun h2 H => ?_
 ·refine au ?_
  refine Go1.ret1 Try.func53 rfl ⟨_, ?_, frs, H⟩
  exact rfl
 refine sln0 ?_
 refine au ?_
 refine lw H (fun k1_4 σ w => (fun Z => agrees σ [(0, .slice p_t t.length c_t), (13, .slice p_t t.length c_t), (14, .int .i64 (t.length : Int)), (15, .int .i64 (k1_4 : Int))] ∧ Owns w0.heap.size w Z A ∧ Fr (bl []) w0 (bl Z) w) []) ⟨agr, hO, fr⟩ ?_
 refine fun X1 => fun k1_4 => fun H hX1 σ w3 => d2 fun hag hO hB => ?_
 refine Go1.keep _ hag ?_
 refine scm H (fun h5 H => ?_) fun h5 H => ?_
 ·refine sxls hO h_t.u H.1 H.2.1 fun p6 c7 hi8 => ?_
  refine sln0 ?_
  refine sln0 ?_
  have h9 := H.1
  have h10 := H.2.1
  refine scm (H.2.2 hi8.bd) (fun h11 H => ?_) fun h11 H => ?_
  ·refine sln0 ?_
   refine au ?_
   refine lw H (fun iB σ w => (fun Z => agrees σ [(0, .slice p_t t.length c_t), (13, .slice p_t t.length c_t), (14, .int .i64 (t.length : Int)), (15, .int .i64 (k1_4 : Int)), (24, .slice p6 ((ix t (k1_4 : Int)).length) c7), (25, .int .i64 ((ix t (k1_4 : Int)).length : Int)), (26, .int .i64 (iB : Int))] ∧ Owns w0.heap.size w Z A ∧ ISl (Rp.int .i64) (bl Z ++ A) w p6 c7 (ix t (k1_4 : Int)) ∧ Fr (bl []) w0 (bl Z) w) []) ⟨agr, hO, hi8.u, fr⟩ ?_
   refine fun X2 => fun iB => fun H hX2 σ w12 => d3 fun hag hO hi8 hB => ?_
   refine Go1.keep _ hag ?_
   revert hO; repeat (rename Owns _ _ _ _ => q; clear q)
   intro hO; repeat (rename Sq _ _ _ _ _ _ => q; clear q)
   refine scm H (fun h14 H => ?_) fun h14 H => ?_
   ·refine sxl hO hi8 H.1 H.2.1 ?_
    refine au ?_
    have h15 := H.1
    have h16 := H.2.1
    refine scm H.2.2 (fun h17 H => ?_) fun h17 H => ?_
    ·refine au ?_
     refine Go1.ret1 Try.func53 rfl ⟨_, ?_, frs, H⟩
     exact rfl
    refine sln0 ?_
    refine scm H (fun h18 H => ?_) fun h18 H => ?_
    ·refine au ?_
     refine Go1.ret1 Try.func53 rfl ⟨_, ?_, frs, H⟩
     exact rfl
    refine sinc (natbd h14 hi8.bd) ?_
    refine au ?_
    exact hX2 _ H _ _ ⟨agr, hO, hi8, fr⟩
   refine sinc (natbd h5 h_t.bd) ?_
   refine au ?_
   exact hX1 _ H _ _ ⟨agr, hO, fr⟩
  refine au ?_
  refine Go1.ret1 Try.func53 rfl ⟨_, ?_, frs, H⟩
  exact rfl
 refine au ?_
 refine Go1.ret1 Try.func53 rfl ⟨_, ?_, frs, H⟩
 exact rfl
theorem body30 : Body Try.prog 30 := ⟨Try.f30, Try.func30, rfl, by kernel_rfl⟩
theorem J5u {A : List Nat} {w0 : World} {p_t p_l : Option Addr} {c_t c_l : Nat} {t : List (List Int)} {l : List Int} (hA : ∀ b ∈ A, b < w0.heap.size) (h_t : ISl (Rp.sl (Rp.int .i64)) A w0 p_t c_t t) (h_l : ISl (Rp.int .i64) A w0 p_l c_l l) {K : Bool → Prop} (H : J4M t l K) :
    CallsV Try.prog 30 #[.slice p_t t.length c_t, .slice p_l l.length c_l] w0 (fun v w' => ∃ (r0 : Bool), v = .bool r0 ∧ Same w0 w' ∧ K r0) := by
 refine CallsV.of (l := [.slice p_t t.length c_t, .slice p_l l.length c_l]) Try.func30 rfl Try.ntmps30 rfl ?_
 have hO := Owns.start hA
 have hB := Fr.refl (bl []) w0
 unfold J4M at H
 refine sln0 ?_
 refine au ?_
 refine lw (H h_l.bd) (fun k1_2 σ w => (fun Z => agrees σ [(0, .slice p_t t.length c_t), (7, .slice p_l l.length c_l), (8, .int .i64 (l.length : Int)), (9, .int .i64 (k1_2 : Int))] ∧ Owns w0.heap.size w Z A ∧ Fr (bl []) w0 (bl Z) w) []) ⟨agr, hO, fr⟩ ?_
 refine fun X1 => fun k1_2 => fun H hX1 σ w1 => d2 fun hag hO hB => ?_
 refine Go1.keep _ hag ?_
 refine scm H (fun h3 H => ?_) fun h3 H => ?_
 ·refine sxl hO h_l.u H.1 H.2.1 ?_
  refine au ?_
  have h4 := H.1
  have h5 := H.2.1
  refine scm H.2.2 (fun h6 H => ?_) fun h6 H => ?_
  ·refine au ?_
   refine Go1.ret1 Try.func30 rfl ⟨_, ?_, frs, H⟩
   exact rfl
  refine sln0 ?_
  refine scm (H h_t.bd) (fun h7 H => ?_) fun h7 H => ?_
  ·refine au ?_
   refine Go1.ret1 Try.func30 rfl ⟨_, ?_, frs, H⟩
   exact rfl
  refine sinc (natbd h3 h_l.bd) ?_
  refine au ?_
  exact hX1 _ H _ _ ⟨agr, hO, fr⟩
 refine au ?_
 refine Go1.ret1 Try.func30 rfl ⟨_, ?_, frs, H⟩
 exact rfl
end Sg
