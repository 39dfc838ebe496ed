/- -/
import Derived.Test.YtlneebpmblkllaaVd
import Derived.Test.YtlneebpmblkllaaWSyntacticJoint
import Derived.Test.YtlneebpmblkllaaWSyntacticMonoidsc
namespace Sg
open Go Go.RowKit Go.Proofs
set_option linter.unusedVariables false
set_option linter.unusedSimpArgs false
set_option maxRecDepth 100000
set_option maxHeartbeats 4000000
theorem body76 : Body Try.prog 76 := ⟨Try.f76, Try.func76, rfl, by kernel_rfl⟩
theorem J0X {A : List Nat} {w0 : World} {gS : Option Addr} {gT : Nat} {list : List Int} {n : Int} (hA : ∀ b ∈ A, b < w0.heap.size) (jj : ISl (Rp.int .i64) A w0 gS gT list) {K : Bool → Prop} (H : J0h list n K) :
    CallsV Try.prog 76 #[.slice gS list.length gT, .int .i64 n] w0 (fun v w' => ∃ (r0 : Bool), v = .bool r0 ∧ Same w0 w' ∧ K r0) := by
 refine CallsV.of (l := [.slice gS list.length gT, .int .i64 n]) Try.func76 rfl Try.ntmps76 rfl ?_
 have hO := Owns.start hA
 have hB := Fr.refl (bl []) w0
 unfold J0h at H
 refine sln0 ?_
 refine au ?_
 refine lw (H jj.bd) (fun k1_2 σ w => (fun Z => agrees σ [(1, .int .i64 n), (7, .slice gS list.length gT), (8, .int .i64 (list.length : Int)), (9, .int .i64 (k1_2 : Int))] ∧ Owns w0.heap.size w Z A ∧ Fr (bl []) w0 (bl Z) w) []) ⟨agr, hO, fr⟩ ?_
 refine fun X1 => fun k1_2 => fun H hX1 σ w1 => d2 fun hag hO hB => ?_
 refine Go1.keep _ hag ?_
 refine scm H (fun h3 H => ?_) fun h3 H => ?_
 ·refine sxl hO jj.u H.1 H.2.1 ?_
  refine au ?_
  have h4 := H.1
  have h5 := H.2.1
  refine scm H.2.2 (fun h6 H => ?_) fun h6 H => ?_
  ·refine au ?_
   refine Go1.ret1 Try.func76 rfl ⟨_, ?_, frs, H⟩
   exact rfl
  refine scm H (fun h7 H => ?_) fun h7 H => ?_
  ·refine au ?_
   refine Go1.ret1 Try.func76 rfl ⟨_, ?_, frs, H⟩
   exact rfl
  refine sinc (natbd h3 jj.bd) ?_
  refine au ?_
  exact hX1 _ H _ _ ⟨agr, hO, fr⟩
 refine au ?_
 refine Go1.ret1 Try.func76 rfl ⟨_, ?_, frs, H⟩
 exact rfl
theorem body71 : Body Try.prog 71 := ⟨Try.f71, Try.func71, rfl, by kernel_rfl⟩
theorem J2Q {A : List Nat} {w0 : World} {ba bg aQ aS bC : Option Addr} {bc bh aR aT bD : Nat} {a0 : Syntactic} (hA : ∀ b ∈ A, b < w0.heap.size) (bu : ISl (Rp.sl (Rp.int .i64)) A w0 ba bc a0.Table) (aq : ISl (Rp.str) A w0 bg bh a0.Words) (cB : ISl (Rp.int .i64) A w0 aQ aR a0.Images) (ca : ISl (Rp.bool) A w0 aS aT a0.Accept) (cQ : ISl (Rp.bool) A w0 bC bD a0.Plus) {K : Bool → Prop} (H : J0J a0 K) :
    CallsV Try.prog 71 #[.agg #[.int .i64 a0.Letters, .slice ba a0.Table.length bc, .slice bg a0.Words.length bh, .slice aQ a0.Images.length aR, .slice aS a0.Accept.length aT, .slice bC a0.Plus.length bD]] w0 (fun v w' => ∃ (r0 : Bool), v = .bool r0 ∧ Same w0 w' ∧ K r0) := by
 refine CallsV.of (l := [.agg #[.int .i64 a0.Letters, .slice ba a0.Table.length bc, .slice bg a0.Words.length bh, .slice aQ a0.Images.length aR, .slice aS a0.Accept.length aT, .slice bC a0.Plus.length bD]]) Try.func71 rfl Try.ntmps71 rfl ?_
 have hO := Owns.start hA
 have hB := Fr.refl (bl []) w0
 unfold J0J at H
 refine sbx hO fun w1 B2 s hO => ?_
 refine sln0 ?_
 refine scm (H bu.bd) (fun h4 H => ?_) fun h4 H => ?_
 ·refine au ?_
  refine Go1.ret1 Try.func71 rfl ⟨_, ?_, frs, H⟩
  exact rfl
 refine scm H (fun h5 H => ?_) fun h5 H => ?_
 ·refine au ?_
  refine Go1.ret1 Try.func71 rfl ⟨_, ?_, frs, H⟩
  exact rfl
 refine scm H (fun h6 H => ?_) fun h6 H => ?_
 ·refine au ?_
  refine Go1.ret1 Try.func71 rfl ⟨_, ?_, frs, H⟩
  exact rfl
 refine scm H (fun h7 H => ?_) fun h7 H => ?_
 ·refine au ?_
  refine Go1.ret1 Try.func71 rfl ⟨_, ?_, frs, H⟩
  exact rfl
 refine sln0 ?_
 refine scm (H aq.bd) (fun h8 H => ?_) fun h8 H => ?_
 ·refine sln0 ?_
  refine scm (H ca.bd) (fun h9 H => ?_) fun h9 H => ?_
  ·refine sln0 ?_
   refine scm (H cQ.bd) (fun h10 H => ?_) fun h10 H => ?_
   ·refine sln0 ?_
    refine scm (H cB.bd) (fun h11 H => ?_) fun h11 H => ?_
    ·refine sln0 ?_
     refine au ?_
     refine lw H (fun gU σ w => (fun Z => agrees σ [(1, .pointer (some ⟨B2, 0, none⟩)), (3, .int .i64 (a0.Table.length : Int)), (53, .slice ba a0.Table.length bc), (54, .int .i64 (a0.Table.length : Int)), (55, .int .i64 (gU : Int))] ∧ Owns w0.heap.size w Z A ∧ Fr (bl []) w0 (bl Z) w) [.blk B2 (.cells #[.int .i64 a0.Letters, .slice ba a0.Table.length bc, .slice bg a0.Words.length bh, .slice aQ a0.Images.length aR, .slice aS a0.Accept.length aT, .slice bC a0.Plus.length bD] 33 (0, 0))]) ⟨agr, hO, fr⟩ ?_
     refine fun X1 => fun gU => fun H hX1 σ w12 => d2 fun hag hO hB => ?_
     refine Go1.keep _ hag ?_
     revert hO; repeat (rename Owns _ _ _ _ => q; clear q)
     intro hO; repeat (rename Sq _ _ _ _ _ _ => q; clear q)
     refine scm H (fun h14 H => ?_) fun h14 H => ?_
     ·refine sxls hO bu.u H.1 H.2.1 fun p15 c16 qF => ?_
      refine sln0 ?_
      refine au ?_
      have h18 := H.1
      have h19 := H.2.1
      refine scm (H.2.2 qF.bd) (fun h20 H => ?_) fun h20 H => ?_
      ·refine au ?_
       refine zcr (J00 body76 rfl (J0X hO.lt qF.u H)) fun _ w22 => e1 fun r21 => sc0 hO fun s hO => fun H => ?_
       cases r21
       ·refine au ?_
        refine Go1.ret1 Try.func71 rfl ⟨_, ?_, frs, (iF H)⟩
        exact rfl
       refine sinc (natbd h14 bu.bd) ?_
       refine au ?_
       exact hX1 _ (iT H) _ _ ⟨agr, hO, fr⟩
      refine au ?_
      refine Go1.ret1 Try.func71 rfl ⟨_, ?_, frs, H⟩
      exact rfl
     refine au ?_
     refine zcr (J00 body76 rfl (J0X hO.lt cB.u H)) fun _ w24 => e1 fun r23 => sc0 hO fun s hO => fun H => ?_
     refine au ?_
     refine Go1.ret1 Try.func71 rfl ⟨_, ?_, frs, H⟩
     exact rfl
    refine au ?_
    refine Go1.ret1 Try.func71 rfl ⟨_, ?_, frs, H⟩
    exact rfl
   refine au ?_
   refine Go1.ret1 Try.func71 rfl ⟨_, ?_, frs, H⟩
   exact rfl
  refine au ?_
  refine Go1.ret1 Try.func71 rfl ⟨_, ?_, frs, H⟩
  exact rfl
 refine au ?_
 refine Go1.ret1 Try.func71 rfl ⟨_, ?_, frs, H⟩
 exact rfl
theorem body72 : Body Try.prog 72 := ⟨Try.f72, Try.func72, rfl, by kernel_rfl⟩
theorem J2u {A : List Nat} {w0 : World} {p_s__Table p_s__Words p_s__Images p_s__Accept p_s__Plus : Option Addr} {c_s__Table c_s__Words c_s__Images c_s__Accept c_s__Plus : Nat} {s_ : Syntactic} (hA : ∀ b ∈ A, b < w0.heap.size) (h_s__Table : ISl (Rp.sl (Rp.int .i64)) A w0 p_s__Table c_s__Table s_.Table) (h_s__Words : ISl (Rp.str) A w0 p_s__Words c_s__Words s_.Words) (h_s__Images : ISl (Rp.int .i64) A w0 p_s__Images c_s__Images s_.Images) (h_s__Accept : ISl (Rp.bool) A w0 p_s__Accept c_s__Accept s_.Accept) (h_s__Plus : ISl (Rp.bool) A w0 p_s__Plus c_s__Plus s_.Plus) {K : DFA → Prop} (H : J0m s_ K) :
    CallsV Try.prog 72 #[.agg #[.int .i64 s_.Letters, .slice p_s__Table s_.Table.length c_s__Table, .slice p_s__Words s_.Words.length c_s__Words, .slice p_s__Images s_.Images.length c_s__Images, .slice p_s__Accept s_.Accept.length c_s__Accept, .slice p_s__Plus s_.Plus.length c_s__Plus]] w0 (fun v w' => ∃ (r0 : DFA) (cE : Option Addr) (cG : Nat) (cO : Option Addr) (cP : Nat), v = .agg #[.int .i64 r0.Letters, .int .i64 r0.Start, .slice cE r0.Final.length cG, .slice cO r0.Next.length cP] ∧ Same w0 w' ∧ ISl (Rp.bool) A w' cE cG r0.Final ∧ ISl (Rp.sl (Rp.int .i64)) A w' cO cP r0.Next ∧ K r0) := by
 refine CallsV.of (l := [.agg #[.int .i64 s_.Letters, .slice p_s__Table s_.Table.length c_s__Table, .slice p_s__Words s_.Words.length c_s__Words, .slice p_s__Images s_.Images.length c_s__Images, .slice p_s__Accept s_.Accept.length c_s__Accept, .slice p_s__Plus s_.Plus.length c_s__Plus]]) Try.func72 rfl Try.ntmps72 rfl ?_
 have hO := Owns.start hA
 have hB := Fr.refl (bl []) w0
 unfold J0m at H
 refine sbx hO fun w1 B2 s hO => ?_
 refine sal hO fun w4 B5 s hO => ?_
 refine au ?_
 refine drA Same.tr 1 [(0, .pure), (1, .stable), (2, .pure), (3, .stable), (5, .pure), (6, .stable), (7, .pure), (4, .loud), (8, .alloc), (9, .pure), (10, .alloc), (11, .last)] hO fun w7 s hO => ?_
 have hn8 := hO.le
 have hw9 := (fr : Fr (bl []) w0 _ w7).ch.size
 refine au ?_
 refine sbl 1 ?_
 refine au ?_
 refine sbl 1 ?_
 refine au ?_
 refine sbl 1 ?_
 refine sln0 ?_
 refine GoQA.loudI rfl rfl fun w10 A11 xz => ?_
 refine sgw xz hO fun s hO => ?_
 refine GoAt.call (J00 body69 rfl (J2I hO.lt h_s__Accept.u (H h_s__Table.bd))) (fun _ _ hr => ⟨fun _ => saq hr, Same.kp hO (saq hr)⟩) rfl fun _ w15 => e4 fun r13 fN fB fC => sA1 hO fun s hO => fun H => ?_
 obtain ⟨h27, H⟩ := H
 obtain ⟨h28, H⟩ := H
 refine GoQA.alloc rfl rfl (alMake2 (e' := 3) Fl.i Try.underlying23 ti31 h27 h28 (by decide) rfl rfl) ?_
 intro w18 A19 b20 A21 xA xB hd24 hnb25 hh26
 refine sgw xA hO fun s hO => ?_
 refine sgn (e := t2 Fl.i 31 3 (some ⟨b20, 0, none⟩) s_.Table.length s_.Table.length ((fun _ => (none, 0))) (List.replicate s_.Table.length ([] : List Int))) xB hO hn8 hw9 hnb25 (J5m b20) hh26 hd24 (fr : Fr (bl []) w0 _ w18) fun s hO hB => ?_
 refine GoQA.pure rfl (J0a Try.underlying25 ti25 (pl := [(0, 1), (1, 1), (2, 1), (3, 1)]) (vs := [(0, .int .i64 s_.Letters), (2, .slice fB fN fC), (3, .slice (some ⟨b20, 0, none⟩) s_.Table.length s_.Table.length)]) (cs := #[.int .i64 s_.Letters, .int .i64 (0 : Int), .slice fB fN fC, .slice (some ⟨b20, 0, none⟩) s_.Table.length s_.Table.length]) (by kernel_rfl) rfl (by kernel_rfl)) rfl rfl ?_
 refine GoQA.alloc rfl rfl (alAlloc (cs := #[.int .i64 (0 : Int), .int .i64 (0 : Int), .slice none 0 0, .slice none 0 0]) ti25 rfl) ?_
 intro w30 A31 b32 A33 xC xD hd36 hnb37 hh38
 refine sgw xC hO fun s hO => ?_
 refine sgn (e := .blk b32 (.cells #[.int .i64 (0 : Int), .int .i64 (0 : Int), .slice none 0 0, .slice none 0 0] 25 (0, 0))) xD hO hn8 hw9 hnb37 rfl hh38 hd36 (fr : Fr (bl []) w0 _ w30) fun s hO hB => ?_
 refine GoQA.lastI rfl rfl fun w39 A40 xE => ?_
 refine sgw xE hO fun s hO => ?_
 refine sba 0 hO fun w42 s hO => ?_
 refine GoQA.nil fun w43 A44 xF xG => ?_
 refine sgw xF hO fun s hO => ?_
 refine spm xG hO fun s hO => ?_
 refine sln0 ?_
 refine au ?_
 refine lw H (fun (eF, d_49) σ w => ∃ mQ, (fun Z => agrees σ [(1, .pointer (some ⟨B2, 0, none⟩)), (2, .pointer (some ⟨B5, 0, none⟩)), (3, .pointer (some ⟨b32, 0, none⟩)), (19, .slice p_s__Table s_.Table.length c_s__Table), (20, .int .i64 (s_.Table.length : Int)), (21, .int .i64 (eF : Int))] ∧ Owns w0.heap.size w Z A ∧ Fr (bl []) w0 (bl Z) w) [.blk b32 (.cells #[.int .i64 s_.Letters, .int .i64 (0 : Int), .slice fB fN fC, .slice (some ⟨b20, 0, none⟩) s_.Table.length s_.Table.length] 25 (0, 0)), t2 Fl.i 31 3 (some ⟨b20, 0, none⟩) s_.Table.length s_.Table.length mQ d_49, t1 Fl.bool 4 fB fN fC r13, .blk B5 (.cells #[.int .i64 (0 : Int), .int .i64 (0 : Int), .slice none 0 0, .slice none 0 0] 25 (0, 0)), .blk B2 (.cells #[.int .i64 s_.Letters, .slice p_s__Table s_.Table.length c_s__Table, .slice p_s__Words s_.Words.length c_s__Words, .slice p_s__Images s_.Images.length c_s__Images, .slice p_s__Accept s_.Accept.length c_s__Accept, .slice p_s__Plus s_.Plus.length c_s__Plus] 33 (0, 0))]) ⟨_, agr, hO, fr⟩ ?_
 refine fun X1 => p1 fun eF d_49 => fun H hX1 σ w47 => e1 fun mQ => d2 fun hag hO hB => ?_
 dsimp only at H
 refine Go1.keep _ hag ?_
 revert hO; repeat (rename Owns _ _ _ _ => q; clear q)
 intro hO; repeat (rename Sq _ _ _ _ _ _ => q; clear q)
 refine scm H (fun h51 H => ?_) fun h51 H => ?_
 ·refine sxls hO h_s__Table.u H.1 H.2.1 fun p52 c53 j9 => ?_
  refine au ?_
  refine drw 1 [(0, .pure), (1, .stable), (2, .pure), (3, .pure), (4, .stable), (5, .loud), (6, .pure), (7, .last)] hO fun w55 s hO => ?_
  refine smk Fl.i H.2.2 hO fun w56 p57 s hO => ?_
  have h59 := H.1
  have h60 := H.2.1
  replace H := H.2.2.2.2
  obtain ⟨h61, H⟩ := H
  obtain ⟨h62, H⟩ := H
  refine GoQ.pure rfl (J01 Try.underlying23 ti31 rfl rfl h61 (ltn (t2neq 2 hO rfl) h62) (t2some 2 hO rfl h61 h62)) rfl rfl ?_
  refine op1 0 hO fun D7 s hO xH => ?_
  refine sfr 2 hO fun s hO => ?_
  refine sfr 1 hO fun s hO => ?_
  have zz := t2put (hf := Fl.i) hO xH.u h61 h62
  obtain ⟨w65, uy, uz⟩ := zz
  refine GoQ.last rfl (uz Try.underlying31 rfl ti31 (by exact rfl) (by exact rfl)) rfl rfl ?_
  refine nst uy fun s hO => ?_
  refine sln0 ?_
  refine au ?_
  refine lw (H h_s__Images.bd) (fun (k2_69, d_70) σ w => (fun Z => agrees σ [(1, .pointer (some ⟨B2, 0, none⟩)), (2, .pointer (some ⟨B5, 0, none⟩)), (3, .pointer (some ⟨b32, 0, none⟩)), (4, .int .i64 (eF : Int)), (5, .slice p52 ((ix s_.Table (eF : Int)).length) c53), (19, .slice p_s__Table s_.Table.length c_s__Table), (20, .int .i64 (s_.Table.length : Int)), (21, .int .i64 (eF : Int)), (34, .slice p_s__Images s_.Images.length c_s__Images), (35, .int .i64 (s_.Images.length : Int)), (36, .int .i64 (k2_69 : Int))] ∧ Owns w0.heap.size w Z A ∧ ISl (Rp.int .i64) (bl Z ++ A) w p52 c53 (ix s_.Table (eF : Int)) ∧ Fr (bl []) w0 (bl Z) w) [t2 Fl.i 31 3 (some ⟨b20, 0, none⟩) s_.Table.length s_.Table.length (hup mQ (eF : Int).toNat (p57, s_.Letters.toNat)) d_70, .blk b32 (.cells #[.int .i64 s_.Letters, .int .i64 (0 : Int), .slice fB fN fC, .slice (some ⟨b20, 0, none⟩) s_.Table.length s_.Table.length] 25 (0, 0)), t1 Fl.bool 4 fB fN fC r13, .blk B5 (.cells #[.int .i64 (0 : Int), .int .i64 (0 : Int), .slice none 0 0, .slice none 0 0] 25 (0, 0)), .blk B2 (.cells #[.int .i64 s_.Letters, .slice p_s__Table s_.Table.length c_s__Table, .slice p_s__Words s_.Words.length c_s__Words, .slice p_s__Images s_.Images.length c_s__Images, .slice p_s__Accept s_.Accept.length c_s__Accept, .slice p_s__Plus s_.Plus.length c_s__Plus] 33 (0, 0))]) ⟨agr, hO, j9.u, fr⟩ ?_
  refine fun X2 => p1 fun k2_69 d_70 => fun H hX2 σ w68 => d3 fun hag hO j9 hB => ?_
  dsimp only at H
  refine Go1.keep _ hag ?_
  revert hO; repeat (rename Owns _ _ _ _ => q; clear q)
  intro hO; repeat (rename Sq _ _ _ _ _ _ => q; clear q)
  refine scm H (fun h71 H => ?_) fun h71 H => ?_
  ·refine sxl hO h_s__Images.u H.1 H.2.1 ?_
   refine au ?_
   refine drw 1 [(0, .pure), (1, .stable), (2, .pure), (3, .pure), (4, .stable), (5, .pure), (6, .pure), (7, .pure), (8, .pure), (9, .stable), (10, .pure), (11, .last)] hO fun w72 s hO => ?_
   refine au ?_
   have h73 := H.1
   have h74 := H.2.1
   replace H := H.2.2
   obtain ⟨h75, H⟩ := H
   obtain ⟨h76, H⟩ := H
   refine GoQ.pure rfl (J01 Try.underlying23 ti31 rfl rfl h75 (ltn (t2neq 0 hO rfl) h76) (t2some 0 hO rfl h75 h76)) rfl rfl ?_
   refine GoQ.stable rfl (t2head 0 hO rfl h75 h76 Try.underlying31 rfl rfl) rfl rfl ?_
   refine sxl hO j9.u H.1 H.2.1 ?_
   have h77 := H.1
   have h78 := H.2.1
   replace H := H.2.2
   obtain ⟨h79, H⟩ := H
   obtain ⟨h80, H⟩ := H
   refine GoQ.pure rfl (J01 Try.underlying31 ti3 rfl rfl h79 h80 (t2isome 0 hO rfl h75 h76 h79 h80)) rfl rfl ?_
   have zz := t2st (r := Rp.int .i64) (hf := Fl.i) rfl 0 hO rfl h75 h76 h79 h80 (v := .int .i64 (ix (ix s_.Table (eF : Int)) (ix s_.Images (k2_69 : Int)))) (u := (ix (ix s_.Table (eF : Int)) (ix s_.Images (k2_69 : Int)))) rfl rfl
   obtain ⟨w81, jm, jo⟩ := zz
   refine GoQ.last rfl (jo Try.underlying3 rfl ti3 (by exact rfl) (by exact rfl)) rfl rfl ?_
   refine nst jm fun s hO => ?_
   refine sinc (natbd h71 h_s__Images.bd) ?_
   refine au ?_
   exact hX2 _ H _ _ ⟨agr, hO, j9.u, fr⟩
  refine sinc (natbd h51 h_s__Table.bd) ?_
  refine au ?_
  refine sfr 4 hO fun s hO => ?_
  refine sfr 4 hO fun s hO => ?_
  refine sfr 4 hO fun s hO => ?_
  refine sfr 3 hO fun s hO => ?_
  refine sfr 4 hO fun s hO => ?_
  exact hX1 _ H _ _ ⟨_, agr, hO, fr⟩
 refine sag 0 hO ?_
 refine sba 3 hO fun w84 s hO => ?_
 refine au ?_
 refine sfz 2 hO fun s hO lY l5 => ?_
 refine sfz2 1 hO fun s hO mS xI => ?_
 refine Go1.retC1 Try.func72 rfl rfl (rlb 1 hO) ⟨((⟨s_.Letters, (0 : Int), r13, d_49⟩ : DFA)), _, _, _, _, ?_, frs, lY.r, mS.r, H⟩
 exact (congrArg (fun l => Value.agg (List.toArray l)) (J02 rfl (J02 rfl (J02 (congrArg (fun nn => Value.slice fB nn fC) l5) (J02 (congrArg (fun nn => Value.slice (some ⟨b20, 0, none⟩) nn s_.Table.length) xI) rfl)))))
theorem body73 : Body Try.prog 73 := ⟨Try.f73, Try.func73, rfl, by kernel_rfl⟩
theorem J1B {A : List Nat} {w0 : World} {dV dX : Option Addr} {dW dY : Nat} {s1 s2 : List Int} (hA : ∀ b ∈ A, b < w0.heap.size) (d8 : ISl (Rp.int .i64) A w0 dV dW s1) (ft : ISl (Rp.int .i64) A w0 dX dY s2) {K : Bool → Prop} (H : J0I s1 s2 K) :
    CallsV Try.prog 73 #[.slice dV s1.length dW, .slice dX s2.length dY] w0 (fun v w' => ∃ (r0 : Bool), v = .bool r0 ∧ Same w0 w' ∧ K r0) := by
 refine CallsV.of (l := [.slice dV s1.length dW, .slice dX s2.length dY]) Try.func73 rfl Try.ntmps73 rfl ?_
 have hO := Owns.start hA
 have hB := Fr.refl (bl []) w0
 unfold J0I at H
 refine sln0 ?_
 refine sln0 ?_
 refine scm ((H d8.bd) ft.bd) (fun h1 H => ?_) fun h1 H => ?_
 ·refine sln0 ?_
  refine au ?_
  refine lw H (fun k1_3 σ w => (fun Z => agrees σ [(0, .slice dV s1.length dW), (1, .slice dX s2.length dY), (12, .int .i64 (s1.length : Int)), (13, .int .i64 (k1_3 : Int))] ∧ Owns w0.heap.size w Z A ∧ Fr (bl []) w0 (bl Z) w) []) ⟨agr, hO, fr⟩ ?_
  refine fun X1 => fun k1_3 => fun H hX1 σ w2 => d2 fun hag hO hB => ?_
  refine Go1.keep _ hag ?_
  refine scm H (fun h4 H => ?_) fun h4 H => ?_
  ·refine au ?_
   refine drw 0 [(0, .pure), (1, .pure), (2, .pure), (3, .stable), (4, .pure), (5, .pure), (6, .pure), (7, .stable), (8, .pure)] hO fun w5 s hO => ?_
   refine sxl hO d8.u H.1 H.2.1 ?_
   refine sxl hO ft.u H.2.2.1 H.2.2.2.1 ?_
   have h6 := H.1
   have h7 := H.2.1
   have h8 := H.2.2.1
   have h9 := H.2.2.2.1
   refine scm H.2.2.2.2 (fun h10 H => ?_) fun h10 H => ?_
   ·refine sinc (natbd h4 d8.bd) ?_
    refine au ?_
    exact hX1 _ H _ _ ⟨agr, hO, fr⟩
   refine au ?_
   refine Go1.ret1 Try.func73 rfl ⟨_, ?_, frs, H⟩
   exact rfl
  refine au ?_
  refine Go1.ret1 Try.func73 rfl ⟨_, ?_, frs, H⟩
  exact rfl
 refine au ?_
 refine Go1.ret1 Try.func73 rfl ⟨_, ?_, frs, H⟩
 exact rfl
theorem body74 : Body Try.prog 74 := ⟨Try.f74, Try.func74, rfl, by kernel_rfl⟩
theorem J2q {A : List Nat} {w0 : World} {dV dX : Option Addr} {dW dY : Nat} {s1 s2 : List Str} (hA : ∀ b ∈ A, b < w0.heap.size) (d8 : ISl (Rp.str) A w0 dV dW s1) (ft : ISl (Rp.str) A w0 dX dY s2) {K : Bool → Prop} (H : J0D s1 s2 K) :
    CallsV Try.prog 74 #[.slice dV s1.length dW, .slice dX s2.length dY] w0 (fun v w' => ∃ (r0 : Bool), v = .bool r0 ∧ Same w0 w' ∧ K r0) := by
 refine CallsV.of (l := [.slice dV s1.length dW, .slice dX s2.length dY]) Try.func74 rfl Try.ntmps74 rfl ?_
 have hO := Owns.start hA
 have hB := Fr.refl (bl []) w0
 unfold J0D at H
 refine sln0 ?_
 refine sln0 ?_
 refine scm ((H d8.bd) ft.bd) (fun h1 H => ?_) fun h1 H => ?_
 ·refine sln0 ?_
  refine au ?_
  refine lw H (fun k1_3 σ w => (fun Z => agrees σ [(0, .slice dV s1.length dW), (1, .slice dX s2.length dY), (12, .int .i64 (s1.length : Int)), (13, .int .i64 (k1_3 : Int))] ∧ Owns w0.heap.size w Z A ∧ Fr (bl []) w0 (bl Z) w) []) ⟨agr, hO, fr⟩ ?_
  refine fun X1 => fun k1_3 => fun H hX1 σ w2 => d2 fun hag hO hB => ?_
  refine Go1.keep _ hag ?_
  refine scm H (fun h4 H => ?_) fun h4 H => ?_
  ·refine au ?_
   refine drw 0 [(0, .pure), (1, .pure), (2, .pure), (3, .stable), (4, .pure), (5, .pure), (6, .pure), (7, .stable), (8, .pure)] hO fun w5 s hO => ?_
   refine sxl hO d8.u H.1 H.2.1 ?_
   have hle6 := ISl.J2D d8 H.1 H.2.1
   refine sxl hO ft.u H.2.2.1 H.2.2.2.1 ?_
   have hle7 := ISl.J2D ft H.2.2.1 H.2.2.2.1
   have h8 := H.1
   have h9 := H.2.1
   have h10 := H.2.2.1
   have h11 := H.2.2.2.1
   refine scm H.2.2.2.2 (fun h12 H => ?_) fun h12 H => ?_
   ·refine sinc (natbd h4 d8.bd) ?_
    refine au ?_
    exact hX1 _ H _ _ ⟨agr, hO, fr⟩
   refine au ?_
   refine Go1.ret1 Try.func74 rfl ⟨_, ?_, frs, H⟩
   exact rfl
  refine au ?_
  refine Go1.ret1 Try.func74 rfl ⟨_, ?_, frs, H⟩
  exact rfl
 refine au ?_
 refine Go1.ret1 Try.func74 rfl ⟨_, ?_, frs, H⟩
 exact rfl
theorem body75 : Body Try.prog 75 := ⟨Try.f75, Try.func75, rfl, by kernel_rfl⟩
theorem J1n {A : List Nat} {w0 : World} {dV dX : Option Addr} {dW dY : Nat} {s1 s2 : List Bool} (hA : ∀ b ∈ A, b < w0.heap.size) (d8 : ISl (Rp.bool) A w0 dV dW s1) (ft : ISl (Rp.bool) A w0 dX dY s2) {K : Bool → Prop} (H : J0y s1 s2 K) :
    CallsV Try.prog 75 #[.slice dV s1.length dW, .slice dX s2.length dY] w0 (fun v w' => ∃ (r0 : Bool), v = .bool r0 ∧ Same w0 w' ∧ K r0) := by
 refine CallsV.of (l := [.slice dV s1.length dW, .slice dX s2.length dY]) Try.func75 rfl Try.ntmps75 rfl ?_
 have hO := Owns.start hA
 have hB := Fr.refl (bl []) w0
 unfold J0y at H
 refine sln0 ?_
 refine sln0 ?_
 refine scm ((H d8.bd) ft.bd) (fun h1 H => ?_) fun h1 H => ?_
 ·refine sln0 ?_
  refine au ?_
  refine lw H (fun k1_3 σ w => (fun Z => agrees σ [(0, .slice dV s1.length dW), (1, .slice dX s2.length dY), (12, .int .i64 (s1.length : Int)), (13, .int .i64 (k1_3 : Int))] ∧ Owns w0.heap.size w Z A ∧ Fr (bl []) w0 (bl Z) w) []) ⟨agr, hO, fr⟩ ?_
  refine fun X1 => fun k1_3 => fun H hX1 σ w2 => d2 fun hag hO hB => ?_
  refine Go1.keep _ hag ?_
  refine scm H (fun h4 H => ?_) fun h4 H => ?_
  ·refine au ?_
   refine drw 0 [(0, .pure), (1, .pure), (2, .pure), (3, .stable), (4, .pure), (5, .pure), (6, .pure), (7, .stable), (8, .pure)] hO fun w5 s hO => ?_
   refine au ?_
   have h6 := H.1
   have h7 := H.2.1
   refine sxb hO d8.u H.1 H.2.1 H.2.2 (fun h8 H => ?_) fun h8 H => ?_
   ·refine au ?_
    have h9 := H.1
    have h10 := H.2.1
    refine sxb hO ft.u H.1 H.2.1 H.2.2 (fun h11 H => ?_) fun h11 H => ?_
    ·refine GoQ.pure rfl (J0Z Try.underlying4 rfl rfl) rfl rfl ?_
     refine sinc (natbd h4 d8.bd) ?_
     refine au ?_
     exact hX1 _ H _ _ ⟨agr, hO, fr⟩
    refine GoQ.pure rfl (J0Z Try.underlying4 rfl rfl) rfl rfl ?_
    refine au ?_
    refine Go1.ret1 Try.func75 rfl ⟨_, ?_, frs, H⟩
    exact rfl
   refine au ?_
   have h12 := H.1
   have h13 := H.2.1
   refine sxb hO ft.u H.1 H.2.1 H.2.2 (fun h14 H => ?_) fun h14 H => ?_
   ·refine GoQ.pure rfl (J0Z Try.underlying4 rfl rfl) rfl rfl ?_
    refine au ?_
    refine Go1.ret1 Try.func75 rfl ⟨_, ?_, frs, H⟩
    exact rfl
   refine GoQ.pure rfl (J0Z Try.underlying4 rfl rfl) rfl rfl ?_
   refine sinc (natbd h4 d8.bd) ?_
   refine au ?_
   exact hX1 _ H _ _ ⟨agr, hO, fr⟩
  refine au ?_
  refine Go1.ret1 Try.func75 rfl ⟨_, ?_, frs, H⟩
  exact rfl
 refine au ?_
 refine Go1.ret1 Try.func75 rfl ⟨_, ?_, frs, H⟩
 exact rfl
theorem body28 : Body Try.prog 28 := ⟨Try.f28, Try.func28, rfl, by kernel_rfl⟩
theorem J1k {A : List Nat} {w0 : World} {ba bg aQ aS bC : Option Addr} {bc bh aR aT bD : Nat} {a0 : Syntactic} (hA : ∀ b ∈ A, b < w0.heap.size) (bu : ISl (Rp.sl (Rp.int .i64)) A w0 ba bc a0.Table) (aq : ISl (Rp.str) A w0 bg bh a0.Words) (cB : ISl (Rp.int .i64) A w0 aQ aR a0.Images) (ca : ISl (Rp.bool) A w0 aS aT a0.Accept) (cQ : ISl (Rp.bool) A w0 bC bD a0.Plus) {K : Int → Prop} (H : J0f a0 K) :
    CallsV Try.prog 28 #[.agg #[.int .i64 a0.Letters, .slice ba a0.Table.length bc, .slice bg a0.Words.length bh, .slice aQ a0.Images.length aR, .slice aS a0.Accept.length aT, .slice bC a0.Plus.length bD]] w0 (fun v w' => ∃ (r0 : Int), v = .int .i64 r0 ∧ Same w0 w' ∧ K r0) := by
 refine CallsV.of (l := [.agg #[.int .i64 a0.Letters, .slice ba a0.Table.length bc, .slice bg a0.Words.length bh, .slice aQ a0.Images.length aR, .slice aS a0.Accept.length aT, .slice bC a0.Plus.length bD]]) Try.func28 rfl Try.ntmps28 rfl ?_
 have hO := Owns.start hA
 have hB := Fr.refl (bl []) w0
 unfold J0f at H
 refine sbx hO fun w1 B2 s hO => ?_
 refine sag 0 hO ?_
 refine zcr (J00 body71 rfl (J2Q hO.lt bu.u aq.u cB.u ca.u cQ.u H)) fun _ w5 => e1 fun r4 => sc0 hO fun s hO => fun H => ?_
 cases r4
 ·refine au ?_
  refine Go1.ret1 Try.func28 rfl ⟨_, ?_, frs, (iF H)⟩
  exact rfl
 refine sag 0 hO ?_
 refine zcr (J00 body72 rfl (J2u hO.lt bu.u aq.u cB.u ca.u cQ.u (iT H))) fun _ w7 => e4 fun r6 uA uB uR => e1 fun uS => sc0 hO fun s hO => d2 fun kc kn H => ?_
 refine zcr (J00 body19 rfl (J1u hO.lt kc kn H)) fun _ w10 => e4 fun r8 r9 fD fE => e4 fun gV gW f5 f6 => e4 fun f7 f8 ip iq => sc0 hO fun s hO => d1 fun dz => d4 fun eG d9 eg fk H => ?_
 refine sal hO fun w11 B12 s hO => ?_
 refine sba 0 hO fun w14 s hO => ?_
 refine scm H (fun h15 H => ?_) fun h15 H => ?_
 ·refine sln0 ?_
  refine sln0 ?_
  refine scm ((H dz.bd) bu.bd) (fun h16 H => ?_) fun h16 H => ?_
  ·refine sln0 ?_
   refine au ?_
   refine lw H (fun k1_18 σ w => (fun Z => agrees σ [(1, .pointer (some ⟨B2, 0, none⟩)), (3, .pointer (some ⟨B12, 0, none⟩)), (28, .slice fD r8.Table.length fE), (29, .int .i64 (r8.Table.length : Int)), (30, .int .i64 (k1_18 : Int))] ∧ Owns w0.heap.size w Z A ∧ ISl (Rp.sl (Rp.int .i64)) (bl Z ++ A) w fD fE r8.Table ∧ ISl (Rp.str) (bl Z ++ A) w gV gW r8.Words ∧ ISl (Rp.int .i64) (bl Z ++ A) w f5 f6 r8.Images ∧ ISl (Rp.bool) (bl Z ++ A) w f7 f8 r8.Accept ∧ ISl (Rp.bool) (bl Z ++ A) w ip iq r8.Plus ∧ Fr (bl []) w0 (bl Z) w) [.blk B12 (.cells #[.int .i64 r8.Letters, .slice fD r8.Table.length fE, .slice gV r8.Words.length gW, .slice f5 r8.Images.length f6, .slice f7 r8.Accept.length f8, .slice ip r8.Plus.length iq] 33 (0, 0)), .blk B2 (.cells #[.int .i64 a0.Letters, .slice ba a0.Table.length bc, .slice bg a0.Words.length bh, .slice aQ a0.Images.length aR, .slice aS a0.Accept.length aT, .slice bC a0.Plus.length bD] 33 (0, 0))]) ⟨agr, hO, dz.u, eG.u, d9.u, eg.u, fk.u, fr⟩ ?_
   refine fun X1 => fun k1_18 => fun H hX1 σ w17 => d1 fun hag => d1 fun hO => d1 fun dz => d4 fun eG d9 eg fk hB => ?_
   refine Go1.keep _ hag ?_
   revert hO; repeat (rename Owns _ _ _ _ => q; clear q)
   intro hO; repeat (rename Sq _ _ _ _ _ _ => q; clear q)
   refine scm H (fun h19 H => ?_) fun h19 H => ?_
   ·refine sxls hO dz H.1 H.2.1 fun p20 c21 xJ => ?_
    refine sxls hO bu.u H.2.2.1 H.2.2.2.1 fun p23 c24 xK => ?_
    have h28 := H.1
    have h29 := H.2.1
    have h30 := H.2.2.1
    have h31 := H.2.2.2.1
    refine zcr (J00 body73 rfl (J1B hO.lt xJ.u xK.u H.2.2.2.2)) fun _ w27 => e1 fun r26 => sc0 hO fun s hO => fun H => ?_
    cases r26
    ·refine au ?_
     refine Go1.ret1 Try.func28 rfl ⟨_, ?_, frs, (iF H)⟩
     exact rfl
    refine sinc (natbd h19 dz.bd) ?_
    refine au ?_
    exact hX1 _ (iT H) _ _ ⟨agr, hO, dz.u, eG.u, d9.u, eg.u, fk.u, fr⟩
   refine au ?_
   refine zcr (J00 body74 rfl (J2q hO.lt eG.u aq.u H)) fun _ w33 => e1 fun r32 => sc0 hO fun s hO => fun H => ?_
   cases r32
   ·refine au ?_
    refine Go1.ret1 Try.func28 rfl ⟨_, ?_, frs, (iF H)⟩
    exact rfl
   refine au ?_
   refine zcr (J00 body73 rfl (J1B hO.lt d9.u cB.u (iT H))) fun _ w35 => e1 fun r34 => sc0 hO fun s hO => fun H => ?_
   cases r34
   ·refine au ?_
    refine Go1.ret1 Try.func28 rfl ⟨_, ?_, frs, (iF H)⟩
    exact rfl
   refine au ?_
   refine zcr (J00 body75 rfl (J1n hO.lt eg.u ca.u (iT H))) fun _ w37 => e1 fun r36 => sc0 hO fun s hO => fun H => ?_
   cases r36
   ·refine au ?_
    refine Go1.ret1 Try.func28 rfl ⟨_, ?_, frs, (iF H)⟩
    exact rfl
   refine au ?_
   refine zcr (J00 body75 rfl (J1n hO.lt fk.u cQ.u (iT H))) fun _ w39 => e1 fun r38 => sc0 hO fun s hO => fun H => ?_
   cases r38
   ·refine au ?_
    refine Go1.ret1 Try.func28 rfl ⟨_, ?_, frs, (iF H)⟩
    exact rfl
   refine au ?_
   refine Go1.ret1 Try.func28 rfl ⟨_, ?_, frs, (iT H)⟩
   exact rfl
  refine au ?_
  refine Go1.ret1 Try.func28 rfl ⟨_, ?_, frs, H⟩
  exact rfl
 refine au ?_
 refine Go1.ret1 Try.func28 rfl ⟨_, ?_, frs, H⟩
 exact rfl
end Sg
