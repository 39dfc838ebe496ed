/- -/
import Derived.Test.YtlneebpmblkllaaVd
import Derived.Test.YtlneebpmblkllaaWSyntacticMonoids
import Derived.Test.YtlneebpmblkllaaWSyntacticMonoidsc
import Derived.Test.YtlneebpmblkllaaWSyntacticMonoidsf
namespace Sg
open Go Go.RowKit Go.Proofs
set_option linter.unusedVariables false
set_option linter.unusedSimpArgs false
set_option maxRecDepth 100000
set_option maxHeartbeats 4000000
theorem body27 : Body Try.prog 27 := ⟨Try.f27, Try.func27, rfl, by kernel_rfl⟩
theorem J1K {A : List Nat} {w0 : World} {p_a : Option Addr} {c_a : Nat} {p_b : Option Addr} {c_b : Nat} {a : List Bool} {b : List Bool} (hA : ∀ b ∈ A, b < w0.heap.size) (h_a : ISl (Rp.bool) A w0 p_a c_a a) (h_b : ISl (Rp.bool) A w0 p_b c_b b) {K : Bool → Prop} (H : J0s a b K) :
    CallsV Try.prog 27 #[.slice p_a a.length c_a, .slice p_b b.length c_b] w0 (fun v w' => ∃ (r0 : Bool), v = .bool r0 ∧ Same w0 w' ∧ K r0) := by
 refine CallsV.of (l := [.slice p_a a.length c_a, .slice p_b b.length c_b]) Try.func27 rfl Try.ntmps27 rfl ?_
 have hO := Owns.start hA
 have hB := Fr.refl (bl []) w0
 unfold J0s at H
 refine au ?_
 refine sln0 ?_
 refine au ?_
 refine sln0 ?_
 refine scm ((H h_a.bd) h_b.bd) (fun h1 H => ?_) fun h1 H => ?_
 ·refine au ?_
  refine sln0 ?_
  refine au ?_
  refine lw H (fun k1_3 σ w => (fun Z => agrees σ [(0, .slice p_a a.length c_a), (1, .slice p_b b.length c_b), (12, .int .i64 (a.length : Int)), (13, .int .i64 (k1_3 : Int))] ∧ Owns w0.heap.size w Z A ∧ Fr (bl []) w0 (bl Z) w) []) ⟨agr, hO, fr⟩ ?_
  refine fun X1 => fun k1_3 => fun H hX1 σ w2 => d2 fun hag hO hB => ?_
  refine Go1.keep _ hag ?_
  refine au ?_
  refine scm H (fun h4 H => ?_) fun h4 H => ?_
  ·refine au ?_
   refine drw 0 [(0, .pure), (1, .pure), (2, .pure), (3, .stable), (4, .pure), (5, .pure), (6, .pure), (7, .stable), (8, .pure)] hO fun w5 s hO => ?_
   refine au ?_
   have h6 := H.1
   have h7 := H.2.1
   refine sxb hO h_a.u H.1 H.2.1 H.2.2 (fun h8 H => ?_) fun h8 H => ?_
   ·refine au ?_
    have h9 := H.1
    have h10 := H.2.1
    refine sxb hO h_b.u H.1 H.2.1 H.2.2 (fun h11 H => ?_) fun h11 H => ?_
    ·refine GoQ.pure rfl (J3i Try.underlying4 rfl rfl) rfl rfl ?_
     refine au ?_
     refine sinc (natbd h4 h_a.bd) ?_
     refine au ?_
     exact hX1 _ H _ _ ⟨agr, hO, fr⟩
    refine GoQ.pure rfl (J3i Try.underlying4 rfl rfl) rfl rfl ?_
    refine au ?_
    refine Go1.ret1 Try.func27 rfl ⟨_, ?_, frs, H⟩
    exact rfl
   refine au ?_
   have h12 := H.1
   have h13 := H.2.1
   refine sxb hO h_b.u H.1 H.2.1 H.2.2 (fun h14 H => ?_) fun h14 H => ?_
   ·refine GoQ.pure rfl (J3i Try.underlying4 rfl rfl) rfl rfl ?_
    refine au ?_
    refine Go1.ret1 Try.func27 rfl ⟨_, ?_, frs, H⟩
    exact rfl
   refine GoQ.pure rfl (J3i Try.underlying4 rfl rfl) rfl rfl ?_
   refine au ?_
   refine sinc (natbd h4 h_a.bd) ?_
   refine au ?_
   exact hX1 _ H _ _ ⟨agr, hO, fr⟩
  refine au ?_
  refine Go1.ret1 Try.func27 rfl ⟨_, ?_, frs, H⟩
  exact rfl
 refine au ?_
 refine Go1.ret1 Try.func27 rfl ⟨_, ?_, frs, H⟩
 exact rfl
theorem body21 : Body Try.prog 21 := ⟨Try.f21, Try.func21, rfl, by kernel_rfl⟩
theorem J3c {A : List Nat} {w0 : World} {j7 : Option Addr} {j8 : Nat} {j9 : Option Addr} {ka : Nat} {jE : Option Addr} {jF : Nat} {jG : Option Addr} {jH : Nat} {k9 : Option Addr} {ld : Nat} {kc : Option Addr} {kd : Nat} {ke : Option Addr} {kg : Nat} {jI : Option Addr} {jJ : Nat} {jK : Option Addr} {jL : Nat} {lg : Option Addr} {lh : Nat} {a : Syntactic} {b : Syntactic} (hA : ∀ b ∈ A, b < w0.heap.size) (uc : ISl (Rp.sl (Rp.int .i64)) A w0 j7 j8 a.Table) (ud : ISl (Rp.str) A w0 j9 ka a.Words) (tz : ISl (Rp.int .i64) A w0 jE jF a.Images) (tA : ISl (Rp.bool) A w0 jG jH a.Accept) (wR : ISl (Rp.bool) A w0 k9 ld a.Plus) (ue : ISl (Rp.sl (Rp.int .i64)) A w0 kc kd b.Table) (uf : ISl (Rp.str) A w0 ke kg b.Words) (tB : ISl (Rp.int .i64) A w0 jI jJ b.Images) (tC : ISl (Rp.bool) A w0 jK jL b.Accept) (wS : ISl (Rp.bool) A w0 lg lh b.Plus) {K : Bool → Prop} (H : J10 a b K) :
    CallsV Try.prog 21 #[.agg #[.int .i64 a.Letters, .slice j7 a.Table.length j8, .slice j9 a.Words.length ka, .slice jE a.Images.length jF, .slice jG a.Accept.length jH, .slice k9 a.Plus.length ld], .agg #[.int .i64 b.Letters, .slice kc b.Table.length kd, .slice ke b.Words.length kg, .slice jI b.Images.length jJ, .slice jK b.Accept.length jL, .slice lg b.Plus.length lh]] w0 (fun v w' => ∃ (r0 : Bool), v = .bool r0 ∧ Same w0 w' ∧ K r0) := by
 refine CallsV.of (l := [.agg #[.int .i64 a.Letters, .slice j7 a.Table.length j8, .slice j9 a.Words.length ka, .slice jE a.Images.length jF, .slice jG a.Accept.length jH, .slice k9 a.Plus.length ld], .agg #[.int .i64 b.Letters, .slice kc b.Table.length kd, .slice ke b.Words.length kg, .slice jI b.Images.length jJ, .slice jK b.Accept.length jL, .slice lg b.Plus.length lh]]) Try.func21 rfl Try.ntmps21 rfl ?_
 have hO := Owns.start hA
 have hB := Fr.refl (bl []) w0
 unfold J10 at H
 refine au ?_
 refine sbx hO fun w1 B2 s hO => ?_
 refine sbx hO fun w4 B5 s hO => ?_
 refine au ?_
 refine scm H (fun h7 H => ?_) fun h7 H => ?_
 ·refine au ?_
  refine zcr (J02 body47 rfl (J3y hO.lt uc.u ue.u H)) fun _ w9 => e1 fun r8 => sc0 hO fun s hO => fun H => ?_
  refine au ?_
  cases r8
  ·refine au ?_
   refine Go1.ret1 Try.func21 rfl ⟨_, ?_, frs, (iF H)⟩
   exact rfl
  refine au ?_
  refine zcr (J02 body48 rfl (J2Z hO.lt ud.u uf.u (iT H))) fun _ w11 => e1 fun r10 => sc0 hO fun s hO => fun H => ?_
  refine au ?_
  cases r10
  ·refine au ?_
   refine Go1.ret1 Try.func21 rfl ⟨_, ?_, frs, (iF H)⟩
   exact rfl
  refine au ?_
  refine zcr (J02 body49 rfl (J1b hO.lt tz.u tB.u (iT H))) fun _ w13 => e1 fun r12 => sc0 hO fun s hO => fun H => ?_
  refine au ?_
  cases r12
  ·refine au ?_
   refine Go1.ret1 Try.func21 rfl ⟨_, ?_, frs, (iF H)⟩
   exact rfl
  refine au ?_
  refine zcr (J02 body27 rfl (J1K hO.lt tA.u tC.u (iT H))) fun _ w15 => e1 fun r14 => sc0 hO fun s hO => fun H => ?_
  refine au ?_
  cases r14
  ·refine au ?_
   refine Go1.ret1 Try.func21 rfl ⟨_, ?_, frs, (iF H)⟩
   exact rfl
  refine au ?_
  refine zcr (J02 body27 rfl (J1K hO.lt wR.u wS.u (iT H))) fun _ w17 => e1 fun r16 => sc0 hO fun s hO => fun H => ?_
  refine au ?_
  refine Go1.ret1 Try.func21 rfl ⟨_, ?_, frs, H⟩
  exact rfl
 refine au ?_
 refine Go1.ret1 Try.func21 rfl ⟨_, ?_, frs, H⟩
 exact rfl
theorem J21 {A : List Nat} {w0 : World} {aa : Option Addr} {ad : Nat} {ae : Option Addr} {af : Nat} {d : DFA} (hA : ∀ b ∈ A, b < w0.heap.size) (aq : ISl (Rp.bool) A w0 aa ad d.Final) (aA : ISl (Rp.sl (Rp.int .i64)) A w0 ae af d.Next) {K : Bool → Prop} (H : law21_SyntacticMonoids d K) :
    CallsV Try.prog 3 #[.agg #[.int .i64 d.Letters, .int .i64 d.Start, .slice aa d.Final.length ad, .slice ae d.Next.length af]] w0 (fun v w' => ∃ (r0 : Bool), v = .bool r0 ∧ Same w0 w' ∧ K r0) := by
 refine CallsV.of (l := [.agg #[.int .i64 d.Letters, .int .i64 d.Start, .slice aa d.Final.length ad, .slice ae d.Next.length af]]) Try.func3 rfl Try.ntmps3 rfl ?_
 have hO := Owns.start hA
 have hB := Fr.refl (bl []) w0
 unfold law21_SyntacticMonoids at H
 refine au ?_
 refine sbx hO fun w1 B2 s hO => ?_
 refine au ?_
 refine zs (J05 (vs := [.int .i64 d.Letters, .int .i64 d.Start, .slice aa d.Final.length ad, .slice ae d.Next.length af]) (i := 0) 0 hO rfl rfl Try.underlying25 rfl ti25 rfl) ?_
 refine zcr (J02 body16 rfl (J0U hO.lt aq.u aA.u H)) fun _ w5 => e1 fun r4 => sc0 hO fun s hO => fun H => ?_
 refine scm H (fun h6 H => ?_) fun h6 H => ?_
 ·refine au ?_
  refine zs (J05 (vs := [.int .i64 d.Letters, .int .i64 d.Start, .slice aa d.Final.length ad, .slice ae d.Next.length af]) (i := 0) 0 hO rfl rfl Try.underlying25 rfl ti25 rfl) ?_
  refine zcr (J02 body17 rfl (J4H hO.lt aq.u aA.u H)) fun _ w8 => e1 fun r7 => sc0 hO fun s hO => fun H => ?_
  cases r7
  ·refine au ?_
   refine zcr (J02 body18 rfl (J1B hO.lt (iF H))) fun _ w10 => e1 fun r9 => sc0 hO fun s hO => fun H => ?_
   refine au ?_
   refine Go1.ret1 Try.func3 rfl ⟨_, ?_, frs, H⟩
   exact rfl
  refine au ?_
  refine zs (J05 (vs := [.int .i64 d.Letters, .int .i64 d.Start, .slice aa d.Final.length ad, .slice ae d.Next.length af]) (i := 0) 0 hO rfl rfl Try.underlying25 rfl ti25 rfl) ?_
  refine zcr (J02 body19 rfl (J1n hO.lt aq.u aA.u (iT H))) fun _ w13 => e4 fun r11 r12 pI pK => e4 fun pM pN oH oI => e4 fun oJ oK tD tE => sc0 hO fun s hO => d1 fun pO => d4 fun pP oL oM tF H => ?_
  refine au ?_
  refine sal hO fun w14 B15 s hO => ?_
  refine sba 0 hO fun w17 s hO => ?_
  refine au ?_
  refine zs (J05 (vs := [.int .i64 d.Letters, .int .i64 d.Start, .slice aa d.Final.length ad, .slice ae d.Next.length af]) (i := 0) 1 hO rfl rfl Try.underlying25 rfl ti25 rfl) ?_
  refine zcr (J02 body20 rfl (J49 hO.lt aq.u aA.u H)) fun _ w20 => e4 fun r18 r19 pQ pS => e4 fun pT pU oN oO => e4 fun oP oQ tG tH => sc0 hO fun s hO => d1 fun pV => d4 fun pW oR oS tI H => ?_
  refine au ?_
  refine sal hO fun w21 B22 s hO => ?_
  refine sba 0 hO fun w24 s hO => ?_
  refine au ?_
  refine scm H (fun h25 H => ?_) fun h25 H => ?_
  ·refine au ?_
   refine zs (J05 (vs := [.int .i64 r11.Letters, .slice pI r11.Table.length pK, .slice pM r11.Words.length pN, .slice oH r11.Images.length oI, .slice oJ r11.Accept.length oK, .slice tD r11.Plus.length tE]) (i := 0) 1 hO rfl rfl Try.underlying33 rfl ti33 rfl) ?_
   refine zs (J05 (vs := [.int .i64 r18.Letters, .slice pQ r18.Table.length pS, .slice pT r18.Words.length pU, .slice oN r18.Images.length oO, .slice oP r18.Accept.length oQ, .slice tG r18.Plus.length tH]) (i := 0) 0 hO rfl rfl Try.underlying33 rfl ti33 rfl) ?_
   refine zcr (J02 body21 rfl (J3c hO.lt pO.u pP.u oL.u oM.u tF.u pV.u pW.u oR.u oS.u tI.u H)) fun _ w27 => e1 fun r26 => sc0 hO fun s hO => fun H => ?_
   refine au ?_
   cases r26
   ·refine au ?_
    refine Go1.ret1 Try.func3 rfl ⟨_, ?_, frs, (iF H)⟩
    exact rfl
   refine zcr (J02 body18 rfl (J1B hO.lt (iT H))) fun _ w29 => e1 fun r28 => sc0 hO fun s hO => fun H => ?_
   refine au ?_
   refine Go1.ret1 Try.func3 rfl ⟨_, ?_, frs, H⟩
   exact rfl
  refine au ?_
  refine Go1.ret1 Try.func3 rfl ⟨_, ?_, frs, H⟩
  exact rfl
 refine au ?_
 refine zs (J05 (vs := [.int .i64 d.Letters, .int .i64 d.Start, .slice aa d.Final.length ad, .slice ae d.Next.length af]) (i := 0) 0 hO rfl rfl Try.underlying25 rfl ti25 rfl) ?_
 refine zcr (J02 body19 rfl (J1n hO.lt aq.u aA.u H)) fun _ w32 => e4 fun r30 r31 pX pY => e4 fun qa qb oT oU => e4 fun oV oW tJ tK => sc0 hO fun s hO => d1 fun qc => d4 fun qd oX oY tL H => ?_
 refine au ?_
 refine sal hO fun w33 B34 s hO => ?_
 refine sba 0 hO fun w36 s hO => ?_
 refine au ?_
 refine zs (J05 (vs := [.int .i64 d.Letters, .int .i64 d.Start, .slice aa d.Final.length ad, .slice ae d.Next.length af]) (i := 0) 1 hO rfl rfl Try.underlying25 rfl ti25 rfl) ?_
 refine zcr (J02 body20 rfl (J49 hO.lt aq.u aA.u H)) fun _ w39 => e4 fun r37 r38 qe qf => e4 fun qg qh o3 o4 => e4 fun o5 o6 tM tN => sc0 hO fun s hO => d1 fun qi => d4 fun qj o7 o8 tO H => ?_
 refine au ?_
 refine sal hO fun w40 B41 s hO => ?_
 refine sba 0 hO fun w43 s hO => ?_
 refine au ?_
 refine scm H (fun h44 H => ?_) fun h44 H => ?_
 ·refine au ?_
  refine zs (J05 (vs := [.int .i64 r30.Letters, .slice pX r30.Table.length pY, .slice qa r30.Words.length qb, .slice oT r30.Images.length oU, .slice oV r30.Accept.length oW, .slice tJ r30.Plus.length tK]) (i := 0) 1 hO rfl rfl Try.underlying33 rfl ti33 rfl) ?_
  refine zs (J05 (vs := [.int .i64 r37.Letters, .slice qe r37.Table.length qf, .slice qg r37.Words.length qh, .slice o3 r37.Images.length o4, .slice o5 r37.Accept.length o6, .slice tM r37.Plus.length tN]) (i := 0) 0 hO rfl rfl Try.underlying33 rfl ti33 rfl) ?_
  refine zcr (J02 body21 rfl (J3c hO.lt qc.u qd.u oX.u oY.u tL.u qi.u qj.u o7.u o8.u tO.u H)) fun _ w46 => e1 fun r45 => sc0 hO fun s hO => fun H => ?_
  refine au ?_
  cases r45
  ·refine au ?_
   refine Go1.ret1 Try.func3 rfl ⟨_, ?_, frs, (iF H)⟩
   exact rfl
  refine zcr (J02 body18 rfl (J1B hO.lt (iT H))) fun _ w48 => e1 fun r47 => sc0 hO fun s hO => fun H => ?_
  refine au ?_
  refine Go1.ret1 Try.func3 rfl ⟨_, ?_, frs, H⟩
  exact rfl
 refine au ?_
 refine Go1.ret1 Try.func3 rfl ⟨_, ?_, frs, H⟩
 exact rfl
end Sg
