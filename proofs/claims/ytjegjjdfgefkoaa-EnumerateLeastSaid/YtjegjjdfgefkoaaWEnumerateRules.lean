/- The walks: each call keeps to its plain transformer. Printed by walkgen.py. -/
import Derived.Test.YtjegjjdfgefkoaaTi
import Derived.Test.YtjegjjdfgefkoaaWEnumerateBuilds
import Derived.Test.YtjegjjdfgefkoaaWEnumerateBuildsc
import Derived.Test.YtjegjjdfgefkoaaWEnumerateCovers
namespace Sg
open Go Go.RowKit Go.Proofs
set_option linter.unusedVariables false
set_option linter.unusedSimpArgs false
set_option maxRecDepth 100000
set_option maxHeartbeats 4000000
theorem body33 : Body Try.prog 33 := ⟨Try.f33, Try.func33, rfl, by kernel_rfl⟩
theorem walk_trans_OfWord {A : List Nat} {w0 : World} {fR : Option Addr} {fS : Nat} {gens : List (List Int)} {w_ : Str} (hA : ∀ b ∈ A, b < w0.heap.size) (da : ISl (Rp.sl (Rp.int .i64)) A w0 fR fS gens) (nw : w_.length ≤ mx) {K : List Int → Prop} (H : trans_OfWord gens w_ K) :
    CallsV Try.prog 33 #[.slice fR gens.length fS, .string (gstr w_)] w0 (fun v w' => ∃ (r0 : List Int), ∃ (tE : Option Addr), ∃ (tF : Nat), v = .slice tE r0.length tF ∧ Same w0 w' ∧ ISl (Rp.int .i64) A w' tE tF r0 ∧ K r0) := by
 refine CallsV.of (l := [.slice fR gens.length fS, .string (gstr w_)]) Try.func33 rfl Try.ntmps33 rfl ?_
 have hO := Owns.start hA
 have hB := Fr.refl (bl []) w0
 unfold trans_OfWord at H
 replace da := da.ch (Ch.start A w0)
 refine Go1.seq ?_
 refine Go1.region ?_
 refine GoR.op ((op_assign rfl) _) rfl rfl ?_
 refine GoR.nil ?_
 refine Go1.seq ?_
 refine Go1.seq ?_
 refine Go1.region ?_
 refine GoR.op ((op_move rfl) _) rfl rfl ?_
 refine GoR.op ((op_len Try.underlying22 rfl) _) rfl rfl ?_
 replace H := H da.bd
 by_cases h1 : (gens.length : Int) = (0 : Int)
 ·replace H := ifp h1 H
  refine GoR.op ((fun w => opB (op_eql rfl rfl w) (decide_eq_true h1)) _) rfl rfl ?_
  refine GoR.op ((op_move rfl) _) rfl rfl ?_
  refine GoR.pass rfl rfl ?_
  refine GoR.pass rfl rfl ?_
  refine GoR.pass rfl rfl ?_
  refine GoR.pass rfl rfl ?_
  refine GoR.pass rfl rfl ?_
  refine GoR.op ((op_pickT rfl rfl rfl) _) rfl rfl ?_
  refine GoR.nil ?_
  refine Go1.condT rfl rfl ?_
  refine Go1.seq ?_
  refine Go1.region ?_
  refine GoR.op ((op_assign rfl) _) rfl rfl ?_
  refine GoR.nil ?_
  refine Go1.ret1 Try.func33 rfl ?_
  exact ⟨([] : List Int), none, 0, rfl, hB.same, (ISl.null _ _ _), H⟩
 replace H := ifn h1 H
 refine GoR.op ((fun w => opB (op_eql rfl rfl w) (decide_eq_false h1)) _) rfl rfl ?_
 refine GoR.op ((op_move rfl) _) rfl rfl ?_
 refine GoR.op ((op_move rfl) _) rfl rfl ?_
 refine GoR.op ((op_move rfl) _) rfl rfl ?_
 refine GoR.op ((op_len Try.underlying22 rfl) _) rfl rfl ?_
 refine GoR.call (op_call body58 rfl (walk_word_Valid hO.lt nw H)) rfl rfl ?_
 rintro v6 w3 ⟨r2, rfl, hs4, H⟩
 have nc := Stp.same hO hs4
 replace hO := nc.own
 replace da := da.ch nc.ch
 replace hB := hB.trans nc.fr
 cases r2
 ·replace H := ifn Bool.false_ne_true H
  refine GoR.op ((op_not rfl) _) rfl rfl ?_
  refine GoR.op ((op_pickF rfl rfl rfl) _) rfl rfl ?_
  refine GoR.nil ?_
  refine Go1.condT rfl rfl ?_
  refine Go1.seq ?_
  refine Go1.cut [] trivial ?_
  intro σ _
  refine Go1.region ?_
  refine GoR.op ((op_assign rfl) _) rfl rfl ?_
  refine GoR.nil ?_
  refine Go1.ret1 Try.func33 rfl ?_
  exact ⟨([] : List Int), none, 0, rfl, hB.same, (ISl.null _ _ _), H⟩
 replace H := ifp rfl H
 refine GoR.op ((op_not rfl) _) rfl rfl ?_
 refine GoR.op ((op_pickF rfl rfl rfl) _) rfl rfl ?_
 refine GoR.nil ?_
 refine Go1.condF rfl rfl ?_
 refine Go1.skip ?_
 refine Go1.seq ?_
 refine Go1.seq ?_
 refine Go1.region ?_
 refine GoR.op ((op_move rfl) _) rfl rfl ?_
 refine GoR.op ((op_len Try.underlying22 rfl) _) rfl rfl ?_
 refine GoR.op ((op_move rfl) _) rfl rfl ?_
 refine GoR.nil ?_
 refine Go1.block ?_
 refine Go1.loopW (S := Nat) (fun s σ w => agrees σ [(0, .slice fR gens.length fS), (1, .string (gstr w_)), (20, .slice fR gens.length fS), (21, .int .i64 (gens.length : Int)), (22, .int .i64 (s : Int))] ∧ Owns w0.heap.size w [] A ∧ ISl (Rp.sl (Rp.int .i64)) (bl [] ++ A) w fR fS gens ∧ Fr (bl []) w0 (bl []) w) H ⟨⟨rfl, rfl, rfl, rfl, rfl, trivial⟩, hO, da, hB⟩ ?_
 intro X1 k1_9
 intro H hX1 σ w8
 refine andE fun hag => andE fun hO => andE fun da => fun hB => ?_
 refine Go1.keep [(0, .slice fR gens.length fS), (1, .string (gstr w_)), (20, .slice fR gens.length fS), (21, .int .i64 (gens.length : Int)), (22, .int .i64 (k1_9 : Int))] hag ?_
 refine Go1.seq ?_
 refine Go1.region ?_
 by_cases h10 : (k1_9 : Int) < (gens.length : Int)
 ·replace H := ifp h10 H
  refine GoR.op ((fun w => opB (op_lss rfl rfl w) (decide_eq_true h10)) _) rfl rfl ?_
  refine GoR.nil ?_
  refine Go1.seq ?_
  refine Go1.condT rfl rfl ?_
  refine Go1.skip ?_
  refine Go1.seq ?_
  refine Go1.block ?_
  refine Go1.seq ?_
  refine Go1.region ?_
  obtain ⟨h11, H⟩ := H
  obtain ⟨h12, H⟩ := H
  refine GoR.op ((op_index Try.underlying22 ti26 rfl rfl h11 h12 (da.some_ h11 h12)) _) rfl rfl ?_
  have hobt := ldSl da h11 h12
  obtain ⟨p13, c14, mZ, AP⟩ := hobt
  refine GoR.op ((AP Try.underlying26 rfl rfl) _ (Same.refl _)) rfl rfl ?_
  refine GoR.op ((op_assign rfl) _) rfl rfl ?_
  refine GoR.nil ?_
  refine Go1.seq ?_
  refine Go1.region ?_
  refine GoR.op ((op_move rfl) _) rfl rfl ?_
  refine GoR.op ((op_len Try.underlying26 rfl) _) rfl rfl ?_
  replace H := H mZ.bd
  refine GoR.op ((op_move rfl) _) rfl rfl ?_
  obtain ⟨h17, H⟩ := H
  obtain ⟨h18, H⟩ := H
  refine GoR.op ((op_index Try.underlying22 ti26 rfl rfl h17 h18 (da.some_ h17 h18)) _) rfl rfl ?_
  have hobt := ldSl da h17 h18
  obtain ⟨p19, c20, AV, I6⟩ := hobt
  refine GoR.op ((I6 Try.underlying26 rfl rfl) _ (Same.refl _)) rfl rfl ?_
  refine GoR.op ((op_len Try.underlying26 rfl) _) rfl rfl ?_
  replace H := H AV.bd
  by_cases h23 : ((ix gens (k1_9 : Int)).length : Int) = ((ix gens (0 : Int)).length : Int)
  ·replace H := ifp h23 H
   refine GoR.op ((fun w => opB (op_neq rfl rfl w) (ndT h23)) _) rfl rfl ?_
   refine GoR.op ((op_move rfl) _) rfl rfl ?_
   refine GoR.op ((op_move rfl) _) rfl rfl ?_
   refine GoR.call (op_call body60 rfl (walk_trans_Valid hO.lt mZ H)) rfl rfl ?_
   rintro v28 w25 ⟨r24, rfl, I7, H⟩
   have pk := Stp.same hO I7
   replace hO := pk.own
   replace da := da.ch pk.ch
   replace mZ := mZ.ch pk.ch
   replace AV := AV.ch pk.ch
   replace hB := hB.trans pk.fr
   cases r24
   ·replace H := ifn Bool.false_ne_true H
    refine GoR.op ((op_not rfl) _) rfl rfl ?_
    refine GoR.op ((op_pickF rfl rfl rfl) _) rfl rfl ?_
    refine GoR.nil ?_
    refine Go1.condT rfl rfl ?_
    refine Go1.seq ?_
    refine Go1.region ?_
    refine GoR.op ((op_assign rfl) _) rfl rfl ?_
    refine GoR.nil ?_
    refine Go1.ret1 Try.func33 rfl ?_
    exact ⟨([] : List Int), none, 0, rfl, hB.same, (ISl.null _ _ _), H⟩
   replace H := ifp rfl H
   refine GoR.op ((op_not rfl) _) rfl rfl ?_
   refine GoR.op ((op_pickF rfl rfl rfl) _) rfl rfl ?_
   refine GoR.nil ?_
   refine Go1.condF rfl rfl ?_
   refine Go1.skip ?_
   refine Go1.inBlock ?_
   refine Go1.cut [(0, .slice fR gens.length fS), (1, .string (gstr w_)), (20, .slice fR gens.length fS), (21, .int .i64 (gens.length : Int)), (22, .int .i64 (k1_9 : Int))] ⟨rfl, rfl, rfl, rfl, rfl, trivial⟩ ?_
   intro σ _
   refine Go1.region ?_
   refine GoR.op ((op_add rfl rfl (wrap_i64 (natbd h10 da.bd))) _) rfl rfl ?_
   refine GoR.op ((op_move rfl) _) rfl rfl ?_
   refine GoR.nil ?_
   exact hX1 _ H _ _ ⟨⟨rfl, rfl, rfl, rfl, rfl, trivial⟩, hO, da, hB⟩
  replace H := ifn h23 H
  refine GoR.op ((fun w => opB (op_neq rfl rfl w) (ndF h23)) _) rfl rfl ?_
  refine GoR.op ((op_move rfl) _) rfl rfl ?_
  refine GoR.pass rfl rfl ?_
  refine GoR.pass rfl rfl ?_
  refine GoR.pass rfl rfl ?_
  refine GoR.op ((op_pickT rfl rfl rfl) _) rfl rfl ?_
  refine GoR.nil ?_
  refine Go1.condT rfl rfl ?_
  refine Go1.seq ?_
  refine Go1.region ?_
  refine GoR.op ((op_assign rfl) _) rfl rfl ?_
  refine GoR.nil ?_
  refine Go1.ret1 Try.func33 rfl ?_
  exact ⟨([] : List Int), none, 0, rfl, hB.same, (ISl.null _ _ _), H⟩
 replace H := ifn h10 H
 refine GoR.op ((fun w => opB (op_lss rfl rfl w) (decide_eq_false h10)) _) rfl rfl ?_
 refine GoR.nil ?_
 refine Go1.seq ?_
 refine Go1.condF rfl rfl ?_
 refine Go1.exit rfl ?_
 refine Go1.seq ?_
 refine Go1.region ?_
 refine GoR.op ((op_move rfl) _) rfl rfl ?_
 obtain ⟨h30, H⟩ := H
 obtain ⟨h31, H⟩ := H
 refine GoR.op ((op_index Try.underlying22 ti26 rfl rfl h30 h31 (da.some_ h30 h31)) _) rfl rfl ?_
 have hobt := ldSl da h30 h31
 obtain ⟨p32, c33, yg, I8⟩ := hobt
 refine GoR.op ((I8 Try.underlying26 rfl rfl) _ (Same.refl _)) rfl rfl ?_
 refine GoR.op ((op_len Try.underlying26 rfl) _) rfl rfl ?_
 replace H := H yg.bd
 refine GoR.call (op_call body62 rfl (walk_trans_Identity hO.lt H)) rfl rfl ?_
 rintro v40 w37 ⟨r36, Hb, Hc, rfl, I9, zK, H⟩
 have xO := Stp.same hO I9
 replace hO := xO.own
 replace da := da.ch xO.ch
 replace yg := yg.ch xO.ch
 replace hB := hB.trans xO.fr
 refine GoR.op ((op_assign rfl) _) rfl rfl ?_
 refine GoR.nil ?_
 refine Go1.seq ?_
 refine Go1.seq ?_
 refine Go1.region ?_
 refine GoR.op ((op_move rfl) _) rfl rfl ?_
 have hobt := orange (s := w_) Try.underlying9 hO
 obtain ⟨w42, B43, wT, Dz, zA⟩ := hobt
 refine GoR.op (zA rfl) rfl rfl ?_
 replace hO := wT.own
 replace da := da.ch wT.ch
 replace yg := yg.ch wT.ch
 replace zK := zK.ch wT.ch
 replace hB := hB.trans wT.fr
 refine GoR.nil ?_
 refine Go1.block ?_
 refine Go1.loopW (S := List Int × Nat) (fun s σ w => match s with | (f2_49, i2_53) => ∃ (p50 : Option Addr), ∃ (c51 : Nat), agrees σ [(0, .slice fR gens.length fS), (7, .slice p50 f2_49.length c51), (45, .pointer (some ⟨B43, 0, none⟩))] ∧ Owns w0.heap.size w [.blk B43 (.stringIter (gstr w_) i2_53)] A ∧ ISl (Rp.sl (Rp.int .i64)) (bl [.blk B43 (.stringIter (gstr w_) i2_53)] ++ A) w fR fS gens ∧ ISl (Rp.int .i64) (bl [.blk B43 (.stringIter (gstr w_) i2_53)] ++ A) w p50 c51 f2_49 ∧ Fr (bl []) w0 (bl [.blk B43 (.stringIter (gstr w_) i2_53)]) w) H ⟨Hb, Hc, ⟨rfl, rfl, rfl, trivial⟩, hO, da, zK, hB⟩ ?_
 intro X2
 refine prE fun f2_49 => fun i2_53 => ?_
 intro H hX2 σ w48
 refine exE fun p50 => exE fun c51 => andE fun hag => andE fun hO => andE fun da => andE fun xp => fun hB => ?_
 dsimp only at H
 refine Go1.keep [(0, .slice fR gens.length fS), (7, .slice p50 f2_49.length c51), (45, .pointer (some ⟨B43, 0, none⟩))] hag ?_
 refine Go1.seq ?_
 refine Go1.region ?_
 by_cases h54 : (i2_53 : Int) < (w_.length : Int)
 ·replace H := ifp h54 H
  obtain ⟨h55, H⟩ := H
  have hobt := onext 0 hO rfl h54 h55
  obtain ⟨w56, xP, He⟩ := hobt
  refine GoR.op (He rfl) rfl rfl ?_
  replace hO := xP.own
  replace da := da.ch xP.ch
  replace xp := xp.ch xP.ch
  replace hB := hB.trans xP.fr
  refine GoR.op ((op_extract rfl rfl) _) rfl rfl ?_
  refine GoR.nil ?_
  refine Go1.seq ?_
  refine Go1.condT rfl rfl ?_
  refine Go1.skip ?_
  refine Go1.block ?_
  refine Go1.seq ?_
  refine Go1.region ?_
  refine GoR.op ((op_extract rfl rfl) _) rfl rfl ?_
  refine GoR.op ((op_assign rfl) _) rfl rfl ?_
  refine GoR.nil ?_
  refine Go1.region ?_
  refine GoR.op ((op_move rfl) _) rfl rfl ?_
  refine GoR.op ((op_move rfl) _) rfl rfl ?_
  refine GoR.op ((op_move rfl) _) rfl rfl ?_
  refine GoR.op ((op_sub rfl rfl rfl) _) rfl rfl ?_
  obtain ⟨h59, H⟩ := H
  obtain ⟨h60, H⟩ := H
  refine GoR.op ((op_index Try.underlying22 ti26 rfl rfl h59 h60 (da.some_ h59 h60)) _) rfl rfl ?_
  have hobt := ldSl da h59 h60
  obtain ⟨p61, c62, sN, Ja⟩ := hobt
  refine GoR.op ((Ja Try.underlying26 rfl rfl) _ (Same.refl _)) rfl rfl ?_
  refine GoR.call (op_call body37 rfl (walk_trans_Compose hO.lt xp sN H)) rfl rfl ?_
  rintro v69 w66 ⟨r65, Hf, Hg, rfl, Jb, Hh, H⟩
  have wU := Stp.same hO Jb
  replace hO := wU.own
  replace da := da.ch wU.ch
  replace xp := xp.ch wU.ch
  replace sN := sN.ch wU.ch
  replace hB := hB.trans wU.fr
  refine GoR.op ((op_assign rfl) _) rfl rfl ?_
  refine GoR.nil ?_
  refine Go1.inBlock ?_
  exact hX2 _ H _ _ ⟨Hf, Hg, ⟨rfl, rfl, rfl, trivial⟩, hO, da, Hh, hB⟩
 replace H := ifn h54 H
 refine GoR.op (onextEnd 0 hO rfl h54 rfl) rfl rfl ?_
 refine GoR.op ((op_extract rfl rfl) _) rfl rfl ?_
 refine GoR.nil ?_
 refine Go1.seq ?_
 refine Go1.condF rfl rfl ?_
 refine Go1.exit rfl ?_
 refine Go1.seq ?_
 refine Go1.region ?_
 refine GoR.op ((op_move rfl) _) rfl rfl ?_
 refine GoR.op ((op_assign rfl) _) rfl rfl ?_
 refine GoR.nil ?_
 refine Go1.ret1 Try.func33 rfl ?_
 exact ⟨f2_49, p50, c51, rfl, hB.same, (xp.ch (Ch.weak _ _ _)), H⟩
theorem body32 : Body Try.prog 32 := ⟨Try.f32, Try.func32, rfl, by kernel_rfl⟩
theorem walk_enumerate_Find {A : List Nat} {w0 : World} {bi : Option Addr} {bj : Nat} {aE : Option Addr} {aF : Nat} {ak : Option Addr} {al : Nat} {aX : Option Addr} {aY : Nat} {aG : Option Addr} {aH : Nat} {aI : Option Addr} {aJ : Nat} {p_f : Option Addr} {c_f : Nat} {e : Enum} {f : List Int} (hA : ∀ b ∈ A, b < w0.heap.size) (ah : ISl (Rp.sl (Rp.int .i64)) A w0 bi bj e.Gens) (ae : ISl (Rp.sl (Rp.int .i64)) A w0 aE aF e.Elems) (ac : ISl (Rp.int .i64) A w0 ak al e.Prefix) (ai : ISl (Rp.int .i64) A w0 aX aY e.Last) (af : ISl (Rp.sl (Rp.int .i64)) A w0 aG aH e.Right) (ag : ISl (rpRule) A w0 aI aJ e.Rules) (h_f : ISl (Rp.int .i64) A w0 p_f c_f f) {K : Int → Prop} (H : enumerate_Find e f K) :
    CallsV Try.prog 32 #[.agg #[.int .i64 e.Points, .bool e.Monoid, .slice bi e.Gens.length bj, .slice aE e.Elems.length aF, .slice ak e.Prefix.length al, .slice aX e.Last.length aY, .slice aG e.Right.length aH, .slice aI e.Rules.length aJ, .int .i64 e.Done], .slice p_f f.length c_f] w0 (fun v w' => ∃ (r0 : Int), v = .int .i64 r0 ∧ Same w0 w' ∧ K r0) := by
 refine CallsV.of (l := [.agg #[.int .i64 e.Points, .bool e.Monoid, .slice bi e.Gens.length bj, .slice aE e.Elems.length aF, .slice ak e.Prefix.length al, .slice aX e.Last.length aY, .slice aG e.Right.length aH, .slice aI e.Rules.length aJ, .int .i64 e.Done], .slice p_f f.length c_f]) Try.func32 rfl Try.ntmps32 rfl ?_
 have hO := Owns.start hA
 have hB := Fr.refl (bl []) w0
 unfold enumerate_Find at H
 replace ah := ah.ch (Ch.start A w0)
 replace ae := ae.ch (Ch.start A w0)
 replace ac := ac.ch (Ch.start A w0)
 replace ai := ai.ch (Ch.start A w0)
 replace af := af.ch (Ch.start A w0)
 replace ag := ag.ch (Ch.start A w0)
 replace h_f := h_f.ch (Ch.start A w0)
 refine Go1.seq ?_
 refine Go1.region ?_
 have hobt := obox (t := 29) (v := .agg #[.int .i64 e.Points, .bool e.Monoid, .slice bi e.Gens.length bj, .slice aE e.Elems.length aF, .slice ak e.Prefix.length al, .slice aX e.Last.length aY, .slice aG e.Right.length aH, .slice aI e.Rules.length aJ, .int .i64 e.Done]) (cs := #[.int .i64 e.Points, .bool e.Monoid, .slice bi e.Gens.length bj, .slice aE e.Elems.length aF, .slice ak e.Prefix.length al, .slice aX e.Last.length aY, .slice aG e.Right.length aH, .slice aI e.Rules.length aJ, .int .i64 e.Done]) hO rfl
 obtain ⟨w1, B2, gs, hs4, uF⟩ := hobt
 refine GoR.op (uF rfl) rfl rfl ?_
 replace hO := gs.own
 replace ah := ah.ch gs.ch
 replace ae := ae.ch gs.ch
 replace ac := ac.ch gs.ch
 replace ai := ai.ch gs.ch
 replace af := af.ch gs.ch
 replace ag := ag.ch gs.ch
 replace h_f := h_f.ch gs.ch
 replace hB := hB.trans gs.fr
 refine GoR.op ((op_assign rfl) _) rfl rfl ?_
 refine GoR.nil ?_
 refine Go1.seq ?_
 refine Go1.region ?_
 refine GoR.op ((oblkAgg (vs := [.int .i64 e.Points, .bool e.Monoid, .slice bi e.Gens.length bj, .slice aE e.Elems.length aF, .slice ak e.Prefix.length al, .slice aX e.Last.length aY, .slice aG e.Right.length aH, .slice aI e.Rules.length aJ, .int .i64 e.Done]) (i := 0) 0 hO rfl rfl Try.underlying29 rfl ti29 rfl) _ (Same.refl _)) rfl rfl ?_
 refine GoR.call (op_call body53 rfl (walk_enumerate_replay (e := e) hO.lt ah ae ac ai af ag H)) rfl rfl ?_
 intro v9 w10 hcase13
 refine Or.elim hcase13 ?_ ?_
 ·refine exE fun r8 => andE fun hv14 => andE fun tH => fun H => ?_
  subst hv14
  clear hcase13
  replace H := oElimN H
  have kY := Stp.same hO tH
  replace hO := kY.own
  replace ah := ah.ch kY.ch
  replace ae := ae.ch kY.ch
  replace ac := ac.ch kY.ch
  replace ai := ai.ch kY.ch
  replace af := af.ch kY.ch
  replace ag := ag.ch kY.ch
  replace h_f := h_f.ch kY.ch
  replace hB := hB.trans kY.fr
  refine GoR.op ((op_move rfl) _) rfl rfl ?_
  refine GoR.op ((op_extract rfl rfl) _) rfl rfl ?_
  refine GoR.op ((op_extract rfl rfl) _) rfl rfl ?_
  refine GoR.op ((op_assign rfl) _) rfl rfl ?_
  refine GoR.op ((op_assign rfl) _) rfl rfl ?_
  refine GoR.nil ?_
  refine Go1.seq ?_
  refine Go1.seq ?_
  refine Go1.region ?_
  refine GoR.op ((op_move rfl) _) rfl rfl ?_
  cases r8
  ·replace H := ifn Bool.false_ne_true H
   refine GoR.op ((op_not rfl) _) rfl rfl ?_
   refine GoR.op ((op_move rfl) _) rfl rfl ?_
   refine GoR.pass rfl rfl ?_
   refine GoR.pass rfl rfl ?_
   refine GoR.pass rfl rfl ?_
   refine GoR.op ((op_pickT rfl rfl rfl) _) rfl rfl ?_
   refine GoR.nil ?_
   refine Go1.condT rfl rfl ?_
   refine Go1.seq ?_
   refine Go1.region ?_
   refine GoR.op ((op_assign rfl) _) rfl rfl ?_
   refine GoR.nil ?_
   refine Go1.ret1 Try.func32 rfl ?_
   exact ⟨(-1 : Int), rfl, hB.same, H⟩
  replace H := ifp rfl H
  refine GoR.op ((op_not rfl) _) rfl rfl ?_
  refine GoR.op ((op_move rfl) _) rfl rfl ?_
  refine GoR.op ((op_move rfl) _) rfl rfl ?_
  refine GoR.call (op_call body60 rfl (walk_trans_Valid hO.lt h_f H)) rfl rfl ?_
  rintro v20 w17 ⟨r16, rfl, yf, H⟩
  have lz := Stp.same hO yf
  replace hO := lz.own
  replace ah := ah.ch lz.ch
  replace ae := ae.ch lz.ch
  replace ac := ac.ch lz.ch
  replace ai := ai.ch lz.ch
  replace af := af.ch lz.ch
  replace ag := ag.ch lz.ch
  replace h_f := h_f.ch lz.ch
  replace hB := hB.trans lz.fr
  cases r16
  ·replace H := ifn Bool.false_ne_true H
   refine GoR.op ((op_not rfl) _) rfl rfl ?_
   refine GoR.op ((op_pickF rfl rfl rfl) _) rfl rfl ?_
   refine GoR.nil ?_
   refine Go1.condT rfl rfl ?_
   refine Go1.seq ?_
   refine Go1.cut [] trivial ?_
   intro σ _
   refine Go1.region ?_
   refine GoR.op ((op_assign rfl) _) rfl rfl ?_
   refine GoR.nil ?_
   refine Go1.ret1 Try.func32 rfl ?_
   exact ⟨(-1 : Int), rfl, hB.same, H⟩
  replace H := ifp rfl H
  refine GoR.op ((op_not rfl) _) rfl rfl ?_
  refine GoR.op ((op_pickF rfl rfl rfl) _) rfl rfl ?_
  refine GoR.nil ?_
  refine Go1.condF rfl rfl ?_
  refine Go1.skip ?_
  refine Go1.seq ?_
  refine Go1.seq ?_
  refine Go1.drawS 0 [(0, .pure), (1, .pure), (2, .pure), (3, .stable), (4, .pure), (5, .loud), (6, .stable), (7, .pure), (8, .pure), (9, .pure), (10, .pure), (11, .pure)] mixed (by kernel_rfl) ?_
  intro w22 AU
  have tW := Stp.same hO AU
  replace hO := tW.own
  replace ah := ah.ch tW.ch
  replace ae := ae.ch tW.ch
  replace ac := ac.ch tW.ch
  replace ai := ai.ch tW.ch
  replace af := af.ch tW.ch
  replace ag := ag.ch tW.ch
  replace h_f := h_f.ch tW.ch
  replace hB := hB.trans tW.fr
  refine GoQ.pure rfl (op_move rfl) rfl rfl ?_
  exact H.elim
 ·refine exE fun r7 => exE fun r8 => exE fun ly => exE fun sQ => exE fun sR => exE fun sT => exE fun si => exE fun sj => exE fun sk => exE fun sm => exE fun rT => exE fun rU => exE fun rV => exE fun rW => exE fun ri => exE fun sU => exE fun sV => exE fun sW => exE fun sn => exE fun sq => exE fun sr => exE fun ss => exE fun rX => exE fun su => exE fun sv => exE fun sw => exE fun rY => exE fun cJ => exE fun uG => exE fun uH => exE fun uI => exE fun uj => exE fun uk => exE fun ul => exE fun um => exE fun t0 => exE fun un => exE fun uo => exE fun uq => exE fun t3 => andE fun hv25 => andE fun tH => andE fun hN12 => andE fun dK => andE fun dw => andE fun dt => andE fun dM => andE fun dF => andE fun dG => andE fun d6 => andE fun eH => andE fun eI => fun H => ?_
  subst hv25
  clear hcase13
  replace H := oElimS H
  have iT := Stp.more hO tH hN12
  dsimp only [List.cons_append, List.nil_append] at iT
  replace hO := iT.own
  replace ah := ah.ch iT.ch
  replace ae := ae.ch iT.ch
  replace ac := ac.ch iT.ch
  replace ai := ai.ch iT.ch
  replace af := af.ch iT.ch
  replace ag := ag.ch iT.ch
  replace h_f := h_f.ch iT.ch
  replace hB := hB.trans iT.fr
  replace dK := dK.ch (Ch.assoc _ _ _ _)
  dsimp only [List.cons_append, List.nil_append] at dK
  replace dw := dw.ch (Ch.assoc _ _ _ _)
  dsimp only [List.cons_append, List.nil_append] at dw
  replace dt := dt.ch (Ch.assoc _ _ _ _)
  dsimp only [List.cons_append, List.nil_append] at dt
  replace dM := dM.ch (Ch.assoc _ _ _ _)
  dsimp only [List.cons_append, List.nil_append] at dM
  replace dF := dF.ch (Ch.assoc _ _ _ _)
  dsimp only [List.cons_append, List.nil_append] at dF
  replace dG := dG.ch (Ch.assoc _ _ _ _)
  dsimp only [List.cons_append, List.nil_append] at dG
  replace d6 := d6.ch (Ch.assoc _ _ _ _)
  dsimp only [List.cons_append, List.nil_append] at d6
  replace eH := eH.ch (Ch.assoc _ _ _ _)
  dsimp only [List.cons_append, List.nil_append] at eH
  replace eI := eI.ch (Ch.assoc _ _ _ _)
  dsimp only [List.cons_append, List.nil_append] at eI
  refine GoR.op ((op_move rfl) _) rfl rfl ?_
  refine GoR.op ((op_extract rfl rfl) _) rfl rfl ?_
  refine GoR.op ((op_extract rfl rfl) _) rfl rfl ?_
  refine GoR.op ((op_assign rfl) _) rfl rfl ?_
  refine GoR.op ((op_assign rfl) _) rfl rfl ?_
  refine GoR.nil ?_
  refine Go1.seq ?_
  refine Go1.seq ?_
  refine Go1.region ?_
  refine GoR.op ((op_move rfl) _) rfl rfl ?_
  cases r8
  ·replace H := ifn Bool.false_ne_true H
   refine GoR.op ((op_not rfl) _) rfl rfl ?_
   refine GoR.op ((op_move rfl) _) rfl rfl ?_
   refine GoR.pass rfl rfl ?_
   refine GoR.pass rfl rfl ?_
   refine GoR.pass rfl rfl ?_
   refine GoR.op ((op_pickT rfl rfl rfl) _) rfl rfl ?_
   refine GoR.nil ?_
   refine Go1.condT rfl rfl ?_
   refine Go1.seq ?_
   refine Go1.region ?_
   refine GoR.op ((op_assign rfl) _) rfl rfl ?_
   refine GoR.nil ?_
   refine Go1.ret1 Try.func32 rfl ?_
   exact ⟨(-1 : Int), rfl, hB.same, H⟩
  replace H := ifp rfl H
  refine GoR.op ((op_not rfl) _) rfl rfl ?_
  refine GoR.op ((op_move rfl) _) rfl rfl ?_
  refine GoR.op ((op_move rfl) _) rfl rfl ?_
  refine GoR.call (op_call body60 rfl (walk_trans_Valid hO.lt h_f H)) rfl rfl ?_
  rintro v42 w39 ⟨r38, rfl, Jc, H⟩
  have f9 := Stp.same hO Jc
  replace dK := dK.ch f9.ch
  replace dw := dw.ch f9.ch
  replace dt := dt.ch f9.ch
  replace dM := dM.ch f9.ch
  replace dF := dF.ch f9.ch
  replace dG := dG.ch f9.ch
  replace d6 := d6.ch f9.ch
  replace eH := eH.ch f9.ch
  replace eI := eI.ch f9.ch
  replace hO := f9.own
  replace ah := ah.ch f9.ch
  replace ae := ae.ch f9.ch
  replace ac := ac.ch f9.ch
  replace ai := ai.ch f9.ch
  replace af := af.ch f9.ch
  replace ag := ag.ch f9.ch
  replace h_f := h_f.ch f9.ch
  replace hB := hB.trans f9.fr
  cases r38
  ·replace H := ifn Bool.false_ne_true H
   refine GoR.op ((op_not rfl) _) rfl rfl ?_
   refine GoR.op ((op_pickF rfl rfl rfl) _) rfl rfl ?_
   refine GoR.nil ?_
   refine Go1.condT rfl rfl ?_
   refine Go1.seq ?_
   refine Go1.cut [] trivial ?_
   intro σ _
   refine Go1.region ?_
   refine GoR.op ((op_assign rfl) _) rfl rfl ?_
   refine GoR.nil ?_
   refine Go1.ret1 Try.func32 rfl ?_
   exact ⟨(-1 : Int), rfl, hB.same, H⟩
  replace H := ifp rfl H
  refine GoR.op ((op_not rfl) _) rfl rfl ?_
  refine GoR.op ((op_pickF rfl rfl rfl) _) rfl rfl ?_
  refine GoR.nil ?_
  refine Go1.condF rfl rfl ?_
  refine Go1.skip ?_
  refine Go1.seq ?_
  refine Go1.seq ?_
  refine Go1.drawS 0 [(0, .pure), (1, .pure), (2, .pure), (3, .stable), (4, .pure), (5, .loud), (6, .stable), (7, .pure), (8, .pure), (9, .pure), (10, .pure), (11, .pure)] mixed (by kernel_rfl) ?_
  intro w44 Dz
  have ny := Stp.same hO Dz
  replace dK := dK.ch ny.ch
  replace dw := dw.ch ny.ch
  replace dt := dt.ch ny.ch
  replace dM := dM.ch ny.ch
  replace dF := dF.ch ny.ch
  replace dG := dG.ch ny.ch
  replace d6 := d6.ch ny.ch
  replace eH := eH.ch ny.ch
  replace eI := eI.ch ny.ch
  replace hO := ny.own
  replace ah := ah.ch ny.ch
  replace ae := ae.ch ny.ch
  replace ac := ac.ch ny.ch
  replace ai := ai.ch ny.ch
  replace af := af.ch ny.ch
  replace ag := ag.ch ny.ch
  replace h_f := h_f.ch ny.ch
  replace hB := hB.trans ny.fr
  refine GoQ.pure rfl (op_move rfl) rfl rfl ?_
  refine GoQ.pure rfl (op_nilCheck rfl) rfl rfl ?_
  refine GoQ.pure rfl (op_fieldAddr Try.underlying72 rfl ti69 rfl (by decide)) rfl rfl ?_
  refine GoQ.stable rfl (oblk (i := 9) 0 hO rfl rfl Try.underlying69 rfl rfl) rfl rfl ?_
  refine GoQ.pure rfl (op_move rfl) rfl rfl ?_
  refine GoQ.call rfl (op_call body61 rfl (walk_enumerate_text hO.lt h_f H)) (fun v w hr => by obtain ⟨_, _, hs, _, _⟩ := hr; assumption) rfl rfl ?_
  rintro v51 w48 ⟨r47, rfl, Jd, Jx, H⟩
  have nz := Stp.same hO Jd
  replace dK := dK.ch nz.ch
  replace dw := dw.ch nz.ch
  replace dt := dt.ch nz.ch
  replace dM := dM.ch nz.ch
  replace dF := dF.ch nz.ch
  replace dG := dG.ch nz.ch
  replace d6 := d6.ch nz.ch
  replace eH := eH.ch nz.ch
  replace eI := eI.ch nz.ch
  replace hO := nz.own
  replace ah := ah.ch nz.ch
  replace ae := ae.ch nz.ch
  replace ac := ac.ch nz.ch
  replace ai := ai.ch nz.ch
  replace af := af.ch nz.ch
  replace ag := ag.ch nz.ch
  replace h_f := h_f.ch nz.ch
  replace hB := hB.trans nz.fr
  by_cases h53 : mhas r7.number r47 = true
  ·replace H := ifp h53 H
   refine GoQ.stable rfl (olookT (a := r47) (MK.str Try.underlying9) 10 hO rfl Try.underlying69 rfl rfl h53) rfl rfl ?_
   refine GoQ.pure rfl (op_move rfl) rfl rfl ?_
   refine GoQ.pure rfl (op_extract rfl rfl) rfl rfl ?_
   refine GoQ.pure rfl (op_extract rfl rfl) rfl rfl ?_
   refine GoQ.pure rfl (op_assign rfl) rfl rfl ?_
   refine GoQ.pure rfl (op_assign rfl) rfl rfl ?_
   refine GoQ.nil ?_
   refine Go1.seq ?_
   refine Go1.region ?_
   refine GoR.op ((op_move rfl) _) rfl rfl ?_
   refine GoR.nil ?_
   refine Go1.condT rfl rfl ?_
   refine Go1.seq ?_
   refine Go1.region ?_
   refine GoR.op ((op_move rfl) _) rfl rfl ?_
   refine GoR.op ((op_assign rfl) _) rfl rfl ?_
   refine GoR.nil ?_
   refine Go1.ret1 Try.func32 rfl ?_
   exact ⟨(mgt r7.number r47), rfl, hB.same, H⟩
  replace H := ifn h53 H
  refine GoQ.stable rfl (olookF (a := r47) (MK.str Try.underlying9) 10 hO rfl Try.underlying69 ti3 rfl rfl h53) rfl rfl ?_
  refine GoQ.pure rfl (op_move rfl) rfl rfl ?_
  refine GoQ.pure rfl (op_extract rfl rfl) rfl rfl ?_
  refine GoQ.pure rfl (op_extract rfl rfl) rfl rfl ?_
  refine GoQ.pure rfl (op_assign rfl) rfl rfl ?_
  refine GoQ.pure rfl (op_assign rfl) rfl rfl ?_
  refine GoQ.nil ?_
  refine Go1.seq ?_
  refine Go1.cut [(7, .int .i64 (0 : Int)), (8, .bool false)] ⟨rfl, rfl, trivial⟩ ?_
  intro σ _
  refine Go1.region ?_
  refine GoR.op ((op_move rfl) _) rfl rfl ?_
  refine GoR.nil ?_
  refine Go1.condF rfl rfl ?_
  refine Go1.skip ?_
  refine Go1.seq ?_
  refine Go1.region ?_
  refine GoR.op ((op_assign rfl) _) rfl rfl ?_
  refine GoR.nil ?_
  refine Go1.ret1 Try.func32 rfl ?_
  exact ⟨(-1 : Int), rfl, hB.same, H⟩
theorem body35 : Body Try.prog 35 := ⟨Try.f35, Try.func35, rfl, by kernel_rfl⟩
theorem walk_ref01_Compare {A : List Nat} {w0 : World} {u : Str} {v : Str} (hA : ∀ b ∈ A, b < w0.heap.size) (Je : u.length ≤ mx) (Jf : v.length ≤ mx) {K : Int → Prop} (H : ref01_Compare u v K) :
    CallsV Try.prog 35 #[.string (gstr u), .string (gstr v)] w0 (fun v w' => ∃ (r0 : Int), v = .int .i64 r0 ∧ Same w0 w' ∧ K r0) := by
 refine CallsV.of (l := [.string (gstr u), .string (gstr v)]) Try.func35 rfl Try.ntmps35 rfl ?_
 have hO := Owns.start hA
 have hB := Fr.refl (bl []) w0
 unfold ref01_Compare at H
 refine Go1.seq ?_
 refine Go1.region ?_
 refine GoR.op ((op_assign rfl) _) rfl rfl ?_
 refine GoR.nil ?_
 refine Go1.seq ?_
 refine Go1.block ?_
 refine Go1.seq ?_
 refine Go1.region ?_
 refine GoR.op ((op_move rfl) _) rfl rfl ?_
 refine GoR.op ((op_lenS Try.underlying9 rfl) _) rfl rfl ?_
 replace H := H Je
 refine GoR.op ((op_move rfl) _) rfl rfl ?_
 refine GoR.op ((op_lenS Try.underlying9 rfl) _) rfl rfl ?_
 replace H := H Jf
 by_cases h1 : (u.length : Int) < (v.length : Int)
 ·replace H := ifp h1 H
  refine GoR.op ((fun w => opB (op_lss rfl rfl w) (decide_eq_true h1)) _) rfl rfl ?_
  refine GoR.op ((op_move rfl) _) rfl rfl ?_
  refine GoR.pass rfl rfl ?_
  refine GoR.pass rfl rfl ?_
  refine GoR.pass rfl rfl ?_
  refine GoR.pass rfl rfl ?_
  refine GoR.pass rfl rfl ?_
  refine GoR.pass rfl rfl ?_
  refine GoR.pass rfl rfl ?_
  refine GoR.pass rfl rfl ?_
  refine GoR.pass rfl rfl ?_
  refine GoR.pass rfl rfl ?_
  refine GoR.op ((op_pickT rfl rfl rfl) _) rfl rfl ?_
  refine GoR.op ((op_assign rfl) _) rfl rfl ?_
  refine GoR.nil ?_
  refine Go1.condT rfl rfl ?_
  refine Go1.seq ?_
  refine Go1.cut [] trivial ?_
  intro σ _
  refine Go1.region ?_
  refine GoR.op ((op_assign rfl) _) rfl rfl ?_
  refine GoR.nil ?_
  refine Go1.ret1 Try.func35 rfl ?_
  exact ⟨(-1 : Int), rfl, hB.same, H⟩
 replace H := ifn h1 H
 refine GoR.op ((fun w => opB (op_lss rfl rfl w) (decide_eq_false h1)) _) rfl rfl ?_
 refine GoR.op ((op_move rfl) _) rfl rfl ?_
 refine GoR.op ((op_move rfl) _) rfl rfl ?_
 refine GoR.op ((op_lenS Try.underlying9 rfl) _) rfl rfl ?_
 refine GoR.op ((op_move rfl) _) rfl rfl ?_
 refine GoR.op ((op_lenS Try.underlying9 rfl) _) rfl rfl ?_
 by_cases h2 : (u.length : Int) = (v.length : Int)
 ·replace H := ifp h2 H
  refine GoR.op ((fun w => opB (op_eql rfl rfl w) (decide_eq_true h2)) _) rfl rfl ?_
  refine GoR.op ((op_move rfl) _) rfl rfl ?_
  refine GoR.op ((op_move rfl) _) rfl rfl ?_
  refine GoR.op ((op_move rfl) _) rfl rfl ?_
  by_cases h3 : slt u v = true
  ·replace H := ifp h3 H
   refine GoR.op ((fun w => opB (op_lssS rfl rfl w) h3) _) rfl rfl ?_
   refine GoR.op ((op_pickT rfl rfl rfl) _) rfl rfl ?_
   refine GoR.op ((op_pickF rfl rfl rfl) _) rfl rfl ?_
   refine GoR.op ((op_assign rfl) _) rfl rfl ?_
   refine GoR.nil ?_
   refine Go1.condT rfl rfl ?_
   refine Go1.seq ?_
   refine Go1.region ?_
   refine GoR.op ((op_assign rfl) _) rfl rfl ?_
   refine GoR.nil ?_
   refine Go1.ret1 Try.func35 rfl ?_
   exact ⟨(-1 : Int), rfl, hB.same, H⟩
  replace H := ifn h3 H
  refine GoR.op ((fun w => opB (op_lssS rfl rfl w) (Bool.eq_false_iff.2 h3)) _) rfl rfl ?_
  refine GoR.op ((op_pickT rfl rfl rfl) _) rfl rfl ?_
  refine GoR.op ((op_pickF rfl rfl rfl) _) rfl rfl ?_
  refine GoR.op ((op_assign rfl) _) rfl rfl ?_
  refine GoR.nil ?_
  refine Go1.condF rfl rfl ?_
  refine Go1.seq ?_
  refine Go1.region ?_
  refine GoR.op ((op_move rfl) _) rfl rfl ?_
  refine GoR.op ((op_move rfl) _) rfl rfl ?_
  by_cases h4 : u = v
  ·replace H := ifp h4 H
   refine GoR.op ((fun w => opB (op_eqlS rfl rfl w) (decide_eq_true h4)) _) rfl rfl ?_
   refine GoR.op ((op_assign rfl) _) rfl rfl ?_
   refine GoR.nil ?_
   refine Go1.condT rfl rfl ?_
   refine Go1.seq ?_
   refine Go1.cut [] trivial ?_
   intro σ _
   refine Go1.region ?_
   refine GoR.op ((op_assign rfl) _) rfl rfl ?_
   refine GoR.nil ?_
   refine Go1.ret1 Try.func35 rfl ?_
   exact ⟨(0 : Int), rfl, hB.same, H⟩
  replace H := ifn h4 H
  refine GoR.op ((fun w => opB (op_eqlS rfl rfl w) (decide_eq_false h4)) _) rfl rfl ?_
  refine GoR.op ((op_assign rfl) _) rfl rfl ?_
  refine GoR.nil ?_
  refine Go1.condF rfl rfl ?_
  refine Go1.skip ?_
  refine Go1.inBlock ?_
  refine Go1.seq ?_
  refine Go1.region ?_
  refine GoR.op ((op_assign rfl) _) rfl rfl ?_
  refine GoR.nil ?_
  refine Go1.ret1 Try.func35 rfl ?_
  exact ⟨(1 : Int), rfl, hB.same, H⟩
 replace H := ifn h2 H
 refine GoR.op ((fun w => opB (op_eql rfl rfl w) (decide_eq_false h2)) _) rfl rfl ?_
 refine GoR.op ((op_move rfl) _) rfl rfl ?_
 refine GoR.pass rfl rfl ?_
 refine GoR.pass rfl rfl ?_
 refine GoR.pass rfl rfl ?_
 refine GoR.op ((op_pickF rfl rfl rfl) _) rfl rfl ?_
 refine GoR.op ((op_pickF rfl rfl rfl) _) rfl rfl ?_
 refine GoR.op ((op_assign rfl) _) rfl rfl ?_
 refine GoR.nil ?_
 refine Go1.condF rfl rfl ?_
 refine Go1.seq ?_
 refine Go1.region ?_
 refine GoR.op ((op_move rfl) _) rfl rfl ?_
 refine GoR.op ((op_move rfl) _) rfl rfl ?_
 by_cases h5 : u = v
 ·replace H := ifp h5 H
  refine GoR.op ((fun w => opB (op_eqlS rfl rfl w) (decide_eq_true h5)) _) rfl rfl ?_
  refine GoR.op ((op_assign rfl) _) rfl rfl ?_
  refine GoR.nil ?_
  refine Go1.condT rfl rfl ?_
  refine Go1.seq ?_
  refine Go1.region ?_
  refine GoR.op ((op_assign rfl) _) rfl rfl ?_
  refine GoR.nil ?_
  refine Go1.ret1 Try.func35 rfl ?_
  exact ⟨(0 : Int), rfl, hB.same, H⟩
 replace H := ifn h5 H
 refine GoR.op ((fun w => opB (op_eqlS rfl rfl w) (decide_eq_false h5)) _) rfl rfl ?_
 refine GoR.op ((op_assign rfl) _) rfl rfl ?_
 refine GoR.nil ?_
 refine Go1.condF rfl rfl ?_
 refine Go1.skip ?_
 refine Go1.inBlock ?_
 refine Go1.seq ?_
 refine Go1.region ?_
 refine GoR.op ((op_assign rfl) _) rfl rfl ?_
 refine GoR.nil ?_
 refine Go1.ret1 Try.func35 rfl ?_
 exact ⟨(1 : Int), rfl, hB.same, H⟩
end Sg
