/- -/
import Derived.Test.YtlneebpmblkllaaVd
import Derived.Test.YtlneebpmblkllaaWSyntacticMonoids
import Derived.Test.YtlneebpmblkllaaWSyntacticMonoidsb
namespace Sg
open Go Go.RowKit Go.Proofs Try
set_option linter.unusedVariables false
set_option linter.unusedSimpArgs false
set_option maxRecDepth 100000
set_option maxHeartbeats 4000000
variable {A : List Nat} {w0 : World}
theorem body63 : Body prog 63 := ⟨f63, func63, rfl, by kernel_rfl⟩
theorem body62 : Body prog 62 := ⟨f62, func62, rfl, by kernel_rfl⟩
theorem body19 : Body prog 19 := ⟨f19, func19, rfl, by kernel_rfl⟩
theorem J17 {aL ba : Option Addr} {aM bc : Nat} {d : DFA} (hA : HA0 A w0) (aK : ISb A w0 aL aM d.Final) (bn : ISs A w0 ba bc d.Next) {K : Syntactic → Int → Prop} (H : J0o d K) :
    CallsV prog 19 #[.agg (cDF d aL aM ba bc)] w0 (fun v w' => ∃ (r0 : Syntactic), ∃ (r1 : Int), ∃ (dN : Option Addr), ∃ (dO : Nat), ∃ (dP : Option Addr), ∃ (dQ : Nat), ∃ (dw : Option Addr), ∃ (dx : Nat), ∃ (dy : Option Addr), ∃ (dz : Nat), ∃ (eh : Option Addr), ∃ (en : Nat), v = .tuple #[.agg (cSY r0 dN dO dP dQ dw dx dy dz eh en), .int .i64 r1] ∧ Same w0 w' ∧ ISs A w' dN dO r0.Table ∧ ISt A w' dP dQ r0.Words ∧ ISi A w' dw dx r0.Images ∧ ISb A w' dy dz r0.Accept ∧ ISb A w' eh en r0.Plus ∧ K r0 r1) := by
 refine cal hA func19 ntmps19 fun hO hB => ?_
 unfold J0o at H
 refine sbx hO fun w1 B2 s hO => ?_
 refine sal hO fun w4 B5 s hO => ?_
 refine sag 1 hO ?_
 refine zcr (J01 body61 rfl (J0q hO.lt aK.u bn.u H)) fun _ w8 => e1 fun r7 => sc0 hO fun s hO => fun H => ?_
 refine scm H (fun h9 H => ?_) fun h9 H => ?_
 ·refine sal hO fun w10 B11 s hO => ?_
  refine sag 2 hO ?_
  refine zcr (J01 body22 rfl (J4h hO.lt aK.u bn.u H)) fun _ w14 => e4 fun r13 b9 ca dR => e1 fun dS => sc0 hO fun s hO => d2 fun bU cP H => ?_
  refine GoR.inl (vs := [.pointer (some ⟨B11, 0, none⟩), .agg (cDF r13 b9 ca dR dS)]) (caps := []) rfl rfl body62 func62 rfl ntmps62 rfl rfl rfl ?_
  intro RhR15 hR15
  refine sbx hO fun w16 B17 s hO => ?_
  refine sln0 ?_
  refine au ?_
  replace H := (H bU.bd)
  obtain ⟨h19, H⟩ := H
  refine zo (J03 rfl rfl (wrap_i64 h19)) ?_
  refine scm H (fun h20 H => ?_) fun h20 H => ?_
  ·refine au ?_
   refine Go1.ret1V func62 rfl (show _ = .int .i64 (3 : Int) from rfl) ?_
   refine hR15 _ _ ?_
   refine au ?_
   refine zo (fun w => opB (J6x rfl rfl w) (ndF (by decide))) ?_
   refine au ?_
   refine zo (J04 underlying33 ti33 (pl := [(0, 1), (1, 1), (2, 1), (3, 1), (4, 1), (5, 1)]) (vs := []) (cs := #[.int .i64 (0 : Int), .slice none 0 0, .slice none 0 0, .slice none 0 0, .slice none 0 0, .slice none 0 0]) (by kernel_rfl) rfl (by kernel_rfl)) ?_
   refine sba 2 hO fun w21 s hO => ?_
   refine au ?_
   refine Go1.retC2 func19 rfl rfl (rlb 2 hO) ⟨((⟨(0 : Int), ([] : List (List Int)), ([] : List Str), ([] : List Int), ([] : List Bool), ([] : List Bool)⟩ : Syntactic)), _, _, _, _, _, _, _, _, _, _, _, er, frs, (ISl.null _ _ _), (ISl.null _ _ _), (ISl.null _ _ _), (ISl.null _ _ _), (ISl.null _ _ _), H⟩
  refine au ?_
  refine zo (fun w => opB (J2R underlying23 rfl rfl w) rfl) ?_
  refine au ?_
  obtain ⟨h29, H⟩ := H
  obtain ⟨h30, H⟩ := H
  have zz := t2makeS (m := r13.Letters) (e' := 3) Fl.i underlying23 ti31 hO h29 h30 (by decide)
  obtain ⟨w22, p23, FP, V9, FQ, hz32⟩ := zz
  refine zg (FQ rfl rfl) ?_
  refine nst FP fun s hO => ?_
  refine sbs 2 hO fun w33 s hO => ?_
  refine au ?_
  refine zo (J0M underlying23 rfl (t2neq 0 hO rfl)) ?_
  refine au ?_
  refine sdr [4] hO fun s hO => ?_
  refine lv [0, 3, 5, 33] hO H (fun E (dt, fG) σ w => ∃ uD, (fun Z => Lo A w0 σ w [(34, .int .i64 (dt : Int))] Z ∧ ISb (bl Z ++ A) w b9 ca r13.Final ∧ ISs (bl Z ++ A) w dR dS r13.Next) (E.set 0 (t2 Fl.i 31 3 p23 r13.Letters.toNat r13.Letters.toNat uD fG))) ⟨_, ⟨agr, hO, fr⟩, bU.u, cP.u⟩ ?_
  refine fun X1 => p1 fun dt fG => fun H hX1 σ w34 hk => e1 fun uD => d1 fun hL => d1 fun bU cP => d2 (fun hag hO hB => keep2 hk hag ?_) hL
  dsimp only [esets, sS, sZ] at hO hB bU cP
  dsimp only at H
  revert hO; repeat (rename Owns .. => q; clear q)
  intro hO; repeat (rename Sq .. => q; clear q)
  refine scm H (fun h38 H => ?_) fun h38 H => ?_
  ·refine au ?_
   refine lv [0, 3, 5, 6, 33, 34, 37] hO H (fun E (k2_40, d_41) σ w => ∃ gM, (fun Z => Lo A w0 σ w [(38, .int .i64 (k2_40 : Int))] Z ∧ ISb (bl Z ++ A) w b9 ca r13.Final ∧ ISs (bl Z ++ A) w dR dS r13.Next) (E.set 0 (t2 Fl.i 31 3 p23 r13.Letters.toNat r13.Letters.toNat gM d_41))) ⟨_, ⟨agr, hO, fr⟩, bU, cP⟩ ?_
   refine fun X2 => p1 fun k2_40 d_41 => fun H hX2 σ w39 hk => e1 fun gM => d1 fun hL => d1 fun bU cP => d2 (fun hag hO hB => keep2 hk hag ?_) hL
   dsimp only [esets, sS, sZ] at hO hB bU cP
   dsimp only at H
   revert hO; repeat (rename Owns .. => q; clear q)
   intro hO; repeat (rename Sq .. => q; clear q)
   refine scm H (fun h43 H => ?_) fun h43 H => ?_
   ·refine au ?_
    refine Go1.drawT (ok := fun _ => True) Same.tr [26, 28] 29 (.qp 0 (.qp 1 (.qp 2 (.qp 4 (.qp 5 (.qp 6 (.qp 7 (.qs 8 (.qp 9 (.qp 10 (.qs 11 (.qp 12 (.qp 13 (.qp 14 (.qs 15 (.qp 16 (.qs 17 (.qp 18 (.qp 19 (.qs 20 (.qp 21 (.qp 22 (.qs 23 (.qp 24 (.alt 3 (.alt 25 (.alt 26 (.qp 27 (.alt 28 .nil .fin)) .fin) .fin) (.alt 25 (.alt 3 (.alt 26 (.qp 27 (.alt 28 .nil .fin)) .fin) (.alt 26 (.alt 3 (.qp 27 (.alt 28 .nil .fin)) .fin) .fin)) .fin)))))))))))))))))))))))))) mixed (by kernel_rfl) ?_
    intro w44 NJ
    refine sm hO NJ fun s hO => ?_
    refine sbl 2 ?_
    refine au ?_
    obtain ⟨h46, H⟩ := H
    obtain ⟨h47, H⟩ := H
    refine GoT.pure rfl (J05 underlying23 ti31 rfl rfl h46 (ltn (t2neq 0 hO rfl) h47) (t2some 0 hO rfl h46 h47)) rfl rfl ?_
    refine GoT.stable rfl (t2head 0 hO rfl h46 h47 underlying31 rfl rfl) rfl rfl ?_
    refine sbl 2 ?_
    refine sbl 1 ?_
    refine sxls hO cP.u H.1 H.2.1 fun p48 c49 fC => ?_
    refine sxl hO fC.u H.2.2.1 H.2.2.2.1 ?_
    have h51 := H.1
    have h52 := H.2.1
    have h53 := H.2.2.1
    have h54 := H.2.2.2.1
    replace H := H.2.2.2.2
    obtain ⟨h55, H⟩ := H
    refine GoT.pure rfl (J03 rfl rfl (wrap_i64 h55)) rfl rfl ?_
    refine GoT.both ?_ ?_
    ·skip
     skip
     refine sbl 2 ?_
     skip
     refine sbu Fl.i 3 [((0 : Int) + (ix (ix r13.Next (k2_40 : Int)) (dt : Int)))] hO fun w56 p57 s hO => ?_
     skip
     refine sfr 1 hO fun s hO => ?_
     have zz := t2take (hf := Fl.i) hO h46 h47
     obtain ⟨NK, qg, uG⟩ := zz
     refine nst qg fun s hO => ?_
     have NL := uG (bl [.row 3 1 (gM (dt : Int).toNat).1 ((ix d_41 (dt : Int)).length) ((gM (dt : Int).toNat).2) NK, t2h Fl.i 31 3 p23 r13.Letters.toNat r13.Letters.toNat gM d_41 (dt : Int).toNat, t1 Fl.i 3 p57 1 1 [((0 : Int) + (ix (ix r13.Next (k2_40 : Int)) (dt : Int)))], .blk B17 (.cells (cDF r13 b9 ca dR dS) 25 (0, 0)), .blk B11 (.cells #[.slice p23 r13.Letters.toNat r13.Letters.toNat, .slice none 0 0, .int .i64 (0 : Int)] 83 (0, 0)), .blk B5 (.cells #[.int .i64 (0 : Int), .slice none 0 0, .slice none 0 0, .slice none 0 0, .slice none 0 0, .slice none 0 0] 33 (0, 0))] ++ A)
     refine sfz 2 hO fun s hO NM NN => ?_
     obtain ⟨h66, H⟩ := H
     have zz := oapp underlying31 ti3 rfl 0 hO rfl NL.u NM NN h66 (by decide)
     obtain ⟨w67, p68, c69, Wa, FS, Bf, FT⟩ := zz
     dsimp only [sS, sZ] at Bf
     refine GoT.stepX rfl (FT (by exact rfl) (by exact rfl)) rfl rfl rfl ?_
     refine nst FS fun s hO => ?_
     obtain ⟨h75, H⟩ := H
     obtain ⟨h76, H⟩ := H
     refine GoT.pure rfl (J05 underlying23 ti31 rfl rfl h75 (ltn (t2neqH 1 hO rfl) h76) (t2someH 1 hO rfl h75 h76)) rfl rfl ?_
     skip
     refine sfr 1 hO fun s hO => ?_
     refine sfr 1 hO fun s hO => ?_
     have zz := t2fix (hf := Fl.i) hO Bf.u h75 h76 rfl
     obtain ⟨w77, fV, qa⟩ := zz
     refine GoT.stepX rfl (qa underlying31 rfl ti31 (by exact rfl) (by exact rfl)) rfl rfl rfl ?_
     refine nst fV fun s hO => ?_
     refine sinc (natbd h43 bU.bd) ?_
     refine au ?_
     exact hX2 _ H _ _ agr ⟨_, ⟨agr, hO, fr⟩, bU.u, cP.u⟩
    skip
    refine sbu Fl.i 3 [((0 : Int) + (ix (ix r13.Next (k2_40 : Int)) (dt : Int)))] hO fun w80 p81 s hO => ?_
    refine GoT.both ?_ ?_
    ·skip
     skip
     refine sbl 3 ?_
     skip
     refine sfr 1 hO fun s hO => ?_
     have zz := t2take (hf := Fl.i) hO h46 h47
     obtain ⟨NO, FU, NP⟩ := zz
     refine nst FU fun s hO => ?_
     have gN := NP (bl [.row 3 1 (gM (dt : Int).toNat).1 ((ix d_41 (dt : Int)).length) ((gM (dt : Int).toNat).2) NO, t2h Fl.i 31 3 p23 r13.Letters.toNat r13.Letters.toNat gM d_41 (dt : Int).toNat, t1 Fl.i 3 p81 1 1 [((0 : Int) + (ix (ix r13.Next (k2_40 : Int)) (dt : Int)))], .blk B17 (.cells (cDF r13 b9 ca dR dS) 25 (0, 0)), .blk B11 (.cells #[.slice p23 r13.Letters.toNat r13.Letters.toNat, .slice none 0 0, .int .i64 (0 : Int)] 83 (0, 0)), .blk B5 (.cells #[.int .i64 (0 : Int), .slice none 0 0, .slice none 0 0, .slice none 0 0, .slice none 0 0, .slice none 0 0] 33 (0, 0))] ++ A)
     refine sfz 2 hO fun s hO NQ v6 => ?_
     obtain ⟨h90, H⟩ := H
     have zz := oapp underlying31 ti3 rfl 0 hO rfl gN.u NQ v6 h90 (by decide)
     obtain ⟨w91, p92, c93, Wb, FV, Bg, FW⟩ := zz
     dsimp only [sS, sZ] at Bg
     refine GoT.stepX rfl (FW (by exact rfl) (by exact rfl)) rfl rfl rfl ?_
     refine nst FV fun s hO => ?_
     obtain ⟨h99, H⟩ := H
     obtain ⟨nE, H⟩ := H
     refine GoT.pure rfl (J05 underlying23 ti31 rfl rfl h99 (ltn (t2neqH 1 hO rfl) nE) (t2someH 1 hO rfl h99 nE)) rfl rfl ?_
     skip
     refine sfr 1 hO fun s hO => ?_
     refine sfr 1 hO fun s hO => ?_
     have zz := t2fix (hf := Fl.i) hO Bg.u h99 nE rfl
     obtain ⟨ux, Bi, Bj⟩ := zz
     refine GoT.stepX rfl (Bj underlying31 rfl ti31 (by exact rfl) (by exact rfl)) rfl rfl rfl ?_
     refine nst Bi fun s hO => ?_
     refine sinc (natbd h43 bU.bd) ?_
     refine au ?_
     exact hX2 _ H _ _ agr ⟨_, ⟨agr, hO, fr⟩, bU.u, cP.u⟩
    skip
    refine sfr 1 hO fun s hO => ?_
    have zz := t2take (hf := Fl.i) hO h46 h47
    obtain ⟨FX, Bk, FY⟩ := zz
    refine nst Bk fun s hO => ?_
    have F0 := FY (bl [.row 3 1 (gM (dt : Int).toNat).1 ((ix d_41 (dt : Int)).length) ((gM (dt : Int).toNat).2) FX, t2h Fl.i 31 3 p23 r13.Letters.toNat r13.Letters.toNat gM d_41 (dt : Int).toNat, t1 Fl.i 3 p81 1 1 [((0 : Int) + (ix (ix r13.Next (k2_40 : Int)) (dt : Int)))], .blk B17 (.cells (cDF r13 b9 ca dR dS) 25 (0, 0)), .blk B11 (.cells #[.slice p23 r13.Letters.toNat r13.Letters.toNat, .slice none 0 0, .int .i64 (0 : Int)] 83 (0, 0)), .blk B5 (.cells #[.int .i64 (0 : Int), .slice none 0 0, .slice none 0 0, .slice none 0 0, .slice none 0 0, .slice none 0 0] 33 (0, 0))] ++ A)
    refine sfz 2 hO fun s hO F1 F2 => ?_
    obtain ⟨ns, H⟩ := H
    have zz := oapp underlying31 ti3 rfl 0 hO rfl F0.u F1 F2 ns (by decide)
    obtain ⟨NR, NS, NT, R5, Bl, yK, Bm⟩ := zz
    dsimp only [sS, sZ] at yK
    refine GoT.stepX rfl (Bm (by exact rfl) (by exact rfl)) rfl rfl rfl ?_
    refine nst Bl fun s hO => ?_
    skip
    refine sbl 3 ?_
    obtain ⟨ni, H⟩ := H
    obtain ⟨v7, H⟩ := H
    refine GoT.pure rfl (J05 underlying23 ti31 rfl rfl ni (ltn (t2neqH 1 hO rfl) v7) (t2someH 1 hO rfl ni v7)) rfl rfl ?_
    skip
    refine sfr 1 hO fun s hO => ?_
    refine sfr 1 hO fun s hO => ?_
    have zz := t2fix (hf := Fl.i) hO yK.u ni v7 rfl
    obtain ⟨Bn, Bo, nu⟩ := zz
    refine GoT.stepX rfl (nu underlying31 rfl ti31 (by exact rfl) (by exact rfl)) rfl rfl rfl ?_
    refine nst Bo fun s hO => ?_
    refine sinc (natbd h43 bU.bd) ?_
    refine au ?_
    exact hX2 _ H _ _ agr ⟨_, ⟨agr, hO, fr⟩, bU.u, cP.u⟩
   refine au ?_
   obtain ⟨NU, H⟩ := H
   refine zo (J03 rfl rfl (wrap_i64 NU)) ?_
   refine au ?_
   exact hX1 _ H _ _ agr ⟨_, ⟨agr, hO, fr⟩, bU.u, cP.u⟩
  refine au ?_
  refine drs 4 [q0, q0, q0, q0, q1, q0, q0, q0, q1, q0, q1, q0, q0, q1, q0, q0, q0, q1, q0, q2, q3, q0, q0, q3] hO fun Wc s hO => ?_
  refine au ?_
  obtain ⟨NV, H⟩ := H
  refine GoQ.pure rfl (J03 rfl rfl (wrap_i64 NV)) rfl rfl ?_
  refine au ?_
  refine GoQ.pure rfl (J04 underlying120 ti120 (pl := [(0, 1), (1, 1), (2, 1)]) (vs := [(0, .int .i64 ((0 : Int) + r13.Start)), (1, .slice b9 r13.Final.length ca), (2, .int .i64 (0 : Int))]) (cs := #[.int .i64 ((0 : Int) + r13.Start), .slice b9 r13.Final.length ca, .int .i64 (0 : Int)]) (by kernel_rfl) rfl (by kernel_rfl)) rfl rfl ?_
  have zz := obuildN (r := rppart) (n := 1) (parts := [(0, .agg #[.int .i64 ((0 : Int) + r13.Start), .slice b9 r13.Final.length ca, .int .i64 (0 : Int)])]) (vs := [.int .i64 ((0 : Int) + r13.Start), .slice b9 r13.Final.length ca, .int .i64 (0 : Int)]) (xs := [(⟨((0 : Int) + r13.Start), r13.Final, (0 : Int)⟩ : part)]) underlying81 ti120 hO (by decide) (by decide) (by kernel_rfl) (Els.consR (us := [.int .i64 ((0 : Int) + r13.Start), .slice b9 r13.Final.length ca, .int .i64 (0 : Int)]) rfl ⟨rfl, ⟨b9, ca, rfl, bU.u⟩, rfl⟩ (Els.nil _ _ _) (by simp [mx])) rfl
  obtain ⟨Ml, Wd, Bp, F3, F4, Bq⟩ := zz
  refine GoQ.loud rfl (Bq rfl) F4 rfl rfl ?_
  refine nst Bp fun s hO => ?_
  refine sfzR 0 hO F3 fun s hO F5 qm => ?_
  have Br := Stp.nil (e := 120) (r := 3) hO
  refine nst Br fun s hO => ?_
  have F6 := elN (rppart) hO
  obtain ⟨NW, H⟩ := H
  have zz := oapp underlying81 ti120 rfl 0 hO rfl F6 F5.u qm NW (by decide)
  obtain ⟨zB, qM, qN, g8, Bs, bV, Bt⟩ := zz
  dsimp only [sS, sZ] at bV
  refine GoQ.last rfl (Bt (by exact rfl) (by exact rfl)) rfl rfl ?_
  refine nst Bs fun s hO => ?_
  refine sbs 3 hO fun Nm s hO => ?_
  refine au ?_
  obtain ⟨NX, H⟩ := H
  refine zo (J03 rfl rfl (wrap_i64 NX)) ?_
  refine sbs 3 hO fun LJ s hO => ?_
  refine au ?_
  refine Go1.ret1V func62 rfl (show _ = .int .i64 (0 : Int) from rfl) ?_
  refine hR15 _ _ ?_
  refine au ?_
  refine zo (fun w => opB (J6x rfl rfl w) (ndT (by decide))) ?_
  refine au ?_
  refine GoR.inl (vs := [.pointer (some ⟨B11, 0, none⟩)]) (caps := []) rfl rfl body63 func63 rfl ntmps63 rfl rfl rfl ?_
  intro RhR152 hR152
  refine sal hO fun zQ B154 s hO => ?_
  refine au ?_
  refine sfz2 2 hO fun s hO cE yL => ?_
  refine zcr (J01 body101 (by rw [yL]; exact rfl) (J4F hO.lt cE H)) fun _ LO => e4 fun r158 r159 dA dB => e4 fun dg dh cQ cR => e4 fun dC dD di dj => e2 fun dk dm => sc0 hO fun s hO => d1 fun ao => d1 fun af => d4 fun ag ai ae am H => ?_
  refine sal hO fun NY B162 s hO => ?_
  refine sba 0 hO fun pt s hO => ?_
  refine scm H (fun Bu H => ?_) fun Bu H => ?_
  ·refine sln0 ?_
   refine scm (H af.bd) (fun uz H => ?_) fun uz H => ?_
   ·refine au ?_
    refine zo (J04 underlying33 ti33 (pl := [(0, 1), (1, 1), (2, 1), (3, 1), (4, 1), (5, 1)]) (vs := []) (cs := #[.int .i64 (0 : Int), .slice none 0 0, .slice none 0 0, .slice none 0 0, .slice none 0 0, .slice none 0 0]) (by kernel_rfl) rfl (by kernel_rfl)) ?_
    refine sba 1 hO fun zS s hO => ?_
    refine au ?_
    refine Go1.retC3V func63 rfl rfl (rlb 1 hO) (show _ = .slice none 0 0 from rfl) (show _ = .int .i64 (3 : Int) from rfl) ?_
    refine hR152 _ _ ?_
    refine sal hO fun u0 B169 s hO => ?_
    refine sba 0 hO fun zT s hO => ?_
    refine au ?_
    refine zo (fun w => opB (J6x rfl rfl w) (ndF (by decide))) ?_
    refine au ?_
    refine zo (J04 underlying33 ti33 (pl := [(0, 1), (1, 1), (2, 1), (3, 1), (4, 1), (5, 1)]) (vs := []) (cs := #[.int .i64 (0 : Int), .slice none 0 0, .slice none 0 0, .slice none 0 0, .slice none 0 0, .slice none 0 0]) (by kernel_rfl) rfl (by kernel_rfl)) ?_
    refine sba 6 hO fun Ao s hO => ?_
    refine au ?_
    refine Go1.retC2 func19 rfl rfl (rlb 6 hO) ⟨((⟨(0 : Int), ([] : List (List Int)), ([] : List Str), ([] : List Int), ([] : List Bool), ([] : List Bool)⟩ : Syntactic)), _, _, _, _, _, _, _, _, _, _, _, er, frs, (ISl.null _ _ _), (ISl.null _ _ _), (ISl.null _ _ _), (ISl.null _ _ _), (ISl.null _ _ _), H⟩
   refine au ?_
   refine drA Same.tr 1 [(0, m0), (1, m0), (2, m0), (3, m1), (4, m0), (5, m0), (7, m0), (9, m0), (10, m1), (11, m0), (12, m1), (14, m0), (13, m2), (6, m4), (8, m4), (15, m4), (16, m0), (17, m4), (18, m3)] hO fun qO s hO => ?_
   have mG := hO.le
   have hw175 := (fr : Fr (bl []) w0 _ qO).ch.size
   refine au ?_
   refine au ?_
   refine au ?_
   refine sbl 4 ?_
   refine slnN yL ?_
   refine au ?_
   refine au ?_
   refine au ?_
   refine sbl 0 ?_
   refine sxls hO ae.u (H cE.bd).1 (H cE.bd).2.1 fun We Wf F7 => ?_
   refine au ?_
   refine GoQA.loudI rfl rfl fun Mx A180 F8 => ?_
   refine sgw F8 hO fun s hO => ?_
   have Wg := (H cE.bd).1
   have Wh := (H cE.bd).2.1
   refine GoAt.call (J01 body86 rfl (J0z hO.lt F7.u (H cE.bd).2.2)) (fun _ _ hr => ⟨fun _ => saq hr, Same.kp hO (saq hr)⟩) rfl fun _ LU => e4 fun r182 kV i6 i7 => sA1 hO fun s hO => fun H => ?_
   obtain ⟨uB, H⟩ := H
   obtain ⟨N1, H⟩ := H
   refine GoQA.alloc rfl rfl (alMake2 (e' := 3) Fl.i underlying23 ti31 uB N1 (by decide) rfl rfl) ?_
   intro N2 A190 ii A192 qP F9 hd195 hnb196 hh197
   refine sgw qP hO fun s hO => ?_
   refine sgn (e := t2 Fl.i 31 3 (some ⟨ii, 0, none⟩) r158.Elems.length r158.Elems.length ((fun _ => (none, 0))) (List.replicate r158.Elems.length ([] : List Int))) F9 hO mG hw175 hnb196 (J7p ii) hh197 hd195 (fr : Fr (bl []) w0 _ N2) fun s hO hB => ?_
   obtain ⟨N3, H⟩ := H
   obtain ⟨N4, H⟩ := H
   have zz := alMakeE (n := (r158.Elems.length : Int)) (r := Rp.str) (d := ([] : Str)) underlying30 ti9 (fun _ _ => ⟨rfl, Nat.zero_le _⟩) rfl N3 N4 (by decide)
   obtain ⟨yM, hal214, Ga⟩ := zz
   refine GoQA.alloc rfl rfl (hal214 rfl rfl) ?_
   intro Bv A202 lR A204 qQ qR hd207 hnb208 hh209
   refine sgw qQ hO fun s hO => ?_
   have qS := Ga (bl [t2 Fl.i 31 3 (some ⟨ii, 0, none⟩) r158.Elems.length r158.Elems.length ((fun _ => (none, 0))) (List.replicate r158.Elems.length ([] : List Int)), t1 Fl.i 3 i6 kV i7 r182, .blk B162 (.cells #[.int .i64 r158.Points, .bool r158.Monoid, .slice dA r158.Gens.length dB, .slice dg r158.Elems.length dh, .slice cQ r158.Prefix.length cR, .slice dC r158.Last.length dD, .slice di r158.Right.length dj, .slice dk r158.Rules.length dm, .int .i64 r158.Done] 123 (0, 0)), .blk B154 (.cells #[.int .i64 (0 : Int), .slice none 0 0, .slice none 0 0, .slice none 0 0, .slice none 0 0, .slice none 0 0] 33 (0, 0)), .row 120 3 qM (0 + 1) qN g8, .blk B17 (.cells (cDF r13 b9 ca dR dS) 25 (0, 0)), .blk B11 (.cells #[.slice p23 r13.Letters.toNat r13.Letters.toNat, .slice qM (0 + 1) qN, .int .i64 ((0 : Int) + (r13.Final.length : Int))] 83 (0, 0)), .blk B5 (.cells #[.int .i64 (0 : Int), .slice none 0 0, .slice none 0 0, .slice none 0 0, .slice none 0 0, .slice none 0 0] 33 (0, 0))] ++ A202) Bv
   refine sgn (e := .row 9 1 (some ⟨lR, 0, none⟩) r158.Elems.length r158.Elems.length yM) qR hO mG hw175 hnb208 rfl hh209 hd207 (fr : Fr (bl []) w0 _ Bv) fun s hO hB => ?_
   replace qS := qS.ch s.ch
   refine cl1 Fl.str 0 hO qS.u fun s hO => ?_
   obtain ⟨v8, H⟩ := H
   obtain ⟨N5, H⟩ := H
   have zz := alMakeE (n := (r158.Elems.length : Int)) (r := Rp.bool) (d := false) underlying22 ti4 (fun _ _ => rfl) rfl v8 N5 (by decide)
   obtain ⟨Gb, hal230, Gc⟩ := zz
   refine GoQA.alloc rfl rfl (hal230 rfl rfl) ?_
   intro u4 A218 lT A220 Gd Ge hd223 hnb224 hh225
   refine sgw Gd hO fun s hO => ?_
   have qT := Gc (bl [t1 Fl.str 9 (some ⟨lR, 0, none⟩) r158.Elems.length r158.Elems.length (List.replicate r158.Elems.length (([] : Str))), t2 Fl.i 31 3 (some ⟨ii, 0, none⟩) r158.Elems.length r158.Elems.length ((fun _ => (none, 0))) (List.replicate r158.Elems.length ([] : List Int)), t1 Fl.i 3 i6 kV i7 r182, .blk B162 (.cells #[.int .i64 r158.Points, .bool r158.Monoid, .slice dA r158.Gens.length dB, .slice dg r158.Elems.length dh, .slice cQ r158.Prefix.length cR, .slice dC r158.Last.length dD, .slice di r158.Right.length dj, .slice dk r158.Rules.length dm, .int .i64 r158.Done] 123 (0, 0)), .blk B154 (.cells #[.int .i64 (0 : Int), .slice none 0 0, .slice none 0 0, .slice none 0 0, .slice none 0 0, .slice none 0 0] 33 (0, 0)), .row 120 3 qM (0 + 1) qN g8, .blk B17 (.cells (cDF r13 b9 ca dR dS) 25 (0, 0)), .blk B11 (.cells #[.slice p23 r13.Letters.toNat r13.Letters.toNat, .slice qM (0 + 1) qN, .int .i64 ((0 : Int) + (r13.Final.length : Int))] 83 (0, 0)), .blk B5 (.cells #[.int .i64 (0 : Int), .slice none 0 0, .slice none 0 0, .slice none 0 0, .slice none 0 0, .slice none 0 0] 33 (0, 0))] ++ A218) u4
   refine sgn (e := .row 4 1 (some ⟨lT, 0, none⟩) r158.Elems.length r158.Elems.length Gb) Ge hO mG hw175 hnb224 rfl hh225 hd223 (fr : Fr (bl []) w0 _ u4) fun s hO hB => ?_
   replace qT := qT.ch s.ch
   refine cl1 Fl.bool 0 hO qT.u fun s hO => ?_
   refine GoQA.pure rfl (J04 underlying33 ti33 (pl := [(0, 1), (1, 1), (2, 1), (3, 1), (4, 1), (5, 1)]) (vs := [(0, .int .i64 (fG.length : Int)), (1, .slice (some ⟨ii, 0, none⟩) r158.Elems.length r158.Elems.length), (2, .slice (some ⟨lR, 0, none⟩) r158.Elems.length r158.Elems.length), (3, .slice i6 kV i7), (5, .slice (some ⟨lT, 0, none⟩) r158.Elems.length r158.Elems.length)]) (cs := #[.int .i64 (fG.length : Int), .slice (some ⟨ii, 0, none⟩) r158.Elems.length r158.Elems.length, .slice (some ⟨lR, 0, none⟩) r158.Elems.length r158.Elems.length, .slice i6 kV i7, .slice none 0 0, .slice (some ⟨lT, 0, none⟩) r158.Elems.length r158.Elems.length]) (by kernel_rfl) rfl (by kernel_rfl)) rfl rfl ?_
   refine GoQA.alloc rfl rfl (alAlloc (cs := #[.int .i64 (0 : Int), .slice none 0 0, .slice none 0 0, .slice none 0 0, .slice none 0 0, .slice none 0 0]) ti33 rfl) ?_
   intro Bw A234 N6 A236 Gf Gg hd239 hnb240 hh241
   refine sgw Gf hO fun s hO => ?_
   refine sgn (e := .blk N6 (.cells #[.int .i64 (0 : Int), .slice none 0 0, .slice none 0 0, .slice none 0 0, .slice none 0 0, .slice none 0 0] 33 (0, 0))) Gg hO mG hw175 hnb240 rfl hh241 hd239 (fr : Fr (bl []) w0 _ Bw) fun s hO hB => ?_
   refine GoQA.lastI rfl rfl fun N7 A243 Gh => ?_
   refine sgw Gh hO fun s hO => ?_
   refine sba 0 hO fun Wi s hO => ?_
   refine GoQA.nil fun N8 A247 Gi Gj => ?_
   refine sgw Gi hO fun s hO => ?_
   refine spm Gj hO fun s hO => ?_
   refine au ?_
   have hB := (fr : Fr (bl []) w0 _ N8)
   replace bV := bV.o hO
   replace af := af.o hO
   replace ao := ao.o hO
   replace ai := ai.o hO
   replace ag := ag.o hO
   replace ae := ae.o hO
   replace am := am.o hO
   replace cE := cE.o hO
   revert hO; repeat (rename Owns .. => q; clear q)
   intro hO; repeat (rename Sq .. => q; clear q)
   refine au ?_
   refine sdr [8] hO fun s hO => ?_
   refine lv [0, 2, 5, 7, 8] hO H (fun E (i8, d_252, mH) σ w => (fun Z => Lo A w0 σ w [(9, .int .i64 (i8 : Int))] Z ∧ Els (rppart) (bl Z ++ A) w g8 ((([] : List part)) ++ ([(⟨((0 : Int) + r13.Start), r13.Final, (0 : Int)⟩ : part)])) ∧ ISs (bl Z ++ A) w p23 r13.Letters.toNat fG ∧ ISs (bl Z ++ A) w dA dB r158.Gens ∧ ISs (bl Z ++ A) w dg dh r158.Elems ∧ ISi (bl Z ++ A) w cQ cR r158.Prefix ∧ ISi (bl Z ++ A) w dC dD r158.Last ∧ ISs (bl Z ++ A) w di dj r158.Right ∧ ISl (rpRule) (bl Z ++ A) w dk dm r158.Rules) (esets E [(1, t1 Fl.bool 4 (some ⟨lT, 0, none⟩) r158.Elems.length r158.Elems.length d_252), (2, t1 Fl.str 9 (some ⟨lR, 0, none⟩) r158.Elems.length r158.Elems.length mH)])) ⟨⟨agr, hO, fr⟩, bV.u, cE.u, ao.u, af.u, ag.u, ai.u, ae.u, am.u⟩ ?_
   refine fun X3 => p2 fun i8 d_252 mH => fun H hX3 σ N9 hk => d1 fun hL => d1 fun bV => d1 fun cE => d1 fun ao => d4 fun af ag ai ae am => d2 (fun hag hO hB => keep2 hk hag ?_) hL
   dsimp only [esets, sS, sZ] at hO hB bV cE ao af ag ai ae am
   dsimp only at H
   revert hO; repeat (rename Owns .. => q; clear q)
   intro hO; repeat (rename Sq .. => q; clear q)
   refine scm H (fun Bx H => ?_) fun Bx H => ?_
   ·refine au ?_
    refine drs 1 [q0, q1, q0, q0, q1, q0, q1, q0, q0, q1, q0, q1, q0, q1, q0, q0, q1, q0, q0, q2, q1, q0, q0, q3] hO fun v9 s hO => ?_
    refine sxl hO ag.u H.1 H.2.1 ?_
    refine sxl1 2 hO H.2.2.1 H.2.2.2.1 ?_
    have hle256 := t1le 2 hO H.2.2.1 H.2.2.2.1
    refine sxl hO ai.u H.2.2.2.2.1 H.2.2.2.2.2.1 ?_
    have qU := H.1
    have Wj := H.2.1
    have Wk := H.2.2.1
    have Wl := H.2.2.2.1
    have Wm := H.2.2.2.2.1
    have Wn := H.2.2.2.2.2.1
    replace H := H.2.2.2.2.2.2
    obtain ⟨wa, H⟩ := H
    refine GoQ.pure rfl (J03 rfl rfl (wrap_i64 wa)) rfl rfl ?_
    refine GoQ.pure rfl (J3M underlying3 underlying5 rfl rfl) rfl rfl ?_
    refine sbu (Fl.int .u8) 5 [(IntKind.u8.wrap ((97 : Int) + (ix r158.Last (i8 : Int))))] hO fun Oa Ob s hO => ?_
    refine op1 0 hO fun mF s hO fk => ?_
    have hle269 := J0x fk.bd
    refine GoQ.stable rfl (oldBytes 0 hO rfl fk.u underlying126 underlying5 underlying9 rfl) rfl rfl ?_
    obtain ⟨By, H⟩ := H
    refine GoQ.pure rfl (J0a rfl rfl By) rfl rfl ?_
    refine six1 3 hO H.1 H.2.1 ?_
    refine sst (u := ((ix mH (ix r158.Prefix (i8 : Int))) ++ (byt ([(IntKind.u8.wrap ((97 : Int) + (ix r158.Last (i8 : Int))))])))) 3 hO H.1 H.2.1 (fun Oc s hO => ?_) (hR := by exact fun _ _ => ⟨rfl, (lenApp By)⟩)
    refine six1 2 hO H.2.2.1 H.2.2.2.1 ?_
    refine sst (u := true) 2 hO H.2.2.1 H.2.2.2.1 fun Wo s hO => ?_
    refine sinc (natbd Bx af.bd) ?_
    refine au ?_
    refine cl1 (Fl.int .u8) 0 hO fk.u fun s hO => ?_
    refine sdr [0] hO fun s hO => ?_
    exact hX3 _ H.2.2.2.2 _ _ agr ⟨⟨agr, hO, fr⟩, bV.u, cE.u, ao.u, af.u, ag.u, ai.u, ae.u, am.u⟩
   refine sln0 ?_
   refine au ?_
   refine lv [0, 2, 5, 7, 8, 86, 87] hO (H ae.bd) (fun E (eF, d_275, qV) σ w => ∃ mI, (fun Z => Lo A w0 σ w [(88, .int .i64 (eF : Int))] Z ∧ Els (rppart) (bl Z ++ A) w g8 ((([] : List part)) ++ ([(⟨((0 : Int) + r13.Start), r13.Final, (0 : Int)⟩ : part)])) ∧ ISs (bl Z ++ A) w p23 r13.Letters.toNat fG ∧ ISs (bl Z ++ A) w dA dB r158.Gens ∧ ISs (bl Z ++ A) w dg dh r158.Elems ∧ ISi (bl Z ++ A) w cQ cR r158.Prefix ∧ ISi (bl Z ++ A) w dC dD r158.Last ∧ ISs (bl Z ++ A) w di dj r158.Right ∧ ISl (rpRule) (bl Z ++ A) w dk dm r158.Rules) (esets E [(1, t1 Fl.bool 4 (some ⟨lT, 0, none⟩) r158.Elems.length r158.Elems.length d_275), (3, t2 Fl.i 31 3 (some ⟨ii, 0, none⟩) r158.Elems.length r158.Elems.length mI qV)])) ⟨_, ⟨agr, hO, fr⟩, bV.u, cE.u, ao.u, af.u, ag.u, ai.u, ae.u, am.u⟩ ?_
   refine fun X4 => p2 fun eF d_275 qV => fun H hX4 σ Wp hk => e1 fun mI => d1 fun hL => d1 fun bV => d1 fun cE => d1 fun ao => d4 fun af ag ai ae am => d2 (fun hag hO hB => keep2 hk hag ?_) hL
   dsimp only [esets, sS, sZ] at hO hB bV cE ao af ag ai ae am
   dsimp only at H
   revert hO; repeat (rename Owns .. => q; clear q)
   intro hO; repeat (rename Sq .. => q; clear q)
   refine scm H (fun wc H => ?_) fun wc H => ?_
   ·refine sxls hO ae H.1 H.2.1 fun Wq Ws qW => ?_
    refine au ?_
    refine drs 1 [q0, q1, q0, q1, q0, q1, q0, q0, q2, q0, q0, q3] hO fun Wt s hO => ?_
    refine au ?_
    have Wu := H.1
    have Wv := H.2.1
    have Ww := H.2.2.1
    have gK := H.2.2.2.1
    refine sxb1 1 hO H.2.2.1 H.2.2.2.1 H.2.2.2.2 (fun qX H => ?_) fun qX H => ?_
    ·refine six1 1 hO H.1 H.2.1 ?_
     refine sst (u := true) 1 hO H.1 H.2.1 fun Bz s hO => ?_
     refine au ?_
     refine drs 1 [q0, q1, q0, q0, q2, q0, q3] hO fun Az s hO => ?_
     refine smk Fl.i H.2.2 hO fun Wx Od s hO => ?_
     have Wy := H.1
     have Wz := H.2.1
     replace H := H.2.2.2.2
     obtain ⟨we, H⟩ := H
     obtain ⟨nO, H⟩ := H
     refine GoQ.pure rfl (J05 underlying23 ti31 rfl rfl we (ltn (t2neq 4 hO rfl) nO) (t2some 4 hO rfl we nO)) rfl rfl ?_
     refine op1 0 hO fun R6 s hO Gk => ?_
     refine sfr 4 hO fun s hO => ?_
     refine sfr 1 hO fun s hO => ?_
     have zz := t2put (hf := Fl.i) hO Gk.u we nO
     obtain ⟨AA, BA, BB⟩ := zz
     refine GoQ.last rfl (BB underlying31 rfl ti31 (by exact rfl) (by exact rfl)) rfl rfl ?_
     refine nst BA fun s hO => ?_
     refine au ?_
     obtain ⟨nP, H⟩ := H
     obtain ⟨nQ, H⟩ := H
     refine zo (J05 underlying23 ti31 rfl rfl nP (ltn (t2neq 0 hO rfl) nQ) (t2some 0 hO rfl nP nQ)) ?_
     refine zs (t2head 0 hO rfl nP nQ underlying31 rfl rfl) ?_
     refine au ?_
     obtain ⟨wg, H⟩ := H
     obtain ⟨wh, H⟩ := H
     refine zo (J05 underlying31 ti3 rfl rfl wg wh (t2isome 0 hO rfl nP nQ wg wh)) ?_
     have zz := t2st (r := Rp.int .i64) (hf := Fl.i) rfl 0 hO rfl nP nQ wg wh (v := .int .i64 (eF : Int)) (u := (eF : Int)) rfl rfl
     obtain ⟨WA, BC, BD⟩ := zz
     refine zg (BD underlying3 rfl ti3 (by exact rfl) (by exact rfl)) ?_
     refine nst BC fun s hO => ?_
     refine au ?_
     refine lv [0, 2, 5, 7, 8, 10, 86, 87, 88] hO H (fun E (io, d_311) σ w => (fun Z => Lo A w0 σ w [(12, .int .i64 (io : Int))] Z ∧ Els (rppart) (bl Z ++ A) w g8 ((([] : List part)) ++ ([(⟨((0 : Int) + r13.Start), r13.Final, (0 : Int)⟩ : part)])) ∧ ISs (bl Z ++ A) w p23 r13.Letters.toNat fG ∧ ISs (bl Z ++ A) w dA dB r158.Gens ∧ ISs (bl Z ++ A) w dg dh r158.Elems ∧ ISi (bl Z ++ A) w cQ cR r158.Prefix ∧ ISi (bl Z ++ A) w dC dD r158.Last ∧ ISs (bl Z ++ A) w di dj r158.Right ∧ ISl (rpRule) (bl Z ++ A) w dk dm r158.Rules) (E.set 0 (t2 Fl.i 31 3 (some ⟨ii, 0, none⟩) r158.Elems.length r158.Elems.length (hup mI (eF : Int).toNat (Od, r158.Elems.length)) d_311))) ⟨⟨agr, hO, fr⟩, bV.u, cE.u, ao.u, af.u, ag.u, ai.u, ae.u, am.u⟩ ?_
     refine fun X5 => p1 fun io d_311 => fun H hX5 σ Oe hk => d1 fun hL => d1 fun bV => d1 fun cE => d1 fun ao => d4 fun af ag ai ae am => d2 (fun hag hO hB => keep2 hk hag ?_) hL
     dsimp only [esets, sS, sZ] at hO hB bV cE ao af ag ai ae am
     dsimp only at H
     revert hO; repeat (rename Owns .. => q; clear q)
     intro hO; repeat (rename Sq .. => q; clear q)
     refine scm H (fun qY H => ?_) fun qY H => ?_
     ·refine au ?_
      refine drs 1 [q0, q1, q0, q0, q1, q0, q0, q1, q0, q1, q0, q0, q1, q0, q1, q0, q0, q1, q0, q1, q0, q1, q0, q1, q0, q0, q1, q0, q1, q0, q3] hO fun vB s hO => ?_
      refine au ?_
      obtain ⟨nS, H⟩ := H
      obtain ⟨nT, H⟩ := H
      refine GoQ.pure rfl (J05 underlying23 ti31 rfl rfl nS (ltn (t2neq 0 hO rfl) nT) (t2some 0 hO rfl nS nT)) rfl rfl ?_
      refine GoQ.stable rfl (t2head 0 hO rfl nS nT underlying31 rfl rfl) rfl rfl ?_
      refine au ?_
      obtain ⟨nU, H⟩ := H
      obtain ⟨nV, H⟩ := H
      refine GoQ.pure rfl (J05 underlying23 ti31 rfl rfl nU (ltn (t2neq 0 hO rfl) nV) (t2some 0 hO rfl nU nV)) rfl rfl ?_
      refine GoQ.stable rfl (t2head 0 hO rfl nU nV underlying31 rfl rfl) rfl rfl ?_
      refine sxl hO ag.u H.1 H.2.1 ?_
      have WB := H.1
      have WC := H.2.1
      replace H := H.2.2
      obtain ⟨wi, H⟩ := H
      obtain ⟨wj, H⟩ := H
      refine GoQ.pure rfl (J05 underlying31 ti3 rfl rfl wi wj (t2isome 0 hO rfl nU nV wi wj)) rfl rfl ?_
      refine GoQ.stable rfl (t2Int 0 hO rfl nU nV wi wj underlying3 rfl rfl) rfl rfl ?_
      refine sxls hO ae.u H.1 H.2.1 fun WD WE Gl => ?_
      refine sxl hO ai.u H.2.2.1 H.2.2.2.1 ?_
      refine sxl hO Gl.u H.2.2.2.2.1 H.2.2.2.2.2.1 ?_
      have WF := H.1
      have BE := H.2.1
      have WG := H.2.2.1
      have WH := H.2.2.2.1
      have WI := H.2.2.2.2.1
      have WJ := H.2.2.2.2.2.1
      replace H := H.2.2.2.2.2.2
      obtain ⟨nW, H⟩ := H
      obtain ⟨wk, H⟩ := H
      refine GoQ.pure rfl (J05 underlying31 ti3 rfl rfl nW wk (t2isome 0 hO rfl nS nT nW wk)) rfl rfl ?_
      have zz := t2st (r := Rp.int .i64) (hf := Fl.i) rfl 0 hO rfl nS nT nW wk (v := .int .i64 (ix (ix r158.Right (ix (ix d_311 (eF : Int)) (ix r158.Prefix (io : Int)))) (ix r158.Last (io : Int)))) (u := (ix (ix r158.Right (ix (ix d_311 (eF : Int)) (ix r158.Prefix (io : Int)))) (ix r158.Last (io : Int)))) rfl rfl
      obtain ⟨BG, BH, BJ⟩ := zz
      refine GoQ.last rfl (BJ underlying3 rfl ti3 (by exact rfl) (by exact rfl)) rfl rfl ?_
      refine nst BH fun s hO => ?_
      refine sinc (natbd qY af.bd) ?_
      refine au ?_
      exact hX5 _ H _ _ agr ⟨⟨agr, hO, fr⟩, bV.u, cE.u, ao.u, af.u, ag.u, ai.u, ae.u, am.u⟩
     refine sinc (natbd wc ae.bd) ?_
     refine au ?_
     refine sfr 9 hO fun s hO => ?_
     refine sfr 9 hO fun s hO => ?_
     refine sfr 9 hO fun s hO => ?_
     refine sfr 9 hO fun s hO => ?_
     refine sfr 9 hO fun s hO => ?_
     refine sfr 9 hO fun s hO => ?_
     refine sfr 6 hO fun s hO => ?_
     refine sfr 9 hO fun s hO => ?_
     refine sfr 9 hO fun s hO => ?_
     refine sfr 9 hO fun s hO => ?_
     exact hX4 _ H _ _ agr ⟨_, ⟨agr, hO, fr⟩, bV.u, cE.u, ao.u, af.u, ag.u, ai.u, ae.u, am.u⟩
    refine au ?_
    refine zcq rfl (J01 body102 rfl (J3v hO.lt qW.u H)) fun _ Og => e1 fun r336 => sq0 hO fun s hO => fun H => ?_
    refine six1 1 hO H.1 H.2.1 ?_
    refine sst (u := r336) 1 hO H.1 H.2.1 fun WK s hO => ?_
    refine au ?_
    refine drs 1 [q0, q1, q0, q0, q2, q0, q3] hO fun M8 s hO => ?_
    refine smk Fl.i H.2.2 hO fun AI AJ s hO => ?_
    have WL := H.1
    have WM := H.2.1
    replace H := H.2.2.2.2
    obtain ⟨wm, H⟩ := H
    obtain ⟨nX, H⟩ := H
    refine GoQ.pure rfl (J05 underlying23 ti31 rfl rfl wm (ltn (t2neq 4 hO rfl) nX) (t2some 4 hO rfl wm nX)) rfl rfl ?_
    refine op1 0 hO fun R7 s hO Gm => ?_
    refine sfr 4 hO fun s hO => ?_
    refine sfr 1 hO fun s hO => ?_
    have zz := t2put (hf := Fl.i) hO Gm.u wm nX
    obtain ⟨WN, BK, BL⟩ := zz
    refine GoQ.last rfl (BL underlying31 rfl ti31 (by exact rfl) (by exact rfl)) rfl rfl ?_
    refine nst BK fun s hO => ?_
    refine au ?_
    obtain ⟨lU, H⟩ := H
    obtain ⟨kh, H⟩ := H
    refine zo (J05 underlying23 ti31 rfl rfl lU (ltn (t2neq 0 hO rfl) kh) (t2some 0 hO rfl lU kh)) ?_
    refine zs (t2head 0 hO rfl lU kh underlying31 rfl rfl) ?_
    refine au ?_
    obtain ⟨wn, H⟩ := H
    obtain ⟨wo, H⟩ := H
    refine zo (J05 underlying31 ti3 rfl rfl wn wo (t2isome 0 hO rfl lU kh wn wo)) ?_
    have zz := t2st (r := Rp.int .i64) (hf := Fl.i) rfl 0 hO rfl lU kh wn wo (v := .int .i64 (eF : Int)) (u := (eF : Int)) rfl rfl
    obtain ⟨Oh, BM, BN⟩ := zz
    refine zg (BN underlying3 rfl ti3 (by exact rfl) (by exact rfl)) ?_
    refine nst BM fun s hO => ?_
    refine au ?_
    refine lv [0, 2, 5, 7, 8, 10, 86, 87, 88] hO H (fun E (ip, mJ) σ w => (fun Z => Lo A w0 σ w [(12, .int .i64 (ip : Int))] Z ∧ Els (rppart) (bl Z ++ A) w g8 ((([] : List part)) ++ ([(⟨((0 : Int) + r13.Start), r13.Final, (0 : Int)⟩ : part)])) ∧ ISs (bl Z ++ A) w p23 r13.Letters.toNat fG ∧ ISs (bl Z ++ A) w dA dB r158.Gens ∧ ISs (bl Z ++ A) w dg dh r158.Elems ∧ ISi (bl Z ++ A) w cQ cR r158.Prefix ∧ ISi (bl Z ++ A) w dC dD r158.Last ∧ ISs (bl Z ++ A) w di dj r158.Right ∧ ISl (rpRule) (bl Z ++ A) w dk dm r158.Rules) (E.set 0 (t2 Fl.i 31 3 (some ⟨ii, 0, none⟩) r158.Elems.length r158.Elems.length (hup mI (eF : Int).toNat (AJ, r158.Elems.length)) mJ))) ⟨⟨agr, hO, fr⟩, bV.u, cE.u, ao.u, af.u, ag.u, ai.u, ae.u, am.u⟩ ?_
    refine fun X6 => p1 fun ip mJ => fun H hX6 σ WO hk => d1 fun hL => d1 fun bV => d1 fun cE => d1 fun ao => d4 fun af ag ai ae am => d2 (fun hag hO hB => keep2 hk hag ?_) hL
    dsimp only [esets, sS, sZ] at hO hB bV cE ao af ag ai ae am
    dsimp only at H
    revert hO; repeat (rename Owns .. => q; clear q)
    intro hO; repeat (rename Sq .. => q; clear q)
    refine scm H (fun BO H => ?_) fun BO H => ?_
    ·refine au ?_
     refine drs 1 [q0, q1, q0, q0, q1, q0, q0, q1, q0, q1, q0, q0, q1, q0, q1, q0, q0, q1, q0, q1, q0, q1, q0, q1, q0, q0, q1, q0, q1, q0, q3] hO fun WP s hO => ?_
     refine au ?_
     obtain ⟨nY, H⟩ := H
     obtain ⟨n9, H⟩ := H
     refine GoQ.pure rfl (J05 underlying23 ti31 rfl rfl nY (ltn (t2neq 0 hO rfl) n9) (t2some 0 hO rfl nY n9)) rfl rfl ?_
     refine GoQ.stable rfl (t2head 0 hO rfl nY n9 underlying31 rfl rfl) rfl rfl ?_
     refine au ?_
     obtain ⟨oc, H⟩ := H
     obtain ⟨od, H⟩ := H
     refine GoQ.pure rfl (J05 underlying23 ti31 rfl rfl oc (ltn (t2neq 0 hO rfl) od) (t2some 0 hO rfl oc od)) rfl rfl ?_
     refine GoQ.stable rfl (t2head 0 hO rfl oc od underlying31 rfl rfl) rfl rfl ?_
     refine sxl hO ag.u H.1 H.2.1 ?_
     have WQ := H.1
     have WR := H.2.1
     replace H := H.2.2
     obtain ⟨wq, H⟩ := H
     obtain ⟨wr, H⟩ := H
     refine GoQ.pure rfl (J05 underlying31 ti3 rfl rfl wq wr (t2isome 0 hO rfl oc od wq wr)) rfl rfl ?_
     refine GoQ.stable rfl (t2Int 0 hO rfl oc od wq wr underlying3 rfl rfl) rfl rfl ?_
     refine sxls hO ae.u H.1 H.2.1 fun WS WT Gn => ?_
     refine sxl hO ai.u H.2.2.1 H.2.2.2.1 ?_
     refine sxl hO Gn.u H.2.2.2.2.1 H.2.2.2.2.2.1 ?_
     have WU := H.1
     have q8 := H.2.1
     have WW := H.2.2.1
     have WX := H.2.2.2.1
     have WY := H.2.2.2.2.1
     have W0 := H.2.2.2.2.2.1
     replace H := H.2.2.2.2.2.2
     obtain ⟨ws, H⟩ := H
     obtain ⟨wt, H⟩ := H
     refine GoQ.pure rfl (J05 underlying31 ti3 rfl rfl ws wt (t2isome 0 hO rfl nY n9 ws wt)) rfl rfl ?_
     have zz := t2st (r := Rp.int .i64) (hf := Fl.i) rfl 0 hO rfl nY n9 ws wt (v := .int .i64 (ix (ix r158.Right (ix (ix mJ (eF : Int)) (ix r158.Prefix (ip : Int)))) (ix r158.Last (ip : Int)))) (u := (ix (ix r158.Right (ix (ix mJ (eF : Int)) (ix r158.Prefix (ip : Int)))) (ix r158.Last (ip : Int)))) rfl rfl
     obtain ⟨W1, BP, BQ⟩ := zz
     refine GoQ.last rfl (BQ underlying3 rfl ti3 (by exact rfl) (by exact rfl)) rfl rfl ?_
     refine nst BP fun s hO => ?_
     refine sinc (natbd BO af.bd) ?_
     refine au ?_
     exact hX6 _ H _ _ agr ⟨⟨agr, hO, fr⟩, bV.u, cE.u, ao.u, af.u, ag.u, ai.u, ae.u, am.u⟩
    refine sinc (natbd wc ae.bd) ?_
    refine au ?_
    refine sfr 9 hO fun s hO => ?_
    refine sfr 9 hO fun s hO => ?_
    refine sfr 9 hO fun s hO => ?_
    refine sfr 9 hO fun s hO => ?_
    refine sfr 9 hO fun s hO => ?_
    refine sfr 9 hO fun s hO => ?_
    refine sfr 6 hO fun s hO => ?_
    refine sfr 9 hO fun s hO => ?_
    refine sfr 9 hO fun s hO => ?_
    refine sfr 9 hO fun s hO => ?_
    exact hX4 _ H _ _ agr ⟨_, ⟨agr, hO, fr⟩, bV.u, cE.u, ao.u, af.u, ag.u, ai.u, ae.u, am.u⟩
   refine au ?_
   refine zo (J0M underlying81 rfl (Els.neqW bV.u hO 7 rfl)) ?_
   obtain ⟨wu, H⟩ := H
   obtain ⟨Oi, H⟩ := H
   have zz := t2makeS (m := (((([] : List part)) ++ ([(⟨((0 : Int) + r13.Start), r13.Final, (0 : Int)⟩ : part)])).length : Int)) (e' := 4) Fl.bool underlying40 ti22 hO wu Oi (by decide)
   obtain ⟨Oj, ww, BR, R8, BS, hz396⟩ := zz
   refine zg (BS rfl rfl) ?_
   refine nst BR fun s hO => ?_
   refine au ?_
   refine zo (J0M underlying81 rfl (Els.neqW bV.u hO 8 rfl)) ?_
   refine au ?_
   refine sdr [9] hO fun s hO => ?_
   refine lv [2, 5, 7, 8, 13, 162, 163] hO H (fun E (gO, q9) σ w => ∃ rh, (fun Z => Lo A w0 σ w [(164, .int .i64 (gO : Int))] Z ∧ Els (rppart) (bl Z ++ A) w g8 ((([] : List part)) ++ ([(⟨((0 : Int) + r13.Start), r13.Final, (0 : Int)⟩ : part)])) ∧ ISs (bl Z ++ A) w dA dB r158.Gens ∧ ISs (bl Z ++ A) w dg dh r158.Elems ∧ ISi (bl Z ++ A) w cQ cR r158.Prefix ∧ ISi (bl Z ++ A) w dC dD r158.Last ∧ ISs (bl Z ++ A) w di dj r158.Right ∧ ISl (rpRule) (bl Z ++ A) w dk dm r158.Rules) (E.set 0 (t2 Fl.bool 22 4 ww (((([] : List part)) ++ ([(⟨((0 : Int) + r13.Start), r13.Final, (0 : Int)⟩ : part)])).length) (((([] : List part)) ++ ([(⟨((0 : Int) + r13.Start), r13.Final, (0 : Int)⟩ : part)])).length) rh q9))) ⟨_, ⟨agr, hO, fr⟩, bV.u, ao.u, af.u, ag.u, ai.u, ae.u, am.u⟩ ?_
   refine fun X7 => p1 fun gO q9 => fun H hX7 σ W2 hk => e1 fun rh => d1 fun hL => d1 fun bV => d1 fun ao => d4 fun af ag ai ae am => d2 (fun hag hO hB => keep2 hk hag ?_) hL
   dsimp only [esets, sS, sZ] at hO hB bV ao af ag ai ae am
   dsimp only at H
   revert hO; repeat (rename Owns .. => q; clear q)
   intro hO; repeat (rename Sq .. => q; clear q)
   refine scm H (fun BT H => ?_) fun BT H => ?_
   ·refine au ?_
    obtain ⟨wz, H⟩ := H
    obtain ⟨wA, H⟩ := H
    refine zo (J05 underlying81 ti120 rfl rfl wz (ltn (Els.neqW bV hO 8 rfl) wA) (Els.psomeW bV hO 8 rfl wz wA)) ?_
    have Gp := oldAggR 8 hO rfl (r := rppart) bV wz wA
    obtain ⟨R9, Gq, hR407, BU⟩ := Gp
    replace hR407 := J94 Gq hR407
    obtain ⟨Ok, Ol, hcs409, iG⟩ := hR407
    subst hcs409
    refine zs (BU underlying120 rfl ti120 rfl) ?_
    refine sal hO fun Om B414 s hO => ?_
    refine sba 0 hO fun W3 s hO => ?_
    refine smk Fl.bool H hO fun W4 Oo s hO => ?_
    replace H := H.2.2
    obtain ⟨wB, H⟩ := H
    obtain ⟨wC, H⟩ := H
    refine zo (J05 underlying40 ti22 rfl rfl wB (ltn (t2neq 2 hO rfl) wC) (t2some 2 hO rfl wB wC)) ?_
    refine op1 0 hO fun Sa s hO Gr => ?_
    refine sfr 2 hO fun s hO => ?_
    refine sfr 1 hO fun s hO => ?_
    have zz := t2put (hf := Fl.bool) hO Gr.u wB wC
    obtain ⟨W5, BV, BW⟩ := zz
    refine zg (BW underlying22 rfl ti22 (by exact rfl) (by exact rfl)) ?_
    refine nst BV fun s hO => ?_
    refine sln0 ?_
    refine au ?_
    refine lv [2, 5, 7, 8, 13, 14, 15, 162, 163, 164, 175, 176] hO H (fun E (tN, yN) σ w => (fun Z => Lo A w0 σ w [(177, .int .i64 (tN : Int))] Z ∧ Els (rppart) (bl Z ++ A) w g8 ((([] : List part)) ++ ([(⟨((0 : Int) + r13.Start), r13.Final, (0 : Int)⟩ : part)])) ∧ ISs (bl Z ++ A) w dA dB r158.Gens ∧ ISs (bl Z ++ A) w dg dh r158.Elems ∧ ISi (bl Z ++ A) w cQ cR r158.Prefix ∧ ISi (bl Z ++ A) w dC dD r158.Last ∧ ISs (bl Z ++ A) w di dj r158.Right ∧ ISl (rpRule) (bl Z ++ A) w dk dm r158.Rules ∧ ISb (bl Z ++ A) w Ok Ol ((ix ((([] : List part)) ++ ([(⟨((0 : Int) + r13.Start), r13.Final, (0 : Int)⟩ : part)])) (gO : Int)).final)) (E.set 0 (t2 Fl.bool 22 4 ww (((([] : List part)) ++ ([(⟨((0 : Int) + r13.Start), r13.Final, (0 : Int)⟩ : part)])).length) (((([] : List part)) ++ ([(⟨((0 : Int) + r13.Start), r13.Final, (0 : Int)⟩ : part)])).length) (hup rh (gO : Int).toNat (Oo, r158.Elems.length)) yN))) ⟨⟨agr, hO, fr⟩, bV.u, ao.u, af.u, ag.u, ai.u, ae.u, am.u, iG.u⟩ ?_
    refine fun X8 => p1 fun tN yN => fun H hX8 σ W6 hk => d1 fun hL => d1 fun bV => d1 fun ao => d1 fun af => d4 fun ag ai ae am iG => d2 (fun hag hO hB => keep2 hk hag ?_) hL
    dsimp only [esets, sS, sZ] at hO hB bV ao af ag ai ae am iG
    dsimp only at H
    revert hO; repeat (rename Owns .. => q; clear q)
    intro hO; repeat (rename Sq .. => q; clear q)
    refine scm H (fun BX H => ?_) fun BX H => ?_
    ·refine sxls hO af H.1 H.2.1 fun W7 W8 rk => ?_
     refine au ?_
     refine drs 1 [q0, q0, q0, q1, q0, q1, q0, q2, q0, q3] hO fun W9 s hO => ?_
     refine au ?_
     have Xa := H.1
     have Xb := H.2.1
     replace H := H.2.2
     obtain ⟨oe, H⟩ := H
     obtain ⟨og, H⟩ := H
     refine GoQ.pure rfl (J05 underlying40 ti22 rfl rfl oe (ltn (t2neq 0 hO rfl) og) (t2some 0 hO rfl oe og)) rfl rfl ?_
     refine GoQ.stable rfl (t2head 0 hO rfl oe og underlying22 rfl rfl) rfl rfl ?_
     refine sag 1 hO ?_
     refine au ?_
     refine zcq rfl (J01 body103 rfl (J36 (p := (⟨((ix ((([] : List part)) ++ ([(⟨((0 : Int) + r13.Start), r13.Final, (0 : Int)⟩ : part)])) (gO : Int)).start), (ix ((([] : List part)) ++ ([(⟨((0 : Int) + r13.Start), r13.Final, (0 : Int)⟩ : part)])) (gO : Int)).final, ((ix ((([] : List part)) ++ ([(⟨((0 : Int) + r13.Start), r13.Final, (0 : Int)⟩ : part)])) (gO : Int)).shift)⟩ : part)) hO.lt iG.u rk.u H)) fun _ Xc => e1 fun BY => sq0 hO fun s hO => fun H => ?_
     obtain ⟨wD, H⟩ := H
     obtain ⟨wE, H⟩ := H
     refine GoQ.pure rfl (J05 underlying22 ti4 rfl rfl wD wE (t2isome 0 hO rfl oe og wD wE)) rfl rfl ?_
     have zz := t2st (r := Rp.bool) (hf := Fl.bool) rfl 0 hO rfl oe og wD wE (v := .bool BY) (u := BY) rfl rfl
     obtain ⟨Oq, B1, B3⟩ := zz
     refine GoQ.last rfl (B3 underlying4 rfl ti4 (by exact rfl) (by exact rfl)) rfl rfl ?_
     refine nst B1 fun s hO => ?_
     refine sinc (natbd BX af.bd) ?_
     refine au ?_
     exact hX8 _ H _ _ agr ⟨⟨agr, hO, fr⟩, bV.u, ao.u, af.u, ag.u, ai.u, ae.u, am.u, iG.u⟩
    refine sinc (natbd BT bV.bd) ?_
    refine au ?_
    refine sdr [1] hO fun s hO => ?_
    exact hX7 _ H _ _ agr ⟨_, ⟨agr, hO, fr⟩, bV.u, ao.u, af.u, ag.u, ai.u, ae.u, am.u⟩
   refine sag 1 hO ?_
   refine sba 7 hO fun Xd s hO => ?_
   refine au ?_
   refine Go1.retC3V func63 rfl rfl (rlb 7 hO) (show _ = .slice ww (((([] : List part)) ++ ([(⟨((0 : Int) + r13.Start), r13.Final, (0 : Int)⟩ : part)])).length) (((([] : List part)) ++ ([(⟨((0 : Int) + r13.Start), r13.Final, (0 : Int)⟩ : part)])).length) from rfl) (show _ = .int .i64 (0 : Int) from rfl) ?_
   refine hR152 _ _ ?_
   refine sal hO fun Os B448 s hO => ?_
   refine sba 0 hO fun Xe s hO => ?_
   refine au ?_
   refine zo (fun w => opB (J6x rfl rfl w) (ndT (by decide))) ?_
   refine au ?_
   obtain ⟨ro, H⟩ := H
   obtain ⟨rq, H⟩ := H
   refine zo (J05 underlying40 ti22 rfl rfl ro (ltn (t2neq 1 hO rfl) rq) (t2some 1 hO rfl ro rq)) ?_
   refine zs (t2head 1 hO rfl ro rq underlying22 rfl rfl) ?_
   refine sbs 0 hO fun Xf s hO => ?_
   refine sag 0 hO ?_
   refine sba 10 hO fun Xg s hO => ?_
   refine au ?_
   refine sfz2 5 hO fun s hO rs yO => ?_
   refine sfz 4 hO fun s hO Gs Gt => ?_
   refine sfz 4 hO fun s hO Gz GA => ?_
   have GB := t2lendIn 1 hO rfl ro rq
   refine sfz2 1 hO fun s hO Sb Sc => ?_
   refine sfz 2 hO fun s hO GC GD => ?_
   refine Go1.retC2 func19 rfl rfl (rlb 5 hO) ⟨((⟨(fG.length : Int), qV, mH, r182, (ix q9 (0 : Int)), d_275⟩ : Syntactic)), _, _, _, _, _, _, _, _, _, _, _, ?_, frs, rs.r, Gs.r, Gz.r, GB.r, GC.r, H⟩
   exact (congrArg (fun l => Value.tuple (List.toArray l)) (J02 (congrArg (fun l => Value.agg (List.toArray l)) (J02 rfl (J02 (congrArg (fun nn => Value.slice (some ⟨ii, 0, none⟩) nn r158.Elems.length) yO) (J02 (congrArg (fun nn => Value.slice (some ⟨lR, 0, none⟩) nn r158.Elems.length) Gt) (J02 (congrArg (fun nn => Value.slice i6 nn i7) GA) (J02 rfl (J02 (congrArg (fun nn => Value.slice (some ⟨lT, 0, none⟩) nn r158.Elems.length) GD) rfl))))))) (J02 rfl rfl)))
  refine au ?_
  refine zo (J04 underlying33 ti33 (pl := [(0, 1), (1, 1), (2, 1), (3, 1), (4, 1), (5, 1)]) (vs := []) (cs := #[.int .i64 (0 : Int), .slice none 0 0, .slice none 0 0, .slice none 0 0, .slice none 0 0, .slice none 0 0]) (by kernel_rfl) rfl (by kernel_rfl)) ?_
  refine sba 1 hO fun Xh s hO => ?_
  refine au ?_
  refine Go1.retC3V func63 rfl rfl (rlb 1 hO) (show _ = .slice none 0 0 from rfl) (show _ = .int .i64 r159 from rfl) ?_
  refine hR152 _ _ ?_
  refine sal hO fun Xi B468 s hO => ?_
  refine sba 0 hO fun Ot s hO => ?_
  refine au ?_
  refine zo (fun w => opB (J6x rfl rfl w) (ndF Bu)) ?_
  refine au ?_
  refine zo (J04 underlying33 ti33 (pl := [(0, 1), (1, 1), (2, 1), (3, 1), (4, 1), (5, 1)]) (vs := []) (cs := #[.int .i64 (0 : Int), .slice none 0 0, .slice none 0 0, .slice none 0 0, .slice none 0 0, .slice none 0 0]) (by kernel_rfl) rfl (by kernel_rfl)) ?_
  refine sba 6 hO fun Xj s hO => ?_
  refine au ?_
  refine Go1.retC2 func19 rfl rfl (rlb 6 hO) ⟨((⟨(0 : Int), ([] : List (List Int)), ([] : List Str), ([] : List Int), ([] : List Bool), ([] : List Bool)⟩ : Syntactic)), _, _, _, _, _, _, _, _, _, _, _, er, frs, (ISl.null _ _ _), (ISl.null _ _ _), (ISl.null _ _ _), (ISl.null _ _ _), (ISl.null _ _ _), H⟩
 refine au ?_
 refine zo (J04 underlying33 ti33 (pl := [(0, 1), (1, 1), (2, 1), (3, 1), (4, 1), (5, 1)]) (vs := []) (cs := #[.int .i64 (0 : Int), .slice none 0 0, .slice none 0 0, .slice none 0 0, .slice none 0 0, .slice none 0 0]) (by kernel_rfl) rfl (by kernel_rfl)) ?_
 refine sba 0 hO fun Xk s hO => ?_
 refine au ?_
 refine Go1.retC2 func19 rfl rfl (rlb 0 hO) ⟨((⟨(0 : Int), ([] : List (List Int)), ([] : List Str), ([] : List Int), ([] : List Bool), ([] : List Bool)⟩ : Syntactic)), _, _, _, _, _, _, _, _, _, _, _, er, frs, (ISl.null _ _ _), (ISl.null _ _ _), (ISl.null _ _ _), (ISl.null _ _ _), (ISl.null _ _ _), H⟩
theorem body48 : Body prog 48 := ⟨f48, func48, rfl, by kernel_rfl⟩
theorem J4l {p_a p_b : Option Addr} {c_a c_b : Nat} {a b : List Str} (hA : HA0 A w0) (h_a : ISt A w0 p_a c_a a) (h_b : ISt A w0 p_b c_b b) {K : Bool → Prop} (H : J2z a b K) :
    CallsV prog 48 #[.slice p_a a.length c_a, .slice p_b b.length c_b] w0 (fun v w' => ∃ (r0 : Bool), v = .bool r0 ∧ Same w0 w' ∧ K r0) := by
 refine cal hA func48 ntmps48 fun hO hB => ?_
 unfold J2z at H
 refine sln0 ?_
 refine sln0 ?_
 refine scm ((H h_a.bd) h_b.bd) (fun h1 H => ?_) fun h1 H => ?_
 ·refine sln0 ?_
  refine au ?_
  refine lv [0, 1, 12] hO H (fun E k1_3 σ w => Lo A w0 σ w [(13, .int .i64 (k1_3 : Int))] []) ⟨agr, hO, fr⟩ ?_
  refine fun X1 => fun k1_3 => fun H hX1 σ w2 hk => d2 fun hag hO hB => keep2 hk hag ?_
  refine scm H (fun h4 H => ?_) fun h4 H => ?_
  ·refine au ?_
   refine drs 0 [q0, q0, q0, q1, q0, q0, q0, q1, q0] hO fun w5 s hO => ?_
   refine sxl hO h_a.u H.1 H.2.1 ?_
   have hle6 := ISl.J8B h_a H.1 H.2.1
   refine sxl hO h_b.u H.2.2.1 H.2.2.2.1 ?_
   have hle7 := ISl.J8B h_b H.2.2.1 H.2.2.2.1
   have h8 := H.1
   have h9 := H.2.1
   have h10 := H.2.2.1
   have h11 := H.2.2.2.1
   refine scm H.2.2.2.2 (fun h12 H => ?_) fun h12 H => ?_
   ·refine sinc (natbd h4 h_a.bd) ?_
    refine au ?_
    exact hX1 _ H _ _ agr ⟨agr, hO, fr⟩
   refine au ?_
   refine Go1.ret1 func48 rfl ⟨_, er, frs, H⟩
  refine au ?_
  refine Go1.ret1 func48 rfl ⟨_, er, frs, H⟩
 refine au ?_
 refine Go1.ret1 func48 rfl ⟨_, er, frs, H⟩
theorem body18 : Body prog 18 := ⟨f18, func18, rfl, by kernel_rfl⟩
theorem J1f (hA : HA0 A w0) {K : Bool → Prop} (H : law21_awake  K) :
    CallsV prog 18 #[] w0 (fun v w' => ∃ (r0 : Bool), v = .bool r0 ∧ Same w0 w' ∧ K r0) := by
 refine cal hA func18 ntmps18 fun hO hB => ?_
 unfold law21_awake at H
 refine au ?_
 refine zcr (J01 body60 rfl (J7m hO.lt H)) fun _ w2 => e4 fun r1 GE GF K7 => e1 fun K8 => sc0 hO fun s hO => d2 fun ru tO H => ?_
 refine zcr (J01 body19 rfl (J17 hO.lt ru tO H)) fun _ w5 => e4 fun r3 r4 GG GH => e4 fun GJ GK DP DR => e4 fun DS DT K9 La => sc0 hO fun s hO => d1 fun GL => d4 fun rv DU e8 Lb H => ?_
 refine sal hO fun w6 B7 s hO => ?_
 refine sba 0 hO fun w9 s hO => ?_
 refine scm H (fun h10 H => ?_) fun h10 H => ?_
 ·refine sbu Fl.str 9 [(([] : Str)), (([97] : Str)), (([98] : Str)), (([97, 97] : Str)), (([97, 98] : Str)), (([98, 97] : Str))] hO (fun w11 p12 s hO => ?_) (hE := fun _ _ => (Els.cons rfl ⟨rfl, (by decide)⟩ (Els.cons rfl ⟨rfl, (by decide)⟩ (Els.cons rfl ⟨rfl, (by decide)⟩ (Els.cons rfl ⟨rfl, (by decide)⟩ (Els.cons rfl ⟨rfl, (by decide)⟩ (Els.cons rfl ⟨rfl, (by decide)⟩ (Els.nil _ _ _) (by simp [mx])) (by simp [mx])) (by simp [mx])) (by simp [mx])) (by simp [mx])) (by simp [mx])))
  have Ou := t1lend 0 hO
  have ig := t1n 0 hO
  have hOc16 := hO.drop 0
  refine zcr (J01 body48 (by rw [ig]; exact rfl) (J4l hOc16.lt (rv.u.ch (Owns.J0c _ _ 0)) Ou H)) fun _ w18 => e1 fun r17 => sc0 hO fun s hO => fun H => ?_
  refine au ?_
  cases r17
  ·refine au ?_
   refine Go1.ret1 func18 rfl ⟨_, er, frs, (iF H)⟩
  refine sln0 ?_
  refine scm ((iT H) e8.bd) (fun h19 H => ?_) fun h19 H => ?_
  ·refine six e8 H.1 H.2.1 ?_
   have h20 := H.1
   have h21 := H.2.1
   refine sbd hO e8.u H.1 H.2.1 H.2.2 (fun h22 H => ?_) fun h22 H => ?_
   ·refine six e8 H.1 H.2.1 ?_
    have h23 := H.1
    have h24 := H.2.1
    refine sbd hO e8.u H.1 H.2.1 H.2.2 (fun h25 H => ?_) fun h25 H => ?_
    ·refine au ?_
     refine Go1.ret1 func18 rfl ⟨_, er, frs, H⟩
    refine au ?_
    refine Go1.ret1 func18 rfl ⟨_, er, frs, H⟩
   refine au ?_
   refine Go1.ret1 func18 rfl ⟨_, er, frs, H⟩
  refine au ?_
  refine Go1.ret1 func18 rfl ⟨_, er, frs, H⟩
 refine au ?_
 refine Go1.ret1 func18 rfl ⟨_, er, frs, H⟩
theorem body111 : Body prog 111 := ⟨f111, func111, rfl, by kernel_rfl⟩
theorem J3u {p_l : Option Addr} {c_l : Nat} {l : List Int} (hA : HA0 A w0) (h_l : ISi A w0 p_l c_l l) {K : List Int → Prop} (H : J1p l K) :
    CallsV prog 111 #[.slice p_l l.length c_l] w0 (fun v w' => ∃ (r0 : List Int), ∃ (p_r0 : Option Addr), ∃ (c_r0 : Nat), v = .slice p_r0 r0.length c_r0 ∧ Same w0 w' ∧ ISi A w' p_r0 c_r0 r0 ∧ K r0) := by
 refine cal hA func111 ntmps111 fun hO hB => ?_
 unfold J1p at H
 refine au ?_
 have zz := omakeMap (fun a : Int => Value.int .i64 a) (fun a : Int => Value.int .i64 a) hO
 obtain ⟨w1, B2, Ov, hs4, Ow⟩ := zz
 refine zg Ow ?_
 refine nst Ov fun s hO => ?_
 refine sln0 ?_
 refine smk Fl.i (H h_l.bd) hO fun w7 p8 s hO => ?_
 refine sln0 ?_
 refine au ?_
 refine lv [3, 4, 13, 14] hO (H h_l.bd).2.2 (fun E (k1_11, out1_12, jr) σ w => Lo A w0 σ w [(15, .int .i64 (k1_11 : Int))] [t1 Fl.i 3 p8 l.length l.length out1_12, .any (mapE (fun a : Int => Value.int .i64 a) (fun a : Int => Value.int .i64 a) B2 jr)]) ⟨agr, hO, fr⟩ ?_
 refine fun X1 => p2 fun k1_11 out1_12 jr => fun H hX1 σ w10 hk => d2 fun hag hO hB => keep2 hk hag ?_
 dsimp only at H
 revert hO; repeat (rename Owns .. => q; clear q)
 intro hO; repeat (rename Sq .. => q; clear q)
 refine scm H (fun h14 H => ?_) fun h14 H => ?_
 ·refine sxl hO h_l.u H.1 H.2.1 ?_
  refine au ?_
  have h15 := H.1
  have h16 := H.2.1
  replace H := H.2.2
  by_cases h17 : mhas jr ((ix l (k1_11 : Int))) = true
  ·refine zs (olookT (a := (ix l (k1_11 : Int))) (MK.int underlying3) 1 hO rfl underlying168 rfl rfl h17) ?_
   refine six1 0 hO (ifp h17 H).1 (ifp h17 H).2.1 ?_
   refine sst (u := (mgt jr ((ix l (k1_11 : Int))))) 0 hO (ifp h17 H).1 (ifp h17 H).2.1 fun w18 s hO => ?_
   refine sinc (natbd h14 h_l.bd) ?_
   refine au ?_
   exact hX1 _ (ifp h17 H).2.2 _ _ agr ⟨agr, hO, fr⟩
  refine zs (olookF (a := (ix l (k1_11 : Int))) (MK.int underlying3) 1 hO rfl underlying168 ti3 rfl rfl h17) ?_
  refine au ?_
  refine zs (omapLen 1 hO rfl underlying168 rfl) ?_
  refine au ?_
  have zz := omapUpd (MK.int underlying3) 1 hO rfl underlying168 (ix l (k1_11 : Int)) (jr.length : Int)
  obtain ⟨w19, pF, GM⟩ := zz
  refine zg (GM (by exact rfl) (by exact rfl) (by exact rfl)) ?_
  refine nst pF fun s hO => ?_
  refine six1 0 hO (ifn h17 H).1 (ifn h17 H).2.1 ?_
  refine sst (u := (jr.length : Int)) 0 hO (ifn h17 H).1 (ifn h17 H).2.1 fun w22 s hO => ?_
  refine sinc (natbd h14 h_l.bd) ?_
  refine au ?_
  exact hX1 _ (ifn h17 H).2.2 _ _ agr ⟨agr, hO, fr⟩
 refine au ?_
 refine sfz 0 hO fun s hO Ox Oy => ?_
 refine Go1.ret1 func111 rfl ⟨_, _, _, ?_, frs, Ox.r, H⟩
 exact (congrArg (fun nn => Value.slice p8 nn l.length) Oy)
theorem body112 : Body prog 112 := ⟨f112, func112, rfl, by kernel_rfl⟩
theorem J6o {p_p p_q : Option Addr} {c_p c_q : Nat} {p q : List Int} (hA : HA0 A w0) (h_p : ISi A w0 p_p c_p p) (h_q : ISi A w0 p_q c_q q) {K : List Int → Prop} (H : J3q p q K) :
    CallsV prog 112 #[.slice p_p p.length c_p, .slice p_q q.length c_q] w0 (fun v w' => ∃ (r0 : List Int), ∃ (p_r0 : Option Addr), ∃ (c_r0 : Nat), v = .slice p_r0 r0.length c_r0 ∧ Same w0 w' ∧ ISi A w' p_r0 c_r0 r0 ∧ K r0) := by
 refine cal hA func112 ntmps112 fun hO hB => ?_
 unfold J3q at H
 refine sln0 ?_
 refine smk Fl.i (H h_p.bd) hO fun w1 p4 s hO => ?_
 refine sln0 ?_
 refine au ?_
 refine lv [0, 1, 5, 11] hO (H h_p.bd).2.2 (fun E (bB, out1_8) σ w => Lo A w0 σ w [(12, .int .i64 (bB : Int))] [t1 Fl.i 3 p4 p.length p.length out1_8]) ⟨agr, hO, fr⟩ ?_
 refine fun X1 => p1 fun bB out1_8 => fun H hX1 σ w6 hk => d2 fun hag hO hB => keep2 hk hag ?_
 dsimp only at H
 revert hO; repeat (rename Owns .. => q; clear q)
 intro hO; repeat (rename Sq .. => q; clear q)
 refine scm H (fun h9 H => ?_) fun h9 H => ?_
 ·refine au ?_
  refine drs 1 [q0, q0, q0, q0, q0, q1, q0, q0, q0, q0, q0, q0, q0, q1, q0, q0, q3] hO fun w10 s hO => ?_
  refine sxl hO h_p.u H.1 H.2.1 ?_
  refine sln0 ?_
  have h11 := H.1
  have h12 := H.2.1
  replace H := H.2.2
  obtain ⟨h13, H⟩ := H
  refine GoQ.pure rfl (J03 rfl rfl (wrap_i64 h13)) rfl rfl ?_
  obtain ⟨h14, H⟩ := H
  refine GoQ.pure rfl (Jb9 rfl rfl (wrap_i64 h14)) rfl rfl ?_
  refine sxl hO h_q.u H.1 H.2.1 ?_
  have h15 := H.1
  have h16 := H.2.1
  replace H := H.2.2
  obtain ⟨h17, H⟩ := H
  refine GoQ.pure rfl (J03 rfl rfl (wrap_i64 h17)) rfl rfl ?_
  refine six1 0 hO H.1 H.2.1 ?_
  refine sst (u := (((ix p (bB : Int)) * (p.length + 1 : Int)) + (ix q (bB : Int)))) 0 hO H.1 H.2.1 fun w18 s hO => ?_
  refine sinc (natbd h9 h_p.bd) ?_
  refine au ?_
  exact hX1 _ H.2.2 _ _ agr ⟨agr, hO, fr⟩
 refine au ?_
 refine sfz 0 hO fun s hO wF wG => ?_
 refine zcr (J01 body111 (by rw [wG]; exact rfl) (J3u hO.lt wF H)) fun _ w22 => e3 fun r21 GO GP => sc0 hO fun s hO => d1 fun rB H => ?_
 refine au ?_
 refine Go1.ret1 func112 rfl ⟨_, _, _, er, frs, rB.r, H⟩
theorem body49 : Body prog 49 := ⟨f49, func49, rfl, by kernel_rfl⟩
theorem J1H {p_a p_b : Option Addr} {c_a c_b : Nat} {a b : List Int} (hA : HA0 A w0) (h_a : ISi A w0 p_a c_a a) (h_b : ISi A w0 p_b c_b b) {K : Bool → Prop} (H : J1o a b K) :
    CallsV prog 49 #[.slice p_a a.length c_a, .slice p_b b.length c_b] w0 (fun v w' => ∃ (r0 : Bool), v = .bool r0 ∧ Same w0 w' ∧ K r0) := by
 refine cal hA func49 ntmps49 fun hO hB => ?_
 unfold J1o at H
 refine sln0 ?_
 refine sln0 ?_
 refine scm ((H h_a.bd) h_b.bd) (fun h1 H => ?_) fun h1 H => ?_
 ·refine sln0 ?_
  refine au ?_
  refine lv [0, 1, 12] hO H (fun E k1_3 σ w => Lo A w0 σ w [(13, .int .i64 (k1_3 : Int))] []) ⟨agr, hO, fr⟩ ?_
  refine fun X1 => fun k1_3 => fun H hX1 σ w2 hk => d2 fun hag hO hB => keep2 hk hag ?_
  refine scm H (fun h4 H => ?_) fun h4 H => ?_
  ·refine au ?_
   refine drs 0 [q0, q0, q0, q1, q0, q0, q0, q1, q0] hO fun w5 s hO => ?_
   refine sxl hO h_a.u H.1 H.2.1 ?_
   refine sxl hO h_b.u H.2.2.1 H.2.2.2.1 ?_
   have h6 := H.1
   have h7 := H.2.1
   have h8 := H.2.2.1
   have h9 := H.2.2.2.1
   refine scm H.2.2.2.2 (fun h10 H => ?_) fun h10 H => ?_
   ·refine sinc (natbd h4 h_a.bd) ?_
    refine au ?_
    exact hX1 _ H _ _ agr ⟨agr, hO, fr⟩
   refine au ?_
   refine Go1.ret1 func49 rfl ⟨_, er, frs, H⟩
  refine au ?_
  refine Go1.ret1 func49 rfl ⟨_, er, frs, H⟩
 refine au ?_
 refine Go1.ret1 func49 rfl ⟨_, er, frs, H⟩
theorem body67 : Body prog 67 := ⟨f67, func67, rfl, by kernel_rfl⟩
theorem J5l {aL ba : Option Addr} {aM bc : Nat} {d : DFA} (hA : HA0 A w0) (aK : ISb A w0 aL aM d.Final) (bn : ISs A w0 ba bc d.Next) {K : List Int → Prop} (H : J1E d K) :
    CallsV prog 67 #[.agg (cDF d aL aM ba bc)] w0 (fun v w' => ∃ (r0 : List Int), ∃ (p_r0 : Option Addr), ∃ (c_r0 : Nat), v = .slice p_r0 r0.length c_r0 ∧ Same w0 w' ∧ ISi A w' p_r0 c_r0 r0 ∧ K r0) := by
 refine cal hA func67 ntmps67 fun hO hB => ?_
 unfold J1E at H
 refine sbx hO fun w1 B2 s hO => ?_
 refine sln0 ?_
 refine smk Fl.i (H aK.bd) hO fun w4 p5 s hO => ?_
 refine sln1 0 hO ?_
 refine au ?_
 refine lv [1, 3, 14] hO (H aK.bd).2.2 (fun E (k1_8, B6) σ w => Lo A w0 σ w [(15, .int .i64 (k1_8 : Int))] (E.set 0 (t1 Fl.i 3 p5 d.Final.length d.Final.length B6))) ⟨agr, hO, fr⟩ ?_
 refine fun X1 => p1 fun k1_8 B6 => fun H hX1 σ w7 hk => d2 fun hag hO hB => keep2 hk hag ?_
 dsimp only [esets, sS, sZ] at hO hB
 dsimp only at H
 revert hO; repeat (rename Owns .. => q; clear q)
 intro hO; repeat (rename Sq .. => q; clear q)
 refine scm H (fun h10 H => ?_) fun h10 H => ?_
 ·refine au ?_
  have h11 := H.1
  have h12 := H.2.1
  refine sxb hO aK.u H.1 H.2.1 H.2.2 (fun h13 H => ?_) fun h13 H => ?_
  ·refine six1 0 hO H.1 H.2.1 ?_
   refine sst (u := (1 : Int)) 0 hO H.1 H.2.1 fun w14 s hO => ?_
   refine au ?_
   have h15 := H.1
   have h16 := H.2.1
   replace H := H.2.2
   obtain ⟨h17, H⟩ := H
   refine zo (J03 rfl rfl (wrap_i64 h17)) ?_
   refine au ?_
   exact hX1 _ H _ _ agr ⟨agr, hO, fr⟩
  refine au ?_
  obtain ⟨h18, H⟩ := H
  refine zo (J03 rfl rfl (wrap_i64 h18)) ?_
  refine au ?_
  exact hX1 _ H _ _ agr ⟨agr, hO, fr⟩
 refine au ?_
 refine sfz 0 hO fun s hO wF wG => ?_
 refine zcr (J01 body111 (by rw [wG]; exact rfl) (J3u hO.lt wF H)) fun _ w22 => e3 fun r21 GO GP => sc0 hO fun s hO => d1 fun rB H => ?_
 refine au ?_
 refine lv [1] hO H (fun E jt σ w => ∃ p25 c26, (fun Z => Lo A w0 σ w [(3, .slice p25 jt.length c26)] Z ∧ ISi (bl Z ++ A) w p25 c26 jt) E) ⟨_, _, ⟨agr, hO, fr⟩, rB⟩ ?_
 refine fun X2 => fun jt => fun H hX2 σ w23 hk => e2 fun p25 c26 => d1 fun hL => fun fS => d2 (fun hag hO hB => keep2 hk hag ?_) hL
 revert hO; repeat (rename Owns .. => q; clear q)
 intro hO; repeat (rename Sq .. => q; clear q)
 refine au ?_
 refine lv [1, 3] hO H (fun E (next3_29, rC) σ w => ∃ p30 c31, (fun Z => Lo A w0 σ w [(5, .slice p30 next3_29.length c31), (6, .int .i64 (rC : Int))] Z ∧ ISi (bl Z ++ A) w p25 c26 jt ∧ ISi (bl Z ++ A) w p30 c31 next3_29) E) ⟨_, _, ⟨agr, hO, fr⟩, fS, fS⟩ ?_
 refine fun X3 => p1 fun next3_29 rC => fun H hX3 σ w28 hk => e2 fun p30 c31 => d1 fun hL => d1 fun fS dJ => d2 (fun hag hO hB => keep2 hk hag ?_) hL
 dsimp only at H
 revert hO; repeat (rename Owns .. => q; clear q)
 intro hO; repeat (rename Sq .. => q; clear q)
 refine scm H (fun h34 H => ?_) fun h34 H => ?_
 ·refine sln0 ?_
  refine au ?_
  refine snil Fl.i 3 hO fun s hO => ?_
  refine lv [1, 3, 5, 6, 37] hO (H fS.bd) (fun E (rD, to4_38) σ w => ∃ n41 p39 c40, (fun Z => Lo A w0 σ w [(7, .slice p39 n41 c40), (38, .int .i64 (rD : Int))] Z ∧ ISi (bl Z ++ A) w p25 c26 jt ∧ ISi (bl Z ++ A) w p30 c31 next3_29) (E.set 0 (t1 Fl.i 3 p39 n41 c40 to4_38))) ⟨_, _, _, ⟨agr, hO, fr⟩, fS.u, dJ.u⟩ ?_
  refine fun X4 => p1 fun rD to4_38 => fun H hX4 σ w36 hk => e3 fun n41 p39 c40 => d1 fun hL => d1 fun fS dJ => d2 (fun hag hO hB => keep2 hk hag ?_) hL
  dsimp only [esets, sS, sZ] at hO hB fS dJ
  dsimp only at H
  revert hO; repeat (rename Owns .. => q; clear q)
  intro hO; repeat (rename Sq .. => q; clear q)
  refine scm H (fun h42 H => ?_) fun h42 H => ?_
  ·refine sxls hO bn.u H.1 H.2.1 fun p43 c44 iD => ?_
   refine sxl hO iD.u H.2.2.1 H.2.2.2.1 ?_
   refine sxl hO fS H.2.2.2.2.1 H.2.2.2.2.2.1 ?_
   refine sap1 ((ix jt (ix (ix d.Next (rD : Int)) (rC : Int)))) 0 hO H.2.2.2.2.2.2 fun _ w46 p47 c48 s hO => ?_
   refine sinc (natbd h42 fS.bd) ?_
   refine au ?_
   exact hX4 _ H.2.2.2.2.2.2.2 _ _ agr ⟨_, _, _, ⟨agr, hO, fr⟩, fS.u, dJ.u⟩
  refine au ?_
  refine sfz 0 hO fun s hO iH Oz => ?_
  refine zcr (J01 body112 (by rw [Oz]; exact rfl) (J6o hO.lt dJ.u iH H)) fun _ w52 => e3 fun r51 Sd Se => sc0 hO fun s hO => d1 fun GQ H => ?_
  refine au ?_
  obtain ⟨h53, H⟩ := H
  refine zo (J03 rfl rfl (wrap_i64 h53)) ?_
  refine au ?_
  exact hX3 _ H _ _ agr ⟨_, _, ⟨agr, hO, fr⟩, fS.u, GQ⟩
 refine au ?_
 refine zcr (J01 body49 rfl (J1H hO.lt dJ.u fS.u H)) fun _ w55 => e1 fun r54 => sc0 hO fun s hO => fun H => ?_
 refine au ?_
 cases r54
 ·refine au ?_
  exact hX2 _ (iF H) _ _ agr ⟨_, _, ⟨agr, hO, fr⟩, dJ.u⟩
 refine au ?_
 refine Go1.ret1 func67 rfl ⟨_, _, _, er, frs, fS.r, (iT H)⟩
end Sg
