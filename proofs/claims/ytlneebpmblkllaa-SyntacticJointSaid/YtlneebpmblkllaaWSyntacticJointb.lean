/- -/
import Derived.Test.YtlneebpmblkllaaVd
import Derived.Test.YtlneebpmblkllaaWSyntacticJoint
import Derived.Test.YtlneebpmblkllaaWSyntacticMonoids
import Derived.Test.YtlneebpmblkllaaWSyntacticMonoidsb
import Derived.Test.YtlneebpmblkllaaWSyntacticMonoidsc
import Derived.Test.YtlneebpmblkllaaWSyntacticMonoidsd
import Derived.Test.YtlneebpmblkllaaWSyntacticMonoidse
import Derived.Test.YtlneebpmblkllaaWSyntacticMonoidsf
namespace Sg
open Go Go.RowKit Go.Proofs Try
set_option linter.unusedVariables false
set_option linter.unusedSimpArgs false
set_option maxRecDepth 100000
set_option maxHeartbeats 4000000
variable {A : List Nat} {w0 : World}
theorem body25 : Body prog 25 := ⟨f25, func25, rfl, by kernel_rfl⟩
theorem J3P {fh : Option Addr} {fk : Nat} {a0 : List DFA} (hA : HA0 A w0) (aS : ISl (rpDFA) A w0 fh fk a0) {K : Syntactic → List (List Bool) → Int → Prop} (H : J0K a0 K) :
    CallsV prog 25 #[.slice fh a0.length fk] w0 (fun v w' => ∃ (r0 : Syntactic), ∃ (r1 : List (List Bool)), ∃ (r2 : Int), ∃ (cR : Option Addr), ∃ (cS : Nat), ∃ (cU : Option Addr), ∃ (cV : Nat), ∃ (cA : Option Addr), ∃ (cB : Nat), ∃ (cC : Option Addr), ∃ (cD : Nat), ∃ (dx : Option Addr), ∃ (dy : Nat), ∃ (dT : Option Addr), ∃ (dU : Nat), v = .tuple #[.agg (cSY r0 cR cS cU cV cA cB cC cD dx dy), .slice dT r1.length dU, .int .i64 r2] ∧ Same w0 w' ∧ ISs A w' cR cS r0.Table ∧ ISt A w' cU cV r0.Words ∧ ISi A w' cA cB r0.Images ∧ ISb A w' cC cD r0.Accept ∧ ISb A w' dx dy r0.Plus ∧ ISl (Rp.sl (Rp.bool)) A w' dT dU r1 ∧ K r0 r1 r2) := by
 refine cal hA func25 ntmps25 fun hO hB => ?_
 unfold J0K at H
 refine sal hO fun w1 B2 s hO => ?_
 refine sln0 ?_
 refine scm (H aS.bd) (fun h4 H => ?_) fun h4 H => ?_
 ·refine au ?_
  refine zo (J05 underlying33 ti33 (pl := [(0, 1), (1, 1), (2, 1), (3, 1), (4, 1), (5, 1)]) (vs := []) (cs := #[.int .i64 (0 : Int), .slice none 0 0, .slice none 0 0, .slice none 0 0, .slice none 0 0, .slice none 0 0]) (by kernel_rfl) rfl (by kernel_rfl)) ?_
  refine sba 0 hO fun w5 s hO => ?_
  refine au ?_
  refine Go1.retC3 func25 rfl rfl (rlb 0 hO) ⟨((⟨(0 : Int), ([] : List (List Int)), ([] : List Str), ([] : List Int), ([] : List Bool), ([] : List Bool)⟩ : Syntactic)), _, _, _, _, _, _, _, _, _, _, _, _, _, _, er, frs, (ISl.null _ _ _), (ISl.null _ _ _), (ISl.null _ _ _), (ISl.null _ _ _), (ISl.null _ _ _), (ISl.null _ _ _), H⟩
 refine sln0 ?_
 refine au ?_
 refine lv [0, 2, 21, 22] hO H (fun E aK σ w => Lo A w0 σ w [(23, .int .i64 (aK : Int))] E) ⟨agr, hO, fr⟩ ?_
 refine fun X1 => fun aK => fun H hX1 σ w6 hk => lh hk fun hO hB => ?_
 revert hO; repeat (rename Owns .. => q; clear q)
 intro hO; repeat (rename Sq .. => q; clear q)
 refine scm H (fun h8 H => ?_) fun h8 H => ?_
 ·refine six aS H.1 H.2.1 ?_
  have h15 := H.1
  have h16 := H.2.1
  replace H := H.2.2
  have hm9 := ldAggR (r := rpDFA) (aS.o hO) h15 h16
  obtain ⟨Vk, vP, hR12, qP⟩ := hm9
  replace hR12 := J1l vP hR12
  obtain ⟨p17, c18, p20, c21, hcs14, jO, nQ⟩ := hR12
  subst hcs14
  refine zs (qP underlying25 rfl ti25 rfl) ?_
  refine sal hO fun w23 B24 s hO => ?_
  refine sba 0 hO fun w26 s hO => ?_
  refine sag 0 hO ?_
  refine zcr (J02 body61 rfl (J0y (d := (⟨((ix a0 (aK : Int)).Letters), ((ix a0 (aK : Int)).Start), (ix a0 (aK : Int)).Final, (ix a0 (aK : Int)).Next⟩ : DFA)) hO.lt jO.u nQ.u H)) fun _ w28 => e1 fun r27 => sc0 hO fun s hO => fun H => ?_
  refine scm H (fun h29 H => ?_) fun h29 H => ?_
  ·refine sinc (natbd h8 aS.bd) ?_
   refine au ?_
   refine sdr [0] hO fun s hO => ?_
   exact hX1 _ H _ _ agr ⟨agr, hO, fr⟩
  refine au ?_
  refine zo (J05 underlying33 ti33 (pl := [(0, 1), (1, 1), (2, 1), (3, 1), (4, 1), (5, 1)]) (vs := []) (cs := #[.int .i64 (0 : Int), .slice none 0 0, .slice none 0 0, .slice none 0 0, .slice none 0 0, .slice none 0 0]) (by kernel_rfl) rfl (by kernel_rfl)) ?_
  refine sba 1 hO fun w30 s hO => ?_
  refine au ?_
  refine Go1.retC3 func25 rfl rfl (rlb 1 hO) ⟨((⟨(0 : Int), ([] : List (List Int)), ([] : List Str), ([] : List Int), ([] : List Bool), ([] : List Bool)⟩ : Syntactic)), _, _, _, _, _, _, _, _, _, _, _, _, _, _, er, frs, (ISl.null _ _ _), (ISl.null _ _ _), (ISl.null _ _ _), (ISl.null _ _ _), (ISl.null _ _ _), (ISl.null _ _ _), H⟩
 refine sln0 ?_
 refine au ?_
 refine lv [0, 2, 34, 35] hO H (fun E k2_32 σ w => Lo A w0 σ w [(36, .int .i64 (k2_32 : Int))] E) ⟨agr, hO, fr⟩ ?_
 refine fun X2 => fun k2_32 => fun H hX2 σ w31 hk => lh hk fun hO hB => ?_
 revert hO; repeat (rename Owns .. => q; clear q)
 intro hO; repeat (rename Sq .. => q; clear q)
 refine scm H (fun h33 H => ?_) fun h33 H => ?_
 ·refine six aS H.1 H.2.1 ?_
  have h40 := H.1
  have h41 := H.2.1
  replace H := H.2.2
  have Vl := ldAggR (r := rpDFA) (aS.o hO) h40 h41
  obtain ⟨ah6, Vm, hR37, qQ⟩ := Vl
  replace hR37 := J1l Vm hR37
  obtain ⟨p42, c43, p45, c46, hcs39, Vn, Ei⟩ := hR37
  subst hcs39
  refine zs (qQ underlying25 rfl ti25 rfl) ?_
  refine sal hO fun w48 B49 s hO => ?_
  refine sba 0 hO fun w51 s hO => ?_
  refine au ?_
  refine drs 0 [q0, q1, q0, q0, q0, q1, q0] hO fun w52 s hO => ?_
  refine six aS H.1 H.2.1 ?_
  have h53 := H.1
  have h54 := H.2.1
  replace H := H.2.2
  refine GoQ.pure rfl (J3d underlying25 rfl ti3 rfl (ISl.spotR aS.u h53 h54) (by decide)) rfl rfl ?_
  have Vo := ldCellR (r := rpDFA) (aS.o hO) h53 h54 (o := 0) (by decide)
  obtain ⟨ah7, Vp, hR58, kF⟩ := Vo
  replace hR58 := J1l Vp hR58
  obtain ⟨p61, c62, p64, c65, hcs60, Ej, ah8⟩ := hR58
  subst hcs60
  refine GoQ.stable rfl (kF rfl underlying3 rfl rfl) rfl rfl ?_
  refine scm H (fun h67 H => ?_) fun h67 H => ?_
  ·refine sinc (natbd h33 aS.bd) ?_
   refine au ?_
   refine sdr [0] hO fun s hO => ?_
   exact hX2 _ H _ _ agr ⟨agr, hO, fr⟩
  refine au ?_
  refine zo (J05 underlying33 ti33 (pl := [(0, 1), (1, 1), (2, 1), (3, 1), (4, 1), (5, 1)]) (vs := []) (cs := #[.int .i64 (0 : Int), .slice none 0 0, .slice none 0 0, .slice none 0 0, .slice none 0 0, .slice none 0 0]) (by kernel_rfl) rfl (by kernel_rfl)) ?_
  refine sba 1 hO fun w68 s hO => ?_
  refine au ?_
  refine Go1.retC3 func25 rfl rfl (rlb 1 hO) ⟨((⟨(0 : Int), ([] : List (List Int)), ([] : List Str), ([] : List Int), ([] : List Bool), ([] : List Bool)⟩ : Syntactic)), _, _, _, _, _, _, _, _, _, _, _, _, _, _, er, frs, (ISl.null _ _ _), (ISl.null _ _ _), (ISl.null _ _ _), (ISl.null _ _ _), (ISl.null _ _ _), (ISl.null _ _ _), H⟩
 refine sal hO fun w69 B70 s hO => ?_
 refine sln0 ?_
 refine au ?_
 have L9 := t2nil (e := 31) (e' := 3) Fl.i hO
 refine nst L9 fun s hO => ?_
 have Ma := Stp.nil (e := 120) (r := 3) hO
 refine nst Ma fun s hO => ?_
 have Vq := elN (rppart) hO
 refine lv [2, 10, 49, 50] hO H (fun E (jp, cd, d_80, d_86, z3_91) σ w => ∃ n85 p83 c84 fU n89 p87 c88 Ek, (fun Z => Lo A w0 σ w [(51, .int .i64 (jp : Int))] Z ∧ Els (rppart) (bl Z ++ A) w fU d_80 ∧ p87.isNone = z3_91) (esets E [(0, .row 120 3 p83 n85 c84 fU), (1, t2 Fl.i 31 3 p87 n89 c88 Ek d_86), (2, .blk B70 (.cells #[.slice p87 n89 c88, .slice p83 n85 c84, .int .i64 cd] 83 (0, 0)))])) ⟨_, _, _, _, _, _, _, _, ⟨agr, hO, fr⟩, Vq.u, rfl⟩ ?_
 refine fun X3 => p1 fun jp => p3 fun cd d_80 d_86 z3_91 => fun H hX3 σ w77 hk => e4 fun n85 p83 c84 fU => e4 fun n89 p87 c88 Ek => d1 fun hL => d1 fun aU hz92 => lh hk (fun hO hB => ?_) hL
 dsimp only [esets, sS, sZ] at hO hB aU hz92
 dsimp only at H
 revert hO; repeat (rename Owns .. => q; clear q)
 intro hO; repeat (rename Sq .. => q; clear q)
 refine scm H (fun h93 H => ?_) fun h93 H => ?_
 ·refine six aS H.1 H.2.1 ?_
  have jP := H.1
  have nS := H.2.1
  replace H := H.2.2
  have Vr := ldAggR (r := rpDFA) (aS.o hO) jP nS
  obtain ⟨ah9, Vt, hR97, Mc⟩ := Vr
  replace hR97 := J1l Vt hR97
  obtain ⟨aia, aib, vQ, vR, hcs99, Me, qR⟩ := hR97
  subst hcs99
  refine zs (Mc underlying25 rfl ti25 rfl) ?_
  refine sal hO fun vw B109 s hO => ?_
  refine sba 0 hO fun Vu s hO => ?_
  refine sag 0 hO ?_
  refine zcr (J02 body22 rfl (J1K (d := (⟨((ix a0 (jp : Int)).Letters), ((ix a0 (jp : Int)).Start), (ix a0 (jp : Int)).Final, (ix a0 (jp : Int)).Next⟩ : DFA)) hO.lt Me.u qR.u H)) fun _ El => e4 fun r112 aV aW fv => e1 fun fw => sc0 hO fun s hO => d2 fun aj aR H => ?_
  refine GoR.inl (vs := [.pointer (some ⟨B70, 0, none⟩), .agg (cDF r112 aV aW fv fw)]) (caps := []) rfl rfl body62 func62 rfl ntmps62 rfl rfl rfl ?_
  intro RhR114 hR114
  refine sbx hO fun Em B116 s hO => ?_
  refine sln0 ?_
  refine au ?_
  replace H := (H aj.bd)
  obtain ⟨gv, H⟩ := H
  refine zo (J03 rfl rfl (wrap_i64 gv)) ?_
  refine scm H (fun qS H => ?_) fun qS H => ?_
  ·refine au ?_
   refine Go1.ret1V func62 rfl (show _ = .int .i64 (3 : Int) from rfl) ?_
   refine hR114 _ _ ?_
   refine au ?_
   refine zo (fun w => opB (J34 rfl rfl w) (ndF (by decide))) ?_
   refine au ?_
   refine zo (J05 underlying33 ti33 (pl := [(0, 1), (1, 1), (2, 1), (3, 1), (4, 1), (5, 1)]) (vs := []) (cs := #[.int .i64 (0 : Int), .slice none 0 0, .slice none 0 0, .slice none 0 0, .slice none 0 0, .slice none 0 0]) (by kernel_rfl) rfl (by kernel_rfl)) ?_
   refine sba 5 hO fun nT s hO => ?_
   refine au ?_
   refine Go1.retC3 func25 rfl rfl (rlb 5 hO) ⟨((⟨(0 : Int), ([] : List (List Int)), ([] : List Str), ([] : List Int), ([] : List Bool), ([] : List Bool)⟩ : Syntactic)), _, _, _, _, _, _, _, _, _, _, _, _, _, _, er, frs, (ISl.null _ _ _), (ISl.null _ _ _), (ISl.null _ _ _), (ISl.null _ _ _), (ISl.null _ _ _), (ISl.null _ _ _), H⟩
  refine au ?_
  cases z3_91
  ·refine zo (fun w => opB (J12 underlying23 rfl rfl w) (hz92)) ?_
   refine au ?_
   refine zo (J0t underlying23 rfl (t2neq 3 hO rfl)) ?_
   refine au ?_
   refine sdr [1] hO fun s hO => ?_
   refine lv [0, 3, 5, 33] hO (iF H) (fun E (kG, d_123) σ w => ∃ AI, (fun Z => Lo A w0 σ w [(34, .int .i64 (kG : Int))] Z ∧ Els (rppart) (bl Z ++ A) w fU d_80 ∧ ISb (bl Z ++ A) w aV aW r112.Final ∧ ISs (bl Z ++ A) w fv fw r112.Next) (E.set 2 (t2 Fl.i 31 3 p87 n89 c88 AI d_123))) ⟨_, ⟨agr, hO, fr⟩, aU.u, aj.u, aR.u⟩ ?_
   refine fun X4 => p1 fun kG d_123 => fun H hX4 σ nU hk => e1 fun AI => d1 fun hL => d2 fun aU aj aR => lh hk (fun hO hB => ?_) hL
   dsimp only [esets, sS, sZ] at hO hB aU aj aR
   dsimp only at H
   revert hO; repeat (rename Owns .. => q; clear q)
   intro hO; repeat (rename Sq .. => q; clear q)
   refine scm H (fun vS H => ?_) fun vS H => ?_
   ·refine au ?_
    refine lv [0, 3, 5, 6, 33, 34, 37] hO H (fun E (kI, AJ) σ w => ∃ AK, (fun Z => Lo A w0 σ w [(38, .int .i64 (kI : Int))] Z ∧ Els (rppart) (bl Z ++ A) w fU d_80 ∧ ISb (bl Z ++ A) w aV aW r112.Final ∧ ISs (bl Z ++ A) w fv fw r112.Next) (E.set 2 (t2 Fl.i 31 3 p87 n89 c88 AK AJ))) ⟨_, ⟨agr, hO, fr⟩, aU, aj, aR⟩ ?_
    refine fun X5 => p1 fun kI AJ => fun H hX5 σ Vv hk => e1 fun AK => d1 fun hL => d2 fun aU aj aR => lh hk (fun hO hB => ?_) hL
    dsimp only [esets, sS, sZ] at hO hB aU aj aR
    dsimp only at H
    revert hO; repeat (rename Owns .. => q; clear q)
    intro hO; repeat (rename Sq .. => q; clear q)
    refine scm H (fun nV H => ?_) fun nV H => ?_
    ·refine au ?_
     refine Go1.drawT (ok := fun _ => True) Same.tr [26, 28] 29 (.qp 0 (.qp 1 (.qp 2 (.qp 4 (.qp 5 (.qp 6 (.qp 7 (.qs 8 (.qp 9 (.qp 10 (.qs 11 (.qp 12 (.qp 13 (.qp 14 (.qs 15 (.qp 16 (.qs 17 (.qp 18 (.qp 19 (.qs 20 (.qp 21 (.qp 22 (.qs 23 (.qp 24 (.alt 3 (.alt 25 (.alt 26 (.qp 27 (.alt 28 .nil .fin)) .fin) .fin) (.alt 25 (.alt 3 (.alt 26 (.qp 27 (.alt 28 .nil .fin)) .fin) (.alt 26 (.alt 3 (.qp 27 (.alt 28 .nil .fin)) .fin) .fin)) .fin)))))))))))))))))))))))))) mixed (by kernel_rfl) ?_
     intro Vw qT
     refine sm hO qT fun s hO => ?_
     refine sbl 3 ?_
     refine au ?_
     obtain ⟨gL, H⟩ := H
     obtain ⟨iR, H⟩ := H
     refine GoT.pure rfl (J04 underlying23 ti31 rfl rfl gL (ltn (t2neq 2 hO rfl) iR) (t2some 2 hO rfl gL iR)) rfl rfl ?_
     refine GoT.stable rfl (t2head 2 hO rfl gL iR underlying31 rfl rfl) rfl rfl ?_
     refine sbl 3 ?_
     refine sbl 0 ?_
     refine sxls hO aR.u H.1 H.2.1 fun nW nX Mf => ?_
     refine sxl hO Mf.u H.2.2.1 H.2.2.2.1 ?_
     have aic := H.1
     have vT := H.2.1
     have En := H.2.2.1
     have aid := H.2.2.2.1
     replace H := H.2.2.2.2
     obtain ⟨Vx, H⟩ := H
     refine GoT.pure rfl (J03 rfl rfl (wrap_i64 Vx)) rfl rfl ?_
     refine GoT.both ?_ ?_
     ·skip
      skip
      refine sbl 3 ?_
      skip
      refine sbu Fl.i 3 [(cd + (ix (ix r112.Next (kI : Int)) (kG : Int)))] hO fun Eo Ep s hO => ?_
      skip
      refine sfr 3 hO fun s hO => ?_
      have zz := t2take (hf := Fl.i) hO gL iR
      obtain ⟨Mg, nY, qU⟩ := zz
      refine nst nY fun s hO => ?_
      have mK := elX hO (qU _)
      refine sfz 2 hO fun s hO Mh Mi => ?_
      obtain ⟨Vy, H⟩ := H
      have zz := oapp underlying31 ti3 rfl 0 hO rfl mK.u Mh Mi Vy (by decide)
      obtain ⟨vU, Vz, VA, ac8, Er, AM, Et⟩ := zz
      dsimp only [sS, sZ] at AM
      refine GoT.stepX rfl (Et (by exact rfl) (by exact rfl)) rfl rfl rfl ?_
      refine nst Er fun s hO => ?_
      obtain ⟨jQ, H⟩ := H
      obtain ⟨n9, H⟩ := H
      refine GoT.pure rfl (J04 underlying23 ti31 rfl rfl jQ (ltn (t2neqH 1 hO rfl) n9) (t2someH 1 hO rfl jQ n9)) rfl rfl ?_
      skip
      refine sfr 1 hO fun s hO => ?_
      refine sfr 1 hO fun s hO => ?_
      have zz := t2fix (hf := Fl.i) hO AM.u jQ n9 rfl
      obtain ⟨oc, Eu, Ev⟩ := zz
      refine GoT.stepX rfl (Ev underlying31 rfl ti31 (by exact rfl) (by exact rfl)) rfl rfl rfl ?_
      refine nst Eu fun s hO => ?_
      refine sinc (natbd nV aj.bd) ?_
      refine au ?_
      refine sfr 4 hO fun s hO => ?_
      refine sfr 4 hO fun s hO => ?_
      refine sfr 2 hO fun s hO => ?_
      refine sfr 4 hO fun s hO => ?_
      refine sfr 4 hO fun s hO => ?_
      exact hX5 _ H _ _ agr ⟨_, ⟨agr, hO, fr⟩, aU.u, aj.u, aR.u⟩
     skip
     refine sbu Fl.i 3 [(cd + (ix (ix r112.Next (kI : Int)) (kG : Int)))] hO fun vV qV s hO => ?_
     refine GoT.both ?_ ?_
     ·skip
      skip
      refine sbl 4 ?_
      skip
      refine sfr 3 hO fun s hO => ?_
      have zz := t2take (hf := Fl.i) hO gL iR
      obtain ⟨ac9, Ew, Mj⟩ := zz
      refine nst Ew fun s hO => ?_
      have Mk := elX hO (Mj _)
      refine sfz 2 hO fun s hO Ml Mm => ?_
      obtain ⟨VB, H⟩ := H
      have zz := oapp underlying31 ti3 rfl 0 hO rfl Mk.u Ml Mm VB (by decide)
      obtain ⟨aie, jR, jS, ada, Ex, AO, Ey⟩ := zz
      dsimp only [sS, sZ] at AO
      refine GoT.stepX rfl (Ey (by exact rfl) (by exact rfl)) rfl rfl rfl ?_
      refine nst Ex fun s hO => ?_
      obtain ⟨qW, H⟩ := H
      obtain ⟨vW, H⟩ := H
      refine GoT.pure rfl (J04 underlying23 ti31 rfl rfl qW (ltn (t2neqH 1 hO rfl) vW) (t2someH 1 hO rfl qW vW)) rfl rfl ?_
      skip
      refine sfr 1 hO fun s hO => ?_
      refine sfr 1 hO fun s hO => ?_
      have zz := t2fix (hf := Fl.i) hO AO.u qW vW rfl
      obtain ⟨vX, Ez, EA⟩ := zz
      refine GoT.stepX rfl (EA underlying31 rfl ti31 (by exact rfl) (by exact rfl)) rfl rfl rfl ?_
      refine nst Ez fun s hO => ?_
      refine sinc (natbd nV aj.bd) ?_
      refine au ?_
      refine sfr 4 hO fun s hO => ?_
      refine sfr 4 hO fun s hO => ?_
      refine sfr 2 hO fun s hO => ?_
      refine sfr 4 hO fun s hO => ?_
      refine sfr 4 hO fun s hO => ?_
      exact hX5 _ H _ _ agr ⟨_, ⟨agr, hO, fr⟩, aU.u, aj.u, aR.u⟩
     skip
     refine sfr 3 hO fun s hO => ?_
     have zz := t2take (hf := Fl.i) hO gL iR
     obtain ⟨mM, EB, Mn⟩ := zz
     refine nst EB fun s hO => ?_
     have Mo := elX hO (Mn _)
     refine sfz 2 hO fun s hO qz Ai => ?_
     obtain ⟨iU, H⟩ := H
     have zz := oapp underlying31 ti3 rfl 0 hO rfl Mo.u qz Ai iU (by decide)
     obtain ⟨vY, VC, VD, adb, EC, AP, ED⟩ := zz
     dsimp only [sS, sZ] at AP
     refine GoT.stepX rfl (ED (by exact rfl) (by exact rfl)) rfl rfl rfl ?_
     refine nst EC fun s hO => ?_
     skip
     refine sbl 4 ?_
     obtain ⟨v5, H⟩ := H
     obtain ⟨od, H⟩ := H
     refine GoT.pure rfl (J04 underlying23 ti31 rfl rfl v5 (ltn (t2neqH 1 hO rfl) od) (t2someH 1 hO rfl v5 od)) rfl rfl ?_
     skip
     refine sfr 1 hO fun s hO => ?_
     refine sfr 1 hO fun s hO => ?_
     have zz := t2fix (hf := Fl.i) hO AP.u v5 od rfl
     obtain ⟨v6, EE, EF⟩ := zz
     refine GoT.stepX rfl (EF underlying31 rfl ti31 (by exact rfl) (by exact rfl)) rfl rfl rfl ?_
     refine nst EE fun s hO => ?_
     refine sinc (natbd nV aj.bd) ?_
     refine au ?_
     refine sfr 4 hO fun s hO => ?_
     refine sfr 4 hO fun s hO => ?_
     refine sfr 2 hO fun s hO => ?_
     refine sfr 4 hO fun s hO => ?_
     refine sfr 4 hO fun s hO => ?_
     exact hX5 _ H _ _ agr ⟨_, ⟨agr, hO, fr⟩, aU.u, aj.u, aR.u⟩
    refine au ?_
    obtain ⟨v7, H⟩ := H
    refine zo (J03 rfl rfl (wrap_i64 v7)) ?_
    refine au ?_
    exact hX4 _ H _ _ agr ⟨_, ⟨agr, hO, fr⟩, aU.u, aj.u, aR.u⟩
   refine au ?_
   refine drs 4 [q0, q0, q0, q0, q1, q0, q0, q0, q1, q0, q1, q0, q0, q1, q0, q0, q0, q1, q0, q2, q3, q0, q0, q3] hO fun TT s hO => ?_
   refine au ?_
   obtain ⟨VE, H⟩ := H
   refine GoQ.pure rfl (J03 rfl rfl (wrap_i64 VE)) rfl rfl ?_
   refine au ?_
   refine GoQ.pure rfl (J05 underlying120 ti120 (pl := [(0, 1), (1, 1), (2, 1)]) (vs := [(0, .int .i64 (cd + r112.Start)), (1, .slice aV r112.Final.length aW), (2, .int .i64 cd)]) (cs := #[.int .i64 (cd + r112.Start), .slice aV r112.Final.length aW, .int .i64 cd]) (by kernel_rfl) rfl (by kernel_rfl)) rfl rfl ?_
   have zz := obuildN (r := rppart) (n := 1) (parts := [(0, .agg #[.int .i64 (cd + r112.Start), .slice aV r112.Final.length aW, .int .i64 cd])]) (vs := [.int .i64 (cd + r112.Start), .slice aV r112.Final.length aW, .int .i64 cd]) (xs := [(⟨cd + r112.Start, r112.Final, cd⟩ : part)]) underlying81 ti120 hO (by decide) (by decide) (by kernel_rfl) (Els.consR (us := [.int .i64 (cd + r112.Start), .slice aV r112.Final.length aW, .int .i64 cd]) rfl ⟨rfl, ⟨aV, aW, rfl, aj.u⟩, rfl⟩ (Els.nil _ _ _) (by simp [mx])) rfl
   obtain ⟨aif, qX, EG, Mp, Mq, EH⟩ := zz
   refine GoQ.loud rfl (EH rfl) Mq rfl rfl ?_
   refine nst EG fun s hO => ?_
   refine sfzR 0 hO Mp fun s hO Mu Mv => ?_
   obtain ⟨VG, H⟩ := H
   have zz := oapp underlying81 ti120 rfl 1 hO rfl aU.u Mu Mv VG (by decide)
   obtain ⟨aig, qY, q8, adc, nG, mI, EI⟩ := zz
   dsimp only [sS, sZ] at mI
   refine GoQ.last rfl (EI (by exact rfl) (by exact rfl)) rfl rfl ?_
   refine nst nG fun s hO => ?_
   refine sbs 3 hO fun v8 s hO => ?_
   refine au ?_
   obtain ⟨VH, H⟩ := H
   refine zo (J03 rfl rfl (wrap_i64 VH)) ?_
   refine sbs 3 hO fun VI s hO => ?_
   refine au ?_
   refine Go1.ret1V func62 rfl (show _ = .int .i64 (0 : Int) from rfl) ?_
   refine hR114 _ _ ?_
   refine au ?_
   refine zo (fun w => opB (J34 rfl rfl w) (ndT (by decide))) ?_
   refine sinc (natbd h93 aS.bd) ?_
   refine au ?_
   refine sdr [0] hO fun s hO => ?_
   exact hX3 _ H _ _ agr ⟨_, _, _, _, _, _, _, _, ⟨agr, hO, fr⟩, mI.u, hz92⟩
  refine zo (fun w => opB (J12 underlying23 rfl rfl w) (hz92)) ?_
  refine au ?_
  replace H := (iT H)
  obtain ⟨EJ, H⟩ := H
  obtain ⟨VJ, H⟩ := H
  have zz := t2makeS (m := r112.Letters) (e' := 3) Fl.i underlying23 ti31 hO EJ VJ (by decide)
  obtain ⟨aih, v9, EK, ade, EL, hz246⟩ := zz
  refine zg (EL rfl rfl) ?_
  refine nst EK fun s hO => ?_
  refine sbs 5 hO fun TY s hO => ?_
  refine au ?_
  refine zo (J0t underlying23 rfl (t2neq 0 hO rfl)) ?_
  refine au ?_
  refine sdr [2, 3] hO fun s hO => ?_
  refine lv [0, 3, 5, 33] hO H (fun E (kK, jq) σ w => ∃ AQ, (fun Z => Lo A w0 σ w [(34, .int .i64 (kK : Int))] Z ∧ Els (rppart) (bl Z ++ A) w fU d_80 ∧ ISb (bl Z ++ A) w aV aW r112.Final ∧ ISs (bl Z ++ A) w fv fw r112.Next) (E.set 0 (t2 Fl.i 31 3 v9 r112.Letters.toNat r112.Letters.toNat AQ jq))) ⟨_, ⟨agr, hO, fr⟩, aU.u, aj.u, aR.u⟩ ?_
  refine fun X6 => p1 fun kK jq => fun H hX6 σ VK hk => e1 fun AQ => d1 fun hL => d2 fun aU aj aR => lh hk (fun hO hB => ?_) hL
  dsimp only [esets, sS, sZ] at hO hB aU aj aR
  dsimp only at H
  revert hO; repeat (rename Owns .. => q; clear q)
  intro hO; repeat (rename Sq .. => q; clear q)
  refine scm H (fun wa H => ?_) fun wa H => ?_
  ·refine au ?_
   refine lv [0, 3, 5, 6, 33, 34, 37] hO H (fun E (kM, AR) σ w => ∃ AT, (fun Z => Lo A w0 σ w [(38, .int .i64 (kM : Int))] Z ∧ Els (rppart) (bl Z ++ A) w fU d_80 ∧ ISb (bl Z ++ A) w aV aW r112.Final ∧ ISs (bl Z ++ A) w fv fw r112.Next) (E.set 0 (t2 Fl.i 31 3 v9 r112.Letters.toNat r112.Letters.toNat AT AR))) ⟨_, ⟨agr, hO, fr⟩, aU, aj, aR⟩ ?_
   refine fun X7 => p1 fun kM AR => fun H hX7 σ aii hk => e1 fun AT => d1 fun hL => d2 fun aU aj aR => lh hk (fun hO hB => ?_) hL
   dsimp only [esets, sS, sZ] at hO hB aU aj aR
   dsimp only at H
   revert hO; repeat (rename Owns .. => q; clear q)
   intro hO; repeat (rename Sq .. => q; clear q)
   refine scm H (fun iw H => ?_) fun iw H => ?_
   ·refine au ?_
    refine Go1.drawT (ok := fun _ => True) Same.tr [26, 28] 29 (.qp 0 (.qp 1 (.qp 2 (.qp 4 (.qp 5 (.qp 6 (.qp 7 (.qs 8 (.qp 9 (.qp 10 (.qs 11 (.qp 12 (.qp 13 (.qp 14 (.qs 15 (.qp 16 (.qs 17 (.qp 18 (.qp 19 (.qs 20 (.qp 21 (.qp 22 (.qs 23 (.qp 24 (.alt 3 (.alt 25 (.alt 26 (.qp 27 (.alt 28 .nil .fin)) .fin) .fin) (.alt 25 (.alt 3 (.alt 26 (.qp 27 (.alt 28 .nil .fin)) .fin) (.alt 26 (.alt 3 (.qp 27 (.alt 28 .nil .fin)) .fin) .fin)) .fin)))))))))))))))))))))))))) mixed (by kernel_rfl) ?_
    intro aij Mw
    refine sm hO Mw fun s hO => ?_
    refine sbl 3 ?_
    refine au ?_
    obtain ⟨jT, H⟩ := H
    obtain ⟨jU, H⟩ := H
    refine GoT.pure rfl (J04 underlying23 ti31 rfl rfl jT (ltn (t2neq 0 hO rfl) jU) (t2some 0 hO rfl jT jU)) rfl rfl ?_
    refine GoT.stable rfl (t2head 0 hO rfl jT jU underlying31 rfl rfl) rfl rfl ?_
    refine sbl 3 ?_
    refine sbl 1 ?_
    refine sxls hO aR.u H.1 H.2.1 fun aik ail qD => ?_
    refine sxl hO qD.u H.2.2.1 H.2.2.2.1 ?_
    have aim := H.1
    have vJ := H.2.1
    have VL := H.2.2.1
    have EM := H.2.2.2.1
    replace H := H.2.2.2.2
    obtain ⟨VM, H⟩ := H
    refine GoT.pure rfl (J03 rfl rfl (wrap_i64 VM)) rfl rfl ?_
    refine GoT.both ?_ ?_
    ·skip
     skip
     refine sbl 3 ?_
     skip
     refine sbu Fl.i 3 [(cd + (ix (ix r112.Next (kM : Int)) (kK : Int)))] hO fun ain aio s hO => ?_
     skip
     refine sfr 1 hO fun s hO => ?_
     have zz := t2take (hf := Fl.i) hO jT jU
     obtain ⟨adf, EO, Mx⟩ := zz
     refine nst EO fun s hO => ?_
     have My := elX hO (Mx _)
     refine sfz 2 hO fun s hO mO q9 => ?_
     obtain ⟨wc, H⟩ := H
     have zz := oapp underlying31 ti3 rfl 0 hO rfl My.u mO q9 wc (by decide)
     obtain ⟨aip, aiq, air, adg, EP, AU, EQ⟩ := zz
     dsimp only [sS, sZ] at AU
     refine GoT.stepX rfl (EQ (by exact rfl) (by exact rfl)) rfl rfl rfl ?_
     refine nst EP fun s hO => ?_
     obtain ⟨we, H⟩ := H
     obtain ⟨wg, H⟩ := H
     refine GoT.pure rfl (J04 underlying23 ti31 rfl rfl we (ltn (t2neqH 1 hO rfl) wg) (t2someH 1 hO rfl we wg)) rfl rfl ?_
     skip
     refine sfr 1 hO fun s hO => ?_
     refine sfr 1 hO fun s hO => ?_
     have zz := t2fix (hf := Fl.i) hO AU.u we wg rfl
     obtain ⟨ais, ER, ES⟩ := zz
     refine GoT.stepX rfl (ES underlying31 rfl ti31 (by exact rfl) (by exact rfl)) rfl rfl rfl ?_
     refine nst ER fun s hO => ?_
     refine sinc (natbd iw aj.bd) ?_
     refine au ?_
     exact hX7 _ H _ _ agr ⟨_, ⟨agr, hO, fr⟩, aU.u, aj.u, aR.u⟩
    skip
    refine sbu Fl.i 3 [(cd + (ix (ix r112.Next (kM : Int)) (kK : Int)))] hO fun CQ T9 s hO => ?_
    refine GoT.both ?_ ?_
    ·skip
     skip
     refine sbl 4 ?_
     skip
     refine sfr 1 hO fun s hO => ?_
     have zz := t2take (hf := Fl.i) hO jT jU
     obtain ⟨Aq, nI, mJ⟩ := zz
     refine nst nI fun s hO => ?_
     have Mz := elX hO (mJ _)
     refine sfz 2 hO fun s hO MA MB => ?_
     obtain ⟨oe, H⟩ := H
     have zz := oapp underlying31 ti3 rfl 0 hO rfl Mz.u MA MB oe (by decide)
     obtain ⟨ait, aiu, aiv, adh, og, AV, ET⟩ := zz
     dsimp only [sS, sZ] at AV
     refine GoT.stepX rfl (ET (by exact rfl) (by exact rfl)) rfl rfl rfl ?_
     refine nst og fun s hO => ?_
     obtain ⟨wh, H⟩ := H
     obtain ⟨iA, H⟩ := H
     refine GoT.pure rfl (J04 underlying23 ti31 rfl rfl wh (ltn (t2neqH 1 hO rfl) iA) (t2someH 1 hO rfl wh iA)) rfl rfl ?_
     skip
     refine sfr 1 hO fun s hO => ?_
     refine sfr 1 hO fun s hO => ?_
     have zz := t2fix (hf := Fl.i) hO AV.u wh iA rfl
     obtain ⟨aiw, EU, EV⟩ := zz
     refine GoT.stepX rfl (EV underlying31 rfl ti31 (by exact rfl) (by exact rfl)) rfl rfl rfl ?_
     refine nst EU fun s hO => ?_
     refine sinc (natbd iw aj.bd) ?_
     refine au ?_
     exact hX7 _ H _ _ agr ⟨_, ⟨agr, hO, fr⟩, aU.u, aj.u, aR.u⟩
    skip
    refine sfr 1 hO fun s hO => ?_
    have zz := t2take (hf := Fl.i) hO jT jU
    obtain ⟨adi, nJ, qF⟩ := zz
    refine nst nJ fun s hO => ?_
    have MC := elX hO (qF _)
    refine sfz 2 hO fun s hO rh rk => ?_
    obtain ⟨EW, H⟩ := H
    have zz := oapp underlying31 ti3 rfl 0 hO rfl MC.u rh rk EW (by decide)
    obtain ⟨VN, aix, aiy, adk, EX, AW, EY⟩ := zz
    dsimp only [sS, sZ] at AW
    refine GoT.stepX rfl (EY (by exact rfl) (by exact rfl)) rfl rfl rfl ?_
    refine nst EX fun s hO => ?_
    skip
    refine sbl 4 ?_
    obtain ⟨wi, H⟩ := H
    obtain ⟨wj, H⟩ := H
    refine GoT.pure rfl (J04 underlying23 ti31 rfl rfl wi (ltn (t2neqH 1 hO rfl) wj) (t2someH 1 hO rfl wi wj)) rfl rfl ?_
    skip
    refine sfr 1 hO fun s hO => ?_
    refine sfr 1 hO fun s hO => ?_
    have zz := t2fix (hf := Fl.i) hO AW.u wi wj rfl
    obtain ⟨vL, E0, oh⟩ := zz
    refine GoT.stepX rfl (oh underlying31 rfl ti31 (by exact rfl) (by exact rfl)) rfl rfl rfl ?_
    refine nst E0 fun s hO => ?_
    refine sinc (natbd iw aj.bd) ?_
    refine au ?_
    exact hX7 _ H _ _ agr ⟨_, ⟨agr, hO, fr⟩, aU.u, aj.u, aR.u⟩
   refine au ?_
   obtain ⟨VO, H⟩ := H
   refine zo (J03 rfl rfl (wrap_i64 VO)) ?_
   refine au ?_
   exact hX6 _ H _ _ agr ⟨_, ⟨agr, hO, fr⟩, aU.u, aj.u, aR.u⟩
  refine au ?_
  refine drs 4 [q0, q0, q0, q0, q1, q0, q0, q0, q1, q0, q1, q0, q0, q1, q0, q0, q0, q1, q0, q2, q3, q0, q0, q3] hO fun wk s hO => ?_
  refine au ?_
  obtain ⟨VP, H⟩ := H
  refine GoQ.pure rfl (J03 rfl rfl (wrap_i64 VP)) rfl rfl ?_
  refine au ?_
  refine GoQ.pure rfl (J05 underlying120 ti120 (pl := [(0, 1), (1, 1), (2, 1)]) (vs := [(0, .int .i64 (cd + r112.Start)), (1, .slice aV r112.Final.length aW), (2, .int .i64 cd)]) (cs := #[.int .i64 (cd + r112.Start), .slice aV r112.Final.length aW, .int .i64 cd]) (by kernel_rfl) rfl (by kernel_rfl)) rfl rfl ?_
  have zz := obuildN (r := rppart) (n := 1) (parts := [(0, .agg #[.int .i64 (cd + r112.Start), .slice aV r112.Final.length aW, .int .i64 cd])]) (vs := [.int .i64 (cd + r112.Start), .slice aV r112.Final.length aW, .int .i64 cd]) (xs := [(⟨cd + r112.Start, r112.Final, cd⟩ : part)]) underlying81 ti120 hO (by decide) (by decide) (by kernel_rfl) (Els.consR (us := [.int .i64 (cd + r112.Start), .slice aV r112.Final.length aW, .int .i64 cd]) rfl ⟨rfl, ⟨aV, aW, rfl, aj.u⟩, rfl⟩ (Els.nil _ _ _) (by simp [mx])) rfl
  obtain ⟨aiz, aiA, E3, MD, ME, E4⟩ := zz
  refine GoQ.loud rfl (E4 rfl) ME rfl rfl ?_
  refine nst E3 fun s hO => ?_
  refine sfzR 0 hO MD fun s hO MF MG => ?_
  obtain ⟨ro, H⟩ := H
  have zz := oapp underlying81 ti120 rfl 2 hO rfl aU.u MF MG ro (by decide)
  obtain ⟨VQ, VR, aiB, adl, E5, AX, ol⟩ := zz
  dsimp only [sS, sZ] at AX
  refine GoQ.last rfl (ol (by exact rfl) (by exact rfl)) rfl rfl ?_
  refine nst E5 fun s hO => ?_
  refine sbs 3 hO fun wm s hO => ?_
  refine au ?_
  obtain ⟨VU, H⟩ := H
  refine zo (J03 rfl rfl (wrap_i64 VU)) ?_
  refine sbs 3 hO fun C7 s hO => ?_
  refine au ?_
  refine Go1.ret1V func62 rfl (show _ = .int .i64 (0 : Int) from rfl) ?_
  refine hR114 _ _ ?_
  refine au ?_
  refine zo (fun w => opB (J34 rfl rfl w) (ndT (by decide))) ?_
  refine sinc (natbd h93 aS.bd) ?_
  refine au ?_
  refine sdr [1] hO fun s hO => ?_
  refine sfr 3 hO fun s hO => ?_
  refine sfr 3 hO fun s hO => ?_
  refine sfr 2 hO fun s hO => ?_
  refine sfr 3 hO fun s hO => ?_
  exact hX3 _ H _ _ agr ⟨_, _, _, _, _, _, _, _, ⟨agr, hO, fr⟩, AX.u, hz246⟩
 refine au ?_
 refine GoR.inl (vs := [.pointer (some ⟨B70, 0, none⟩)]) (caps := []) rfl rfl body63 func63 rfl ntmps63 rfl rfl rfl ?_
 intro RhR363 hR363
 refine sal hO fun VV B365 s hO => ?_
 refine au ?_
 refine sfz2 2 hO fun s hO cH rq => ?_
 refine zcr (J02 body101 (by rw [rq]; exact rfl) (J20 hO.lt cH H)) fun _ aiC => e4 fun r369 r370 eK eM => e4 fun dW dX dM dN => e4 fun eN eO dY d5 => e2 fun d6 d7 => sc0 hO fun s hO => d1 fun az => d1 fun ah => d4 fun ai aq ag ar H => ?_
 refine sal hO fun aiD B373 s hO => ?_
 refine sba 0 hO fun VW s hO => ?_
 refine scm H (fun jV H => ?_) fun jV H => ?_
 ·refine sln0 ?_
  refine scm (H ah.bd) (fun E6 H => ?_) fun E6 H => ?_
  ·refine au ?_
   refine zo (J05 underlying33 ti33 (pl := [(0, 1), (1, 1), (2, 1), (3, 1), (4, 1), (5, 1)]) (vs := []) (cs := #[.int .i64 (0 : Int), .slice none 0 0, .slice none 0 0, .slice none 0 0, .slice none 0 0, .slice none 0 0]) (by kernel_rfl) rfl (by kernel_rfl)) ?_
   refine sba 1 hO fun Dc s hO => ?_
   refine au ?_
   refine Go1.retC3V func63 rfl rfl (rlb 1 hO) (show _ = .slice none 0 0 from rfl) (show _ = .int .i64 (3 : Int) from rfl) ?_
   refine hR363 _ _ ?_
   refine sal hO fun VX B380 s hO => ?_
   refine sba 0 hO fun E7 s hO => ?_
   refine au ?_
   refine zo (fun w => opB (J34 rfl rfl w) (ndF (by decide))) ?_
   refine au ?_
   refine zo (J05 underlying33 ti33 (pl := [(0, 1), (1, 1), (2, 1), (3, 1), (4, 1), (5, 1)]) (vs := []) (cs := #[.int .i64 (0 : Int), .slice none 0 0, .slice none 0 0, .slice none 0 0, .slice none 0 0, .slice none 0 0]) (by kernel_rfl) rfl (by kernel_rfl)) ?_
   refine sba 5 hO fun VY s hO => ?_
   refine au ?_
   refine Go1.retC3 func25 rfl rfl (rlb 5 hO) ⟨((⟨(0 : Int), ([] : List (List Int)), ([] : List Str), ([] : List Int), ([] : List Bool), ([] : List Bool)⟩ : Syntactic)), _, _, _, _, _, _, _, _, _, _, _, _, _, _, er, frs, (ISl.null _ _ _), (ISl.null _ _ _), (ISl.null _ _ _), (ISl.null _ _ _), (ISl.null _ _ _), (ISl.null _ _ _), H⟩
  refine au ?_
  refine drA Same.tr 1 [(0, m0), (1, m0), (2, m0), (3, m1), (4, m0), (5, m0), (7, m0), (9, m0), (10, m1), (11, m0), (12, m1), (14, m0), (13, m2), (6, m4), (8, m4), (15, m4), (16, m0), (17, m4), (18, m3)] hO fun vN s hO => ?_
  have mP := hO.le
  have hw386 := (fr : Fr (bl []) w0 _ vN).ch.size
  refine au ?_
  refine au ?_
  refine au ?_
  refine sbl 3 ?_
  refine slnN rq ?_
  refine au ?_
  refine au ?_
  refine au ?_
  refine sbl 0 ?_
  refine sxls hO ag.u (H cH.bd).1 (H cH.bd).2.1 fun rs aiE MH => ?_
  refine au ?_
  refine GoQA.loudI rfl rfl fun V0 A391 ru => ?_
  refine sgw ru hO fun s hO => ?_
  have aiF := (H cH.bd).1
  have aiG := (H cH.bd).2.1
  refine GoAt.call (J02 body86 rfl (J0m hO.lt MH.u (H cH.bd).2.2)) (fun _ _ hr => ⟨fun _ => saq hr, Same.kp hO (saq hr)⟩) rfl fun _ Un => e4 fun V1 uK om oo => sA1 hO fun s hO => fun H => ?_
  obtain ⟨V2, H⟩ := H
  obtain ⟨V3, H⟩ := H
  refine GoQA.alloc rfl rfl (alMake2 (e' := 3) Fl.i underlying23 ti31 V2 V3 (by decide) rfl rfl) ?_
  intro Dd A401 iV A403 MJ ML hd406 hnb407 hh408
  refine sgw MJ hO fun s hO => ?_
  refine sgn (e := t2 Fl.i 31 3 (some ⟨iV, 0, none⟩) r369.Elems.length r369.Elems.length ((fun _ => (none, 0))) (List.replicate r369.Elems.length ([] : List Int))) ML hO mP hw386 hnb407 (J6t iV) hh408 hd406 (fr : Fr (bl []) w0 _ Dd) fun s hO hB => ?_
  obtain ⟨oq, H⟩ := H
  obtain ⟨V4, H⟩ := H
  have zz := alMakeE (n := (r369.Elems.length : Int)) (r := Rp.str) (d := ([] : Str)) underlying30 ti9 (fun _ _ => ⟨rfl, Nat.zero_le _⟩) rfl oq V4 (by decide)
  obtain ⟨MM, hal425, MO⟩ := zz
  refine GoQA.alloc rfl rfl (hal425 rfl rfl) ?_
  intro V5 A413 ot A415 MP MQ hd418 hnb419 hh420
  refine sgw MP hO fun s hO => ?_
  have gY := elX hO (MO _ _)
  refine sgn (e := .row 9 1 (some ⟨ot, 0, none⟩) r369.Elems.length r369.Elems.length MM) MQ hO mP hw386 hnb419 rfl hh420 hd418 (fr : Fr (bl []) w0 _ V5) fun s hO hB => ?_
  replace gY := gY.ch s.ch
  refine cl1 Fl.str 0 hO gY.u fun s hO => ?_
  obtain ⟨jW, H⟩ := H
  obtain ⟨jX, H⟩ := H
  have zz := alMakeE (n := (r369.Elems.length : Int)) (r := Rp.bool) (d := false) underlying22 ti4 (fun _ _ => rfl) rfl jW jX (by decide)
  obtain ⟨MR, hal441, MS⟩ := zz
  refine GoQA.alloc rfl rfl (hal441 rfl rfl) ?_
  intro Dj A429 lX A431 MT MU hd434 hnb435 hh436
  refine sgw MT hO fun s hO => ?_
  have rv := elX hO (MS _ _)
  refine sgn (e := .row 4 1 (some ⟨lX, 0, none⟩) r369.Elems.length r369.Elems.length MR) MU hO mP hw386 hnb435 rfl hh436 hd434 (fr : Fr (bl []) w0 _ Dj) fun s hO hB => ?_
  replace rv := rv.ch s.ch
  refine cl1 Fl.bool 0 hO rv.u fun s hO => ?_
  refine GoQA.pure rfl (J05 underlying33 ti33 (pl := [(0, 1), (1, 1), (2, 1), (3, 1), (4, 1), (5, 1)]) (vs := [(0, .int .i64 (d_86.length : Int)), (1, .slice (some ⟨iV, 0, none⟩) r369.Elems.length r369.Elems.length), (2, .slice (some ⟨ot, 0, none⟩) r369.Elems.length r369.Elems.length), (3, .slice om uK oo), (5, .slice (some ⟨lX, 0, none⟩) r369.Elems.length r369.Elems.length)]) (cs := #[.int .i64 (d_86.length : Int), .slice (some ⟨iV, 0, none⟩) r369.Elems.length r369.Elems.length, .slice (some ⟨ot, 0, none⟩) r369.Elems.length r369.Elems.length, .slice om uK oo, .slice none 0 0, .slice (some ⟨lX, 0, none⟩) r369.Elems.length r369.Elems.length]) (by kernel_rfl) rfl (by kernel_rfl)) rfl rfl ?_
  refine GoQA.alloc rfl rfl (alAlloc (cs := #[.int .i64 (0 : Int), .slice none 0 0, .slice none 0 0, .slice none 0 0, .slice none 0 0, .slice none 0 0]) ti33 rfl) ?_
  intro V6 A445 V7 A447 MV MW hd450 hnb451 hh452
  refine sgw MV hO fun s hO => ?_
  refine sgn (e := .blk V7 (.cells #[.int .i64 (0 : Int), .slice none 0 0, .slice none 0 0, .slice none 0 0, .slice none 0 0, .slice none 0 0] 33 (0, 0))) MW hO mP hw386 hnb451 rfl hh452 hd450 (fr : Fr (bl []) w0 _ V6) fun s hO hB => ?_
  refine GoQA.lastI rfl rfl fun V8 A454 MX => ?_
  refine sgw MX hO fun s hO => ?_
  refine sba 0 hO fun Uv s hO => ?_
  refine GoQA.nil fun Dp A458 MY M0 => ?_
  refine sgw MY hO fun s hO => ?_
  refine spm M0 hO fun s hO => ?_
  refine au ?_
  refine lv [0, 2, 5, 7, 8] hO H (fun E (iW, AY, mQ) σ w => (fun Z => Lo A w0 σ w [(9, .int .i64 (iW : Int))] Z ∧ Els (rppart) (bl Z ++ A) w fU d_80 ∧ ISs (bl Z ++ A) w p87 c88 d_86 ∧ ISs (bl Z ++ A) w eK eM r369.Gens ∧ ISs (bl Z ++ A) w dW dX r369.Elems ∧ ISi (bl Z ++ A) w dM dN r369.Prefix ∧ ISi (bl Z ++ A) w eN eO r369.Last ∧ ISs (bl Z ++ A) w dY d5 r369.Right ∧ ISl (rpRule) (bl Z ++ A) w d6 d7 r369.Rules) (esets E [(1, t1 Fl.bool 4 (some ⟨lX, 0, none⟩) r369.Elems.length r369.Elems.length AY), (2, t1 Fl.str 9 (some ⟨ot, 0, none⟩) r369.Elems.length r369.Elems.length mQ)])) ⟨⟨agr, hO, fr⟩, aU.u, cH.u, az.u, ah.u, ai.u, aq.u, ag.u, ar.u⟩ ?_
  refine fun X8 => p2 fun iW AY mQ => fun H hX8 σ aiH hk => d1 fun hL => d1 fun aU => d1 fun cH => d1 fun az => d4 fun ah ai aq ag ar => lh hk (fun hO hB => ?_) hL
  dsimp only [esets, sS, sZ] at hO hB aU cH az ah ai aq ag ar
  dsimp only at H
  revert hO; repeat (rename Owns .. => q; clear q)
  intro hO; repeat (rename Sq .. => q; clear q)
  refine scm H (fun E8 H => ?_) fun E8 H => ?_
  ·refine au ?_
   refine drs 1 [q0, q1, q0, q0, q1, q0, q1, q0, q0, q1, q0, q1, q0, q1, q0, q0, q1, q0, q0, q2, q1, q0, q0, q3] hO fun V9 s hO => ?_
   refine sxl hO ai.u H.1 H.2.1 ?_
   refine sxl1 2 hO H.2.2.1 H.2.2.2.1 ?_
   have hle467 := t1le 2 hO H.2.2.1 H.2.2.2.1
   refine sxl hO aq.u H.2.2.2.2.1 H.2.2.2.2.2.1 ?_
   have aiI := H.1
   have aiJ := H.2.1
   have aiK := H.2.2.1
   have aiL := H.2.2.2.1
   have aiM := H.2.2.2.2.1
   have aiN := H.2.2.2.2.2.1
   replace H := H.2.2.2.2.2.2
   obtain ⟨vO, H⟩ := H
   refine GoQ.pure rfl (J03 rfl rfl (wrap_i64 vO)) rfl rfl ?_
   refine GoQ.pure rfl (J1Y underlying3 underlying5 rfl rfl) rfl rfl ?_
   refine sbu (Fl.int .u8) 5 [(IntKind.u8.wrap ((97 : Int) + (ix r369.Last (iW : Int))))] hO fun Uw Ux s hO => ?_
   refine op1 0 hO fun KQ s hO rB => ?_
   have hle480 := J0u rB.bd
   refine GoQ.stable rfl (oldBytes 0 hO rfl rB.u underlying126 underlying5 underlying9 rfl) rfl rfl ?_
   obtain ⟨rC, H⟩ := H
   refine GoQ.pure rfl (J08 rfl rfl rC) rfl rfl ?_
   refine six1 3 hO H.1 H.2.1 ?_
   refine sst (u := ((ix mQ (ix r369.Prefix (iW : Int))) ++ (byt ([(IntKind.u8.wrap ((97 : Int) + (ix r369.Last (iW : Int))))])))) 3 hO H.1 H.2.1 (fun Wa s hO => ?_) (hR := by exact fun _ _ => ⟨rfl, (lenApp rC)⟩)
   refine six1 2 hO H.2.2.1 H.2.2.2.1 ?_
   refine sst (u := true) 2 hO H.2.2.1 H.2.2.2.1 fun Uy s hO => ?_
   refine sinc (natbd E8 ah.bd) ?_
   refine au ?_
   refine cl1 (Fl.int .u8) 0 hO rB.u fun s hO => ?_
   refine sdr [0] hO fun s hO => ?_
   exact hX8 _ H.2.2.2.2 _ _ agr ⟨⟨agr, hO, fr⟩, aU.u, cH.u, az.u, ah.u, ai.u, aq.u, ag.u, ar.u⟩
  refine sln0 ?_
  refine au ?_
  refine lv [0, 2, 5, 7, 8, 86, 87] hO (H ag.bd) (fun E (eG, rD, rE) σ w => ∃ mS, (fun Z => Lo A w0 σ w [(88, .int .i64 (eG : Int))] Z ∧ Els (rppart) (bl Z ++ A) w fU d_80 ∧ ISs (bl Z ++ A) w p87 c88 d_86 ∧ ISs (bl Z ++ A) w eK eM r369.Gens ∧ ISs (bl Z ++ A) w dW dX r369.Elems ∧ ISi (bl Z ++ A) w dM dN r369.Prefix ∧ ISi (bl Z ++ A) w eN eO r369.Last ∧ ISs (bl Z ++ A) w dY d5 r369.Right ∧ ISl (rpRule) (bl Z ++ A) w d6 d7 r369.Rules) (esets E [(1, t1 Fl.bool 4 (some ⟨lX, 0, none⟩) r369.Elems.length r369.Elems.length rD), (3, t2 Fl.i 31 3 (some ⟨iV, 0, none⟩) r369.Elems.length r369.Elems.length mS rE)])) ⟨_, ⟨agr, hO, fr⟩, aU.u, cH.u, az.u, ah.u, ai.u, aq.u, ag.u, ar.u⟩ ?_
  refine fun X9 => p2 fun eG rD rE => fun H hX9 σ Uz hk => e1 fun mS => d1 fun hL => d1 fun aU => d1 fun cH => d1 fun az => d4 fun ah ai aq ag ar => lh hk (fun hO hB => ?_) hL
  dsimp only [esets, sS, sZ] at hO hB aU cH az ah ai aq ag ar
  dsimp only at H
  revert hO; repeat (rename Owns .. => q; clear q)
  intro hO; repeat (rename Sq .. => q; clear q)
  refine scm H (fun wn H => ?_) fun wn H => ?_
  ·refine sxls hO ag H.1 H.2.1 fun aiO aiP M1 => ?_
   refine au ?_
   refine drs 1 [q0, q1, q0, q1, q0, q1, q0, q0, q2, q0, q0, q3] hO fun UA s hO => ?_
   refine au ?_
   have aiQ := H.1
   have E9 := H.2.1
   have aiR := H.2.2.1
   have aiS := H.2.2.2.1
   refine sxb1 1 hO H.2.2.1 H.2.2.2.1 H.2.2.2.2 (fun Wb H => ?_) fun Wb H => ?_
   ·refine six1 1 hO H.1 H.2.1 ?_
    refine sst (u := true) 1 hO H.1 H.2.1 fun Wc s hO => ?_
    refine au ?_
    refine drs 1 [q0, q1, q0, q0, q2, q0, q3] hO fun aiT s hO => ?_
    refine smk Fl.i H.2.2 hO fun aiU Wd s hO => ?_
    have aiV := H.1
    have aiW := H.2.1
    replace H := H.2.2.2.2
    obtain ⟨wo, H⟩ := H
    obtain ⟨nP, H⟩ := H
    refine GoQ.pure rfl (J04 underlying23 ti31 rfl rfl wo (ltn (t2neq 4 hO rfl) nP) (t2some 4 hO rfl wo nP)) rfl rfl ?_
    refine op1 0 hO fun adm s hO M2 => ?_
    refine sfr 4 hO fun s hO => ?_
    refine sfr 1 hO fun s hO => ?_
    have zz := t2put (hf := Fl.i) hO M2.u wo nP
    obtain ⟨aiX, Fa, Fb⟩ := zz
    refine GoQ.last rfl (Fb underlying31 rfl ti31 (by exact rfl) (by exact rfl)) rfl rfl ?_
    refine nst Fa fun s hO => ?_
    refine au ?_
    obtain ⟨ou, H⟩ := H
    obtain ⟨ov, H⟩ := H
    refine zo (J04 underlying23 ti31 rfl rfl ou (ltn (t2neq 0 hO rfl) ov) (t2some 0 hO rfl ou ov)) ?_
    refine zs (t2head 0 hO rfl ou ov underlying31 rfl rfl) ?_
    refine au ?_
    obtain ⟨wq, H⟩ := H
    obtain ⟨wr, H⟩ := H
    refine zo (J04 underlying31 ti3 rfl rfl wq wr (t2isome 0 hO rfl ou ov wq wr)) ?_
    have zz := t2st (r := Rp.int .i64) (hf := Fl.i) rfl 0 hO rfl ou ov wq wr (v := .int .i64 (eG : Int)) (u := (eG : Int)) rfl rfl
    obtain ⟨UC, Fc, Fd⟩ := zz
    refine zg (Fd underlying3 rfl ti3 (by exact rfl) (by exact rfl)) ?_
    refine nst Fc fun s hO => ?_
    refine au ?_
    refine lv [0, 2, 5, 7, 8, 10, 86, 87, 88] hO H (fun E (gF, mT) σ w => (fun Z => Lo A w0 σ w [(12, .int .i64 (gF : Int))] Z ∧ Els (rppart) (bl Z ++ A) w fU d_80 ∧ ISs (bl Z ++ A) w p87 c88 d_86 ∧ ISs (bl Z ++ A) w eK eM r369.Gens ∧ ISs (bl Z ++ A) w dW dX r369.Elems ∧ ISi (bl Z ++ A) w dM dN r369.Prefix ∧ ISi (bl Z ++ A) w eN eO r369.Last ∧ ISs (bl Z ++ A) w dY d5 r369.Right ∧ ISl (rpRule) (bl Z ++ A) w d6 d7 r369.Rules) (E.set 0 (t2 Fl.i 31 3 (some ⟨iV, 0, none⟩) r369.Elems.length r369.Elems.length (hup mS (eG : Int).toNat (Wd, r369.Elems.length)) mT))) ⟨⟨agr, hO, fr⟩, aU.u, cH.u, az.u, ah.u, ai.u, aq.u, ag.u, ar.u⟩ ?_
    refine fun X10 => p1 fun gF mT => fun H hX10 σ UD hk => d1 fun hL => d1 fun aU => d1 fun cH => d1 fun az => d4 fun ah ai aq ag ar => lh hk (fun hO hB => ?_) hL
    dsimp only [esets, sS, sZ] at hO hB aU cH az ah ai aq ag ar
    dsimp only at H
    revert hO; repeat (rename Owns .. => q; clear q)
    intro hO; repeat (rename Sq .. => q; clear q)
    refine scm H (fun Fe H => ?_) fun Fe H => ?_
    ·refine au ?_
     refine drs 1 [q0, q1, q0, q0, q1, q0, q0, q1, q0, q1, q0, q0, q1, q0, q1, q0, q0, q1, q0, q1, q0, q1, q0, q1, q0, q0, q1, q0, q1, q0, q3] hO fun aiY s hO => ?_
     refine au ?_
     obtain ⟨ow, H⟩ := H
     obtain ⟨oA, H⟩ := H
     refine GoQ.pure rfl (J04 underlying23 ti31 rfl rfl ow (ltn (t2neq 0 hO rfl) oA) (t2some 0 hO rfl ow oA)) rfl rfl ?_
     refine GoQ.stable rfl (t2head 0 hO rfl ow oA underlying31 rfl rfl) rfl rfl ?_
     refine au ?_
     obtain ⟨oB, H⟩ := H
     obtain ⟨iX, H⟩ := H
     refine GoQ.pure rfl (J04 underlying23 ti31 rfl rfl oB (ltn (t2neq 0 hO rfl) iX) (t2some 0 hO rfl oB iX)) rfl rfl ?_
     refine GoQ.stable rfl (t2head 0 hO rfl oB iX underlying31 rfl rfl) rfl rfl ?_
     refine sxl hO ai.u H.1 H.2.1 ?_
     have ai0 := H.1
     have ai1 := H.2.1
     replace H := H.2.2
     obtain ⟨ws, H⟩ := H
     obtain ⟨wt, H⟩ := H
     refine GoQ.pure rfl (J04 underlying31 ti3 rfl rfl ws wt (t2isome 0 hO rfl oB iX ws wt)) rfl rfl ?_
     refine GoQ.stable rfl (t2Int 0 hO rfl oB iX ws wt underlying3 rfl rfl) rfl rfl ?_
     refine sxls hO ag.u H.1 H.2.1 fun ai2 ai3 M3 => ?_
     refine sxl hO aq.u H.2.2.1 H.2.2.2.1 ?_
     refine sxl hO M3.u H.2.2.2.2.1 H.2.2.2.2.2.1 ?_
     have ai4 := H.1
     have Ff := H.2.1
     have ai5 := H.2.2.1
     have ai6 := H.2.2.2.1
     have ai7 := H.2.2.2.2.1
     have ai8 := H.2.2.2.2.2.1
     replace H := H.2.2.2.2.2.2
     obtain ⟨lY, H⟩ := H
     obtain ⟨wu, H⟩ := H
     refine GoQ.pure rfl (J04 underlying31 ti3 rfl rfl lY wu (t2isome 0 hO rfl ow oA lY wu)) rfl rfl ?_
     have zz := t2st (r := Rp.int .i64) (hf := Fl.i) rfl 0 hO rfl ow oA lY wu (v := .int .i64 (ix (ix r369.Right (ix (ix mT (eG : Int)) (ix r369.Prefix (gF : Int)))) (ix r369.Last (gF : Int)))) (u := (ix (ix r369.Right (ix (ix mT (eG : Int)) (ix r369.Prefix (gF : Int)))) (ix r369.Last (gF : Int)))) rfl rfl
     obtain ⟨UJ, Fg, Fh⟩ := zz
     refine GoQ.last rfl (Fh underlying3 rfl ti3 (by exact rfl) (by exact rfl)) rfl rfl ?_
     refine nst Fg fun s hO => ?_
     refine sinc (natbd Fe ah.bd) ?_
     refine au ?_
     exact hX10 _ H _ _ agr ⟨⟨agr, hO, fr⟩, aU.u, cH.u, az.u, ah.u, ai.u, aq.u, ag.u, ar.u⟩
    refine sinc (natbd wn ag.bd) ?_
    refine au ?_
    refine sfr 9 hO fun s hO => ?_
    refine sfr 9 hO fun s hO => ?_
    refine sfr 9 hO fun s hO => ?_
    refine sfr 9 hO fun s hO => ?_
    refine sfr 9 hO fun s hO => ?_
    refine sfr 9 hO fun s hO => ?_
    refine sfr 6 hO fun s hO => ?_
    refine sfr 9 hO fun s hO => ?_
    refine sfr 9 hO fun s hO => ?_
    refine sfr 9 hO fun s hO => ?_
    exact hX9 _ H _ _ agr ⟨_, ⟨agr, hO, fr⟩, aU.u, cH.u, az.u, ah.u, ai.u, aq.u, ag.u, ar.u⟩
   refine au ?_
   refine zcq rfl (J02 body102 rfl (J17 hO.lt M1.u H)) fun _ We => e1 fun Wf => sq0 hO fun s hO => fun H => ?_
   refine six1 1 hO H.1 H.2.1 ?_
   refine sst (u := Wf) 1 hO H.1 H.2.1 fun ai9 s hO => ?_
   refine au ?_
   refine drs 1 [q0, q1, q0, q0, q2, q0, q3] hO fun aja s hO => ?_
   refine smk Fl.i H.2.2 hO fun ajb Wg s hO => ?_
   have ajc := H.1
   have ajd := H.2.1
   replace H := H.2.2.2.2
   obtain ⟨ww, H⟩ := H
   obtain ⟨wz, H⟩ := H
   refine GoQ.pure rfl (J04 underlying23 ti31 rfl rfl ww (ltn (t2neq 4 hO rfl) wz) (t2some 4 hO rfl ww wz)) rfl rfl ?_
   refine op1 0 hO fun M4 s hO kN => ?_
   refine sfr 4 hO fun s hO => ?_
   refine sfr 1 hO fun s hO => ?_
   have zz := t2put (hf := Fl.i) hO kN.u ww wz
   obtain ⟨aje, Fi, Fj⟩ := zz
   refine GoQ.last rfl (Fj underlying31 rfl ti31 (by exact rfl) (by exact rfl)) rfl rfl ?_
   refine nst Fi fun s hO => ?_
   refine au ?_
   obtain ⟨oC, H⟩ := H
   obtain ⟨jN, H⟩ := H
   refine zo (J04 underlying23 ti31 rfl rfl oC (ltn (t2neq 0 hO rfl) jN) (t2some 0 hO rfl oC jN)) ?_
   refine zs (t2head 0 hO rfl oC jN underlying31 rfl rfl) ?_
   refine au ?_
   obtain ⟨wA, H⟩ := H
   obtain ⟨wB, H⟩ := H
   refine zo (J04 underlying31 ti3 rfl rfl wA wB (t2isome 0 hO rfl oC jN wA wB)) ?_
   have zz := t2st (r := Rp.int .i64) (hf := Fl.i) rfl 0 hO rfl oC jN wA wB (v := .int .i64 (eG : Int)) (u := (eG : Int)) rfl rfl
   obtain ⟨Wh, Fk, Fm⟩ := zz
   refine zg (Fm underlying3 rfl ti3 (by exact rfl) (by exact rfl)) ?_
   refine nst Fk fun s hO => ?_
   refine au ?_
   refine lv [0, 2, 5, 7, 8, 10, 86, 87, 88] hO H (fun E (gG, mU) σ w => (fun Z => Lo A w0 σ w [(12, .int .i64 (gG : Int))] Z ∧ Els (rppart) (bl Z ++ A) w fU d_80 ∧ ISs (bl Z ++ A) w p87 c88 d_86 ∧ ISs (bl Z ++ A) w eK eM r369.Gens ∧ ISs (bl Z ++ A) w dW dX r369.Elems ∧ ISi (bl Z ++ A) w dM dN r369.Prefix ∧ ISi (bl Z ++ A) w eN eO r369.Last ∧ ISs (bl Z ++ A) w dY d5 r369.Right ∧ ISl (rpRule) (bl Z ++ A) w d6 d7 r369.Rules) (E.set 0 (t2 Fl.i 31 3 (some ⟨iV, 0, none⟩) r369.Elems.length r369.Elems.length (hup mS (eG : Int).toNat (Wg, r369.Elems.length)) mU))) ⟨⟨agr, hO, fr⟩, aU.u, cH.u, az.u, ah.u, ai.u, aq.u, ag.u, ar.u⟩ ?_
   refine fun X11 => p1 fun gG mU => fun H hX11 σ ajf hk => d1 fun hL => d1 fun aU => d1 fun cH => d1 fun az => d4 fun ah ai aq ag ar => lh hk (fun hO hB => ?_) hL
   dsimp only [esets, sS, sZ] at hO hB aU cH az ah ai aq ag ar
   dsimp only at H
   revert hO; repeat (rename Owns .. => q; clear q)
   intro hO; repeat (rename Sq .. => q; clear q)
   refine scm H (fun Fo H => ?_) fun Fo H => ?_
   ·refine au ?_
    refine drs 1 [q0, q1, q0, q0, q1, q0, q0, q1, q0, q1, q0, q0, q1, q0, q1, q0, q0, q1, q0, q1, q0, q1, q0, q1, q0, q0, q1, q0, q1, q0, q3] hO fun UK s hO => ?_
    refine au ?_
    obtain ⟨oD, H⟩ := H
    obtain ⟨oE, H⟩ := H
    refine GoQ.pure rfl (J04 underlying23 ti31 rfl rfl oD (ltn (t2neq 0 hO rfl) oE) (t2some 0 hO rfl oD oE)) rfl rfl ?_
    refine GoQ.stable rfl (t2head 0 hO rfl oD oE underlying31 rfl rfl) rfl rfl ?_
    refine au ?_
    obtain ⟨oF, H⟩ := H
    obtain ⟨oG, H⟩ := H
    refine GoQ.pure rfl (J04 underlying23 ti31 rfl rfl oF (ltn (t2neq 0 hO rfl) oG) (t2some 0 hO rfl oF oG)) rfl rfl ?_
    refine GoQ.stable rfl (t2head 0 hO rfl oF oG underlying31 rfl rfl) rfl rfl ?_
    refine sxl hO ai.u H.1 H.2.1 ?_
    have ajg := H.1
    have ajh := H.2.1
    replace H := H.2.2
    obtain ⟨wC, H⟩ := H
    obtain ⟨wD, H⟩ := H
    refine GoQ.pure rfl (J04 underlying31 ti3 rfl rfl wC wD (t2isome 0 hO rfl oF oG wC wD)) rfl rfl ?_
    refine GoQ.stable rfl (t2Int 0 hO rfl oF oG wC wD underlying3 rfl rfl) rfl rfl ?_
    refine sxls hO ag.u H.1 H.2.1 fun aji ajj M5 => ?_
    refine sxl hO aq.u H.2.2.1 H.2.2.2.1 ?_
    refine sxl hO M5.u H.2.2.2.2.1 H.2.2.2.2.2.1 ?_
    have ajk := H.1
    have ajl := H.2.1
    have Fp := H.2.2.1
    have ajm := H.2.2.2.1
    have ajn := H.2.2.2.2.1
    have ajo := H.2.2.2.2.2.1
    replace H := H.2.2.2.2.2.2
    obtain ⟨wE, H⟩ := H
    obtain ⟨wF, H⟩ := H
    refine GoQ.pure rfl (J04 underlying31 ti3 rfl rfl wE wF (t2isome 0 hO rfl oD oE wE wF)) rfl rfl ?_
    have zz := t2st (r := Rp.int .i64) (hf := Fl.i) rfl 0 hO rfl oD oE wE wF (v := .int .i64 (ix (ix r369.Right (ix (ix mU (eG : Int)) (ix r369.Prefix (gG : Int)))) (ix r369.Last (gG : Int)))) (u := (ix (ix r369.Right (ix (ix mU (eG : Int)) (ix r369.Prefix (gG : Int)))) (ix r369.Last (gG : Int)))) rfl rfl
    obtain ⟨Wi, Fq, Fs⟩ := zz
    refine GoQ.last rfl (Fs underlying3 rfl ti3 (by exact rfl) (by exact rfl)) rfl rfl ?_
    refine nst Fq fun s hO => ?_
    refine sinc (natbd Fo ah.bd) ?_
    refine au ?_
    exact hX11 _ H _ _ agr ⟨⟨agr, hO, fr⟩, aU.u, cH.u, az.u, ah.u, ai.u, aq.u, ag.u, ar.u⟩
   refine sinc (natbd wn ag.bd) ?_
   refine au ?_
   refine sfr 9 hO fun s hO => ?_
   refine sfr 9 hO fun s hO => ?_
   refine sfr 9 hO fun s hO => ?_
   refine sfr 9 hO fun s hO => ?_
   refine sfr 9 hO fun s hO => ?_
   refine sfr 9 hO fun s hO => ?_
   refine sfr 6 hO fun s hO => ?_
   refine sfr 9 hO fun s hO => ?_
   refine sfr 9 hO fun s hO => ?_
   refine sfr 9 hO fun s hO => ?_
   exact hX9 _ H _ _ agr ⟨_, ⟨agr, hO, fr⟩, aU.u, cH.u, az.u, ah.u, ai.u, aq.u, ag.u, ar.u⟩
  refine au ?_
  refine zo (J0t underlying81 rfl (Els.neqW aU.u hO 7 rfl)) ?_
  obtain ⟨Wj, H⟩ := H
  obtain ⟨Wk, H⟩ := H
  have zz := t2makeS (m := (d_80.length : Int)) (e' := 4) Fl.bool underlying40 ti22 hO Wj Wk (by decide)
  obtain ⟨ajp, rF, Ft, adn, Fu, hz607⟩ := zz
  refine zg (Fu rfl rfl) ?_
  refine nst Ft fun s hO => ?_
  refine au ?_
  refine zo (J0t underlying81 rfl (Els.neqW aU.u hO 8 rfl)) ?_
  refine au ?_
  refine sdr [9] hO fun s hO => ?_
  refine lv [2, 5, 7, 8, 13, 162, 163] hO H (fun E (fV, d_610) σ w => ∃ rG, (fun Z => Lo A w0 σ w [(164, .int .i64 (fV : Int))] Z ∧ Els (rppart) (bl Z ++ A) w fU d_80 ∧ ISs (bl Z ++ A) w eK eM r369.Gens ∧ ISs (bl Z ++ A) w dW dX r369.Elems ∧ ISi (bl Z ++ A) w dM dN r369.Prefix ∧ ISi (bl Z ++ A) w eN eO r369.Last ∧ ISs (bl Z ++ A) w dY d5 r369.Right ∧ ISl (rpRule) (bl Z ++ A) w d6 d7 r369.Rules) (E.set 0 (t2 Fl.bool 22 4 rF d_80.length d_80.length rG d_610))) ⟨_, ⟨agr, hO, fr⟩, aU.u, az.u, ah.u, ai.u, aq.u, ag.u, ar.u⟩ ?_
  refine fun X12 => p1 fun fV d_610 => fun H hX12 σ DP hk => e1 fun rG => d1 fun hL => d1 fun aU => d1 fun az => d4 fun ah ai aq ag ar => lh hk (fun hO hB => ?_) hL
  dsimp only [esets, sS, sZ] at hO hB aU az ah ai aq ag ar
  dsimp only at H
  revert hO; repeat (rename Owns .. => q; clear q)
  intro hO; repeat (rename Sq .. => q; clear q)
  refine scm H (fun oH H => ?_) fun oH H => ?_
  ·refine au ?_
   obtain ⟨wG, H⟩ := H
   obtain ⟨wH, H⟩ := H
   refine zo (J04 underlying81 ti120 rfl rfl wG (ltn (Els.neqW aU hO 8 rfl) wH) (Els.psomeW aU hO 8 rfl wG wH)) ?_
   have M6 := oldAggR 8 hO rfl (r := rppart) aU wG wH
   obtain ⟨ado, M7, hR618, Fv⟩ := M6
   replace hR618 := J6e M7 hR618
   obtain ⟨Wl, Wm, hcs620, kO⟩ := hR618
   subst hcs620
   refine zs (Fv underlying120 rfl ti120 rfl) ?_
   refine sal hO fun ajq B625 s hO => ?_
   refine sba 0 hO fun ajr s hO => ?_
   refine smk Fl.bool H hO fun UV DT s hO => ?_
   replace H := H.2.2
   obtain ⟨wI, H⟩ := H
   obtain ⟨wJ, H⟩ := H
   refine zo (J04 underlying40 ti22 rfl rfl wI (ltn (t2neq 2 hO rfl) wJ) (t2some 2 hO rfl wI wJ)) ?_
   refine op1 0 hO fun adp s hO M8 => ?_
   refine sfr 2 hO fun s hO => ?_
   refine sfr 1 hO fun s hO => ?_
   have zz := t2put (hf := Fl.bool) hO M8.u wI wJ
   obtain ⟨ajs, Fw, Fx⟩ := zz
   refine zg (Fx underlying22 rfl ti22 (by exact rfl) (by exact rfl)) ?_
   refine nst Fw fun s hO => ?_
   refine sln0 ?_
   refine au ?_
   refine lv [2, 5, 7, 8, 13, 14, 15, 162, 163, 164, 175, 176] hO H (fun E (ql, A4) σ w => (fun Z => Lo A w0 σ w [(177, .int .i64 (ql : Int))] Z ∧ Els (rppart) (bl Z ++ A) w fU d_80 ∧ ISs (bl Z ++ A) w eK eM r369.Gens ∧ ISs (bl Z ++ A) w dW dX r369.Elems ∧ ISi (bl Z ++ A) w dM dN r369.Prefix ∧ ISi (bl Z ++ A) w eN eO r369.Last ∧ ISs (bl Z ++ A) w dY d5 r369.Right ∧ ISl (rpRule) (bl Z ++ A) w d6 d7 r369.Rules ∧ ISb (bl Z ++ A) w Wl Wm ((ix d_80 (fV : Int)).final)) (E.set 0 (t2 Fl.bool 22 4 rF d_80.length d_80.length (hup rG (fV : Int).toNat (DT, r369.Elems.length)) A4))) ⟨⟨agr, hO, fr⟩, aU.u, az.u, ah.u, ai.u, aq.u, ag.u, ar.u, kO.u⟩ ?_
   refine fun X13 => p1 fun ql A4 => fun H hX13 σ Wn hk => d1 fun hL => d1 fun aU => d1 fun az => d1 fun ah => d4 fun ai aq ag ar kO => lh hk (fun hO hB => ?_) hL
   dsimp only [esets, sS, sZ] at hO hB aU az ah ai aq ag ar kO
   dsimp only at H
   revert hO; repeat (rename Owns .. => q; clear q)
   intro hO; repeat (rename Sq .. => q; clear q)
   refine scm H (fun Fy H => ?_) fun Fy H => ?_
   ·refine sxls hO ah H.1 H.2.1 fun ajt aju M9 => ?_
    refine au ?_
    refine drs 1 [q0, q0, q0, q1, q0, q1, q0, q2, q0, q3] hO fun ajv s hO => ?_
    refine au ?_
    have ajw := H.1
    have ajx := H.2.1
    replace H := H.2.2
    obtain ⟨oI, H⟩ := H
    obtain ⟨oJ, H⟩ := H
    refine GoQ.pure rfl (J04 underlying40 ti22 rfl rfl oI (ltn (t2neq 0 hO rfl) oJ) (t2some 0 hO rfl oI oJ)) rfl rfl ?_
    refine GoQ.stable rfl (t2head 0 hO rfl oI oJ underlying22 rfl rfl) rfl rfl ?_
    refine sag 1 hO ?_
    refine au ?_
    refine zcq rfl (J02 body103 rfl (J0R (p := (⟨((ix d_80 (fV : Int)).start), (ix d_80 (fV : Int)).final, ((ix d_80 (fV : Int)).shift)⟩ : part)) hO.lt kO.u M9.u H)) fun _ ajy => e1 fun Fz => sq0 hO fun s hO => fun H => ?_
    obtain ⟨wK, H⟩ := H
    obtain ⟨wL, H⟩ := H
    refine GoQ.pure rfl (J04 underlying22 ti4 rfl rfl wK wL (t2isome 0 hO rfl oI oJ wK wL)) rfl rfl ?_
    have zz := t2st (r := Rp.bool) (hf := Fl.bool) rfl 0 hO rfl oI oJ wK wL (v := .bool Fz) (u := Fz) rfl rfl
    obtain ⟨ajz, FA, FB⟩ := zz
    refine GoQ.last rfl (FB underlying4 rfl ti4 (by exact rfl) (by exact rfl)) rfl rfl ?_
    refine nst FA fun s hO => ?_
    refine sinc (natbd Fy ah.bd) ?_
    refine au ?_
    exact hX13 _ H _ _ agr ⟨⟨agr, hO, fr⟩, aU.u, az.u, ah.u, ai.u, aq.u, ag.u, ar.u, kO.u⟩
   refine sinc (natbd oH aU.bd) ?_
   refine au ?_
   refine sdr [1] hO fun s hO => ?_
   exact hX12 _ H _ _ agr ⟨_, ⟨agr, hO, fr⟩, aU.u, az.u, ah.u, ai.u, aq.u, ag.u, ar.u⟩
  refine sag 1 hO ?_
  refine sba 7 hO fun ajA s hO => ?_
  refine au ?_
  refine Go1.retC3V func63 rfl rfl (rlb 7 hO) (show _ = .slice rF d_80.length d_80.length from rfl) (show _ = .int .i64 (0 : Int) from rfl) ?_
  refine hR363 _ _ ?_
  refine sal hO fun Wo B659 s hO => ?_
  refine sba 0 hO fun ajB s hO => ?_
  refine au ?_
  refine zo (fun w => opB (J34 rfl rfl w) (ndT (by decide))) ?_
  refine au ?_
  obtain ⟨oK, H⟩ := H
  obtain ⟨oL, H⟩ := H
  refine zo (J04 underlying40 ti22 rfl rfl oK (ltn (t2neq 1 hO rfl) oL) (t2some 1 hO rfl oK oL)) ?_
  refine zs (t2head 1 hO rfl oK oL underlying22 rfl rfl) ?_
  have adq := t2lend 1 hO rfl
  have adr := t2neq 1 hO rfl
  have Na := t2lendIn 1 hO rfl oK oL
  have hOc667 := hO.drop 1
  refine zcr (J02 body69 rfl (J3m hOc667.lt Na H)) fun _ Wp => e4 fun Wq acm FC FD => sc1 hO fun s hO => fun H => ?_
  refine sbs 1 hO fun ajC s hO => ?_
  refine sag 1 hO ?_
  refine sba 11 hO fun U1 s hO => ?_
  refine au ?_
  refine sfz2 6 hO fun s hO Nb Nc => ?_
  refine sfz 5 hO fun s hO qN qO => ?_
  refine sfz 5 hO fun s hO rH A5 => ?_
  refine sfz 0 hO fun s hO Nd Nf => ?_
  refine sfz 3 hO fun s hO Ng Nh => ?_
  have A6 := t2lendIn 1 hO rfl oK oL
  refine sfz2 1 hO fun s hO Ni Nj => ?_
  refine Go1.retC3 func25 rfl rfl (rlb 5 hO) ⟨((⟨(d_86.length : Int), rE, mQ, V1, Wq, rD⟩ : Syntactic)), _, _, _, _, _, _, _, _, _, _, _, _, _, _, ?_, frs, Nb.r, qN.r, rH.r, Nd.r, Ng.r, Ni.r, H⟩
  exact (congrArg (fun l => Value.tuple (List.toArray l)) (J01 (congrArg (fun l => Value.agg (List.toArray l)) (J01 rfl (J01 (congrArg (fun nn => Value.slice (some ⟨iV, 0, none⟩) nn r369.Elems.length) Nc) (J01 (congrArg (fun nn => Value.slice (some ⟨ot, 0, none⟩) nn r369.Elems.length) qO) (J01 (congrArg (fun nn => Value.slice om nn oo) A5) (J01 (congrArg (fun nn => Value.slice FC nn FD) Nf) (J01 (congrArg (fun nn => Value.slice (some ⟨lX, 0, none⟩) nn r369.Elems.length) Nh) rfl))))))) (J01 (congrArg (fun nn => Value.slice rF nn d_80.length) Nj) (J01 rfl rfl))))
 refine au ?_
 refine zo (J05 underlying33 ti33 (pl := [(0, 1), (1, 1), (2, 1), (3, 1), (4, 1), (5, 1)]) (vs := []) (cs := #[.int .i64 (0 : Int), .slice none 0 0, .slice none 0 0, .slice none 0 0, .slice none 0 0, .slice none 0 0]) (by kernel_rfl) rfl (by kernel_rfl)) ?_
 refine sba 1 hO fun ajD s hO => ?_
 refine au ?_
 refine Go1.retC3V func63 rfl rfl (rlb 1 hO) (show _ = .slice none 0 0 from rfl) (show _ = .int .i64 r370 from rfl) ?_
 refine hR363 _ _ ?_
 refine sal hO fun D7 B689 s hO => ?_
 refine sba 0 hO fun ajE s hO => ?_
 refine au ?_
 refine zo (fun w => opB (J34 rfl rfl w) (ndF jV)) ?_
 refine au ?_
 refine zo (J05 underlying33 ti33 (pl := [(0, 1), (1, 1), (2, 1), (3, 1), (4, 1), (5, 1)]) (vs := []) (cs := #[.int .i64 (0 : Int), .slice none 0 0, .slice none 0 0, .slice none 0 0, .slice none 0 0, .slice none 0 0]) (by kernel_rfl) rfl (by kernel_rfl)) ?_
 refine sba 5 hO fun Ws s hO => ?_
 refine au ?_
 refine Go1.retC3 func25 rfl rfl (rlb 5 hO) ⟨((⟨(0 : Int), ([] : List (List Int)), ([] : List Str), ([] : List Int), ([] : List Bool), ([] : List Bool)⟩ : Syntactic)), _, _, _, _, _, _, _, _, _, _, _, _, _, _, er, frs, (ISl.null _ _ _), (ISl.null _ _ _), (ISl.null _ _ _), (ISl.null _ _ _), (ISl.null _ _ _), (ISl.null _ _ _), H⟩
theorem body41 : Body prog 41 := ⟨f41, func41, rfl, by kernel_rfl⟩
theorem J5h {w_ : Str} {letters : Int} (hA : HA0 A w0) (jr : w_.length ≤ mx) {K : Bool → Prop} (H : J2p w_ letters K) :
    CallsV prog 41 #[.string (gstr w_), .int .i64 letters] w0 (fun v w' => ∃ (r0 : Bool), v = .bool r0 ∧ Same w0 w' ∧ K r0) := by
 refine cal hA func41 ntmps41 fun hO hB => ?_
 unfold J2p at H
 refine au ?_
 refine zcr (J02 body59 rfl (J1O hO.lt H)) fun _ w2 => e1 fun r1 => sc0 hO fun s hO => fun H => ?_
 cases r1
 ·refine au ?_
  refine Go1.ret1 func41 rfl ⟨_, er, frs, (iF H)⟩
 refine au ?_
 refine zo (J6A underlying9 rfl) ?_
 replace H := (iT H)
 replace H := H jr
 refine scm H (fun h3 H => ?_) fun h3 H => ?_
 ·refine au ?_
  refine Go1.ret1 func41 rfl ⟨_, er, frs, H⟩
 refine au ?_
 refine lv [0, 1] hO H (fun E i1_5 σ w => Lo A w0 σ w [(5, .int .i64 (i1_5 : Int))] []) ⟨agr, hO, fr⟩ ?_
 refine fun X1 => fun i1_5 => fun H hX1 σ w4 hk => lh hk fun hO hB => ?_
 revert hO; repeat (rename Owns .. => q; clear q)
 intro hO; repeat (rename Sq .. => q; clear q)
 refine au ?_
 refine zo (J6A underlying9 rfl) ?_
 refine scm H (fun h6 H => ?_) fun h6 H => ?_
 ·refine au ?_
  obtain ⟨h7, H⟩ := H
  obtain ⟨h8, H⟩ := H
  refine zo (J4D underlying9 rfl rfl h7 h8) ?_
  refine scm H (fun h9 H => ?_) fun h9 H => ?_
  ·refine au ?_
   refine Go1.ret1 func41 rfl ⟨_, er, frs, H⟩
  refine au ?_
  obtain ⟨h10, H⟩ := H
  obtain ⟨h11, H⟩ := H
  refine zo (J4D underlying9 rfl rfl h10 h11) ?_
  refine zo (J73 rfl rfl rfl) ?_
  refine zo (J1Y underlying5 underlying3 rfl rfl) ?_
  refine scm H (fun h12 H => ?_) fun h12 H => ?_
  ·refine au ?_
   refine Go1.ret1 func41 rfl ⟨_, er, frs, H⟩
  refine sinc (natbd h6 jr) ?_
  refine au ?_
  exact hX1 _ H _ _ agr ⟨agr, hO, fr⟩
 refine au ?_
 refine Go1.ret1 func41 rfl ⟨_, er, frs, H⟩
theorem body70 : Body prog 70 := ⟨f70, func70, rfl, by kernel_rfl⟩
theorem J4N {dQ : Option Addr} {dR : Nat} {gens : List (List Int)} {w_ : Str} (hA : HA0 A w0) (dI : ISs A w0 dQ dR gens) (jr : w_.length ≤ mx) {K : List Int → Prop} (H : J1M gens w_ K) :
    CallsV prog 70 #[.slice dQ gens.length dR, .string (gstr w_)] w0 (fun v w' => ∃ (r0 : List Int), ∃ (p_r0 : Option Addr), ∃ (c_r0 : Nat), v = .slice p_r0 r0.length c_r0 ∧ Same w0 w' ∧ ISi A w' p_r0 c_r0 r0 ∧ K r0) := by
 refine cal hA func70 ntmps70 fun hO hB => ?_
 unfold J1M at H
 refine sln0 ?_
 refine zcr (J02 body41 rfl (J5h hO.lt jr (H dI.bd))) fun _ w2 => e1 fun r1 => sc0 hO fun s hO => fun H => ?_
 cases r1
 ·refine au ?_
  refine Go1.ret1 func70 rfl ⟨_, _, _, er, frs, (ISl.null _ _ _), (iF H)⟩
 refine sxls hO dI.u (iT H).1 (iT H).2.1 fun p4 c5 hi6 => ?_
 refine sln0 ?_
 have h9 := (iT H).1
 have h10 := (iT H).2.1
 refine zcr (J02 body51 rfl (J2r hO.lt ((iT H).2.2 hi6.bd))) fun _ w8 => e3 fun r7 iY i4 => sc0 hO fun s hO => d1 fun cb H => ?_
 refine au ?_
 refine lv [0, 1] hO H (fun E (out1_12, i1_16) σ w => ∃ p13 c14, (fun Z => Lo A w0 σ w [(5, .slice p13 out1_12.length c14), (6, .int .i64 (i1_16 : Int))] Z ∧ ISi (bl Z ++ A) w p13 c14 out1_12) []) ⟨_, _, ⟨agr, hO, fr⟩, cb⟩ ?_
 refine fun X1 => p1 fun out1_12 i1_16 => fun H hX1 σ w11 hk => e2 fun p13 c14 => d1 fun hL => fun fL => lh hk (fun hO hB => ?_) hL
 dsimp only at H
 revert hO; repeat (rename Owns .. => q; clear q)
 intro hO; repeat (rename Sq .. => q; clear q)
 refine au ?_
 refine zo (J6A underlying9 rfl) ?_
 replace H := H jr
 refine scm H (fun h17 H => ?_) fun h17 H => ?_
 ·refine au ?_
  obtain ⟨h18, H⟩ := H
  obtain ⟨h19, H⟩ := H
  refine zo (J4D underlying9 rfl rfl h18 h19) ?_
  refine zo (J73 rfl rfl rfl) ?_
  refine zo (J1Y underlying5 underlying3 rfl rfl) ?_
  refine sxls hO dI.u H.1 H.2.1 fun p20 c21 nQ => ?_
  have h25 := H.1
  have h26 := H.2.1
  refine zcr (J02 body114 rfl (J2E hO.lt fL nQ.u H.2.2)) fun _ w24 => e3 fun r23 ads adt => sc0 hO fun s hO => d1 fun Nk H => ?_
  refine sinc (natbd h17 jr) ?_
  refine au ?_
  exact hX1 _ H _ _ agr ⟨_, _, ⟨agr, hO, fr⟩, Nk⟩
 refine au ?_
 refine Go1.ret1 func70 rfl ⟨_, _, _, er, frs, fL.r, H⟩
theorem body26 : Body prog 26 := ⟨f26, func26, rfl, by kernel_rfl⟩
theorem J5i {fh : Option Addr} {fk : Nat} {a0 : List DFA} (hA : HA0 A w0) (aS : ISl (rpDFA) A w0 fh fk a0) {K : Syntactic → List (List Bool) → Int → Prop} (H : J2c a0 K) :
    CallsV prog 26 #[.slice fh a0.length fk] w0 (fun v w' => ∃ (r0 : Syntactic), ∃ (r1 : List (List Bool)), ∃ (r2 : Int), ∃ (cR : Option Addr), ∃ (cS : Nat), ∃ (cU : Option Addr), ∃ (cV : Nat), ∃ (cA : Option Addr), ∃ (cB : Nat), ∃ (cC : Option Addr), ∃ (cD : Nat), ∃ (dx : Option Addr), ∃ (dy : Nat), ∃ (dT : Option Addr), ∃ (dU : Nat), v = .tuple #[.agg (cSY r0 cR cS cU cV cA cB cC cD dx dy), .slice dT r1.length dU, .int .i64 r2] ∧ Same w0 w' ∧ ISs A w' cR cS r0.Table ∧ ISt A w' cU cV r0.Words ∧ ISi A w' cA cB r0.Images ∧ ISb A w' cC cD r0.Accept ∧ ISb A w' dx dy r0.Plus ∧ ISl (Rp.sl (Rp.bool)) A w' dT dU r1 ∧ K r0 r1 r2) := by
 refine cal hA func26 ntmps26 fun hO hB => ?_
 unfold J2c at H
 refine sal hO fun w1 B2 s hO => ?_
 refine sln0 ?_
 refine scm (H aS.bd) (fun h4 H => ?_) fun h4 H => ?_
 ·refine au ?_
  refine zo (J05 underlying33 ti33 (pl := [(0, 1), (1, 1), (2, 1), (3, 1), (4, 1), (5, 1)]) (vs := []) (cs := #[.int .i64 (0 : Int), .slice none 0 0, .slice none 0 0, .slice none 0 0, .slice none 0 0, .slice none 0 0]) (by kernel_rfl) rfl (by kernel_rfl)) ?_
  refine sba 0 hO fun w5 s hO => ?_
  refine au ?_
  refine Go1.retC3 func26 rfl rfl (rlb 0 hO) ⟨((⟨(0 : Int), ([] : List (List Int)), ([] : List Str), ([] : List Int), ([] : List Bool), ([] : List Bool)⟩ : Syntactic)), _, _, _, _, _, _, _, _, _, _, _, _, _, _, er, frs, (ISl.null _ _ _), (ISl.null _ _ _), (ISl.null _ _ _), (ISl.null _ _ _), (ISl.null _ _ _), (ISl.null _ _ _), H⟩
 refine sln0 ?_
 refine au ?_
 refine lv [0, 2, 30, 31] hO H (fun E aK σ w => Lo A w0 σ w [(32, .int .i64 (aK : Int))] E) ⟨agr, hO, fr⟩ ?_
 refine fun X1 => fun aK => fun H hX1 σ w6 hk => lh hk fun hO hB => ?_
 revert hO; repeat (rename Owns .. => q; clear q)
 intro hO; repeat (rename Sq .. => q; clear q)
 refine scm H (fun h8 H => ?_) fun h8 H => ?_
 ·refine six aS H.1 H.2.1 ?_
  have h15 := H.1
  have h16 := H.2.1
  replace H := H.2.2
  have hm9 := ldAggR (r := rpDFA) (aS.o hO) h15 h16
  obtain ⟨Vk, vP, hR12, qP⟩ := hm9
  replace hR12 := J1l vP hR12
  obtain ⟨p17, c18, p20, c21, hcs14, jO, nQ⟩ := hR12
  subst hcs14
  refine zs (qP underlying25 rfl ti25 rfl) ?_
  refine sal hO fun w23 B24 s hO => ?_
  refine sba 0 hO fun w26 s hO => ?_
  refine sag 0 hO ?_
  refine zcr (J02 body16 rfl (J2d (d := (⟨((ix a0 (aK : Int)).Letters), ((ix a0 (aK : Int)).Start), (ix a0 (aK : Int)).Final, (ix a0 (aK : Int)).Next⟩ : DFA)) hO.lt jO.u nQ.u H)) fun _ w28 => e1 fun r27 => sc0 hO fun s hO => fun H => ?_
  refine scm H (fun h29 H => ?_) fun h29 H => ?_
  ·refine sinc (natbd h8 aS.bd) ?_
   refine au ?_
   refine sdr [0] hO fun s hO => ?_
   exact hX1 _ H _ _ agr ⟨agr, hO, fr⟩
  refine au ?_
  refine zo (J05 underlying33 ti33 (pl := [(0, 1), (1, 1), (2, 1), (3, 1), (4, 1), (5, 1)]) (vs := []) (cs := #[.int .i64 (0 : Int), .slice none 0 0, .slice none 0 0, .slice none 0 0, .slice none 0 0, .slice none 0 0]) (by kernel_rfl) rfl (by kernel_rfl)) ?_
  refine sba 1 hO fun w30 s hO => ?_
  refine au ?_
  refine Go1.retC3 func26 rfl rfl (rlb 1 hO) ⟨((⟨(0 : Int), ([] : List (List Int)), ([] : List Str), ([] : List Int), ([] : List Bool), ([] : List Bool)⟩ : Syntactic)), _, _, _, _, _, _, _, _, _, _, _, _, _, _, er, frs, (ISl.null _ _ _), (ISl.null _ _ _), (ISl.null _ _ _), (ISl.null _ _ _), (ISl.null _ _ _), (ISl.null _ _ _), H⟩
 refine six aS H.1 H.2.1 ?_
 have h31 := H.1
 have h32 := H.2.1
 replace H := H.2.2
 refine zo (J3d underlying25 rfl ti3 rfl (ISl.spotR aS.u h31 h32) (by decide)) ?_
 have Wt := ldCellR (r := rpDFA) (aS.o hO) h31 h32 (o := 0) (by decide)
 obtain ⟨ajF, Wu, hR36, Nl⟩ := Wt
 replace hR36 := J1l Wu hR36
 obtain ⟨p39, c40, p42, c43, hcs38, l5, Vn⟩ := hR36
 subst hcs38
 refine zs (Nl rfl underlying3 rfl rfl) ?_
 obtain ⟨h52, H⟩ := H
 obtain ⟨h53, H⟩ := H
 have zz := t2makeS (m := ((ix a0 (0 : Int)).Letters)) (e' := 3) Fl.i underlying23 ti31 hO h52 h53 (by decide)
 obtain ⟨w45, p46, Nm, ajG, Nn, hz55⟩ := zz
 refine zg (Nn rfl rfl) ?_
 refine nst Nm fun s hO => ?_
 refine sln0 ?_
 refine au ?_
 refine snil Fl.i 3 hO fun s hO => ?_
 refine snil Fl.bool 4 hO fun s hO => ?_
 refine lv [0, 2, 8, 48, 49] hO H (fun E (k2_59, d_60, fE, d_68) σ w => ∃ n63 p61 c62 n67 p65 c66 FE, Lo A w0 σ w [(9, .slice p65 n67 c66), (10, .slice p61 n63 c62), (50, .int .i64 (k2_59 : Int))] (esets E [(0, t1 Fl.bool 4 p61 n63 c62 d_60), (1, t1 Fl.i 3 p65 n67 c66 fE), (2, t2 Fl.i 31 3 p46 (((ix a0 (0 : Int)).Letters).toNat) (((ix a0 (0 : Int)).Letters).toNat) FE d_68)])) ⟨_, _, _, _, _, _, _, ⟨agr, hO, fr⟩⟩ ?_
 refine fun X2 => p3 fun k2_59 d_60 fE d_68 => fun H hX2 σ w58 hk => e4 fun n63 p61 c62 n67 => e3 fun p65 c66 FE => lh hk fun hO hB => ?_
 dsimp only [esets, sS, sZ] at hO hB
 dsimp only at H
 revert hO; repeat (rename Owns .. => q; clear q)
 intro hO; repeat (rename Sq .. => q; clear q)
 refine scm H (fun h70 H => ?_) fun h70 H => ?_
 ·refine six aS H.1 H.2.1 ?_
  have h77 := H.1
  have h78 := H.2.1
  replace H := H.2.2
  have Wv := ldAggR (r := rpDFA) (aS.o hO) h77 h78
  obtain ⟨ajH, Ww, hR74, Np⟩ := Wv
  replace hR74 := J1l Ww hR74
  obtain ⟨p79, c80, p82, c83, hcs76, oM, vr⟩ := hR74
  subst hcs76
  refine zs (Np underlying25 rfl ti25 rfl) ?_
  refine sal hO fun w85 B86 s hO => ?_
  refine sba 0 hO fun w88 s hO => ?_
  refine au ?_
  refine drs 0 [q0, q1, q0, q0, q0, q1, q0] hO fun w89 s hO => ?_
  refine six aS H.1 H.2.1 ?_
  have h90 := H.1
  have h91 := H.2.1
  replace H := H.2.2
  refine GoQ.pure rfl (J3d underlying25 rfl ti3 rfl (ISl.spotR aS.u h90 h91) (by decide)) rfl rfl ?_
  have Wx := ldCellR (r := rpDFA) (aS.o hO) h90 h91 (o := 0) (by decide)
  obtain ⟨ajI, wM, hR95, Nq⟩ := Wx
  replace hR95 := J1l wM hR95
  obtain ⟨p98, c99, rI, rJ, hcs97, adu, adv⟩ := hR95
  subst hcs97
  refine GoQ.stable rfl (Nq rfl underlying3 rfl rfl) rfl rfl ?_
  refine scm H (fun wN H => ?_) fun wN H => ?_
  ·refine sag 0 hO ?_
   refine zcr (J02 body23 rfl (J2L (a0 := (⟨((ix a0 (k2_59 : Int)).Letters), ((ix a0 (k2_59 : Int)).Start), (ix a0 (k2_59 : Int)).Final, (ix a0 (k2_59 : Int)).Next⟩ : DFA)) hO.lt oM.u vr.u H)) fun _ wO => e4 fun r105 i5 i6 jG => e1 fun jH => sc0 hO fun s hO => d2 fun cj dr H => ?_
   refine sal hO fun Wy B108 s hO => ?_
   refine sba 0 hO fun wP s hO => ?_
   refine sln1 2 hO ?_
   refine au ?_
   obtain ⟨jY, H⟩ := H
   refine zo (J03 rfl rfl (wrap_i64 jY)) ?_
   refine sap1 (((d_60.length : Int) + r105.Start)) 3 hO H fun _ FF FG FH s hO => ?_
   refine sln0 ?_
   refine au ?_
   refine sdr [1] hO fun s hO => ?_
   refine lv [0, 2, 8, 9, 10, 13, 14, 48, 49, 50, 75] hO (H.2 cj.bd) (fun E (kP, d_117) σ w => ∃ A7, (fun Z => Lo A w0 σ w [(76, .int .i64 (kP : Int))] Z ∧ ISb (bl Z ++ A) w i5 i6 r105.Final ∧ ISs (bl Z ++ A) w jG jH r105.Next) (E.set 3 (t2 Fl.i 31 3 p46 (((ix a0 (0 : Int)).Letters).toNat) (((ix a0 (0 : Int)).Letters).toNat) A7 d_117))) ⟨_, ⟨agr, hO, fr⟩, cj.u, dr.u⟩ ?_
   refine fun X3 => p1 fun kP d_117 => fun H hX3 σ Em hk => e1 fun A7 => d1 fun hL => d1 fun cj dr => lh hk (fun hO hB => ?_) hL
   dsimp only [esets, sS, sZ] at hO hB cj dr
   dsimp only at H
   revert hO; repeat (rename Owns .. => q; clear q)
   intro hO; repeat (rename Sq .. => q; clear q)
   refine scm H (fun qS H => ?_) fun qS H => ?_
   ·refine sxls hO dr H.1 H.2.1 fun wQ FI iB => ?_
    refine sln0 ?_
    refine au ?_
    have FJ := H.1
    have oN := H.2.1
    refine lv [0, 2, 8, 9, 10, 13, 14, 48, 49, 50, 75, 76, 83, 84] hO (H.2.2 iB.bd) (fun E (oO, d_125) σ w => ∃ A8, (fun Z => Lo A w0 σ w [(85, .int .i64 (oO : Int))] Z ∧ ISb (bl Z ++ A) w i5 i6 r105.Final ∧ ISs (bl Z ++ A) w jG jH r105.Next ∧ ISi (bl Z ++ A) w wQ FI (ix r105.Next (kP : Int))) (E.set 3 (t2 Fl.i 31 3 p46 (((ix a0 (0 : Int)).Letters).toNat) (((ix a0 (0 : Int)).Letters).toNat) A8 d_125))) ⟨_, ⟨agr, hO, fr⟩, cj, dr, iB.u⟩ ?_
    refine fun X4 => p1 fun oO d_125 => fun H hX4 σ vz hk => e1 fun A8 => d1 fun hL => d2 fun cj dr iB => lh hk (fun hO hB => ?_) hL
    dsimp only [esets, sS, sZ] at hO hB cj dr iB
    dsimp only at H
    revert hO; repeat (rename Owns .. => q; clear q)
    intro hO; repeat (rename Sq .. => q; clear q)
    refine scm H (fun FK H => ?_) fun FK H => ?_
    ·refine sxl hO iB H.1 H.2.1 ?_
     refine au ?_
     have nV := H.1
     have ajJ := H.2.1
     replace H := H.2.2
     obtain ⟨l7, H⟩ := H
     obtain ⟨gL, H⟩ := H
     refine zo (J04 underlying23 ti31 rfl rfl l7 (ltn (t2neq 3 hO rfl) gL) (t2some 3 hO rfl l7 gL)) ?_
     refine zs (t2head 3 hO rfl l7 gL underlying31 rfl rfl) ?_
     refine au ?_
     obtain ⟨iR, H⟩ := H
     refine zo (J03 rfl rfl (wrap_i64 iR)) ?_
     refine sbu Fl.i 3 [((d_60.length : Int) + (ix (ix r105.Next (kP : Int)) (oO : Int)))] hO fun ajK ajL s hO => ?_
     refine sfr 4 hO fun s hO => ?_
     have zz := t2take (hf := Fl.i) hO l7 gL
     obtain ⟨adw, nC, qu⟩ := zz
     refine nst nC fun s hO => ?_
     have Nr := elX hO (qu _)
     refine sfz 2 hO fun s hO rK kQ => ?_
     obtain ⟨Wz, H⟩ := H
     have zz := oapp underlying31 ti3 rfl 0 hO rfl Nr.u rK kQ Wz (by decide)
     obtain ⟨WA, WB, WC, adx, FL, A9, FM⟩ := zz
     dsimp only [sS, sZ] at A9
     refine zg (FM (by exact rfl) (by exact rfl)) ?_
     refine nst FL fun s hO => ?_
     obtain ⟨oP, H⟩ := H
     obtain ⟨wR, H⟩ := H
     refine zo (J04 underlying23 ti31 rfl rfl oP (ltn (t2neqH 1 hO rfl) wR) (t2someH 1 hO rfl oP wR)) ?_
     refine sfr 1 hO fun s hO => ?_
     refine sfr 1 hO fun s hO => ?_
     have zz := t2fix (hf := Fl.i) hO A9.u oP wR rfl
     obtain ⟨vC, FN, FO⟩ := zz
     refine zg (FO underlying31 rfl ti31 (by exact rfl) (by exact rfl)) ?_
     refine nst FN fun s hO => ?_
     refine sinc (natbd FK iB.bd) ?_
     refine au ?_
     refine sfr 4 hO fun s hO => ?_
     refine sfr 1 hO fun s hO => ?_
     refine sfr 4 hO fun s hO => ?_
     refine sfr 4 hO fun s hO => ?_
     refine sfr 4 hO fun s hO => ?_
     exact hX4 _ H _ _ agr ⟨_, ⟨agr, hO, fr⟩, cj.u, dr.u, iB.u⟩
    refine sinc (natbd qS cj.bd) ?_
    refine au ?_
    exact hX3 _ H _ _ agr ⟨_, ⟨agr, hO, fr⟩, cj.u, dr.u⟩
   refine sap 1 hO cj.u H fun Co TN ajM s hO => ?_
   refine sinc (natbd h70 aS.bd) ?_
   refine au ?_
   refine sdr [0] hO fun s hO => ?_
   exact hX2 _ H.2 _ _ agr ⟨_, _, _, _, _, _, _, ⟨agr, hO, fr⟩⟩
  refine au ?_
  refine zo (J05 underlying33 ti33 (pl := [(0, 1), (1, 1), (2, 1), (3, 1), (4, 1), (5, 1)]) (vs := []) (cs := #[.int .i64 (0 : Int), .slice none 0 0, .slice none 0 0, .slice none 0 0, .slice none 0 0, .slice none 0 0]) (by kernel_rfl) rfl (by kernel_rfl)) ?_
  refine sba 4 hO fun ajN s hO => ?_
  refine au ?_
  refine Go1.retC3 func26 rfl rfl (rlb 4 hO) ⟨((⟨(0 : Int), ([] : List (List Int)), ([] : List Str), ([] : List Int), ([] : List Bool), ([] : List Bool)⟩ : Syntactic)), _, _, _, _, _, _, _, _, _, _, _, _, _, _, er, frs, (ISl.null _ _ _), (ISl.null _ _ _), (ISl.null _ _ _), (ISl.null _ _ _), (ISl.null _ _ _), (ISl.null _ _ _), H⟩
 refine sln1 0 hO ?_
 refine scm H (fun n9 H => ?_) fun n9 H => ?_
 ·refine au ?_
  refine zo (J05 underlying33 ti33 (pl := [(0, 1), (1, 1), (2, 1), (3, 1), (4, 1), (5, 1)]) (vs := []) (cs := #[.int .i64 (0 : Int), .slice none 0 0, .slice none 0 0, .slice none 0 0, .slice none 0 0, .slice none 0 0]) (by kernel_rfl) rfl (by kernel_rfl)) ?_
  refine sba 3 hO fun oc s hO => ?_
  refine au ?_
  refine Go1.retC3 func26 rfl rfl (rlb 3 hO) ⟨((⟨(0 : Int), ([] : List (List Int)), ([] : List Str), ([] : List Int), ([] : List Bool), ([] : List Bool)⟩ : Syntactic)), _, _, _, _, _, _, _, _, _, _, _, _, _, _, er, frs, (ISl.null _ _ _), (ISl.null _ _ _), (ISl.null _ _ _), (ISl.null _ _ _), (ISl.null _ _ _), (ISl.null _ _ _), H⟩
 refine sxl1 1 hO H.1 H.2.1 ?_
 refine au ?_
 refine sfz2 2 hO fun s hO fY Ba => ?_
 refine sfz 0 hO fun s hO fy Bb => ?_
 have ajO := H.1
 have Ct := H.2.1
 refine zcr (J02 body64 (by rw [Ba, Bb]; exact rfl) (J6J hO.lt fY.u fy H.2.2)) fun _ wS => e4 fun fq r170 i7 i8 => e4 fun i9 ja iM iN => e4 fun iO iP jI jJ => sc0 hO fun s hO => d1 fun cW => d4 fun ca cI cJ dt H => ?_
 refine sal hO fun TP B175 s hO => ?_
 refine sba 0 hO fun WD s hO => ?_
 refine scm H (fun WE H => ?_) fun WE H => ?_
 ·refine sln1 1 hO ?_
  refine au ?_
  have FP := Stp.nil (e := 22) (r := 1) hO
  refine nst FP fun s hO => ?_
  have Nt := elN (Rp.sl (Rp.bool)) hO
  refine lv [2, 8, 10, 18, 126, 127] hO H (fun E (oQ, d_184) σ w => ∃ j8 gI ic kS, (fun Z => Lo A w0 σ w [(20, .slice gI j8 ic), (128, .int .i64 (oQ : Int))] Z ∧ Els (Rp.sl (Rp.bool)) (bl Z ++ A) w kS d_184 ∧ ISs (bl Z ++ A) w p46 ((ix a0 (0 : Int)).Letters).toNat d_68 ∧ ISb (bl Z ++ A) w p61 c62 d_60 ∧ ISs (bl Z ++ A) w i7 i8 fq.Table ∧ ISt (bl Z ++ A) w i9 ja fq.Words ∧ ISi (bl Z ++ A) w iM iN fq.Images ∧ ISb (bl Z ++ A) w iO iP fq.Accept ∧ ISb (bl Z ++ A) w jI jJ fq.Plus) (E.set 0 (.row 22 1 gI j8 ic kS))) ⟨_, _, _, _, ⟨agr, hO, fr⟩, Nt.u, fY.u, fy.u, cW.u, ca.u, cI.u, cJ.u, dt.u⟩ ?_
  refine fun X5 => p1 fun oQ d_184 => fun H hX5 σ vD hk => e4 fun j8 gI ic kS => d1 fun hL => d1 fun gx => d1 fun fY => d1 fun fy => d4 fun cW ca cI cJ dt => lh hk (fun hO hB => ?_) hL
  dsimp only [esets, sS, sZ] at hO hB gx fY fy cW ca cI cJ dt
  dsimp only at H
  revert hO; repeat (rename Owns .. => q; clear q)
  intro hO; repeat (rename Sq .. => q; clear q)
  refine scm H (fun rL H => ?_) fun rL H => ?_
  ·refine sxl1 2 hO H.1 H.2.1 ?_
   refine sln0 ?_
   refine au ?_
   refine snil Fl.bool 4 hO fun s hO => ?_
   refine lv [2, 8, 10, 18, 20, 22, 126, 127, 128, 133, 134] hO (H.2.2 ca.bd) (fun E (uL, Bc) σ w => ∃ wT wU wV, (fun Z => Lo A w0 σ w [(23, .slice wU wT wV), (135, .int .i64 (uL : Int))] Z ∧ Els (Rp.sl (Rp.bool)) (bl Z ++ A) w kS d_184 ∧ ISs (bl Z ++ A) w p46 ((ix a0 (0 : Int)).Letters).toNat d_68 ∧ ISb (bl Z ++ A) w p61 c62 d_60 ∧ ISs (bl Z ++ A) w i7 i8 fq.Table ∧ ISt (bl Z ++ A) w i9 ja fq.Words ∧ ISi (bl Z ++ A) w iM iN fq.Images ∧ ISb (bl Z ++ A) w iO iP fq.Accept ∧ ISb (bl Z ++ A) w jI jJ fq.Plus) (E.set 0 (t1 Fl.bool 4 wU wT wV Bc))) ⟨_, _, _, ⟨agr, hO, fr⟩, gx.u, fY.u, fy.u, cW.u, ca.u, cI.u, cJ.u, dt.u⟩ ?_
   refine fun X6 => p1 fun uL Bc => fun H hX6 σ WF hk => e3 fun wT wU wV => d1 fun hL => d1 fun gx => d1 fun fY => d1 fun fy => d4 fun cW ca cI cJ dt => lh hk (fun hO hB => ?_) hL
   dsimp only [esets, sS, sZ] at hO hB gx fY fy cW ca cI cJ dt
   dsimp only at H
   revert hO; repeat (rename Owns .. => q; clear q)
   intro hO; repeat (rename Sq .. => q; clear q)
   refine scm H (fun iU H => ?_) fun iU H => ?_
   ·refine sxl hO ca H.1 H.2.1 ?_
    have hle199 := ISl.J8w ca H.1 H.2.1
    refine au ?_
    have wW := H.1
    have nF := H.2.1
    refine zcr (J02 body70 (by rw [Ba]; exact rfl) (J4N hO.lt fY hle199 H.2.2)) fun _ FQ => e3 fun WG acn aco => sc0 hO fun s hO => d1 fun FS H => ?_
    refine sxl hO FS H.1 H.2.1 ?_
    refine sxl hO fy.u H.2.2.1 H.2.2.2.1 ?_
    refine sap1 (ix d_60 (ix WG (ix fE (oQ : Int)))) 0 hO H.2.2.2.2 fun _ vF Cz TS s hO => ?_
    refine sinc (natbd iU ca.bd) ?_
    refine au ?_
    exact hX6 _ H.2.2.2.2.2 _ _ agr ⟨_, _, _, ⟨agr, hO, fr⟩, gx.u, fY.u, fy.u, cW.u, ca.u, cI.u, cJ.u, dt.u⟩
   refine au ?_
   refine sfz 0 hO fun s hO kT mV => ?_
   have zz := obu underlying40 ti22 hO (kT) mV
   obtain ⟨v6, FT, FU, kU, ady, FV⟩ := zz
   refine zg (FV rfl) ?_
   refine nst FU fun s hO => ?_
   refine sfzR 0 hO kU fun s hO rM rN => ?_
   obtain ⟨WH, H⟩ := H
   have zz := oapp underlying40 ti22 rfl 0 hO rfl gx.u rM rN WH (by decide)
   obtain ⟨vG, lU, lV, adz, FW, Bd, oR⟩ := zz
   dsimp only [sS, sZ] at Bd
   refine zg (oR (by exact rfl) (by exact rfl)) ?_
   refine nst FW fun s hO => ?_
   refine sinc (natbd rL (t1b 2 hO)) ?_
   refine au ?_
   exact hX5 _ H _ _ agr ⟨_, _, _, _, ⟨agr, hO, fr⟩, Bd, fY.u, fy.u, cW.u, ca.u, cI.u, cJ.u, dt.u⟩
  refine sag 1 hO ?_
  refine sba 3 hO fun vH s hO => ?_
  refine au ?_
  refine sfzR 0 hO gx.u fun s hO rO Be => ?_
  refine Go1.retC3 func26 rfl rfl (rlb 2 hO) ⟨((⟨fq.Letters, fq.Table, fq.Words, fq.Images, fq.Accept, fq.Plus⟩ : Syntactic)), _, _, _, _, _, _, _, _, _, _, _, _, _, _, ?_, frs, cW.r, ca.r, cI.r, cJ.r, dt.r, rO.r, H⟩
  exact (congrArg (fun l => Value.tuple (List.toArray l)) (J01 rfl (J01 (congrArg (fun nn => Value.slice gI nn ic) Be) (J01 rfl rfl))))
 refine au ?_
 refine zo (J05 underlying33 ti33 (pl := [(0, 1), (1, 1), (2, 1), (3, 1), (4, 1), (5, 1)]) (vs := []) (cs := #[.int .i64 (0 : Int), .slice none 0 0, .slice none 0 0, .slice none 0 0, .slice none 0 0, .slice none 0 0]) (by kernel_rfl) rfl (by kernel_rfl)) ?_
 refine sba 2 hO fun rP s hO => ?_
 refine au ?_
 refine Go1.retC3 func26 rfl rfl (rlb 2 hO) ⟨((⟨(0 : Int), ([] : List (List Int)), ([] : List Str), ([] : List Int), ([] : List Bool), ([] : List Bool)⟩ : Syntactic)), _, _, _, _, _, _, _, _, _, _, _, _, _, _, er, frs, (ISl.null _ _ _), (ISl.null _ _ _), (ISl.null _ _ _), (ISl.null _ _ _), (ISl.null _ _ _), (ISl.null _ _ _), H⟩
theorem J2S {fh : Option Addr} {fk : Nat} {a0 : List DFA} (hA : HA0 A w0) (aS : ISl (rpDFA) A w0 fh fk a0) {K : Bool → Prop} (H : law21_SyntacticJoint a0 K) :
    CallsV prog 5 #[.slice fh a0.length fk] w0 (fun v w' => ∃ (r0 : Bool), v = .bool r0 ∧ Same w0 w' ∧ K r0) := by
 refine cal hA func5 ntmps5 fun hO hB => ?_
 unfold law21_SyntacticJoint at H
 refine sln0 ?_
 refine au ?_
 refine lv [0, 13, 14] hO (H aS.bd) (fun E (k1_2, k1_3) σ w => Lo A w0 σ w [(3, .int .i64 k1_2), (15, .int .i64 (k1_3 : Int))] []) ⟨agr, hO, fr⟩ ?_
 refine fun X1 => p1 fun k1_2 k1_3 => fun H hX1 σ w1 hk => lh hk fun hO hB => ?_
 dsimp only at H
 refine scm H (fun h4 H => ?_) fun h4 H => ?_
 ·refine six aS H.1 H.2.1 ?_
  have h11 := H.1
  have h12 := H.2.1
  replace H := H.2.2
  have hm5 := ldAggR (r := rpDFA) (aS.o hO) h11 h12
  obtain ⟨cs6, hl7, hR8, WI⟩ := hm5
  replace hR8 := J1l hl7 hR8
  obtain ⟨p13, c14, p16, c17, hcs10, fL, rQ⟩ := hR8
  subst hcs10
  refine zs (WI underlying25 rfl ti25 rfl) ?_
  refine sal hO fun w19 B20 s hO => ?_
  refine sba 0 hO fun w22 s hO => ?_
  refine sag 0 hO ?_
  refine zcr (J02 body16 rfl (J2d (d := (⟨((ix a0 (k1_3 : Int)).Letters), ((ix a0 (k1_3 : Int)).Start), (ix a0 (k1_3 : Int)).Final, (ix a0 (k1_3 : Int)).Next⟩ : DFA)) hO.lt fL.u rQ.u H)) fun _ w24 => e1 fun r23 => sc0 hO fun s hO => fun H => ?_
  refine scm H (fun h25 H => ?_) fun h25 H => ?_
  ·refine scm H (fun h26 H => ?_) fun h26 H => ?_
   ·refine au ?_
    refine zcr (J02 body18 rfl (J1X hO.lt H)) fun _ w28 => e1 fun r27 => sc0 hO fun s hO => fun H => ?_
    refine au ?_
    refine Go1.ret1 func5 rfl ⟨_, er, frs, H⟩
   refine sag 0 hO ?_
   refine zcr (J02 body24 rfl (J5V (d := (⟨((ix a0 (k1_3 : Int)).Letters), ((ix a0 (k1_3 : Int)).Start), (ix a0 (k1_3 : Int)).Final, (ix a0 (k1_3 : Int)).Next⟩ : DFA)) hO.lt fL.u rQ.u H)) fun _ w30 => e4 fun r29 IQ IR Nu => e1 fun Nv => sc0 hO fun s hO => d2 fun pW rR H => ?_
   refine zcr (J02 body23 rfl (J2L hO.lt pW rR H)) fun _ w32 => e4 fun r31 IS IT Nw => e1 fun Ny => sc0 hO fun s hO => d2 fun pX Nz H => ?_
   refine zo (J8h underlying25 rfl underlying22 rfl rfl rfl) ?_
   refine sln0 ?_
   replace H := (H pX.bd)
   obtain ⟨h33, H⟩ := H
   refine zo (J03 rfl rfl (wrap_i64 h33)) ?_
   by_cases h34 : (100 : Int) < (k1_2 + (r31.Final.length : Int))
   ·refine zo (J7r rfl rfl h34) ?_
    refine sinc (natbd h4 aS.bd) ?_
    refine au ?_
    refine sdr [0] hO fun s hO => ?_
    exact hX1 _ (ifp h34 H) _ _ agr ⟨agr, hO, fr⟩
   refine zo (J7k rfl rfl h34) ?_
   refine sinc (natbd h4 aS.bd) ?_
   refine au ?_
   refine sdr [0] hO fun s hO => ?_
   exact hX1 _ (ifn h34 H) _ _ agr ⟨agr, hO, fr⟩
  refine sinc (natbd h4 aS.bd) ?_
  refine au ?_
  refine sdr [0] hO fun s hO => ?_
  exact hX1 _ H _ _ agr ⟨agr, hO, fr⟩
 refine scm H (fun h35 H => ?_) fun h35 H => ?_
 ·refine au ?_
  refine zcr (J02 body18 rfl (J1X hO.lt H)) fun _ w37 => e1 fun r36 => sc0 hO fun s hO => fun H => ?_
  refine au ?_
  refine Go1.ret1 func5 rfl ⟨_, er, frs, H⟩
 refine au ?_
 refine zcr (J02 body25 rfl (J3P hO.lt aS.u H)) fun _ w41 => e4 fun r38 r39 r40 IU => e4 fun IV IW IX FX => e4 fun FY F0 F1 NA => e3 fun NB NC ND => sc0 hO fun s hO => d1 fun pY => d1 fun qa => d4 fun oS oT rS jt H => ?_
 refine sal hO fun w42 B43 s hO => ?_
 refine sba 0 hO fun w45 s hO => ?_
 refine au ?_
 refine zcr (J02 body26 rfl (J5i hO.lt aS.u H)) fun _ w49 => e4 fun r46 r47 r48 IY => e4 fun I0 I1 I2 F2 => e4 fun F3 F4 F5 NE => e3 fun NF NG NH => sc0 hO fun s hO => d1 fun qb => d1 fun qc => d4 fun oU oV rT kV H => ?_
 refine sal hO fun w50 B51 s hO => ?_
 refine sba 0 hO fun w53 s hO => ?_
 refine scm H (fun h54 H => ?_) fun h54 H => ?_
 ·refine sag 1 hO ?_
  refine sag 0 hO ?_
  refine zcr (J02 body21 rfl (J5N hO.lt pY.u qa.u oS.u oT.u rS.u qb.u qc.u oU.u oV.u rT.u H)) fun _ w56 => e1 fun r55 => sc0 hO fun s hO => fun H => ?_
  cases r55
  ·refine au ?_
   refine Go1.ret1 func5 rfl ⟨_, er, frs, (iF H)⟩
  refine sln0 ?_
  refine sln0 ?_
  refine scm (((iT H) jt.bd) kV.bd) (fun h57 H => ?_) fun h57 H => ?_
  ·refine sln0 ?_
   refine au ?_
   refine sdr [0, 0] hO fun s hO => ?_
   refine lv [7, 10, 67] hO H (fun E k2_59 σ w => (fun Z => Lo A w0 σ w [(68, .int .i64 (k2_59 : Int))] Z ∧ ISl (Rp.sl (Rp.bool)) (bl Z ++ A) w NC ND r39 ∧ ISl (Rp.sl (Rp.bool)) (bl Z ++ A) w NG NH r47) []) ⟨⟨agr, hO, fr⟩, jt.u, kV.u⟩ ?_
   refine fun X2 => fun k2_59 => fun H hX2 σ w58 hk => d1 fun hL => d1 fun jt kV => lh hk (fun hO hB => ?_) hL
   revert hO; repeat (rename Owns .. => q; clear q)
   intro hO; repeat (rename Sq .. => q; clear q)
   refine scm H (fun h60 H => ?_) fun h60 H => ?_
   ·refine au ?_
    refine drs 0 [q0, q0, q0, q1, q0, q0, q0, q1, q2, q0] hO fun w61 s hO => ?_
    refine sxls hO jt.u H.1 H.2.1 fun p62 c63 wX => ?_
    refine sxls hO kV.u H.2.2.1 H.2.2.2.1 fun p65 c66 WJ => ?_
    have h70 := H.1
    have h71 := H.2.1
    have h72 := H.2.2.1
    have h73 := H.2.2.2.1
    refine zcq rfl (J02 body27 rfl (J0S hO.lt wX.u WJ.u H.2.2.2.2)) fun _ w69 => e1 fun r68 => sq0 hO fun s hO => fun H => ?_
    cases r68
    ·refine au ?_
     refine Go1.ret1 func5 rfl ⟨_, er, frs, (iF H)⟩
    refine sinc (natbd h60 jt.bd) ?_
    refine au ?_
    exact hX2 _ (iT H) _ _ agr ⟨⟨agr, hO, fr⟩, jt.u, kV.u⟩
   refine au ?_
   refine zcr (J02 body18 rfl (J1X hO.lt H)) fun _ w75 => e1 fun r74 => sc0 hO fun s hO => fun H => ?_
   refine au ?_
   refine Go1.ret1 func5 rfl ⟨_, er, frs, H⟩
  refine au ?_
  refine Go1.ret1 func5 rfl ⟨_, er, frs, H⟩
 refine au ?_
 refine Go1.ret1 func5 rfl ⟨_, er, frs, H⟩
end Sg
