/- -/
import Derived.Test.YtlneebpmblkllaaMr
import Derived.Test.YtlneebpmblkllaaFnx
import Derived.Test.YtlneebpmblkllaaVd
import Derived.Test.YtlneebpmblkllaaWSyntacticMonoids
import Derived.Test.YtlneebpmblkllaaWSyntacticMonoidsc
import Derived.Test.YtlneebpmblkllaaWSyntacticRefuses
namespace Sg
open Go Go.RowKit Go.Proofs Try
set_option linter.unusedVariables false
set_option linter.unusedSimpArgs false
set_option maxRecDepth 100000
set_option maxHeartbeats 4000000
variable {A : List Nat} {w0 : World}
theorem body42 : Body prog 42 := ⟨f42, func42, rfl, by kernel_rfl⟩
theorem J0I {p_s__Table p_s__Words p_s__Images p_s__Accept p_s__Plus : Option Addr} {c_s__Table c_s__Words c_s__Images c_s__Accept c_s__Plus : Nat} {s_ : Syntactic} (hA : HA0 A w0) (h_s__Table : ISs A w0 p_s__Table c_s__Table s_.Table) (h_s__Words : ISt A w0 p_s__Words c_s__Words s_.Words) (h_s__Images : ISi A w0 p_s__Images c_s__Images s_.Images) (h_s__Accept : ISb A w0 p_s__Accept c_s__Accept s_.Accept) (h_s__Plus : ISb A w0 p_s__Plus c_s__Plus s_.Plus) {K : DFA → Int → Prop} (H : J0b s_ K) :
    CallsV prog 42 #[.agg (cSY s_ p_s__Table c_s__Table p_s__Words c_s__Words p_s__Images c_s__Images p_s__Accept c_s__Accept p_s__Plus c_s__Plus)] w0 (fun v w' => ∃ (r0 : DFA), ∃ (r1 : Int), ∃ (aI : Option Addr), ∃ (aJ : Nat), ∃ (aT : Option Addr), ∃ (aU : Nat), v = .tuple #[.agg (cDF r0 aI aJ aT aU), .int .i64 r1] ∧ Same w0 w' ∧ ISb A w' aI aJ r0.Final ∧ ISs A w' aT aU r0.Next ∧ K r0 r1) := by
 refine cal hA func42 ntmps42 fun hO hB => ?_
 unfold J0b at H
 refine sbx hO fun w1 B2 s hO => ?_
 refine sal hO fun w4 B5 s hO => ?_
 refine sag 1 hO ?_
 refine zcr (J01 body28 rfl (J3G hO.lt h_s__Table.u h_s__Words.u h_s__Images.u h_s__Accept.u h_s__Plus.u H)) fun _ w8 => e1 fun r7 => sc0 hO fun s hO => fun H => ?_
 refine scm H (fun h9 H => ?_) fun h9 H => ?_
 ·refine sag 1 hO ?_
  refine zcr (J01 body72 rfl (J1q hO.lt h_s__Table.u h_s__Words.u h_s__Images.u h_s__Accept.u h_s__Plus.u H)) fun _ w11 => e4 fun r10 jz jA kx => e1 fun kz => sc0 hO fun s hO => d2 fun dY fB H => ?_
  refine sba 0 hO fun w12 s hO => ?_
  refine au ?_
  refine Go1.retC2 func42 rfl rfl (rlb 0 hO) ⟨((⟨r10.Letters, r10.Start, r10.Final, r10.Next⟩ : DFA)), _, _, _, _, _, er, frs, dY.r, fB.r, H⟩
 refine au ?_
 refine zo (J04 underlying25 ti25 (pl := [(0, 1), (1, 1), (2, 1), (3, 1)]) (vs := []) (cs := #[.int .i64 (0 : Int), .int .i64 (0 : Int), .slice none 0 0, .slice none 0 0]) (by kernel_rfl) rfl (by kernel_rfl)) ?_
 refine sba 0 hO fun w13 s hO => ?_
 refine au ?_
 refine Go1.retC2 func42 rfl rfl (rlb 0 hO) ⟨((⟨(0 : Int), (0 : Int), ([] : List Bool), ([] : List (List Int))⟩ : DFA)), _, _, _, _, _, er, frs, (ISl.null _ _ _), (ISl.null _ _ _), H⟩
theorem body43 : Body prog 43 := ⟨f43, func43, rfl, by kernel_rfl⟩
theorem J4t {ah ap cb cw : Option Addr} {aj aq cd cx : Nat} {a0 a1 : DFA} (hA : HA0 A w0) (aa : ISb A w0 ah aj a0.Final) (ar : ISs A w0 ap aq a0.Next) (bW : ISb A w0 cb cd a1.Final) (eg : ISs A w0 cw cx a1.Next) {K : Bool → Prop} (H : J25 a0 a1 K) :
    CallsV prog 43 #[.agg (cDF a0 ah aj ap aq), .agg (cDF a1 cb cd cw cx)] w0 (fun v w' => ∃ (r0 : Bool), v = .bool r0 ∧ Same w0 w' ∧ K r0) := by
 refine cal hA func43 ntmps43 fun hO hB => ?_
 unfold J25 at H
 refine sbx hO fun w1 B2 s hO => ?_
 refine sbx hO fun w4 B5 s hO => ?_
 refine scm H (fun h7 H => ?_) fun h7 H => ?_
 ·refine scm H (fun h8 H => ?_) fun h8 H => ?_
  ·refine sln0 ?_
   refine sln0 ?_
   refine scm ((H aa.bd) bW.bd) (fun h9 H => ?_) fun h9 H => ?_
   ·refine sln0 ?_
    refine sln0 ?_
    refine scm ((H ar.bd) eg.bd) (fun h10 H => ?_) fun h10 H => ?_
    ·refine sln0 ?_
     refine au ?_
     refine lv [2, 3, 40] hO H (fun E k1_12 σ w => Lo A w0 σ w [(41, .int .i64 (k1_12 : Int))] E) ⟨agr, hO, fr⟩ ?_
     refine fun X1 => fun k1_12 => fun H hX1 σ w11 hk => d2 fun hag hO hB => keep2 hk hag ?_
     revert hO; repeat (rename Owns .. => q; clear q)
     intro hO; repeat (rename Sq .. => q; clear q)
     refine scm H (fun h13 H => ?_) fun h13 H => ?_
     ·refine au ?_
      refine drs 0 [q0, q1, q0, q0, q1, q0, q1, q0, q0, q1, q0] hO fun w14 s hO => ?_
      refine au ?_
      have h15 := H.1
      have h16 := H.2.1
      refine sxb hO aa.u H.1 H.2.1 H.2.2 (fun h17 H => ?_) fun h17 H => ?_
      ·refine au ?_
       have h18 := H.1
       have h19 := H.2.1
       refine sxb hO bW.u H.1 H.2.1 H.2.2 (fun h20 H => ?_) fun h20 H => ?_
       ·refine GoQ.pure rfl (J19 underlying4 rfl rfl) rfl rfl ?_
        refine sinc (natbd h13 aa.bd) ?_
        refine au ?_
        exact hX1 _ H _ _ agr ⟨agr, hO, fr⟩
       refine GoQ.pure rfl (J19 underlying4 rfl rfl) rfl rfl ?_
       refine au ?_
       refine Go1.ret1 func43 rfl ⟨_, er, frs, H⟩
      refine au ?_
      have h21 := H.1
      have h22 := H.2.1
      refine sxb hO bW.u H.1 H.2.1 H.2.2 (fun h23 H => ?_) fun h23 H => ?_
      ·refine GoQ.pure rfl (J19 underlying4 rfl rfl) rfl rfl ?_
       refine au ?_
       refine Go1.ret1 func43 rfl ⟨_, er, frs, H⟩
      refine GoQ.pure rfl (J19 underlying4 rfl rfl) rfl rfl ?_
      refine sinc (natbd h13 aa.bd) ?_
      refine au ?_
      exact hX1 _ H _ _ agr ⟨agr, hO, fr⟩
     refine sln0 ?_
     refine au ?_
     refine lv [2, 3, 58] hO H (fun E gW σ w => Lo A w0 σ w [(59, .int .i64 (gW : Int))] E) ⟨agr, hO, fr⟩ ?_
     refine fun X2 => fun gW => fun H hX2 σ w24 hk => d2 fun hag hO hB => keep2 hk hag ?_
     revert hO; repeat (rename Owns .. => q; clear q)
     intro hO; repeat (rename Sq .. => q; clear q)
     refine scm H (fun h26 H => ?_) fun h26 H => ?_
     ·refine au ?_
      refine drs 0 [q0, q1, q0, q0, q1, q0, q0, q1, q0, q0, q1, q0, q0] hO fun w27 s hO => ?_
      refine sxls hO ar.u H.1 H.2.1 fun p28 c29 iu => ?_
      refine sln0 ?_
      refine sxls hO eg.u (H.2.2 iu.bd).1 (H.2.2 iu.bd).2.1 fun p31 c32 lL => ?_
      refine sln0 ?_
      have h34 := H.1
      have h35 := H.2.1
      have h36 := (H.2.2 iu.bd).1
      have h37 := (H.2.2 iu.bd).2.1
      refine scm ((H.2.2 iu.bd).2.2 lL.bd) (fun h38 H => ?_) fun h38 H => ?_
      ·refine sxls hO ar.u H.1 H.2.1 fun p39 c40 lM => ?_
       refine sln0 ?_
       refine au ?_
       have h44 := H.1
       have h45 := H.2.1
       refine lv [2, 3, 6, 58, 59, 80] hO H.2.2 (fun E x6 σ w => Lo A w0 σ w [(81, .int .i64 (x6 : Int))] E) ⟨agr, hO, fr⟩ ?_
       refine fun X3 => fun x6 => fun H hX3 σ w42 hk => d2 fun hag hO hB => keep2 hk hag ?_
       revert hO; repeat (rename Owns .. => q; clear q)
       intro hO; repeat (rename Sq .. => q; clear q)
       refine scm H (fun h46 H => ?_) fun h46 H => ?_
       ·refine au ?_
        refine drs 0 [q0, q1, q0, q0, q1, q0, q0, q1, q0, q1, q0, q0, q1, q0, q0, q1, q0] hO fun w47 s hO => ?_
        refine sxls hO ar.u H.1 H.2.1 fun p48 c49 fC => ?_
        refine sxl hO fC.u H.2.2.1 H.2.2.2.1 ?_
        refine sxls hO eg.u H.2.2.2.2.1 H.2.2.2.2.2.1 fun p51 c52 Le => ?_
        refine sxl hO Le.u H.2.2.2.2.2.2.1 H.2.2.2.2.2.2.2.1 ?_
        have h54 := H.1
        have h55 := H.2.1
        have h56 := H.2.2.1
        have h57 := H.2.2.2.1
        have h58 := H.2.2.2.2.1
        have h59 := H.2.2.2.2.2.1
        have h60 := H.2.2.2.2.2.2.1
        have h61 := H.2.2.2.2.2.2.2.1
        refine scm H.2.2.2.2.2.2.2.2 (fun h62 H => ?_) fun h62 H => ?_
        ·refine sinc (natbd h46 fC.bd) ?_
         refine au ?_
         exact hX3 _ H _ _ agr ⟨agr, hO, fr⟩
        refine au ?_
        refine Go1.ret1 func43 rfl ⟨_, er, frs, H⟩
       refine sinc (natbd h26 ar.bd) ?_
       refine au ?_
       exact hX2 _ H _ _ agr ⟨agr, hO, fr⟩
      refine au ?_
      refine Go1.ret1 func43 rfl ⟨_, er, frs, H⟩
     refine au ?_
     refine Go1.ret1 func43 rfl ⟨_, er, frs, H⟩
    refine au ?_
    refine Go1.ret1 func43 rfl ⟨_, er, frs, H⟩
   refine au ?_
   refine Go1.ret1 func43 rfl ⟨_, er, frs, H⟩
  refine au ?_
  refine Go1.ret1 func43 rfl ⟨_, er, frs, H⟩
 refine au ?_
 refine Go1.ret1 func43 rfl ⟨_, er, frs, H⟩
theorem body82 : Body prog 82 := ⟨f82, func82, rfl, by kernel_rfl⟩
theorem J4P {f6 gD f8 gF : Option Addr} {f7 gE f9 gG : Nat} {a b : DFA} (hA : HA0 A w0) (gX : ISb A w0 f6 f7 a.Final) (iv : ISs A w0 gD gE a.Next) (gY : ISb A w0 f8 f9 b.Final) (iw : ISs A w0 gF gG b.Next) {K : Int → Prop} (H : J27 a b K) :
    CallsV prog 82 #[.agg (cDF a f6 f7 gD gE), .agg (cDF b f8 f9 gF gG)] w0 (fun v w' => ∃ (r0 : Int), v = .int .i64 r0 ∧ Same w0 w' ∧ K r0) := by
 refine cal hA func82 ntmps82 fun hO hB => ?_
 unfold J27 at H
 refine sbx hO fun w1 B2 s hO => ?_
 refine sbx hO fun w4 B5 s hO => ?_
 refine sag 1 hO ?_
 refine zcr (J01 body61 rfl (J0q hO.lt gX.u iv.u H)) fun _ w8 => e1 fun r7 => sc0 hO fun s hO => fun H => ?_
 refine scm H (fun h9 H => ?_) fun h9 H => ?_
 ·refine sag 0 hO ?_
  refine zcr (J01 body61 rfl (J0q hO.lt gY.u iw.u H)) fun _ w11 => e1 fun r10 => sc0 hO fun s hO => fun H => ?_
  refine scm H (fun h12 H => ?_) fun h12 H => ?_
  ·refine scm H (fun h13 H => ?_) fun h13 H => ?_
   ·refine au ?_
    refine Go1.ret1 func82 rfl ⟨_, er, frs, H⟩
   refine au ?_
   refine Go1.ret1 func82 rfl ⟨_, er, frs, H⟩
  refine au ?_
  refine Go1.ret1 func82 rfl ⟨_, er, frs, H⟩
 refine au ?_
 refine Go1.ret1 func82 rfl ⟨_, er, frs, H⟩
theorem body116 : Body prog 116 := ⟨f116, func116, rfl, by kernel_rfl⟩
theorem J3H {n : Int} (hA : HA0 A w0) {K : List Int → Prop} (H : J0B n K) :
    CallsV prog 116 #[.int .i64 n] w0 (fun v w' => ∃ (r0 : List Int), ∃ (d6 : Nat), ∃ (p_r0 : Option Addr), ∃ (c_r0 : Nat), v = .slice p_r0 d6 c_r0 ∧ Same w0 w' ∧ Owns w0.heap.size w' [t1 Fl.i 3 p_r0 d6 c_r0 r0] A ∧ K r0) := by
 refine cal hA func116 ntmps116 fun hO hB => ?_
 unfold J0B at H
 refine scm H (fun h1 H => ?_) fun h1 H => ?_
 ·refine au ?_
  refine snil Fl.i 3 hO fun s hO => ?_
  refine Go1.ret1 func116 rfl ⟨_, _, _, _, er, frs, hO, H⟩
 refine scm H (fun h3 H => ?_) fun h3 H => ?_
 ·refine au ?_
  refine snil Fl.i 3 hO fun s hO => ?_
  refine Go1.ret1 func116 rfl ⟨_, _, _, _, er, frs, hO, H⟩
 refine smk Fl.i H hO fun w5 p6 s hO => ?_
 refine au ?_
 refine lv [3, 13] hO H.2.2 (fun E (k1_9, x7) σ w => Lo A w0 σ w [(14, .int .i64 (k1_9 : Int))] [t1 Fl.i 3 p6 n.toNat n.toNat x7]) ⟨agr, hO, fr⟩ ?_
 refine fun X1 => p1 fun k1_9 x7 => fun H hX1 σ w8 hk => d2 fun hag hO hB => keep2 hk hag ?_
 dsimp only at H
 revert hO; repeat (rename Owns .. => q; clear q)
 intro hO; repeat (rename Sq .. => q; clear q)
 refine scm H (fun h11 H => ?_) fun h11 H => ?_
 ·refine six1 0 hO H.1 H.2.1 ?_
  refine sst (u := (k1_9 : Int)) 0 hO H.1 H.2.1 fun w12 s hO => ?_
  refine au ?_
  have h13 := H.1
  have h14 := H.2.1
  replace H := H.2.2
  obtain ⟨h15, H⟩ := H
  refine zo (J03 rfl rfl (wrap_i64 h15)) ?_
  refine au ?_
  exact hX1 _ H _ _ agr ⟨agr, hO, fr⟩
 refine au ?_
 refine Go1.ret1 func116 rfl ⟨_, _, _, _, er, frs, hO, H⟩
theorem body125 : Body prog 125 := ⟨f125, func125, rfl, by kernel_rfl⟩
theorem J2x {p_l : Option Addr} {c_l : Nat} {l : List Int} (hA : HA0 A w0) (h_l : ISi A w0 p_l c_l l) {K : List Int → Prop} (H : J0h l K) :
    CallsV prog 125 #[.slice p_l l.length c_l] w0 (fun v w' => ∃ (r0 : List Int), ∃ (p_r0 : Option Addr), ∃ (c_r0 : Nat), v = .slice p_r0 r0.length c_r0 ∧ Same w0 w' ∧ ISi A w' p_r0 c_r0 r0 ∧ K r0) := by
 refine cal hA func125 ntmps125 fun hO hB => ?_
 unfold J0h at H
 refine sln0 ?_
 refine smk Fl.i (H h_l.bd) hO fun w1 p4 s hO => ?_
 refine au ?_
 have zz := omakeMap (fun a : Int => Value.int .i64 a) (fun a : Int => Value.int .i64 a) hO
 obtain ⟨w6, B7, Lf, hs9, Ei⟩ := zz
 refine zg Ei ?_
 refine nst Lf fun s hO => ?_
 refine sln0 ?_
 refine au ?_
 refine lv [3, 4, 13, 14] hO (H h_l.bd).2.2 (fun E (fU, jj, x8) σ w => Lo A w0 σ w [(15, .int .i64 (fU : Int))] [.any (mapE (fun a : Int => Value.int .i64 a) (fun a : Int => Value.int .i64 a) B7 jj), t1 Fl.i 3 p4 l.length l.length x8]) ⟨agr, hO, fr⟩ ?_
 refine fun X1 => p2 fun fU jj x8 => fun H hX1 σ w12 hk => d2 fun hag hO hB => keep2 hk hag ?_
 dsimp only at H
 revert hO; repeat (rename Owns .. => q; clear q)
 intro hO; repeat (rename Sq .. => q; clear q)
 refine scm H (fun h16 H => ?_) fun h16 H => ?_
 ·refine sxl hO h_l.u H.1 H.2.1 ?_
  refine au ?_
  have h17 := H.1
  have h18 := H.2.1
  replace H := H.2.2
  by_cases h19 : mhas jj ((ix l (fU : Int))) = true
  ·refine zs (olookT (a := (ix l (fU : Int))) (MK.int underlying3) 0 hO rfl underlying168 rfl rfl h19) ?_
   refine six1 1 hO (ifp h19 H).1 (ifp h19 H).2.1 ?_
   refine sst (u := (mgt jj ((ix l (fU : Int))))) 1 hO (ifp h19 H).1 (ifp h19 H).2.1 fun w20 s hO => ?_
   refine sinc (natbd h16 h_l.bd) ?_
   refine au ?_
   exact hX1 _ (ifp h19 H).2.2 _ _ agr ⟨agr, hO, fr⟩
  refine zs (olookF (a := (ix l (fU : Int))) (MK.int underlying3) 0 hO rfl underlying168 ti3 rfl rfl h19) ?_
  refine au ?_
  refine zs (omapLen 0 hO rfl underlying168 rfl) ?_
  refine au ?_
  have zz := omapUpd (MK.int underlying3) 0 hO rfl underlying168 (ix l (fU : Int)) (jj.length : Int)
  obtain ⟨w21, ph, Ej⟩ := zz
  refine zg (Ej (by exact rfl) (by exact rfl) (by exact rfl)) ?_
  refine nst ph fun s hO => ?_
  refine six1 1 hO (ifn h19 H).1 (ifn h19 H).2.1 ?_
  refine sst (u := (jj.length : Int)) 1 hO (ifn h19 H).1 (ifn h19 H).2.1 fun w24 s hO => ?_
  refine sinc (natbd h16 h_l.bd) ?_
  refine au ?_
  exact hX1 _ (ifn h19 H).2.2 _ _ agr ⟨agr, hO, fr⟩
 refine au ?_
 refine sfz 1 hO fun s hO ui Lg => ?_
 refine Go1.ret1 func125 rfl ⟨_, _, _, ?_, frs, ui.r, H⟩
 exact (congrArg (fun nn => Value.slice p4 nn l.length) Lg)
theorem body88 : Body prog 88 := ⟨f88, func88, rfl, by kernel_rfl⟩
theorem J3o {p_l : Option Addr} {c_l : Nat} {l : List Int} (hA : HA0 A w0) (h_l : ISi A w0 p_l c_l l) {K : List Int → Prop} (H : J0r l K) :
    CallsV prog 88 #[.slice p_l l.length c_l] w0 (fun v w' => ∃ (r0 : List Int), ∃ (p_r0 : Option Addr), ∃ (c_r0 : Nat), v = .slice p_r0 r0.length c_r0 ∧ Same w0 w' ∧ ISi A w' p_r0 c_r0 r0 ∧ K r0) := by
 refine cal hA func88 ntmps88 fun hO hB => ?_
 unfold J0r at H
 refine sln0 ?_
 refine scm (H h_l.bd) (fun h1 H => ?_) fun h1 H => ?_
 ·refine au ?_
  refine Go1.ret1 func88 rfl ⟨_, _, _, er, frs, (ISl.null _ _ _), H⟩
 refine au ?_
 refine zcr (J01 body125 rfl (J2x hO.lt h_l.u H)) fun _ w3 => e3 fun r2 Um Un => sc0 hO fun s hO => d1 fun Lh H => ?_
 refine au ?_
 refine Go1.ret1 func88 rfl ⟨_, _, _, er, frs, Lh.r, H⟩
theorem body118 : Body prog 118 := ⟨f118, func118, rfl, by kernel_rfl⟩
theorem body117 : Body prog 117 := ⟨f117, func117, rfl, by kernel_rfl⟩
theorem body83 : Body prog 83 := ⟨f83, func83, rfl, by kernel_rfl⟩
theorem J63 {ah ap cb cw : Option Addr} {aj aq cd cx : Nat} {a0 a1 : DFA} (hA : HA0 A w0) (aa : ISb A w0 ah aj a0.Final) (ar : ISs A w0 ap aq a0.Next) (bW : ISb A w0 cb cd a1.Final) (eg : ISs A w0 cw cx a1.Next) {K : List Int → Bool → Prop} (H : J2O a0 a1 K) :
    CallsV prog 83 #[.agg (cDF a0 ah aj ap aq), .agg (cDF a1 cb cd cw cx)] w0 (fun v w' => ∃ (r0 : List Int), ∃ (r1 : Bool), ∃ (p_r0 : Option Addr), ∃ (c_r0 : Nat), v = .tuple #[.slice p_r0 r0.length c_r0, .bool r1] ∧ Same w0 w' ∧ ISi A w' p_r0 c_r0 r0 ∧ K r0 r1) := by
 refine cal hA func83 ntmps83 fun hO hB => ?_
 unfold J2O at H
 refine sbx hO fun w1 B2 s hO => ?_
 refine sbx hO fun w4 B5 s hO => ?_
 refine sln0 ?_
 refine sln0 ?_
 replace H := ((H aa.bd) bW.bd)
 obtain ⟨h7, H⟩ := H
 refine zo (J03 rfl rfl (wrap_i64 h7)) ?_
 refine zcr (J01 body116 rfl (J3H hO.lt H)) fun _ w10 => e4 fun r8 cA ce cf => sc1 hO fun s hO => fun H => ?_
 refine sal hO fun w12 B13 s hO => ?_
 refine sbs 0 hO fun w15 s hO => ?_
 refine au ?_
 refine zo (J2N (vs := [.pointer (some ⟨B13, 0, none⟩)]) rfl) ?_
 refine sal hO fun w16 B17 s hO => ?_
 refine sbs 0 hO fun w19 s hO => ?_
 refine sal hO fun w20 B21 s hO => ?_
 refine sal hO fun w23 B24 s hO => ?_
 refine sbs 0 hO fun w26 s hO => ?_
 refine au ?_
 refine zo (J2N (vs := [.pointer (some ⟨B17, 0, none⟩), .pointer (some ⟨B2, 0, none⟩), .pointer (some ⟨B13, 0, none⟩), .pointer (some ⟨B21, 0, none⟩), .pointer (some ⟨B24, 0, none⟩), .pointer (some ⟨B5, 0, none⟩)]) rfl) ?_
 refine au ?_
 have hC1 : ∀ {A : List Nat} {w27 : World} {d1_28 : List Int} {s1_29 : Int} {KC1 : Int → (List Int) → Prop}, Owns w0.heap.size w27 [.blk B13 (.cells #[.slice ce cA cf] 31 (0, 0)), t1 Fl.i 3 ce cA cf d1_28] A → J0C K d1_28 s1_29 KC1 → CallsV prog 117 #[.int .i64 s1_29, .pointer (some ⟨B13, 0, none⟩)] w27 (fun v w' => ∃ (zx : Int), ∃ (nc : List Int), v = .int .i64 zx ∧ Owns w0.heap.size w' [.blk B13 (.cells #[.slice ce cA cf] 31 (0, 0)), t1 Fl.i 3 ce cA cf nc] A ∧ Fr (bl [.blk B13 (.cells #[.slice ce cA cf] 31 (0, 0)), t1 Fl.i 3 ce cA cf d1_28]) w27 (bl [.blk B13 (.cells #[.slice ce cA cf] 31 (0, 0)), t1 Fl.i 3 ce cA cf nc]) w' ∧ KC1 zx nc) := by
  intro A w27 d1_28 s1_29 KC1 hO H
  revert hO; repeat (rename Owns .. => q; clear q)
  intro hO; repeat (rename Sq .. => q; clear q)
  refine CallsV.of func117 rfl ntmps117 rfl ?_
  have hB := Fr.refl (bl [.blk B13 (.cells #[.slice ce cA cf] 31 (0, 0)), t1 Fl.i 3 ce cA cf d1_28]) w27
  unfold J0C at H
  refine au ?_
  refine lv [1] hO H (fun E (s2_31, d_32) σ w => Lp w0.heap.size (bl [.blk B13 (.cells #[.slice ce cA cf] 31 (0, 0)), t1 Fl.i 3 ce cA cf d1_28]) A w27 σ w [(0, .int .i64 s2_31)] (E.set 1 (t1 Fl.i 3 ce cA cf d_32))) ⟨agr, hO, fr⟩ ?_
  refine fun X2 => p1 fun s2_31 d_32 => fun H hX2 σ w30 hk => d2 fun hag hO hB => keep2 hk hag ?_
  dsimp only [esets, sS, sZ] at hO hB
  dsimp only at H
  refine sxl1 1 hO H.1 H.2.1 ?_
  refine au ?_
  have h33 := H.1
  have h34 := H.2.1
  refine scm H.2.2 (fun h35 H => ?_) fun h35 H => ?_
  ·refine au ?_
   refine Go1.ret1 func117 rfl ⟨_, _, er, hO, fr, H⟩
  refine au ?_
  refine drs 1 [q1, q0, q1, q1, q0, q0, q1, q0, q1, q0, q3] hO fun w36 s hO => ?_
  refine sxl1 1 hO H.1 H.2.1 ?_
  refine sxl1 1 hO H.2.2.1 H.2.2.2.1 ?_
  refine six1 1 hO H.2.2.2.2.1 H.2.2.2.2.2.1 ?_
  refine sst (u := (ix d_32 (ix d_32 s2_31))) 1 hO H.2.2.2.2.1 H.2.2.2.2.2.1 fun w37 s hO => ?_
  refine sxl1 1 hO H.2.2.2.2.2.2.1 H.2.2.2.2.2.2.2.1 ?_
  refine au ?_
  exact hX2 _ H.2.2.2.2.2.2.2.2 _ _ agr ⟨agr, hO, fr⟩
 refine snil (id Fl.fl : Fl (rpP2 .i64)) 138 hO fun s hO => ?_
 have hC3 : ∀ {A : List Nat} {w39 : World} {n41 : Nat} {p42 : Option Addr} {c43 : Nat} {d3_40 : List (Int × Int)} {d3_44 : List Int} {p3_45 : Int} {q3_46 : Int} {KC3 : (List (Int × Int)) → (List Int) → Prop}, Owns w0.heap.size w39 [t1 (id Fl.fl : Fl (rpP2 .i64)) 138 p42 n41 c43 d3_40, .blk B24 (.cells #[.bool true] 4 (0, 0)), .blk B21 (.cells #[.slice p42 n41 c43] 137 (0, 0)), .blk B17 (.cells #[.func (.func 117) #[] #[.pointer (some ⟨B13, 0, none⟩)]] 136 (0, 0)), .blk B13 (.cells #[.slice ce cA cf] 31 (0, 0)), t1 Fl.i 3 ce cA cf d3_44, .blk B5 (.cells (cDF a1 cb cd cw cx) 25 (0, 0)), .blk B2 (.cells (cDF a0 ah aj ap aq) 25 (0, 0))] A → ISb (bl [t1 (id Fl.fl : Fl (rpP2 .i64)) 138 p42 n41 c43 d3_40, .blk B24 (.cells #[.bool true] 4 (0, 0)), .blk B21 (.cells #[.slice p42 n41 c43] 137 (0, 0)), .blk B17 (.cells #[.func (.func 117) #[] #[.pointer (some ⟨B13, 0, none⟩)]] 136 (0, 0)), .blk B13 (.cells #[.slice ce cA cf] 31 (0, 0)), t1 Fl.i 3 ce cA cf d3_44, .blk B5 (.cells (cDF a1 cb cd cw cx) 25 (0, 0)), .blk B2 (.cells (cDF a0 ah aj ap aq) 25 (0, 0))] ++ A) w39 ah aj a0.Final → ISs (bl [t1 (id Fl.fl : Fl (rpP2 .i64)) 138 p42 n41 c43 d3_40, .blk B24 (.cells #[.bool true] 4 (0, 0)), .blk B21 (.cells #[.slice p42 n41 c43] 137 (0, 0)), .blk B17 (.cells #[.func (.func 117) #[] #[.pointer (some ⟨B13, 0, none⟩)]] 136 (0, 0)), .blk B13 (.cells #[.slice ce cA cf] 31 (0, 0)), t1 Fl.i 3 ce cA cf d3_44, .blk B5 (.cells (cDF a1 cb cd cw cx) 25 (0, 0)), .blk B2 (.cells (cDF a0 ah aj ap aq) 25 (0, 0))] ++ A) w39 ap aq a0.Next → ISb (bl [t1 (id Fl.fl : Fl (rpP2 .i64)) 138 p42 n41 c43 d3_40, .blk B24 (.cells #[.bool true] 4 (0, 0)), .blk B21 (.cells #[.slice p42 n41 c43] 137 (0, 0)), .blk B17 (.cells #[.func (.func 117) #[] #[.pointer (some ⟨B13, 0, none⟩)]] 136 (0, 0)), .blk B13 (.cells #[.slice ce cA cf] 31 (0, 0)), t1 Fl.i 3 ce cA cf d3_44, .blk B5 (.cells (cDF a1 cb cd cw cx) 25 (0, 0)), .blk B2 (.cells (cDF a0 ah aj ap aq) 25 (0, 0))] ++ A) w39 cb cd a1.Final → ISs (bl [t1 (id Fl.fl : Fl (rpP2 .i64)) 138 p42 n41 c43 d3_40, .blk B24 (.cells #[.bool true] 4 (0, 0)), .blk B21 (.cells #[.slice p42 n41 c43] 137 (0, 0)), .blk B17 (.cells #[.func (.func 117) #[] #[.pointer (some ⟨B13, 0, none⟩)]] 136 (0, 0)), .blk B13 (.cells #[.slice ce cA cf] 31 (0, 0)), t1 Fl.i 3 ce cA cf d3_44, .blk B5 (.cells (cDF a1 cb cd cw cx) 25 (0, 0)), .blk B2 (.cells (cDF a0 ah aj ap aq) 25 (0, 0))] ++ A) w39 cw cx a1.Next → J0D a0 a1 K d3_40 d3_44 p3_45 q3_46 KC3 → CallsV prog 118 #[.int .i64 p3_45, .int .i64 q3_46, .pointer (some ⟨B17, 0, none⟩), .pointer (some ⟨B2, 0, none⟩), .pointer (some ⟨B13, 0, none⟩), .pointer (some ⟨B21, 0, none⟩), .pointer (some ⟨B24, 0, none⟩), .pointer (some ⟨B5, 0, none⟩)] w39 (fun v w' => ∃ (ne : List (Int × Int)), ∃ (nf : List Int), ∃ (pk : Nat), ∃ (po : Option Addr), ∃ (pp : Nat), v = .tuple #[] ∧ Owns w0.heap.size w' [t1 (id Fl.fl : Fl (rpP2 .i64)) 138 po pk pp ne, .blk B24 (.cells #[.bool true] 4 (0, 0)), .blk B21 (.cells #[.slice po pk pp] 137 (0, 0)), .blk B17 (.cells #[.func (.func 117) #[] #[.pointer (some ⟨B13, 0, none⟩)]] 136 (0, 0)), .blk B13 (.cells #[.slice ce cA cf] 31 (0, 0)), t1 Fl.i 3 ce cA cf nf, .blk B5 (.cells (cDF a1 cb cd cw cx) 25 (0, 0)), .blk B2 (.cells (cDF a0 ah aj ap aq) 25 (0, 0))] A ∧ Fr (bl [t1 (id Fl.fl : Fl (rpP2 .i64)) 138 p42 n41 c43 d3_40, .blk B24 (.cells #[.bool true] 4 (0, 0)), .blk B21 (.cells #[.slice p42 n41 c43] 137 (0, 0)), .blk B17 (.cells #[.func (.func 117) #[] #[.pointer (some ⟨B13, 0, none⟩)]] 136 (0, 0)), .blk B13 (.cells #[.slice ce cA cf] 31 (0, 0)), t1 Fl.i 3 ce cA cf d3_44, .blk B5 (.cells (cDF a1 cb cd cw cx) 25 (0, 0)), .blk B2 (.cells (cDF a0 ah aj ap aq) 25 (0, 0))]) w39 (bl [t1 (id Fl.fl : Fl (rpP2 .i64)) 138 po pk pp ne, .blk B24 (.cells #[.bool true] 4 (0, 0)), .blk B21 (.cells #[.slice po pk pp] 137 (0, 0)), .blk B17 (.cells #[.func (.func 117) #[] #[.pointer (some ⟨B13, 0, none⟩)]] 136 (0, 0)), .blk B13 (.cells #[.slice ce cA cf] 31 (0, 0)), t1 Fl.i 3 ce cA cf nf, .blk B5 (.cells (cDF a1 cb cd cw cx) 25 (0, 0)), .blk B2 (.cells (cDF a0 ah aj ap aq) 25 (0, 0))]) w' ∧ KC3 ne nf) := by
  intro A w39 n41 p42 c43 d3_40 d3_44 p3_45 q3_46 KC3 hO aa ar bW eg H
  revert hO; repeat (rename Owns .. => q; clear q)
  intro hO; repeat (rename Sq .. => q; clear q)
  refine CallsV.of func118 rfl ntmps118 rfl ?_
  have hB := Fr.refl (bl [t1 (id Fl.fl : Fl (rpP2 .i64)) 138 p42 n41 c43 d3_40, .blk B24 (.cells #[.bool true] 4 (0, 0)), .blk B21 (.cells #[.slice p42 n41 c43] 137 (0, 0)), .blk B17 (.cells #[.func (.func 117) #[] #[.pointer (some ⟨B13, 0, none⟩)]] 136 (0, 0)), .blk B13 (.cells #[.slice ce cA cf] 31 (0, 0)), t1 Fl.i 3 ce cA cf d3_44, .blk B5 (.cells (cDF a1 cb cd cw cx) 25 (0, 0)), .blk B2 (.cells (cDF a0 ah aj ap aq) 25 (0, 0))]) w39
  unfold J0D at H
  refine au ?_
  refine Go1.drawT (ok := fun _ => True) (CSv.tr [(some ⟨B17, 0, none⟩), (some ⟨B2, 2, none⟩)]) [9] 12 (.qs 0 (.qp 1 (.qs 3 (.qp 4 (.qs 5 (.qp 6 (.qp 7 (.qp 8 (.alt 2 (.alt 9 (.qp 10 (.qp 11 .nil)) .fin) .fin))))))))) mixed (by kernel_rfl) ?_
  intro w47 uj
  refine sm hO uj fun s hO => ?_
  refine GoT.stable rfl (loadV (.head _) rfl (J00 3 hO rfl rfl) underlying136 rfl rfl) rfl rfl ?_
  refine au ?_
  refine GoT.stable rfl (loadV (.head _) rfl (J00 3 hO rfl rfl) underlying136 rfl rfl) rfl rfl ?_
  refine au ?_
  refine GoT.stable rfl (loadV (.tail _ (.head _)) rfl (J00 7 hO rfl rfl) underlying22 rfl rfl) rfl rfl ?_
  refine sln0 ?_
  refine au ?_
  replace H := (H aa.bd)
  obtain ⟨h49, H⟩ := H
  refine GoT.pure rfl (J03 rfl rfl (wrap_i64 h49)) rfl rfl ?_
  skip
  refine sfr 5 hO fun s hO => ?_
  refine sfr 5 hO fun s hO => ?_
  refine sob 2 hO fun sg hO1 => ?_
  refine GoT.call rfl (J38 (vs := [.int .i64 p3_45]) (caps := [.pointer (some ⟨B13, 0, none⟩)]) body117 rfl rfl (hC1 hO1 H)) (fun _ _ hr => (e2 fun _ _ => d3 fun _ hN hF _ => sjn hO hN hF fun _ hO2 _ => (CSv.cons (cs_eq (J00 5 hO rfl rfl) (J00 5 hO2 rfl rfl)) (CSv.cons (cs_eq (J00 7 hO rfl rfl) (J00 7 hO2 rfl rfl)) (CSv.nil _ _)))) hr) rfl rfl fun _ w52 => e2 fun r50 q51 => d3 fun hv hN53 hF54 H => ?_
  subst hv; clear sg hO1
  refine sjn hO hN53 hF54 fun s hO c => ?_
  skip
  refine sob 2 hO fun sg hO1 => ?_
  refine GoT.callX rfl (J38 (vs := [.int .i64 ((a0.Final.length : Int) + q3_46)]) (caps := [.pointer (some ⟨B13, 0, none⟩)]) body117 rfl rfl (hC1 hO1 H)) rfl rfl rfl fun _ w57 => e2 fun r55 q56 => d3 fun hv hN58 hF59 H => ?_
  subst hv; clear sg hO1
  refine sjn hO hN58 hF59 fun s hO c => ?_
  refine scm H (fun h60 H => ?_) fun h60 H => ?_
  ·refine au ?_
   refine sfr 7 hO fun s hO => ?_
   refine sfr 7 hO fun s hO => ?_
   refine sfr 3 hO fun s hO => ?_
   refine sfr 3 hO fun s hO => ?_
   refine sfr 7 hO fun s hO => ?_
   refine sfr 7 hO fun s hO => ?_
   refine sfr 7 hO fun s hO => ?_
   refine sfr 7 hO fun s hO => ?_
   refine Go1.fin0 func118 rfl ⟨_, _, _, _, _, er, hO, fr, H⟩
  refine au ?_
  by_cases h61 : r50 < r55
  ·refine zo (Jaz rfl rfl h61) ?_
   refine au ?_
   replace H := (ifp h61 H)
   by_cases h62 : r55 < r50
   ·refine zo (J9t rfl rfl h62) ?_
    refine six1 1 hO (ifp h62 H).1 (ifp h62 H).2.1 ?_
    refine sst (u := r55) 1 hO (ifp h62 H).1 (ifp h62 H).2.1 fun w63 s hO => ?_
    refine au ?_
    refine zo (J33 underlying138 ti138 ti3 (vs := [(0, .int .i64 p3_45), (1, .int .i64 q3_46)]) (cs := #[.int .i64 p3_45, .int .i64 q3_46]) rfl (by kernel_rfl)) ?_
    refine sapF (p3_45, q3_46) 2 hO (ifp h62 H).2.2 (fun _ w64 p65 c66 s hO => ?_) (hok := by exact trivial)
    refine sbs 4 hO fun w67 s hO => ?_
    refine au ?_
    refine drs 1 [q1, q0, q0, q1, q0, q0, q1, q0, q1, q0, q0, q1, q0, q0, q3] hO fun w68 s hO => ?_
    refine sbl 3 ?_
    refine six aa (ifp h62 H).2.2.2.1 (ifp h62 H).2.2.2.2.1 ?_
    refine sld hO aa.u (ifp h62 H).2.2.2.1 (ifp h62 H).2.2.2.2.1 ?_
    refine six bW (ifp h62 H).2.2.2.2.2.1 (ifp h62 H).2.2.2.2.2.2.1 ?_
    refine sld hO bW.u (ifp h62 H).2.2.2.2.2.1 (ifp h62 H).2.2.2.2.2.2.1 ?_
    refine seqB (ifp h62 H).2.2.2.2.2.2.2.1 ?_
    refine sbs 3 hO fun w69 s hO => ?_
    refine au ?_
    refine sfr 7 hO fun s hO => ?_
    refine sfr 7 hO fun s hO => ?_
    refine sfr 3 hO fun s hO => ?_
    refine sfr 3 hO fun s hO => ?_
    refine sfr 7 hO fun s hO => ?_
    refine sfr 7 hO fun s hO => ?_
    refine sfr 7 hO fun s hO => ?_
    refine sfr 7 hO fun s hO => ?_
    refine Go1.fin0 func118 rfl ⟨_, _, _, _, _, er, hO, fr, (ifp h62 H).2.2.2.2.2.2.2.2⟩
   refine zo (J9k rfl rfl h62) ?_
   refine six1 1 hO (ifn h62 H).1 (ifn h62 H).2.1 ?_
   refine sst (u := r50) 1 hO (ifn h62 H).1 (ifn h62 H).2.1 fun w70 s hO => ?_
   refine au ?_
   refine zo (J33 underlying138 ti138 ti3 (vs := [(0, .int .i64 p3_45), (1, .int .i64 q3_46)]) (cs := #[.int .i64 p3_45, .int .i64 q3_46]) rfl (by kernel_rfl)) ?_
   refine sapF (p3_45, q3_46) 2 hO (ifn h62 H).2.2 (fun _ w71 p72 c73 s hO => ?_) (hok := by exact trivial)
   refine sbs 4 hO fun w74 s hO => ?_
   refine au ?_
   refine drs 1 [q1, q0, q0, q1, q0, q0, q1, q0, q1, q0, q0, q1, q0, q0, q3] hO fun w75 s hO => ?_
   refine sbl 3 ?_
   refine six aa (ifn h62 H).2.2.2.1 (ifn h62 H).2.2.2.2.1 ?_
   refine sld hO aa.u (ifn h62 H).2.2.2.1 (ifn h62 H).2.2.2.2.1 ?_
   refine six bW (ifn h62 H).2.2.2.2.2.1 (ifn h62 H).2.2.2.2.2.2.1 ?_
   refine sld hO bW.u (ifn h62 H).2.2.2.2.2.1 (ifn h62 H).2.2.2.2.2.2.1 ?_
   refine seqB (ifn h62 H).2.2.2.2.2.2.2.1 ?_
   refine sbs 3 hO fun w76 s hO => ?_
   refine au ?_
   refine sfr 7 hO fun s hO => ?_
   refine sfr 7 hO fun s hO => ?_
   refine sfr 3 hO fun s hO => ?_
   refine sfr 3 hO fun s hO => ?_
   refine sfr 7 hO fun s hO => ?_
   refine sfr 7 hO fun s hO => ?_
   refine sfr 7 hO fun s hO => ?_
   refine sfr 7 hO fun s hO => ?_
   refine Go1.fin0 func118 rfl ⟨_, _, _, _, _, er, hO, fr, (ifn h62 H).2.2.2.2.2.2.2.2⟩
  refine zo (JaR rfl rfl h61) ?_
  refine au ?_
  replace H := (ifn h61 H)
  by_cases h77 : r55 < r50
  ·refine zo (J9t rfl rfl h77) ?_
   refine six1 1 hO (ifp h77 H).1 (ifp h77 H).2.1 ?_
   refine sst (u := r55) 1 hO (ifp h77 H).1 (ifp h77 H).2.1 fun w78 s hO => ?_
   refine au ?_
   refine zo (J33 underlying138 ti138 ti3 (vs := [(0, .int .i64 p3_45), (1, .int .i64 q3_46)]) (cs := #[.int .i64 p3_45, .int .i64 q3_46]) rfl (by kernel_rfl)) ?_
   refine sapF (p3_45, q3_46) 2 hO (ifp h77 H).2.2 (fun _ w79 p80 c81 s hO => ?_) (hok := by exact trivial)
   refine sbs 4 hO fun w82 s hO => ?_
   refine au ?_
   refine drs 1 [q1, q0, q0, q1, q0, q0, q1, q0, q1, q0, q0, q1, q0, q0, q3] hO fun w83 s hO => ?_
   refine sbl 3 ?_
   refine six aa (ifp h77 H).2.2.2.1 (ifp h77 H).2.2.2.2.1 ?_
   refine sld hO aa.u (ifp h77 H).2.2.2.1 (ifp h77 H).2.2.2.2.1 ?_
   refine six bW (ifp h77 H).2.2.2.2.2.1 (ifp h77 H).2.2.2.2.2.2.1 ?_
   refine sld hO bW.u (ifp h77 H).2.2.2.2.2.1 (ifp h77 H).2.2.2.2.2.2.1 ?_
   refine seqB (ifp h77 H).2.2.2.2.2.2.2.1 ?_
   refine sbs 3 hO fun w84 s hO => ?_
   refine au ?_
   refine sfr 7 hO fun s hO => ?_
   refine sfr 7 hO fun s hO => ?_
   refine sfr 3 hO fun s hO => ?_
   refine sfr 3 hO fun s hO => ?_
   refine sfr 7 hO fun s hO => ?_
   refine sfr 7 hO fun s hO => ?_
   refine sfr 7 hO fun s hO => ?_
   refine sfr 7 hO fun s hO => ?_
   refine Go1.fin0 func118 rfl ⟨_, _, _, _, _, er, hO, fr, (ifp h77 H).2.2.2.2.2.2.2.2⟩
  refine zo (J9k rfl rfl h77) ?_
  refine six1 1 hO (ifn h77 H).1 (ifn h77 H).2.1 ?_
  refine sst (u := r50) 1 hO (ifn h77 H).1 (ifn h77 H).2.1 fun w85 s hO => ?_
  refine au ?_
  refine zo (J33 underlying138 ti138 ti3 (vs := [(0, .int .i64 p3_45), (1, .int .i64 q3_46)]) (cs := #[.int .i64 p3_45, .int .i64 q3_46]) rfl (by kernel_rfl)) ?_
  refine sapF (p3_45, q3_46) 2 hO (ifn h77 H).2.2 (fun _ w86 p87 c88 s hO => ?_) (hok := by exact trivial)
  refine sbs 4 hO fun w89 s hO => ?_
  refine au ?_
  refine drs 1 [q1, q0, q0, q1, q0, q0, q1, q0, q1, q0, q0, q1, q0, q0, q3] hO fun w90 s hO => ?_
  refine sbl 3 ?_
  refine six aa (ifn h77 H).2.2.2.1 (ifn h77 H).2.2.2.2.1 ?_
  refine sld hO aa.u (ifn h77 H).2.2.2.1 (ifn h77 H).2.2.2.2.1 ?_
  refine six bW (ifn h77 H).2.2.2.2.2.1 (ifn h77 H).2.2.2.2.2.2.1 ?_
  refine sld hO bW.u (ifn h77 H).2.2.2.2.2.1 (ifn h77 H).2.2.2.2.2.2.1 ?_
  refine seqB (ifn h77 H).2.2.2.2.2.2.2.1 ?_
  refine sbs 3 hO fun w91 s hO => ?_
  refine au ?_
  refine sfr 7 hO fun s hO => ?_
  refine sfr 7 hO fun s hO => ?_
  refine sfr 3 hO fun s hO => ?_
  refine sfr 3 hO fun s hO => ?_
  refine sfr 7 hO fun s hO => ?_
  refine sfr 7 hO fun s hO => ?_
  refine sfr 7 hO fun s hO => ?_
  refine sfr 7 hO fun s hO => ?_
  refine Go1.fin0 func118 rfl ⟨_, _, _, _, _, er, hO, fr, (ifn h77 H).2.2.2.2.2.2.2.2⟩
 refine sob 8 hO fun sg hO1 => ?_
 refine zcr (J38 (vs := [.int .i64 a0.Start, .int .i64 a1.Start]) (caps := [.pointer (some ⟨B17, 0, none⟩), .pointer (some ⟨B2, 0, none⟩), .pointer (some ⟨B13, 0, none⟩), .pointer (some ⟨B21, 0, none⟩), .pointer (some ⟨B24, 0, none⟩), .pointer (some ⟨B5, 0, none⟩)]) body118 rfl rfl (hC3 hO1 aa.u ar.u bW.u eg.u H)) fun _ w97 => e4 fun q92 q93 n94 p95 => e1 fun c96 => d3 fun hv hN98 hF99 H => ?_
 subst hv; clear sg hO1
 refine sjn hO hN98 hF99 fun s hO c => ?_
 refine au ?_
 refine lv [2, 3, 6, 7, 8, 9, 10] hO H (fun E (k4_101, d_102, d_106) σ w => ∃ uk ng nh, Lo A w0 σ w [(11, .int .i64 (k4_101 : Int))] (esets E [(0, t1 (id Fl.fl : Fl (rpP2 .i64)) 138 ng uk nh d_102), (2, .blk B21 (.cells #[.slice ng uk nh] 137 (0, 0))), (5, t1 Fl.i 3 ce cA cf d_106)])) ⟨_, _, _, ⟨agr, hO, fr⟩⟩ ?_
 refine fun X4 => p2 fun k4_101 d_102 d_106 => fun H hX4 σ Uo hk => e3 fun uk ng nh => d2 fun hag hO hB => keep2 hk hag ?_
 dsimp only [esets, sS, sZ] at hO hB
 dsimp only at H
 revert hO; repeat (rename Owns .. => q; clear q)
 intro hO; repeat (rename Sq .. => q; clear q)
 refine sln1 0 hO ?_
 refine scm H (fun jQ H => ?_) fun jQ H => ?_
 ·refine sbl 1 ?_
  refine au ?_
  refine drs 0 [q1, q0, q0, q0, q1, q1, q0, q0, q0, q1, q0, q0] hO fun zy s hO => ?_
  refine six1 0 hO H.1 H.2.1 ?_
  refine sxa1 0 hO H.1 H.2.1 ?_
  refine sldG1 0 hO H.1 H.2.1 ?_
  refine six1 0 hO H.2.2.1 H.2.2.2.1 ?_
  refine sxa1 0 hO H.2.2.1 H.2.2.2.1 ?_
  refine sldG1 0 hO H.2.2.1 H.2.2.2.1 ?_
  refine au ?_
  have ul := H.1
  have Up := H.2.1
  have gH := H.2.2.1
  have Uq := H.2.2.2.1
  refine lv [2, 3, 6, 7, 8, 9, 10, 11, 12, 13, 52] hO H.2.2.2.2 (fun E (k5_110, d_111, d_115) σ w => ∃ um uo uq, Lo A w0 σ w [(53, .int .i64 (k5_110 : Int))] (esets E [(0, t1 (id Fl.fl : Fl (rpP2 .i64)) 138 uo um uq d_111), (2, .blk B21 (.cells #[.slice uo um uq] 137 (0, 0))), (5, t1 Fl.i 3 ce cA cf d_115)])) ⟨_, _, _, ⟨agr, hO, fr⟩⟩ ?_
  refine fun X5 => p2 fun k5_110 d_111 d_115 => fun H hX5 σ ur hk => e3 fun um uo uq => d2 fun hag hO hB => keep2 hk hag ?_
  dsimp only [esets, sS, sZ] at hO hB
  dsimp only at H
  revert hO; repeat (rename Owns .. => q; clear q)
  intro hO; repeat (rename Sq .. => q; clear q)
  refine scm H (fun ni H => ?_) fun ni H => ?_
  ·refine au ?_
   refine drs 5 [q0, q0, q1, q0, q0, q1, q0, q0, q1, q0, q1, q0, q0, q1, q0, q0, q1, q3] hO fun nj s hO => ?_
   refine sxls hO ar.u H.1 H.2.1 fun Li Lj Ek => ?_
   refine sxl hO Ek.u H.2.2.1 H.2.2.2.1 ?_
   refine sxls hO eg.u H.2.2.2.2.1 H.2.2.2.2.2.1 fun Ur Us El => ?_
   refine sxl hO El.u H.2.2.2.2.2.2.1 H.2.2.2.2.2.2.2.1 ?_
   refine sob 8 hO fun sg hO1 => ?_
   have nk := H.1
   have Ut := H.2.1
   have Uu := H.2.2.1
   have Uv := H.2.2.2.1
   have zA := H.2.2.2.2.1
   have Uw := H.2.2.2.2.2.1
   have Ux := H.2.2.2.2.2.2.1
   have Uy := H.2.2.2.2.2.2.2.1
   refine zcl rfl (J38 (vs := [.int .i64 (ix (ix a0.Next ((ix d_102 (k4_101 : Int)).1)) (k5_110 : Int)), .int .i64 (ix (ix a1.Next ((ix d_102 (k4_101 : Int)).2)) (k5_110 : Int))]) (caps := [.pointer (some ⟨B17, 0, none⟩), .pointer (some ⟨B2, 0, none⟩), .pointer (some ⟨B13, 0, none⟩), .pointer (some ⟨B21, 0, none⟩), .pointer (some ⟨B24, 0, none⟩), .pointer (some ⟨B5, 0, none⟩)]) body118 rfl rfl (hC3 hO1 aa.u ar.u bW.u eg.u H.2.2.2.2.2.2.2.2)) fun _ zB => e4 fun q136 q137 Uz Lk => e1 fun UA => d3 fun hv hN142 hF143 H => ?_
   subst hv; clear sg hO1
   refine sjn hO hN142 hF143 fun s hO c => ?_
   refine au ?_
   obtain ⟨ut, H⟩ := H
   refine zo (J03 rfl rfl (wrap_i64 ut)) ?_
   refine au ?_
   exact hX5 _ H _ _ agr ⟨_, _, _, ⟨agr, hO, fr⟩⟩
  refine au ?_
  obtain ⟨Ll, H⟩ := H
  refine zo (J03 rfl rfl (wrap_i64 Ll)) ?_
  refine au ?_
  exact hX4 _ H _ _ agr ⟨_, _, _, ⟨agr, hO, fr⟩⟩
 refine sbl 1 ?_
 refine sln1 5 hO ?_
 refine au ?_
 refine sdr [0, 0, 0, 3, 3] hO fun s hO => ?_
 refine lv [6, 7, 78] hO H (fun E (k6_147, d_148) σ w => Lo A w0 σ w [(79, .int .i64 (k6_147 : Int))] (E.set 2 (t1 Fl.i 3 ce cA cf d_148))) ⟨agr, hO, fr⟩ ?_
 refine fun X6 => p1 fun k6_147 d_148 => fun H hX6 σ Ln hk => d2 fun hag hO hB => keep2 hk hag ?_
 dsimp only [esets, sS, sZ] at hO hB
 dsimp only at H
 revert hO; repeat (rename Owns .. => q; clear q)
 intro hO; repeat (rename Sq .. => q; clear q)
 refine scm H (fun pq H => ?_) fun pq H => ?_
 ·refine au ?_
  refine Go1.drawT (ok := fun _ => True) (CSv.tr [(some ⟨B13, 0, none⟩), (some ⟨B17, 0, none⟩)]) [6] 7 (.qs 0 (.qp 1 (.qs 2 (.qp 3 (.alt 4 (.qp 5 (.alt 6 .nil .fin)) .fin))))) mixed (by kernel_rfl) ?_
  intro zC Em
  refine sm hO Em fun s hO => ?_
  refine GoT.stable rfl (loadV (.head _) rfl (J00 1 hO rfl rfl) underlying31 rfl rfl) rfl rfl ?_
  refine au ?_
  refine GoT.stable rfl (loadV (.tail _ (.head _)) rfl (J00 0 hO rfl rfl) underlying136 rfl rfl) rfl rfl ?_
  refine au ?_
  skip
  refine sfr 2 hO fun s hO => ?_
  refine sfr 2 hO fun s hO => ?_
  refine sob 2 hO fun sg hO1 => ?_
  refine GoT.call rfl (J38 (vs := [.int .i64 (k6_147 : Int)]) (caps := [.pointer (some ⟨B13, 0, none⟩)]) body117 rfl rfl (hC1 hO1 H)) (fun _ _ hr => (e2 fun _ _ => d3 fun _ hN hF _ => sjn hO hN hF fun _ hO2 _ => (CSv.cons (cs_eq (J00 0 hO rfl rfl) (J00 0 hO2 rfl rfl)) (CSv.cons (cs_eq (J00 2 hO rfl rfl) (J00 2 hO2 rfl rfl)) (CSv.nil _ _)))) hr) rfl rfl fun _ uu => e2 fun r152 q153 => d3 fun hv hN155 hF156 H => ?_
  subst hv; clear sg hO1
  refine sjn hO hN155 hF156 fun s hO c => ?_
  refine six1 1 hO H.1 H.2.1 ?_
  have Lr := H.1
  have uv := H.2.1
  replace H := H.2.2
  skip
  refine sst (u := r152) 1 hO Lr uv fun Lt s hO => ?_
  refine au ?_
  obtain ⟨nr, H⟩ := H
  refine zo (J03 rfl rfl (wrap_i64 nr)) ?_
  refine au ?_
  refine sfr 1 hO fun s hO => ?_
  refine sfr 1 hO fun s hO => ?_
  refine sfr 2 hO fun s hO => ?_
  exact hX6 _ H _ _ agr ⟨agr, hO, fr⟩
 refine au ?_
 refine sfz 2 hO fun s hO En Eo => ?_
 refine zcr (J01 body88 (by rw [Eo]; exact rfl) (J3o hO.lt En H)) fun _ pt => e3 fun r163 Rq Rr => sc0 hO fun s hO => d1 fun zD H => ?_
 refine au ?_
 refine Go1.ret2 func83 rfl ⟨_, _, _, _, er, frs, zD.r, H⟩
theorem body45 : Body prog 45 := ⟨f45, func45, rfl, by kernel_rfl⟩
theorem J4s {f6 gD f8 gF : Option Addr} {f7 gE f9 gG : Nat} {a b : DFA} (hA : HA0 A w0) (gX : ISb A w0 f6 f7 a.Final) (iv : ISs A w0 gD gE a.Next) (gY : ISb A w0 f8 f9 b.Final) (iw : ISs A w0 gF gG b.Next) {K : List Int → Str → Bool → Int → Prop} (H : J20 a b K) :
    CallsV prog 45 #[.agg (cDF a f6 f7 gD gE), .agg (cDF b f8 f9 gF gG)] w0 (fun v w' => ∃ (r0 : List Int), ∃ (r1 : Str), ∃ (r2 : Bool), ∃ (r3 : Int), ∃ (p_r0 : Option Addr), ∃ (c_r0 : Nat), v = .tuple #[.slice p_r0 r0.length c_r0, .string (gstr r1), .bool r2, .int .i64 r3] ∧ Same w0 w' ∧ ISi A w' p_r0 c_r0 r0 ∧ r1.length ≤ mx ∧ K r0 r1 r2 r3) := by
 refine cal hA func45 ntmps45 fun hO hB => ?_
 unfold J20 at H
 refine sbx hO fun w1 B2 s hO => ?_
 refine sbx hO fun w4 B5 s hO => ?_
 refine sag 1 hO ?_
 refine sag 0 hO ?_
 refine zcr (J01 body82 rfl (J4P hO.lt gX.u iv.u gY.u iw.u H)) fun _ w8 => e1 fun r7 => sc0 hO fun s hO => fun H => ?_
 refine scm H (fun h9 H => ?_) fun h9 H => ?_
 ·refine sag 1 hO ?_
  refine sag 0 hO ?_
  refine zcr (J01 body83 rfl (J63 hO.lt gX.u iv.u gY.u iw.u H)) fun _ w12 => e4 fun r10 r11 RE RF => sc0 hO fun s hO => d1 fun Ep H => ?_
  refine au ?_
  cases r11
  ·refine sag 1 hO ?_
   refine sag 0 hO ?_
   refine zo (J2N (vs := [.pointer (some ⟨B2, 0, none⟩), .pointer (some ⟨B5, 0, none⟩)]) rfl) ?_
   exact ((iF H)).elim
  refine au ?_
  refine Go1.ret4 func45 rfl ⟨_, _, _, _, _, _, er, frs, Ep.r, (by decide), (iT H)⟩
 refine au ?_
 refine Go1.ret4 func45 rfl ⟨_, _, _, _, _, _, er, frs, (ISl.null _ _ _), (by decide), H⟩
theorem J2v {ah ap kA kC jB jD ma : Option Addr} {aj aq kB kD jC jE mb : Nat} {a0 : DFA} {a1 : Syntactic} (hA : HA0 A w0) (aa : ISb A w0 ah aj a0.Final) (ar : ISs A w0 ap aq a0.Next) (iA : ISs A w0 kA kB a1.Table) (kE : ISt A w0 kC kD a1.Words) (jF : ISi A w0 jB jC a1.Images) (jG : ISb A w0 jD jE a1.Accept) (mc : ISb A w0 ma mb a1.Plus) {K : Bool → Prop} (H : law21_SyntacticAutomata a0 a1 K) :
    CallsV prog 12 #[.agg (cDF a0 ah aj ap aq), .agg (cSY a1 kA kB kC kD jB jC jD jE ma mb)] w0 (fun v w' => ∃ (r0 : Bool), v = .bool r0 ∧ Same w0 w' ∧ K r0) := by
 refine cal hA func12 ntmps12 fun hO hB => ?_
 unfold law21_SyntacticAutomata at H
 refine sbx hO fun w1 B2 s hO => ?_
 refine sbx hO fun w4 B5 s hO => ?_
 refine sln0 ?_
 refine scm (H iA.bd) (fun h7 H => ?_) fun h7 H => ?_
 ·refine sag 0 hO ?_
  refine zcr (J01 body42 rfl (J0I hO.lt iA.u kE.u jF.u jG.u mc.u H)) fun _ w10 => e4 fun r8 r9 Er Et => e2 fun K4 K5 => sc0 hO fun s hO => d2 fun Eu K6 H => ?_
  refine sal hO fun w11 B12 s hO => ?_
  refine sba 0 hO fun w14 s hO => ?_
  refine sag 1 hO ?_
  refine zcr (J01 body29 rfl (J54 hO.lt iA.u kE.u jF.u jG.u mc.u H)) fun _ w16 => e1 fun r15 => sc0 hO fun s hO => fun H => ?_
  refine scm H (fun h17 H => ?_) fun h17 H => ?_
  ·refine sag 2 hO ?_
   refine zcr (J01 body17 rfl (J42 hO.lt aa.u ar.u H)) fun _ w19 => e1 fun r18 => sc0 hO fun s hO => fun H => ?_
   cases r18
   ·refine au ?_
    refine zcr (J01 body18 rfl (J1f hO.lt (iF H))) fun _ w21 => e1 fun r20 => sc0 hO fun s hO => fun H => ?_
    refine au ?_
    refine Go1.ret1 func12 rfl ⟨_, er, frs, H⟩
   refine sag 2 hO ?_
   refine zcr (J01 body19 rfl (J17 hO.lt aa.u ar.u (iT H))) fun _ w24 => e4 fun r22 r23 Dk Dl => e4 fun Dn Do zE zF => e4 fun zG zH Ev Ew => sc0 hO fun s hO => d1 fun jH => d4 fun jI iK iL kF H => ?_
   refine sal hO fun w25 B26 s hO => ?_
   refine sba 0 hO fun w28 s hO => ?_
   refine sag 0 hO ?_
   refine zcr (J01 body42 rfl (J0I hO.lt jH.u jI.u iK.u iL.u kF.u H)) fun _ w31 => e4 fun r29 r30 Dp Dq => e2 fun Ex Ey => sc0 hO fun s hO => d2 fun jJ kG H => ?_
   refine sal hO fun w32 B33 s hO => ?_
   refine sba 0 hO fun w35 s hO => ?_
   refine au ?_
   refine drs 0 [q0, q0, q0, q0, q0, q0, q0, q1, q1, q2, q2, q0, q0] hO fun w36 s hO => ?_
   refine scm H (fun h37 H => ?_) fun h37 H => ?_
   ·refine scm H (fun h38 H => ?_) fun h38 H => ?_
    ·refine sag 0 hO ?_
     refine sag 1 hO ?_
     refine zcq rfl (J01 body44 rfl (J1a hO.lt jH.u jI.u iK.u iL.u kF.u H)) fun _ w40 => e4 fun r39 Dr Du Ez => e1 fun EA => sq0 hO fun s hO => d2 fun oP pv H => ?_
     refine zcq rfl (J01 body43 rfl (J4t hO.lt jJ.u kG.u oP pv H)) fun _ w42 => e1 fun r41 => sq0 hO fun s hO => fun H => ?_
     cases r41
     ·refine au ?_
      refine Go1.ret1 func12 rfl ⟨_, er, frs, (iF H)⟩
     refine sag 0 hO ?_
     refine sag 4 hO ?_
     refine zcr (J01 body45 rfl (J4s hO.lt jJ.u kG.u aa.u ar.u (iT H))) fun _ w47 => e4 fun r43 r44 r45 r46 => e2 fun RG RH => sc0 hO fun s hO => d2 fun RJ Rs H => ?_
     refine scm H (fun h48 H => ?_) fun h48 H => ?_
     ·refine au ?_
      cases r45
      ·refine au ?_
       refine Go1.ret1 func12 rfl ⟨_, er, frs, (iF H)⟩
      refine zcr (J01 body18 rfl (J1f hO.lt (iT H))) fun _ w50 => e1 fun r49 => sc0 hO fun s hO => fun H => ?_
      refine au ?_
      refine Go1.ret1 func12 rfl ⟨_, er, frs, H⟩
     refine au ?_
     refine Go1.ret1 func12 rfl ⟨_, er, frs, H⟩
    refine au ?_
    refine Go1.ret1 func12 rfl ⟨_, er, frs, H⟩
   refine au ?_
   refine Go1.ret1 func12 rfl ⟨_, er, frs, H⟩
  refine au ?_
  refine Go1.ret1 func12 rfl ⟨_, er, frs, H⟩
 refine sag 1 hO ?_
 refine zcr (J01 body17 rfl (J42 hO.lt aa.u ar.u H)) fun _ w52 => e1 fun r51 => sc0 hO fun s hO => fun H => ?_
 cases r51
 ·refine au ?_
  refine zcr (J01 body18 rfl (J1f hO.lt (iF H))) fun _ w54 => e1 fun r53 => sc0 hO fun s hO => fun H => ?_
  refine au ?_
  refine Go1.ret1 func12 rfl ⟨_, er, frs, H⟩
 refine sag 1 hO ?_
 refine zcr (J01 body19 rfl (J17 hO.lt aa.u ar.u (iT H))) fun _ w57 => e4 fun r55 r56 Dv Dw => e4 fun Dx Dy zJ zK => e4 fun zL zM EB EC => sc0 hO fun s hO => d1 fun jK => d4 fun jL iM iN kI H => ?_
 refine sal hO fun w58 B59 s hO => ?_
 refine sba 0 hO fun w61 s hO => ?_
 refine sag 0 hO ?_
 refine zcr (J01 body42 rfl (J0I hO.lt jK.u jL.u iM.u iN.u kI.u H)) fun _ w64 => e4 fun r62 r63 Dz DA => e2 fun ED EE => sc0 hO fun s hO => d2 fun jM kK H => ?_
 refine sal hO fun w65 B66 s hO => ?_
 refine sba 0 hO fun w68 s hO => ?_
 refine au ?_
 refine drs 0 [q0, q0, q0, q0, q0, q0, q0, q1, q1, q2, q2, q0, q0] hO fun w69 s hO => ?_
 refine scm H (fun h70 H => ?_) fun h70 H => ?_
 ·refine scm H (fun h71 H => ?_) fun h71 H => ?_
  ·refine sag 0 hO ?_
   refine sag 1 hO ?_
   refine zcq rfl (J01 body44 rfl (J1a hO.lt jK.u jL.u iM.u iN.u kI.u H)) fun _ w73 => e4 fun r72 DB DD EF => e1 fun EG => sq0 hO fun s hO => d2 fun oQ pC H => ?_
   refine zcq rfl (J01 body43 rfl (J4t hO.lt jM.u kK.u oQ pC H)) fun _ w75 => e1 fun r74 => sq0 hO fun s hO => fun H => ?_
   cases r74
   ·refine au ?_
    refine Go1.ret1 func12 rfl ⟨_, er, frs, (iF H)⟩
   refine sag 0 hO ?_
   refine sag 3 hO ?_
   refine zcr (J01 body45 rfl (J4s hO.lt jM.u kK.u aa.u ar.u (iT H))) fun _ w80 => e4 fun r76 r77 r78 r79 => e2 fun RK RL => sc0 hO fun s hO => d2 fun RM Rt H => ?_
   refine scm H (fun h81 H => ?_) fun h81 H => ?_
   ·refine au ?_
    cases r78
    ·refine au ?_
     refine Go1.ret1 func12 rfl ⟨_, er, frs, (iF H)⟩
    refine zcr (J01 body18 rfl (J1f hO.lt (iT H))) fun _ w83 => e1 fun r82 => sc0 hO fun s hO => fun H => ?_
    refine au ?_
    refine Go1.ret1 func12 rfl ⟨_, er, frs, H⟩
   refine au ?_
   refine Go1.ret1 func12 rfl ⟨_, er, frs, H⟩
  refine au ?_
  refine Go1.ret1 func12 rfl ⟨_, er, frs, H⟩
 refine au ?_
 refine Go1.ret1 func12 rfl ⟨_, er, frs, H⟩
end Sg
