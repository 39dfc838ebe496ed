/- -/
import Derived.Test.YtlneebpmblkllaaVd
import Derived.Test.YtlneebpmblkllaaWSyntacticMonoids
import Derived.Test.YtlneebpmblkllaaWSyntacticMonoidsc
import Derived.Test.YtlneebpmblkllaaWSyntacticMonoidsd
import Derived.Test.YtlneebpmblkllaaWSyntacticMonoidse
namespace Sg
open Go Go.RowKit Go.Proofs Try
set_option linter.unusedVariables false
set_option linter.unusedSimpArgs false
set_option maxRecDepth 100000
set_option maxHeartbeats 4000000
variable {A : List Nat} {w0 : World}
theorem body64 : Body prog 64 := ⟨f64, func64, rfl, by kernel_rfl⟩
theorem J7e {iR C4 : Option Addr} {iU C5 : Nat} {a0 : List (List Int)} {a1 : Int} {a2 : List Bool} (hA : HA0 A w0) (d8 : ISs A w0 iR iU a0) (QK : ISb A w0 C4 C5 a2) {K : Syntactic → Int → Prop} (H : J5p a0 a1 a2 K) :
    CallsV prog 64 #[.slice iR a0.length iU, .int .i64 a1, .slice C4 a2.length C5] w0 (fun v w' => ∃ (r0 : Syntactic), ∃ (r1 : Int), ∃ (dN : Option Addr), ∃ (dO : Nat), ∃ (dP : Option Addr), ∃ (dQ : Nat), ∃ (dw : Option Addr), ∃ (dx : Nat), ∃ (dy : Option Addr), ∃ (dz : Nat), ∃ (eh : Option Addr), ∃ (en : Nat), v = .tuple #[.agg (cSY r0 dN dO dP dQ dw dx dy dz eh en), .int .i64 r1] ∧ Same w0 w' ∧ ISs A w' dN dO r0.Table ∧ ISt A w' dP dQ r0.Words ∧ ISi A w' dw dx r0.Images ∧ ISb A w' dy dz r0.Accept ∧ ISb A w' eh en r0.Plus ∧ K r0 r1) := by
 refine cal hA func64 ntmps64 fun hO hB => ?_
 unfold J5p at H
 refine sal hO fun w1 B2 s hO => ?_
 refine au ?_
 refine zcr (J01 body104 rfl (J5Z hO.lt d8.u H)) fun _ w6 => e4 fun r4 r5 gv gx => e4 fun fM fN e9 fe => e4 fun gy gz fO fP => e2 fun fQ fR => sc0 hO fun s hO => d1 fun cS => d1 fun bX => d4 fun cz cU cG cH H => ?_
 refine sal hO fun w7 B8 s hO => ?_
 refine sba 0 hO fun w10 s hO => ?_
 refine scm H (fun h11 H => ?_) fun h11 H => ?_
 ·refine sln0 ?_
  refine scm (H bX.bd) (fun h12 H => ?_) fun h12 H => ?_
  ·refine au ?_
   refine zo (J04 underlying33 ti33 (pl := [(0, 1), (1, 1), (2, 1), (3, 1), (4, 1), (5, 1)]) (vs := []) (cs := #[.int .i64 (0 : Int), .slice none 0 0, .slice none 0 0, .slice none 0 0, .slice none 0 0, .slice none 0 0]) (by kernel_rfl) rfl (by kernel_rfl)) ?_
   refine sba 1 hO fun w13 s hO => ?_
   refine au ?_
   refine Go1.retC2 func64 rfl rfl (rlb 1 hO) ⟨((⟨(0 : Int), ([] : List (List Int)), ([] : List Str), ([] : List Int), ([] : List Bool), ([] : List Bool)⟩ : Syntactic)), _, _, _, _, _, _, _, _, _, _, _, er, frs, (ISl.null _ _ _), (ISl.null _ _ _), (ISl.null _ _ _), (ISl.null _ _ _), (ISl.null _ _ _), H⟩
  refine au ?_
  refine drA Same.tr 1 [(0, m0), (1, m0), (2, m1), (4, m0), (5, m1), (6, m0), (3, m2), (7, m4), (8, m0), (9, m4), (10, m3)] hO fun w14 s hO => ?_
  have ig := hO.le
  have hw16 := (fr : Fr (bl []) w0 _ w14).ch.size
  refine au ?_
  refine sln0 ?_
  refine GoQA.stable rfl (J6E (vs := [.int .i64 r4.Points, .bool r4.Monoid, .slice gv r4.Gens.length gx, .slice fM r4.Elems.length fN, .slice e9 r4.Prefix.length fe, .slice gy r4.Last.length gz, .slice fO r4.Right.length fP, .slice fQ r4.Rules.length fR, .int .i64 r4.Done]) (i := 0) 0 hO rfl rfl underlying123 rfl ti123 rfl) rfl rfl ?_
  refine au ?_
  refine sbl 0 ?_
  refine sln0 ?_
  refine GoQA.loudI rfl rfl fun w17 A18 wY => ?_
  refine sgw wY hO fun s hO => ?_
  refine GoAt.call (J01 body105 rfl (J61 hO.lt cS.u bX.u cz.u cU.u cG.u cH.u (H d8.bd))) (fun _ _ hr => ⟨fun _ => saq hr, Same.kp hO (saq hr)⟩) rfl fun _ w21 => e3 fun r20 eI eK => sA0 hO fun s hO => d1 fun eM H => ?_
  obtain ⟨h32, H⟩ := H
  obtain ⟨h33, H⟩ := H
  have zz := alMakeE (n := (r4.Elems.length : Int)) (r := Rp.bool) (d := false) underlying22 ti4 (fun _ _ => rfl) rfl h32 h33 (by decide)
  obtain ⟨nK, hal36, QL⟩ := zz
  refine GoQA.alloc rfl rfl (hal36 rfl rfl) ?_
  intro w23 A24 b25 A26 QM QO hd29 hnb30 hh31
  refine sgw QM hO fun s hO => ?_
  have xU := QL (bl [.blk B8 (.cells #[.int .i64 r4.Points, .bool r4.Monoid, .slice gv r4.Gens.length gx, .slice fM r4.Elems.length fN, .slice e9 r4.Prefix.length fe, .slice gy r4.Last.length gz, .slice fO r4.Right.length fP, .slice fQ r4.Rules.length fR, .int .i64 r4.Done] 123 (0, 0)), .blk B2 (.cells #[.int .i64 (0 : Int), .slice none 0 0, .slice none 0 0, .slice none 0 0, .slice none 0 0, .slice none 0 0] 33 (0, 0))] ++ A24) w23
  refine sgn (e := .row 4 1 (some ⟨b25, 0, none⟩) r4.Elems.length r4.Elems.length nK) QO hO ig hw16 hnb30 rfl hh31 hd29 (fr : Fr (bl []) w0 _ w23) fun s hO hB => ?_
  replace xU := xU.ch s.ch
  refine cl1 Fl.bool 0 hO xU.u fun s hO => ?_
  refine GoQA.pure rfl (J04 underlying33 ti33 (pl := [(0, 1), (1, 1), (2, 1), (3, 1), (4, 1), (5, 1)]) (vs := [(0, .int .i64 (a0.length : Int)), (1, .slice eI r20.length eK), (5, .slice (some ⟨b25, 0, none⟩) r4.Elems.length r4.Elems.length)]) (cs := #[.int .i64 (a0.length : Int), .slice eI r20.length eK, .slice none 0 0, .slice none 0 0, .slice none 0 0, .slice (some ⟨b25, 0, none⟩) r4.Elems.length r4.Elems.length]) (by kernel_rfl) rfl (by kernel_rfl)) rfl rfl ?_
  refine GoQA.alloc rfl rfl (alAlloc (cs := #[.int .i64 (0 : Int), .slice none 0 0, .slice none 0 0, .slice none 0 0, .slice none 0 0, .slice none 0 0]) ti33 rfl) ?_
  intro w39 A40 b41 A42 xV xW hd45 hnb46 hh47
  refine sgw xV hO fun s hO => ?_
  refine sgn (e := .blk b41 (.cells #[.int .i64 (0 : Int), .slice none 0 0, .slice none 0 0, .slice none 0 0, .slice none 0 0, .slice none 0 0] 33 (0, 0))) xW hO ig hw16 hnb46 rfl hh47 hd45 (fr : Fr (bl []) w0 _ w39) fun s hO hB => ?_
  refine GoQA.lastI rfl rfl fun w48 A49 QP => ?_
  refine sgw QP hO fun s hO => ?_
  refine sba 0 hO fun w51 s hO => ?_
  refine GoQA.nil fun w52 A53 QQ QR => ?_
  refine sgw QQ hO fun s hO => ?_
  refine spm QR hO fun s hO => ?_
  refine sln0 ?_
  refine au ?_
  refine snil Fl.str 9 hO fun s hO => ?_
  refine snil Fl.bool 4 hO fun s hO => ?_
  refine lv [0, 1, 2, 6, 8, 10, 41, 42] hO H (fun E (k1_59, d_60, gA) σ w => ∃ n63 p61 c62 n67 p65 c66, (fun Z => Lo A w0 σ w [(43, .int .i64 (k1_59 : Int))] Z ∧ ISs (bl Z ++ A) w gv gx r4.Gens ∧ ISs (bl Z ++ A) w fM fN r4.Elems ∧ ISi (bl Z ++ A) w e9 fe r4.Prefix ∧ ISi (bl Z ++ A) w gy gz r4.Last ∧ ISs (bl Z ++ A) w fO fP r4.Right ∧ ISl (rpRule) (bl Z ++ A) w fQ fR r4.Rules ∧ ISs (bl Z ++ A) w eI eK r20) (esets E [(0, t1 Fl.bool 4 p61 n63 c62 d_60), (1, t1 Fl.str 9 p65 n67 c66 gA), (2, .blk b41 (.cells #[.int .i64 (a0.length : Int), .slice eI r20.length eK, .slice p65 n67 c66, .slice none 0 0, .slice p61 n63 c62, .slice (some ⟨b25, 0, none⟩) r4.Elems.length r4.Elems.length] 33 (0, 0)))])) ⟨_, _, _, _, _, _, ⟨agr, hO, fr⟩, cS.u, bX.u, cz.u, cU.u, cG.u, cH.u, eM.u⟩ ?_
  refine fun X1 => p2 fun k1_59 d_60 gA => fun H hX1 σ w58 hk => e4 fun n63 p61 c62 n67 => e2 fun p65 c66 => d1 fun hL => d1 fun cS => d1 fun bX => d4 fun cz cU cG cH eM => d2 (fun hag hO hB => keep2 hk hag ?_) hL
  dsimp only [esets, sS, sZ] at hO hB cS bX cz cU cG cH eM
  dsimp only at H
  revert hO; repeat (rename Owns .. => q; clear q)
  intro hO; repeat (rename Sq .. => q; clear q)
  refine scm H (fun h68 H => ?_) fun h68 H => ?_
  ·refine sxls hO bX H.1 H.2.1 fun p69 c70 ol => ?_
   refine au ?_
   refine drs 2 [q0, q1, q1, q0, q2, q2, q3, q0, q3] hO fun w72 s hO => ?_
   refine sag 4 hO ?_
   refine au ?_
   have h75 := H.1
   have h76 := H.2.1
   refine zcq rfl (J01 body106 rfl (J0Y hO.lt cS.u bX.u cz.u cU.u cG.u cH.u H.2.2)) fun _ w74 => e1 fun r73 => sq0 hO fun s hO => d1 fun C6 H => ?_
   refine sap1 r73 1 hO H (fun _ w77 p78 c79 s hO => ?_) (hR := by exact fun _ _ => ⟨rfl, C6⟩)
   refine sbs 2 hO fun w80 s hO => ?_
   refine au ?_
   refine drs 4 [q0, q1, q0, q0, q0, q0, q1, q0, q1, q2, q3, q0, q3] hO fun w81 s hO => ?_
   refine sxl hO ol.u H.2.1 H.2.2.1 ?_
   refine sxl hO QK.u H.2.2.2.1 H.2.2.2.2.1 ?_
   refine sap1 (ix a2 (ix (ix r4.Elems (k1_59 : Int)) a1)) 0 hO H.2.2.2.2.2 fun _ w82 p83 c84 s hO => ?_
   refine sbs 2 hO fun w85 s hO => ?_
   refine sinc (natbd h68 bX.bd) ?_
   refine au ?_
   exact hX1 _ H.2.2.2.2.2.2 _ _ agr ⟨_, _, _, _, _, _, ⟨agr, hO, fr⟩, cS.u, bX.u, cz.u, cU.u, cG.u, cH.u, eM.u⟩
  refine sln0 ?_
  refine au ?_
  refine snil Fl.i 3 hO fun s hO => ?_
  refine lv [6, 8, 10, 69, 70] hO H (fun E (y4, xX) σ w => ∃ n92 p90 c91, (fun Z => Lo A w0 σ w [(71, .int .i64 (y4 : Int))] Z ∧ ISs (bl Z ++ A) w gv gx r4.Gens ∧ ISs (bl Z ++ A) w fM fN r4.Elems ∧ ISi (bl Z ++ A) w e9 fe r4.Prefix ∧ ISi (bl Z ++ A) w gy gz r4.Last ∧ ISs (bl Z ++ A) w fO fP r4.Right ∧ ISl (rpRule) (bl Z ++ A) w fQ fR r4.Rules ∧ ISs (bl Z ++ A) w eI eK r20) (esets E [(0, t1 Fl.i 3 p90 n92 c91 xX), (3, .blk b41 (.cells #[.int .i64 (a0.length : Int), .slice eI r20.length eK, .slice p65 n67 c66, .slice p90 n92 c91, .slice p61 n63 c62, .slice (some ⟨b25, 0, none⟩) r4.Elems.length r4.Elems.length] 33 (0, 0)))])) ⟨_, _, _, ⟨agr, hO, fr⟩, cS.u, bX.u, cz.u, cU.u, cG.u, cH.u, eM.u⟩ ?_
  refine fun X2 => p1 fun y4 xX => fun H hX2 σ w87 hk => e3 fun n92 p90 c91 => d1 fun hL => d1 fun cS => d1 fun bX => d4 fun cz cU cG cH eM => d2 (fun hag hO hB => keep2 hk hag ?_) hL
  dsimp only [esets, sS, sZ] at hO hB cS bX cz cU cG cH eM
  dsimp only at H
  revert hO; repeat (rename Owns .. => q; clear q)
  intro hO; repeat (rename Sq .. => q; clear q)
  refine scm H (fun h93 H => ?_) fun h93 H => ?_
  ·refine sxls hO d8.u H.1 H.2.1 fun p94 c95 oh => ?_
   refine au ?_
   refine drs 2 [q0, q1, q0, q1, q0, q2, q2, q3, q0, q3] hO fun w97 s hO => ?_
   refine au ?_
   have nE := H.1
   have uL := H.2.1
   refine zcq rfl (J01 body107 rfl (J1C hO.lt bX.u oh.u H.2.2)) fun _ w99 => e1 fun r98 => sq0 hO fun s hO => fun H => ?_
   refine sap1 r98 0 hO H fun _ vC ng nh s hO => ?_
   refine sbs 3 hO fun pK s hO => ?_
   refine sinc (natbd h93 d8.bd) ?_
   refine au ?_
   exact hX2 _ H.2 _ _ agr ⟨_, _, _, ⟨agr, hO, fr⟩, cS.u, bX.u, cz.u, cU.u, cG.u, cH.u, eM.u⟩
  refine au ?_
  have KD := t1lend 0 hO
  have jw := t1n 0 hO
  have hOc108 := hO.drop 0
  refine zcr (J01 body108 (by rw [jw]; exact rfl) (J4H hOc108.lt (eM.u.ch (Owns.J0c _ _ 0)) KD H)) fun _ aeM => e4 fun r109 RA RB RD => sc1 hO fun s hO => fun H => ?_
  refine sln1 0 hO ?_
  refine au ?_
  refine sdr [6] hO fun s hO => ?_
  refine lv [6, 10, 89, 90] hO H (fun E (tX, d_115) σ w => (fun Z => Lo A w0 σ w [(91, .int .i64 (tX : Int))] Z ∧ ISs (bl Z ++ A) w eI eK r20) (E.set 5 (t1 Fl.bool 4 (some ⟨b25, 0, none⟩) r4.Elems.length r4.Elems.length d_115))) ⟨⟨agr, hO, fr⟩, eM.u⟩ ?_
  refine fun X3 => p1 fun tX d_115 => fun H hX3 σ PA hk => d1 fun hL => fun eM => d2 (fun hag hO hB => keep2 hk hag ?_) hL
  dsimp only [esets, sS, sZ] at hO hB eM
  dsimp only at H
  revert hO; repeat (rename Owns .. => q; clear q)
  intro hO; repeat (rename Sq .. => q; clear q)
  refine scm H (fun ul H => ?_) fun ul H => ?_
  ·refine sxl1 0 hO H.1 H.2.1 ?_
   refine six1 5 hO H.2.2.1 H.2.2.2.1 ?_
   refine sst (u := true) 5 hO H.2.2.1 H.2.2.2.1 fun ql s hO => ?_
   refine sinc (natbd ul (t1b 0 hO)) ?_
   refine au ?_
   exact hX3 _ H.2.2.2.2 _ _ agr ⟨⟨agr, hO, fr⟩, eM.u⟩
  refine sag 4 hO ?_
  refine sba 6 hO fun aeN s hO => ?_
  refine au ?_
  refine sfz 3 hO fun s hO KE KF => ?_
  refine sfz 1 hO fun s hO KG KH => ?_
  refine sfz 1 hO fun s hO KI KJ => ?_
  refine sfz 2 hO fun s hO KK KL => ?_
  refine Go1.retC2 func64 rfl rfl (rlb 2 hO) ⟨((⟨(a0.length : Int), r20, gA, xX, d_60, d_115⟩ : Syntactic)), _, _, _, _, _, _, _, _, _, _, _, ?_, frs, eM.r, KE.r, KG.r, KI.r, KK.r, H⟩
  exact (congrArg (fun l => Value.tuple (List.toArray l)) (J02 (congrArg (fun l => Value.agg (List.toArray l)) (J02 rfl (J02 rfl (J02 (congrArg (fun nn => Value.slice p65 nn c66) KF) (J02 (congrArg (fun nn => Value.slice p90 nn c91) KH) (J02 (congrArg (fun nn => Value.slice p61 nn c62) KJ) (J02 (congrArg (fun nn => Value.slice (some ⟨b25, 0, none⟩) nn r4.Elems.length) KL) rfl))))))) (J02 rfl rfl)))
 refine au ?_
 refine zo (J04 underlying33 ti33 (pl := [(0, 1), (1, 1), (2, 1), (3, 1), (4, 1), (5, 1)]) (vs := []) (cs := #[.int .i64 (0 : Int), .slice none 0 0, .slice none 0 0, .slice none 0 0, .slice none 0 0, .slice none 0 0]) (by kernel_rfl) rfl (by kernel_rfl)) ?_
 refine sba 1 hO fun Cy s hO => ?_
 refine au ?_
 refine Go1.retC2 func64 rfl rfl (rlb 1 hO) ⟨((⟨(0 : Int), ([] : List (List Int)), ([] : List Str), ([] : List Int), ([] : List Bool), ([] : List Bool)⟩ : Syntactic)), _, _, _, _, _, _, _, _, _, _, _, er, frs, (ISl.null _ _ _), (ISl.null _ _ _), (ISl.null _ _ _), (ISl.null _ _ _), (ISl.null _ _ _), H⟩
theorem body20 : Body prog 20 := ⟨f20, func20, rfl, by kernel_rfl⟩
theorem J7h {aL ba : Option Addr} {aM bc : Nat} {d : DFA} (hA : HA0 A w0) (aK : ISb A w0 aL aM d.Final) (bn : ISs A w0 ba bc d.Next) {K : Syntactic → Int → Prop} (H : J5z d K) :
    CallsV prog 20 #[.agg (cDF d aL aM ba bc)] w0 (fun v w' => ∃ (r0 : Syntactic), ∃ (r1 : Int), ∃ (dN : Option Addr), ∃ (dO : Nat), ∃ (dP : Option Addr), ∃ (dQ : Nat), ∃ (dw : Option Addr), ∃ (dx : Nat), ∃ (dy : Option Addr), ∃ (dz : Nat), ∃ (eh : Option Addr), ∃ (en : Nat), v = .tuple #[.agg (cSY r0 dN dO dP dQ dw dx dy dz eh en), .int .i64 r1] ∧ Same w0 w' ∧ ISs A w' dN dO r0.Table ∧ ISt A w' dP dQ r0.Words ∧ ISi A w' dw dx r0.Images ∧ ISb A w' dy dz r0.Accept ∧ ISb A w' eh en r0.Plus ∧ K r0 r1) := by
 refine cal hA func20 ntmps20 fun hO hB => ?_
 unfold J5z at H
 refine sbx hO fun w1 B2 s hO => ?_
 refine sal hO fun w4 B5 s hO => ?_
 refine sag 1 hO ?_
 refine zcr (J01 body16 rfl (J2Q hO.lt aK.u bn.u H)) fun _ w8 => e1 fun r7 => sc0 hO fun s hO => fun H => ?_
 refine scm H (fun h9 H => ?_) fun h9 H => ?_
 ·refine sag 1 hO ?_
  refine zcr (J01 body23 rfl (J5d hO.lt aK.u bn.u H)) fun _ w11 => e4 fun r10 jz jA kx => e1 fun kz => sc0 hO fun s hO => d2 fun dY fB H => ?_
  refine sal hO fun w12 B13 s hO => ?_
  refine sba 0 hO fun w15 s hO => ?_
  refine sln0 ?_
  refine scm (H dY.bd) (fun h16 H => ?_) fun h16 H => ?_
  ·refine au ?_
   refine zo (J04 underlying33 ti33 (pl := [(0, 1), (1, 1), (2, 1), (3, 1), (4, 1), (5, 1)]) (vs := []) (cs := #[.int .i64 (0 : Int), .slice none 0 0, .slice none 0 0, .slice none 0 0, .slice none 0 0, .slice none 0 0]) (by kernel_rfl) rfl (by kernel_rfl)) ?_
   refine sba 1 hO fun w17 s hO => ?_
   refine au ?_
   refine Go1.retC2 func20 rfl rfl (rlb 1 hO) ⟨((⟨(0 : Int), ([] : List (List Int)), ([] : List Str), ([] : List Int), ([] : List Bool), ([] : List Bool)⟩ : Syntactic)), _, _, _, _, _, _, _, _, _, _, _, er, frs, (ISl.null _ _ _), (ISl.null _ _ _), (ISl.null _ _ _), (ISl.null _ _ _), (ISl.null _ _ _), H⟩
  refine au ?_
  refine drw 1 [(0, q1), (2, q0), (3, q1), (4, q0), (5, q1), (1, q2), (6, q2), (7, q0), (8, q0), (9, q3), (10, q0)] hO fun w18 s hO => ?_
  refine sag 0 hO ?_
  refine au ?_
  refine zcq rfl (J01 body65 rfl (J5U hO.lt dY.u fB.u H)) fun _ w20 => e3 fun r19 Uk Ul => sq0 hO fun s hO => d1 fun KM H => ?_
  refine zcq rfl (J01 body64 rfl (J7e hO.lt KM dY.u H)) fun _ w23 => e4 fun r21 r22 D8 D9 => e4 fun Ea Eb C7 C8 => e4 fun C9 Dc KN KO => sq0 hO fun s hO => d1 fun oY => d4 fun o3 oF oG tm H => ?_
  refine sba 1 hO fun w24 s hO => ?_
  refine au ?_
  refine Go1.retC2 func20 rfl rfl (rlb 1 hO) ⟨((⟨r21.Letters, r21.Table, r21.Words, r21.Images, r21.Accept, r21.Plus⟩ : Syntactic)), _, _, _, _, _, _, _, _, _, _, _, er, frs, oY.r, o3.r, oF.r, oG.r, tm.r, H⟩
 refine au ?_
 refine zo (J04 underlying33 ti33 (pl := [(0, 1), (1, 1), (2, 1), (3, 1), (4, 1), (5, 1)]) (vs := []) (cs := #[.int .i64 (0 : Int), .slice none 0 0, .slice none 0 0, .slice none 0 0, .slice none 0 0, .slice none 0 0]) (by kernel_rfl) rfl (by kernel_rfl)) ?_
 refine sba 0 hO fun w25 s hO => ?_
 refine au ?_
 refine Go1.retC2 func20 rfl rfl (rlb 0 hO) ⟨((⟨(0 : Int), ([] : List (List Int)), ([] : List Str), ([] : List Int), ([] : List Bool), ([] : List Bool)⟩ : Syntactic)), _, _, _, _, _, _, _, _, _, _, _, er, frs, (ISl.null _ _ _), (ISl.null _ _ _), (ISl.null _ _ _), (ISl.null _ _ _), (ISl.null _ _ _), H⟩
theorem body47 : Body prog 47 := ⟨f47, func47, rfl, by kernel_rfl⟩
theorem J4X {p_a p_b : Option Addr} {c_a c_b : Nat} {a b : List (List Int)} (hA : HA0 A w0) (h_a : ISs A w0 p_a c_a a) (h_b : ISs A w0 p_b c_b b) {K : Bool → Prop} (H : J1b a b K) :
    CallsV prog 47 #[.slice p_a a.length c_a, .slice p_b b.length c_b] w0 (fun v w' => ∃ (r0 : Bool), v = .bool r0 ∧ Same w0 w' ∧ K r0) := by
 refine cal hA func47 ntmps47 fun hO hB => ?_
 unfold J1b at H
 refine sln0 ?_
 refine sln0 ?_
 refine scm ((H h_a.bd) h_b.bd) (fun h1 H => ?_) fun h1 H => ?_
 ·refine sln0 ?_
  refine au ?_
  refine lv [0, 1, 12] hO H (fun E k1_3 σ w => Lo A w0 σ w [(13, .int .i64 (k1_3 : Int))] []) ⟨agr, hO, fr⟩ ?_
  refine fun X1 => fun k1_3 => fun H hX1 σ w2 hk => d2 fun hag hO hB => keep2 hk hag ?_
  refine scm H (fun h4 H => ?_) fun h4 H => ?_
  ·refine au ?_
   refine drs 0 [q0, q0, q0, q1, q0, q0, q0, q1, q2, q0] hO fun w5 s hO => ?_
   refine sxls hO h_a.u H.1 H.2.1 fun p6 c7 hi8 => ?_
   refine sxls hO h_b.u H.2.2.1 H.2.2.2.1 fun p9 c10 xk => ?_
   have h14 := H.1
   have h15 := H.2.1
   have h16 := H.2.2.1
   have h17 := H.2.2.2.1
   refine zcq rfl (J01 body49 rfl (J1H hO.lt hi8.u xk.u H.2.2.2.2)) fun _ w13 => e1 fun r12 => sq0 hO fun s hO => fun H => ?_
   cases r12
   ·refine au ?_
    refine Go1.ret1 func47 rfl ⟨_, er, frs, (iF H)⟩
   refine sinc (natbd h4 h_a.bd) ?_
   refine au ?_
   exact hX1 _ (iT H) _ _ agr ⟨agr, hO, fr⟩
  refine au ?_
  refine Go1.ret1 func47 rfl ⟨_, er, frs, H⟩
 refine au ?_
 refine Go1.ret1 func47 rfl ⟨_, er, frs, H⟩
theorem body27 : Body prog 27 := ⟨f27, func27, rfl, by kernel_rfl⟩
theorem J2s {p_a p_b : Option Addr} {c_a c_b : Nat} {a b : List Bool} (hA : HA0 A w0) (h_a : ISb A w0 p_a c_a a) (h_b : ISb A w0 p_b c_b b) {K : Bool → Prop} (H : J0J a b K) :
    CallsV prog 27 #[.slice p_a a.length c_a, .slice p_b b.length c_b] w0 (fun v w' => ∃ (r0 : Bool), v = .bool r0 ∧ Same w0 w' ∧ K r0) := by
 refine cal hA func27 ntmps27 fun hO hB => ?_
 unfold J0J at H
 refine sln0 ?_
 refine sln0 ?_
 refine scm ((H h_a.bd) h_b.bd) (fun h1 H => ?_) fun h1 H => ?_
 ·refine sln0 ?_
  refine au ?_
  refine lv [0, 1, 12] hO H (fun E k1_3 σ w => Lo A w0 σ w [(13, .int .i64 (k1_3 : Int))] []) ⟨agr, hO, fr⟩ ?_
  refine fun X1 => fun k1_3 => fun H hX1 σ w2 hk => d2 fun hag hO hB => keep2 hk hag ?_
  refine scm H (fun h4 H => ?_) fun h4 H => ?_
  ·refine au ?_
   refine drs 0 [q0, q0, q0, q1, q0, q0, q0, q1, q0] hO fun w5 s hO => ?_
   refine au ?_
   have h6 := H.1
   have h7 := H.2.1
   refine sxb hO h_a.u H.1 H.2.1 H.2.2 (fun h8 H => ?_) fun h8 H => ?_
   ·refine au ?_
    have h9 := H.1
    have h10 := H.2.1
    refine sxb hO h_b.u H.1 H.2.1 H.2.2 (fun h11 H => ?_) fun h11 H => ?_
    ·refine GoQ.pure rfl (J19 underlying4 rfl rfl) rfl rfl ?_
     refine sinc (natbd h4 h_a.bd) ?_
     refine au ?_
     exact hX1 _ H _ _ agr ⟨agr, hO, fr⟩
    refine GoQ.pure rfl (J19 underlying4 rfl rfl) rfl rfl ?_
    refine au ?_
    refine Go1.ret1 func27 rfl ⟨_, er, frs, H⟩
   refine au ?_
   have h12 := H.1
   have h13 := H.2.1
   refine sxb hO h_b.u H.1 H.2.1 H.2.2 (fun h14 H => ?_) fun h14 H => ?_
   ·refine GoQ.pure rfl (J19 underlying4 rfl rfl) rfl rfl ?_
    refine au ?_
    refine Go1.ret1 func27 rfl ⟨_, er, frs, H⟩
   refine GoQ.pure rfl (J19 underlying4 rfl rfl) rfl rfl ?_
   refine sinc (natbd h4 h_a.bd) ?_
   refine au ?_
   exact hX1 _ H _ _ agr ⟨agr, hO, fr⟩
  refine au ?_
  refine Go1.ret1 func27 rfl ⟨_, er, frs, H⟩
 refine au ?_
 refine Go1.ret1 func27 rfl ⟨_, er, frs, H⟩
theorem body21 : Body prog 21 := ⟨f21, func21, rfl, by kernel_rfl⟩
theorem J6r {mr mv lD lF oH my mA lH lJ oJ : Option Addr} {mt mw lE lG oI mz mB lI lK oK : Nat} {a b : Syntactic} (hA : HA0 A w0) (tY : ISs A w0 mr mt a.Table) (t5 : ISt A w0 mv mw a.Words) (tn : ISi A w0 lD lE a.Images) (tp : ISb A w0 lF lG a.Accept) (xY : ISb A w0 oH oI a.Plus) (t6 : ISs A w0 my mz b.Table) (t7 : ISt A w0 mA mB b.Words) (tq : ISi A w0 lH lI b.Images) (tt : ISb A w0 lJ lK b.Accept) (x4 : ISb A w0 oJ oK b.Plus) {K : Bool → Prop} (H : J3y a b K) :
    CallsV prog 21 #[.agg (cSY a mr mt mv mw lD lE lF lG oH oI), .agg (cSY b my mz mA mB lH lI lJ lK oJ oK)] w0 (fun v w' => ∃ (r0 : Bool), v = .bool r0 ∧ Same w0 w' ∧ K r0) := by
 refine cal hA func21 ntmps21 fun hO hB => ?_
 unfold J3y at H
 refine sbx hO fun w1 B2 s hO => ?_
 refine sbx hO fun w4 B5 s hO => ?_
 refine scm H (fun h7 H => ?_) fun h7 H => ?_
 ·refine au ?_
  refine zcr (J01 body47 rfl (J4X hO.lt tY.u t6.u H)) fun _ w9 => e1 fun r8 => sc0 hO fun s hO => fun H => ?_
  refine au ?_
  cases r8
  ·refine au ?_
   refine Go1.ret1 func21 rfl ⟨_, er, frs, (iF H)⟩
  refine au ?_
  refine zcr (J01 body48 rfl (J4l hO.lt t5.u t7.u (iT H))) fun _ w11 => e1 fun r10 => sc0 hO fun s hO => fun H => ?_
  refine au ?_
  cases r10
  ·refine au ?_
   refine Go1.ret1 func21 rfl ⟨_, er, frs, (iF H)⟩
  refine au ?_
  refine zcr (J01 body49 rfl (J1H hO.lt tn.u tq.u (iT H))) fun _ w13 => e1 fun r12 => sc0 hO fun s hO => fun H => ?_
  refine au ?_
  cases r12
  ·refine au ?_
   refine Go1.ret1 func21 rfl ⟨_, er, frs, (iF H)⟩
  refine au ?_
  refine zcr (J01 body27 rfl (J2s hO.lt tp.u tt.u (iT H))) fun _ w15 => e1 fun r14 => sc0 hO fun s hO => fun H => ?_
  refine au ?_
  cases r14
  ·refine au ?_
   refine Go1.ret1 func21 rfl ⟨_, er, frs, (iF H)⟩
  refine au ?_
  refine zcr (J01 body27 rfl (J2s hO.lt xY.u x4.u (iT H))) fun _ w17 => e1 fun r16 => sc0 hO fun s hO => fun H => ?_
  refine au ?_
  refine Go1.ret1 func21 rfl ⟨_, er, frs, H⟩
 refine au ?_
 refine Go1.ret1 func21 rfl ⟨_, er, frs, H⟩
end Sg
