/- -/
import Derived.Test.YtlneebpmblkllaaVd
import Derived.Test.YtlneebpmblkllaaWSyntacticMonoids
import Derived.Test.YtlneebpmblkllaaWSyntacticMonoidsc
import Derived.Test.YtlneebpmblkllaaWSyntacticMonoidsd
import Derived.Test.YtlneebpmblkllaaWSyntacticMonoidse
namespace Sg
open Go Go.RowKit Go.Proofs Try
set_option linter.unusedVariables false
set_option linter.unusedSimpArgs false
set_option maxRecDepth 100000
set_option maxHeartbeats 4000000
variable {A : List Nat} {w0 : World}
theorem body64 : Body prog 64 := ⟨f64, func64, rfl, by kernel_rfl⟩
theorem J6F {iD Cx : Option Addr} {iE Cy : Nat} {a0 : List (List Int)} {a1 : Int} {a2 : List Bool} (hA : HA0 A w0) (eh : ISs A w0 iD iE a0) (Qa : ISb A w0 Cx Cy a2) {K : Syntactic → Int → Prop} (H : J4N a0 a1 a2 K) :
    CallsV prog 64 #[.slice iD a0.length iE, .int .i64 a1, .slice Cx a2.length Cy] w0 (fun v w' => ∃ (r0 : Syntactic), ∃ (r1 : Int), ∃ (dX : Option Addr), ∃ (dY : Nat), ∃ (d5 : Option Addr), ∃ (d6 : Nat), ∃ (dK : Option Addr), ∃ (dM : Nat), ∃ (dN : Option Addr), ∃ (dO : Nat), ∃ (eo : Option Addr), ∃ (eA : Nat), v = .tuple #[.agg (cSY r0 dX dY d5 d6 dK dM dN dO eo eA), .int .i64 r1] ∧ Same w0 w' ∧ ISs A w' dX dY r0.Table ∧ ISt A w' d5 d6 r0.Words ∧ ISi A w' dK dM r0.Images ∧ ISb A w' dN dO r0.Accept ∧ ISb A w' eo eA r0.Plus ∧ K r0 r1) := by
 refine cal hA func64 ntmps64 fun hO hB => ?_
 unfold J4N at H
 refine sal hO fun w1 B2 s hO => ?_
 refine au ?_
 refine zcr (J01 body104 rfl (J5t hO.lt eh.u H)) fun _ w6 => e4 fun r4 r5 gk gm => e4 fun fM fN fh fk => e4 fun gn gq fO fP => e2 fun fQ fR => sc0 hO fun s hO => d1 fun di => d1 fun bU => d4 fun cx dj cK cL H => ?_
 refine sal hO fun w7 B8 s hO => ?_
 refine sba 0 hO fun w10 s hO => ?_
 refine scm H (fun h11 H => ?_) fun h11 H => ?_
 ·refine sln0 ?_
  refine scm (H bU.bd) (fun h12 H => ?_) fun h12 H => ?_
  ·refine au ?_
   refine zo (J0a underlying33 ti33 (pl := [(0, 1), (1, 1), (2, 1), (3, 1), (4, 1), (5, 1)]) (vs := []) (cs := #[.int .i64 (0 : Int), .slice none 0 0, .slice none 0 0, .slice none 0 0, .slice none 0 0, .slice none 0 0]) (by kernel_rfl) rfl (by kernel_rfl)) ?_
   refine sba 1 hO fun w13 s hO => ?_
   refine au ?_
   refine Go1.retC2 func64 rfl rfl (rlb 1 hO) ⟨((⟨(0 : Int), ([] : List (List Int)), ([] : List Str), ([] : List Int), ([] : List Bool), ([] : List Bool)⟩ : Syntactic)), _, _, _, _, _, _, _, _, _, _, _, er, frs, (ISl.null _ _ _), (ISl.null _ _ _), (ISl.null _ _ _), (ISl.null _ _ _), (ISl.null _ _ _), H⟩
  refine au ?_
  refine drA Same.tr 1 [(0, m0), (1, m0), (2, m1), (4, m0), (5, m1), (6, m0), (3, m2), (7, m4), (8, m0), (9, m4), (10, m3)] hO fun w14 s hO => ?_
  have g5 := hO.le
  have hw16 := (fr : Fr (bl []) w0 _ w14).ch.size
  refine au ?_
  refine sln0 ?_
  refine GoQA.stable rfl (J5R (vs := [.int .i64 r4.Points, .bool r4.Monoid, .slice gk r4.Gens.length gm, .slice fM r4.Elems.length fN, .slice fh r4.Prefix.length fk, .slice gn r4.Last.length gq, .slice fO r4.Right.length fP, .slice fQ r4.Rules.length fR, .int .i64 r4.Done]) (i := 0) 0 hO rfl rfl underlying123 rfl ti123 rfl) rfl rfl ?_
  refine au ?_
  refine sbl 0 ?_
  refine sln0 ?_
  refine GoQA.loudI rfl rfl fun w17 A18 wh => ?_
  refine sgw wh hO fun s hO => ?_
  refine GoAt.call (J01 body105 rfl (J5p hO.lt di.u bU.u cx.u dj.u cK.u cL.u (H eh.bd))) (fun _ _ hr => ⟨fun _ => saq hr, Same.kp hO (saq hr)⟩) rfl fun _ w21 => e3 fun r20 eI eK => sA0 hO fun s hO => d1 fun eM H => ?_
  obtain ⟨h32, H⟩ := H
  obtain ⟨h33, H⟩ := H
  have zz := alMakeE (n := (r4.Elems.length : Int)) (r := Rp.bool) (d := false) underlying22 ti4 (fun _ _ => rfl) rfl h32 h33 (by decide)
  obtain ⟨mK, hal36, Qb⟩ := zz
  refine GoQA.alloc rfl rfl (hal36 rfl rfl) ?_
  intro w23 A24 b25 A26 Qc Qd hd29 hnb30 hh31
  refine sgw Qc hO fun s hO => ?_
  have xd := Qb (bl [.blk B8 (.cells #[.int .i64 r4.Points, .bool r4.Monoid, .slice gk r4.Gens.length gm, .slice fM r4.Elems.length fN, .slice fh r4.Prefix.length fk, .slice gn r4.Last.length gq, .slice fO r4.Right.length fP, .slice fQ r4.Rules.length fR, .int .i64 r4.Done] 123 (0, 0)), .blk B2 (.cells #[.int .i64 (0 : Int), .slice none 0 0, .slice none 0 0, .slice none 0 0, .slice none 0 0, .slice none 0 0] 33 (0, 0))] ++ A24) w23
  refine sgn (e := .row 4 1 (some ⟨b25, 0, none⟩) r4.Elems.length r4.Elems.length mK) Qd hO g5 hw16 hnb30 rfl hh31 hd29 (fr : Fr (bl []) w0 _ w23) fun s hO hB => ?_
  replace xd := xd.ch s.ch
  refine cl1 Fl.bool 0 hO xd.u fun s hO => ?_
  refine GoQA.pure rfl (J0a underlying33 ti33 (pl := [(0, 1), (1, 1), (2, 1), (3, 1), (4, 1), (5, 1)]) (vs := [(0, .int .i64 (a0.length : Int)), (1, .slice eI r20.length eK), (5, .slice (some ⟨b25, 0, none⟩) r4.Elems.length r4.Elems.length)]) (cs := #[.int .i64 (a0.length : Int), .slice eI r20.length eK, .slice none 0 0, .slice none 0 0, .slice none 0 0, .slice (some ⟨b25, 0, none⟩) r4.Elems.length r4.Elems.length]) (by kernel_rfl) rfl (by kernel_rfl)) rfl rfl ?_
  refine GoQA.alloc rfl rfl (alAlloc (cs := #[.int .i64 (0 : Int), .slice none 0 0, .slice none 0 0, .slice none 0 0, .slice none 0 0, .slice none 0 0]) ti33 rfl) ?_
  intro w39 A40 b41 A42 xe xg hd45 hnb46 hh47
  refine sgw xe hO fun s hO => ?_
  refine sgn (e := .blk b41 (.cells #[.int .i64 (0 : Int), .slice none 0 0, .slice none 0 0, .slice none 0 0, .slice none 0 0, .slice none 0 0] 33 (0, 0))) xg hO g5 hw16 hnb46 rfl hh47 hd45 (fr : Fr (bl []) w0 _ w39) fun s hO hB => ?_
  refine GoQA.lastI rfl rfl fun w48 A49 Qe => ?_
  refine sgw Qe hO fun s hO => ?_
  refine sba 0 hO fun w51 s hO => ?_
  refine GoQA.nil fun w52 A53 Qf Qg => ?_
  refine sgw Qf hO fun s hO => ?_
  refine spm Qg hO fun s hO => ?_
  refine sln0 ?_
  refine au ?_
  refine snil Fl.str 9 hO fun s hO => ?_
  refine snil Fl.bool 4 hO fun s hO => ?_
  refine lv [0, 1, 2, 6, 8, 10, 41, 42] hO H (fun E (k1_59, d_60, gt) σ w => ∃ n63 p61 c62 n67 p65 c66, (fun Z => Lo A w0 σ w [(43, .int .i64 (k1_59 : Int))] Z ∧ ISs (bl Z ++ A) w gk gm r4.Gens ∧ ISs (bl Z ++ A) w fM fN r4.Elems ∧ ISi (bl Z ++ A) w fh fk r4.Prefix ∧ ISi (bl Z ++ A) w gn gq r4.Last ∧ ISs (bl Z ++ A) w fO fP r4.Right ∧ ISl (rpRule) (bl Z ++ A) w fQ fR r4.Rules ∧ ISs (bl Z ++ A) w eI eK r20) (esets E [(0, t1 Fl.bool 4 p61 n63 c62 d_60), (1, t1 Fl.str 9 p65 n67 c66 gt), (2, .blk b41 (.cells #[.int .i64 (a0.length : Int), .slice eI r20.length eK, .slice p65 n67 c66, .slice none 0 0, .slice p61 n63 c62, .slice (some ⟨b25, 0, none⟩) r4.Elems.length r4.Elems.length] 33 (0, 0)))])) ⟨_, _, _, _, _, _, ⟨agr, hO, fr⟩, di.u, bU.u, cx.u, dj.u, cK.u, cL.u, eM.u⟩ ?_
  refine fun X1 => p2 fun k1_59 d_60 gt => fun H hX1 σ w58 hk => e4 fun n63 p61 c62 n67 => e2 fun p65 c66 => d1 fun hL => d1 fun di => d1 fun bU => d4 fun cx dj cK cL eM => d2 (fun hag hO hB => keep2 hk hag ?_) hL
  dsimp only [esets, sS, sZ] at hO hB di bU cx dj cK cL eM
  dsimp only at H
  revert hO; repeat (rename Owns .. => q; clear q)
  intro hO; repeat (rename Sq .. => q; clear q)
  refine scm H (fun h68 H => ?_) fun h68 H => ?_
  ·refine sxls hO bU H.1 H.2.1 fun p69 c70 nf => ?_
   refine au ?_
   refine drs 2 [q0, q1, q1, q0, q2, q2, q3, q0, q3] hO fun w72 s hO => ?_
   refine sag 4 hO ?_
   refine au ?_
   have h75 := H.1
   have h76 := H.2.1
   refine zcq rfl (J01 body106 rfl (J0T hO.lt di.u bU.u cx.u dj.u cK.u cL.u H.2.2)) fun _ w74 => e1 fun r73 => sq0 hO fun s hO => d1 fun Cz H => ?_
   refine sap1 r73 1 hO H (fun _ w77 p78 c79 s hO => ?_) (hR := by exact fun _ _ => ⟨rfl, Cz⟩)
   refine sbs 2 hO fun w80 s hO => ?_
   refine au ?_
   refine drs 4 [q0, q1, q0, q0, q0, q0, q1, q0, q1, q2, q3, q0, q3] hO fun w81 s hO => ?_
   refine sxl hO nf.u H.2.1 H.2.2.1 ?_
   refine sxl hO Qa.u H.2.2.2.1 H.2.2.2.2.1 ?_
   refine sap1 (ix a2 (ix (ix r4.Elems (k1_59 : Int)) a1)) 0 hO H.2.2.2.2.2 fun _ w82 p83 c84 s hO => ?_
   refine sbs 2 hO fun w85 s hO => ?_
   refine sinc (natbd h68 bU.bd) ?_
   refine au ?_
   exact hX1 _ H.2.2.2.2.2.2 _ _ agr ⟨_, _, _, _, _, _, ⟨agr, hO, fr⟩, di.u, bU.u, cx.u, dj.u, cK.u, cL.u, eM.u⟩
  refine sln0 ?_
  refine au ?_
  refine snil Fl.i 3 hO fun s hO => ?_
  refine lv [6, 8, 10, 69, 70] hO H (fun E (yf, xh) σ w => ∃ n92 p90 c91, (fun Z => Lo A w0 σ w [(71, .int .i64 (yf : Int))] Z ∧ ISs (bl Z ++ A) w gk gm r4.Gens ∧ ISs (bl Z ++ A) w fM fN r4.Elems ∧ ISi (bl Z ++ A) w fh fk r4.Prefix ∧ ISi (bl Z ++ A) w gn gq r4.Last ∧ ISs (bl Z ++ A) w fO fP r4.Right ∧ ISl (rpRule) (bl Z ++ A) w fQ fR r4.Rules ∧ ISs (bl Z ++ A) w eI eK r20) (esets E [(0, t1 Fl.i 3 p90 n92 c91 xh), (3, .blk b41 (.cells #[.int .i64 (a0.length : Int), .slice eI r20.length eK, .slice p65 n67 c66, .slice p90 n92 c91, .slice p61 n63 c62, .slice (some ⟨b25, 0, none⟩) r4.Elems.length r4.Elems.length] 33 (0, 0)))])) ⟨_, _, _, ⟨agr, hO, fr⟩, di.u, bU.u, cx.u, dj.u, cK.u, cL.u, eM.u⟩ ?_
  refine fun X2 => p1 fun yf xh => fun H hX2 σ w87 hk => e3 fun n92 p90 c91 => d1 fun hL => d1 fun di => d1 fun bU => d4 fun cx dj cK cL eM => d2 (fun hag hO hB => keep2 hk hag ?_) hL
  dsimp only [esets, sS, sZ] at hO hB di bU cx dj cK cL eM
  dsimp only at H
  revert hO; repeat (rename Owns .. => q; clear q)
  intro hO; repeat (rename Sq .. => q; clear q)
  refine scm H (fun h93 H => ?_) fun h93 H => ?_
  ·refine sxls hO eh.u H.1 H.2.1 fun p94 c95 nc => ?_
   refine au ?_
   refine drs 2 [q0, q1, q0, q1, q0, q2, q2, q3, q0, q3] hO fun w97 s hO => ?_
   refine au ?_
   have mz := H.1
   have mA := H.2.1
   refine zcq rfl (J01 body107 rfl (J1o hO.lt bU.u nc.u H.2.2)) fun _ w99 => e1 fun r98 => sq0 hO fun s hO => fun H => ?_
   refine sap1 r98 0 hO H fun _ uH Pl Pm s hO => ?_
   refine sbs 3 hO fun mj s hO => ?_
   refine sinc (natbd h93 eh.bd) ?_
   refine au ?_
   exact hX2 _ H.2 _ _ agr ⟨_, _, _, ⟨agr, hO, fr⟩, di.u, bU.u, cx.u, dj.u, cK.u, cL.u, eM.u⟩
  refine au ?_
  have su := t1lend 0 hO
  have gU := t1n 0 hO
  have hOc108 := hO.drop 0
  refine zcr (J01 body108 (by rw [gU]; exact rfl) (J4b hOc108.lt (eM.u.ch (Owns.J03 _ _ 0)) su H)) fun _ adK => e4 fun r109 Ri Rj Rk => sc1 hO fun s hO => fun H => ?_
  refine sln1 0 hO ?_
  refine au ?_
  refine sdr [6] hO fun s hO => ?_
  refine lv [6, 10, 89, 90] hO H (fun E (tj, d_115) σ w => (fun Z => Lo A w0 σ w [(91, .int .i64 (tj : Int))] Z ∧ ISs (bl Z ++ A) w eI eK r20) (E.set 5 (t1 Fl.bool 4 (some ⟨b25, 0, none⟩) r4.Elems.length r4.Elems.length d_115))) ⟨⟨agr, hO, fr⟩, eM.u⟩ ?_
  refine fun X3 => p1 fun tj d_115 => fun H hX3 σ OT hk => d1 fun hL => fun eM => d2 (fun hag hO hB => keep2 hk hag ?_) hL
  dsimp only [esets, sS, sZ] at hO hB eM
  dsimp only at H
  revert hO; repeat (rename Owns .. => q; clear q)
  intro hO; repeat (rename Sq .. => q; clear q)
  refine scm H (fun CA H => ?_) fun CA H => ?_
  ·refine sxl1 0 hO H.1 H.2.1 ?_
   refine six1 5 hO H.2.2.1 H.2.2.2.1 ?_
   refine sst (u := true) 5 hO H.2.2.1 H.2.2.2.1 fun mC s hO => ?_
   refine sinc (natbd CA (t1b 0 hO)) ?_
   refine au ?_
   exact hX3 _ H.2.2.2.2 _ _ agr ⟨⟨agr, hO, fr⟩, eM.u⟩
  refine sag 4 hO ?_
  refine sba 6 hO fun adL s hO => ?_
  refine au ?_
  refine sfz 3 hO fun s hO JJ JK => ?_
  refine sfz 1 hO fun s hO JL JM => ?_
  refine sfz 1 hO fun s hO JN JO => ?_
  refine sfz 2 hO fun s hO JP JQ => ?_
  refine Go1.retC2 func64 rfl rfl (rlb 2 hO) ⟨((⟨(a0.length : Int), r20, gt, xh, d_60, d_115⟩ : Syntactic)), _, _, _, _, _, _, _, _, _, _, _, ?_, frs, eM.r, JJ.r, JL.r, JN.r, JP.r, H⟩
  exact (congrArg (fun l => Value.tuple (List.toArray l)) (J02 (congrArg (fun l => Value.agg (List.toArray l)) (J02 rfl (J02 rfl (J02 (congrArg (fun nn => Value.slice p65 nn c66) JK) (J02 (congrArg (fun nn => Value.slice p90 nn c91) JM) (J02 (congrArg (fun nn => Value.slice p61 nn c62) JO) (J02 (congrArg (fun nn => Value.slice (some ⟨b25, 0, none⟩) nn r4.Elems.length) JQ) rfl))))))) (J02 rfl rfl)))
 refine au ?_
 refine zo (J0a underlying33 ti33 (pl := [(0, 1), (1, 1), (2, 1), (3, 1), (4, 1), (5, 1)]) (vs := []) (cs := #[.int .i64 (0 : Int), .slice none 0 0, .slice none 0 0, .slice none 0 0, .slice none 0 0, .slice none 0 0]) (by kernel_rfl) rfl (by kernel_rfl)) ?_
 refine sba 1 hO fun BV s hO => ?_
 refine au ?_
 refine Go1.retC2 func64 rfl rfl (rlb 1 hO) ⟨((⟨(0 : Int), ([] : List (List Int)), ([] : List Str), ([] : List Int), ([] : List Bool), ([] : List Bool)⟩ : Syntactic)), _, _, _, _, _, _, _, _, _, _, _, er, frs, (ISl.null _ _ _), (ISl.null _ _ _), (ISl.null _ _ _), (ISl.null _ _ _), (ISl.null _ _ _), H⟩
theorem body20 : Body prog 20 := ⟨f20, func20, rfl, by kernel_rfl⟩
theorem J3p {aF aV : Option Addr} {aG aW : Nat} {d : DFA} (hA : HA0 A w0) (aE : ISb A w0 aF aG d.Final) (bg : ISs A w0 aV aW d.Next) {K : Syntactic → Int → Prop} (H : J2P d K) :
    CallsV prog 20 #[.agg (cDF d aF aG aV aW)] w0 (fun v w' => ∃ (r0 : Syntactic), ∃ (r1 : Int), ∃ (dX : Option Addr), ∃ (dY : Nat), ∃ (d5 : Option Addr), ∃ (d6 : Nat), ∃ (dK : Option Addr), ∃ (dM : Nat), ∃ (dN : Option Addr), ∃ (dO : Nat), ∃ (eo : Option Addr), ∃ (eA : Nat), v = .tuple #[.agg (cSY r0 dX dY d5 d6 dK dM dN dO eo eA), .int .i64 r1] ∧ Same w0 w' ∧ ISs A w' dX dY r0.Table ∧ ISt A w' d5 d6 r0.Words ∧ ISi A w' dK dM r0.Images ∧ ISb A w' dN dO r0.Accept ∧ ISb A w' eo eA r0.Plus ∧ K r0 r1) := by
 refine cal hA func20 ntmps20 fun hO hB => ?_
 unfold J2P at H
 refine sbx hO fun w1 B2 s hO => ?_
 refine sal hO fun w4 B5 s hO => ?_
 refine sag 1 hO ?_
 refine zcr (J01 body16 rfl (J2j hO.lt aE.u bg.u H)) fun _ w8 => e1 fun r7 => sc0 hO fun s hO => fun H => ?_
 refine scm H (fun h9 H => ?_) fun h9 H => ?_
 ·refine sag 1 hO ?_
  refine zcr (J01 body23 rfl (J4M hO.lt aE.u bg.u H)) fun _ w11 => e4 fun r10 nS nT o8 => e1 fun o9 => sc0 hO fun s hO => d2 fun e9 ii H => ?_
  refine sal hO fun w12 B13 s hO => ?_
  refine sba 0 hO fun w15 s hO => ?_
  refine sln0 ?_
  refine scm (H e9.bd) (fun h16 H => ?_) fun h16 H => ?_
  ·refine au ?_
   refine zo (J0a underlying33 ti33 (pl := [(0, 1), (1, 1), (2, 1), (3, 1), (4, 1), (5, 1)]) (vs := []) (cs := #[.int .i64 (0 : Int), .slice none 0 0, .slice none 0 0, .slice none 0 0, .slice none 0 0, .slice none 0 0]) (by kernel_rfl) rfl (by kernel_rfl)) ?_
   refine sba 1 hO fun w17 s hO => ?_
   refine au ?_
   refine Go1.retC2 func20 rfl rfl (rlb 1 hO) ⟨((⟨(0 : Int), ([] : List (List Int)), ([] : List Str), ([] : List Int), ([] : List Bool), ([] : List Bool)⟩ : Syntactic)), _, _, _, _, _, _, _, _, _, _, _, er, frs, (ISl.null _ _ _), (ISl.null _ _ _), (ISl.null _ _ _), (ISl.null _ _ _), (ISl.null _ _ _), H⟩
  refine au ?_
  refine drw 1 [(0, q1), (2, q0), (3, q1), (4, q0), (5, q1), (1, q2), (6, q2), (7, q0), (8, q0), (9, q3), (10, q0)] hO fun w18 s hO => ?_
  refine sag 0 hO ?_
  refine au ?_
  refine zcq rfl (J01 body65 rfl (J5v hO.lt e9.u ii.u H)) fun _ w20 => e3 fun r19 TO TP => sq0 hO fun s hO => d1 fun JS H => ?_
  refine zcq rfl (J01 body64 rfl (J6F hO.lt JS e9.u H)) fun _ w23 => e4 fun r21 r22 Dq Dr => e4 fun Du Dv CB CC => e4 fun CD CE JT JU => sq0 hO fun s hO => d1 fun n9 => d4 fun oc nC nE sv H => ?_
  refine sba 1 hO fun w24 s hO => ?_
  refine au ?_
  refine Go1.retC2 func20 rfl rfl (rlb 1 hO) ⟨((⟨r21.Letters, r21.Table, r21.Words, r21.Images, r21.Accept, r21.Plus⟩ : Syntactic)), _, _, _, _, _, _, _, _, _, _, _, er, frs, n9.r, oc.r, nC.r, nE.r, sv.r, H⟩
 refine au ?_
 refine zo (J0a underlying33 ti33 (pl := [(0, 1), (1, 1), (2, 1), (3, 1), (4, 1), (5, 1)]) (vs := []) (cs := #[.int .i64 (0 : Int), .slice none 0 0, .slice none 0 0, .slice none 0 0, .slice none 0 0, .slice none 0 0]) (by kernel_rfl) rfl (by kernel_rfl)) ?_
 refine sba 0 hO fun w25 s hO => ?_
 refine au ?_
 refine Go1.retC2 func20 rfl rfl (rlb 0 hO) ⟨((⟨(0 : Int), ([] : List (List Int)), ([] : List Str), ([] : List Int), ([] : List Bool), ([] : List Bool)⟩ : Syntactic)), _, _, _, _, _, _, _, _, _, _, _, er, frs, (ISl.null _ _ _), (ISl.null _ _ _), (ISl.null _ _ _), (ISl.null _ _ _), (ISl.null _ _ _), H⟩
theorem body47 : Body prog 47 := ⟨f47, func47, rfl, by kernel_rfl⟩
theorem J4l {p_a p_b : Option Addr} {c_a c_b : Nat} {a b : List (List Int)} (hA : HA0 A w0) (h_a : ISs A w0 p_a c_a a) (h_b : ISs A w0 p_b c_b b) {K : Bool → Prop} (H : J11 a b K) :
    CallsV prog 47 #[.slice p_a a.length c_a, .slice p_b b.length c_b] w0 (fun v w' => ∃ (r0 : Bool), v = .bool r0 ∧ Same w0 w' ∧ K r0) := by
 refine cal hA func47 ntmps47 fun hO hB => ?_
 unfold J11 at H
 refine sln0 ?_
 refine sln0 ?_
 refine scm ((H h_a.bd) h_b.bd) (fun h1 H => ?_) fun h1 H => ?_
 ·refine sln0 ?_
  refine au ?_
  refine lv [0, 1, 12] hO H (fun E k1_3 σ w => Lo A w0 σ w [(13, .int .i64 (k1_3 : Int))] []) ⟨agr, hO, fr⟩ ?_
  refine fun X1 => fun k1_3 => fun H hX1 σ w2 hk => d2 fun hag hO hB => keep2 hk hag ?_
  refine scm H (fun h4 H => ?_) fun h4 H => ?_
  ·refine au ?_
   refine drs 0 [q0, q0, q0, q1, q0, q0, q0, q1, q2, q0] hO fun w5 s hO => ?_
   refine sxls hO h_a.u H.1 H.2.1 fun p6 c7 hi8 => ?_
   refine sxls hO h_b.u H.2.2.1 H.2.2.2.1 fun p9 c10 wt => ?_
   have h14 := H.1
   have h15 := H.2.1
   have h16 := H.2.2.1
   have h17 := H.2.2.2.1
   refine zcq rfl (J01 body49 rfl (J1y hO.lt hi8.u wt.u H.2.2.2.2)) fun _ w13 => e1 fun r12 => sq0 hO fun s hO => fun H => ?_
   cases r12
   ·refine au ?_
    refine Go1.ret1 func47 rfl ⟨_, er, frs, (iF H)⟩
   refine sinc (natbd h4 h_a.bd) ?_
   refine au ?_
   exact hX1 _ (iT H) _ _ agr ⟨agr, hO, fr⟩
  refine au ?_
  refine Go1.ret1 func47 rfl ⟨_, er, frs, H⟩
 refine au ?_
 refine Go1.ret1 func47 rfl ⟨_, er, frs, H⟩
theorem body27 : Body prog 27 := ⟨f27, func27, rfl, by kernel_rfl⟩
theorem J2a {p_a p_b : Option Addr} {c_a c_b : Nat} {a b : List Bool} (hA : HA0 A w0) (h_a : ISb A w0 p_a c_a a) (h_b : ISb A w0 p_b c_b b) {K : Bool → Prop} (H : J0B a b K) :
    CallsV prog 27 #[.slice p_a a.length c_a, .slice p_b b.length c_b] w0 (fun v w' => ∃ (r0 : Bool), v = .bool r0 ∧ Same w0 w' ∧ K r0) := by
 refine cal hA func27 ntmps27 fun hO hB => ?_
 unfold J0B at H
 refine sln0 ?_
 refine sln0 ?_
 refine scm ((H h_a.bd) h_b.bd) (fun h1 H => ?_) fun h1 H => ?_
 ·refine sln0 ?_
  refine au ?_
  refine lv [0, 1, 12] hO H (fun E k1_3 σ w => Lo A w0 σ w [(13, .int .i64 (k1_3 : Int))] []) ⟨agr, hO, fr⟩ ?_
  refine fun X1 => fun k1_3 => fun H hX1 σ w2 hk => d2 fun hag hO hB => keep2 hk hag ?_
  refine scm H (fun h4 H => ?_) fun h4 H => ?_
  ·refine au ?_
   refine drs 0 [q0, q0, q0, q1, q0, q0, q0, q1, q0] hO fun w5 s hO => ?_
   refine au ?_
   have h6 := H.1
   have h7 := H.2.1
   refine sxb hO h_a.u H.1 H.2.1 H.2.2 (fun h8 H => ?_) fun h8 H => ?_
   ·refine au ?_
    have h9 := H.1
    have h10 := H.2.1
    refine sxb hO h_b.u H.1 H.2.1 H.2.2 (fun h11 H => ?_) fun h11 H => ?_
    ·refine GoQ.pure rfl (J27 underlying4 rfl rfl) rfl rfl ?_
     refine sinc (natbd h4 h_a.bd) ?_
     refine au ?_
     exact hX1 _ H _ _ agr ⟨agr, hO, fr⟩
    refine GoQ.pure rfl (J27 underlying4 rfl rfl) rfl rfl ?_
    refine au ?_
    refine Go1.ret1 func27 rfl ⟨_, er, frs, H⟩
   refine au ?_
   have h12 := H.1
   have h13 := H.2.1
   refine sxb hO h_b.u H.1 H.2.1 H.2.2 (fun h14 H => ?_) fun h14 H => ?_
   ·refine GoQ.pure rfl (J27 underlying4 rfl rfl) rfl rfl ?_
    refine au ?_
    refine Go1.ret1 func27 rfl ⟨_, er, frs, H⟩
   refine GoQ.pure rfl (J27 underlying4 rfl rfl) rfl rfl ?_
   refine sinc (natbd h4 h_a.bd) ?_
   refine au ?_
   exact hX1 _ H _ _ agr ⟨agr, hO, fr⟩
  refine au ?_
  refine Go1.ret1 func27 rfl ⟨_, er, frs, H⟩
 refine au ?_
 refine Go1.ret1 func27 rfl ⟨_, er, frs, H⟩
theorem body21 : Body prog 21 := ⟨f21, func21, rfl, by kernel_rfl⟩
theorem J67 {lk lr kq kt nF lB lD kw kz nH : Option Addr} {lm lA kr ku nG lC lE kx kA nI : Nat} {a b : Syntactic} (hA : HA0 A w0) (tm : ISs A w0 lk lm a.Table) (tn : ISt A w0 lr lA a.Words) (sw : ISi A w0 kq kr a.Images) (sx : ISb A w0 kt ku a.Accept) (xi : ISb A w0 nF nG a.Plus) (tp : ISs A w0 lB lC b.Table) (tq : ISt A w0 lD lE b.Words) (sy : ISi A w0 kw kx b.Images) (sA : ISb A w0 kz kA b.Accept) (xj : ISb A w0 nH nI b.Plus) {K : Bool → Prop} (H : J2Z a b K) :
    CallsV prog 21 #[.agg (cSY a lk lm lr lA kq kr kt ku nF nG), .agg (cSY b lB lC lD lE kw kx kz kA nH nI)] w0 (fun v w' => ∃ (r0 : Bool), v = .bool r0 ∧ Same w0 w' ∧ K r0) := by
 refine cal hA func21 ntmps21 fun hO hB => ?_
 unfold J2Z at H
 refine sbx hO fun w1 B2 s hO => ?_
 refine sbx hO fun w4 B5 s hO => ?_
 refine scm H (fun h7 H => ?_) fun h7 H => ?_
 ·refine au ?_
  refine zcr (J01 body47 rfl (J4l hO.lt tm.u tp.u H)) fun _ w9 => e1 fun r8 => sc0 hO fun s hO => fun H => ?_
  refine au ?_
  cases r8
  ·refine au ?_
   refine Go1.ret1 func21 rfl ⟨_, er, frs, (iF H)⟩
  refine au ?_
  refine zcr (J01 body48 rfl (J41 hO.lt tn.u tq.u (iT H))) fun _ w11 => e1 fun r10 => sc0 hO fun s hO => fun H => ?_
  refine au ?_
  cases r10
  ·refine au ?_
   refine Go1.ret1 func21 rfl ⟨_, er, frs, (iF H)⟩
  refine au ?_
  refine zcr (J01 body49 rfl (J1y hO.lt sw.u sy.u (iT H))) fun _ w13 => e1 fun r12 => sc0 hO fun s hO => fun H => ?_
  refine au ?_
  cases r12
  ·refine au ?_
   refine Go1.ret1 func21 rfl ⟨_, er, frs, (iF H)⟩
  refine au ?_
  refine zcr (J01 body27 rfl (J2a hO.lt sx.u sA.u (iT H))) fun _ w15 => e1 fun r14 => sc0 hO fun s hO => fun H => ?_
  refine au ?_
  cases r14
  ·refine au ?_
   refine Go1.ret1 func21 rfl ⟨_, er, frs, (iF H)⟩
  refine au ?_
  refine zcr (J01 body27 rfl (J2a hO.lt xi.u xj.u (iT H))) fun _ w17 => e1 fun r16 => sc0 hO fun s hO => fun H => ?_
  refine au ?_
  refine Go1.ret1 func21 rfl ⟨_, er, frs, H⟩
 refine au ?_
 refine Go1.ret1 func21 rfl ⟨_, er, frs, H⟩
end Sg
