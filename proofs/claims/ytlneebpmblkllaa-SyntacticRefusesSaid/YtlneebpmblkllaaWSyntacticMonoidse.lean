/- -/
import Derived.Test.YtlneebpmblkllaaVd
import Derived.Test.YtlneebpmblkllaaWSyntacticMonoidsd
namespace Sg
open Go Go.RowKit Go.Proofs Try
set_option linter.unusedVariables false
set_option linter.unusedSimpArgs false
set_option maxRecDepth 100000
set_option maxHeartbeats 4000000
variable {A : List Nat} {w0 : World}
theorem body135 : Body prog 135 := ⟨f135, func135, rfl, by kernel_rfl⟩
theorem J5y {iD : Option Addr} {iE : Nat} {a0 : List (List Int)} {a1 : Bool} (hA : HA0 A w0) (eh : ISs A w0 iD iE a0) {K : Enum → Int → Prop} (H : J2C a0 a1 K) :
    CallsV prog 135 #[.slice iD a0.length iE, .bool a1] w0 (fun v w' => ∃ (r0 : Enum), ∃ (r1 : Int), ∃ (dr : Option Addr), ∃ (dt : Nat), ∃ (cP : Option Addr), ∃ (cQ : Nat), ∃ (cB : Option Addr), ∃ (cC : Nat), ∃ (du : Option Addr), ∃ (dw : Nat), ∃ (cR : Option Addr), ∃ (cS : Nat), ∃ (cU : Option Addr), ∃ (cV : Nat), v = .tuple #[.agg #[.int .i64 r0.Points, .bool r0.Monoid, .slice dr r0.Gens.length dt, .slice cP r0.Elems.length cQ, .slice cB r0.Prefix.length cC, .slice du r0.Last.length dw, .slice cR r0.Right.length cS, .slice cU r0.Rules.length cV, .int .i64 r0.Done], .int .i64 r1] ∧ Same w0 w' ∧ ISs A w' dr dt r0.Gens ∧ ISs A w' cP cQ r0.Elems ∧ ISi A w' cB cC r0.Prefix ∧ ISi A w' du dw r0.Last ∧ ISs A w' cR cS r0.Right ∧ ISl (rpRule) A w' cU cV r0.Rules ∧ K r0 r1) := by
 refine cal hA func135 ntmps135 fun hO hB => ?_
 unfold J2C at H
 refine sal hO fun w1 B2 s hO => ?_
 refine sln0 ?_
 refine scm (H eh.bd) (fun h4 H => ?_) fun h4 H => ?_
 ·refine au ?_
  refine zo (J0a underlying123 ti123 (pl := [(0, 1), (1, 1), (2, 1), (3, 1), (4, 1), (5, 1), (6, 1), (7, 1), (8, 1)]) (vs := []) (cs := #[.int .i64 (0 : Int), .bool false, .slice none 0 0, .slice none 0 0, .slice none 0 0, .slice none 0 0, .slice none 0 0, .slice none 0 0, .int .i64 (0 : Int)]) (by kernel_rfl) rfl (by kernel_rfl)) ?_
  refine sba 0 hO fun w5 s hO => ?_
  refine au ?_
  refine Go1.retC2 func135 rfl rfl (rlb 0 hO) ⟨((⟨(0 : Int), false, ([] : List (List Int)), ([] : List (List Int)), ([] : List Int), ([] : List Int), ([] : List (List Int)), ([] : List Rule), (0 : Int)⟩ : Enum)), _, _, _, _, _, _, _, _, _, _, _, _, _, er, frs, (ISl.null _ _ _), (ISl.null _ _ _), (ISl.null _ _ _), (ISl.null _ _ _), (ISl.null _ _ _), (ISl.null _ _ _), H⟩
 refine sln0 ?_
 refine scm H (fun h6 H => ?_) fun h6 H => ?_
 ·refine au ?_
  refine zo (J0a underlying123 ti123 (pl := [(0, 1), (1, 1), (2, 1), (3, 1), (4, 1), (5, 1), (6, 1), (7, 1), (8, 1)]) (vs := []) (cs := #[.int .i64 (0 : Int), .bool false, .slice none 0 0, .slice none 0 0, .slice none 0 0, .slice none 0 0, .slice none 0 0, .slice none 0 0, .int .i64 (0 : Int)]) (by kernel_rfl) rfl (by kernel_rfl)) ?_
  refine sba 0 hO fun w7 s hO => ?_
  refine au ?_
  refine Go1.retC2 func135 rfl rfl (rlb 0 hO) ⟨((⟨(0 : Int), false, ([] : List (List Int)), ([] : List (List Int)), ([] : List Int), ([] : List Int), ([] : List (List Int)), ([] : List Rule), (0 : Int)⟩ : Enum)), _, _, _, _, _, _, _, _, _, _, _, _, _, er, frs, (ISl.null _ _ _), (ISl.null _ _ _), (ISl.null _ _ _), (ISl.null _ _ _), (ISl.null _ _ _), (ISl.null _ _ _), H⟩
 refine au ?_
 refine zcr (J01 body161 rfl (J4R hO.lt eh.u H)) fun _ w9 => e1 fun r8 => sc0 hO fun s hO => fun H => ?_
 cases r8
 ·refine au ?_
  refine zo (J0a underlying123 ti123 (pl := [(0, 1), (1, 1), (2, 1), (3, 1), (4, 1), (5, 1), (6, 1), (7, 1), (8, 1)]) (vs := []) (cs := #[.int .i64 (0 : Int), .bool false, .slice none 0 0, .slice none 0 0, .slice none 0 0, .slice none 0 0, .slice none 0 0, .slice none 0 0, .int .i64 (0 : Int)]) (by kernel_rfl) rfl (by kernel_rfl)) ?_
  refine sba 0 hO fun w10 s hO => ?_
  refine au ?_
  refine Go1.retC2 func135 rfl rfl (rlb 0 hO) ⟨((⟨(0 : Int), false, ([] : List (List Int)), ([] : List (List Int)), ([] : List Int), ([] : List Int), ([] : List (List Int)), ([] : List Rule), (0 : Int)⟩ : Enum)), _, _, _, _, _, _, _, _, _, _, _, _, _, er, frs, (ISl.null _ _ _), (ISl.null _ _ _), (ISl.null _ _ _), (ISl.null _ _ _), (ISl.null _ _ _), (ISl.null _ _ _), (iF H)⟩
 refine au ?_
 refine drA Same.tr 1 [(0, m0), (1, m0), (2, m1), (3, m0), (4, m0), (5, m0), (6, m2), (7, m0), (8, m4), (9, m3)] hO fun w11 s hO => ?_
 have wg := hO.le
 have hw13 := (fr : Fr (bl []) w0 _ w11).ch.size
 refine au ?_
 refine sxls hO eh.u (iT H).1 (iT H).2.1 fun p14 c15 gX => ?_
 refine sln0 ?_
 refine au ?_
 refine au ?_
 refine GoQA.loudI rfl rfl fun w17 A18 wh => ?_
 refine sgw wh hO fun s hO => ?_
 have h23 := (iT H).1
 have h24 := (iT H).2.1
 refine GoAt.call (J01 body162 rfl (J5X hO.lt eh.u ((iT H).2.2 gX.bd))) (fun _ _ hr => ⟨fun _ => saq hr, Same.kp hO (saq hr)⟩) rfl fun _ w22 => e4 fun r20 lY eI eK => e1 fun Rh => sA1 hO fun s hO => fun H => ?_
 refine GoQA.pure rfl (J0a underlying123 ti123 (pl := [(0, 1), (1, 1), (2, 1), (3, 1), (4, 1), (5, 1), (6, 1), (7, 1), (8, 1)]) (vs := [(0, .int .i64 ((ix a0 (0 : Int)).length : Int)), (1, .bool a1), (2, .slice eI lY eK)]) (cs := #[.int .i64 ((ix a0 (0 : Int)).length : Int), .bool a1, .slice eI lY eK, .slice none 0 0, .slice none 0 0, .slice none 0 0, .slice none 0 0, .slice none 0 0, .int .i64 (0 : Int)]) (by kernel_rfl) rfl (by kernel_rfl)) rfl rfl ?_
 refine GoQA.alloc rfl rfl (alAlloc (cs := #[.int .i64 (0 : Int), .bool false, .slice none 0 0, .slice none 0 0, .slice none 0 0, .slice none 0 0, .slice none 0 0, .slice none 0 0, .int .i64 (0 : Int)]) ti123 rfl) ?_
 intro w27 A28 b29 A30 O7 O8 hd33 hnb34 hh35
 refine sgw O7 hO fun s hO => ?_
 refine sgn (e := .blk b29 (.cells #[.int .i64 (0 : Int), .bool false, .slice none 0 0, .slice none 0 0, .slice none 0 0, .slice none 0 0, .slice none 0 0, .slice none 0 0, .int .i64 (0 : Int)] 123 (0, 0))) O8 hO wg hw13 hnb34 rfl hh35 hd33 (fr : Fr (bl []) w0 _ w27) fun s hO hB => ?_
 refine GoQA.lastI rfl rfl fun w36 A37 wi => ?_
 refine sgw wi hO fun s hO => ?_
 refine sba 0 hO fun w39 s hO => ?_
 refine GoQA.nil fun w40 A41 O9 Pa => ?_
 refine sgw O9 hO fun s hO => ?_
 refine spm Pa hO fun s hO => ?_
 refine au ?_
 cases a1
 ·refine sln0 ?_
  refine au ?_
  have ro := Stp.nil (e := 31) (r := 1) hO
  refine nst ro fun s hO => ?_
  have wj := elN (Rp.sl (Rp.int .i64)) hO
  refine snil Fl.i 3 hO fun s hO => ?_
  refine snil Fl.i 3 hO fun s hO => ?_
  refine snil (id Fl.fl : Fl rpRule) 185 hO fun s hO => ?_
  refine lv [4, 6, 7, 42, 43] hO (iF H) (fun E (k1_51, d_52, rq, d_60, gt) σ w => ∃ n55 p53 c54 n59 p57 c58 n63 p61 c62 n69 p67 c68 wk, (fun Z => Lo A w0 σ w [(44, .int .i64 (k1_51 : Int))] Z ∧ Els (Rp.sl (Rp.int .i64)) (bl Z ++ A) w wk gt) (esets E [(0, t1 (id Fl.fl : Fl rpRule) 185 p53 n55 c54 d_52), (1, t1 Fl.i 3 p57 n59 c58 rq), (2, t1 Fl.i 3 p61 n63 c62 d_60), (3, .row 31 1 p67 n69 c68 wk), (4, .blk b29 (.cells #[.int .i64 ((ix a0 (0 : Int)).length : Int), .bool false, .slice eI lY eK, .slice p67 n69 c68, .slice p61 n63 c62, .slice p57 n59 c58, .slice none 0 0, .slice p53 n55 c54, .int .i64 (0 : Int)] 123 (0, 0)))])) ⟨_, _, _, _, _, _, _, _, _, _, _, _, _, ⟨agr, hO, fr⟩, wj.u⟩ ?_
  refine fun X1 => p1 fun k1_51 => p3 fun d_52 rq d_60 gt => fun H hX1 σ w50 hk => e4 fun n55 p53 c54 n59 => e4 fun p57 c58 n63 p61 => e4 fun c62 n69 p67 c68 => e1 fun wk => d1 fun hL => fun kS => d2 (fun hag hO hB => keep2 hk hag ?_) hL
  dsimp only [esets, sS, sZ] at hO hB kS
  dsimp only at H
  revert hO; repeat (rename Owns .. => q; clear q)
  intro hO; repeat (rename Sq .. => q; clear q)
  refine scm H (fun h70 H => ?_) fun h70 H => ?_
  ·refine sxls hO eh.u H.1 H.2.1 fun p71 c72 BT => ?_
   refine au ?_
   have zz := rowlend 3 hO rfl kS
   obtain ⟨Pb, Pc⟩ := zz
   have hOc76 := hO.drop 3
   have h79 := H.1
   have h80 := H.2.1
   refine zcr (J01 body107 (by rw [Pc]; exact rfl) (J1o hOc76.lt Pb (BT.u.ch (Owns.J03 _ _ 3)) H.2.2)) fun _ w78 => e1 fun r77 => sc0 hO fun s hO => fun H => ?_
   refine scm H (fun h81 H => ?_) fun h81 H => ?_
   ·refine au ?_
    refine drw 2 [(0, q0), (1, q1), (2, q0), (4, q1), (5, q0), (3, q2), (6, q2), (7, q0), (8, q2), (9, q3), (10, q0), (11, q3)] hO fun w82 s hO => ?_
    refine sag 4 hO ?_
    refine au ?_
    refine zcq rfl (J01 body137 rfl (J0Y hO.lt H)) fun _ w84 => e1 fun r83 => sq0 hO fun s hO => d1 fun BU H => ?_
    have Pd := t2lend 5 hO rfl
    have mM := t2neq 5 hO rfl
    have hOc87 := hO.drop 5
    have zz := rowlend 3 hOc87 rfl (kS.u.ch (Owns.J03 _ _ 5))
    obtain ⟨Pe, ve⟩ := zz
    have hOc90 := hOc87.drop 3
    have Pg := t1lend 2 hOc90
    have tS := t1n 2 hOc90
    have hOc93 := hOc90.drop 2
    have Ph := t1lend 1 hOc93
    have Pi := t1n 1 hOc93
    have hOc96 := hOc93.drop 1
    have Pj := t1lend 0 hOc96
    have Pk := t1n 0 hOc96
    have hOc99 := hOc96.drop 0
    refine zcq rfl (J01 body106 (by rw [mM, ve, tS, Pi, Pk]; exact rfl) (J0T (e := (⟨((ix a0 (0 : Int)).length : Int), false, r20, gt, d_60, rq, [], d_52, (0 : Int)⟩ : Enum)) hOc99.lt ((((Pd.ch (Owns.J03 _ _ 3)).ch (Owns.J03 _ _ 2)).ch (Owns.J03 _ _ 1)).ch (Owns.J03 _ _ 0)) (((Pe.ch (Owns.J03 _ _ 2)).ch (Owns.J03 _ _ 1)).ch (Owns.J03 _ _ 0)) ((Pg.ch (Owns.J03 _ _ 1)).ch (Owns.J03 _ _ 0)) (Ph.ch (Owns.J03 _ _ 0)) (ISl.null _ _ _) Pj H)) fun _ tG => e1 fun r100 => sq0 hO fun s hO => d1 fun yv H => ?_
    refine GoQ.pure rfl (J0a underlying185 ti185 (pl := [(0, 1), (1, 1)]) (vs := [(0, .string (gstr r83)), (1, .string (gstr r100))]) (cs := #[.string (gstr r83), .string (gstr r100)]) (by kernel_rfl) rfl (by kernel_rfl)) rfl rfl ?_
    refine sapF (⟨r83, r100⟩ : Rule) 0 hO H (fun _ uH Pl Pm s hO => ?_) (hok := by exact ⟨BU, yv⟩)
    refine sbs 4 hO fun mj s hO => ?_
    refine sinc (natbd h70 eh.bd) ?_
    refine au ?_
    exact hX1 _ H.2 _ _ agr ⟨_, _, _, _, _, _, _, _, _, _, _, _, _, ⟨agr, hO, fr⟩, kS.u⟩
   refine au ?_
   refine drA (CSv.tr [(some ⟨b29, 3, none⟩), (some ⟨b29, 4, none⟩), (some ⟨b29, 5, none⟩)]) 1 [(0, m0), (1, m1), (3, m0), (7, m0), (8, m1), (9, m0), (12, m0), (13, m1), (14, m0), (2, m4), (4, m2), (5, m4), (6, m2), (17, m0), (10, m4), (11, m2), (15, m4), (16, m2), (18, m3), (19, m0), (20, m3), (21, m0), (22, m3)] hO fun BP s hO => ?_
   have gU := hO.le
   have hw108 := (fr : Fr (bl []) w0 _ BP).ch.size
   refine au ?_
   refine GoQA.stable rfl (loadV (.head _) rfl (J00 4 hO rfl rfl) underlying23 rfl rfl) rfl rfl ?_
   refine au ?_
   refine au ?_
   refine GoQA.stable rfl (loadV (.tail _ (.head _)) rfl (J00 4 hO rfl rfl) underlying31 rfl rfl) rfl rfl ?_
   refine au ?_
   refine au ?_
   refine GoQA.stable rfl (loadV (.tail _ (.tail _ (.head _))) rfl (J00 4 hO rfl rfl) underlying31 rfl rfl) rfl rfl ?_
   refine au ?_
   refine GoQA.alloc rfl rfl (alBuild (n := 0) (parts := []) (vs := []) underlying31 ti3 (by decide) (by decide) (by decide) (by kernel_rfl) rfl rfl) ?_
   intro wa A111 Pn A113 HL HM hd116 hnb117 hh118
   refine sgw HL hO fun s hO => ?_
   have rs := elE (Rp.int .i64) [] (([] : List Int)) hO (Els.nil _ _ _)
   refine sgn (e := .row 3 1 (some ⟨Pn, 0, none⟩) 0 0 []) HM hO gU hw108 hnb117 rfl hh118 hd116 (fr : Fr (bl []) w0 _ wa) fun s hO hB => ?_
   replace rs := rs.ch s.ch
   refine cl1 Fl.i 0 hO rs.u fun s hO => ?_
   refine GoQA.loudI rfl rfl fun mJ A121 HN => ?_
   refine sgw HN hO fun s hO => ?_
   refine sapQ 0 hO BT.u H (fun Mw jw kT s hO => ?_) (g := fun _ _ _ _ hv hst h => GoAt.step hv (fun _ => (CSv.cons (cs_eq (J00 5 hO rfl rfl) (J00 5 hst.own rfl rfl)) (CSv.cons (cs_eq (J00 5 hO rfl rfl) (J00 5 hst.own rfl rfl)) (CSv.cons (cs_eq (J00 5 hO rfl rfl) (J00 5 hst.own rfl rfl)) (CSv.nil _ _))))) (Stp.kp hO hst) rfl h)
   refine sfz 0 hO fun s hO HO ru => ?_
   refine GoQA.alloc rfl rfl (alBuild (n := 1) (parts := [(0, .slice jw (0 + ((ix a0 (k1_51 : Int)).length)) kT)]) (vs := [.slice jw (0 + ((ix a0 (k1_51 : Int)).length)) kT]) underlying23 ti31 (by decide) (by decide) (by decide) (by kernel_rfl) rfl rfl) ?_
   intro BV A128 Po A130 HP HQ hd133 hnb134 hh135
   refine sgw HP hO fun s hO => ?_
   have jc := elE (Rp.sl (Rp.int .i64)) [.slice jw (0 + ((ix a0 (k1_51 : Int)).length)) kT] [(([] : List Int)) ++ (ix a0 (k1_51 : Int))] hO (Els.cons rfl ⟨jw, kT, congrArg some (congrArg (fun nn => Value.slice jw nn kT) ru), HO.u⟩ (Els.nil _ _ _) (by simp [mx]))
   refine sgn (e := .row 31 1 (some ⟨Po, 0, none⟩) 1 1 [.slice jw (0 + ((ix a0 (k1_51 : Int)).length)) kT]) HQ hO gU hw108 hnb134 rfl hh135 hd133 (fr : Fr (bl []) w0 _ BV) fun s hO hB => ?_
   replace jc := jc.ch s.ch
   refine GoQA.loudI rfl rfl fun Lt A140 HR => ?_
   refine sgw HR hO fun s hO => ?_
   refine sfzR 0 hO jc.u fun s hO HS HT => ?_
   replace H := H.2
   obtain ⟨Pp, H⟩ := H
   have zz := oapp underlying23 ti31 rfl 3 hO rfl kS.u HS HT Pp (by decide)
   obtain ⟨zl, Lw, acD, TC, iR, x4, BW⟩ := zz
   dsimp only [sS, sZ] at x4
   refine GoAt.step (BW (by exact rfl) (by exact rfl)) (fun _ => (CSv.cons (cs_eq (J00 4 hO rfl rfl) (J00 4 iR.own rfl rfl)) (CSv.cons (cs_eq (J00 4 hO rfl rfl) (J00 4 iR.own rfl rfl)) (CSv.cons (cs_eq (J00 4 hO rfl rfl) (J00 4 iR.own rfl rfl)) (CSv.nil _ _))))) (Stp.kp hO iR) rfl ?_
   refine nst iR fun s hO => ?_
   refine au ?_
   refine GoQA.alloc rfl rfl (alBuild (n := 1) (parts := [(0, .int .i64 (-1 : Int))]) (vs := [.int .i64 (-1 : Int)]) underlying31 ti3 (by decide) (by decide) (by decide) (by kernel_rfl) rfl rfl) ?_
   intro uJ A155 Pq A157 HU HV hd160 hnb161 hh162
   refine sgw HU hO fun s hO => ?_
   have rv := elE (Rp.int .i64) [.int .i64 (-1 : Int)] [(-1 : Int)] hO (Els.cons rfl rfl (Els.nil _ _ _) (by simp [mx]))
   refine sgn (e := .row 3 1 (some ⟨Pq, 0, none⟩) 1 1 [.int .i64 (-1 : Int)]) HV hO gU hw108 hnb161 rfl hh162 hd160 (fr : Fr (bl []) w0 _ uJ) fun s hO hB => ?_
   replace rv := rv.ch s.ch
   refine cl1 Fl.i 0 hO rv.u fun s hO => ?_
   refine GoQA.loudI rfl rfl fun ph A165 HW => ?_
   refine sgw HW hO fun s hO => ?_
   refine sfz 0 hO fun s hO HX x5 => ?_
   refine sapQ 2 hO HX H (fun MD acE acF s hO => ?_) (g := fun _ _ _ _ hv hst h => GoAt.step hv (fun _ => (CSv.cons (cs_eq (J00 4 hO rfl rfl) (J00 4 hst.own rfl rfl)) (CSv.cons (cs_eq (J00 4 hO rfl rfl) (J00 4 hst.own rfl rfl)) (CSv.cons (cs_eq (J00 4 hO rfl rfl) (J00 4 hst.own rfl rfl)) (CSv.nil _ _))))) (Stp.kp hO hst) rfl h)
   refine GoQA.alloc rfl rfl (alBuild (n := 1) (parts := [(0, .int .i64 (k1_51 : Int))]) (vs := [.int .i64 (k1_51 : Int)]) underlying31 ti3 (by decide) (by decide) (by decide) (by kernel_rfl) rfl rfl) ?_
   intro pU A174 Pr A176 HY H0 hd179 hnb180 hh181
   refine sgw HY hO fun s hO => ?_
   have rB := elE (Rp.int .i64) [.int .i64 (k1_51 : Int)] [(k1_51 : Int)] hO (Els.cons rfl rfl (Els.nil _ _ _) (by simp [mx]))
   refine sgn (e := .row 3 1 (some ⟨Pr, 0, none⟩) 1 1 [.int .i64 (k1_51 : Int)]) H0 hO gU hw108 hnb180 rfl hh181 hd179 (fr : Fr (bl []) w0 _ pU) fun s hO hB => ?_
   replace rB := rB.ch s.ch
   refine cl1 Fl.i 0 hO rB.u fun s hO => ?_
   refine GoQA.loudI rfl rfl fun tJ A184 H1 => ?_
   refine sgw H1 hO fun s hO => ?_
   refine sfz 0 hO fun s hO H2 TD => ?_
   refine sapQ 1 hO H2 H.2 (fun yS oL acG s hO => ?_) (g := fun _ _ _ _ hv hst h => GoAt.step hv (fun _ => (CSv.cons (cs_eq (J00 4 hO rfl rfl) (J00 4 hst.own rfl rfl)) (CSv.cons (cs_eq (J00 4 hO rfl rfl) (J00 4 hst.own rfl rfl)) (CSv.cons (cs_eq (J00 4 hO rfl rfl) (J00 4 hst.own rfl rfl)) (CSv.nil _ _))))) (Stp.kp hO hst) rfl h)
   refine GoQA.lastI rfl rfl fun tK A192 pV => ?_
   refine sgw pV hO fun s hO => ?_
   refine sbs 4 hO fun MH s hO => ?_
   refine au ?_
   refine GoQA.lastI rfl rfl fun yT A196 H3 => ?_
   refine sgw H3 hO fun s hO => ?_
   refine sbs 4 hO fun MJ s hO => ?_
   refine au ?_
   refine GoQA.lastI rfl rfl fun tM A200 H4 => ?_
   refine sgw H4 hO fun s hO => ?_
   refine sbs 4 hO fun ML s hO => ?_
   refine GoQA.nil fun yW A204 pW pX => ?_
   refine sgw pW hO fun s hO => ?_
   refine spm pX hO fun s hO => ?_
   refine au ?_
   refine sinc (natbd h70 eh.bd) ?_
   refine au ?_
   exact hX1 _ H.2.2 _ _ agr ⟨_, _, _, _, _, _, _, _, _, _, _, _, _, ⟨agr, hO, fr⟩, x4.u⟩
  refine sag 4 hO ?_
  refine sba 6 hO fun MM s hO => ?_
  refine au ?_
  refine sfz2 5 hO fun s hO pM pN => ?_
  refine sfzR 3 hO kS.u fun s hO H5 H6 => ?_
  refine sfz 2 hO fun s hO H7 H8 => ?_
  refine sfz 1 hO fun s hO H9 Ia => ?_
  refine sfz 0 hO fun s hO Ib Ic => ?_
  refine Go1.retC2 func135 rfl rfl (rlb 1 hO) ⟨((⟨((ix a0 (0 : Int)).length : Int), false, r20, gt, d_60, rq, ([] : List (List Int)), d_52, (0 : Int)⟩ : Enum)), _, _, _, _, _, _, _, _, _, _, _, _, _, ?_, frs, pM.r, H5.r, H7.r, H9.r, (ISl.null _ _ _), Ib.r, H⟩
  exact (congrArg (fun l => Value.tuple (List.toArray l)) (J02 (congrArg (fun l => Value.agg (List.toArray l)) (J02 rfl (J02 rfl (J02 (congrArg (fun nn => Value.slice eI nn eK) pN) (J02 (congrArg (fun nn => Value.slice p67 nn c68) H6) (J02 (congrArg (fun nn => Value.slice p61 nn c62) H8) (J02 (congrArg (fun nn => Value.slice p57 nn c58) Ia) (J02 rfl (J02 (congrArg (fun nn => Value.slice p53 nn c54) Ic) (J02 rfl rfl)))))))))) (J02 rfl rfl)))
 refine au ?_
 refine zcr (J01 body51 rfl (J4i hO.lt (iT H))) fun _ LK => e3 fun wm ni nj => sc0 hO fun s hO => d1 fun BX H => ?_
 have zz := J1u (r := Rp.sl (Rp.int .i64)) (n := 1) (parts := [(0, .slice ni wm.length nj)]) (vs := [.slice ni wm.length nj]) (xs := [wm]) rfl underlying23 ti31 hO (by decide) (by kernel_rfl) (Els.cons rfl ⟨ni, nj, rfl, BX⟩ (Els.nil _ _ _) (by simp [mx])) rfl
 obtain ⟨Ao, MQ, BY, Id, TE, B1⟩ := zz
 refine zg (B1 rfl) ?_
 refine nst BY fun s hO => ?_
 refine sbu Fl.i 3 [(-1 : Int)] hO fun zL acH s hO => ?_
 refine sbu Fl.i 3 [(-1 : Int)] hO fun uL NV s hO => ?_
 refine sbs 3 hO fun AR s hO => ?_
 refine sbs 3 hO fun zM s hO => ?_
 refine sbs 3 hO fun acI s hO => ?_
 refine sln0 ?_
 refine au ?_
 refine snil (id Fl.fl : Fl rpRule) 185 hO fun s hO => ?_
 refine lv [4, 6, 7, 42, 43] hO H (fun E (eG, l5, l7, l8, l9) σ w => ∃ wn nk rC wo rD rE wq rF rG wr rH rI rJ, (fun Z => Lo A w0 σ w [(44, .int .i64 (eG : Int))] Z ∧ Els (Rp.sl (Rp.int .i64)) (bl Z ++ A) w rJ l9) (esets E [(0, t1 (id Fl.fl : Fl rpRule) 185 nk wn rC l5), (1, t1 Fl.i 3 rD wo rE l7), (2, t1 Fl.i 3 rF wq rG l8), (3, .row 31 1 rH wr rI rJ), (4, .blk b29 (.cells #[.int .i64 ((ix a0 (0 : Int)).length : Int), .bool true, .slice eI lY eK, .slice rH wr rI, .slice rF wq rG, .slice rD wo rE, .slice none 0 0, .slice nk wn rC, .int .i64 (0 : Int)] 123 (0, 0)))])) ⟨_, _, _, _, _, _, _, _, _, _, _, _, _, ⟨agr, hO, fr⟩, Id.u⟩ ?_
 refine fun X2 => p1 fun eG => p3 fun l5 l7 l8 l9 => fun H hX2 σ uh hk => e4 fun wn nk rC wo => e4 fun rD rE wq rF => e4 fun rG wr rH rI => e1 fun rJ => d1 fun hL => fun jh => d2 (fun hag hO hB => keep2 hk hag ?_) hL
 dsimp only [esets, sS, sZ] at hO hB jh
 dsimp only at H
 revert hO; repeat (rename Owns .. => q; clear q)
 intro hO; repeat (rename Sq .. => q; clear q)
 refine scm H (fun mP H => ?_) fun mP H => ?_
 ·refine sxls hO eh.u H.1 H.2.1 fun acJ acK x6 => ?_
  refine au ?_
  have zz := rowlend 3 hO rfl jh
  obtain ⟨Ie, Ig⟩ := zz
  have hOc263 := hO.drop 3
  have acL := H.1
  have acM := H.2.1
  refine zcr (J01 body107 (by rw [Ig]; exact rfl) (J1o hOc263.lt Ie (x6.u.ch (Owns.J03 _ _ 3)) H.2.2)) fun _ acN => e1 fun r264 => sc0 hO fun s hO => fun H => ?_
  refine scm H (fun Ps H => ?_) fun Ps H => ?_
  ·refine au ?_
   refine drw 2 [(0, q0), (1, q1), (2, q0), (4, q1), (5, q0), (3, q2), (6, q2), (7, q0), (8, q2), (9, q3), (10, q0), (11, q3)] hO fun BB s hO => ?_
   refine sag 4 hO ?_
   refine au ?_
   refine zcq rfl (J01 body137 rfl (J0Y hO.lt H)) fun _ Np => e1 fun r270 => sq0 hO fun s hO => d1 fun yw H => ?_
   have Ih := t2lend 5 hO rfl
   have lR := t2neq 5 hO rfl
   have hOc274 := hO.drop 5
   have zz := rowlend 3 hOc274 rfl (jh.u.ch (Owns.J03 _ _ 5))
   obtain ⟨Ii, Ij⟩ := zz
   have hOc277 := hOc274.drop 3
   have Ik := t1lend 2 hOc277
   have Il := t1n 2 hOc277
   have hOc280 := hOc277.drop 2
   have Im := t1lend 1 hOc280
   have xX := t1n 1 hOc280
   have hOc283 := hOc280.drop 1
   have Io := t1lend 0 hOc283
   have Ip := t1n 0 hOc283
   have hOc286 := hOc283.drop 0
   refine zcq rfl (J01 body106 (by rw [lR, Ij, Il, xX, Ip]; exact rfl) (J0T (e := (⟨((ix a0 (0 : Int)).length : Int), true, r20, l9, l8, l7, [], l5, (0 : Int)⟩ : Enum)) hOc286.lt ((((Ih.ch (Owns.J03 _ _ 3)).ch (Owns.J03 _ _ 2)).ch (Owns.J03 _ _ 1)).ch (Owns.J03 _ _ 0)) (((Ii.ch (Owns.J03 _ _ 2)).ch (Owns.J03 _ _ 1)).ch (Owns.J03 _ _ 0)) ((Ik.ch (Owns.J03 _ _ 1)).ch (Owns.J03 _ _ 0)) (Im.ch (Owns.J03 _ _ 0)) (ISl.null _ _ _) Io H)) fun _ vo => e1 fun ws => sq0 hO fun s hO => d1 fun yz H => ?_
   refine GoQ.pure rfl (J0a underlying185 ti185 (pl := [(0, 1), (1, 1)]) (vs := [(0, .string (gstr r270)), (1, .string (gstr ws))]) (cs := #[.string (gstr r270), .string (gstr ws)]) (by kernel_rfl) rfl (by kernel_rfl)) rfl rfl ?_
   refine sapF (⟨r270, ws⟩ : Rule) 0 hO H (fun _ zO LU LV s hO => ?_) (hok := by exact ⟨yw, yz⟩)
   refine sbs 4 hO fun zP s hO => ?_
   refine sinc (natbd mP eh.bd) ?_
   refine au ?_
   exact hX2 _ H.2 _ _ agr ⟨_, _, _, _, _, _, _, _, _, _, _, _, _, ⟨agr, hO, fr⟩, jh.u⟩
  refine au ?_
  refine drA (CSv.tr [(some ⟨b29, 3, none⟩), (some ⟨b29, 4, none⟩), (some ⟨b29, 5, none⟩)]) 1 [(0, m0), (1, m1), (3, m0), (7, m0), (8, m1), (9, m0), (12, m0), (13, m1), (14, m0), (2, m4), (4, m2), (5, m4), (6, m2), (17, m0), (10, m4), (11, m2), (15, m4), (16, m2), (18, m3), (19, m0), (20, m3), (21, m0), (22, m3)] hO fun uG s hO => ?_
  have ma := hO.le
  have hw295 := (fr : Fr (bl []) w0 _ uG).ch.size
  refine au ?_
  refine GoQA.stable rfl (loadV (.head _) rfl (J00 4 hO rfl rfl) underlying23 rfl rfl) rfl rfl ?_
  refine au ?_
  refine au ?_
  refine GoQA.stable rfl (loadV (.tail _ (.head _)) rfl (J00 4 hO rfl rfl) underlying31 rfl rfl) rfl rfl ?_
  refine au ?_
  refine au ?_
  refine GoQA.stable rfl (loadV (.tail _ (.tail _ (.head _))) rfl (J00 4 hO rfl rfl) underlying31 rfl rfl) rfl rfl ?_
  refine au ?_
  refine GoQA.alloc rfl rfl (alBuild (n := 0) (parts := []) (vs := []) underlying31 ti3 (by decide) (by decide) (by decide) (by kernel_rfl) rfl rfl) ?_
  intro B3 A298 Pt A300 Iq Ir hd303 hnb304 hh305
  refine sgw Iq hO fun s hO => ?_
  have rK := elE (Rp.int .i64) [] (([] : List Int)) hO (Els.nil _ _ _)
  refine sgn (e := .row 3 1 (some ⟨Pt, 0, none⟩) 0 0 []) Ir hO ma hw295 hnb304 rfl hh305 hd303 (fr : Fr (bl []) w0 _ B3) fun s hO hB => ?_
  replace rK := rK.ch s.ch
  refine cl1 Fl.i 0 hO rK.u fun s hO => ?_
  refine GoQA.loudI rfl rfl fun L6 A308 Iu => ?_
  refine sgw Iu hO fun s hO => ?_
  refine sapQ 0 hO x6.u H (fun Pu kU kV s hO => ?_) (g := fun _ _ _ _ hv hst h => GoAt.step hv (fun _ => (CSv.cons (cs_eq (J00 5 hO rfl rfl) (J00 5 hst.own rfl rfl)) (CSv.cons (cs_eq (J00 5 hO rfl rfl) (J00 5 hst.own rfl rfl)) (CSv.cons (cs_eq (J00 5 hO rfl rfl) (J00 5 hst.own rfl rfl)) (CSv.nil _ _))))) (Stp.kp hO hst) rfl h)
  refine sfz 0 hO fun s hO Iv rL => ?_
  refine GoQA.alloc rfl rfl (alBuild (n := 1) (parts := [(0, .slice kU (0 + ((ix a0 (eG : Int)).length)) kV)]) (vs := [.slice kU (0 + ((ix a0 (eG : Int)).length)) kV]) underlying23 ti31 (by decide) (by decide) (by decide) (by kernel_rfl) rfl rfl) ?_
  intro B6 A315 Pv A317 Iw Ix hd320 hnb321 hh322
  refine sgw Iw hO fun s hO => ?_
  have rM := elE (Rp.sl (Rp.int .i64)) [.slice kU (0 + ((ix a0 (eG : Int)).length)) kV] [(([] : List Int)) ++ (ix a0 (eG : Int))] hO (Els.cons rfl ⟨kU, kV, congrArg some (congrArg (fun nn => Value.slice kU nn kV) rL), Iv.u⟩ (Els.nil _ _ _) (by simp [mx]))
  refine sgn (e := .row 31 1 (some ⟨Pv, 0, none⟩) 1 1 [.slice kU (0 + ((ix a0 (eG : Int)).length)) kV]) Ix hO ma hw295 hnb321 rfl hh322 hd320 (fr : Fr (bl []) w0 _ B6) fun s hO hB => ?_
  replace rM := rM.ch s.ch
  refine GoQA.loudI rfl rfl fun acO A327 Iy => ?_
  refine sgw Iy hO fun s hO => ?_
  refine sfzR 0 hO rM.u fun s hO Iz IA => ?_
  replace H := H.2
  obtain ⟨mX, H⟩ := H
  have zz := oapp underlying23 ti31 rfl 3 hO rfl jh.u Iz IA mX (by decide)
  obtain ⟨zX, Me, Mf, TF, iU, x7, B9⟩ := zz
  dsimp only [sS, sZ] at x7
  refine GoAt.step (B9 (by exact rfl) (by exact rfl)) (fun _ => (CSv.cons (cs_eq (J00 4 hO rfl rfl) (J00 4 iU.own rfl rfl)) (CSv.cons (cs_eq (J00 4 hO rfl rfl) (J00 4 iU.own rfl rfl)) (CSv.cons (cs_eq (J00 4 hO rfl rfl) (J00 4 iU.own rfl rfl)) (CSv.nil _ _))))) (Stp.kp hO iU) rfl ?_
  refine nst iU fun s hO => ?_
  refine au ?_
  refine GoQA.alloc rfl rfl (alBuild (n := 1) (parts := [(0, .int .i64 (0 : Int))]) (vs := [.int .i64 (0 : Int)]) underlying31 ti3 (by decide) (by decide) (by decide) (by kernel_rfl) rfl rfl) ?_
  intro Pw A342 Px A344 IB IC hd347 hnb348 hh349
  refine sgw IB hO fun s hO => ?_
  have rN := elE (Rp.int .i64) [.int .i64 (0 : Int)] [(0 : Int)] hO (Els.cons rfl rfl (Els.nil _ _ _) (by simp [mx]))
  refine sgn (e := .row 3 1 (some ⟨Px, 0, none⟩) 1 1 [.int .i64 (0 : Int)]) IC hO ma hw295 hnb348 rfl hh349 hd347 (fr : Fr (bl []) w0 _ Pw) fun s hO hB => ?_
  replace rN := rN.ch s.ch
  refine cl1 Fl.i 0 hO rN.u fun s hO => ?_
  refine GoQA.loudI rfl rfl fun Mm A352 ID => ?_
  refine sgw ID hO fun s hO => ?_
  refine sfz 0 hO fun s hO IE TG => ?_
  refine sapQ 2 hO IE H (fun Ny acP acQ s hO => ?_) (g := fun _ _ _ _ hv hst h => GoAt.step hv (fun _ => (CSv.cons (cs_eq (J00 4 hO rfl rfl) (J00 4 hst.own rfl rfl)) (CSv.cons (cs_eq (J00 4 hO rfl rfl) (J00 4 hst.own rfl rfl)) (CSv.cons (cs_eq (J00 4 hO rfl rfl) (J00 4 hst.own rfl rfl)) (CSv.nil _ _))))) (Stp.kp hO hst) rfl h)
  refine GoQA.alloc rfl rfl (alBuild (n := 1) (parts := [(0, .int .i64 (eG : Int))]) (vs := [.int .i64 (eG : Int)]) underlying31 ti3 (by decide) (by decide) (by decide) (by kernel_rfl) rfl rfl) ?_
  intro Ca A361 Py A363 IF IG hd366 hnb367 hh368
  refine sgw IF hO fun s hO => ?_
  have rO := elE (Rp.int .i64) [.int .i64 (eG : Int)] [(eG : Int)] hO (Els.cons rfl rfl (Els.nil _ _ _) (by simp [mx]))
  refine sgn (e := .row 3 1 (some ⟨Py, 0, none⟩) 1 1 [.int .i64 (eG : Int)]) IG hO ma hw295 hnb367 rfl hh368 hd366 (fr : Fr (bl []) w0 _ Ca) fun s hO hB => ?_
  replace rO := rO.ch s.ch
  refine cl1 Fl.i 0 hO rO.u fun s hO => ?_
  refine GoQA.loudI rfl rfl fun acR A371 IH => ?_
  refine sgw IH hO fun s hO => ?_
  refine sfz 0 hO fun s hO II TH => ?_
  refine sapQ 1 hO II H.2 (fun acS acT acU s hO => ?_) (g := fun _ _ _ _ hv hst h => GoAt.step hv (fun _ => (CSv.cons (cs_eq (J00 4 hO rfl rfl) (J00 4 hst.own rfl rfl)) (CSv.cons (cs_eq (J00 4 hO rfl rfl) (J00 4 hst.own rfl rfl)) (CSv.cons (cs_eq (J00 4 hO rfl rfl) (J00 4 hst.own rfl rfl)) (CSv.nil _ _))))) (Stp.kp hO hst) rfl h)
  refine GoQA.lastI rfl rfl fun acV A379 IJ => ?_
  refine sgw IJ hO fun s hO => ?_
  refine sbs 4 hO fun acW s hO => ?_
  refine au ?_
  refine GoQA.lastI rfl rfl fun Oa A383 IK => ?_
  refine sgw IK hO fun s hO => ?_
  refine sbs 4 hO fun acX s hO => ?_
  refine au ?_
  refine GoQA.lastI rfl rfl fun NA A387 IL => ?_
  refine sgw IL hO fun s hO => ?_
  refine sbs 4 hO fun acY s hO => ?_
  refine GoQA.nil fun ac0 A391 IM IN => ?_
  refine sgw IM hO fun s hO => ?_
  refine spm IN hO fun s hO => ?_
  refine au ?_
  refine sinc (natbd mP eh.bd) ?_
  refine au ?_
  exact hX2 _ H.2.2 _ _ agr ⟨_, _, _, _, _, _, _, _, _, _, _, _, _, ⟨agr, hO, fr⟩, x7.u⟩
 refine sag 4 hO ?_
 refine sba 6 hO fun Pz s hO => ?_
 refine au ?_
 refine sfz2 5 hO fun s hO IQ IR => ?_
 refine sfzR 3 hO jh.u fun s hO rP rQ => ?_
 refine sfz 2 hO fun s hO jX lU => ?_
 refine sfz 1 hO fun s hO rR rS => ?_
 refine sfz 0 hO fun s hO rT rU => ?_
 refine Go1.retC2 func135 rfl rfl (rlb 1 hO) ⟨((⟨((ix a0 (0 : Int)).length : Int), true, r20, l9, l8, l7, ([] : List (List Int)), l5, (0 : Int)⟩ : Enum)), _, _, _, _, _, _, _, _, _, _, _, _, _, ?_, frs, IQ.r, rP.r, jX.r, rR.r, (ISl.null _ _ _), rT.r, H⟩
 exact (congrArg (fun l => Value.tuple (List.toArray l)) (J02 (congrArg (fun l => Value.agg (List.toArray l)) (J02 rfl (J02 rfl (J02 (congrArg (fun nn => Value.slice eI nn eK) IR) (J02 (congrArg (fun nn => Value.slice rH nn rI) rQ) (J02 (congrArg (fun nn => Value.slice rF nn rG) lU) (J02 (congrArg (fun nn => Value.slice rD nn rE) rS) (J02 rfl (J02 (congrArg (fun nn => Value.slice nk nn rC) rU) (J02 rfl rfl)))))))))) (J02 rfl rfl)))
theorem body114 : Body prog 114 := ⟨f114, func114, rfl, by kernel_rfl⟩
theorem J4I {p_f p_g : Option Addr} {c_f c_g : Nat} {f g : List Int} (hA : HA0 A w0) (h_f : ISi A w0 p_f c_f f) (h_g : ISi A w0 p_g c_g g) {K : List Int → Prop} (H : J1i f g K) :
    CallsV prog 114 #[.slice p_f f.length c_f, .slice p_g g.length c_g] w0 (fun v w' => ∃ (r0 : List Int), ∃ (p_r0 : Option Addr), ∃ (c_r0 : Nat), v = .slice p_r0 r0.length c_r0 ∧ Same w0 w' ∧ ISi A w' p_r0 c_r0 r0 ∧ K r0) := by
 refine cal hA func114 ntmps114 fun hO hB => ?_
 unfold J1i at H
 refine sln0 ?_
 refine smk Fl.i (H h_f.bd) hO fun w1 p4 s hO => ?_
 refine sln0 ?_
 refine au ?_
 refine lv [1, 5, 11, 12] hO (H h_f.bd).2.2 (fun E (bw, out1_8) σ w => Lo A w0 σ w [(13, .int .i64 (bw : Int))] [t1 Fl.i 3 p4 f.length f.length out1_8]) ⟨agr, hO, fr⟩ ?_
 refine fun X1 => p1 fun bw out1_8 => fun H hX1 σ w6 hk => d2 fun hag hO hB => keep2 hk hag ?_
 dsimp only at H
 revert hO; repeat (rename Owns .. => q; clear q)
 intro hO; repeat (rename Sq .. => q; clear q)
 refine scm H (fun h9 H => ?_) fun h9 H => ?_
 ·refine sxl hO h_f.u H.1 H.2.1 ?_
  refine sxl hO h_g.u H.2.2.1 H.2.2.2.1 ?_
  refine six1 0 hO H.2.2.2.2.1 H.2.2.2.2.2.1 ?_
  refine sst (u := (ix g (ix f (bw : Int)))) 0 hO H.2.2.2.2.1 H.2.2.2.2.2.1 fun w10 s hO => ?_
  refine sinc (natbd h9 h_f.bd) ?_
  refine au ?_
  exact hX1 _ H.2.2.2.2.2.2 _ _ agr ⟨agr, hO, fr⟩
 refine au ?_
 refine sfz 0 hO fun s hO wt wg => ?_
 refine Go1.ret1 func114 rfl ⟨_, _, _, ?_, frs, wt.r, H⟩
 exact (congrArg (fun nn => Value.slice p4 nn f.length) wg)
theorem body136 : Body prog 136 := ⟨f136, func136, rfl, by kernel_rfl⟩
theorem J4F {fB kc jk li kg ki : Option Addr} {fC ke jl lj kh kj : Nat} {a0 : Enum} {a1 : Int} (hA : HA0 A w0) (dT : ISs A w0 fB fC a0.Gens) (rV : ISs A w0 kc ke a0.Elems) (nV : ISi A w0 jk jl a0.Prefix) (sW : ISi A w0 li lj a0.Last) (rW : ISs A w0 kg kh a0.Right) (rX : ISl (rpRule) A w0 ki kj a0.Rules) {K : Enum → Int → Prop} (H : J1s a0 a1 K) :
    CallsV prog 136 #[.agg #[.int .i64 a0.Points, .bool a0.Monoid, .slice fB a0.Gens.length fC, .slice kc a0.Elems.length ke, .slice jk a0.Prefix.length jl, .slice li a0.Last.length lj, .slice kg a0.Right.length kh, .slice ki a0.Rules.length kj, .int .i64 a0.Done], .int .i64 a1] w0 (fun v w' => ∃ (r0 : Enum), ∃ (r1 : Int), ∃ (dr : Option Addr), ∃ (dt : Nat), ∃ (cP : Option Addr), ∃ (cQ : Nat), ∃ (cB : Option Addr), ∃ (cC : Nat), ∃ (du : Option Addr), ∃ (dw : Nat), ∃ (cR : Option Addr), ∃ (cS : Nat), ∃ (cU : Option Addr), ∃ (cV : Nat), v = .tuple #[.agg #[.int .i64 r0.Points, .bool r0.Monoid, .slice dr r0.Gens.length dt, .slice cP r0.Elems.length cQ, .slice cB r0.Prefix.length cC, .slice du r0.Last.length dw, .slice cR r0.Right.length cS, .slice cU r0.Rules.length cV, .int .i64 r0.Done], .int .i64 r1] ∧ Same w0 w' ∧ ISs A w' dr dt r0.Gens ∧ ISs A w' cP cQ r0.Elems ∧ ISi A w' cB cC r0.Prefix ∧ ISi A w' du dw r0.Last ∧ ISs A w' cR cS r0.Right ∧ ISl (rpRule) A w' cU cV r0.Rules ∧ K r0 r1) := by
 refine cal hA func136 ntmps136 fun hO hB => ?_
 unfold J1s at H
 refine sbx hO fun w1 B2 s hO => ?_
 refine sal hO fun w4 B5 s hO => ?_
 refine au ?_
 refine drA (CSv.tr [(some ⟨B2, 0, none⟩), (some ⟨B2, 1, none⟩), (some ⟨B2, 2, none⟩), (some ⟨B2, 3, none⟩), (some ⟨B2, 4, none⟩), (some ⟨B2, 5, none⟩), (some ⟨B2, 6, none⟩), (some ⟨B2, 7, none⟩), (some ⟨B2, 8, none⟩)]) 1 [(0, m0), (1, m1), (2, m0), (3, m1), (4, m0), (5, m1), (7, m0), (8, m1), (11, m0), (12, m1), (15, m0), (16, m1), (19, m0), (20, m1), (23, m0), (24, m1), (26, m0), (27, m1), (6, m4), (9, m2), (10, m4), (13, m2), (14, m4), (17, m2), (18, m4), (21, m2), (22, m4), (25, m2), (28, m0), (29, m4), (30, m3)] hO fun w7 s hO => ?_
 have hn8 := hO.le
 have hw9 := (fr : Fr (bl []) w0 _ w7).ch.size
 refine au ?_
 refine GoQA.stable rfl (loadV (.head _) rfl (J00 1 hO rfl rfl) underlying3 rfl rfl) rfl rfl ?_
 refine au ?_
 refine GoQA.stable rfl (loadV (.tail _ (.head _)) rfl (J00 1 hO rfl rfl) underlying4 rfl rfl) rfl rfl ?_
 refine au ?_
 refine GoQA.stable rfl (loadV (.tail _ (.tail _ (.head _))) rfl (J00 1 hO rfl rfl) underlying23 rfl rfl) rfl rfl ?_
 refine au ?_
 refine GoQA.stable rfl (loadV (.tail _ (.tail _ (.tail _ (.head _)))) rfl (J00 1 hO rfl rfl) underlying23 rfl rfl) rfl rfl ?_
 refine au ?_
 refine GoQA.stable rfl (loadV (.tail _ (.tail _ (.tail _ (.tail _ (.head _))))) rfl (J00 1 hO rfl rfl) underlying31 rfl rfl) rfl rfl ?_
 refine au ?_
 refine GoQA.stable rfl (loadV (.tail _ (.tail _ (.tail _ (.tail _ (.tail _ (.head _)))))) rfl (J00 1 hO rfl rfl) underlying31 rfl rfl) rfl rfl ?_
 refine au ?_
 refine GoQA.stable rfl (loadV (.tail _ (.tail _ (.tail _ (.tail _ (.tail _ (.tail _ (.head _))))))) rfl (J00 1 hO rfl rfl) underlying23 rfl rfl) rfl rfl ?_
 refine au ?_
 refine GoQA.stable rfl (loadV (.tail _ (.tail _ (.tail _ (.tail _ (.tail _ (.tail _ (.tail _ (.head _)))))))) rfl (J00 1 hO rfl rfl) underlying121 rfl rfl) rfl rfl ?_
 refine au ?_
 refine GoQA.stable rfl (loadV (.tail _ (.tail _ (.tail _ (.tail _ (.tail _ (.tail _ (.tail _ (.tail _ (.head _))))))))) rfl (J00 1 hO rfl rfl) underlying3 rfl rfl) rfl rfl ?_
 refine GoQA.alloc rfl rfl (alBuild (n := 0) (parts := []) (vs := []) underlying23 ti31 (by decide) (by decide) (by decide) (by kernel_rfl) rfl rfl) ?_
 intro w11 A12 b13 A14 wu ww hd17 hnb18 hh19
 refine sgw wu hO fun s hO => ?_
 have jF := elE (Rp.sl (Rp.int .i64)) [] (([] : List (List Int))) hO (Els.nil _ _ _)
 refine sgn (e := .row 31 1 (some ⟨b13, 0, none⟩) 0 0 []) ww hO hn8 hw9 hnb18 rfl hh19 hd17 (fr : Fr (bl []) w0 _ w11) fun s hO hB => ?_
 replace jF := jF.ch s.ch
 refine GoQA.loudI rfl rfl fun w21 A22 wz => ?_
 refine sgw wz hO fun s hO => ?_
 obtain ⟨h24, H⟩ := H
 have zz := oapp underlying23 ti31 rfl 0 hO rfl jF.u rV.u rfl h24 (by decide)
 obtain ⟨w25, p26, c27, PA, fK, fy, IS⟩ := zz
 dsimp only [sS, sZ] at fy
 refine GoAt.step (IS (by exact rfl) (by exact rfl)) (fun _ => (CSv.cons (cs_eq (J00 2 hO rfl rfl) (J00 2 fK.own rfl rfl)) (CSv.cons (cs_eq (J00 2 hO rfl rfl) (J00 2 fK.own rfl rfl)) (CSv.cons (cs_eq (J00 2 hO rfl rfl) (J00 2 fK.own rfl rfl)) (CSv.cons (cs_eq (J00 2 hO rfl rfl) (J00 2 fK.own rfl rfl)) (CSv.cons (cs_eq (J00 2 hO rfl rfl) (J00 2 fK.own rfl rfl)) (CSv.cons (cs_eq (J00 2 hO rfl rfl) (J00 2 fK.own rfl rfl)) (CSv.cons (cs_eq (J00 2 hO rfl rfl) (J00 2 fK.own rfl rfl)) (CSv.cons (cs_eq (J00 2 hO rfl rfl) (J00 2 fK.own rfl rfl)) (CSv.cons (cs_eq (J00 2 hO rfl rfl) (J00 2 fK.own rfl rfl)) (CSv.nil _ _))))))))))) (Stp.kp hO fK) rfl ?_
 refine nst fK fun s hO => ?_
 refine GoQA.alloc rfl rfl (alBuild (n := 0) (parts := []) (vs := []) underlying31 ti3 (by decide) (by decide) (by decide) (by kernel_rfl) rfl rfl) ?_
 intro w34 A35 b36 A37 wi PB hd40 hnb41 hh42
 refine sgw wi hO fun s hO => ?_
 have wA := elE (Rp.int .i64) [] (([] : List Int)) hO (Els.nil _ _ _)
 refine sgn (e := .row 3 1 (some ⟨b36, 0, none⟩) 0 0 []) PB hO hn8 hw9 hnb41 rfl hh42 hd40 (fr : Fr (bl []) w0 _ w34) fun s hO hB => ?_
 replace wA := wA.ch s.ch
 refine cl1 Fl.i 0 hO wA.u fun s hO => ?_
 refine GoQA.loudI rfl rfl fun w44 A45 PC => ?_
 refine sgw PC hO fun s hO => ?_
 refine sapQ 0 hO nV.u H (fun w47 p48 c49 s hO => ?_) (g := fun _ _ _ _ hv hst h => GoAt.step hv (fun _ => (CSv.cons (cs_eq (J00 3 hO rfl rfl) (J00 3 hst.own rfl rfl)) (CSv.cons (cs_eq (J00 3 hO rfl rfl) (J00 3 hst.own rfl rfl)) (CSv.cons (cs_eq (J00 3 hO rfl rfl) (J00 3 hst.own rfl rfl)) (CSv.cons (cs_eq (J00 3 hO rfl rfl) (J00 3 hst.own rfl rfl)) (CSv.cons (cs_eq (J00 3 hO rfl rfl) (J00 3 hst.own rfl rfl)) (CSv.cons (cs_eq (J00 3 hO rfl rfl) (J00 3 hst.own rfl rfl)) (CSv.cons (cs_eq (J00 3 hO rfl rfl) (J00 3 hst.own rfl rfl)) (CSv.cons (cs_eq (J00 3 hO rfl rfl) (J00 3 hst.own rfl rfl)) (CSv.cons (cs_eq (J00 3 hO rfl rfl) (J00 3 hst.own rfl rfl)) (CSv.nil _ _))))))))))) (Stp.kp hO hst) rfl h)
 refine GoQA.alloc rfl rfl (alBuild (n := 0) (parts := []) (vs := []) underlying31 ti3 (by decide) (by decide) (by decide) (by kernel_rfl) rfl rfl) ?_
 intro w51 A52 b53 A54 PD PE hd57 hnb58 hh59
 refine sgw PD hO fun s hO => ?_
 have wB := elE (Rp.int .i64) [] (([] : List Int)) hO (Els.nil _ _ _)
 refine sgn (e := .row 3 1 (some ⟨b53, 0, none⟩) 0 0 []) PE hO hn8 hw9 hnb58 rfl hh59 hd57 (fr : Fr (bl []) w0 _ w51) fun s hO hB => ?_
 replace wB := wB.ch s.ch
 refine cl1 Fl.i 0 hO wB.u fun s hO => ?_
 refine GoQA.loudI rfl rfl fun w61 A62 PF => ?_
 refine sgw PF hO fun s hO => ?_
 refine sapQ 0 hO sW.u H.2 (fun w64 p65 c66 s hO => ?_) (g := fun _ _ _ _ hv hst h => GoAt.step hv (fun _ => (CSv.cons (cs_eq (J00 4 hO rfl rfl) (J00 4 hst.own rfl rfl)) (CSv.cons (cs_eq (J00 4 hO rfl rfl) (J00 4 hst.own rfl rfl)) (CSv.cons (cs_eq (J00 4 hO rfl rfl) (J00 4 hst.own rfl rfl)) (CSv.cons (cs_eq (J00 4 hO rfl rfl) (J00 4 hst.own rfl rfl)) (CSv.cons (cs_eq (J00 4 hO rfl rfl) (J00 4 hst.own rfl rfl)) (CSv.cons (cs_eq (J00 4 hO rfl rfl) (J00 4 hst.own rfl rfl)) (CSv.cons (cs_eq (J00 4 hO rfl rfl) (J00 4 hst.own rfl rfl)) (CSv.cons (cs_eq (J00 4 hO rfl rfl) (J00 4 hst.own rfl rfl)) (CSv.cons (cs_eq (J00 4 hO rfl rfl) (J00 4 hst.own rfl rfl)) (CSv.nil _ _))))))))))) (Stp.kp hO hst) rfl h)
 refine GoQA.alloc rfl rfl (alBuild (n := 0) (parts := []) (vs := []) underlying23 ti31 (by decide) (by decide) (by decide) (by kernel_rfl) rfl rfl) ?_
 intro w68 A69 b70 A71 PG PH hd74 hnb75 hh76
 refine sgw PG hO fun s hO => ?_
 have wC := elE (Rp.sl (Rp.int .i64)) [] (([] : List (List Int))) hO (Els.nil _ _ _)
 refine sgn (e := .row 31 1 (some ⟨b70, 0, none⟩) 0 0 []) PH hO hn8 hw9 hnb75 rfl hh76 hd74 (fr : Fr (bl []) w0 _ w68) fun s hO hB => ?_
 replace wC := wC.ch s.ch
 refine GoQA.loudI rfl rfl fun w78 A79 PJ => ?_
 refine sgw PJ hO fun s hO => ?_
 replace H := H.2.2
 obtain ⟨h81, H⟩ := H
 have zz := oapp underlying23 ti31 rfl 0 hO rfl wC.u rW.u rfl h81 (by decide)
 obtain ⟨w82, p83, c84, PK, fL, gG, IT⟩ := zz
 dsimp only [sS, sZ] at gG
 refine GoAt.step (IT (by exact rfl) (by exact rfl)) (fun _ => (CSv.cons (cs_eq (J00 5 hO rfl rfl) (J00 5 fL.own rfl rfl)) (CSv.cons (cs_eq (J00 5 hO rfl rfl) (J00 5 fL.own rfl rfl)) (CSv.cons (cs_eq (J00 5 hO rfl rfl) (J00 5 fL.own rfl rfl)) (CSv.cons (cs_eq (J00 5 hO rfl rfl) (J00 5 fL.own rfl rfl)) (CSv.cons (cs_eq (J00 5 hO rfl rfl) (J00 5 fL.own rfl rfl)) (CSv.cons (cs_eq (J00 5 hO rfl rfl) (J00 5 fL.own rfl rfl)) (CSv.cons (cs_eq (J00 5 hO rfl rfl) (J00 5 fL.own rfl rfl)) (CSv.cons (cs_eq (J00 5 hO rfl rfl) (J00 5 fL.own rfl rfl)) (CSv.cons (cs_eq (J00 5 hO rfl rfl) (J00 5 fL.own rfl rfl)) (CSv.nil _ _))))))))))) (Stp.kp hO fL) rfl ?_
 refine nst fL fun s hO => ?_
 refine GoQA.alloc rfl rfl (alBuild (n := 0) (parts := []) (vs := []) underlying121 ti185 (by decide) (by decide) (by decide) (by kernel_rfl) rfl rfl) ?_
 intro w91 A92 b93 A94 v9 PM hd97 hnb98 hh99
 refine sgw v9 hO fun s hO => ?_
 have gP := elE (rpRule) [] (([] : List Rule)) hO (Els.nil _ _ _)
 refine sgn (e := .row 185 2 (some ⟨b93, 0, none⟩) 0 0 []) PM hO hn8 hw9 hnb98 rfl hh99 hd97 (fr : Fr (bl []) w0 _ w91) fun s hO hB => ?_
 replace gP := gP.ch s.ch
 refine cl1 (id Fl.fl : Fl rpRule) 0 hO gP.u fun s hO => ?_
 refine GoQA.loudI rfl rfl fun tG A102 IU => ?_
 refine sgw IU hO fun s hO => ?_
 refine sapQ 0 hO rX.u H (fun o7 Cb Cc s hO => ?_) (g := fun _ _ _ _ hv hst h => GoAt.step hv (fun _ => (CSv.cons (cs_eq (J00 6 hO rfl rfl) (J00 6 hst.own rfl rfl)) (CSv.cons (cs_eq (J00 6 hO rfl rfl) (J00 6 hst.own rfl rfl)) (CSv.cons (cs_eq (J00 6 hO rfl rfl) (J00 6 hst.own rfl rfl)) (CSv.cons (cs_eq (J00 6 hO rfl rfl) (J00 6 hst.own rfl rfl)) (CSv.cons (cs_eq (J00 6 hO rfl rfl) (J00 6 hst.own rfl rfl)) (CSv.cons (cs_eq (J00 6 hO rfl rfl) (J00 6 hst.own rfl rfl)) (CSv.cons (cs_eq (J00 6 hO rfl rfl) (J00 6 hst.own rfl rfl)) (CSv.cons (cs_eq (J00 6 hO rfl rfl) (J00 6 hst.own rfl rfl)) (CSv.cons (cs_eq (J00 6 hO rfl rfl) (J00 6 hst.own rfl rfl)) (CSv.nil _ _))))))))))) (Stp.kp hO hst) rfl h)
 refine GoQA.pure rfl (J0a underlying123 ti123 (pl := [(0, 1), (1, 1), (2, 1), (3, 1), (4, 1), (5, 1), (6, 1), (7, 1), (8, 1)]) (vs := [(0, .int .i64 a0.Points), (1, .bool a0.Monoid), (2, .slice fB a0.Gens.length fC), (3, .slice p26 (0 + a0.Elems.length) c27), (4, .slice p48 (0 + a0.Prefix.length) c49), (5, .slice p65 (0 + a0.Last.length) c66), (6, .slice p83 (0 + a0.Right.length) c84), (7, .slice Cb (0 + a0.Rules.length) Cc), (8, .int .i64 a0.Done)]) (cs := #[.int .i64 a0.Points, .bool a0.Monoid, .slice fB a0.Gens.length fC, .slice p26 (0 + a0.Elems.length) c27, .slice p48 (0 + a0.Prefix.length) c49, .slice p65 (0 + a0.Last.length) c66, .slice p83 (0 + a0.Right.length) c84, .slice Cb (0 + a0.Rules.length) Cc, .int .i64 a0.Done]) (by kernel_rfl) rfl (by kernel_rfl)) rfl rfl ?_
 refine GoQA.alloc rfl rfl (alAlloc (cs := #[.int .i64 (0 : Int), .bool false, .slice none 0 0, .slice none 0 0, .slice none 0 0, .slice none 0 0, .slice none 0 0, .slice none 0 0, .int .i64 (0 : Int)]) ti123 rfl) ?_
 intro PO A109 jG A111 q9 rh hd114 hnb115 hh116
 refine sgw q9 hO fun s hO => ?_
 refine sgn (e := .blk jG (.cells #[.int .i64 (0 : Int), .bool false, .slice none 0 0, .slice none 0 0, .slice none 0 0, .slice none 0 0, .slice none 0 0, .slice none 0 0, .int .i64 (0 : Int)] 123 (0, 0))) rh hO hn8 hw9 hnb115 rfl hh116 hd114 (fr : Fr (bl []) w0 _ PO) fun s hO hB => ?_
 refine GoQA.lastI rfl rfl fun mC A118 qV => ?_
 refine sgw qV hO fun s hO => ?_
 refine sba 0 hO fun mJ s hO => ?_
 refine GoQA.nil fun pc A122 qW qX => ?_
 refine sgw qW hO fun s hO => ?_
 refine spm qX hO fun s hO => ?_
 refine au ?_
 have hB := (fr : Fr (bl []) w0 _ pc)
 replace fy := fy.o hO
 replace gG := gG.o hO
 revert hO; repeat (rename Owns .. => q; clear q)
 intro hO; repeat (rename Sq .. => q; clear q)
 refine au ?_
 have zz := omakeMap (fun a : List UInt8 => Value.string (gstr a)) (fun a : Int => Value.int .i64 a) hO
 obtain ⟨uf, B126, Cd, TJ, Ce⟩ := zz
 refine zg Ce ?_
 refine nst Cd fun s hO => ?_
 refine au ?_
 refine zo (J0F underlying23 rfl (Els.neqW fy.u hO 6 rfl)) ?_
 refine au ?_
 refine snil Fl.str 9 hO fun s hO => ?_
 refine sdr [9] hO fun s hO => ?_
 refine lv [1, 4, 6, 7, 50] hO H.2 (fun E (kl, rY, sX) σ w => ∃ wD qz qA, (fun Z => Lo A w0 σ w [(8, .slice qz wD qA), (51, .int .i64 (kl : Int))] Z ∧ Els (Rp.sl (Rp.int .i64)) (bl Z ++ A) w PK ((([] : List (List Int))) ++ a0.Right) ∧ Els (Rp.sl (Rp.int .i64)) (bl Z ++ A) w PA ((([] : List (List Int))) ++ a0.Elems)) (esets E [(0, t1 Fl.str 9 qz wD qA rY), (1, .any (mapE (fun a : List UInt8 => Value.string (gstr a)) (fun a : Int => Value.int .i64 a) B126 sX))])) ⟨_, _, _, ⟨agr, hO, fr⟩, gG.u, fy.u⟩ ?_
 refine fun X1 => p2 fun kl rY sX => fun H hX1 σ ac1 hk => e3 fun wD qz qA => d1 fun hL => d1 fun gG fy => d2 (fun hag hO hB => keep2 hk hag ?_) hL
 dsimp only [esets, sS, sZ] at hO hB gG fy
 dsimp only at H
 revert hO; repeat (rename Owns .. => q; clear q)
 intro hO; repeat (rename Sq .. => q; clear q)
 refine scm H (fun Cf H => ?_) fun Cf H => ?_
 ·refine sag 2 hO ?_
  refine au ?_
  have zz := rowlend 7 hO rfl fy
  obtain ⟨IV, IW⟩ := zz
  have hOc142 := hO.drop 7
  have sb := t1lend 6 hOc142
  have jO := t1n 6 hOc142
  have hOc145 := hOc142.drop 6
  have IX := t1lend 5 hOc145
  have xr := t1n 5 hOc145
  have hOc148 := hOc145.drop 5
  have zz := rowlend 4 hOc148 rfl (((gG.ch (Owns.J03 _ _ 7)).ch (Owns.J03 _ _ 6)).ch (Owns.J03 _ _ 5))
  obtain ⟨IY, I0⟩ := zz
  have hOc151 := hOc148.drop 4
  have I1 := t1lend 3 hOc151
  have pg := t1n 3 hOc151
  have hOc154 := hOc151.drop 3
  refine zcr (J01 body106 (by rw [IW, jO, xr, I0, pg]; exact rfl) (J0T (e := (⟨a0.Points, a0.Monoid, a0.Gens, (([] : List (List Int))) ++ a0.Elems, (([] : List Int)) ++ a0.Prefix, (([] : List Int)) ++ a0.Last, (([] : List (List Int))) ++ a0.Right, (([] : List Rule)) ++ a0.Rules, a0.Done⟩ : Enum)) hOc154.lt (((((dT.u.ch (Owns.J03 _ _ 7)).ch (Owns.J03 _ _ 6)).ch (Owns.J03 _ _ 5)).ch (Owns.J03 _ _ 4)).ch (Owns.J03 _ _ 3)) ((((IV.ch (Owns.J03 _ _ 6)).ch (Owns.J03 _ _ 5)).ch (Owns.J03 _ _ 4)).ch (Owns.J03 _ _ 3)) (((sb.ch (Owns.J03 _ _ 5)).ch (Owns.J03 _ _ 4)).ch (Owns.J03 _ _ 3)) ((IX.ch (Owns.J03 _ _ 4)).ch (Owns.J03 _ _ 3)) (IY.ch (Owns.J03 _ _ 3)) I1 H)) fun _ K2 => e1 fun Cg => sc0 hO fun s hO => d1 fun yA H => ?_
  refine sap1 Cg 0 hO H (fun _ Ae ac2 ac3 s hO => ?_) (hR := by exact fun _ _ => ⟨rfl, yA⟩)
  refine sxl1 0 hO H.2.1 H.2.2.1 ?_
  have hle160 := t1le 0 hO H.2.1 H.2.2.1
  refine au ?_
  have zz := omapUpd (MK.str underlying9) 1 hO rfl underlying154 (ix (rY ++ ([Cg])) (kl : Int)) (kl : Int)
  obtain ⟨Nd, Ci, Cj⟩ := zz
  refine zg (Cj (by exact rfl) (by exact rfl) (by exact rfl)) ?_
  refine nst Ci fun s hO => ?_
  refine sinc (natbd Cf fy.bd) ?_
  refine au ?_
  exact hX1 _ H.2.2.2 _ _ agr ⟨_, _, _, ⟨agr, hO, fr⟩, gG.u, fy.u⟩
 refine au ?_
 refine lv [4, 6, 7] hO H (fun E (sY, dm, fW, ta, d_172, d_176, mb, mc, mf) σ w => ∃ wE wF wG wH jr kF sd kW kX mg wI jx jy wJ nr ns wK nt nu se, (fun Z => Lo A w0 σ w [(1, .int .i64 sY), (8, .slice wF wE wG)] Z ∧ Els (Rp.sl (Rp.int .i64)) (bl Z ++ A) w mg d_176 ∧ Els (Rp.sl (Rp.int .i64)) (bl Z ++ A) w se mf) (esets E [(0, t1 Fl.str 9 wF wE wG fW), (1, .any (mapE (fun a : List UInt8 => Value.string (gstr a)) (fun a : Int => Value.int .i64 a) B126 ta)), (2, .blk jG (.cells #[.int .i64 a0.Points, .bool a0.Monoid, .slice fB a0.Gens.length fC, .slice nt wK nu, .slice nr wJ ns, .slice jx wI jy, .slice kW sd kX, .slice jr wH kF, .int .i64 dm] 123 (0, 0))), (3, t1 (id Fl.fl : Fl rpRule) 185 jr wH kF d_172), (4, .row 31 1 kW sd kX mg), (5, t1 Fl.i 3 jx wI jy mb), (6, t1 Fl.i 3 nr wJ ns mc), (7, .row 31 1 nt wK nu se)])) ⟨_, _, _, _, _, _, _, _, _, _, _, _, _, _, _, _, _, _, _, _, ⟨agr, hO, fr⟩, gG.u, fy.u⟩ ?_
 refine fun X2 => p1 fun sY => p1 fun dm => p1 fun fW => p1 fun ta => p1 fun d_172 => p3 fun d_176 mb mc mf => fun H hX2 σ ph hk => e4 fun wE wF wG wH => e4 fun jr kF sd kW => e4 fun kX mg wI jx => e4 fun jy wJ nr ns => e4 fun wK nt nu se => d1 fun hL => d1 fun fq km => d2 (fun hag hO hB => keep2 hk hag ?_) hL
 dsimp only [esets, sS, sZ] at hO hB fq km
 dsimp only at H
 revert hO; repeat (rename Owns .. => q; clear q)
 intro hO; repeat (rename Sq .. => q; clear q)
 refine scm H (fun yU H => ?_) fun yU H => ?_
 ·refine au ?_
  refine zo (J0F underlying23 rfl (Els.neqW km hO 7 rfl)) ?_
  refine scm H (fun yV H => ?_) fun yV H => ?_
  ·refine sxl1 0 hO H.1 H.2.1 ?_
   have hle198 := t1le 0 hO H.1 H.2.1
   refine sln0 ?_
   refine au ?_
   refine snil Fl.i 3 hO fun s hO => ?_
   refine lv [1, 4, 6, 7, 11, 86] hO (H.2.2 dT.bd) (fun E (gN, d_202, kn, nw, x8, x9, ya, mh) σ w => ∃ ny jH jI wL wM wN wO wP wQ wR wS wT wU po pp wV wW wX sf, (fun Z => Lo A w0 σ w [(8, .slice wM wL wN), (10, .slice jH ny jI), (87, .int .i64 (gN : Int))] Z ∧ Els (Rp.sl (Rp.int .i64)) (bl Z ++ A) w mg d_176 ∧ Els (Rp.sl (Rp.int .i64)) (bl Z ++ A) w sf mh) (esets E [(0, t1 Fl.i 3 jH ny jI d_202), (1, t1 Fl.str 9 wM wL wN kn), (2, .any (mapE (fun a : List UInt8 => Value.string (gstr a)) (fun a : Int => Value.int .i64 a) B126 nw)), (3, .blk jG (.cells #[.int .i64 a0.Points, .bool a0.Monoid, .slice fB a0.Gens.length fC, .slice wW wV wX, .slice po wU pp, .slice wS wR wT, .slice kW sd kX, .slice wP wO wQ, .int .i64 dm] 123 (0, 0))), (4, t1 (id Fl.fl : Fl rpRule) 185 wP wO wQ x8), (6, t1 Fl.i 3 wS wR wT x9), (7, t1 Fl.i 3 po wU pp ya), (8, .row 31 1 wW wV wX sf)])) ⟨_, _, _, _, _, _, _, _, _, _, _, _, _, _, _, _, _, _, _, ⟨agr, hO, fr⟩, fq.u, km.u⟩ ?_
   refine fun X3 => p1 fun gN => p1 fun d_202 => p1 fun kn => p1 fun nw => p3 fun x8 x9 ya mh => fun H hX3 σ PP hk => e4 fun ny jH jI wL => e4 fun wM wN wO wP => e4 fun wQ wR wS wT => e4 fun wU po pp wV => e3 fun wW wX sf => d1 fun hL => d1 fun fq d9 => d2 (fun hag hO hB => keep2 hk hag ?_) hL
   dsimp only [esets, sS, sZ] at hO hB fq d9
   dsimp only at H
   revert hO; repeat (rename Owns .. => q; clear q)
   intro hO; repeat (rename Sq .. => q; clear q)
   refine scm H (fun io H => ?_) fun io H => ?_
   ·refine au ?_
    refine drs 0 [q0, q1, q0, q1, q0, q1, q0, q1, q0, q0, q1, q2, q0] hO fun uL s hO => ?_
    refine au ?_
    obtain ⟨wY, H⟩ := H
    obtain ⟨xa, H⟩ := H
    refine GoQ.pure rfl (J0b underlying23 ti31 rfl rfl wY (ltn (Els.neqW d9.u hO 8 rfl) xa) (Els.psomeW d9.u hO 8 rfl wY xa)) rfl rfl ?_
    have zz := oldSl 8 hO rfl d9.u wY xa
    obtain ⟨ac4, ac5, I2, I3⟩ := zz
    refine GoQ.stable rfl (I3 underlying31 rfl rfl) rfl rfl ?_
    refine sxls hO dT.u H.1 H.2.1 fun ac6 ac7 I4 => ?_
    have ac8 := H.1
    have ac9 := H.2.1
    refine zcq rfl (J01 body114 rfl (J4I hO.lt I2 I4.u H.2.2)) fun _ ada => e3 fun nA iV iW => sq0 hO fun s hO => d1 fun tc H => ?_
    refine au ?_
    have zz := rowlend 8 hO rfl d9.u
    obtain ⟨I5, I6⟩ := zz
    have hOc246 := hO.drop 8
    refine zcr (J01 body107 (by rw [I6]; exact rfl) (J1o hOc246.lt I5 (tc.ch (Owns.J03 _ _ 8)) H)) fun _ adb => e1 fun jJ => sc0 hO fun s hO => fun H => ?_
    refine au ?_
    refine zcr (J01 body137 rfl (J0Y hO.lt H)) fun _ AV => e1 fun iX => sc0 hO fun s hO => d1 fun Rb H => ?_
    obtain ⟨xb, H⟩ := H
    refine zo (J0d rfl rfl xb) ?_
    refine scm H (fun PQ H => ?_) fun PQ H => ?_
    ·refine au ?_
     refine zo (J0F underlying23 rfl (Els.neqW d9.u hO 8 rfl)) ?_
     refine scm H (fun PR H => ?_) fun PR H => ?_
     ·refine au ?_
      refine zo (J0a underlying123 ti123 (pl := [(0, 1), (1, 1), (2, 1), (3, 1), (4, 1), (5, 1), (6, 1), (7, 1), (8, 1)]) (vs := []) (cs := #[.int .i64 (0 : Int), .bool false, .slice none 0 0, .slice none 0 0, .slice none 0 0, .slice none 0 0, .slice none 0 0, .slice none 0 0, .int .i64 (0 : Int)]) (by kernel_rfl) rfl (by kernel_rfl)) ?_
      refine sba 9 hO fun adc s hO => ?_
      refine au ?_
      refine Go1.retC2 func136 rfl rfl (rlb 9 hO) ⟨((⟨(0 : Int), false, ([] : List (List Int)), ([] : List (List Int)), ([] : List Int), ([] : List Int), ([] : List (List Int)), ([] : List Rule), (0 : Int)⟩ : Enum)), _, _, _, _, _, _, _, _, _, _, _, _, _, er, frs, (ISl.null _ _ _), (ISl.null _ _ _), (ISl.null _ _ _), (ISl.null _ _ _), (ISl.null _ _ _), (ISl.null _ _ _), H⟩
     refine au ?_
     refine zo (J0F underlying23 rfl (Els.neqW d9.u hO 8 rfl)) ?_
     refine au ?_
     refine drA (CSv.tr [(some ⟨jG, 3, none⟩), (some ⟨jG, 4, none⟩), (some ⟨jG, 8, none⟩), (some ⟨jG, 5, none⟩)]) 1 [(0, m0), (1, m1), (2, m0), (5, m0), (6, m1), (7, m0), (8, m1), (11, m0), (12, m1), (13, m0), (3, m4), (4, m2), (16, m0), (9, m4), (10, m2), (14, m4), (15, m2), (17, m3), (18, m0), (19, m3), (20, m0), (21, m3)] hO fun vk s hO => ?_
     have sj := hO.le
     have hw257 := (fr : Fr (bl []) w0 _ vk).ch.size
     refine au ?_
     refine GoQA.stable rfl (loadV (.head _) rfl (J00 3 hO rfl rfl) underlying23 rfl rfl) rfl rfl ?_
     refine au ?_
     refine au ?_
     refine GoQA.stable rfl (loadV (.tail _ (.head _)) rfl (J00 3 hO rfl rfl) underlying31 rfl rfl) rfl rfl ?_
     refine au ?_
     refine GoQA.stable rfl (loadV (.tail _ (.tail _ (.head _))) rfl (J00 3 hO rfl rfl) underlying3 rfl rfl) rfl rfl ?_
     refine au ?_
     refine GoQA.stable rfl (loadV (.tail _ (.tail _ (.tail _ (.head _)))) rfl (J00 3 hO rfl rfl) underlying31 rfl rfl) rfl rfl ?_
     refine au ?_
     refine GoQA.alloc rfl rfl (alBuild (n := 1) (parts := [(0, .slice iV nA.length iW)]) (vs := [.slice iV nA.length iW]) underlying23 ti31 (by decide) (by decide) (by decide) (by kernel_rfl) rfl rfl) ?_
     intro PS A260 PT A262 I7 I8 hd265 hnb266 hh267
     refine sgw I7 hO fun s hO => ?_
     have fo := elE (Rp.sl (Rp.int .i64)) [.slice iV nA.length iW] [nA] hO (Els.cons rfl ⟨iV, iW, rfl, tc.u⟩ (Els.nil _ _ _) (by simp [mx]))
     refine sgn (e := .row 31 1 (some ⟨PT, 0, none⟩) 1 1 [.slice iV nA.length iW]) I8 hO sj hw257 hnb266 rfl hh267 hd265 (fr : Fr (bl []) w0 _ PS) fun s hO hB => ?_
     replace fo := fo.ch s.ch
     refine GoQA.loudI rfl rfl fun BB A270 I9 => ?_
     refine sgw I9 hO fun s hO => ?_
     refine sfzR 0 hO fo.u fun s hO qF lR => ?_
     obtain ⟨kG, H⟩ := H
     have zz := oapp underlying23 ti31 rfl 8 hO rfl d9.u qF lR kG (by decide)
     obtain ⟨ade, LO, LP, F9, ia, yb, Ck⟩ := zz
     dsimp only [sS, sZ] at yb
     refine GoAt.step (Ck (by exact rfl) (by exact rfl)) (fun _ => (CSv.cons (cs_eq (J00 3 hO rfl rfl) (J00 3 ia.own rfl rfl)) (CSv.cons (cs_eq (J00 3 hO rfl rfl) (J00 3 ia.own rfl rfl)) (CSv.cons (cs_eq (J00 3 hO rfl rfl) (J00 3 ia.own rfl rfl)) (CSv.cons (cs_eq (J00 3 hO rfl rfl) (J00 3 ia.own rfl rfl)) (CSv.nil _ _)))))) (Stp.kp hO ia) rfl ?_
     refine nst ia fun s hO => ?_
     refine au ?_
     refine GoQA.alloc rfl rfl (alBuild (n := 1) (parts := [(0, .int .i64 dm)]) (vs := [.int .i64 dm]) underlying31 ti3 (by decide) (by decide) (by decide) (by kernel_rfl) rfl rfl) ?_
     intro PU A285 PV A287 Ja Jb hd290 hnb291 hh292
     refine sgw Ja hO fun s hO => ?_
     have sk := elE (Rp.int .i64) [.int .i64 dm] [dm] hO (Els.cons rfl rfl (Els.nil _ _ _) (by simp [mx]))
     refine sgn (e := .row 3 1 (some ⟨PV, 0, none⟩) 1 1 [.int .i64 dm]) Jb hO sj hw257 hnb291 rfl hh292 hd290 (fr : Fr (bl []) w0 _ PU) fun s hO hB => ?_
     replace sk := sk.ch s.ch
     refine cl1 Fl.i 0 hO sk.u fun s hO => ?_
     refine GoQA.loudI rfl rfl fun adf A295 Jc => ?_
     refine sgw Jc hO fun s hO => ?_
     refine sfz 0 hO fun s hO Jd TK => ?_
     refine sapQ 7 hO Jd H (fun zQ adg adh s hO => ?_) (g := fun _ _ _ _ hv hst h => GoAt.step hv (fun _ => (CSv.cons (cs_eq (J00 3 hO rfl rfl) (J00 3 hst.own rfl rfl)) (CSv.cons (cs_eq (J00 3 hO rfl rfl) (J00 3 hst.own rfl rfl)) (CSv.cons (cs_eq (J00 3 hO rfl rfl) (J00 3 hst.own rfl rfl)) (CSv.cons (cs_eq (J00 3 hO rfl rfl) (J00 3 hst.own rfl rfl)) (CSv.nil _ _)))))) (Stp.kp hO hst) rfl h)
     refine GoQA.alloc rfl rfl (alBuild (n := 1) (parts := [(0, .int .i64 (gN : Int))]) (vs := [.int .i64 (gN : Int)]) underlying31 ti3 (by decide) (by decide) (by decide) (by kernel_rfl) rfl rfl) ?_
     intro Cl A304 PW A306 Je Jf hd309 hnb310 hh311
     refine sgw Je hO fun s hO => ?_
     have sn := elE (Rp.int .i64) [.int .i64 (gN : Int)] [(gN : Int)] hO (Els.cons rfl rfl (Els.nil _ _ _) (by simp [mx]))
     refine sgn (e := .row 3 1 (some ⟨PW, 0, none⟩) 1 1 [.int .i64 (gN : Int)]) Jf hO sj hw257 hnb310 rfl hh311 hd309 (fr : Fr (bl []) w0 _ Cl) fun s hO hB => ?_
     replace sn := sn.ch s.ch
     refine cl1 Fl.i 0 hO sn.u fun s hO => ?_
     refine GoQA.loudI rfl rfl fun pD A314 Jg => ?_
     refine sgw Jg hO fun s hO => ?_
     refine sfz 0 hO fun s hO qG Gd => ?_
     refine sapQ 6 hO qG H.2 (fun N1 N2 N3 s hO => ?_) (g := fun _ _ _ _ hv hst h => GoAt.step hv (fun _ => (CSv.cons (cs_eq (J00 3 hO rfl rfl) (J00 3 hst.own rfl rfl)) (CSv.cons (cs_eq (J00 3 hO rfl rfl) (J00 3 hst.own rfl rfl)) (CSv.cons (cs_eq (J00 3 hO rfl rfl) (J00 3 hst.own rfl rfl)) (CSv.cons (cs_eq (J00 3 hO rfl rfl) (J00 3 hst.own rfl rfl)) (CSv.nil _ _)))))) (Stp.kp hO hst) rfl h)
     refine GoQA.lastI rfl rfl fun PX A322 Jh => ?_
     refine sgw Jh hO fun s hO => ?_
     refine sbs 3 hO fun adi s hO => ?_
     refine au ?_
     refine GoQA.lastI rfl rfl fun adk A326 Ji => ?_
     refine sgw Ji hO fun s hO => ?_
     refine sbs 3 hO fun N4 s hO => ?_
     refine au ?_
     refine GoQA.lastI rfl rfl fun adl A330 Jj => ?_
     refine sgw Jj hO fun s hO => ?_
     refine sbs 3 hO fun zX s hO => ?_
     refine GoQA.nil fun A9 A334 Jk Jl => ?_
     refine sgw Jk hO fun s hO => ?_
     refine spm Jl hO fun s hO => ?_
     refine au ?_
     refine au ?_
     refine sap1 (((ix fW dm) ++ iX)) 1 hO H.2.2 (fun _ Bc adm adn s hO => ?_) (hR := by exact fun _ _ => ⟨rfl, (lenApp xb)⟩)
     refine au ?_
     have zz := omapUpd (MK.str underlying9) 2 hO rfl underlying154 ((ix fW dm) ++ iX) (mh.length : Int)
     obtain ⟨z3, Cm, Cn⟩ := zz
     refine zg (Cn (by exact rfl) (by exact rfl) (by exact rfl)) ?_
     refine nst Cm fun s hO => ?_
     refine au ?_
     refine sap1 ((mh.length : Int)) 0 hO H.2.2.2 fun _ z5 N5 ado s hO => ?_
     refine sinc (natbd io dT.bd) ?_
     refine au ?_
     exact hX3 _ H.2.2.2.2 _ _ agr ⟨_, _, _, _, _, _, _, _, _, _, _, _, _, _, _, _, _, _, _, ⟨agr, hO, fr⟩, fq.u, yb.u⟩
    refine scm H (fun mY H => ?_) fun mY H => ?_
    ·refine au ?_
     refine sap1 jJ 0 hO H fun _ Mi adp adq s hO => ?_
     refine sinc (natbd io dT.bd) ?_
     refine au ?_
     exact hX3 _ H.2 _ _ agr ⟨_, _, _, _, _, _, _, _, _, _, _, _, _, _, _, _, _, _, _, ⟨agr, hO, fr⟩, fq.u, d9.u⟩
    refine six1 1 hO H.1 H.2.1 ?_
    refine sld1 1 hO H.1 H.2.1 ?_
    have hle350 := t1le 1 hO H.1 H.2.1
    refine au ?_
    have BD := H.1
    have kN := H.2.1
    refine scm H.2.2 (fun jz H => ?_) fun jz H => ?_
    ·refine au ?_
     refine sap1 jJ 0 hO H fun _ adr ads adt s hO => ?_
     refine sinc (natbd io dT.bd) ?_
     refine au ?_
     exact hX3 _ H.2 _ _ agr ⟨_, _, _, _, _, _, _, _, _, _, _, _, _, _, _, _, _, _, _, ⟨agr, hO, fr⟩, fq.u, d9.u⟩
    refine au ?_
    obtain ⟨PY, H⟩ := H
    obtain ⟨P4, H⟩ := H
    refine zo (J92 underlying9 rfl rfl PY P4) ?_
    by_cases gO : mhas nw ((((ix fW dm) ++ iX).drop (1 : Int).toNat)) = true
    ·refine zs (olookT (a := (((ix fW dm) ++ iX).drop (1 : Int).toNat)) (MK.str underlying9) 2 hO rfl underlying154 rfl rfl gO) ?_
     refine au ?_
     refine drs 3 [q0, q1, q0, q0, q0, q0, q1, q0, q2, q3, q0, q3] hO fun Ca s hO => ?_
     refine sxl1 1 hO (ifp gO H).1 (ifp gO H).2.1 ?_
     have hle361 := t1le 1 hO (ifp gO H).1 (ifp gO H).2.1
     refine GoQ.pure rfl (J0a underlying185 ti185 (pl := [(0, 1), (1, 1)]) (vs := [(0, .string (gstr ((ix fW dm) ++ iX))), (1, .string (gstr (ix kn jJ)))]) (cs := #[.string (gstr ((ix fW dm) ++ iX)), .string (gstr (ix kn jJ))]) (by kernel_rfl) rfl (by kernel_rfl)) rfl rfl ?_
     refine sapF (⟨(ix fW dm) ++ iX, ix kn jJ⟩ : Rule) 4 hO (ifp gO H).2.2 (fun _ adu adv adw s hO => ?_) (hok := by exact ⟨(lenApp xb), hle361⟩)
     refine sbs 3 hO fun adx s hO => ?_
     refine au ?_
     refine sap1 jJ 0 hO (ifp gO H).2.2.2 fun _ ady adz adA s hO => ?_
     refine sinc (natbd io dT.bd) ?_
     refine au ?_
     exact hX3 _ (ifp gO H).2.2.2.2 _ _ agr ⟨_, _, _, _, _, _, _, _, _, _, _, _, _, _, _, _, _, _, _, ⟨agr, hO, fr⟩, fq.u, d9.u⟩
    refine zs (olookF (a := (((ix fW dm) ++ iX).drop (1 : Int).toNat)) (MK.str underlying9) 2 hO rfl underlying154 ti3 rfl rfl gO) ?_
    refine au ?_
    refine sap1 jJ 0 hO (ifn gO H) fun _ N6 N7 N8 s hO => ?_
    refine sinc (natbd io dT.bd) ?_
    refine au ?_
    exact hX3 _ (ifn gO H).2 _ _ agr ⟨_, _, _, _, _, _, _, _, _, _, _, _, _, _, _, _, _, _, _, ⟨agr, hO, fr⟩, fq.u, d9.u⟩
   refine au ?_
   refine sfz 0 hO fun s hO Jm Jo => ?_
   have zz := J1u (r := Rp.sl (Rp.int .i64)) (n := 1) (parts := [(0, .slice jH ny jI)]) (vs := [.slice jH ny jI]) (xs := [d_202]) rfl underlying23 ti31 hO (by decide) (by kernel_rfl) (Els.cons rfl ⟨jH, jI, congrArg some (congrArg (fun nn => Value.slice jH nn jI) Jo), Jm⟩ (Els.nil _ _ _) (by simp [mx])) rfl
   obtain ⟨adB, adC, Co, Jp, TL, Cp⟩ := zz
   refine zg (Cp rfl) ?_
   refine nst Co fun s hO => ?_
   refine sfzR 0 hO Jp.u fun s hO Jq Jr => ?_
   obtain ⟨P5, H⟩ := H
   have zz := oapp underlying23 ti31 rfl 4 hO rfl fq.u Jq Jr P5 (by decide)
   obtain ⟨adD, adE, adF, TM, Cq, yc, Cr⟩ := zz
   dsimp only [sS, sZ] at yc
   refine zg (Cr (by exact rfl) (by exact rfl)) ?_
   refine nst Cq fun s hO => ?_
   refine sbs 2 hO fun adG s hO => ?_
   refine au ?_
   obtain ⟨vF, H⟩ := H
   refine zo (J06 rfl rfl (wrap_i64 vF)) ?_
   refine sbs 2 hO fun Pz s hO => ?_
   refine au ?_
   obtain ⟨P6, H⟩ := H
   refine zo (J9c rfl rfl (wrap_i64 P6)) ?_
   refine au ?_
   exact hX2 _ H _ _ agr ⟨_, _, _, _, _, _, _, _, _, _, _, _, _, _, _, _, _, _, _, _, ⟨agr, hO, fr⟩, yc.u, d9.u⟩
  refine sag 2 hO ?_
  refine sba 8 hO fun Oc s hO => ?_
  refine au ?_
  refine sfzR 7 hO km.u fun s hO rP rQ => ?_
  refine sfz 6 hO fun s hO jX lU => ?_
  refine sfz 5 hO fun s hO rR rS => ?_
  refine sfzR 4 hO fq.u fun s hO rT rU => ?_
  refine sfz 3 hO fun s hO Js Jt => ?_
  refine Go1.retC2 func136 rfl rfl (rlb 3 hO) ⟨((⟨a0.Points, a0.Monoid, a0.Gens, mf, mc, mb, d_176, d_172, dm⟩ : Enum)), _, _, _, _, _, _, _, _, _, _, _, _, _, ?_, frs, dT.r, rP.r, jX.r, rR.r, rT.r, Js.r, H⟩
  exact (congrArg (fun l => Value.tuple (List.toArray l)) (J02 (congrArg (fun l => Value.agg (List.toArray l)) (J02 rfl (J02 rfl (J02 rfl (J02 (congrArg (fun nn => Value.slice nt nn nu) rQ) (J02 (congrArg (fun nn => Value.slice nr nn ns) lU) (J02 (congrArg (fun nn => Value.slice jx nn jy) rS) (J02 (congrArg (fun nn => Value.slice kW nn kX) rU) (J02 (congrArg (fun nn => Value.slice jr nn kF) Jt) (J02 rfl rfl)))))))))) (J02 rfl rfl)))
 refine sag 2 hO ?_
 refine sba 8 hO fun adH s hO => ?_
 refine au ?_
 refine sfzR 7 hO km.u fun s hO Ju Jv => ?_
 refine sfz 6 hO fun s hO Jw Jx => ?_
 refine sfz 5 hO fun s hO ip Jy => ?_
 refine sfzR 4 hO fq.u fun s hO Jz JA => ?_
 refine sfz 3 hO fun s hO JB JC => ?_
 refine Go1.retC2 func136 rfl rfl (rlb 3 hO) ⟨((⟨a0.Points, a0.Monoid, a0.Gens, mf, mc, mb, d_176, d_172, dm⟩ : Enum)), _, _, _, _, _, _, _, _, _, _, _, _, _, ?_, frs, dT.r, Ju.r, Jw.r, ip.r, Jz.r, JB.r, H⟩
 exact (congrArg (fun l => Value.tuple (List.toArray l)) (J02 (congrArg (fun l => Value.agg (List.toArray l)) (J02 rfl (J02 rfl (J02 rfl (J02 (congrArg (fun nn => Value.slice nt nn nu) Jv) (J02 (congrArg (fun nn => Value.slice nr nn ns) Jx) (J02 (congrArg (fun nn => Value.slice jx nn jy) Jy) (J02 (congrArg (fun nn => Value.slice kW nn kX) JA) (J02 (congrArg (fun nn => Value.slice jr nn kF) JC) (J02 rfl rfl)))))))))) (J02 rfl rfl)))
theorem body104 : Body prog 104 := ⟨f104, func104, rfl, by kernel_rfl⟩
theorem J5t {eO : Option Addr} {eP : Nat} {gens : List (List Int)} {monoid : Bool} (hA : HA0 A w0) (eQ : ISs A w0 eO eP gens) {K : Enum → Int → Prop} (H : J2m gens monoid K) :
    CallsV prog 104 #[.slice eO gens.length eP, .bool monoid] w0 (fun v w' => ∃ (r0 : Enum), ∃ (r1 : Int), ∃ (dr : Option Addr), ∃ (dt : Nat), ∃ (cP : Option Addr), ∃ (cQ : Nat), ∃ (cB : Option Addr), ∃ (cC : Nat), ∃ (du : Option Addr), ∃ (dw : Nat), ∃ (cR : Option Addr), ∃ (cS : Nat), ∃ (cU : Option Addr), ∃ (cV : Nat), v = .tuple #[.agg #[.int .i64 r0.Points, .bool r0.Monoid, .slice dr r0.Gens.length dt, .slice cP r0.Elems.length cQ, .slice cB r0.Prefix.length cC, .slice du r0.Last.length dw, .slice cR r0.Right.length cS, .slice cU r0.Rules.length cV, .int .i64 r0.Done], .int .i64 r1] ∧ Same w0 w' ∧ ISs A w' dr dt r0.Gens ∧ ISs A w' cP cQ r0.Elems ∧ ISi A w' cB cC r0.Prefix ∧ ISi A w' du dw r0.Last ∧ ISs A w' cR cS r0.Right ∧ ISl (rpRule) A w' cU cV r0.Rules ∧ K r0 r1) := by
 refine cal hA func104 ntmps104 fun hO hB => ?_
 unfold J2m at H
 refine sal hO fun w1 B2 s hO => ?_
 refine au ?_
 refine zcr (J01 body135 rfl (J5y hO.lt eQ.u H)) fun _ w6 => e4 fun r4 r5 gk gm => e4 fun fM fN fh fk => e4 fun gn gq fO fP => e2 fun fQ fR => sc0 hO fun s hO => d1 fun di => d1 fun bU => d4 fun cx dj cK cL H => ?_
 refine sal hO fun w7 B8 s hO => ?_
 refine sba 0 hO fun w10 s hO => ?_
 refine scm H (fun h11 H => ?_) fun h11 H => ?_
 ·refine sag 0 hO ?_
  refine zcr (J01 body136 rfl (J4F hO.lt di.u bU.u cx.u dj.u cK.u cL.u H)) fun _ w14 => e4 fun r12 r13 JD JE => e4 fun Dj Dk Ct Cu => e4 fun JF JG Dl Dn => e2 fun Do Dp => sc0 hO fun s hO => d1 fun sq => d1 fun nW => d4 fun nB sr nX nY H => ?_
  refine sba 1 hO fun w15 s hO => ?_
  refine au ?_
  refine Go1.retC2 func104 rfl rfl (rlb 1 hO) ⟨((⟨r12.Points, r12.Monoid, r12.Gens, r12.Elems, r12.Prefix, r12.Last, r12.Right, r12.Rules, r12.Done⟩ : Enum)), _, _, _, _, _, _, _, _, _, _, _, _, _, er, frs, sq.r, nW.r, nB.r, sr.r, nX.r, nY.r, H⟩
 refine au ?_
 refine zo (J0a underlying123 ti123 (pl := [(0, 1), (1, 1), (2, 1), (3, 1), (4, 1), (5, 1), (6, 1), (7, 1), (8, 1)]) (vs := []) (cs := #[.int .i64 (0 : Int), .bool false, .slice none 0 0, .slice none 0 0, .slice none 0 0, .slice none 0 0, .slice none 0 0, .slice none 0 0, .int .i64 (0 : Int)]) (by kernel_rfl) rfl (by kernel_rfl)) ?_
 refine sba 1 hO fun w16 s hO => ?_
 refine au ?_
 refine Go1.retC2 func104 rfl rfl (rlb 1 hO) ⟨((⟨(0 : Int), false, ([] : List (List Int)), ([] : List (List Int)), ([] : List Int), ([] : List Int), ([] : List (List Int)), ([] : List Rule), (0 : Int)⟩ : Enum)), _, _, _, _, _, _, _, _, _, _, _, _, _, er, frs, (ISl.null _ _ _), (ISl.null _ _ _), (ISl.null _ _ _), (ISl.null _ _ _), (ISl.null _ _ _), (ISl.null _ _ _), H⟩
theorem body105 : Body prog 105 := ⟨f105, func105, rfl, by kernel_rfl⟩
theorem J5p {gI f7 fI gK f9 gh : Option Addr} {gJ f8 fJ gL gf gi : Nat} {e : Enum} (hA : HA0 A w0) (nh : ISs A w0 gI gJ e.Gens) (gj : ISs A w0 f7 f8 e.Elems) (iv : ISi A w0 fI fJ e.Prefix) (gM : ISi A w0 gK gL e.Last) (iQ : ISs A w0 f9 gf e.Right) (lg : ISl (rpRule) A w0 gh gi e.Rules) {K : List (List Int) → Prop} (H : J2A e K) :
    CallsV prog 105 #[.agg #[.int .i64 e.Points, .bool e.Monoid, .slice gI e.Gens.length gJ, .slice f7 e.Elems.length f8, .slice fI e.Prefix.length fJ, .slice gK e.Last.length gL, .slice f9 e.Right.length gf, .slice gh e.Rules.length gi, .int .i64 e.Done]] w0 (fun v w' => ∃ (r0 : List (List Int)), ∃ (p_r0 : Option Addr), ∃ (c_r0 : Nat), v = .slice p_r0 r0.length c_r0 ∧ Same w0 w' ∧ ISs A w' p_r0 c_r0 r0 ∧ K r0) := by
 refine cal hA func105 ntmps105 fun hO hB => ?_
 unfold J2A at H
 refine sbx hO fun w1 B2 s hO => ?_
 refine sln0 ?_
 refine au ?_
 have mB := Stp.nil (e := 31) (r := 1) hO
 refine nst mB fun s hO => ?_
 have hE6 := elN (Rp.sl (Rp.int .i64)) hO
 refine lv [1, 12] hO (H gj.bd) (fun E (k1_8, out1_9) σ w => ∃ n14 p12 c13 fE, (fun Z => Lo A w0 σ w [(3, .slice p12 n14 c13), (13, .int .i64 (k1_8 : Int))] Z ∧ Els (Rp.sl (Rp.int .i64)) (bl Z ++ A) w fE out1_9) (E.set 0 (.row 31 1 p12 n14 c13 fE))) ⟨_, _, _, _, ⟨agr, hO, fr⟩, hE6.u⟩ ?_
 refine fun X1 => p1 fun k1_8 out1_9 => fun H hX1 σ w7 hk => e4 fun n14 p12 c13 fE => d1 fun hL => fun ce => d2 (fun hag hO hB => keep2 hk hag ?_) hL
 dsimp only [esets, sS, sZ] at hO hB ce
 dsimp only at H
 revert hO; repeat (rename Owns .. => q; clear q)
 intro hO; repeat (rename Sq .. => q; clear q)
 refine scm H (fun h15 H => ?_) fun h15 H => ?_
 ·refine sln0 ?_
  refine au ?_
  refine snil Fl.i 3 hO fun s hO => ?_
  refine lv [1, 3, 4, 12, 13, 18] hO H (fun E (jg, row2_19) σ w => ∃ n22 p20 c21, (fun Z => Lo A w0 σ w [(5, .slice p20 n22 c21), (19, .int .i64 (jg : Int))] Z ∧ Els (Rp.sl (Rp.int .i64)) (bl Z ++ A) w fE out1_9) (E.set 0 (t1 Fl.i 3 p20 n22 c21 row2_19))) ⟨_, _, _, ⟨agr, hO, fr⟩, ce.u⟩ ?_
  refine fun X2 => p1 fun jg row2_19 => fun H hX2 σ w17 hk => e3 fun n22 p20 c21 => d1 fun hL => fun ce => d2 (fun hag hO hB => keep2 hk hag ?_) hL
  dsimp only [esets, sS, sZ] at hO hB ce
  dsimp only at H
  revert hO; repeat (rename Owns .. => q; clear q)
  intro hO; repeat (rename Sq .. => q; clear q)
  refine scm H (fun h23 H => ?_) fun h23 H => ?_
  ·refine sag 2 hO ?_
   refine au ?_
   refine zcr (J01 body106 rfl (J0T hO.lt nh.u gj.u iv.u gM.u iQ.u lg.u H)) fun _ w25 => e1 fun r24 => sc0 hO fun s hO => d1 fun te H => ?_
   refine au ?_
   refine lv [1, 3, 4, 5, 7, 12, 13, 18, 19] hO H (fun E (at3_27, i3_28) σ w => (fun Z => Lo A w0 σ w [(8, .int .i64 at3_27), (9, .int .i64 (i3_28 : Int))] Z ∧ Els (Rp.sl (Rp.int .i64)) (bl Z ++ A) w fE out1_9) E) ⟨⟨agr, hO, fr⟩, ce.u⟩ ?_
   refine fun X3 => p1 fun at3_27 i3_28 => fun H hX3 σ w26 hk => d1 fun hL => fun ce => d2 (fun hag hO hB => keep2 hk hag ?_) hL
   dsimp only at H
   revert hO; repeat (rename Owns .. => q; clear q)
   intro hO; repeat (rename Sq .. => q; clear q)
   refine au ?_
   refine zo (Ja4 underlying9 rfl) ?_
   replace H := H te
   refine scm H (fun h29 H => ?_) fun h29 H => ?_
   ·refine au ?_
    refine drs 0 [q0, q1, q0, q0, q1, q0, q0, q0, q0, q0, q0, q1, q0] hO fun w30 s hO => ?_
    refine sxls hO iQ.u H.1 H.2.1 fun p31 c32 ss => ?_
    refine au ?_
    have h34 := H.1
    have h35 := H.2.1
    replace H := H.2.2
    obtain ⟨h36, H⟩ := H
    obtain ⟨h37, H⟩ := H
    refine GoQ.pure rfl (J91 underlying9 rfl rfl h36 h37) rfl rfl ?_
    refine GoQ.pure rfl (J9c rfl rfl rfl) rfl rfl ?_
    refine GoQ.pure rfl (J3o underlying5 underlying3 rfl rfl) rfl rfl ?_
    refine sxl hO ss.u H.1 H.2.1 ?_
    refine sinc (natbd h29 te) ?_
    refine au ?_
    exact hX3 _ H.2.2 _ _ agr ⟨⟨agr, hO, fr⟩, ce.u⟩
   refine au ?_
   refine sap1 at3_27 0 hO H fun _ w38 p39 c40 s hO => ?_
   refine sinc (natbd h23 gj.bd) ?_
   refine au ?_
   exact hX2 _ H.2 _ _ agr ⟨_, _, _, ⟨agr, hO, fr⟩, ce.u⟩
  refine au ?_
  refine sfz 0 hO fun s hO mI P7 => ?_
  have zz := J1u (r := Rp.sl (Rp.int .i64)) (n := 1) (parts := [(0, .slice p20 n22 c21)]) (vs := [.slice p20 n22 c21]) (xs := [row2_19]) rfl underlying23 ti31 hO (by decide) (by kernel_rfl) (Els.cons rfl ⟨p20, c21, congrArg some (congrArg (fun nn => Value.slice p20 nn c21) P7), mI⟩ (Els.nil _ _ _) (by simp [mx])) rfl
  obtain ⟨w43, p44, ro, wj, adI, rk⟩ := zz
  refine zg (rk rfl) ?_
  refine nst ro fun s hO => ?_
  refine sfzR 0 hO wj fun s hO gC kP => ?_
  obtain ⟨h52, H⟩ := H
  have zz := oapp underlying23 ti31 rfl 0 hO rfl ce.u gC kP h52 (by decide)
  obtain ⟨w53, p54, c55, adJ, JH, Cv, oO⟩ := zz
  dsimp only [sS, sZ] at Cv
  refine zg (oO (by exact rfl) (by exact rfl)) ?_
  refine nst JH fun s hO => ?_
  refine sinc (natbd h15 gj.bd) ?_
  refine au ?_
  exact hX1 _ H _ _ agr ⟨_, _, _, _, ⟨agr, hO, fr⟩, Cv⟩
 refine au ?_
 refine sfzR 0 hO ce.u fun s hO P8 qU => ?_
 refine Go1.ret1 func105 rfl ⟨_, _, _, ?_, frs, P8.r, H⟩
 exact (congrArg (fun nn => Value.slice p12 nn c13) qU)
theorem body138 : Body prog 138 := ⟨f138, func138, rfl, by kernel_rfl⟩
theorem J6i {p_l : Option Addr} {c_l : Nat} {l : List Int} {n : Int} (hA : HA0 A w0) (h_l : ISi A w0 p_l c_l l) {K : List Bool → Prop} (H : J3Z l n K) :
    CallsV prog 138 #[.slice p_l l.length c_l, .int .i64 n] w0 (fun v w' => ∃ (r0 : List Bool), ∃ (eN : Nat), ∃ (p_r0 : Option Addr), ∃ (c_r0 : Nat), v = .slice p_r0 eN c_r0 ∧ Same w0 w' ∧ Owns w0.heap.size w' [t1 Fl.bool 4 p_r0 eN c_r0 r0] A ∧ K r0) := by
 refine cal hA func138 ntmps138 fun hO hB => ?_
 unfold J3Z at H
 refine smk Fl.bool H hO fun w1 p4 s hO => ?_
 refine sln0 ?_
 refine au ?_
 refine lv [1, 5, 10, 11] hO (H.2.2 h_l.bd) (fun E (bw, out1_8) σ w => Lo A w0 σ w [(12, .int .i64 (bw : Int))] [t1 Fl.bool 4 p4 n.toNat n.toNat out1_8]) ⟨agr, hO, fr⟩ ?_
 refine fun X1 => p1 fun bw out1_8 => fun H hX1 σ w6 hk => d2 fun hag hO hB => keep2 hk hag ?_
 dsimp only at H
 revert hO; repeat (rename Owns .. => q; clear q)
 intro hO; repeat (rename Sq .. => q; clear q)
 refine scm H (fun h9 H => ?_) fun h9 H => ?_
 ·refine sxl hO h_l.u H.1 H.2.1 ?_
  refine au ?_
  have h10 := H.1
  have h11 := H.2.1
  refine scm H.2.2 (fun h12 H => ?_) fun h12 H => ?_
  ·refine scm H (fun h13 H => ?_) fun h13 H => ?_
   ·refine six1 0 hO H.1 H.2.1 ?_
    refine sst (u := true) 0 hO H.1 H.2.1 fun w14 s hO => ?_
    refine sinc (natbd h9 h_l.bd) ?_
    refine au ?_
    exact hX1 _ H.2.2 _ _ agr ⟨agr, hO, fr⟩
   refine sinc (natbd h9 h_l.bd) ?_
   refine au ?_
   exact hX1 _ H _ _ agr ⟨agr, hO, fr⟩
  refine sinc (natbd h9 h_l.bd) ?_
  refine au ?_
  exact hX1 _ H _ _ agr ⟨agr, hO, fr⟩
 refine au ?_
 refine Go1.ret1 func138 rfl ⟨_, _, _, _, er, frs, hO, H⟩
theorem body58 : Body prog 58 := ⟨f58, func58, rfl, by kernel_rfl⟩
theorem J4X {tf : Option Addr} {tg : Nat} {set_ : List Bool} (hA : HA0 A w0) (ko : ISb A w0 tf tg set_) {K : List Int → Prop} (H : J1l set_ K) :
    CallsV prog 58 #[.slice tf set_.length tg] w0 (fun v w' => ∃ (r0 : List Int), ∃ (eN : Nat), ∃ (p_r0 : Option Addr), ∃ (c_r0 : Nat), v = .slice p_r0 eN c_r0 ∧ Same w0 w' ∧ Owns w0.heap.size w' [t1 Fl.i 3 p_r0 eN c_r0 r0] A ∧ K r0) := by
 refine cal hA func58 ntmps58 fun hO hB => ?_
 unfold J1l at H
 refine sln0 ?_
 refine au ?_
 refine snil Fl.i 3 hO fun s hO => ?_
 refine lv [6, 7] hO (H ko.bd) (fun E (k1_3, Cw) σ w => ∃ n7 p5 c6, Lo A w0 σ w [(3, .slice p5 n7 c6), (8, .int .i64 (k1_3 : Int))] [t1 Fl.i 3 p5 n7 c6 Cw]) ⟨_, _, _, ⟨agr, hO, fr⟩⟩ ?_
 refine fun X1 => p1 fun k1_3 Cw => fun H hX1 σ w2 hk => e3 fun n7 p5 c6 => d2 fun hag hO hB => keep2 hk hag ?_
 dsimp only at H
 revert hO; repeat (rename Owns .. => q; clear q)
 intro hO; repeat (rename Sq .. => q; clear q)
 refine scm H (fun h8 H => ?_) fun h8 H => ?_
 ·refine au ?_
  have h9 := H.1
  have h10 := H.2.1
  refine sxb hO ko.u H.1 H.2.1 H.2.2 (fun h11 H => ?_) fun h11 H => ?_
  ·refine au ?_
   refine sap1 ((k1_3 : Int)) 0 hO H fun _ w12 p13 c14 s hO => ?_
   refine sinc (natbd h8 ko.bd) ?_
   refine au ?_
   exact hX1 _ H.2 _ _ agr ⟨_, _, _, ⟨agr, hO, fr⟩⟩
  refine sinc (natbd h8 ko.bd) ?_
  refine au ?_
  exact hX1 _ H _ _ agr ⟨_, _, _, ⟨agr, hO, fr⟩⟩
 refine au ?_
 refine Go1.ret1 func58 rfl ⟨_, _, _, _, er, frs, hO, H⟩
theorem body108 : Body prog 108 := ⟨f108, func108, rfl, by kernel_rfl⟩
theorem J4b {p_t eO : Option Addr} {c_t eP : Nat} {t : List (List Int)} {gens : List Int} (hA : HA0 A w0) (h_t : ISs A w0 p_t c_t t) (eQ : ISi A w0 eO eP gens) {K : List Int → Prop} (H : J0V t gens K) :
    CallsV prog 108 #[.slice p_t t.length c_t, .slice eO gens.length eP] w0 (fun v w' => ∃ (r0 : List Int), ∃ (eN : Nat), ∃ (p_r0 : Option Addr), ∃ (c_r0 : Nat), v = .slice p_r0 eN c_r0 ∧ Same w0 w' ∧ Owns w0.heap.size w' [t1 Fl.i 3 p_r0 eN c_r0 r0] A ∧ K r0) := by
 refine cal hA func108 ntmps108 fun hO hB => ?_
 unfold J0V at H
 refine sln0 ?_
 refine zcr (J01 body138 rfl (J6i hO.lt eQ.u (H h_t.bd))) fun _ w3 => e4 fun r1 xc fu fv => sc1 hO fun s hO => fun H => ?_
 refine au ?_
 refine lv [0, 5] hO H (fun E (changed1_6, in1_7) σ w => Lo A w0 σ w [(6, .bool changed1_6)] [t1 Fl.bool 4 fu xc fv in1_7]) ⟨agr, hO, fr⟩ ?_
 refine fun X1 => p1 fun changed1_6 in1_7 => fun H hX1 σ w5 hk => d2 fun hag hO hB => keep2 hk hag ?_
 dsimp only at H
 revert hO; repeat (rename Owns .. => q; clear q)
 intro hO; repeat (rename Sq .. => q; clear q)
 refine au ?_
 cases changed1_6
 ·refine au ?_
  have hl8 := t1lend 0 hO
  have hn9 := t1n 0 hO
  have hOc10 := hO.drop 0
  refine zcr (J01 body58 (by rw [hn9]; exact rfl) (J4X hOc10.lt hl8 (iF H))) fun _ w13 => e4 fun r11 TN Em En => sc1 hO fun s hO => fun H => ?_
  refine au ?_
  refine sdr [1] hO fun s hO => ?_
  refine Go1.ret1 func108 rfl ⟨_, _, _, _, er, frs, hO, H⟩
 refine sln0 ?_
 refine au ?_
 refine lv [0, 5, 15] hO (iT H) (fun E (changed2_16, yd, in2_18) σ w => Lo A w0 σ w [(6, .bool changed2_16), (16, .int .i64 (yd : Int))] [t1 Fl.bool 4 fu xc fv in2_18]) ⟨agr, hO, fr⟩ ?_
 refine fun X2 => p2 fun changed2_16 yd in2_18 => fun H hX2 σ w15 hk => d2 fun hag hO hB => keep2 hk hag ?_
 dsimp only at H
 revert hO; repeat (rename Owns .. => q; clear q)
 intro hO; repeat (rename Sq .. => q; clear q)
 refine scm H (fun h19 H => ?_) fun h19 H => ?_
 ·refine sln0 ?_
  refine au ?_
  refine lv [0, 5, 7, 15, 16, 20] hO H (fun E (changed3_21, ye, in3_23) σ w => Lo A w0 σ w [(6, .bool changed3_21), (21, .int .i64 (ye : Int))] [t1 Fl.bool 4 fu xc fv in3_23]) ⟨agr, hO, fr⟩ ?_
  refine fun X3 => p2 fun changed3_21 ye in3_23 => fun H hX3 σ w20 hk => d2 fun hag hO hB => keep2 hk hag ?_
  dsimp only at H
  revert hO; repeat (rename Owns .. => q; clear q)
  intro hO; repeat (rename Sq .. => q; clear q)
  refine scm H (fun h24 H => ?_) fun h24 H => ?_
  ·refine au ?_
   have h25 := H.1
   have h26 := H.2.1
   refine sxb1 0 hO H.1 H.2.1 H.2.2 (fun h27 H => ?_) fun h27 H => ?_
   ·refine six1 0 hO H.1 H.2.1 ?_
    have h28 := H.1
    have h29 := H.2.1
    refine sbd1 0 hO H.1 H.2.1 H.2.2 (fun h30 H => ?_) fun h30 H => ?_
    ·refine six h_t H.1 H.2.1 ?_
     refine slds hO h_t.u H.1 H.2.1 fun p31 c32 ss => ?_
     refine six ss H.2.2.1 H.2.2.2.1 ?_
     refine sld hO ss.u H.2.2.1 H.2.2.2.1 ?_
     refine six1 0 hO H.2.2.2.2.1 H.2.2.2.2.2.1 ?_
     have h34 := H.1
     have h35 := H.2.1
     have h36 := H.2.2.1
     have h37 := H.2.2.2.1
     have h38 := H.2.2.2.2.1
     have h39 := H.2.2.2.2.2.1
     refine sbd1 0 hO H.2.2.2.2.1 H.2.2.2.2.2.1 H.2.2.2.2.2.2 (fun h40 H => ?_) fun h40 H => ?_
     ·refine sinc (natbd h24 h_t.bd) ?_
      refine au ?_
      exact hX3 _ H _ _ agr ⟨agr, hO, fr⟩
     refine sxls hO h_t.u H.1 H.2.1 fun p41 c42 P9 => ?_
     refine sxl hO P9.u H.2.2.1 H.2.2.2.1 ?_
     refine six1 0 hO H.2.2.2.2.1 H.2.2.2.2.2.1 ?_
     refine sst (u := true) 0 hO H.2.2.2.2.1 H.2.2.2.2.2.1 fun w44 s hO => ?_
     refine sinc (natbd h24 h_t.bd) ?_
     refine au ?_
     exact hX3 _ H.2.2.2.2.2.2 _ _ agr ⟨agr, hO, fr⟩
    refine sinc (natbd h24 h_t.bd) ?_
    refine au ?_
    exact hX3 _ H _ _ agr ⟨agr, hO, fr⟩
   refine sinc (natbd h24 h_t.bd) ?_
   refine au ?_
   exact hX3 _ H _ _ agr ⟨agr, hO, fr⟩
  refine sinc (natbd h19 h_t.bd) ?_
  refine au ?_
  exact hX2 _ H _ _ agr ⟨agr, hO, fr⟩
 refine au ?_
 exact hX1 _ H _ _ agr ⟨agr, hO, fr⟩
end Sg
