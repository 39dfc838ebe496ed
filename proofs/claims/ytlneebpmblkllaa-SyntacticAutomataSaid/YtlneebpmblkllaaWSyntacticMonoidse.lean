/- -/
import Derived.Test.YtlneebpmblkllaaVd
import Derived.Test.YtlneebpmblkllaaWSyntacticMonoidsd
namespace Sg
open Go Go.RowKit Go.Proofs Try
set_option linter.unusedVariables false
set_option linter.unusedSimpArgs false
set_option maxRecDepth 100000
set_option maxHeartbeats 4000000
variable {A : List Nat} {w0 : World}
theorem body135 : Body prog 135 := ⟨f135, func135, rfl, by kernel_rfl⟩
theorem J60 {iR : Option Addr} {iU : Nat} {a0 : List (List Int)} {a1 : Bool} (hA : HA0 A w0) (d8 : ISs A w0 iR iU a0) {K : Enum → Int → Prop} (H : J2G a0 a1 K) :
    CallsV prog 135 #[.slice iR a0.length iU, .bool a1] w0 (fun v w' => ∃ (r0 : Enum), ∃ (r1 : Int), ∃ (cY : Option Addr), ∃ (c8 : Nat), ∃ (cJ : Option Addr), ∃ (cK : Nat), ∃ (cB : Option Addr), ∃ (cC : Nat), ∃ (db : Option Addr), ∃ (de : Nat), ∃ (cL : Option Addr), ∃ (cM : Nat), ∃ (cN : Option Addr), ∃ (cO : Nat), v = .tuple #[.agg #[.int .i64 r0.Points, .bool r0.Monoid, .slice cY r0.Gens.length c8, .slice cJ r0.Elems.length cK, .slice cB r0.Prefix.length cC, .slice db r0.Last.length de, .slice cL r0.Right.length cM, .slice cN r0.Rules.length cO, .int .i64 r0.Done], .int .i64 r1] ∧ Same w0 w' ∧ ISs A w' cY c8 r0.Gens ∧ ISs A w' cJ cK r0.Elems ∧ ISi A w' cB cC r0.Prefix ∧ ISi A w' db de r0.Last ∧ ISs A w' cL cM r0.Right ∧ ISl (rpRule) A w' cN cO r0.Rules ∧ K r0 r1) := by
 refine cal hA func135 ntmps135 fun hO hB => ?_
 unfold J2G at H
 refine sal hO fun w1 B2 s hO => ?_
 refine sln0 ?_
 refine scm (H d8.bd) (fun h4 H => ?_) fun h4 H => ?_
 ·refine au ?_
  refine zo (J04 underlying123 ti123 (pl := [(0, 1), (1, 1), (2, 1), (3, 1), (4, 1), (5, 1), (6, 1), (7, 1), (8, 1)]) (vs := []) (cs := #[.int .i64 (0 : Int), .bool false, .slice none 0 0, .slice none 0 0, .slice none 0 0, .slice none 0 0, .slice none 0 0, .slice none 0 0, .int .i64 (0 : Int)]) (by kernel_rfl) rfl (by kernel_rfl)) ?_
  refine sba 0 hO fun w5 s hO => ?_
  refine au ?_
  refine Go1.retC2 func135 rfl rfl (rlb 0 hO) ⟨((⟨(0 : Int), false, ([] : List (List Int)), ([] : List (List Int)), ([] : List Int), ([] : List Int), ([] : List (List Int)), ([] : List Rule), (0 : Int)⟩ : Enum)), _, _, _, _, _, _, _, _, _, _, _, _, _, er, frs, (ISl.null _ _ _), (ISl.null _ _ _), (ISl.null _ _ _), (ISl.null _ _ _), (ISl.null _ _ _), (ISl.null _ _ _), H⟩
 refine sln0 ?_
 refine scm H (fun h6 H => ?_) fun h6 H => ?_
 ·refine au ?_
  refine zo (J04 underlying123 ti123 (pl := [(0, 1), (1, 1), (2, 1), (3, 1), (4, 1), (5, 1), (6, 1), (7, 1), (8, 1)]) (vs := []) (cs := #[.int .i64 (0 : Int), .bool false, .slice none 0 0, .slice none 0 0, .slice none 0 0, .slice none 0 0, .slice none 0 0, .slice none 0 0, .int .i64 (0 : Int)]) (by kernel_rfl) rfl (by kernel_rfl)) ?_
  refine sba 0 hO fun w7 s hO => ?_
  refine au ?_
  refine Go1.retC2 func135 rfl rfl (rlb 0 hO) ⟨((⟨(0 : Int), false, ([] : List (List Int)), ([] : List (List Int)), ([] : List Int), ([] : List Int), ([] : List (List Int)), ([] : List Rule), (0 : Int)⟩ : Enum)), _, _, _, _, _, _, _, _, _, _, _, _, _, er, frs, (ISl.null _ _ _), (ISl.null _ _ _), (ISl.null _ _ _), (ISl.null _ _ _), (ISl.null _ _ _), (ISl.null _ _ _), H⟩
 refine au ?_
 refine zcr (J01 body161 rfl (J5a hO.lt d8.u H)) fun _ w9 => e1 fun r8 => sc0 hO fun s hO => fun H => ?_
 cases r8
 ·refine au ?_
  refine zo (J04 underlying123 ti123 (pl := [(0, 1), (1, 1), (2, 1), (3, 1), (4, 1), (5, 1), (6, 1), (7, 1), (8, 1)]) (vs := []) (cs := #[.int .i64 (0 : Int), .bool false, .slice none 0 0, .slice none 0 0, .slice none 0 0, .slice none 0 0, .slice none 0 0, .slice none 0 0, .int .i64 (0 : Int)]) (by kernel_rfl) rfl (by kernel_rfl)) ?_
  refine sba 0 hO fun w10 s hO => ?_
  refine au ?_
  refine Go1.retC2 func135 rfl rfl (rlb 0 hO) ⟨((⟨(0 : Int), false, ([] : List (List Int)), ([] : List (List Int)), ([] : List Int), ([] : List Int), ([] : List (List Int)), ([] : List Rule), (0 : Int)⟩ : Enum)), _, _, _, _, _, _, _, _, _, _, _, _, _, er, frs, (ISl.null _ _ _), (ISl.null _ _ _), (ISl.null _ _ _), (ISl.null _ _ _), (ISl.null _ _ _), (ISl.null _ _ _), (iF H)⟩
 refine au ?_
 refine drA Same.tr 1 [(0, m0), (1, m0), (2, m1), (3, m0), (4, m0), (5, m0), (6, m2), (7, m0), (8, m4), (9, m3)] hO fun w11 s hO => ?_
 have wX := hO.le
 have hw13 := (fr : Fr (bl []) w0 _ w11).ch.size
 refine au ?_
 refine sxls hO d8.u (iT H).1 (iT H).2.1 fun p14 c15 ic => ?_
 refine sln0 ?_
 refine au ?_
 refine au ?_
 refine GoQA.loudI rfl rfl fun w17 A18 wY => ?_
 refine sgw wY hO fun s hO => ?_
 have h23 := (iT H).1
 have h24 := (iT H).2.1
 refine GoAt.call (J01 body162 rfl (J6w hO.lt d8.u ((iT H).2.2 ic.bd))) (fun _ _ hr => ⟨fun _ => saq hr, Same.kp hO (saq hr)⟩) rfl fun _ w22 => e4 fun r20 mU eI eK => e1 fun Rz => sA1 hO fun s hO => fun H => ?_
 refine GoQA.pure rfl (J04 underlying123 ti123 (pl := [(0, 1), (1, 1), (2, 1), (3, 1), (4, 1), (5, 1), (6, 1), (7, 1), (8, 1)]) (vs := [(0, .int .i64 ((ix a0 (0 : Int)).length : Int)), (1, .bool a1), (2, .slice eI mU eK)]) (cs := #[.int .i64 ((ix a0 (0 : Int)).length : Int), .bool a1, .slice eI mU eK, .slice none 0 0, .slice none 0 0, .slice none 0 0, .slice none 0 0, .slice none 0 0, .int .i64 (0 : Int)]) (by kernel_rfl) rfl (by kernel_rfl)) rfl rfl ?_
 refine GoQA.alloc rfl rfl (alAlloc (cs := #[.int .i64 (0 : Int), .bool false, .slice none 0 0, .slice none 0 0, .slice none 0 0, .slice none 0 0, .slice none 0 0, .slice none 0 0, .int .i64 (0 : Int)]) ti123 rfl) ?_
 intro w27 A28 b29 A30 PP PQ hd33 hnb34 hh35
 refine sgw PP hO fun s hO => ?_
 refine sgn (e := .blk b29 (.cells #[.int .i64 (0 : Int), .bool false, .slice none 0 0, .slice none 0 0, .slice none 0 0, .slice none 0 0, .slice none 0 0, .slice none 0 0, .int .i64 (0 : Int)] 123 (0, 0))) PQ hO wX hw13 hnb34 rfl hh35 hd33 (fr : Fr (bl []) w0 _ w27) fun s hO hB => ?_
 refine GoQA.lastI rfl rfl fun w36 A37 xa => ?_
 refine sgw xa hO fun s hO => ?_
 refine sba 0 hO fun w39 s hO => ?_
 refine GoQA.nil fun w40 A41 PR PS => ?_
 refine sgw PR hO fun s hO => ?_
 refine spm PS hO fun s hO => ?_
 refine au ?_
 cases a1
 ·refine sln0 ?_
  refine au ?_
  have ss := Stp.nil (e := 31) (r := 1) hO
  refine nst ss fun s hO => ?_
  have xb := elN (Rp.sl (Rp.int .i64)) hO
  refine snil Fl.i 3 hO fun s hO => ?_
  refine snil Fl.i 3 hO fun s hO => ?_
  refine snil (id Fl.fl : Fl rpRule) 185 hO fun s hO => ?_
  refine lv [4, 6, 7, 42, 43] hO (iF H) (fun E (k1_51, d_52, su, d_60, gA) σ w => ∃ n55 p53 c54 n59 p57 c58 n63 p61 c62 n69 p67 c68 xc, (fun Z => Lo A w0 σ w [(44, .int .i64 (k1_51 : Int))] Z ∧ Els (Rp.sl (Rp.int .i64)) (bl Z ++ A) w xc gA) (esets E [(0, t1 (id Fl.fl : Fl rpRule) 185 p53 n55 c54 d_52), (1, t1 Fl.i 3 p57 n59 c58 su), (2, t1 Fl.i 3 p61 n63 c62 d_60), (3, .row 31 1 p67 n69 c68 xc), (4, .blk b29 (.cells #[.int .i64 ((ix a0 (0 : Int)).length : Int), .bool false, .slice eI mU eK, .slice p67 n69 c68, .slice p61 n63 c62, .slice p57 n59 c58, .slice none 0 0, .slice p53 n55 c54, .int .i64 (0 : Int)] 123 (0, 0)))])) ⟨_, _, _, _, _, _, _, _, _, _, _, _, _, ⟨agr, hO, fr⟩, xb.u⟩ ?_
  refine fun X1 => p1 fun k1_51 => p3 fun d_52 su d_60 gA => fun H hX1 σ w50 hk => e4 fun n55 p53 c54 n59 => e4 fun p57 c58 n63 p61 => e4 fun c62 n69 p67 c68 => e1 fun xc => d1 fun hL => fun lX => d2 (fun hag hO hB => keep2 hk hag ?_) hL
  dsimp only [esets, sS, sZ] at hO hB lX
  dsimp only at H
  revert hO; repeat (rename Owns .. => q; clear q)
  intro hO; repeat (rename Sq .. => q; clear q)
  refine scm H (fun h70 H => ?_) fun h70 H => ?_
  ·refine sxls hO d8.u H.1 H.2.1 fun p71 c72 Cw => ?_
   refine au ?_
   have zz := rowlend 3 hO rfl lX
   obtain ⟨PT, PU⟩ := zz
   have hOc76 := hO.drop 3
   have h79 := H.1
   have h80 := H.2.1
   refine zcr (J01 body107 (by rw [PU]; exact rfl) (J1C hOc76.lt PT (Cw.u.ch (Owns.J0c _ _ 3)) H.2.2)) fun _ w78 => e1 fun r77 => sc0 hO fun s hO => fun H => ?_
   refine scm H (fun h81 H => ?_) fun h81 H => ?_
   ·refine au ?_
    refine drw 2 [(0, q0), (1, q1), (2, q0), (4, q1), (5, q0), (3, q2), (6, q2), (7, q0), (8, q2), (9, q3), (10, q0), (11, q3)] hO fun w82 s hO => ?_
    refine sag 4 hO ?_
    refine au ?_
    refine zcq rfl (J01 body137 rfl (J15 hO.lt H)) fun _ w84 => e1 fun r83 => sq0 hO fun s hO => d1 fun Cx H => ?_
    have PV := t2lend 5 hO rfl
    have nM := t2neq 5 hO rfl
    have hOc87 := hO.drop 5
    have zz := rowlend 3 hOc87 rfl (lX.u.ch (Owns.J0c _ _ 5))
    obtain ⟨PW, v6⟩ := zz
    have hOc90 := hOc87.drop 3
    have PX := t1lend 2 hOc90
    have uF := t1n 2 hOc90
    have hOc93 := hOc90.drop 2
    have PY := t1lend 1 hOc93
    have P4 := t1n 1 hOc93
    have hOc96 := hOc93.drop 1
    have P5 := t1lend 0 hOc96
    have P6 := t1n 0 hOc96
    have hOc99 := hOc96.drop 0
    refine zcq rfl (J01 body106 (by rw [nM, v6, uF, P4, P6]; exact rfl) (J0Y (e := (⟨((ix a0 (0 : Int)).length : Int), false, r20, gA, d_60, su, [], d_52, (0 : Int)⟩ : Enum)) hOc99.lt ((((PV.ch (Owns.J0c _ _ 3)).ch (Owns.J0c _ _ 2)).ch (Owns.J0c _ _ 1)).ch (Owns.J0c _ _ 0)) (((PW.ch (Owns.J0c _ _ 2)).ch (Owns.J0c _ _ 1)).ch (Owns.J0c _ _ 0)) ((PX.ch (Owns.J0c _ _ 1)).ch (Owns.J0c _ _ 0)) (PY.ch (Owns.J0c _ _ 0)) (ISl.null _ _ _) P5 H)) fun _ ux => e1 fun r100 => sq0 hO fun s hO => d1 fun zj H => ?_
    refine GoQ.pure rfl (J04 underlying185 ti185 (pl := [(0, 1), (1, 1)]) (vs := [(0, .string (gstr r83)), (1, .string (gstr r100))]) (cs := #[.string (gstr r83), .string (gstr r100)]) (by kernel_rfl) rfl (by kernel_rfl)) rfl rfl ?_
    refine sapF (⟨r83, r100⟩ : Rule) 0 hO H (fun _ vC ng nh s hO => ?_) (hok := by exact ⟨Cx, zj⟩)
    refine sbs 4 hO fun pK s hO => ?_
    refine sinc (natbd h70 d8.bd) ?_
    refine au ?_
    exact hX1 _ H.2 _ _ agr ⟨_, _, _, _, _, _, _, _, _, _, _, _, _, ⟨agr, hO, fr⟩, lX.u⟩
   refine au ?_
   refine drA (CSv.tr [(some ⟨b29, 3, none⟩), (some ⟨b29, 4, none⟩), (some ⟨b29, 5, none⟩)]) 1 [(0, m0), (1, m1), (3, m0), (7, m0), (8, m1), (9, m0), (12, m0), (13, m1), (14, m0), (2, m4), (4, m2), (5, m4), (6, m2), (17, m0), (10, m4), (11, m2), (15, m4), (16, m2), (18, m3), (19, m0), (20, m3), (21, m0), (22, m3)] hO fun Cq s hO => ?_
   have jw := hO.le
   have hw108 := (fr : Fr (bl []) w0 _ Cq).ch.size
   refine au ?_
   refine GoQA.stable rfl (loadV (.head _) rfl (J00 4 hO rfl rfl) underlying23 rfl rfl) rfl rfl ?_
   refine au ?_
   refine au ?_
   refine GoQA.stable rfl (loadV (.tail _ (.head _)) rfl (J00 4 hO rfl rfl) underlying31 rfl rfl) rfl rfl ?_
   refine au ?_
   refine au ?_
   refine GoQA.stable rfl (loadV (.tail _ (.tail _ (.head _))) rfl (J00 4 hO rfl rfl) underlying31 rfl rfl) rfl rfl ?_
   refine au ?_
   refine GoQA.alloc rfl rfl (alBuild (n := 0) (parts := []) (vs := []) underlying31 ti3 (by decide) (by decide) (by decide) (by kernel_rfl) rfl rfl) ?_
   intro Cr A111 P7 A113 ID IE hd116 hnb117 hh118
   refine sgw ID hO fun s hO => ?_
   have sv := elE (Rp.int .i64) [] (([] : List Int)) hO (Els.nil _ _ _)
   refine sgn (e := .row 3 1 (some ⟨P7, 0, none⟩) 0 0 []) IE hO jw hw108 hnb117 rfl hh118 hd116 (fr : Fr (bl []) w0 _ Cr) fun s hO hB => ?_
   replace sv := sv.ch s.ch
   refine cl1 Fl.i 0 hO sv.u fun s hO => ?_
   refine GoQA.loudI rfl rfl fun qD A121 IF => ?_
   refine sgw IF hO fun s hO => ?_
   refine sapQ 0 hO Cw.u H (fun Nl kc lY s hO => ?_) (g := fun _ _ _ _ hv hst h => GoAt.step hv (fun _ => (CSv.cons (cs_eq (J00 5 hO rfl rfl) (J00 5 hst.own rfl rfl)) (CSv.cons (cs_eq (J00 5 hO rfl rfl) (J00 5 hst.own rfl rfl)) (CSv.cons (cs_eq (J00 5 hO rfl rfl) (J00 5 hst.own rfl rfl)) (CSv.nil _ _))))) (Stp.kp hO hst) rfl h)
   refine sfz 0 hO fun s hO IG IH => ?_
   refine GoQA.alloc rfl rfl (alBuild (n := 1) (parts := [(0, .slice kc (0 + ((ix a0 (k1_51 : Int)).length)) lY)]) (vs := [.slice kc (0 + ((ix a0 (k1_51 : Int)).length)) lY]) underlying23 ti31 (by decide) (by decide) (by decide) (by kernel_rfl) rfl rfl) ?_
   intro Cy A128 P8 A130 II IJ hd133 hnb134 hh135
   refine sgw II hO fun s hO => ?_
   have jq := elE (Rp.sl (Rp.int .i64)) [.slice kc (0 + ((ix a0 (k1_51 : Int)).length)) lY] [(([] : List Int)) ++ (ix a0 (k1_51 : Int))] hO (Els.cons rfl ⟨kc, lY, congrArg some (congrArg (fun nn => Value.slice kc nn lY) IH), IG.u⟩ (Els.nil _ _ _) (by simp [mx]))
   refine sgn (e := .row 31 1 (some ⟨P8, 0, none⟩) 1 1 [.slice kc (0 + ((ix a0 (k1_51 : Int)).length)) lY]) IJ hO jw hw108 hnb134 rfl hh135 hd133 (fr : Fr (bl []) w0 _ Cy) fun s hO hB => ?_
   replace jq := jq.ch s.ch
   refine GoQA.loudI rfl rfl fun Mn A140 IK => ?_
   refine sgw IK hO fun s hO => ?_
   refine sfzR 0 hO jq.u fun s hO IL IM => ?_
   replace H := H.2
   obtain ⟨ut, H⟩ := H
   have zz := oapp underlying23 ti31 rfl 3 hO rfl lX.u IL IM ut (by decide)
   obtain ⟨Ah, Mp, adE, T8, ja, yQ, Cz⟩ := zz
   dsimp only [sS, sZ] at yQ
   refine GoAt.step (Cz (by exact rfl) (by exact rfl)) (fun _ => (CSv.cons (cs_eq (J00 4 hO rfl rfl) (J00 4 ja.own rfl rfl)) (CSv.cons (cs_eq (J00 4 hO rfl rfl) (J00 4 ja.own rfl rfl)) (CSv.cons (cs_eq (J00 4 hO rfl rfl) (J00 4 ja.own rfl rfl)) (CSv.nil _ _))))) (Stp.kp hO ja) rfl ?_
   refine nst ja fun s hO => ?_
   refine au ?_
   refine GoQA.alloc rfl rfl (alBuild (n := 1) (parts := [(0, .int .i64 (-1 : Int))]) (vs := [.int .i64 (-1 : Int)]) underlying31 ti3 (by decide) (by decide) (by decide) (by kernel_rfl) rfl rfl) ?_
   intro uu A155 P9 A157 IN IQ hd160 hnb161 hh162
   refine sgw IN hO fun s hO => ?_
   have sw := elE (Rp.int .i64) [.int .i64 (-1 : Int)] [(-1 : Int)] hO (Els.cons rfl rfl (Els.nil _ _ _) (by simp [mx]))
   refine sgn (e := .row 3 1 (some ⟨P9, 0, none⟩) 1 1 [.int .i64 (-1 : Int)]) IQ hO jw hw108 hnb161 rfl hh162 hd160 (fr : Fr (bl []) w0 _ uu) fun s hO hB => ?_
   replace sw := sw.ch s.ch
   refine cl1 Fl.i 0 hO sw.u fun s hO => ?_
   refine GoQA.loudI rfl rfl fun pt A165 IR => ?_
   refine sgw IR hO fun s hO => ?_
   refine sfz 0 hO fun s hO IS T9 => ?_
   refine sapQ 2 hO IS H (fun Nq adF adG s hO => ?_) (g := fun _ _ _ _ hv hst h => GoAt.step hv (fun _ => (CSv.cons (cs_eq (J00 4 hO rfl rfl) (J00 4 hst.own rfl rfl)) (CSv.cons (cs_eq (J00 4 hO rfl rfl) (J00 4 hst.own rfl rfl)) (CSv.cons (cs_eq (J00 4 hO rfl rfl) (J00 4 hst.own rfl rfl)) (CSv.nil _ _))))) (Stp.kp hO hst) rfl h)
   refine GoQA.alloc rfl rfl (alBuild (n := 1) (parts := [(0, .int .i64 (k1_51 : Int))]) (vs := [.int .i64 (k1_51 : Int)]) underlying31 ti3 (by decide) (by decide) (by decide) (by kernel_rfl) rfl rfl) ?_
   intro qO A174 Qa A176 IT IU hd179 hnb180 hh181
   refine sgw IT hO fun s hO => ?_
   have sx := elE (Rp.int .i64) [.int .i64 (k1_51 : Int)] [(k1_51 : Int)] hO (Els.cons rfl rfl (Els.nil _ _ _) (by simp [mx]))
   refine sgn (e := .row 3 1 (some ⟨Qa, 0, none⟩) 1 1 [.int .i64 (k1_51 : Int)]) IU hO jw hw108 hnb180 rfl hh181 hd179 (fr : Fr (bl []) w0 _ qO) fun s hO hB => ?_
   replace sx := sx.ch s.ch
   refine cl1 Fl.i 0 hO sx.u fun s hO => ?_
   refine GoQA.loudI rfl rfl fun zV A184 IV => ?_
   refine sgw IV hO fun s hO => ?_
   refine sfz 0 hO fun s hO IW Ua => ?_
   refine sapQ 1 hO IW H.2 (fun zW pU adH s hO => ?_) (g := fun _ _ _ _ hv hst h => GoAt.step hv (fun _ => (CSv.cons (cs_eq (J00 4 hO rfl rfl) (J00 4 hst.own rfl rfl)) (CSv.cons (cs_eq (J00 4 hO rfl rfl) (J00 4 hst.own rfl rfl)) (CSv.cons (cs_eq (J00 4 hO rfl rfl) (J00 4 hst.own rfl rfl)) (CSv.nil _ _))))) (Stp.kp hO hst) rfl h)
   refine GoQA.lastI rfl rfl fun uA A192 qP => ?_
   refine sgw qP hO fun s hO => ?_
   refine sbs 4 hO fun Nv s hO => ?_
   refine au ?_
   refine GoQA.lastI rfl rfl fun zX A196 IX => ?_
   refine sgw IX hO fun s hO => ?_
   refine sbs 4 hO fun Nw s hO => ?_
   refine au ?_
   refine GoQA.lastI rfl rfl fun z4 A200 IY => ?_
   refine sgw IY hO fun s hO => ?_
   refine sbs 4 hO fun Ny s hO => ?_
   refine GoQA.nil fun z6 A204 qQ qR => ?_
   refine sgw qQ hO fun s hO => ?_
   refine spm qR hO fun s hO => ?_
   refine au ?_
   refine sinc (natbd h70 d8.bd) ?_
   refine au ?_
   exact hX1 _ H.2.2 _ _ agr ⟨_, _, _, _, _, _, _, _, _, _, _, _, _, ⟨agr, hO, fr⟩, yQ.u⟩
  refine sag 4 hO ?_
  refine sba 6 hO fun Nz s hO => ?_
  refine au ?_
  refine sfz2 5 hO fun s hO qH qI => ?_
  refine sfzR 3 hO lX.u fun s hO I0 I1 => ?_
  refine sfz 2 hO fun s hO I2 I3 => ?_
  refine sfz 1 hO fun s hO I4 I5 => ?_
  refine sfz 0 hO fun s hO I6 I7 => ?_
  refine Go1.retC2 func135 rfl rfl (rlb 1 hO) ⟨((⟨((ix a0 (0 : Int)).length : Int), false, r20, gA, d_60, su, ([] : List (List Int)), d_52, (0 : Int)⟩ : Enum)), _, _, _, _, _, _, _, _, _, _, _, _, _, ?_, frs, qH.r, I0.r, I2.r, I4.r, (ISl.null _ _ _), I6.r, H⟩
  exact (congrArg (fun l => Value.tuple (List.toArray l)) (J02 (congrArg (fun l => Value.agg (List.toArray l)) (J02 rfl (J02 rfl (J02 (congrArg (fun nn => Value.slice eI nn eK) qI) (J02 (congrArg (fun nn => Value.slice p67 nn c68) I1) (J02 (congrArg (fun nn => Value.slice p61 nn c62) I3) (J02 (congrArg (fun nn => Value.slice p57 nn c58) I5) (J02 rfl (J02 (congrArg (fun nn => Value.slice p53 nn c54) I7) (J02 rfl rfl)))))))))) (J02 rfl rfl)))
 refine au ?_
 refine zcr (J01 body51 rfl (J4Q hO.lt (iT H))) fun _ MF => e3 fun xd oq ot => sc0 hO fun s hO => d1 fun CA H => ?_
 have zz := J1P (r := Rp.sl (Rp.int .i64)) (n := 1) (parts := [(0, .slice oq xd.length ot)]) (vs := [.slice oq xd.length ot]) (xs := [xd]) rfl underlying23 ti31 hO (by decide) (by kernel_rfl) (Els.cons rfl ⟨oq, ot, rfl, CA⟩ (Els.nil _ _ _) (by simp [mx])) rfl
 obtain ⟨NB, NC, CB, I8, Ub, CC⟩ := zz
 refine zg (CC rfl) ?_
 refine nst CB fun s hO => ?_
 refine sbu Fl.i 3 [(-1 : Int)] hO fun MG adI s hO => ?_
 refine sbu Fl.i 3 [(-1 : Int)] hO fun vE OH s hO => ?_
 refine sbs 3 hO fun Bw s hO => ?_
 refine sbs 3 hO fun MH s hO => ?_
 refine sbs 3 hO fun adJ s hO => ?_
 refine sln0 ?_
 refine au ?_
 refine snil (id Fl.fl : Fl rpRule) 185 hO fun s hO => ?_
 refine lv [4, 6, 7, 42, 43] hO H (fun E (eG, mV, mW, mX, mY) σ w => ∃ xe sy sA xg sB sC xh sD sE xi sF sG sH, (fun Z => Lo A w0 σ w [(44, .int .i64 (eG : Int))] Z ∧ Els (Rp.sl (Rp.int .i64)) (bl Z ++ A) w sH mY) (esets E [(0, t1 (id Fl.fl : Fl rpRule) 185 sy xe sA mV), (1, t1 Fl.i 3 sB xg sC mW), (2, t1 Fl.i 3 sD xh sE mX), (3, .row 31 1 sF xi sG sH), (4, .blk b29 (.cells #[.int .i64 ((ix a0 (0 : Int)).length : Int), .bool true, .slice eI mU eK, .slice sF xi sG, .slice sD xh sE, .slice sB xg sC, .slice none 0 0, .slice sy xe sA, .int .i64 (0 : Int)] 123 (0, 0)))])) ⟨_, _, _, _, _, _, _, _, _, _, _, _, _, ⟨agr, hO, fr⟩, I8.u⟩ ?_
 refine fun X2 => p1 fun eG => p3 fun mV mW mX mY => fun H hX2 σ Ay hk => e4 fun xe sy sA xg => e4 fun sB sC xh sD => e4 fun sE xi sF sG => e1 fun sH => d1 fun hL => fun jx => d2 (fun hag hO hB => keep2 hk hag ?_) hL
 dsimp only [esets, sS, sZ] at hO hB jx
 dsimp only at H
 revert hO; repeat (rename Owns .. => q; clear q)
 intro hO; repeat (rename Sq .. => q; clear q)
 refine scm H (fun qU H => ?_) fun qU H => ?_
 ·refine sxls hO d8.u H.1 H.2.1 fun adK adL yR => ?_
  refine au ?_
  have zz := rowlend 3 hO rfl jx
  obtain ⟨I9, Ja⟩ := zz
  have hOc263 := hO.drop 3
  have adM := H.1
  have adN := H.2.1
  refine zcr (J01 body107 (by rw [Ja]; exact rfl) (J1C hOc263.lt I9 (yR.u.ch (Owns.J0c _ _ 3)) H.2.2)) fun _ adO => e1 fun r264 => sc0 hO fun s hO => fun H => ?_
  refine scm H (fun Qb H => ?_) fun Qb H => ?_
  ·refine au ?_
   refine drw 2 [(0, q0), (1, q1), (2, q0), (4, q1), (5, q0), (3, q2), (6, q2), (7, q0), (8, q2), (9, q3), (10, q0), (11, q3)] hO fun Cd s hO => ?_
   refine sag 4 hO ?_
   refine au ?_
   refine zcq rfl (J01 body137 rfl (J15 hO.lt H)) fun _ Oc => e1 fun r270 => sq0 hO fun s hO => d1 fun zl H => ?_
   have Jb := t2lend 5 hO rfl
   have mM := t2neq 5 hO rfl
   have hOc274 := hO.drop 5
   have zz := rowlend 3 hOc274 rfl (jx.u.ch (Owns.J0c _ _ 5))
   obtain ⟨Jc, Jd⟩ := zz
   have hOc277 := hOc274.drop 3
   have Je := t1lend 2 hOc277
   have Jf := t1n 2 hOc277
   have hOc280 := hOc277.drop 2
   have Jg := t1lend 1 hOc280
   have yP := t1n 1 hOc280
   have hOc283 := hOc280.drop 1
   have Jh := t1lend 0 hOc283
   have Ji := t1n 0 hOc283
   have hOc286 := hOc283.drop 0
   refine zcq rfl (J01 body106 (by rw [mM, Jd, Jf, yP, Ji]; exact rfl) (J0Y (e := (⟨((ix a0 (0 : Int)).length : Int), true, r20, mY, mX, mW, [], mV, (0 : Int)⟩ : Enum)) hOc286.lt ((((Jb.ch (Owns.J0c _ _ 3)).ch (Owns.J0c _ _ 2)).ch (Owns.J0c _ _ 1)).ch (Owns.J0c _ _ 0)) (((Jc.ch (Owns.J0c _ _ 2)).ch (Owns.J0c _ _ 1)).ch (Owns.J0c _ _ 0)) ((Je.ch (Owns.J0c _ _ 1)).ch (Owns.J0c _ _ 0)) (Jg.ch (Owns.J0c _ _ 0)) (ISl.null _ _ _) Jh H)) fun _ Bz => e1 fun xj => sq0 hO fun s hO => d1 fun zu H => ?_
   refine GoQ.pure rfl (J04 underlying185 ti185 (pl := [(0, 1), (1, 1)]) (vs := [(0, .string (gstr r270)), (1, .string (gstr xj))]) (cs := #[.string (gstr r270), .string (gstr xj)]) (by kernel_rfl) rfl (by kernel_rfl)) rfl rfl ?_
   refine sapF (⟨r270, xj⟩ : Rule) 0 hO H (fun _ Az MR MS s hO => ?_) (hok := by exact ⟨zl, zu⟩)
   refine sbs 4 hO fun MT s hO => ?_
   refine sinc (natbd qU d8.bd) ?_
   refine au ?_
   exact hX2 _ H.2 _ _ agr ⟨_, _, _, _, _, _, _, _, _, _, _, _, _, ⟨agr, hO, fr⟩, jx.u⟩
  refine au ?_
  refine drA (CSv.tr [(some ⟨b29, 3, none⟩), (some ⟨b29, 4, none⟩), (some ⟨b29, 5, none⟩)]) 1 [(0, m0), (1, m1), (3, m0), (7, m0), (8, m1), (9, m0), (12, m0), (13, m1), (14, m0), (2, m4), (4, m2), (5, m4), (6, m2), (17, m0), (10, m4), (11, m2), (15, m4), (16, m2), (18, m3), (19, m0), (20, m3), (21, m0), (22, m3)] hO fun vA s hO => ?_
  have m6 := hO.le
  have hw295 := (fr : Fr (bl []) w0 _ vA).ch.size
  refine au ?_
  refine GoQA.stable rfl (loadV (.head _) rfl (J00 4 hO rfl rfl) underlying23 rfl rfl) rfl rfl ?_
  refine au ?_
  refine au ?_
  refine GoQA.stable rfl (loadV (.tail _ (.head _)) rfl (J00 4 hO rfl rfl) underlying31 rfl rfl) rfl rfl ?_
  refine au ?_
  refine au ?_
  refine GoQA.stable rfl (loadV (.tail _ (.tail _ (.head _))) rfl (J00 4 hO rfl rfl) underlying31 rfl rfl) rfl rfl ?_
  refine au ?_
  refine GoQA.alloc rfl rfl (alBuild (n := 0) (parts := []) (vs := []) underlying31 ti3 (by decide) (by decide) (by decide) (by kernel_rfl) rfl rfl) ?_
  intro Qc A298 Qd A300 Jj Jk hd303 hnb304 hh305
  refine sgw Jj hO fun s hO => ?_
  have sI := elE (Rp.int .i64) [] (([] : List Int)) hO (Els.nil _ _ _)
  refine sgn (e := .row 3 1 (some ⟨Qd, 0, none⟩) 0 0 []) Jk hO m6 hw295 hnb304 rfl hh305 hd303 (fr : Fr (bl []) w0 _ Qc) fun s hO hB => ?_
  replace sI := sI.ch s.ch
  refine cl1 Fl.i 0 hO sI.u fun s hO => ?_
  refine GoQA.loudI rfl rfl fun MX A308 Jl => ?_
  refine sgw Jl hO fun s hO => ?_
  refine sapQ 0 hO yR.u H (fun adP l5 l7 s hO => ?_) (g := fun _ _ _ _ hv hst h => GoAt.step hv (fun _ => (CSv.cons (cs_eq (J00 5 hO rfl rfl) (J00 5 hst.own rfl rfl)) (CSv.cons (cs_eq (J00 5 hO rfl rfl) (J00 5 hst.own rfl rfl)) (CSv.cons (cs_eq (J00 5 hO rfl rfl) (J00 5 hst.own rfl rfl)) (CSv.nil _ _))))) (Stp.kp hO hst) rfl h)
  refine sfz 0 hO fun s hO Jm Jo => ?_
  refine GoQA.alloc rfl rfl (alBuild (n := 1) (parts := [(0, .slice l5 (0 + ((ix a0 (eG : Int)).length)) l7)]) (vs := [.slice l5 (0 + ((ix a0 (eG : Int)).length)) l7]) underlying23 ti31 (by decide) (by decide) (by decide) (by kernel_rfl) rfl rfl) ?_
  intro Qe A315 Qf A317 Jp Jq hd320 hnb321 hh322
  refine sgw Jp hO fun s hO => ?_
  have sJ := elE (Rp.sl (Rp.int .i64)) [.slice l5 (0 + ((ix a0 (eG : Int)).length)) l7] [(([] : List Int)) ++ (ix a0 (eG : Int))] hO (Els.cons rfl ⟨l5, l7, congrArg some (congrArg (fun nn => Value.slice l5 nn l7) Jo), Jm.u⟩ (Els.nil _ _ _) (by simp [mx]))
  refine sgn (e := .row 31 1 (some ⟨Qf, 0, none⟩) 1 1 [.slice l5 (0 + ((ix a0 (eG : Int)).length)) l7]) Jq hO m6 hw295 hnb321 rfl hh322 hd320 (fr : Fr (bl []) w0 _ Qe) fun s hO hB => ?_
  replace sJ := sJ.ch s.ch
  refine GoQA.loudI rfl rfl fun adQ A327 Jr => ?_
  refine sgw Jr hO fun s hO => ?_
  refine sfzR 0 hO sJ.u fun s hO Js Jt => ?_
  replace H := H.2
  obtain ⟨nW, H⟩ := H
  have zz := oapp underlying23 ti31 rfl 3 hO rfl jx.u Js Jt nW (by decide)
  obtain ⟨AH, M4, M5, Uc, jb, yS, CD⟩ := zz
  dsimp only [sS, sZ] at yS
  refine GoAt.step (CD (by exact rfl) (by exact rfl)) (fun _ => (CSv.cons (cs_eq (J00 4 hO rfl rfl) (J00 4 jb.own rfl rfl)) (CSv.cons (cs_eq (J00 4 hO rfl rfl) (J00 4 jb.own rfl rfl)) (CSv.cons (cs_eq (J00 4 hO rfl rfl) (J00 4 jb.own rfl rfl)) (CSv.nil _ _))))) (Stp.kp hO jb) rfl ?_
  refine nst jb fun s hO => ?_
  refine au ?_
  refine GoQA.alloc rfl rfl (alBuild (n := 1) (parts := [(0, .int .i64 (0 : Int))]) (vs := [.int .i64 (0 : Int)]) underlying31 ti3 (by decide) (by decide) (by decide) (by kernel_rfl) rfl rfl) ?_
  intro Qg A342 Qh A344 Ju Jv hd347 hnb348 hh349
  refine sgw Ju hO fun s hO => ?_
  have sK := elE (Rp.int .i64) [.int .i64 (0 : Int)] [(0 : Int)] hO (Els.cons rfl rfl (Els.nil _ _ _) (by simp [mx]))
  refine sgn (e := .row 3 1 (some ⟨Qh, 0, none⟩) 1 1 [.int .i64 (0 : Int)]) Jv hO m6 hw295 hnb348 rfl hh349 hd347 (fr : Fr (bl []) w0 _ Qg) fun s hO hB => ?_
  replace sK := sK.ch s.ch
  refine cl1 Fl.i 0 hO sK.u fun s hO => ?_
  refine GoQA.loudI rfl rfl fun Nd A352 Jw => ?_
  refine sgw Jw hO fun s hO => ?_
  refine sfz 0 hO fun s hO Jx Ud => ?_
  refine sapQ 2 hO Jx H (fun Oh adR adS s hO => ?_) (g := fun _ _ _ _ hv hst h => GoAt.step hv (fun _ => (CSv.cons (cs_eq (J00 4 hO rfl rfl) (J00 4 hst.own rfl rfl)) (CSv.cons (cs_eq (J00 4 hO rfl rfl) (J00 4 hst.own rfl rfl)) (CSv.cons (cs_eq (J00 4 hO rfl rfl) (J00 4 hst.own rfl rfl)) (CSv.nil _ _))))) (Stp.kp hO hst) rfl h)
  refine GoQA.alloc rfl rfl (alBuild (n := 1) (parts := [(0, .int .i64 (eG : Int))]) (vs := [.int .i64 (eG : Int)]) underlying31 ti3 (by decide) (by decide) (by decide) (by kernel_rfl) rfl rfl) ?_
  intro CE A361 Qi A363 Jy Jz hd366 hnb367 hh368
  refine sgw Jy hO fun s hO => ?_
  have sL := elE (Rp.int .i64) [.int .i64 (eG : Int)] [(eG : Int)] hO (Els.cons rfl rfl (Els.nil _ _ _) (by simp [mx]))
  refine sgn (e := .row 3 1 (some ⟨Qi, 0, none⟩) 1 1 [.int .i64 (eG : Int)]) Jz hO m6 hw295 hnb367 rfl hh368 hd366 (fr : Fr (bl []) w0 _ CE) fun s hO hB => ?_
  replace sL := sL.ch s.ch
  refine cl1 Fl.i 0 hO sL.u fun s hO => ?_
  refine GoQA.loudI rfl rfl fun adT A371 JA => ?_
  refine sgw JA hO fun s hO => ?_
  refine sfz 0 hO fun s hO JB Ue => ?_
  refine sapQ 1 hO JB H.2 (fun adU adV adW s hO => ?_) (g := fun _ _ _ _ hv hst h => GoAt.step hv (fun _ => (CSv.cons (cs_eq (J00 4 hO rfl rfl) (J00 4 hst.own rfl rfl)) (CSv.cons (cs_eq (J00 4 hO rfl rfl) (J00 4 hst.own rfl rfl)) (CSv.cons (cs_eq (J00 4 hO rfl rfl) (J00 4 hst.own rfl rfl)) (CSv.nil _ _))))) (Stp.kp hO hst) rfl h)
  refine GoQA.lastI rfl rfl fun adX A379 JC => ?_
  refine sgw JC hO fun s hO => ?_
  refine sbs 4 hO fun adY s hO => ?_
  refine au ?_
  refine GoQA.lastI rfl rfl fun OT A383 JD => ?_
  refine sgw JD hO fun s hO => ?_
  refine sbs 4 hO fun ad0 s hO => ?_
  refine au ?_
  refine GoQA.lastI rfl rfl fun Oj A387 JE => ?_
  refine sgw JE hO fun s hO => ?_
  refine sbs 4 hO fun ad1 s hO => ?_
  refine GoQA.nil fun ad2 A391 JF JG => ?_
  refine sgw JF hO fun s hO => ?_
  refine spm JG hO fun s hO => ?_
  refine au ?_
  refine sinc (natbd qU d8.bd) ?_
  refine au ?_
  exact hX2 _ H.2.2 _ _ agr ⟨_, _, _, _, _, _, _, _, _, _, _, _, _, ⟨agr, hO, fr⟩, yS.u⟩
 refine sag 4 hO ?_
 refine sba 6 hO fun Qj s hO => ?_
 refine au ?_
 refine sfz2 5 hO fun s hO JH JJ => ?_
 refine sfzR 3 hO jx.u fun s hO sM sN => ?_
 refine sfz 2 hO fun s hO kX mP => ?_
 refine sfz 1 hO fun s hO sO sP => ?_
 refine sfz 0 hO fun s hO sQ sR => ?_
 refine Go1.retC2 func135 rfl rfl (rlb 1 hO) ⟨((⟨((ix a0 (0 : Int)).length : Int), true, r20, mY, mX, mW, ([] : List (List Int)), mV, (0 : Int)⟩ : Enum)), _, _, _, _, _, _, _, _, _, _, _, _, _, ?_, frs, JH.r, sM.r, kX.r, sO.r, (ISl.null _ _ _), sQ.r, H⟩
 exact (congrArg (fun l => Value.tuple (List.toArray l)) (J02 (congrArg (fun l => Value.agg (List.toArray l)) (J02 rfl (J02 rfl (J02 (congrArg (fun nn => Value.slice eI nn eK) JJ) (J02 (congrArg (fun nn => Value.slice sF nn sG) sN) (J02 (congrArg (fun nn => Value.slice sD nn sE) mP) (J02 (congrArg (fun nn => Value.slice sB nn sC) sP) (J02 rfl (J02 (congrArg (fun nn => Value.slice sy nn sA) sR) (J02 rfl rfl)))))))))) (J02 rfl rfl)))
theorem body114 : Body prog 114 := ⟨f114, func114, rfl, by kernel_rfl⟩
theorem J5t {p_f p_g : Option Addr} {c_f c_g : Nat} {f g : List Int} (hA : HA0 A w0) (h_f : ISi A w0 p_f c_f f) (h_g : ISi A w0 p_g c_g g) {K : List Int → Prop} (H : J1x f g K) :
    CallsV prog 114 #[.slice p_f f.length c_f, .slice p_g g.length c_g] w0 (fun v w' => ∃ (r0 : List Int), ∃ (p_r0 : Option Addr), ∃ (c_r0 : Nat), v = .slice p_r0 r0.length c_r0 ∧ Same w0 w' ∧ ISi A w' p_r0 c_r0 r0 ∧ K r0) := by
 refine cal hA func114 ntmps114 fun hO hB => ?_
 unfold J1x at H
 refine sln0 ?_
 refine smk Fl.i (H h_f.bd) hO fun w1 p4 s hO => ?_
 refine sln0 ?_
 refine au ?_
 refine lv [1, 5, 11, 12] hO (H h_f.bd).2.2 (fun E (bB, out1_8) σ w => Lo A w0 σ w [(13, .int .i64 (bB : Int))] [t1 Fl.i 3 p4 f.length f.length out1_8]) ⟨agr, hO, fr⟩ ?_
 refine fun X1 => p1 fun bB out1_8 => fun H hX1 σ w6 hk => d2 fun hag hO hB => keep2 hk hag ?_
 dsimp only at H
 revert hO; repeat (rename Owns .. => q; clear q)
 intro hO; repeat (rename Sq .. => q; clear q)
 refine scm H (fun h9 H => ?_) fun h9 H => ?_
 ·refine sxl hO h_f.u H.1 H.2.1 ?_
  refine sxl hO h_g.u H.2.2.1 H.2.2.2.1 ?_
  refine six1 0 hO H.2.2.2.2.1 H.2.2.2.2.2.1 ?_
  refine sst (u := (ix g (ix f (bB : Int)))) 0 hO H.2.2.2.2.1 H.2.2.2.2.2.1 fun w10 s hO => ?_
  refine sinc (natbd h9 h_f.bd) ?_
  refine au ?_
  exact hX1 _ H.2.2.2.2.2.2 _ _ agr ⟨agr, hO, fr⟩
 refine au ?_
 refine sfz 0 hO fun s hO xk wX => ?_
 refine Go1.ret1 func114 rfl ⟨_, _, _, ?_, frs, xk.r, H⟩
 exact (congrArg (fun nn => Value.slice p4 nn f.length) wX)
theorem body136 : Body prog 136 := ⟨f136, func136, rfl, by kernel_rfl⟩
theorem J5k {fy ld jO mo li lk : Option Addr} {fA lg jP mq lj lm : Nat} {a0 : Enum} {a1 : Int} (hA : HA0 A w0) (dE : ISs A w0 fy fA a0.Gens) (sT : ISs A w0 ld lg a0.Elems) (oU : ISi A w0 jO jP a0.Prefix) (tP : ISi A w0 mo mq a0.Last) (sU : ISs A w0 li lj a0.Right) (sV : ISl (rpRule) A w0 lk lm a0.Rules) {K : Enum → Int → Prop} (H : J1B a0 a1 K) :
    CallsV prog 136 #[.agg #[.int .i64 a0.Points, .bool a0.Monoid, .slice fy a0.Gens.length fA, .slice ld a0.Elems.length lg, .slice jO a0.Prefix.length jP, .slice mo a0.Last.length mq, .slice li a0.Right.length lj, .slice lk a0.Rules.length lm, .int .i64 a0.Done], .int .i64 a1] w0 (fun v w' => ∃ (r0 : Enum), ∃ (r1 : Int), ∃ (cY : Option Addr), ∃ (c8 : Nat), ∃ (cJ : Option Addr), ∃ (cK : Nat), ∃ (cB : Option Addr), ∃ (cC : Nat), ∃ (db : Option Addr), ∃ (de : Nat), ∃ (cL : Option Addr), ∃ (cM : Nat), ∃ (cN : Option Addr), ∃ (cO : Nat), v = .tuple #[.agg #[.int .i64 r0.Points, .bool r0.Monoid, .slice cY r0.Gens.length c8, .slice cJ r0.Elems.length cK, .slice cB r0.Prefix.length cC, .slice db r0.Last.length de, .slice cL r0.Right.length cM, .slice cN r0.Rules.length cO, .int .i64 r0.Done], .int .i64 r1] ∧ Same w0 w' ∧ ISs A w' cY c8 r0.Gens ∧ ISs A w' cJ cK r0.Elems ∧ ISi A w' cB cC r0.Prefix ∧ ISi A w' db de r0.Last ∧ ISs A w' cL cM r0.Right ∧ ISl (rpRule) A w' cN cO r0.Rules ∧ K r0 r1) := by
 refine cal hA func136 ntmps136 fun hO hB => ?_
 unfold J1B at H
 refine sbx hO fun w1 B2 s hO => ?_
 refine sal hO fun w4 B5 s hO => ?_
 refine au ?_
 refine drA (CSv.tr [(some ⟨B2, 0, none⟩), (some ⟨B2, 1, none⟩), (some ⟨B2, 2, none⟩), (some ⟨B2, 3, none⟩), (some ⟨B2, 4, none⟩), (some ⟨B2, 5, none⟩), (some ⟨B2, 6, none⟩), (some ⟨B2, 7, none⟩), (some ⟨B2, 8, none⟩)]) 1 [(0, m0), (1, m1), (2, m0), (3, m1), (4, m0), (5, m1), (7, m0), (8, m1), (11, m0), (12, m1), (15, m0), (16, m1), (19, m0), (20, m1), (23, m0), (24, m1), (26, m0), (27, m1), (6, m4), (9, m2), (10, m4), (13, m2), (14, m4), (17, m2), (18, m4), (21, m2), (22, m4), (25, m2), (28, m0), (29, m4), (30, m3)] hO fun w7 s hO => ?_
 have hn8 := hO.le
 have hw9 := (fr : Fr (bl []) w0 _ w7).ch.size
 refine au ?_
 refine GoQA.stable rfl (loadV (.head _) rfl (J00 1 hO rfl rfl) underlying3 rfl rfl) rfl rfl ?_
 refine au ?_
 refine GoQA.stable rfl (loadV (.tail _ (.head _)) rfl (J00 1 hO rfl rfl) underlying4 rfl rfl) rfl rfl ?_
 refine au ?_
 refine GoQA.stable rfl (loadV (.tail _ (.tail _ (.head _))) rfl (J00 1 hO rfl rfl) underlying23 rfl rfl) rfl rfl ?_
 refine au ?_
 refine GoQA.stable rfl (loadV (.tail _ (.tail _ (.tail _ (.head _)))) rfl (J00 1 hO rfl rfl) underlying23 rfl rfl) rfl rfl ?_
 refine au ?_
 refine GoQA.stable rfl (loadV (.tail _ (.tail _ (.tail _ (.tail _ (.head _))))) rfl (J00 1 hO rfl rfl) underlying31 rfl rfl) rfl rfl ?_
 refine au ?_
 refine GoQA.stable rfl (loadV (.tail _ (.tail _ (.tail _ (.tail _ (.tail _ (.head _)))))) rfl (J00 1 hO rfl rfl) underlying31 rfl rfl) rfl rfl ?_
 refine au ?_
 refine GoQA.stable rfl (loadV (.tail _ (.tail _ (.tail _ (.tail _ (.tail _ (.tail _ (.head _))))))) rfl (J00 1 hO rfl rfl) underlying23 rfl rfl) rfl rfl ?_
 refine au ?_
 refine GoQA.stable rfl (loadV (.tail _ (.tail _ (.tail _ (.tail _ (.tail _ (.tail _ (.tail _ (.head _)))))))) rfl (J00 1 hO rfl rfl) underlying121 rfl rfl) rfl rfl ?_
 refine au ?_
 refine GoQA.stable rfl (loadV (.tail _ (.tail _ (.tail _ (.tail _ (.tail _ (.tail _ (.tail _ (.tail _ (.head _))))))))) rfl (J00 1 hO rfl rfl) underlying3 rfl rfl) rfl rfl ?_
 refine GoQA.alloc rfl rfl (alBuild (n := 0) (parts := []) (vs := []) underlying23 ti31 (by decide) (by decide) (by decide) (by kernel_rfl) rfl rfl) ?_
 intro w11 A12 b13 A14 xl xm hd17 hnb18 hh19
 refine sgw xl hO fun s hO => ?_
 have ko := elE (Rp.sl (Rp.int .i64)) [] (([] : List (List Int))) hO (Els.nil _ _ _)
 refine sgn (e := .row 31 1 (some ⟨b13, 0, none⟩) 0 0 []) xm hO hn8 hw9 hnb18 rfl hh19 hd17 (fr : Fr (bl []) w0 _ w11) fun s hO hB => ?_
 replace ko := ko.ch s.ch
 refine GoQA.loudI rfl rfl fun w21 A22 xn => ?_
 refine sgw xn hO fun s hO => ?_
 obtain ⟨h24, H⟩ := H
 have zz := oapp underlying23 ti31 rfl 0 hO rfl ko.u sT.u rfl h24 (by decide)
 obtain ⟨w25, p26, c27, Qk, fK, fw, JK⟩ := zz
 dsimp only [sS, sZ] at fw
 refine GoAt.step (JK (by exact rfl) (by exact rfl)) (fun _ => (CSv.cons (cs_eq (J00 2 hO rfl rfl) (J00 2 fK.own rfl rfl)) (CSv.cons (cs_eq (J00 2 hO rfl rfl) (J00 2 fK.own rfl rfl)) (CSv.cons (cs_eq (J00 2 hO rfl rfl) (J00 2 fK.own rfl rfl)) (CSv.cons (cs_eq (J00 2 hO rfl rfl) (J00 2 fK.own rfl rfl)) (CSv.cons (cs_eq (J00 2 hO rfl rfl) (J00 2 fK.own rfl rfl)) (CSv.cons (cs_eq (J00 2 hO rfl rfl) (J00 2 fK.own rfl rfl)) (CSv.cons (cs_eq (J00 2 hO rfl rfl) (J00 2 fK.own rfl rfl)) (CSv.cons (cs_eq (J00 2 hO rfl rfl) (J00 2 fK.own rfl rfl)) (CSv.cons (cs_eq (J00 2 hO rfl rfl) (J00 2 fK.own rfl rfl)) (CSv.nil _ _))))))))))) (Stp.kp hO fK) rfl ?_
 refine nst fK fun s hO => ?_
 refine GoQA.alloc rfl rfl (alBuild (n := 0) (parts := []) (vs := []) underlying31 ti3 (by decide) (by decide) (by decide) (by kernel_rfl) rfl rfl) ?_
 intro w34 A35 b36 A37 xa Ql hd40 hnb41 hh42
 refine sgw xa hO fun s hO => ?_
 have xo := elE (Rp.int .i64) [] (([] : List Int)) hO (Els.nil _ _ _)
 refine sgn (e := .row 3 1 (some ⟨b36, 0, none⟩) 0 0 []) Ql hO hn8 hw9 hnb41 rfl hh42 hd40 (fr : Fr (bl []) w0 _ w34) fun s hO hB => ?_
 replace xo := xo.ch s.ch
 refine cl1 Fl.i 0 hO xo.u fun s hO => ?_
 refine GoQA.loudI rfl rfl fun w44 A45 Qm => ?_
 refine sgw Qm hO fun s hO => ?_
 refine sapQ 0 hO oU.u H (fun w47 p48 c49 s hO => ?_) (g := fun _ _ _ _ hv hst h => GoAt.step hv (fun _ => (CSv.cons (cs_eq (J00 3 hO rfl rfl) (J00 3 hst.own rfl rfl)) (CSv.cons (cs_eq (J00 3 hO rfl rfl) (J00 3 hst.own rfl rfl)) (CSv.cons (cs_eq (J00 3 hO rfl rfl) (J00 3 hst.own rfl rfl)) (CSv.cons (cs_eq (J00 3 hO rfl rfl) (J00 3 hst.own rfl rfl)) (CSv.cons (cs_eq (J00 3 hO rfl rfl) (J00 3 hst.own rfl rfl)) (CSv.cons (cs_eq (J00 3 hO rfl rfl) (J00 3 hst.own rfl rfl)) (CSv.cons (cs_eq (J00 3 hO rfl rfl) (J00 3 hst.own rfl rfl)) (CSv.cons (cs_eq (J00 3 hO rfl rfl) (J00 3 hst.own rfl rfl)) (CSv.cons (cs_eq (J00 3 hO rfl rfl) (J00 3 hst.own rfl rfl)) (CSv.nil _ _))))))))))) (Stp.kp hO hst) rfl h)
 refine GoQA.alloc rfl rfl (alBuild (n := 0) (parts := []) (vs := []) underlying31 ti3 (by decide) (by decide) (by decide) (by kernel_rfl) rfl rfl) ?_
 intro w51 A52 b53 A54 Qn Qo hd57 hnb58 hh59
 refine sgw Qn hO fun s hO => ?_
 have xp := elE (Rp.int .i64) [] (([] : List Int)) hO (Els.nil _ _ _)
 refine sgn (e := .row 3 1 (some ⟨b53, 0, none⟩) 0 0 []) Qo hO hn8 hw9 hnb58 rfl hh59 hd57 (fr : Fr (bl []) w0 _ w51) fun s hO hB => ?_
 replace xp := xp.ch s.ch
 refine cl1 Fl.i 0 hO xp.u fun s hO => ?_
 refine GoQA.loudI rfl rfl fun w61 A62 Qp => ?_
 refine sgw Qp hO fun s hO => ?_
 refine sapQ 0 hO tP.u H.2 (fun w64 p65 c66 s hO => ?_) (g := fun _ _ _ _ hv hst h => GoAt.step hv (fun _ => (CSv.cons (cs_eq (J00 4 hO rfl rfl) (J00 4 hst.own rfl rfl)) (CSv.cons (cs_eq (J00 4 hO rfl rfl) (J00 4 hst.own rfl rfl)) (CSv.cons (cs_eq (J00 4 hO rfl rfl) (J00 4 hst.own rfl rfl)) (CSv.cons (cs_eq (J00 4 hO rfl rfl) (J00 4 hst.own rfl rfl)) (CSv.cons (cs_eq (J00 4 hO rfl rfl) (J00 4 hst.own rfl rfl)) (CSv.cons (cs_eq (J00 4 hO rfl rfl) (J00 4 hst.own rfl rfl)) (CSv.cons (cs_eq (J00 4 hO rfl rfl) (J00 4 hst.own rfl rfl)) (CSv.cons (cs_eq (J00 4 hO rfl rfl) (J00 4 hst.own rfl rfl)) (CSv.cons (cs_eq (J00 4 hO rfl rfl) (J00 4 hst.own rfl rfl)) (CSv.nil _ _))))))))))) (Stp.kp hO hst) rfl h)
 refine GoQA.alloc rfl rfl (alBuild (n := 0) (parts := []) (vs := []) underlying23 ti31 (by decide) (by decide) (by decide) (by kernel_rfl) rfl rfl) ?_
 intro w68 A69 b70 A71 Qq Qr hd74 hnb75 hh76
 refine sgw Qq hO fun s hO => ?_
 have xq := elE (Rp.sl (Rp.int .i64)) [] (([] : List (List Int))) hO (Els.nil _ _ _)
 refine sgn (e := .row 31 1 (some ⟨b70, 0, none⟩) 0 0 []) Qr hO hn8 hw9 hnb75 rfl hh76 hd74 (fr : Fr (bl []) w0 _ w68) fun s hO hB => ?_
 replace xq := xq.ch s.ch
 refine GoQA.loudI rfl rfl fun w78 A79 Qs => ?_
 refine sgw Qs hO fun s hO => ?_
 replace H := H.2.2
 obtain ⟨h81, H⟩ := H
 have zz := oapp underlying23 ti31 rfl 0 hO rfl xq.u sU.u rfl h81 (by decide)
 obtain ⟨w82, p83, c84, Qt, fL, gN, JL⟩ := zz
 dsimp only [sS, sZ] at gN
 refine GoAt.step (JL (by exact rfl) (by exact rfl)) (fun _ => (CSv.cons (cs_eq (J00 5 hO rfl rfl) (J00 5 fL.own rfl rfl)) (CSv.cons (cs_eq (J00 5 hO rfl rfl) (J00 5 fL.own rfl rfl)) (CSv.cons (cs_eq (J00 5 hO rfl rfl) (J00 5 fL.own rfl rfl)) (CSv.cons (cs_eq (J00 5 hO rfl rfl) (J00 5 fL.own rfl rfl)) (CSv.cons (cs_eq (J00 5 hO rfl rfl) (J00 5 fL.own rfl rfl)) (CSv.cons (cs_eq (J00 5 hO rfl rfl) (J00 5 fL.own rfl rfl)) (CSv.cons (cs_eq (J00 5 hO rfl rfl) (J00 5 fL.own rfl rfl)) (CSv.cons (cs_eq (J00 5 hO rfl rfl) (J00 5 fL.own rfl rfl)) (CSv.cons (cs_eq (J00 5 hO rfl rfl) (J00 5 fL.own rfl rfl)) (CSv.nil _ _))))))))))) (Stp.kp hO fL) rfl ?_
 refine nst fL fun s hO => ?_
 refine GoQA.alloc rfl rfl (alBuild (n := 0) (parts := []) (vs := []) underlying121 ti185 (by decide) (by decide) (by decide) (by kernel_rfl) rfl rfl) ?_
 intro w91 A92 b93 A94 wU Qu hd97 hnb98 hh99
 refine sgw wU hO fun s hO => ?_
 have g5 := elE (rpRule) [] (([] : List Rule)) hO (Els.nil _ _ _)
 refine sgn (e := .row 185 2 (some ⟨b93, 0, none⟩) 0 0 []) Qu hO hn8 hw9 hnb98 rfl hh99 hd97 (fr : Fr (bl []) w0 _ w91) fun s hO hB => ?_
 replace g5 := g5.ch s.ch
 refine cl1 (id Fl.fl : Fl rpRule) 0 hO g5.u fun s hO => ?_
 refine GoQA.loudI rfl rfl fun ux A102 JM => ?_
 refine sgw JM hO fun s hO => ?_
 refine sapQ 0 hO sV.u H (fun uM CF CG s hO => ?_) (g := fun _ _ _ _ hv hst h => GoAt.step hv (fun _ => (CSv.cons (cs_eq (J00 6 hO rfl rfl) (J00 6 hst.own rfl rfl)) (CSv.cons (cs_eq (J00 6 hO rfl rfl) (J00 6 hst.own rfl rfl)) (CSv.cons (cs_eq (J00 6 hO rfl rfl) (J00 6 hst.own rfl rfl)) (CSv.cons (cs_eq (J00 6 hO rfl rfl) (J00 6 hst.own rfl rfl)) (CSv.cons (cs_eq (J00 6 hO rfl rfl) (J00 6 hst.own rfl rfl)) (CSv.cons (cs_eq (J00 6 hO rfl rfl) (J00 6 hst.own rfl rfl)) (CSv.cons (cs_eq (J00 6 hO rfl rfl) (J00 6 hst.own rfl rfl)) (CSv.cons (cs_eq (J00 6 hO rfl rfl) (J00 6 hst.own rfl rfl)) (CSv.cons (cs_eq (J00 6 hO rfl rfl) (J00 6 hst.own rfl rfl)) (CSv.nil _ _))))))))))) (Stp.kp hO hst) rfl h)
 refine GoQA.pure rfl (J04 underlying123 ti123 (pl := [(0, 1), (1, 1), (2, 1), (3, 1), (4, 1), (5, 1), (6, 1), (7, 1), (8, 1)]) (vs := [(0, .int .i64 a0.Points), (1, .bool a0.Monoid), (2, .slice fy a0.Gens.length fA), (3, .slice p26 (0 + a0.Elems.length) c27), (4, .slice p48 (0 + a0.Prefix.length) c49), (5, .slice p65 (0 + a0.Last.length) c66), (6, .slice p83 (0 + a0.Right.length) c84), (7, .slice CF (0 + a0.Rules.length) CG), (8, .int .i64 a0.Done)]) (cs := #[.int .i64 a0.Points, .bool a0.Monoid, .slice fy a0.Gens.length fA, .slice p26 (0 + a0.Elems.length) c27, .slice p48 (0 + a0.Prefix.length) c49, .slice p65 (0 + a0.Last.length) c66, .slice p83 (0 + a0.Right.length) c84, .slice CF (0 + a0.Rules.length) CG, .int .i64 a0.Done]) (by kernel_rfl) rfl (by kernel_rfl)) rfl rfl ?_
 refine GoQA.alloc rfl rfl (alAlloc (cs := #[.int .i64 (0 : Int), .bool false, .slice none 0 0, .slice none 0 0, .slice none 0 0, .slice none 0 0, .slice none 0 0, .slice none 0 0, .int .i64 (0 : Int)]) ti123 rfl) ?_
 intro zy A109 kq A111 sn sq hd114 hnb115 hh116
 refine sgw sn hO fun s hO => ?_
 refine sgn (e := .blk kq (.cells #[.int .i64 (0 : Int), .bool false, .slice none 0 0, .slice none 0 0, .slice none 0 0, .slice none 0 0, .slice none 0 0, .slice none 0 0, .int .i64 (0 : Int)] 123 (0, 0))) sq hO hn8 hw9 hnb115 rfl hh116 hd114 (fr : Fr (bl []) w0 _ zy) fun s hO hB => ?_
 refine GoQA.lastI rfl rfl fun ql A118 sb => ?_
 refine sgw sb hO fun s hO => ?_
 refine sba 0 hO fun qD s hO => ?_
 refine GoQA.nil fun nj A122 sd se => ?_
 refine sgw sd hO fun s hO => ?_
 refine spm se hO fun s hO => ?_
 refine au ?_
 have hB := (fr : Fr (bl []) w0 _ nj)
 replace fw := fw.o hO
 replace gN := gN.o hO
 revert hO; repeat (rename Owns .. => q; clear q)
 intro hO; repeat (rename Sq .. => q; clear q)
 refine au ?_
 have zz := omakeMap (fun a : List UInt8 => Value.string (gstr a)) (fun a : Int => Value.int .i64 a) hO
 obtain ⟨Ae, B126, CH, Uf, CJ⟩ := zz
 refine zg CJ ?_
 refine nst CH fun s hO => ?_
 refine au ?_
 refine zo (J0M underlying23 rfl (Els.neqW fw.u hO 6 rfl)) ?_
 refine au ?_
 refine snil Fl.str 9 hO fun s hO => ?_
 refine sdr [9] hO fun s hO => ?_
 refine lv [1, 4, 6, 7, 50] hO H.2 (fun E (lr, sW, tQ) σ w => ∃ xr rE rF, (fun Z => Lo A w0 σ w [(8, .slice rE xr rF), (51, .int .i64 (lr : Int))] Z ∧ Els (Rp.sl (Rp.int .i64)) (bl Z ++ A) w Qt ((([] : List (List Int))) ++ a0.Right) ∧ Els (Rp.sl (Rp.int .i64)) (bl Z ++ A) w Qk ((([] : List (List Int))) ++ a0.Elems)) (esets E [(0, t1 Fl.str 9 rE xr rF sW), (1, .any (mapE (fun a : List UInt8 => Value.string (gstr a)) (fun a : Int => Value.int .i64 a) B126 tQ))])) ⟨_, _, _, ⟨agr, hO, fr⟩, gN.u, fw.u⟩ ?_
 refine fun X1 => p2 fun lr sW tQ => fun H hX1 σ ad3 hk => e3 fun xr rE rF => d1 fun hL => d1 fun gN fw => d2 (fun hag hO hB => keep2 hk hag ?_) hL
 dsimp only [esets, sS, sZ] at hO hB gN fw
 dsimp only at H
 revert hO; repeat (rename Owns .. => q; clear q)
 intro hO; repeat (rename Sq .. => q; clear q)
 refine scm H (fun CK H => ?_) fun CK H => ?_
 ·refine sag 2 hO ?_
  refine au ?_
  have zz := rowlend 7 hO rfl fw
  obtain ⟨JN, JO⟩ := zz
  have hOc142 := hO.drop 7
  have JP := t1lend 6 hOc142
  have qn := t1n 6 hOc142
  have hOc145 := hOc142.drop 6
  have JQ := t1lend 5 hOc145
  have yf := t1n 5 hOc145
  have hOc148 := hOc145.drop 5
  have zz := rowlend 4 hOc148 rfl (((gN.ch (Owns.J0c _ _ 7)).ch (Owns.J0c _ _ 6)).ch (Owns.J0c _ _ 5))
  obtain ⟨JS, JT⟩ := zz
  have hOc151 := hOc148.drop 4
  have JU := t1lend 3 hOc151
  have qo := t1n 3 hOc151
  have hOc154 := hOc151.drop 3
  refine zcr (J01 body106 (by rw [JO, qn, yf, JT, qo]; exact rfl) (J0Y (e := (⟨a0.Points, a0.Monoid, a0.Gens, (([] : List (List Int))) ++ a0.Elems, (([] : List Int)) ++ a0.Prefix, (([] : List Int)) ++ a0.Last, (([] : List (List Int))) ++ a0.Right, (([] : List Rule)) ++ a0.Rules, a0.Done⟩ : Enum)) hOc154.lt (((((dE.u.ch (Owns.J0c _ _ 7)).ch (Owns.J0c _ _ 6)).ch (Owns.J0c _ _ 5)).ch (Owns.J0c _ _ 4)).ch (Owns.J0c _ _ 3)) ((((JN.ch (Owns.J0c _ _ 6)).ch (Owns.J0c _ _ 5)).ch (Owns.J0c _ _ 4)).ch (Owns.J0c _ _ 3)) (((JP.ch (Owns.J0c _ _ 5)).ch (Owns.J0c _ _ 4)).ch (Owns.J0c _ _ 3)) ((JQ.ch (Owns.J0c _ _ 4)).ch (Owns.J0c _ _ 3)) (JS.ch (Owns.J0c _ _ 3)) JU H)) fun _ LN => e1 fun CM => sc0 hO fun s hO => d1 fun zw H => ?_
  refine sap1 CM 0 hO H (fun _ Np ad4 ad5 s hO => ?_) (hR := by exact fun _ _ => ⟨rfl, zw⟩)
  refine sxl1 0 hO H.2.1 H.2.2.1 ?_
  have hle160 := t1le 0 hO H.2.1 H.2.2.1
  refine au ?_
  have zz := omapUpd (MK.str underlying9) 1 hO rfl underlying154 (ix (sW ++ ([CM])) (lr : Int)) (lr : Int)
  obtain ⟨NY, CO, CP⟩ := zz
  refine zg (CP (by exact rfl) (by exact rfl) (by exact rfl)) ?_
  refine nst CO fun s hO => ?_
  refine sinc (natbd CK fw.bd) ?_
  refine au ?_
  exact hX1 _ H.2.2.2 _ _ agr ⟨_, _, _, ⟨agr, hO, fr⟩, gN.u, fw.u⟩
 refine au ?_
 refine lv [4, 6, 7] hO H (fun E (tR, cV, fX, tS, d_172, d_176, m7, m8, m9) σ w => ∃ xt xv xw xz jX lO sX l8 l9 na xA ke kg xB ou ov xC ow oA sY, (fun Z => Lo A w0 σ w [(1, .int .i64 tR), (8, .slice xv xt xw)] Z ∧ Els (Rp.sl (Rp.int .i64)) (bl Z ++ A) w na d_176 ∧ Els (Rp.sl (Rp.int .i64)) (bl Z ++ A) w sY m9) (esets E [(0, t1 Fl.str 9 xv xt xw fX), (1, .any (mapE (fun a : List UInt8 => Value.string (gstr a)) (fun a : Int => Value.int .i64 a) B126 tS)), (2, .blk kq (.cells #[.int .i64 a0.Points, .bool a0.Monoid, .slice fy a0.Gens.length fA, .slice ow xC oA, .slice ou xB ov, .slice ke xA kg, .slice l8 sX l9, .slice jX xz lO, .int .i64 cV] 123 (0, 0))), (3, t1 (id Fl.fl : Fl rpRule) 185 jX xz lO d_172), (4, .row 31 1 l8 sX l9 na), (5, t1 Fl.i 3 ke xA kg m7), (6, t1 Fl.i 3 ou xB ov m8), (7, .row 31 1 ow xC oA sY)])) ⟨_, _, _, _, _, _, _, _, _, _, _, _, _, _, _, _, _, _, _, _, ⟨agr, hO, fr⟩, gN.u, fw.u⟩ ?_
 refine fun X2 => p1 fun tR => p1 fun cV => p1 fun fX => p1 fun tS => p1 fun d_172 => p3 fun d_176 m7 m8 m9 => fun H hX2 σ pt hk => e4 fun xt xv xw xz => e4 fun jX lO sX l8 => e4 fun l9 na xA ke => e4 fun kg xB ou ov => e4 fun xC ow oA sY => d1 fun hL => d1 fun fm lA => d2 (fun hag hO hB => keep2 hk hag ?_) hL
 dsimp only [esets, sS, sZ] at hO hB fm lA
 dsimp only at H
 revert hO; repeat (rename Owns .. => q; clear q)
 intro hO; repeat (rename Sq .. => q; clear q)
 refine scm H (fun zY H => ?_) fun zY H => ?_
 ·refine au ?_
  refine zo (J0M underlying23 rfl (Els.neqW lA hO 7 rfl)) ?_
  refine scm H (fun z3 H => ?_) fun z3 H => ?_
  ·refine sxl1 0 hO H.1 H.2.1 ?_
   have hle198 := t1le 0 hO H.1 H.2.1
   refine sln0 ?_
   refine au ?_
   refine snil Fl.i 3 hO fun s hO => ?_
   refine lv [1, 4, 6, 7, 11, 86] hO (H.2.2 dE.bd) (fun E (gU, d_202, lB, oB, yT, yU, yV, nb) σ w => ∃ oC kr kt xD xE xF xG xH xI xJ xK xL xM qr qt xN xO xP ta, (fun Z => Lo A w0 σ w [(8, .slice xE xD xF), (10, .slice kr oC kt), (87, .int .i64 (gU : Int))] Z ∧ Els (Rp.sl (Rp.int .i64)) (bl Z ++ A) w na d_176 ∧ Els (Rp.sl (Rp.int .i64)) (bl Z ++ A) w ta nb) (esets E [(0, t1 Fl.i 3 kr oC kt d_202), (1, t1 Fl.str 9 xE xD xF lB), (2, .any (mapE (fun a : List UInt8 => Value.string (gstr a)) (fun a : Int => Value.int .i64 a) B126 oB)), (3, .blk kq (.cells #[.int .i64 a0.Points, .bool a0.Monoid, .slice fy a0.Gens.length fA, .slice xO xN xP, .slice qr xM qt, .slice xK xJ xL, .slice l8 sX l9, .slice xH xG xI, .int .i64 cV] 123 (0, 0))), (4, t1 (id Fl.fl : Fl rpRule) 185 xH xG xI yT), (6, t1 Fl.i 3 xK xJ xL yU), (7, t1 Fl.i 3 qr xM qt yV), (8, .row 31 1 xO xN xP ta)])) ⟨_, _, _, _, _, _, _, _, _, _, _, _, _, _, _, _, _, _, _, ⟨agr, hO, fr⟩, fm.u, lA.u⟩ ?_
   refine fun X3 => p1 fun gU => p1 fun d_202 => p1 fun lB => p1 fun oB => p3 fun yT yU yV nb => fun H hX3 σ ad6 hk => e4 fun oC kr kt xD => e4 fun xE xF xG xH => e4 fun xI xJ xK xL => e4 fun xM qr qt xN => e3 fun xO xP ta => d1 fun hL => d1 fun fm d5 => d2 (fun hag hO hB => keep2 hk hag ?_) hL
   dsimp only [esets, sS, sZ] at hO hB fm d5
   dsimp only at H
   revert hO; repeat (rename Owns .. => q; clear q)
   intro hO; repeat (rename Sq .. => q; clear q)
   refine scm H (fun i5 H => ?_) fun i5 H => ?_
   ·refine au ?_
    refine drs 0 [q0, q1, q0, q1, q0, q1, q0, q1, q0, q0, q1, q2, q0] hO fun vE s hO => ?_
    refine au ?_
    obtain ⟨xQ, H⟩ := H
    obtain ⟨xR, H⟩ := H
    refine GoQ.pure rfl (J05 underlying23 ti31 rfl rfl xQ (ltn (Els.neqW d5.u hO 8 rfl) xR) (Els.psomeW d5.u hO 8 rfl xQ xR)) rfl rfl ?_
    have zz := oldSl 8 hO rfl d5.u xQ xR
    obtain ⟨ad7, ad8, JV, JW⟩ := zz
    refine GoQ.stable rfl (JW underlying31 rfl rfl) rfl rfl ?_
    refine sxls hO dE.u H.1 H.2.1 fun ad9 aea JX => ?_
    have aeb := H.1
    have aec := H.2.1
    refine zcq rfl (J01 body114 rfl (J5t hO.lt JV JX.u H.2.2)) fun _ aed => e3 fun oD jc jd => sq0 hO fun s hO => d1 fun tT H => ?_
    refine au ?_
    have zz := rowlend 8 hO rfl d5.u
    obtain ⟨JY, J0⟩ := zz
    have hOc246 := hO.drop 8
    refine zcr (J01 body107 (by rw [J0]; exact rfl) (J1C hOc246.lt JY (tT.ch (Owns.J0c _ _ 8)) H)) fun _ aee => e1 fun ku => sc0 hO fun s hO => fun H => ?_
    refine au ?_
    refine zcr (J01 body137 rfl (J15 hO.lt H)) fun _ N9 => e1 fun je => sc0 hO fun s hO => d1 fun Ro H => ?_
    obtain ⟨xS, H⟩ := H
    refine zo (J0a rfl rfl xS) ?_
    refine scm H (fun Qv H => ?_) fun Qv H => ?_
    ·refine au ?_
     refine zo (J0M underlying23 rfl (Els.neqW d5.u hO 8 rfl)) ?_
     refine scm H (fun Qw H => ?_) fun Qw H => ?_
     ·refine au ?_
      refine zo (J04 underlying123 ti123 (pl := [(0, 1), (1, 1), (2, 1), (3, 1), (4, 1), (5, 1), (6, 1), (7, 1), (8, 1)]) (vs := []) (cs := #[.int .i64 (0 : Int), .bool false, .slice none 0 0, .slice none 0 0, .slice none 0 0, .slice none 0 0, .slice none 0 0, .slice none 0 0, .int .i64 (0 : Int)]) (by kernel_rfl) rfl (by kernel_rfl)) ?_
      refine sba 9 hO fun aef s hO => ?_
      refine au ?_
      refine Go1.retC2 func136 rfl rfl (rlb 9 hO) ⟨((⟨(0 : Int), false, ([] : List (List Int)), ([] : List (List Int)), ([] : List Int), ([] : List Int), ([] : List (List Int)), ([] : List Rule), (0 : Int)⟩ : Enum)), _, _, _, _, _, _, _, _, _, _, _, _, _, er, frs, (ISl.null _ _ _), (ISl.null _ _ _), (ISl.null _ _ _), (ISl.null _ _ _), (ISl.null _ _ _), (ISl.null _ _ _), H⟩
     refine au ?_
     refine zo (J0M underlying23 rfl (Els.neqW d5.u hO 8 rfl)) ?_
     refine au ?_
     refine drA (CSv.tr [(some ⟨kq, 3, none⟩), (some ⟨kq, 4, none⟩), (some ⟨kq, 8, none⟩), (some ⟨kq, 5, none⟩)]) 1 [(0, m0), (1, m1), (2, m0), (5, m0), (6, m1), (7, m0), (8, m1), (11, m0), (12, m1), (13, m0), (3, m4), (4, m2), (16, m0), (9, m4), (10, m2), (14, m4), (15, m2), (17, m3), (18, m0), (19, m3), (20, m0), (21, m3)] hO fun v9 s hO => ?_
     have tc := hO.le
     have hw257 := (fr : Fr (bl []) w0 _ v9).ch.size
     refine au ?_
     refine GoQA.stable rfl (loadV (.head _) rfl (J00 3 hO rfl rfl) underlying23 rfl rfl) rfl rfl ?_
     refine au ?_
     refine au ?_
     refine GoQA.stable rfl (loadV (.tail _ (.head _)) rfl (J00 3 hO rfl rfl) underlying31 rfl rfl) rfl rfl ?_
     refine au ?_
     refine GoQA.stable rfl (loadV (.tail _ (.tail _ (.head _))) rfl (J00 3 hO rfl rfl) underlying3 rfl rfl) rfl rfl ?_
     refine au ?_
     refine GoQA.stable rfl (loadV (.tail _ (.tail _ (.tail _ (.head _)))) rfl (J00 3 hO rfl rfl) underlying31 rfl rfl) rfl rfl ?_
     refine au ?_
     refine GoQA.alloc rfl rfl (alBuild (n := 1) (parts := [(0, .slice jc oD.length jd)]) (vs := [.slice jc oD.length jd]) underlying23 ti31 (by decide) (by decide) (by decide) (by kernel_rfl) rfl rfl) ?_
     intro Qx A260 Qy A262 J1 J2 hd265 hnb266 hh267
     refine sgw J1 hO fun s hO => ?_
     have fk := elE (Rp.sl (Rp.int .i64)) [.slice jc oD.length jd] [oD] hO (Els.cons rfl ⟨jc, jd, rfl, tT.u⟩ (Els.nil _ _ _) (by simp [mx]))
     refine sgn (e := .row 31 1 (some ⟨Qy, 0, none⟩) 1 1 [.slice jc oD.length jd]) J2 hO tc hw257 hnb266 rfl hh267 hd265 (fr : Fr (bl []) w0 _ Qx) fun s hO hB => ?_
     replace fk := fk.ch s.ch
     refine GoQA.loudI rfl rfl fun Cd A270 J3 => ?_
     refine sgw J3 hO fun s hO => ?_
     refine sfzR 0 hO fk.u fun s hO rJ mM => ?_
     obtain ⟨nI, H⟩ := H
     have zz := oapp underlying23 ti31 rfl 8 hO rfl d5.u rJ mM nI (by decide)
     obtain ⟨aeg, MJ, ML, G8, iq, yW, CQ⟩ := zz
     dsimp only [sS, sZ] at yW
     refine GoAt.step (CQ (by exact rfl) (by exact rfl)) (fun _ => (CSv.cons (cs_eq (J00 3 hO rfl rfl) (J00 3 iq.own rfl rfl)) (CSv.cons (cs_eq (J00 3 hO rfl rfl) (J00 3 iq.own rfl rfl)) (CSv.cons (cs_eq (J00 3 hO rfl rfl) (J00 3 iq.own rfl rfl)) (CSv.cons (cs_eq (J00 3 hO rfl rfl) (J00 3 iq.own rfl rfl)) (CSv.nil _ _)))))) (Stp.kp hO iq) rfl ?_
     refine nst iq fun s hO => ?_
     refine au ?_
     refine GoQA.alloc rfl rfl (alBuild (n := 1) (parts := [(0, .int .i64 cV)]) (vs := [.int .i64 cV]) underlying31 ti3 (by decide) (by decide) (by decide) (by kernel_rfl) rfl rfl) ?_
     intro Qz A285 QA A287 J4 J5 hd290 hnb291 hh292
     refine sgw J4 hO fun s hO => ?_
     have te := elE (Rp.int .i64) [.int .i64 cV] [cV] hO (Els.cons rfl rfl (Els.nil _ _ _) (by simp [mx]))
     refine sgn (e := .row 3 1 (some ⟨QA, 0, none⟩) 1 1 [.int .i64 cV]) J5 hO tc hw257 hnb291 rfl hh292 hd290 (fr : Fr (bl []) w0 _ Qz) fun s hO hB => ?_
     replace te := te.ch s.ch
     refine cl1 Fl.i 0 hO te.u fun s hO => ?_
     refine GoQA.loudI rfl rfl fun aeh A295 J6 => ?_
     refine sgw J6 hO fun s hO => ?_
     refine sfz 0 hO fun s hO J7 Ug => ?_
     refine sapQ 7 hO J7 H (fun AA aei aej s hO => ?_) (g := fun _ _ _ _ hv hst h => GoAt.step hv (fun _ => (CSv.cons (cs_eq (J00 3 hO rfl rfl) (J00 3 hst.own rfl rfl)) (CSv.cons (cs_eq (J00 3 hO rfl rfl) (J00 3 hst.own rfl rfl)) (CSv.cons (cs_eq (J00 3 hO rfl rfl) (J00 3 hst.own rfl rfl)) (CSv.cons (cs_eq (J00 3 hO rfl rfl) (J00 3 hst.own rfl rfl)) (CSv.nil _ _)))))) (Stp.kp hO hst) rfl h)
     refine GoQA.alloc rfl rfl (alBuild (n := 1) (parts := [(0, .int .i64 (gU : Int))]) (vs := [.int .i64 (gU : Int)]) underlying31 ti3 (by decide) (by decide) (by decide) (by kernel_rfl) rfl rfl) ?_
     intro QB A304 QC A306 J8 J9 hd309 hnb310 hh311
     refine sgw J8 hO fun s hO => ?_
     have tf := elE (Rp.int .i64) [.int .i64 (gU : Int)] [(gU : Int)] hO (Els.cons rfl rfl (Els.nil _ _ _) (by simp [mx]))
     refine sgn (e := .row 3 1 (some ⟨QC, 0, none⟩) 1 1 [.int .i64 (gU : Int)]) J9 hO tc hw257 hnb310 rfl hh311 hd309 (fr : Fr (bl []) w0 _ QB) fun s hO hB => ?_
     replace tf := tf.ch s.ch
     refine cl1 Fl.i 0 hO tf.u fun s hO => ?_
     refine GoQA.loudI rfl rfl fun vB A314 Ka => ?_
     refine sgw Ka hO fun s hO => ?_
     refine sfz 0 hO fun s hO rK Hc => ?_
     refine sapQ 6 hO rK H.2 (fun OK OL OM s hO => ?_) (g := fun _ _ _ _ hv hst h => GoAt.step hv (fun _ => (CSv.cons (cs_eq (J00 3 hO rfl rfl) (J00 3 hst.own rfl rfl)) (CSv.cons (cs_eq (J00 3 hO rfl rfl) (J00 3 hst.own rfl rfl)) (CSv.cons (cs_eq (J00 3 hO rfl rfl) (J00 3 hst.own rfl rfl)) (CSv.cons (cs_eq (J00 3 hO rfl rfl) (J00 3 hst.own rfl rfl)) (CSv.nil _ _)))))) (Stp.kp hO hst) rfl h)
     refine GoQA.lastI rfl rfl fun aek A322 Kb => ?_
     refine sgw Kb hO fun s hO => ?_
     refine sbs 3 hO fun ael s hO => ?_
     refine au ?_
     refine GoQA.lastI rfl rfl fun aem A326 Kc => ?_
     refine sgw Kc hO fun s hO => ?_
     refine sbs 3 hO fun ON s hO => ?_
     refine au ?_
     refine GoQA.lastI rfl rfl fun aen A330 Kd => ?_
     refine sgw Kd hO fun s hO => ?_
     refine sbs 3 hO fun AH s hO => ?_
     refine GoQA.nil fun BG A334 Ke Kf => ?_
     refine sgw Ke hO fun s hO => ?_
     refine spm Kf hO fun s hO => ?_
     refine au ?_
     refine au ?_
     refine sap1 (((ix fX cV) ++ je)) 1 hO H.2.2 (fun _ Og aeo aep s hO => ?_) (hR := by exact fun _ _ => ⟨rfl, (lenApp xS)⟩)
     refine au ?_
     have zz := omapUpd (MK.str underlying9) 2 hO rfl underlying154 ((ix fX cV) ++ je) (nb.length : Int)
     obtain ⟨AI, CR, CT⟩ := zz
     refine zg (CT (by exact rfl) (by exact rfl) (by exact rfl)) ?_
     refine nst CR fun s hO => ?_
     refine au ?_
     refine sap1 ((nb.length : Int)) 0 hO H.2.2.2 fun _ AK OO aeq s hO => ?_
     refine sinc (natbd i5 dE.bd) ?_
     refine au ?_
     exact hX3 _ H.2.2.2.2 _ _ agr ⟨_, _, _, _, _, _, _, _, _, _, _, _, _, _, _, _, _, _, _, ⟨agr, hO, fr⟩, fm.u, yW.u⟩
    refine scm H (fun nX H => ?_) fun nX H => ?_
    ·refine au ?_
     refine sap1 ku 0 hO H fun _ M9 aer aes s hO => ?_
     refine sinc (natbd i5 dE.bd) ?_
     refine au ?_
     exact hX3 _ H.2 _ _ agr ⟨_, _, _, _, _, _, _, _, _, _, _, _, _, _, _, _, _, _, _, ⟨agr, hO, fr⟩, fm.u, d5.u⟩
    refine six1 1 hO H.1 H.2.1 ?_
    refine sld1 1 hO H.1 H.2.1 ?_
    have hle350 := t1le 1 hO H.1 H.2.1
    refine au ?_
    have Cf := H.1
    have lU := H.2.1
    refine scm H.2.2 (fun kh H => ?_) fun kh H => ?_
    ·refine au ?_
     refine sap1 ku 0 hO H fun _ aet aeu aev s hO => ?_
     refine sinc (natbd i5 dE.bd) ?_
     refine au ?_
     exact hX3 _ H.2 _ _ agr ⟨_, _, _, _, _, _, _, _, _, _, _, _, _, _, _, _, _, _, _, ⟨agr, hO, fr⟩, fm.u, d5.u⟩
    refine au ?_
    obtain ⟨QD, H⟩ := H
    obtain ⟨QE, H⟩ := H
    refine zo (J9y underlying9 rfl rfl QD QE) ?_
    by_cases gV : mhas oB ((((ix fX cV) ++ je).drop (1 : Int).toNat)) = true
    ·refine zs (olookT (a := (((ix fX cV) ++ je).drop (1 : Int).toNat)) (MK.str underlying9) 2 hO rfl underlying154 rfl rfl gV) ?_
     refine au ?_
     refine drs 3 [q0, q1, q0, q0, q0, q0, q1, q0, q2, q3, q0, q3] hO fun CE s hO => ?_
     refine sxl1 1 hO (ifp gV H).1 (ifp gV H).2.1 ?_
     have hle361 := t1le 1 hO (ifp gV H).1 (ifp gV H).2.1
     refine GoQ.pure rfl (J04 underlying185 ti185 (pl := [(0, 1), (1, 1)]) (vs := [(0, .string (gstr ((ix fX cV) ++ je))), (1, .string (gstr (ix lB ku)))]) (cs := #[.string (gstr ((ix fX cV) ++ je)), .string (gstr (ix lB ku))]) (by kernel_rfl) rfl (by kernel_rfl)) rfl rfl ?_
     refine sapF (⟨(ix fX cV) ++ je, ix lB ku⟩ : Rule) 4 hO (ifp gV H).2.2 (fun _ aew aex aey s hO => ?_) (hok := by exact ⟨(lenApp xS), hle361⟩)
     refine sbs 3 hO fun aez s hO => ?_
     refine au ?_
     refine sap1 ku 0 hO (ifp gV H).2.2.2 fun _ aeA aeB aeC s hO => ?_
     refine sinc (natbd i5 dE.bd) ?_
     refine au ?_
     exact hX3 _ (ifp gV H).2.2.2.2 _ _ agr ⟨_, _, _, _, _, _, _, _, _, _, _, _, _, _, _, _, _, _, _, ⟨agr, hO, fr⟩, fm.u, d5.u⟩
    refine zs (olookF (a := (((ix fX cV) ++ je).drop (1 : Int).toNat)) (MK.str underlying9) 2 hO rfl underlying154 ti3 rfl rfl gV) ?_
    refine au ?_
    refine sap1 ku 0 hO (ifn gV H) fun _ OP OQ OR s hO => ?_
    refine sinc (natbd i5 dE.bd) ?_
    refine au ?_
    exact hX3 _ (ifn gV H).2 _ _ agr ⟨_, _, _, _, _, _, _, _, _, _, _, _, _, _, _, _, _, _, _, ⟨agr, hO, fr⟩, fm.u, d5.u⟩
   refine au ?_
   refine sfz 0 hO fun s hO Kg Kh => ?_
   have zz := J1P (r := Rp.sl (Rp.int .i64)) (n := 1) (parts := [(0, .slice kr oC kt)]) (vs := [.slice kr oC kt]) (xs := [d_202]) rfl underlying23 ti31 hO (by decide) (by kernel_rfl) (Els.cons rfl ⟨kr, kt, congrArg some (congrArg (fun nn => Value.slice kr nn kt) Kh), Kg⟩ (Els.nil _ _ _) (by simp [mx])) rfl
   obtain ⟨aeD, aeE, CU, Ki, Uh, CV⟩ := zz
   refine zg (CV rfl) ?_
   refine nst CU fun s hO => ?_
   refine sfzR 0 hO Ki.u fun s hO Kj Kk => ?_
   obtain ⟨QF, H⟩ := H
   have zz := oapp underlying23 ti31 rfl 4 hO rfl fm.u Kj Kk QF (by decide)
   obtain ⟨aeF, aeG, aeH, Ui, CW, yX, CX⟩ := zz
   dsimp only [sS, sZ] at yX
   refine zg (CX (by exact rfl) (by exact rfl)) ?_
   refine nst CW fun s hO => ?_
   refine sbs 2 hO fun aeI s hO => ?_
   refine au ?_
   obtain ⟨wu, H⟩ := H
   refine zo (J03 rfl rfl (wrap_i64 wu)) ?_
   refine sbs 2 hO fun Qj s hO => ?_
   refine au ?_
   obtain ⟨QG, H⟩ := H
   refine zo (J9z rfl rfl (wrap_i64 QG)) ?_
   refine au ?_
   exact hX2 _ H _ _ agr ⟨_, _, _, _, _, _, _, _, _, _, _, _, _, _, _, _, _, _, _, _, ⟨agr, hO, fr⟩, yX.u, d5.u⟩
  refine sag 2 hO ?_
  refine sba 8 hO fun OV s hO => ?_
  refine au ?_
  refine sfzR 7 hO lA.u fun s hO sM sN => ?_
  refine sfz 6 hO fun s hO kX mP => ?_
  refine sfz 5 hO fun s hO sO sP => ?_
  refine sfzR 4 hO fm.u fun s hO sQ sR => ?_
  refine sfz 3 hO fun s hO Kl Km => ?_
  refine Go1.retC2 func136 rfl rfl (rlb 3 hO) ⟨((⟨a0.Points, a0.Monoid, a0.Gens, m9, m8, m7, d_176, d_172, cV⟩ : Enum)), _, _, _, _, _, _, _, _, _, _, _, _, _, ?_, frs, dE.r, sM.r, kX.r, sO.r, sQ.r, Kl.r, H⟩
  exact (congrArg (fun l => Value.tuple (List.toArray l)) (J02 (congrArg (fun l => Value.agg (List.toArray l)) (J02 rfl (J02 rfl (J02 rfl (J02 (congrArg (fun nn => Value.slice ow nn oA) sN) (J02 (congrArg (fun nn => Value.slice ou nn ov) mP) (J02 (congrArg (fun nn => Value.slice ke nn kg) sP) (J02 (congrArg (fun nn => Value.slice l8 nn l9) sR) (J02 (congrArg (fun nn => Value.slice jX nn lO) Km) (J02 rfl rfl)))))))))) (J02 rfl rfl)))
 refine sag 2 hO ?_
 refine sba 8 hO fun aeJ s hO => ?_
 refine au ?_
 refine sfzR 7 hO lA.u fun s hO Kn Ko => ?_
 refine sfz 6 hO fun s hO Kq Kr => ?_
 refine sfz 5 hO fun s hO iG Ks => ?_
 refine sfzR 4 hO fm.u fun s hO Kt Ku => ?_
 refine sfz 3 hO fun s hO Kv Kw => ?_
 refine Go1.retC2 func136 rfl rfl (rlb 3 hO) ⟨((⟨a0.Points, a0.Monoid, a0.Gens, m9, m8, m7, d_176, d_172, cV⟩ : Enum)), _, _, _, _, _, _, _, _, _, _, _, _, _, ?_, frs, dE.r, Kn.r, Kq.r, iG.r, Kt.r, Kv.r, H⟩
 exact (congrArg (fun l => Value.tuple (List.toArray l)) (J02 (congrArg (fun l => Value.agg (List.toArray l)) (J02 rfl (J02 rfl (J02 rfl (J02 (congrArg (fun nn => Value.slice ow nn oA) Ko) (J02 (congrArg (fun nn => Value.slice ou nn ov) Kr) (J02 (congrArg (fun nn => Value.slice ke nn kg) Ks) (J02 (congrArg (fun nn => Value.slice l8 nn l9) Ku) (J02 (congrArg (fun nn => Value.slice jX nn lO) Kw) (J02 rfl rfl)))))))))) (J02 rfl rfl)))
theorem body104 : Body prog 104 := ⟨f104, func104, rfl, by kernel_rfl⟩
theorem J5Z {eN : Option Addr} {eO : Nat} {gens : List (List Int)} {monoid : Bool} (hA : HA0 A w0) (eP : ISs A w0 eN eO gens) {K : Enum → Int → Prop} (H : J34 gens monoid K) :
    CallsV prog 104 #[.slice eN gens.length eO, .bool monoid] w0 (fun v w' => ∃ (r0 : Enum), ∃ (r1 : Int), ∃ (cY : Option Addr), ∃ (c8 : Nat), ∃ (cJ : Option Addr), ∃ (cK : Nat), ∃ (cB : Option Addr), ∃ (cC : Nat), ∃ (db : Option Addr), ∃ (de : Nat), ∃ (cL : Option Addr), ∃ (cM : Nat), ∃ (cN : Option Addr), ∃ (cO : Nat), v = .tuple #[.agg #[.int .i64 r0.Points, .bool r0.Monoid, .slice cY r0.Gens.length c8, .slice cJ r0.Elems.length cK, .slice cB r0.Prefix.length cC, .slice db r0.Last.length de, .slice cL r0.Right.length cM, .slice cN r0.Rules.length cO, .int .i64 r0.Done], .int .i64 r1] ∧ Same w0 w' ∧ ISs A w' cY c8 r0.Gens ∧ ISs A w' cJ cK r0.Elems ∧ ISi A w' cB cC r0.Prefix ∧ ISi A w' db de r0.Last ∧ ISs A w' cL cM r0.Right ∧ ISl (rpRule) A w' cN cO r0.Rules ∧ K r0 r1) := by
 refine cal hA func104 ntmps104 fun hO hB => ?_
 unfold J34 at H
 refine sal hO fun w1 B2 s hO => ?_
 refine au ?_
 refine zcr (J01 body135 rfl (J60 hO.lt eP.u H)) fun _ w6 => e4 fun r4 r5 gv gx => e4 fun fM fN e9 fe => e4 fun gy gz fO fP => e2 fun fQ fR => sc0 hO fun s hO => d1 fun cS => d1 fun bX => d4 fun cz cU cG cH H => ?_
 refine sal hO fun w7 B8 s hO => ?_
 refine sba 0 hO fun w10 s hO => ?_
 refine scm H (fun h11 H => ?_) fun h11 H => ?_
 ·refine sag 0 hO ?_
  refine zcr (J01 body136 rfl (J5k hO.lt cS.u bX.u cz.u cU.u cG.u cH.u H)) fun _ w14 => e4 fun r12 r13 Kx Ky => e4 fun DY D3 C0 C1 => e4 fun Kz KA D4 D5 => e2 fun D6 D7 => sc0 hO fun s hO => d1 fun tg => d1 fun oV => d4 fun oE tj oW oX H => ?_
  refine sba 1 hO fun w15 s hO => ?_
  refine au ?_
  refine Go1.retC2 func104 rfl rfl (rlb 1 hO) ⟨((⟨r12.Points, r12.Monoid, r12.Gens, r12.Elems, r12.Prefix, r12.Last, r12.Right, r12.Rules, r12.Done⟩ : Enum)), _, _, _, _, _, _, _, _, _, _, _, _, _, er, frs, tg.r, oV.r, oE.r, tj.r, oW.r, oX.r, H⟩
 refine au ?_
 refine zo (J04 underlying123 ti123 (pl := [(0, 1), (1, 1), (2, 1), (3, 1), (4, 1), (5, 1), (6, 1), (7, 1), (8, 1)]) (vs := []) (cs := #[.int .i64 (0 : Int), .bool false, .slice none 0 0, .slice none 0 0, .slice none 0 0, .slice none 0 0, .slice none 0 0, .slice none 0 0, .int .i64 (0 : Int)]) (by kernel_rfl) rfl (by kernel_rfl)) ?_
 refine sba 1 hO fun w16 s hO => ?_
 refine au ?_
 refine Go1.retC2 func104 rfl rfl (rlb 1 hO) ⟨((⟨(0 : Int), false, ([] : List (List Int)), ([] : List (List Int)), ([] : List Int), ([] : List Int), ([] : List (List Int)), ([] : List Rule), (0 : Int)⟩ : Enum)), _, _, _, _, _, _, _, _, _, _, _, _, _, er, frs, (ISl.null _ _ _), (ISl.null _ _ _), (ISl.null _ _ _), (ISl.null _ _ _), (ISl.null _ _ _), (ISl.null _ _ _), H⟩
theorem body105 : Body prog 105 := ⟨f105, func105, rfl, by kernel_rfl⟩
theorem J61 {gP gi fI gR gk gn : Option Addr} {gQ gj fJ gS gm gq : Nat} {e : Enum} (hA : HA0 A w0) (oo : ISs A w0 gP gQ e.Gens) (gt : ISs A w0 gi gj e.Elems) (iJ : ISi A w0 fI fJ e.Prefix) (gT : ISi A w0 gR gS e.Last) (i9 : ISs A w0 gk gm e.Right) (mm : ISl (rpRule) A w0 gn gq e.Rules) {K : List (List Int) → Prop} (H : J2Y e K) :
    CallsV prog 105 #[.agg #[.int .i64 e.Points, .bool e.Monoid, .slice gP e.Gens.length gQ, .slice gi e.Elems.length gj, .slice fI e.Prefix.length fJ, .slice gR e.Last.length gS, .slice gk e.Right.length gm, .slice gn e.Rules.length gq, .int .i64 e.Done]] w0 (fun v w' => ∃ (r0 : List (List Int)), ∃ (p_r0 : Option Addr), ∃ (c_r0 : Nat), v = .slice p_r0 r0.length c_r0 ∧ Same w0 w' ∧ ISs A w' p_r0 c_r0 r0 ∧ K r0) := by
 refine cal hA func105 ntmps105 fun hO hB => ?_
 unfold J2Y at H
 refine sbx hO fun w1 B2 s hO => ?_
 refine sln0 ?_
 refine au ?_
 have nF := Stp.nil (e := 31) (r := 1) hO
 refine nst nF fun s hO => ?_
 have hE6 := elN (Rp.sl (Rp.int .i64)) hO
 refine lv [1, 12] hO (H gt.bd) (fun E (k1_8, out1_9) σ w => ∃ n14 p12 c13 fE, (fun Z => Lo A w0 σ w [(3, .slice p12 n14 c13), (13, .int .i64 (k1_8 : Int))] Z ∧ Els (Rp.sl (Rp.int .i64)) (bl Z ++ A) w fE out1_9) (E.set 0 (.row 31 1 p12 n14 c13 fE))) ⟨_, _, _, _, ⟨agr, hO, fr⟩, hE6.u⟩ ?_
 refine fun X1 => p1 fun k1_8 out1_9 => fun H hX1 σ w7 hk => e4 fun n14 p12 c13 fE => d1 fun hL => fun ci => d2 (fun hag hO hB => keep2 hk hag ?_) hL
 dsimp only [esets, sS, sZ] at hO hB ci
 dsimp only at H
 revert hO; repeat (rename Owns .. => q; clear q)
 intro hO; repeat (rename Sq .. => q; clear q)
 refine scm H (fun h15 H => ?_) fun h15 H => ?_
 ·refine sln0 ?_
  refine au ?_
  refine snil Fl.i 3 hO fun s hO => ?_
  refine lv [1, 3, 4, 12, 13, 18] hO H (fun E (jv, row2_19) σ w => ∃ n22 p20 c21, (fun Z => Lo A w0 σ w [(5, .slice p20 n22 c21), (19, .int .i64 (jv : Int))] Z ∧ Els (Rp.sl (Rp.int .i64)) (bl Z ++ A) w fE out1_9) (E.set 0 (t1 Fl.i 3 p20 n22 c21 row2_19))) ⟨_, _, _, ⟨agr, hO, fr⟩, ci.u⟩ ?_
  refine fun X2 => p1 fun jv row2_19 => fun H hX2 σ w17 hk => e3 fun n22 p20 c21 => d1 fun hL => fun ci => d2 (fun hag hO hB => keep2 hk hag ?_) hL
  dsimp only [esets, sS, sZ] at hO hB ci
  dsimp only at H
  revert hO; repeat (rename Owns .. => q; clear q)
  intro hO; repeat (rename Sq .. => q; clear q)
  refine scm H (fun h23 H => ?_) fun h23 H => ?_
  ·refine sag 2 hO ?_
   refine au ?_
   refine zcr (J01 body106 rfl (J0Y hO.lt oo.u gt.u iJ.u gT.u i9.u mm.u H)) fun _ w25 => e1 fun r24 => sc0 hO fun s hO => d1 fun tU H => ?_
   refine au ?_
   refine lv [1, 3, 4, 5, 7, 12, 13, 18, 19] hO H (fun E (at3_27, i3_28) σ w => (fun Z => Lo A w0 σ w [(8, .int .i64 at3_27), (9, .int .i64 (i3_28 : Int))] Z ∧ Els (Rp.sl (Rp.int .i64)) (bl Z ++ A) w fE out1_9) E) ⟨⟨agr, hO, fr⟩, ci.u⟩ ?_
   refine fun X3 => p1 fun at3_27 i3_28 => fun H hX3 σ w26 hk => d1 fun hL => fun ci => d2 (fun hag hO hB => keep2 hk hag ?_) hL
   dsimp only at H
   revert hO; repeat (rename Owns .. => q; clear q)
   intro hO; repeat (rename Sq .. => q; clear q)
   refine au ?_
   refine zo (JaC underlying9 rfl) ?_
   replace H := H tU
   refine scm H (fun h29 H => ?_) fun h29 H => ?_
   ·refine au ?_
    refine drs 0 [q0, q1, q0, q0, q1, q0, q0, q0, q0, q0, q0, q1, q0] hO fun w30 s hO => ?_
    refine sxls hO i9.u H.1 H.2.1 fun p31 c32 lL => ?_
    refine au ?_
    have h34 := H.1
    have h35 := H.2.1
    replace H := H.2.2
    obtain ⟨h36, H⟩ := H
    obtain ⟨h37, H⟩ := H
    refine GoQ.pure rfl (J9F underlying9 rfl rfl h36 h37) rfl rfl ?_
    refine GoQ.pure rfl (J9z rfl rfl rfl) rfl rfl ?_
    refine GoQ.pure rfl (J3M underlying5 underlying3 rfl rfl) rfl rfl ?_
    refine sxl hO lL.u H.1 H.2.1 ?_
    refine sinc (natbd h29 tU) ?_
    refine au ?_
    exact hX3 _ H.2.2 _ _ agr ⟨⟨agr, hO, fr⟩, ci.u⟩
   refine au ?_
   refine sap1 at3_27 0 hO H fun _ w38 p39 c40 s hO => ?_
   refine sinc (natbd h23 gt.bd) ?_
   refine au ?_
   exact hX2 _ H.2 _ _ agr ⟨_, _, _, ⟨agr, hO, fr⟩, ci.u⟩
  refine au ?_
  refine sfz 0 hO fun s hO lM QH => ?_
  have zz := J1P (r := Rp.sl (Rp.int .i64)) (n := 1) (parts := [(0, .slice p20 n22 c21)]) (vs := [.slice p20 n22 c21]) (xs := [row2_19]) rfl underlying23 ti31 hO (by decide) (by kernel_rfl) (Els.cons rfl ⟨p20, c21, congrArg some (congrArg (fun nn => Value.slice p20 nn c21) QH), lM⟩ (Els.nil _ _ _) (by simp [mx])) rfl
  obtain ⟨w43, p44, ss, xb, aeK, sr⟩ := zz
  refine zg (sr rfl) ?_
  refine nst ss fun s hO => ?_
  refine sfzR 0 hO xb fun s hO fC sk => ?_
  obtain ⟨h52, H⟩ := H
  have zz := oapp underlying23 ti31 rfl 0 hO rfl ci.u fC sk h52 (by decide)
  obtain ⟨w53, p54, c55, aeL, KB, C2, pX⟩ := zz
  dsimp only [sS, sZ] at C2
  refine zg (pX (by exact rfl) (by exact rfl)) ?_
  refine nst KB fun s hO => ?_
  refine sinc (natbd h15 gt.bd) ?_
  refine au ?_
  exact hX1 _ H _ _ agr ⟨_, _, _, _, ⟨agr, hO, fr⟩, C2⟩
 refine au ?_
 refine sfzR 0 hO ci.u fun s hO QI rY => ?_
 refine Go1.ret1 func105 rfl ⟨_, _, _, ?_, frs, QI.r, H⟩
 exact (congrArg (fun nn => Value.slice p12 nn c13) rY)
theorem body138 : Body prog 138 := ⟨f138, func138, rfl, by kernel_rfl⟩
theorem J6J {p_l : Option Addr} {c_l : Nat} {l : List Int} {n : Int} (hA : HA0 A w0) (h_l : ISi A w0 p_l c_l l) {K : List Bool → Prop} (H : J4n l n K) :
    CallsV prog 138 #[.slice p_l l.length c_l, .int .i64 n] w0 (fun v w' => ∃ (r0 : List Bool), ∃ (d6 : Nat), ∃ (p_r0 : Option Addr), ∃ (c_r0 : Nat), v = .slice p_r0 d6 c_r0 ∧ Same w0 w' ∧ Owns w0.heap.size w' [t1 Fl.bool 4 p_r0 d6 c_r0 r0] A ∧ K r0) := by
 refine cal hA func138 ntmps138 fun hO hB => ?_
 unfold J4n at H
 refine smk Fl.bool H hO fun w1 p4 s hO => ?_
 refine sln0 ?_
 refine au ?_
 refine lv [1, 5, 10, 11] hO (H.2.2 h_l.bd) (fun E (bB, out1_8) σ w => Lo A w0 σ w [(12, .int .i64 (bB : Int))] [t1 Fl.bool 4 p4 n.toNat n.toNat out1_8]) ⟨agr, hO, fr⟩ ?_
 refine fun X1 => p1 fun bB out1_8 => fun H hX1 σ w6 hk => d2 fun hag hO hB => keep2 hk hag ?_
 dsimp only at H
 revert hO; repeat (rename Owns .. => q; clear q)
 intro hO; repeat (rename Sq .. => q; clear q)
 refine scm H (fun h9 H => ?_) fun h9 H => ?_
 ·refine sxl hO h_l.u H.1 H.2.1 ?_
  refine au ?_
  have h10 := H.1
  have h11 := H.2.1
  refine scm H.2.2 (fun h12 H => ?_) fun h12 H => ?_
  ·refine scm H (fun h13 H => ?_) fun h13 H => ?_
   ·refine six1 0 hO H.1 H.2.1 ?_
    refine sst (u := true) 0 hO H.1 H.2.1 fun w14 s hO => ?_
    refine sinc (natbd h9 h_l.bd) ?_
    refine au ?_
    exact hX1 _ H.2.2 _ _ agr ⟨agr, hO, fr⟩
   refine sinc (natbd h9 h_l.bd) ?_
   refine au ?_
   exact hX1 _ H _ _ agr ⟨agr, hO, fr⟩
  refine sinc (natbd h9 h_l.bd) ?_
  refine au ?_
  exact hX1 _ H _ _ agr ⟨agr, hO, fr⟩
 refine au ?_
 refine Go1.ret1 func138 rfl ⟨_, _, _, _, er, frs, hO, H⟩
theorem body58 : Body prog 58 := ⟨f58, func58, rfl, by kernel_rfl⟩
theorem J5q {tV : Option Addr} {tW : Nat} {set_ : List Bool} (hA : HA0 A w0) (lC : ISb A w0 tV tW set_) {K : List Int → Prop} (H : J1A set_ K) :
    CallsV prog 58 #[.slice tV set_.length tW] w0 (fun v w' => ∃ (r0 : List Int), ∃ (d6 : Nat), ∃ (p_r0 : Option Addr), ∃ (c_r0 : Nat), v = .slice p_r0 d6 c_r0 ∧ Same w0 w' ∧ Owns w0.heap.size w' [t1 Fl.i 3 p_r0 d6 c_r0 r0] A ∧ K r0) := by
 refine cal hA func58 ntmps58 fun hO hB => ?_
 unfold J1A at H
 refine sln0 ?_
 refine au ?_
 refine snil Fl.i 3 hO fun s hO => ?_
 refine lv [6, 7] hO (H lC.bd) (fun E (k1_3, C3) σ w => ∃ n7 p5 c6, Lo A w0 σ w [(3, .slice p5 n7 c6), (8, .int .i64 (k1_3 : Int))] [t1 Fl.i 3 p5 n7 c6 C3]) ⟨_, _, _, ⟨agr, hO, fr⟩⟩ ?_
 refine fun X1 => p1 fun k1_3 C3 => fun H hX1 σ w2 hk => e3 fun n7 p5 c6 => d2 fun hag hO hB => keep2 hk hag ?_
 dsimp only at H
 revert hO; repeat (rename Owns .. => q; clear q)
 intro hO; repeat (rename Sq .. => q; clear q)
 refine scm H (fun h8 H => ?_) fun h8 H => ?_
 ·refine au ?_
  have h9 := H.1
  have h10 := H.2.1
  refine sxb hO lC.u H.1 H.2.1 H.2.2 (fun h11 H => ?_) fun h11 H => ?_
  ·refine au ?_
   refine sap1 ((k1_3 : Int)) 0 hO H fun _ w12 p13 c14 s hO => ?_
   refine sinc (natbd h8 lC.bd) ?_
   refine au ?_
   exact hX1 _ H.2 _ _ agr ⟨_, _, _, ⟨agr, hO, fr⟩⟩
  refine sinc (natbd h8 lC.bd) ?_
  refine au ?_
  exact hX1 _ H _ _ agr ⟨_, _, _, ⟨agr, hO, fr⟩⟩
 refine au ?_
 refine Go1.ret1 func58 rfl ⟨_, _, _, _, er, frs, hO, H⟩
theorem body108 : Body prog 108 := ⟨f108, func108, rfl, by kernel_rfl⟩
theorem J4H {p_t eN : Option Addr} {c_t eO : Nat} {t : List (List Int)} {gens : List Int} (hA : HA0 A w0) (h_t : ISs A w0 p_t c_t t) (eP : ISi A w0 eN eO gens) {K : List Int → Prop} (H : J13 t gens K) :
    CallsV prog 108 #[.slice p_t t.length c_t, .slice eN gens.length eO] w0 (fun v w' => ∃ (r0 : List Int), ∃ (d6 : Nat), ∃ (p_r0 : Option Addr), ∃ (c_r0 : Nat), v = .slice p_r0 d6 c_r0 ∧ Same w0 w' ∧ Owns w0.heap.size w' [t1 Fl.i 3 p_r0 d6 c_r0 r0] A ∧ K r0) := by
 refine cal hA func108 ntmps108 fun hO hB => ?_
 unfold J13 at H
 refine sln0 ?_
 refine zcr (J01 body138 rfl (J6J hO.lt eP.u (H h_t.bd))) fun _ w3 => e4 fun r1 xT fq ft => sc1 hO fun s hO => fun H => ?_
 refine au ?_
 refine lv [0, 5] hO H (fun E (changed1_6, in1_7) σ w => Lo A w0 σ w [(6, .bool changed1_6)] [t1 Fl.bool 4 fq xT ft in1_7]) ⟨agr, hO, fr⟩ ?_
 refine fun X1 => p1 fun changed1_6 in1_7 => fun H hX1 σ w5 hk => d2 fun hag hO hB => keep2 hk hag ?_
 dsimp only at H
 revert hO; repeat (rename Owns .. => q; clear q)
 intro hO; repeat (rename Sq .. => q; clear q)
 refine au ?_
 cases changed1_6
 ·refine au ?_
  have hl8 := t1lend 0 hO
  have hn9 := t1n 0 hO
  have hOc10 := hO.drop 0
  refine zcr (J01 body58 (by rw [hn9]; exact rfl) (J5q hOc10.lt hl8 (iF H))) fun _ w13 => e4 fun r11 Uj Ff Fg => sc1 hO fun s hO => fun H => ?_
  refine au ?_
  refine sdr [1] hO fun s hO => ?_
  refine Go1.ret1 func108 rfl ⟨_, _, _, _, er, frs, hO, H⟩
 refine sln0 ?_
 refine au ?_
 refine lv [0, 5, 15] hO (iT H) (fun E (changed2_16, yY, in2_18) σ w => Lo A w0 σ w [(6, .bool changed2_16), (16, .int .i64 (yY : Int))] [t1 Fl.bool 4 fq xT ft in2_18]) ⟨agr, hO, fr⟩ ?_
 refine fun X2 => p2 fun changed2_16 yY in2_18 => fun H hX2 σ w15 hk => d2 fun hag hO hB => keep2 hk hag ?_
 dsimp only at H
 revert hO; repeat (rename Owns .. => q; clear q)
 intro hO; repeat (rename Sq .. => q; clear q)
 refine scm H (fun h19 H => ?_) fun h19 H => ?_
 ·refine sln0 ?_
  refine au ?_
  refine lv [0, 5, 7, 15, 16, 20] hO H (fun E (changed3_21, y3, in3_23) σ w => Lo A w0 σ w [(6, .bool changed3_21), (21, .int .i64 (y3 : Int))] [t1 Fl.bool 4 fq xT ft in3_23]) ⟨agr, hO, fr⟩ ?_
  refine fun X3 => p2 fun changed3_21 y3 in3_23 => fun H hX3 σ w20 hk => d2 fun hag hO hB => keep2 hk hag ?_
  dsimp only at H
  revert hO; repeat (rename Owns .. => q; clear q)
  intro hO; repeat (rename Sq .. => q; clear q)
  refine scm H (fun h24 H => ?_) fun h24 H => ?_
  ·refine au ?_
   have h25 := H.1
   have h26 := H.2.1
   refine sxb1 0 hO H.1 H.2.1 H.2.2 (fun h27 H => ?_) fun h27 H => ?_
   ·refine six1 0 hO H.1 H.2.1 ?_
    have h28 := H.1
    have h29 := H.2.1
    refine sbd1 0 hO H.1 H.2.1 H.2.2 (fun h30 H => ?_) fun h30 H => ?_
    ·refine six h_t H.1 H.2.1 ?_
     refine slds hO h_t.u H.1 H.2.1 fun p31 c32 lL => ?_
     refine six lL H.2.2.1 H.2.2.2.1 ?_
     refine sld hO lL.u H.2.2.1 H.2.2.2.1 ?_
     refine six1 0 hO H.2.2.2.2.1 H.2.2.2.2.2.1 ?_
     have h34 := H.1
     have h35 := H.2.1
     have h36 := H.2.2.1
     have h37 := H.2.2.2.1
     have h38 := H.2.2.2.2.1
     have h39 := H.2.2.2.2.2.1
     refine sbd1 0 hO H.2.2.2.2.1 H.2.2.2.2.2.1 H.2.2.2.2.2.2 (fun h40 H => ?_) fun h40 H => ?_
     ·refine sinc (natbd h24 h_t.bd) ?_
      refine au ?_
      exact hX3 _ H _ _ agr ⟨agr, hO, fr⟩
     refine sxls hO h_t.u H.1 H.2.1 fun p41 c42 QJ => ?_
     refine sxl hO QJ.u H.2.2.1 H.2.2.2.1 ?_
     refine six1 0 hO H.2.2.2.2.1 H.2.2.2.2.2.1 ?_
     refine sst (u := true) 0 hO H.2.2.2.2.1 H.2.2.2.2.2.1 fun w44 s hO => ?_
     refine sinc (natbd h24 h_t.bd) ?_
     refine au ?_
     exact hX3 _ H.2.2.2.2.2.2 _ _ agr ⟨agr, hO, fr⟩
    refine sinc (natbd h24 h_t.bd) ?_
    refine au ?_
    exact hX3 _ H _ _ agr ⟨agr, hO, fr⟩
   refine sinc (natbd h24 h_t.bd) ?_
   refine au ?_
   exact hX3 _ H _ _ agr ⟨agr, hO, fr⟩
  refine sinc (natbd h19 h_t.bd) ?_
  refine au ?_
  exact hX2 _ H _ _ agr ⟨agr, hO, fr⟩
 refine au ?_
 exact hX1 _ H _ _ agr ⟨agr, hO, fr⟩
end Sg
