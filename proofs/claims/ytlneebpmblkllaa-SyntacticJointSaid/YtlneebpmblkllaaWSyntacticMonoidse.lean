/- -/
import Derived.Test.YtlneebpmblkllaaVd
import Derived.Test.YtlneebpmblkllaaWSyntacticMonoidsd
namespace Sg
open Go Go.RowKit Go.Proofs Try
set_option linter.unusedVariables false
set_option linter.unusedSimpArgs false
set_option maxRecDepth 100000
set_option maxHeartbeats 4000000
variable {A : List Nat} {w0 : World}
theorem body135 : Body prog 135 := ⟨f135, func135, rfl, by kernel_rfl⟩
theorem J5e {fh : Option Addr} {fk : Nat} {a0 : List (List Int)} {a1 : Bool} (hA : HA0 A w0) (aS : ISs A w0 fh fk a0) {K : Enum → Int → Prop} (H : J2j a0 a1 K) :
    CallsV prog 135 #[.slice fh a0.length fk, .bool a1] w0 (fun v w' => ∃ (r0 : Enum), ∃ (r1 : Int), ∃ (dA : Option Addr), ∃ (dB : Nat), ∃ (c8 : Option Addr), ∃ (db : Nat), ∃ (cE : Option Addr), ∃ (cG : Nat), ∃ (dC : Option Addr), ∃ (dD : Nat), ∃ (de : Option Addr), ∃ (dg : Nat), ∃ (dh : Option Addr), ∃ (di : Nat), v = .tuple #[.agg #[.int .i64 r0.Points, .bool r0.Monoid, .slice dA r0.Gens.length dB, .slice c8 r0.Elems.length db, .slice cE r0.Prefix.length cG, .slice dC r0.Last.length dD, .slice de r0.Right.length dg, .slice dh r0.Rules.length di, .int .i64 r0.Done], .int .i64 r1] ∧ Same w0 w' ∧ ISs A w' dA dB r0.Gens ∧ ISs A w' c8 db r0.Elems ∧ ISi A w' cE cG r0.Prefix ∧ ISi A w' dC dD r0.Last ∧ ISs A w' de dg r0.Right ∧ ISl (rpRule) A w' dh di r0.Rules ∧ K r0 r1) := by
 refine cal hA func135 ntmps135 fun hO hB => ?_
 unfold J2j at H
 refine sal hO fun w1 B2 s hO => ?_
 refine sln0 ?_
 refine scm (H aS.bd) (fun h4 H => ?_) fun h4 H => ?_
 ·refine au ?_
  refine zo (J05 underlying123 ti123 (pl := [(0, 1), (1, 1), (2, 1), (3, 1), (4, 1), (5, 1), (6, 1), (7, 1), (8, 1)]) (vs := []) (cs := #[.int .i64 (0 : Int), .bool false, .slice none 0 0, .slice none 0 0, .slice none 0 0, .slice none 0 0, .slice none 0 0, .slice none 0 0, .int .i64 (0 : Int)]) (by kernel_rfl) rfl (by kernel_rfl)) ?_
  refine sba 0 hO fun w5 s hO => ?_
  refine au ?_
  refine Go1.retC2 func135 rfl rfl (rlb 0 hO) ⟨((⟨(0 : Int), false, ([] : List (List Int)), ([] : List (List Int)), ([] : List Int), ([] : List Int), ([] : List (List Int)), ([] : List Rule), (0 : Int)⟩ : Enum)), _, _, _, _, _, _, _, _, _, _, _, _, _, er, frs, (ISl.null _ _ _), (ISl.null _ _ _), (ISl.null _ _ _), (ISl.null _ _ _), (ISl.null _ _ _), (ISl.null _ _ _), H⟩
 refine sln0 ?_
 refine scm H (fun h6 H => ?_) fun h6 H => ?_
 ·refine au ?_
  refine zo (J05 underlying123 ti123 (pl := [(0, 1), (1, 1), (2, 1), (3, 1), (4, 1), (5, 1), (6, 1), (7, 1), (8, 1)]) (vs := []) (cs := #[.int .i64 (0 : Int), .bool false, .slice none 0 0, .slice none 0 0, .slice none 0 0, .slice none 0 0, .slice none 0 0, .slice none 0 0, .int .i64 (0 : Int)]) (by kernel_rfl) rfl (by kernel_rfl)) ?_
  refine sba 0 hO fun w7 s hO => ?_
  refine au ?_
  refine Go1.retC2 func135 rfl rfl (rlb 0 hO) ⟨((⟨(0 : Int), false, ([] : List (List Int)), ([] : List (List Int)), ([] : List Int), ([] : List Int), ([] : List (List Int)), ([] : List Rule), (0 : Int)⟩ : Enum)), _, _, _, _, _, _, _, _, _, _, _, _, _, er, frs, (ISl.null _ _ _), (ISl.null _ _ _), (ISl.null _ _ _), (ISl.null _ _ _), (ISl.null _ _ _), (ISl.null _ _ _), H⟩
 refine au ?_
 refine zcr (J02 body161 rfl (J4j hO.lt aS.u H)) fun _ w9 => e1 fun r8 => sc0 hO fun s hO => fun H => ?_
 cases r8
 ·refine au ?_
  refine zo (J05 underlying123 ti123 (pl := [(0, 1), (1, 1), (2, 1), (3, 1), (4, 1), (5, 1), (6, 1), (7, 1), (8, 1)]) (vs := []) (cs := #[.int .i64 (0 : Int), .bool false, .slice none 0 0, .slice none 0 0, .slice none 0 0, .slice none 0 0, .slice none 0 0, .slice none 0 0, .int .i64 (0 : Int)]) (by kernel_rfl) rfl (by kernel_rfl)) ?_
  refine sba 0 hO fun w10 s hO => ?_
  refine au ?_
  refine Go1.retC2 func135 rfl rfl (rlb 0 hO) ⟨((⟨(0 : Int), false, ([] : List (List Int)), ([] : List (List Int)), ([] : List Int), ([] : List Int), ([] : List (List Int)), ([] : List Rule), (0 : Int)⟩ : Enum)), _, _, _, _, _, _, _, _, _, _, _, _, _, er, frs, (ISl.null _ _ _), (ISl.null _ _ _), (ISl.null _ _ _), (ISl.null _ _ _), (ISl.null _ _ _), (ISl.null _ _ _), (iF H)⟩
 refine au ?_
 refine drA Same.tr 1 [(0, m0), (1, m0), (2, m1), (3, m0), (4, m0), (5, m0), (6, m2), (7, m0), (8, m4), (9, m3)] hO fun w11 s hO => ?_
 have zj := hO.le
 have hw13 := (fr : Fr (bl []) w0 _ w11).ch.size
 refine au ?_
 refine sxls hO aS.u (iT H).1 (iT H).2.1 fun p14 c15 ie => ?_
 refine sln0 ?_
 refine au ?_
 refine au ?_
 refine GoQA.loudI rfl rfl fun w17 A18 zl => ?_
 refine sgw zl hO fun s hO => ?_
 have h23 := (iT H).1
 have h24 := (iT H).2.1
 refine GoAt.call (J02 body162 rfl (J5F hO.lt aS.u ((iT H).2.2 ie.bd))) (fun _ _ hr => ⟨fun _ => saq hr, Same.kp hO (saq hr)⟩) rfl fun _ w22 => e4 fun r20 ni eY e8 => e1 fun acu => sA1 hO fun s hO => fun H => ?_
 refine GoQA.pure rfl (J05 underlying123 ti123 (pl := [(0, 1), (1, 1), (2, 1), (3, 1), (4, 1), (5, 1), (6, 1), (7, 1), (8, 1)]) (vs := [(0, .int .i64 ((ix a0 (0 : Int)).length : Int)), (1, .bool a1), (2, .slice eY ni e8)]) (cs := #[.int .i64 ((ix a0 (0 : Int)).length : Int), .bool a1, .slice eY ni e8, .slice none 0 0, .slice none 0 0, .slice none 0 0, .slice none 0 0, .slice none 0 0, .int .i64 (0 : Int)]) (by kernel_rfl) rfl (by kernel_rfl)) rfl rfl ?_
 refine GoQA.alloc rfl rfl (alAlloc (cs := #[.int .i64 (0 : Int), .bool false, .slice none 0 0, .slice none 0 0, .slice none 0 0, .slice none 0 0, .slice none 0 0, .slice none 0 0, .int .i64 (0 : Int)]) ti123 rfl) ?_
 intro w27 A28 b29 A30 aba abb hd33 hnb34 hh35
 refine sgw aba hO fun s hO => ?_
 refine sgn (e := .blk b29 (.cells #[.int .i64 (0 : Int), .bool false, .slice none 0 0, .slice none 0 0, .slice none 0 0, .slice none 0 0, .slice none 0 0, .slice none 0 0, .int .i64 (0 : Int)] 123 (0, 0))) abb hO zj hw13 hnb34 rfl hh35 hd33 (fr : Fr (bl []) w0 _ w27) fun s hO hB => ?_
 refine GoQA.lastI rfl rfl fun w36 A37 zu => ?_
 refine sgw zu hO fun s hO => ?_
 refine sba 0 hO fun w39 s hO => ?_
 refine GoQA.nil fun w40 A41 abc abd => ?_
 refine sgw abc hO fun s hO => ?_
 refine spm abd hO fun s hO => ?_
 refine au ?_
 cases a1
 ·refine sln0 ?_
  refine au ?_
  have t7 := Stp.nil (e := 31) (r := 1) hO
  refine nst t7 fun s hO => ?_
  have zw := elN (Rp.sl (Rp.int .i64)) hO
  refine snil Fl.i 3 hO fun s hO => ?_
  refine snil Fl.i 3 hO fun s hO => ?_
  refine snil (id Fl.fl : Fl rpRule) 185 hO fun s hO => ?_
  refine lv [4, 6, 7, 42, 43] hO (iF H) (fun E (k1_51, d_52, t8, d_60, fE) σ w => ∃ n55 p53 c54 n59 p57 c58 n63 p61 c62 n69 p67 c68 zx, (fun Z => Lo A w0 σ w [(44, .int .i64 (k1_51 : Int))] Z ∧ Els (Rp.sl (Rp.int .i64)) (bl Z ++ A) w zx fE) (esets E [(0, t1 (id Fl.fl : Fl rpRule) 185 p53 n55 c54 d_52), (1, t1 Fl.i 3 p57 n59 c58 t8), (2, t1 Fl.i 3 p61 n63 c62 d_60), (3, .row 31 1 p67 n69 c68 zx), (4, .blk b29 (.cells #[.int .i64 ((ix a0 (0 : Int)).length : Int), .bool false, .slice eY ni e8, .slice p67 n69 c68, .slice p61 n63 c62, .slice p57 n59 c58, .slice none 0 0, .slice p53 n55 c54, .int .i64 (0 : Int)] 123 (0, 0)))])) ⟨_, _, _, _, _, _, _, _, _, _, _, _, _, ⟨agr, hO, fr⟩, zw.u⟩ ?_
  refine fun X1 => p1 fun k1_51 => p3 fun d_52 t8 d_60 fE => fun H hX1 σ w50 hk => e4 fun n55 p53 c54 n59 => e4 fun p57 c58 n63 p61 => e4 fun c62 n69 p67 c68 => e1 fun zx => d1 fun hL => fun mg => lh hk (fun hO hB => ?_) hL
  dsimp only [esets, sS, sZ] at hO hB mg
  dsimp only at H
  revert hO; repeat (rename Owns .. => q; clear q)
  intro hO; repeat (rename Sq .. => q; clear q)
  refine scm H (fun h70 H => ?_) fun h70 H => ?_
  ·refine sxls hO aS.u H.1 H.2.1 fun p71 c72 Iq => ?_
   refine au ?_
   have zz := rowlend 3 hO rfl mg
   obtain ⟨abe, abf⟩ := zz
   have hOc76 := hO.drop 3
   have h79 := H.1
   have h80 := H.2.1
   refine zcr (J02 body107 (by rw [abf]; exact rfl) (J1k hOc76.lt abe (Iq.u.ch (Owns.J0c _ _ 3)) H.2.2)) fun _ w78 => e1 fun r77 => sc0 hO fun s hO => fun H => ?_
   refine scm H (fun h81 H => ?_) fun h81 H => ?_
   ·refine au ?_
    refine drw 2 [(0, q0), (1, q1), (2, q0), (4, q1), (5, q0), (3, q2), (6, q2), (7, q0), (8, q2), (9, q3), (10, q0), (11, q3)] hO fun w82 s hO => ?_
    refine sag 4 hO ?_
    refine au ?_
    refine zcq rfl (J02 body137 rfl (J0Q hO.lt H)) fun _ w84 => e1 fun r83 => sq0 hO fun s hO => d1 fun Ir H => ?_
    have abg := t2lend 5 hO rfl
    have yd := t2neq 5 hO rfl
    have hOc87 := hO.drop 5
    have zz := rowlend 3 hOc87 rfl (mg.u.ch (Owns.J0c _ _ 5))
    obtain ⟨abh, yu⟩ := zz
    have hOc90 := hOc87.drop 3
    have abi := t1lend 2 hOc90
    have xh := t1n 2 hOc90
    have hOc93 := hOc90.drop 2
    have wM := t1lend 1 hOc93
    have abj := t1n 1 hOc93
    have hOc96 := hOc93.drop 1
    have abk := t1lend 0 hOc96
    have vu := t1n 0 hOc96
    have hOc99 := hOc96.drop 0
    refine zcq rfl (J02 body106 (by rw [yd, yu, xh, abj, vu]; exact rfl) (J0I (e := (⟨((ix a0 (0 : Int)).length : Int), false, r20, fE, d_60, t8, [], d_52, (0 : Int)⟩ : Enum)) hOc99.lt ((((abg.ch (Owns.J0c _ _ 3)).ch (Owns.J0c _ _ 2)).ch (Owns.J0c _ _ 1)).ch (Owns.J0c _ _ 0)) (((abh.ch (Owns.J0c _ _ 2)).ch (Owns.J0c _ _ 1)).ch (Owns.J0c _ _ 0)) ((abi.ch (Owns.J0c _ _ 1)).ch (Owns.J0c _ _ 0)) (wM.ch (Owns.J0c _ _ 0)) (ISl.null _ _ _) abk H)) fun _ wY => e1 fun r100 => sq0 hO fun s hO => d1 fun Cc H => ?_
    refine GoQ.pure rfl (J05 underlying185 ti185 (pl := [(0, 1), (1, 1)]) (vs := [(0, .string (gstr r83)), (1, .string (gstr r100))]) (cs := #[.string (gstr r83), .string (gstr r100)]) (by kernel_rfl) rfl (by kernel_rfl)) rfl rfl ?_
    refine sapF (⟨r83, r100⟩ : Rule) 0 hO H (fun _ xW abl abm s hO => ?_) (hok := by exact ⟨Ir, Cc⟩)
    refine sbs 4 hO fun rX s hO => ?_
    refine sinc (natbd h70 aS.bd) ?_
    refine au ?_
    exact hX1 _ H.2 _ _ agr ⟨_, _, _, _, _, _, _, _, _, _, _, _, _, ⟨agr, hO, fr⟩, mg.u⟩
   refine au ?_
   refine drA (CSv.tr [(some ⟨b29, 3, none⟩), (some ⟨b29, 4, none⟩), (some ⟨b29, 5, none⟩)]) 1 [(0, m0), (1, m1), (3, m0), (7, m0), (8, m1), (9, m0), (12, m0), (13, m1), (14, m0), (2, m4), (4, m2), (5, m4), (6, m2), (17, m0), (10, m4), (11, m2), (15, m4), (16, m2), (18, m3), (19, m0), (20, m3), (21, m0), (22, m3)] hO fun wO s hO => ?_
   have iq := hO.le
   have hw108 := (fr : Fr (bl []) w0 _ wO).ch.size
   refine au ?_
   refine GoQA.stable rfl (loadV (.head _) rfl (J00 4 hO rfl rfl) underlying23 rfl rfl) rfl rfl ?_
   refine au ?_
   refine au ?_
   refine GoQA.stable rfl (loadV (.tail _ (.head _)) rfl (J00 4 hO rfl rfl) underlying31 rfl rfl) rfl rfl ?_
   refine au ?_
   refine au ?_
   refine GoQA.stable rfl (loadV (.tail _ (.tail _ (.head _))) rfl (J00 4 hO rfl rfl) underlying31 rfl rfl) rfl rfl ?_
   refine au ?_
   refine GoQA.alloc rfl rfl (alBuild (n := 0) (parts := []) (vs := []) underlying31 ti3 (by decide) (by decide) (by decide) (by kernel_rfl) rfl rfl) ?_
   intro wP A111 abn A113 Re Rf hd116 hnb117 hh118
   refine sgw Re hO fun s hO => ?_
   have jo := elE (Rp.int .i64) [] (([] : List Int)) hO (Els.nil _ _ _)
   refine sgn (e := .row 3 1 (some ⟨abn, 0, none⟩) 0 0 []) Rf hO iq hw108 hnb117 rfl hh118 hd116 (fr : Fr (bl []) w0 _ wP) fun s hO hB => ?_
   replace jo := jo.ch s.ch
   refine cl1 Fl.i 0 hO jo.u fun s hO => ?_
   refine GoQA.loudI rfl rfl fun nT A121 Rg => ?_
   refine sgw Rg hO fun s hO => ?_
   refine sapQ 0 hO Iq.u H (fun vz kn mh s hO => ?_) (g := fun _ _ _ _ hv hst h => GoAt.step hv (fun _ => (CSv.cons (cs_eq (J00 5 hO rfl rfl) (J00 5 hst.own rfl rfl)) (CSv.cons (cs_eq (J00 5 hO rfl rfl) (J00 5 hst.own rfl rfl)) (CSv.cons (cs_eq (J00 5 hO rfl rfl) (J00 5 hst.own rfl rfl)) (CSv.nil _ _))))) (Stp.kp hO hst) rfl h)
   refine sfz 0 hO fun s hO Rh Ri => ?_
   refine GoQA.alloc rfl rfl (alBuild (n := 1) (parts := [(0, .slice kn (0 + ((ix a0 (k1_51 : Int)).length)) mh)]) (vs := [.slice kn (0 + ((ix a0 (k1_51 : Int)).length)) mh]) underlying23 ti31 (by decide) (by decide) (by decide) (by kernel_rfl) rfl rfl) ?_
   intro vA A128 abo A130 Rj Rk hd133 hnb134 hh135
   refine sgw Rj hO fun s hO => ?_
   have jA := elE (Rp.sl (Rp.int .i64)) [.slice kn (0 + ((ix a0 (k1_51 : Int)).length)) mh] [(([] : List Int)) ++ (ix a0 (k1_51 : Int))] hO (Els.cons rfl ⟨kn, mh, congrArg some (congrArg (fun nn => Value.slice kn nn mh) Ri), Rh.u⟩ (Els.nil _ _ _) (by simp [mx]))
   refine sgn (e := .row 31 1 (some ⟨abo, 0, none⟩) 1 1 [.slice kn (0 + ((ix a0 (k1_51 : Int)).length)) mh]) Rk hO iq hw108 hnb134 rfl hh135 hd133 (fr : Fr (bl []) w0 _ vA) fun s hO hB => ?_
   replace jA := jA.ch s.ch
   refine GoQA.loudI rfl rfl fun Xt A140 Rl => ?_
   refine sgw Rl hO fun s hO => ?_
   refine sfzR 0 hO jA.u fun s hO Rm Rn => ?_
   replace H := H.2
   obtain ⟨abp, H⟩ := H
   have zz := oapp underlying23 ti31 rfl 3 hO rfl mg.u Rm Rn abp (by decide)
   obtain ⟨Gz, Xv, aqb, afr, ji, mK, Iu⟩ := zz
   dsimp only [sS, sZ] at mK
   refine GoAt.step (Iu (by exact rfl) (by exact rfl)) (fun _ => (CSv.cons (cs_eq (J00 4 hO rfl rfl) (J00 4 ji.own rfl rfl)) (CSv.cons (cs_eq (J00 4 hO rfl rfl) (J00 4 ji.own rfl rfl)) (CSv.cons (cs_eq (J00 4 hO rfl rfl) (J00 4 ji.own rfl rfl)) (CSv.nil _ _))))) (Stp.kp hO ji) rfl ?_
   refine nst ji fun s hO => ?_
   refine au ?_
   refine GoQA.alloc rfl rfl (alBuild (n := 1) (parts := [(0, .int .i64 (-1 : Int))]) (vs := [.int .i64 (-1 : Int)]) underlying31 ti3 (by decide) (by decide) (by decide) (by kernel_rfl) rfl rfl) ?_
   intro vU A155 abq A157 Ro Rq hd160 hnb161 hh162
   refine sgw Ro hO fun s hO => ?_
   have t9 := elE (Rp.int .i64) [.int .i64 (-1 : Int)] [(-1 : Int)] hO (Els.cons rfl rfl (Els.nil _ _ _) (by simp [mx]))
   refine sgn (e := .row 3 1 (some ⟨abq, 0, none⟩) 1 1 [.int .i64 (-1 : Int)]) Rq hO iq hw108 hnb161 rfl hh162 hd160 (fr : Fr (bl []) w0 _ vU) fun s hO hB => ?_
   replace t9 := t9.ch s.ch
   refine cl1 Fl.i 0 hO t9.u fun s hO => ?_
   refine GoQA.loudI rfl rfl fun oc A165 Rr => ?_
   refine sgw Rr hO fun s hO => ?_
   refine sfz 0 hO fun s hO fy Bb => ?_
   refine sapQ 2 hO fy H (fun Yj aqc aqd s hO => ?_) (g := fun _ _ _ _ hv hst h => GoAt.step hv (fun _ => (CSv.cons (cs_eq (J00 4 hO rfl rfl) (J00 4 hst.own rfl rfl)) (CSv.cons (cs_eq (J00 4 hO rfl rfl) (J00 4 hst.own rfl rfl)) (CSv.cons (cs_eq (J00 4 hO rfl rfl) (J00 4 hst.own rfl rfl)) (CSv.nil _ _))))) (Stp.kp hO hst) rfl h)
   refine GoQA.alloc rfl rfl (alBuild (n := 1) (parts := [(0, .int .i64 (k1_51 : Int))]) (vs := [.int .i64 (k1_51 : Int)]) underlying31 ti3 (by decide) (by decide) (by decide) (by kernel_rfl) rfl rfl) ?_
   intro sW A174 abr A176 Rs Rt hd179 hnb180 hh181
   refine sgw Rs hO fun s hO => ?_
   have ua := elE (Rp.int .i64) [.int .i64 (k1_51 : Int)] [(k1_51 : Int)] hO (Els.cons rfl rfl (Els.nil _ _ _) (by simp [mx]))
   refine sgn (e := .row 3 1 (some ⟨abr, 0, none⟩) 1 1 [.int .i64 (k1_51 : Int)]) Rt hO iq hw108 hnb180 rfl hh181 hd179 (fr : Fr (bl []) w0 _ sW) fun s hO hB => ?_
   replace ua := ua.ch s.ch
   refine cl1 Fl.i 0 hO ua.u fun s hO => ?_
   refine GoQA.loudI rfl rfl fun vE A184 Ru => ?_
   refine sgw Ru hO fun s hO => ?_
   refine sfz 0 hO fun s hO Rv afs => ?_
   refine sapQ 1 hO Rv H.2 (fun vX sn aqe s hO => ?_) (g := fun _ _ _ _ hv hst h => GoAt.step hv (fun _ => (CSv.cons (cs_eq (J00 4 hO rfl rfl) (J00 4 hst.own rfl rfl)) (CSv.cons (cs_eq (J00 4 hO rfl rfl) (J00 4 hst.own rfl rfl)) (CSv.cons (cs_eq (J00 4 hO rfl rfl) (J00 4 hst.own rfl rfl)) (CSv.nil _ _))))) (Stp.kp hO hst) rfl h)
   refine GoQA.lastI rfl rfl fun xd A192 sX => ?_
   refine sgw sX hO fun s hO => ?_
   refine sbs 4 hO fun Ym s hO => ?_
   refine au ?_
   refine GoQA.lastI rfl rfl fun Gd A196 Rw => ?_
   refine sgw Rw hO fun s hO => ?_
   refine sbs 4 hO fun Cy s hO => ?_
   refine au ?_
   refine GoQA.lastI rfl rfl fun vY A200 Rx => ?_
   refine sgw Rx hO fun s hO => ?_
   refine sbs 4 hO fun Yn s hO => ?_
   refine GoQA.nil fun Gg A204 sY ta => ?_
   refine sgw sY hO fun s hO => ?_
   refine spm ta hO fun s hO => ?_
   refine au ?_
   refine sinc (natbd h70 aS.bd) ?_
   refine au ?_
   exact hX1 _ H.2.2 _ _ agr ⟨_, _, _, _, _, _, _, _, _, _, _, _, _, ⟨agr, hO, fr⟩, mK.u⟩
  refine sag 4 hO ?_
  refine sba 6 hO fun Yo s hO => ?_
  refine au ?_
  refine sfz2 5 hO fun s hO sQ sR => ?_
  refine sfzR 3 hO mg.u fun s hO Ry Rz => ?_
  refine sfz 2 hO fun s hO RA RB => ?_
  refine sfz 1 hO fun s hO RD RE => ?_
  refine sfz 0 hO fun s hO rM rN => ?_
  refine Go1.retC2 func135 rfl rfl (rlb 1 hO) ⟨((⟨((ix a0 (0 : Int)).length : Int), false, r20, fE, d_60, t8, ([] : List (List Int)), d_52, (0 : Int)⟩ : Enum)), _, _, _, _, _, _, _, _, _, _, _, _, _, ?_, frs, sQ.r, Ry.r, RA.r, RD.r, (ISl.null _ _ _), rM.r, H⟩
  exact (congrArg (fun l => Value.tuple (List.toArray l)) (J01 (congrArg (fun l => Value.agg (List.toArray l)) (J01 rfl (J01 rfl (J01 (congrArg (fun nn => Value.slice eY nn e8) sR) (J01 (congrArg (fun nn => Value.slice p67 nn c68) Rz) (J01 (congrArg (fun nn => Value.slice p61 nn c62) RB) (J01 (congrArg (fun nn => Value.slice p57 nn c58) RE) (J01 rfl (J01 (congrArg (fun nn => Value.slice p53 nn c54) rN) (J01 rfl rfl)))))))))) (J01 rfl rfl)))
 refine au ?_
 refine zcr (J02 body51 rfl (J2r hO.lt (iT H))) fun _ vG => e3 fun aqf acv acw => sc0 hO fun s hO => d1 fun Iv H => ?_
 have zz := obu underlying23 ti31 hO (Iv) rfl
 obtain ⟨Yq, Yr, Iw, RF, afu, oR⟩ := zz
 refine zg (oR rfl) ?_
 refine nst Iw fun s hO => ?_
 refine sbu Fl.i 3 [(-1 : Int)] hO fun vH TV s hO => ?_
 refine sbu Fl.i 3 [(-1 : Int)] hO fun rP aaf s hO => ?_
 refine sbs 3 hO fun v8 s hO => ?_
 refine sbs 3 hO fun XD s hO => ?_
 refine sbs 3 hO fun VI s hO => ?_
 refine sln0 ?_
 refine au ?_
 refine snil (id Fl.fl : Fl rpRule) 185 hO fun s hO => ?_
 refine lv [4, 6, 7, 42, 43] hO H (fun E (eI, nj, nk, nr, ns) σ w => ∃ zy ub uc zA ud ue zB nH uf zC ug uh ui, (fun Z => Lo A w0 σ w [(44, .int .i64 (eI : Int))] Z ∧ Els (Rp.sl (Rp.int .i64)) (bl Z ++ A) w ui ns) (esets E [(0, t1 (id Fl.fl : Fl rpRule) 185 ub zy uc nj), (1, t1 Fl.i 3 ud zA ue nk), (2, t1 Fl.i 3 nH zB uf nr), (3, .row 31 1 ug zC uh ui), (4, .blk b29 (.cells #[.int .i64 ((ix a0 (0 : Int)).length : Int), .bool true, .slice eY ni e8, .slice ug zC uh, .slice nH zB uf, .slice ud zA ue, .slice none 0 0, .slice ub zy uc, .int .i64 (0 : Int)] 123 (0, 0)))])) ⟨_, _, _, _, _, _, _, _, _, _, _, _, _, ⟨agr, hO, fr⟩, RF.u⟩ ?_
 refine fun X2 => p1 fun eI => p3 fun nj nk nr ns => fun H hX2 σ vI hk => e4 fun zy ub uc zA => e4 fun ud ue zB nH => e4 fun uf zC ug uh => e1 fun ui => d1 fun hL => fun jF => lh hk (fun hO hB => ?_) hL
 dsimp only [esets, sS, sZ] at hO hB jF
 dsimp only at H
 revert hO; repeat (rename Owns .. => q; clear q)
 intro hO; repeat (rename Sq .. => q; clear q)
 refine scm H (fun iw H => ?_) fun iw H => ?_
 ·refine sxls hO aS.u H.1 H.2.1 fun T6 aqg BP => ?_
  refine au ?_
  have zz := rowlend 3 hO rfl jF
  obtain ⟨RG, RH⟩ := zz
  have hOc263 := hO.drop 3
  have vJ := H.1
  have VL := H.2.1
  refine zcr (J02 body107 (by rw [RH]; exact rfl) (J1k hOc263.lt RG (BP.u.ch (Owns.J0c _ _ 3)) H.2.2)) fun _ aqh => e1 fun r264 => sc0 hO fun s hO => fun H => ?_
  refine scm H (fun EM H => ?_) fun EM H => ?_
  ·refine au ?_
   refine drw 2 [(0, q0), (1, q1), (2, q0), (4, q1), (5, q0), (3, q2), (6, q2), (7, q0), (8, q2), (9, q3), (10, q0), (11, q3)] hO fun Id s hO => ?_
   refine sag 4 hO ?_
   refine au ?_
   refine zcq rfl (J02 body137 rfl (J0Q hO.lt H)) fun _ YQ => e1 fun r270 => sq0 hO fun s hO => d1 fun Cd H => ?_
   have RJ := t2lend 5 hO rfl
   have nb := t2neq 5 hO rfl
   have hOc274 := hO.drop 5
   have zz := rowlend 3 hOc274 rfl (jF.u.ch (Owns.J0c _ _ 5))
   obtain ⟨RK, RL⟩ := zz
   have hOc277 := hOc274.drop 3
   have RM := t1lend 2 hOc277
   have q9 := t1n 2 hOc277
   have hOc280 := hOc277.drop 2
   have RN := t1lend 1 hOc280
   have BO := t1n 1 hOc280
   have hOc283 := hOc280.drop 1
   have RO := t1lend 0 hOc283
   have RQ := t1n 0 hOc283
   have hOc286 := hOc283.drop 0
   refine zcq rfl (J02 body106 (by rw [nb, RL, q9, BO, RQ]; exact rfl) (J0I (e := (⟨((ix a0 (0 : Int)).length : Int), true, r20, ns, nr, nk, [], nj, (0 : Int)⟩ : Enum)) hOc286.lt ((((RJ.ch (Owns.J0c _ _ 3)).ch (Owns.J0c _ _ 2)).ch (Owns.J0c _ _ 1)).ch (Owns.J0c _ _ 0)) (((RK.ch (Owns.J0c _ _ 2)).ch (Owns.J0c _ _ 1)).ch (Owns.J0c _ _ 0)) ((RM.ch (Owns.J0c _ _ 1)).ch (Owns.J0c _ _ 0)) (RN.ch (Owns.J0c _ _ 0)) (ISl.null _ _ _) RO H)) fun _ vK => e1 fun zD => sq0 hO fun s hO => d1 fun Ce H => ?_
   refine GoQ.pure rfl (J05 underlying185 ti185 (pl := [(0, 1), (1, 1)]) (vs := [(0, .string (gstr r270)), (1, .string (gstr zD))]) (cs := #[.string (gstr r270), .string (gstr zD)]) (by kernel_rfl) rfl (by kernel_rfl)) rfl rfl ?_
   refine sapF (⟨r270, zD⟩ : Rule) 0 hO H (fun _ GQ XK XL s hO => ?_) (hok := by exact ⟨Cd, Ce⟩)
   refine sbs 4 hO fun XM s hO => ?_
   refine sinc (natbd iw aS.bd) ?_
   refine au ?_
   exact hX2 _ H.2 _ _ agr ⟨_, _, _, _, _, _, _, _, _, _, _, _, _, ⟨agr, hO, fr⟩, jF.u⟩
  refine au ?_
  refine drA (CSv.tr [(some ⟨b29, 3, none⟩), (some ⟨b29, 4, none⟩), (some ⟨b29, 5, none⟩)]) 1 [(0, m0), (1, m1), (3, m0), (7, m0), (8, m1), (9, m0), (12, m0), (13, m1), (14, m0), (2, m4), (4, m2), (5, m4), (6, m2), (17, m0), (10, m4), (11, m2), (15, m4), (16, m2), (18, m3), (19, m0), (20, m3), (21, m0), (22, m3)] hO fun xU s hO => ?_
  have nt := hO.le
  have hw295 := (fr : Fr (bl []) w0 _ xU).ch.size
  refine au ?_
  refine GoQA.stable rfl (loadV (.head _) rfl (J00 4 hO rfl rfl) underlying23 rfl rfl) rfl rfl ?_
  refine au ?_
  refine au ?_
  refine GoQA.stable rfl (loadV (.tail _ (.head _)) rfl (J00 4 hO rfl rfl) underlying31 rfl rfl) rfl rfl ?_
  refine au ?_
  refine au ?_
  refine GoQA.stable rfl (loadV (.tail _ (.tail _ (.head _))) rfl (J00 4 hO rfl rfl) underlying31 rfl rfl) rfl rfl ?_
  refine au ?_
  refine GoQA.alloc rfl rfl (alBuild (n := 0) (parts := []) (vs := []) underlying31 ti3 (by decide) (by decide) (by decide) (by kernel_rfl) rfl rfl) ?_
  intro abs A298 abt A300 RR RS hd303 hnb304 hh305
  refine sgw RR hO fun s hO => ?_
  have uj := elE (Rp.int .i64) [] (([] : List Int)) hO (Els.nil _ _ _)
  refine sgn (e := .row 3 1 (some ⟨abt, 0, none⟩) 0 0 []) RS hO nt hw295 hnb304 rfl hh305 hd303 (fr : Fr (bl []) w0 _ abs) fun s hO hB => ?_
  replace uj := uj.ch s.ch
  refine cl1 Fl.i 0 hO uj.u fun s hO => ?_
  refine GoQA.loudI rfl rfl fun CU A308 RT => ?_
  refine sgw RT hO fun s hO => ?_
  refine sapQ 0 hO BP.u H (fun aqi mj mm s hO => ?_) (g := fun _ _ _ _ hv hst h => GoAt.step hv (fun _ => (CSv.cons (cs_eq (J00 5 hO rfl rfl) (J00 5 hst.own rfl rfl)) (CSv.cons (cs_eq (J00 5 hO rfl rfl) (J00 5 hst.own rfl rfl)) (CSv.cons (cs_eq (J00 5 hO rfl rfl) (J00 5 hst.own rfl rfl)) (CSv.nil _ _))))) (Stp.kp hO hst) rfl h)
  refine sfz 0 hO fun s hO rh rk => ?_
  refine GoQA.alloc rfl rfl (alBuild (n := 1) (parts := [(0, .slice mj (0 + ((ix a0 (eI : Int)).length)) mm)]) (vs := [.slice mj (0 + ((ix a0 (eI : Int)).length)) mm]) underlying23 ti31 (by decide) (by decide) (by decide) (by kernel_rfl) rfl rfl) ?_
  intro abu A315 abv A317 RU RV hd320 hnb321 hh322
  refine sgw RU hO fun s hO => ?_
  have uk := elE (Rp.sl (Rp.int .i64)) [.slice mj (0 + ((ix a0 (eI : Int)).length)) mm] [(([] : List Int)) ++ (ix a0 (eI : Int))] hO (Els.cons rfl ⟨mj, mm, congrArg some (congrArg (fun nn => Value.slice mj nn mm) rk), rh.u⟩ (Els.nil _ _ _) (by simp [mx]))
  refine sgn (e := .row 31 1 (some ⟨abv, 0, none⟩) 1 1 [.slice mj (0 + ((ix a0 (eI : Int)).length)) mm]) RV hO nt hw295 hnb321 rfl hh322 hd320 (fr : Fr (bl []) w0 _ abu) fun s hO hB => ?_
  replace uk := uk.ch s.ch
  refine GoQA.loudI rfl rfl fun VN A327 RW => ?_
  refine sgw RW hO fun s hO => ?_
  refine sfzR 0 hO uk.u fun s hO RX RY => ?_
  replace H := H.2
  obtain ⟨pt, H⟩ := H
  have zz := oapp underlying23 ti31 rfl 3 hO rfl jF.u RX RY pt (by decide)
  obtain ⟨G4, XU, XV, afv, jj, BQ, oh⟩ := zz
  dsimp only [sS, sZ] at BQ
  refine GoAt.step (oh (by exact rfl) (by exact rfl)) (fun _ => (CSv.cons (cs_eq (J00 4 hO rfl rfl) (J00 4 jj.own rfl rfl)) (CSv.cons (cs_eq (J00 4 hO rfl rfl) (J00 4 jj.own rfl rfl)) (CSv.cons (cs_eq (J00 4 hO rfl rfl) (J00 4 jj.own rfl rfl)) (CSv.nil _ _))))) (Stp.kp hO jj) rfl ?_
  refine nst jj fun s hO => ?_
  refine au ?_
  refine GoQA.alloc rfl rfl (alBuild (n := 1) (parts := [(0, .int .i64 (0 : Int))]) (vs := [.int .i64 (0 : Int)]) underlying31 ti3 (by decide) (by decide) (by decide) (by kernel_rfl) rfl rfl) ?_
  intro abw A342 abx A344 R2 R3 hd347 hnb348 hh349
  refine sgw R2 hO fun s hO => ?_
  have ul := elE (Rp.int .i64) [.int .i64 (0 : Int)] [(0 : Int)] hO (Els.cons rfl rfl (Els.nil _ _ _) (by simp [mx]))
  refine sgn (e := .row 3 1 (some ⟨abx, 0, none⟩) 1 1 [.int .i64 (0 : Int)]) R3 hO nt hw295 hnb348 rfl hh349 hd347 (fr : Fr (bl []) w0 _ abw) fun s hO hB => ?_
  replace ul := ul.ch s.ch
  refine cl1 Fl.i 0 hO ul.u fun s hO => ?_
  refine GoQA.loudI rfl rfl fun XY A352 R4 => ?_
  refine sgw R4 hO fun s hO => ?_
  refine sfz 0 hO fun s hO R5 afw => ?_
  refine sapQ 2 hO R5 H (fun YU aqj aqk s hO => ?_) (g := fun _ _ _ _ hv hst h => GoAt.step hv (fun _ => (CSv.cons (cs_eq (J00 4 hO rfl rfl) (J00 4 hst.own rfl rfl)) (CSv.cons (cs_eq (J00 4 hO rfl rfl) (J00 4 hst.own rfl rfl)) (CSv.cons (cs_eq (J00 4 hO rfl rfl) (J00 4 hst.own rfl rfl)) (CSv.nil _ _))))) (Stp.kp hO hst) rfl h)
  refine GoQA.alloc rfl rfl (alBuild (n := 1) (parts := [(0, .int .i64 (eI : Int))]) (vs := [.int .i64 (eI : Int)]) underlying31 ti3 (by decide) (by decide) (by decide) (by kernel_rfl) rfl rfl) ?_
  intro wm A361 aby A363 R6 R7 hd366 hnb367 hh368
  refine sgw R6 hO fun s hO => ?_
  have kD := elE (Rp.int .i64) [.int .i64 (eI : Int)] [(eI : Int)] hO (Els.cons rfl rfl (Els.nil _ _ _) (by simp [mx]))
  refine sgn (e := .row 3 1 (some ⟨aby, 0, none⟩) 1 1 [.int .i64 (eI : Int)]) R7 hO nt hw295 hnb367 rfl hh368 hd366 (fr : Fr (bl []) w0 _ wm) fun s hO hB => ?_
  replace kD := kD.ch s.ch
  refine cl1 Fl.i 0 hO kD.u fun s hO => ?_
  refine GoQA.loudI rfl rfl fun aql A371 R8 => ?_
  refine sgw R8 hO fun s hO => ?_
  refine sfz 0 hO fun s hO R9 afx => ?_
  refine sapQ 1 hO R9 H.2 (fun VW aqm aqn s hO => ?_) (g := fun _ _ _ _ hv hst h => GoAt.step hv (fun _ => (CSv.cons (cs_eq (J00 4 hO rfl rfl) (J00 4 hst.own rfl rfl)) (CSv.cons (cs_eq (J00 4 hO rfl rfl) (J00 4 hst.own rfl rfl)) (CSv.cons (cs_eq (J00 4 hO rfl rfl) (J00 4 hst.own rfl rfl)) (CSv.nil _ _))))) (Stp.kp hO hst) rfl h)
  refine GoQA.lastI rfl rfl fun Dc A379 Sa => ?_
  refine sgw Sa hO fun s hO => ?_
  refine sbs 4 hO fun aqo s hO => ?_
  refine au ?_
  refine GoQA.lastI rfl rfl fun E7 A383 Sb => ?_
  refine sgw Sb hO fun s hO => ?_
  refine sbs 4 hO fun aqp s hO => ?_
  refine au ?_
  refine GoQA.lastI rfl rfl fun YV A387 Sc => ?_
  refine sgw Sc hO fun s hO => ?_
  refine sbs 4 hO fun aqq s hO => ?_
  refine GoQA.nil fun V0 A391 ru Sd => ?_
  refine sgw ru hO fun s hO => ?_
  refine spm Sd hO fun s hO => ?_
  refine au ?_
  refine sinc (natbd iw aS.bd) ?_
  refine au ?_
  exact hX2 _ H.2.2 _ _ agr ⟨_, _, _, _, _, _, _, _, _, _, _, _, _, ⟨agr, hO, fr⟩, BQ.u⟩
 refine sag 4 hO ?_
 refine sba 6 hO fun abz s hO => ?_
 refine au ?_
 refine sfz2 5 hO fun s hO Se Sf => ?_
 refine sfzR 3 hO jF.u fun s hO um uo => ?_
 refine sfz 2 hO fun s hO li ne => ?_
 refine sfz 1 hO fun s hO uq ur => ?_
 refine sfz 0 hO fun s hO ut uu => ?_
 refine Go1.retC2 func135 rfl rfl (rlb 1 hO) ⟨((⟨((ix a0 (0 : Int)).length : Int), true, r20, ns, nr, nk, ([] : List (List Int)), nj, (0 : Int)⟩ : Enum)), _, _, _, _, _, _, _, _, _, _, _, _, _, ?_, frs, Se.r, um.r, li.r, uq.r, (ISl.null _ _ _), ut.r, H⟩
 exact (congrArg (fun l => Value.tuple (List.toArray l)) (J01 (congrArg (fun l => Value.agg (List.toArray l)) (J01 rfl (J01 rfl (J01 (congrArg (fun nn => Value.slice eY nn e8) Sf) (J01 (congrArg (fun nn => Value.slice ug nn uh) uo) (J01 (congrArg (fun nn => Value.slice nH nn uf) ne) (J01 (congrArg (fun nn => Value.slice ud nn ue) ur) (J01 rfl (J01 (congrArg (fun nn => Value.slice ub nn uc) uu) (J01 rfl rfl)))))))))) (J01 rfl rfl)))
theorem body114 : Body prog 114 := ⟨f114, func114, rfl, by kernel_rfl⟩
theorem J2E {p_f p_g : Option Addr} {c_f c_g : Nat} {f g : List Int} (hA : HA0 A w0) (h_f : ISi A w0 p_f c_f f) (h_g : ISi A w0 p_g c_g g) {K : List Int → Prop} (H : J0P f g K) :
    CallsV prog 114 #[.slice p_f f.length c_f, .slice p_g g.length c_g] w0 (fun v w' => ∃ (r0 : List Int), ∃ (p_r0 : Option Addr), ∃ (c_r0 : Nat), v = .slice p_r0 r0.length c_r0 ∧ Same w0 w' ∧ ISi A w' p_r0 c_r0 r0 ∧ K r0) := by
 refine cal hA func114 ntmps114 fun hO hB => ?_
 unfold J0P at H
 refine sln0 ?_
 refine smk Fl.i (H h_f.bd) hO fun w1 p4 s hO => ?_
 refine sln0 ?_
 refine au ?_
 refine lv [1, 5, 11, 12] hO (H h_f.bd).2.2 (fun E (aK, out1_8) σ w => Lo A w0 σ w [(13, .int .i64 (aK : Int))] [t1 Fl.i 3 p4 f.length f.length out1_8]) ⟨agr, hO, fr⟩ ?_
 refine fun X1 => p1 fun aK out1_8 => fun H hX1 σ w6 hk => lh hk fun hO hB => ?_
 dsimp only at H
 revert hO; repeat (rename Owns .. => q; clear q)
 intro hO; repeat (rename Sq .. => q; clear q)
 refine scm H (fun h9 H => ?_) fun h9 H => ?_
 ·refine sxl hO h_f.u H.1 H.2.1 ?_
  refine sxl hO h_g.u H.2.2.1 H.2.2.2.1 ?_
  refine six1 0 hO H.2.2.2.2.1 H.2.2.2.2.2.1 ?_
  refine sst (u := (ix g (ix f (aK : Int)))) 0 hO H.2.2.2.2.1 H.2.2.2.2.2.1 fun w10 s hO => ?_
  refine sinc (natbd h9 h_f.bd) ?_
  refine au ?_
  exact hX1 _ H.2.2.2.2.2.2 _ _ agr ⟨agr, hO, fr⟩
 refine au ?_
 refine sfz 0 hO fun s hO zE zj => ?_
 refine Go1.ret1 func114 rfl ⟨_, _, _, ?_, frs, zE.r, H⟩
 exact (congrArg (fun nn => Value.slice p4 nn f.length) zj)
theorem body136 : Body prog 136 := ⟨f136, func136, rfl, by kernel_rfl⟩
theorem J4x {fJ lr jL mw lB lD : Option Addr} {fK lA jM my lC lE : Nat} {a0 : Enum} {a1 : Int} (hA : HA0 A w0) (dH : ISs A w0 fJ fK a0.Gens) (uv : ISs A w0 lr lA a0.Elems) (qh : ISi A w0 jL jM a0.Prefix) (uW : ISi A w0 mw my a0.Last) (uw : ISs A w0 lB lC a0.Right) (ux : ISl (rpRule) A w0 lD lE a0.Rules) {K : Enum → Int → Prop} (H : J1m a0 a1 K) :
    CallsV prog 136 #[.agg #[.int .i64 a0.Points, .bool a0.Monoid, .slice fJ a0.Gens.length fK, .slice lr a0.Elems.length lA, .slice jL a0.Prefix.length jM, .slice mw a0.Last.length my, .slice lB a0.Right.length lC, .slice lD a0.Rules.length lE, .int .i64 a0.Done], .int .i64 a1] w0 (fun v w' => ∃ (r0 : Enum), ∃ (r1 : Int), ∃ (dA : Option Addr), ∃ (dB : Nat), ∃ (c8 : Option Addr), ∃ (db : Nat), ∃ (cE : Option Addr), ∃ (cG : Nat), ∃ (dC : Option Addr), ∃ (dD : Nat), ∃ (de : Option Addr), ∃ (dg : Nat), ∃ (dh : Option Addr), ∃ (di : Nat), v = .tuple #[.agg #[.int .i64 r0.Points, .bool r0.Monoid, .slice dA r0.Gens.length dB, .slice c8 r0.Elems.length db, .slice cE r0.Prefix.length cG, .slice dC r0.Last.length dD, .slice de r0.Right.length dg, .slice dh r0.Rules.length di, .int .i64 r0.Done], .int .i64 r1] ∧ Same w0 w' ∧ ISs A w' dA dB r0.Gens ∧ ISs A w' c8 db r0.Elems ∧ ISi A w' cE cG r0.Prefix ∧ ISi A w' dC dD r0.Last ∧ ISs A w' de dg r0.Right ∧ ISl (rpRule) A w' dh di r0.Rules ∧ K r0 r1) := by
 refine cal hA func136 ntmps136 fun hO hB => ?_
 unfold J1m at H
 refine sbx hO fun w1 B2 s hO => ?_
 refine sal hO fun w4 B5 s hO => ?_
 refine au ?_
 refine drA (CSv.tr [(some ⟨B2, 0, none⟩), (some ⟨B2, 1, none⟩), (some ⟨B2, 2, none⟩), (some ⟨B2, 3, none⟩), (some ⟨B2, 4, none⟩), (some ⟨B2, 5, none⟩), (some ⟨B2, 6, none⟩), (some ⟨B2, 7, none⟩), (some ⟨B2, 8, none⟩)]) 1 [(0, m0), (1, m1), (2, m0), (3, m1), (4, m0), (5, m1), (7, m0), (8, m1), (11, m0), (12, m1), (15, m0), (16, m1), (19, m0), (20, m1), (23, m0), (24, m1), (26, m0), (27, m1), (6, m4), (9, m2), (10, m4), (13, m2), (14, m4), (17, m2), (18, m4), (21, m2), (22, m4), (25, m2), (28, m0), (29, m4), (30, m3)] hO fun w7 s hO => ?_
 have hn8 := hO.le
 have hw9 := (fr : Fr (bl []) w0 _ w7).ch.size
 refine au ?_
 refine GoQA.stable rfl (loadV (.head _) rfl (J00 1 hO rfl rfl) underlying3 rfl rfl) rfl rfl ?_
 refine au ?_
 refine GoQA.stable rfl (loadV (.tail _ (.head _)) rfl (J00 1 hO rfl rfl) underlying4 rfl rfl) rfl rfl ?_
 refine au ?_
 refine GoQA.stable rfl (loadV (.tail _ (.tail _ (.head _))) rfl (J00 1 hO rfl rfl) underlying23 rfl rfl) rfl rfl ?_
 refine au ?_
 refine GoQA.stable rfl (loadV (.tail _ (.tail _ (.tail _ (.head _)))) rfl (J00 1 hO rfl rfl) underlying23 rfl rfl) rfl rfl ?_
 refine au ?_
 refine GoQA.stable rfl (loadV (.tail _ (.tail _ (.tail _ (.tail _ (.head _))))) rfl (J00 1 hO rfl rfl) underlying31 rfl rfl) rfl rfl ?_
 refine au ?_
 refine GoQA.stable rfl (loadV (.tail _ (.tail _ (.tail _ (.tail _ (.tail _ (.head _)))))) rfl (J00 1 hO rfl rfl) underlying31 rfl rfl) rfl rfl ?_
 refine au ?_
 refine GoQA.stable rfl (loadV (.tail _ (.tail _ (.tail _ (.tail _ (.tail _ (.tail _ (.head _))))))) rfl (J00 1 hO rfl rfl) underlying23 rfl rfl) rfl rfl ?_
 refine au ?_
 refine GoQA.stable rfl (loadV (.tail _ (.tail _ (.tail _ (.tail _ (.tail _ (.tail _ (.tail _ (.head _)))))))) rfl (J00 1 hO rfl rfl) underlying121 rfl rfl) rfl rfl ?_
 refine au ?_
 refine GoQA.stable rfl (loadV (.tail _ (.tail _ (.tail _ (.tail _ (.tail _ (.tail _ (.tail _ (.tail _ (.head _))))))))) rfl (J00 1 hO rfl rfl) underlying3 rfl rfl) rfl rfl ?_
 refine GoQA.alloc rfl rfl (alBuild (n := 0) (parts := []) (vs := []) underlying23 ti31 (by decide) (by decide) (by decide) (by kernel_rfl) rfl rfl) ?_
 intro w11 A12 b13 A14 abA abB hd17 hnb18 hh19
 refine sgw abA hO fun s hO => ?_
 have zF := elE (Rp.sl (Rp.int .i64)) [] (([] : List (List Int))) hO (Els.nil _ _ _)
 refine sgn (e := .row 31 1 (some ⟨b13, 0, none⟩) 0 0 []) abB hO hn8 hw9 hnb18 rfl hh19 hd17 (fr : Fr (bl []) w0 _ w11) fun s hO hB => ?_
 replace zF := zF.ch s.ch
 refine GoQA.loudI rfl rfl fun w21 A22 abC => ?_
 refine sgw abC hO fun s hO => ?_
 obtain ⟨h24, H⟩ := H
 have zz := oapp underlying23 ti31 rfl 0 hO rfl zF.u uv.u rfl h24 (by decide)
 obtain ⟨w25, p26, c27, abE, fS, fH, Sh⟩ := zz
 dsimp only [sS, sZ] at fH
 refine GoAt.step (Sh (by exact rfl) (by exact rfl)) (fun _ => (CSv.cons (cs_eq (J00 2 hO rfl rfl) (J00 2 fS.own rfl rfl)) (CSv.cons (cs_eq (J00 2 hO rfl rfl) (J00 2 fS.own rfl rfl)) (CSv.cons (cs_eq (J00 2 hO rfl rfl) (J00 2 fS.own rfl rfl)) (CSv.cons (cs_eq (J00 2 hO rfl rfl) (J00 2 fS.own rfl rfl)) (CSv.cons (cs_eq (J00 2 hO rfl rfl) (J00 2 fS.own rfl rfl)) (CSv.cons (cs_eq (J00 2 hO rfl rfl) (J00 2 fS.own rfl rfl)) (CSv.cons (cs_eq (J00 2 hO rfl rfl) (J00 2 fS.own rfl rfl)) (CSv.cons (cs_eq (J00 2 hO rfl rfl) (J00 2 fS.own rfl rfl)) (CSv.cons (cs_eq (J00 2 hO rfl rfl) (J00 2 fS.own rfl rfl)) (CSv.nil _ _))))))))))) (Stp.kp hO fS) rfl ?_
 refine nst fS fun s hO => ?_
 refine GoQA.alloc rfl rfl (alBuild (n := 0) (parts := []) (vs := []) underlying31 ti3 (by decide) (by decide) (by decide) (by kernel_rfl) rfl rfl) ?_
 intro w34 A35 b36 A37 zu abG hd40 hnb41 hh42
 refine sgw zu hO fun s hO => ?_
 have zG := elE (Rp.int .i64) [] (([] : List Int)) hO (Els.nil _ _ _)
 refine sgn (e := .row 3 1 (some ⟨b36, 0, none⟩) 0 0 []) abG hO hn8 hw9 hnb41 rfl hh42 hd40 (fr : Fr (bl []) w0 _ w34) fun s hO hB => ?_
 replace zG := zG.ch s.ch
 refine cl1 Fl.i 0 hO zG.u fun s hO => ?_
 refine GoQA.loudI rfl rfl fun w44 A45 abH => ?_
 refine sgw abH hO fun s hO => ?_
 refine sapQ 0 hO qh.u H (fun w47 p48 c49 s hO => ?_) (g := fun _ _ _ _ hv hst h => GoAt.step hv (fun _ => (CSv.cons (cs_eq (J00 3 hO rfl rfl) (J00 3 hst.own rfl rfl)) (CSv.cons (cs_eq (J00 3 hO rfl rfl) (J00 3 hst.own rfl rfl)) (CSv.cons (cs_eq (J00 3 hO rfl rfl) (J00 3 hst.own rfl rfl)) (CSv.cons (cs_eq (J00 3 hO rfl rfl) (J00 3 hst.own rfl rfl)) (CSv.cons (cs_eq (J00 3 hO rfl rfl) (J00 3 hst.own rfl rfl)) (CSv.cons (cs_eq (J00 3 hO rfl rfl) (J00 3 hst.own rfl rfl)) (CSv.cons (cs_eq (J00 3 hO rfl rfl) (J00 3 hst.own rfl rfl)) (CSv.cons (cs_eq (J00 3 hO rfl rfl) (J00 3 hst.own rfl rfl)) (CSv.cons (cs_eq (J00 3 hO rfl rfl) (J00 3 hst.own rfl rfl)) (CSv.nil _ _))))))))))) (Stp.kp hO hst) rfl h)
 refine GoQA.alloc rfl rfl (alBuild (n := 0) (parts := []) (vs := []) underlying31 ti3 (by decide) (by decide) (by decide) (by kernel_rfl) rfl rfl) ?_
 intro w51 A52 b53 A54 abI abJ hd57 hnb58 hh59
 refine sgw abI hO fun s hO => ?_
 have zH := elE (Rp.int .i64) [] (([] : List Int)) hO (Els.nil _ _ _)
 refine sgn (e := .row 3 1 (some ⟨b53, 0, none⟩) 0 0 []) abJ hO hn8 hw9 hnb58 rfl hh59 hd57 (fr : Fr (bl []) w0 _ w51) fun s hO hB => ?_
 replace zH := zH.ch s.ch
 refine cl1 Fl.i 0 hO zH.u fun s hO => ?_
 refine GoQA.loudI rfl rfl fun w61 A62 abK => ?_
 refine sgw abK hO fun s hO => ?_
 refine sapQ 0 hO uW.u H.2 (fun w64 p65 c66 s hO => ?_) (g := fun _ _ _ _ hv hst h => GoAt.step hv (fun _ => (CSv.cons (cs_eq (J00 4 hO rfl rfl) (J00 4 hst.own rfl rfl)) (CSv.cons (cs_eq (J00 4 hO rfl rfl) (J00 4 hst.own rfl rfl)) (CSv.cons (cs_eq (J00 4 hO rfl rfl) (J00 4 hst.own rfl rfl)) (CSv.cons (cs_eq (J00 4 hO rfl rfl) (J00 4 hst.own rfl rfl)) (CSv.cons (cs_eq (J00 4 hO rfl rfl) (J00 4 hst.own rfl rfl)) (CSv.cons (cs_eq (J00 4 hO rfl rfl) (J00 4 hst.own rfl rfl)) (CSv.cons (cs_eq (J00 4 hO rfl rfl) (J00 4 hst.own rfl rfl)) (CSv.cons (cs_eq (J00 4 hO rfl rfl) (J00 4 hst.own rfl rfl)) (CSv.cons (cs_eq (J00 4 hO rfl rfl) (J00 4 hst.own rfl rfl)) (CSv.nil _ _))))))))))) (Stp.kp hO hst) rfl h)
 refine GoQA.alloc rfl rfl (alBuild (n := 0) (parts := []) (vs := []) underlying23 ti31 (by decide) (by decide) (by decide) (by kernel_rfl) rfl rfl) ?_
 intro w68 A69 b70 A71 abL abM hd74 hnb75 hh76
 refine sgw abL hO fun s hO => ?_
 have zJ := elE (Rp.sl (Rp.int .i64)) [] (([] : List (List Int))) hO (Els.nil _ _ _)
 refine sgn (e := .row 31 1 (some ⟨b70, 0, none⟩) 0 0 []) abM hO hn8 hw9 hnb75 rfl hh76 hd74 (fr : Fr (bl []) w0 _ w68) fun s hO hB => ?_
 replace zJ := zJ.ch s.ch
 refine GoQA.loudI rfl rfl fun w78 A79 abN => ?_
 refine sgw abN hO fun s hO => ?_
 replace H := H.2.2
 obtain ⟨h81, H⟩ := H
 have zz := oapp underlying23 ti31 rfl 0 hO rfl zJ.u uw.u rfl h81 (by decide)
 obtain ⟨w82, p83, c84, abO, fT, gP, Si⟩ := zz
 dsimp only [sS, sZ] at gP
 refine GoAt.step (Si (by exact rfl) (by exact rfl)) (fun _ => (CSv.cons (cs_eq (J00 5 hO rfl rfl) (J00 5 fT.own rfl rfl)) (CSv.cons (cs_eq (J00 5 hO rfl rfl) (J00 5 fT.own rfl rfl)) (CSv.cons (cs_eq (J00 5 hO rfl rfl) (J00 5 fT.own rfl rfl)) (CSv.cons (cs_eq (J00 5 hO rfl rfl) (J00 5 fT.own rfl rfl)) (CSv.cons (cs_eq (J00 5 hO rfl rfl) (J00 5 fT.own rfl rfl)) (CSv.cons (cs_eq (J00 5 hO rfl rfl) (J00 5 fT.own rfl rfl)) (CSv.cons (cs_eq (J00 5 hO rfl rfl) (J00 5 fT.own rfl rfl)) (CSv.cons (cs_eq (J00 5 hO rfl rfl) (J00 5 fT.own rfl rfl)) (CSv.cons (cs_eq (J00 5 hO rfl rfl) (J00 5 fT.own rfl rfl)) (CSv.nil _ _))))))))))) (Stp.kp hO fT) rfl ?_
 refine nst fT fun s hO => ?_
 refine GoQA.alloc rfl rfl (alBuild (n := 0) (parts := []) (vs := []) underlying121 ti185 (by decide) (by decide) (by decide) (by kernel_rfl) rfl rfl) ?_
 intro w91 A92 b93 A94 zd abP hd97 hnb98 hh99
 refine sgw zd hO fun s hO => ?_
 have g5 := elE (rpRule) [] (([] : List Rule)) hO (Els.nil _ _ _)
 refine sgn (e := .row 185 2 (some ⟨b93, 0, none⟩) 0 0 []) abP hO hn8 hw9 hnb98 rfl hh99 hd97 (fr : Fr (bl []) w0 _ w91) fun s hO hB => ?_
 replace g5 := g5.ch s.ch
 refine cl1 (id Fl.fl : Fl rpRule) 0 hO g5.u fun s hO => ?_
 refine GoQA.loudI rfl rfl fun wY A102 Sj => ?_
 refine sgw Sj hO fun s hO => ?_
 refine sapQ 0 hO ux.u H (fun xm vQ vR s hO => ?_) (g := fun _ _ _ _ hv hst h => GoAt.step hv (fun _ => (CSv.cons (cs_eq (J00 6 hO rfl rfl) (J00 6 hst.own rfl rfl)) (CSv.cons (cs_eq (J00 6 hO rfl rfl) (J00 6 hst.own rfl rfl)) (CSv.cons (cs_eq (J00 6 hO rfl rfl) (J00 6 hst.own rfl rfl)) (CSv.cons (cs_eq (J00 6 hO rfl rfl) (J00 6 hst.own rfl rfl)) (CSv.cons (cs_eq (J00 6 hO rfl rfl) (J00 6 hst.own rfl rfl)) (CSv.cons (cs_eq (J00 6 hO rfl rfl) (J00 6 hst.own rfl rfl)) (CSv.cons (cs_eq (J00 6 hO rfl rfl) (J00 6 hst.own rfl rfl)) (CSv.cons (cs_eq (J00 6 hO rfl rfl) (J00 6 hst.own rfl rfl)) (CSv.cons (cs_eq (J00 6 hO rfl rfl) (J00 6 hst.own rfl rfl)) (CSv.nil _ _))))))))))) (Stp.kp hO hst) rfl h)
 refine GoQA.pure rfl (J05 underlying123 ti123 (pl := [(0, 1), (1, 1), (2, 1), (3, 1), (4, 1), (5, 1), (6, 1), (7, 1), (8, 1)]) (vs := [(0, .int .i64 a0.Points), (1, .bool a0.Monoid), (2, .slice fJ a0.Gens.length fK), (3, .slice p26 (0 + a0.Elems.length) c27), (4, .slice p48 (0 + a0.Prefix.length) c49), (5, .slice p65 (0 + a0.Last.length) c66), (6, .slice p83 (0 + a0.Right.length) c84), (7, .slice vQ (0 + a0.Rules.length) vR), (8, .int .i64 a0.Done)]) (cs := #[.int .i64 a0.Points, .bool a0.Monoid, .slice fJ a0.Gens.length fK, .slice p26 (0 + a0.Elems.length) c27, .slice p48 (0 + a0.Prefix.length) c49, .slice p65 (0 + a0.Last.length) c66, .slice p83 (0 + a0.Right.length) c84, .slice vQ (0 + a0.Rules.length) vR, .int .i64 a0.Done]) (by kernel_rfl) rfl (by kernel_rfl)) rfl rfl ?_
 refine GoQA.alloc rfl rfl (alAlloc (cs := #[.int .i64 (0 : Int), .bool false, .slice none 0 0, .slice none 0 0, .slice none 0 0, .slice none 0 0, .slice none 0 0, .slice none 0 0, .int .i64 (0 : Int)]) ti123 rfl) ?_
 intro vw A109 kw A111 t5 t6 hd114 hnb115 hh116
 refine sgw t5 hO fun s hO => ?_
 refine sgn (e := .blk kw (.cells #[.int .i64 (0 : Int), .bool false, .slice none 0 0, .slice none 0 0, .slice none 0 0, .slice none 0 0, .slice none 0 0, .slice none 0 0, .int .i64 (0 : Int)] 123 (0, 0))) t6 hO hn8 hw9 hnb115 rfl hh116 hd114 (fr : Fr (bl []) w0 _ vw) fun s hO hB => ?_
 refine GoQA.lastI rfl rfl fun sI A118 tT => ?_
 refine sgw tT hO fun s hO => ?_
 refine sba 0 hO fun nT s hO => ?_
 refine GoQA.nil fun nU A122 tU tV => ?_
 refine sgw tU hO fun s hO => ?_
 refine spm tV hO fun s hO => ?_
 refine au ?_
 have hB := (fr : Fr (bl []) w0 _ nU)
 replace fH := fH.o hO
 replace gP := gP.o hO
 revert hO; repeat (rename Owns .. => q; clear q)
 intro hO; repeat (rename Sq .. => q; clear q)
 refine au ?_
 have zz := omakeMap (fun a : List UInt8 => Value.string (gstr a)) (fun a : Int => Value.int .i64 a) hO
 obtain ⟨Gp, B126, Ix, afy, Iy⟩ := zz
 refine zg Iy ?_
 refine nst Ix fun s hO => ?_
 refine au ?_
 refine zo (J0t underlying23 rfl (Els.neqW fH.u hO 6 rfl)) ?_
 refine au ?_
 refine snil Fl.str 9 hO fun s hO => ?_
 refine sdr [9] hO fun s hO => ?_
 refine lv [1, 4, 6, 7, 50] hO H.2 (fun E (lF, uy, uX) σ w => ∃ zK nW nX, (fun Z => Lo A w0 σ w [(8, .slice nW zK nX), (51, .int .i64 (lF : Int))] Z ∧ Els (Rp.sl (Rp.int .i64)) (bl Z ++ A) w abO ((([] : List (List Int))) ++ a0.Right) ∧ Els (Rp.sl (Rp.int .i64)) (bl Z ++ A) w abE ((([] : List (List Int))) ++ a0.Elems)) (esets E [(0, t1 Fl.str 9 nW zK nX uy), (1, .any (mapE (fun a : List UInt8 => Value.string (gstr a)) (fun a : Int => Value.int .i64 a) B126 uX))])) ⟨_, _, _, ⟨agr, hO, fr⟩, gP.u, fH.u⟩ ?_
 refine fun X1 => p2 fun lF uy uX => fun H hX1 σ TK hk => e3 fun zK nW nX => d1 fun hL => d1 fun gP fH => lh hk (fun hO hB => ?_) hL
 dsimp only [esets, sS, sZ] at hO hB gP fH
 dsimp only at H
 revert hO; repeat (rename Owns .. => q; clear q)
 intro hO; repeat (rename Sq .. => q; clear q)
 refine scm H (fun vT H => ?_) fun vT H => ?_
 ·refine sag 2 hO ?_
  refine au ?_
  have zz := rowlend 7 hO rfl fH
  obtain ⟨Sk, Sl⟩ := zz
  have hOc142 := hO.drop 7
  have Sm := t1lend 6 hOc142
  have kQ := t1n 6 hOc142
  have hOc145 := hOc142.drop 6
  have Sn := t1lend 5 hOc145
  have Bl := t1n 5 hOc145
  have hOc148 := hOc145.drop 5
  have zz := rowlend 4 hOc148 rfl (((gP.ch (Owns.J0c _ _ 7)).ch (Owns.J0c _ _ 6)).ch (Owns.J0c _ _ 5))
  obtain ⟨So, Sp⟩ := zz
  have hOc151 := hOc148.drop 4
  have Sr := t1lend 3 hOc151
  have sJ := t1n 3 hOc151
  have hOc154 := hOc151.drop 3
  refine zcr (J02 body106 (by rw [Sl, kQ, Bl, Sp, sJ]; exact rfl) (J0I (e := (⟨a0.Points, a0.Monoid, a0.Gens, (([] : List (List Int))) ++ a0.Elems, (([] : List Int)) ++ a0.Prefix, (([] : List Int)) ++ a0.Last, (([] : List (List Int))) ++ a0.Right, (([] : List Rule)) ++ a0.Rules, a0.Done⟩ : Enum)) hOc154.lt (((((dH.u.ch (Owns.J0c _ _ 7)).ch (Owns.J0c _ _ 6)).ch (Owns.J0c _ _ 5)).ch (Owns.J0c _ _ 4)).ch (Owns.J0c _ _ 3)) ((((Sk.ch (Owns.J0c _ _ 6)).ch (Owns.J0c _ _ 5)).ch (Owns.J0c _ _ 4)).ch (Owns.J0c _ _ 3)) (((Sm.ch (Owns.J0c _ _ 5)).ch (Owns.J0c _ _ 4)).ch (Owns.J0c _ _ 3)) ((Sn.ch (Owns.J0c _ _ 4)).ch (Owns.J0c _ _ 3)) (So.ch (Owns.J0c _ _ 3)) Sr H)) fun _ vC => e1 fun Iz => sc0 hO fun s hO => d1 fun Cf H => ?_
  refine sap1 Iz 0 hO H (fun _ Yi aqr aqs s hO => ?_) (hR := by exact fun _ _ => ⟨rfl, Cf⟩)
  refine sxl1 0 hO H.2.1 H.2.2.1 ?_
  have hle160 := t1le 0 hO H.2.1 H.2.2.1
  refine au ?_
  have zz := omapUpd (MK.str underlying9) 1 hO rfl underlying154 (ix (uy ++ ([Iz])) (lF : Int)) (lF : Int)
  obtain ⟨YE, IA, IB⟩ := zz
  refine zg (IB (by exact rfl) (by exact rfl) (by exact rfl)) ?_
  refine nst IA fun s hO => ?_
  refine sinc (natbd vT fH.bd) ?_
  refine au ?_
  exact hX1 _ H.2.2.2 _ _ agr ⟨_, _, _, ⟨agr, hO, fr⟩, gP.u, fH.u⟩
 refine au ?_
 refine lv [4, 6, 7] hO H (fun E (uY, dq, f7, u0, d_172, d_176, nu, nw, ny) σ w => ∃ zL qV zM zN ki l8 uz jR jS kB zO ko kq j8 gI ic zP pM pN mM, (fun Z => Lo A w0 σ w [(1, .int .i64 uY), (8, .slice qV zL zM)] Z ∧ Els (Rp.sl (Rp.int .i64)) (bl Z ++ A) w kB d_176 ∧ Els (Rp.sl (Rp.int .i64)) (bl Z ++ A) w mM ny) (esets E [(0, t1 Fl.str 9 qV zL zM f7), (1, .any (mapE (fun a : List UInt8 => Value.string (gstr a)) (fun a : Int => Value.int .i64 a) B126 u0)), (2, .blk kw (.cells #[.int .i64 a0.Points, .bool a0.Monoid, .slice fJ a0.Gens.length fK, .slice pM zP pN, .slice gI j8 ic, .slice ko zO kq, .slice jR uz jS, .slice ki zN l8, .int .i64 dq] 123 (0, 0))), (3, t1 (id Fl.fl : Fl rpRule) 185 ki zN l8 d_172), (4, .row 31 1 jR uz jS kB), (5, t1 Fl.i 3 ko zO kq nu), (6, t1 Fl.i 3 gI j8 ic nw), (7, .row 31 1 pM zP pN mM)])) ⟨_, _, _, _, _, _, _, _, _, _, _, _, _, _, _, _, _, _, _, _, ⟨agr, hO, fr⟩, gP.u, fH.u⟩ ?_
 refine fun X2 => p1 fun uY => p1 fun dq => p1 fun f7 => p1 fun u0 => p1 fun d_172 => p3 fun d_176 nu nw ny => fun H hX2 σ oc hk => e4 fun zL qV zM zN => e4 fun ki l8 uz jR => e4 fun jS kB zO ko => e4 fun kq j8 gI ic => e4 fun zP pM pN mM => d1 fun hL => d1 fun fC lG => lh hk (fun hO hB => ?_) hL
 dsimp only [esets, sS, sZ] at hO hB fC lG
 dsimp only at H
 revert hO; repeat (rename Owns .. => q; clear q)
 intro hO; repeat (rename Sq .. => q; clear q)
 refine scm H (fun Ge H => ?_) fun Ge H => ?_
 ·refine au ?_
  refine zo (J0t underlying23 rfl (Els.neqW lG hO 7 rfl)) ?_
  refine scm H (fun Gf H => ?_) fun Gf H => ?_
  ·refine sxl1 0 hO H.1 H.2.1 ?_
   have hle198 := t1le 0 hO H.1 H.2.1
   refine sln0 ?_
   refine au ?_
   refine snil Fl.i 3 hO fun s hO => ?_
   refine lv [1, 4, 6, 7, 11, 86] hO (H.2.2 dH.bd) (fun E (gW, d_202, lH, pO, BR, BS, BT, nA) σ w => ∃ zQ zR zS zT zU zV zW zX zY z3 qX z4 z5 lU lV z6 qY q8 uA, (fun Z => Lo A w0 σ w [(8, .slice zU zT zV), (10, .slice zR zQ zS), (87, .int .i64 (gW : Int))] Z ∧ Els (Rp.sl (Rp.int .i64)) (bl Z ++ A) w kB d_176 ∧ Els (Rp.sl (Rp.int .i64)) (bl Z ++ A) w uA nA) (esets E [(0, t1 Fl.i 3 zR zQ zS d_202), (1, t1 Fl.str 9 zU zT zV lH), (2, .any (mapE (fun a : List UInt8 => Value.string (gstr a)) (fun a : Int => Value.int .i64 a) B126 pO)), (3, .blk kw (.cells #[.int .i64 a0.Points, .bool a0.Monoid, .slice fJ a0.Gens.length fK, .slice qY z6 q8, .slice lU z5 lV, .slice qX z3 z4, .slice jR uz jS, .slice zX zW zY, .int .i64 dq] 123 (0, 0))), (4, t1 (id Fl.fl : Fl rpRule) 185 zX zW zY BR), (6, t1 Fl.i 3 qX z3 z4 BS), (7, t1 Fl.i 3 lU z5 lV BT), (8, .row 31 1 qY z6 q8 uA)])) ⟨_, _, _, _, _, _, _, _, _, _, _, _, _, _, _, _, _, _, _, ⟨agr, hO, fr⟩, fC.u, lG.u⟩ ?_
   refine fun X3 => p1 fun gW => p1 fun d_202 => p1 fun lH => p1 fun pO => p3 fun BR BS BT nA => fun H hX3 σ aqt hk => e4 fun zQ zR zS zT => e4 fun zU zV zW zX => e4 fun zY z3 qX z4 => e4 fun z5 lU lV z6 => e3 fun qY q8 uA => d1 fun hL => d1 fun fC dV => lh hk (fun hO hB => ?_) hL
   dsimp only [esets, sS, sZ] at hO hB fC dV
   dsimp only at H
   revert hO; repeat (rename Owns .. => q; clear q)
   intro hO; repeat (rename Sq .. => q; clear q)
   refine scm H (fun je H => ?_) fun je H => ?_
   ·refine au ?_
    refine drs 0 [q0, q1, q0, q1, q0, q1, q0, q1, q0, q0, q1, q2, q0] hO fun rP s hO => ?_
    refine au ?_
    obtain ⟨z7, H⟩ := H
    obtain ⟨z8, H⟩ := H
    refine GoQ.pure rfl (J04 underlying23 ti31 rfl rfl z7 (ltn (Els.neqW dV.u hO 8 rfl) z8) (Els.psomeW dV.u hO 8 rfl z7 z8)) rfl rfl ?_
    have zz := oldSl 8 hO rfl dV.u z7 z8
    obtain ⟨aqu, aqv, Ss, St⟩ := zz
    refine GoQ.stable rfl (St underlying31 rfl rfl) rfl rfl ?_
    refine sxls hO dH.u H.1 H.2.1 fun v9 aqw Su => ?_
    have aqx := H.1
    have EJ := H.2.1
    refine zcq rfl (J02 body114 rfl (J2E hO.lt Ss Su.u H.2.2)) fun _ aqy => e3 fun pP jk jl => sq0 hO fun s hO => d1 fun u4 H => ?_
    refine au ?_
    have zz := rowlend 8 hO rfl dV.u
    obtain ⟨Sv, Sw⟩ := zz
    have hOc246 := hO.drop 8
    refine zcr (J02 body107 (by rw [Sw]; exact rfl) (J1k hOc246.lt Sv (u4.ch (Owns.J0c _ _ 8)) H)) fun _ VK => e1 fun kx => sc0 hO fun s hO => fun H => ?_
    refine au ?_
    refine zcr (J02 body137 rfl (J0Q hO.lt H)) fun _ YN => e1 fun jm => sc0 hO fun s hO => d1 fun acl H => ?_
    obtain ⟨z9, H⟩ := H
    refine zo (J08 rfl rfl z9) ?_
    refine scm H (fun wa H => ?_) fun wa H => ?_
    ·refine au ?_
     refine zo (J0t underlying23 rfl (Els.neqW dV.u hO 8 rfl)) ?_
     refine scm H (fun abQ H => ?_) fun abQ H => ?_
     ·refine au ?_
      refine zo (J05 underlying123 ti123 (pl := [(0, 1), (1, 1), (2, 1), (3, 1), (4, 1), (5, 1), (6, 1), (7, 1), (8, 1)]) (vs := []) (cs := #[.int .i64 (0 : Int), .bool false, .slice none 0 0, .slice none 0 0, .slice none 0 0, .slice none 0 0, .slice none 0 0, .slice none 0 0, .int .i64 (0 : Int)]) (by kernel_rfl) rfl (by kernel_rfl)) ?_
      refine sba 9 hO fun aqz s hO => ?_
      refine au ?_
      refine Go1.retC2 func136 rfl rfl (rlb 9 hO) ⟨((⟨(0 : Int), false, ([] : List (List Int)), ([] : List (List Int)), ([] : List Int), ([] : List Int), ([] : List (List Int)), ([] : List Rule), (0 : Int)⟩ : Enum)), _, _, _, _, _, _, _, _, _, _, _, _, _, er, frs, (ISl.null _ _ _), (ISl.null _ _ _), (ISl.null _ _ _), (ISl.null _ _ _), (ISl.null _ _ _), (ISl.null _ _ _), H⟩
     refine au ?_
     refine zo (J0t underlying23 rfl (Els.neqW dV.u hO 8 rfl)) ?_
     refine au ?_
     refine drA (CSv.tr [(some ⟨kw, 3, none⟩), (some ⟨kw, 4, none⟩), (some ⟨kw, 8, none⟩), (some ⟨kw, 5, none⟩)]) 1 [(0, m0), (1, m1), (2, m0), (5, m0), (6, m1), (7, m0), (8, m1), (11, m0), (12, m1), (13, m0), (3, m4), (4, m2), (16, m0), (9, m4), (10, m2), (14, m4), (15, m2), (17, m3), (18, m0), (19, m3), (20, m0), (21, m3)] hO fun yA s hO => ?_
     have kC := hO.le
     have hw257 := (fr : Fr (bl []) w0 _ yA).ch.size
     refine au ?_
     refine GoQA.stable rfl (loadV (.head _) rfl (J00 3 hO rfl rfl) underlying23 rfl rfl) rfl rfl ?_
     refine au ?_
     refine au ?_
     refine GoQA.stable rfl (loadV (.tail _ (.head _)) rfl (J00 3 hO rfl rfl) underlying31 rfl rfl) rfl rfl ?_
     refine au ?_
     refine GoQA.stable rfl (loadV (.tail _ (.tail _ (.head _))) rfl (J00 3 hO rfl rfl) underlying3 rfl rfl) rfl rfl ?_
     refine au ?_
     refine GoQA.stable rfl (loadV (.tail _ (.tail _ (.tail _ (.head _)))) rfl (J00 3 hO rfl rfl) underlying31 rfl rfl) rfl rfl ?_
     refine au ?_
     refine GoQA.alloc rfl rfl (alBuild (n := 1) (parts := [(0, .slice jk pP.length jl)]) (vs := [.slice jk pP.length jl]) underlying23 ti31 (by decide) (by decide) (by decide) (by kernel_rfl) rfl rfl) ?_
     intro abR A260 abS A262 Sx Sy hd265 hnb266 hh267
     refine sgw Sx hO fun s hO => ?_
     have fB := elE (Rp.sl (Rp.int .i64)) [.slice jk pP.length jl] [pP] hO (Els.cons rfl ⟨jk, jl, rfl, u4.u⟩ (Els.nil _ _ _) (by simp [mx]))
     refine sgn (e := .row 31 1 (some ⟨abS, 0, none⟩) 1 1 [.slice jk pP.length jl]) Sy hO kC hw257 hnb266 rfl hh267 hd265 (fr : Fr (bl []) w0 _ abR) fun s hO hB => ?_
     replace fB := fB.ch s.ch
     refine GoQA.loudI rfl rfl fun Id A270 Sz => ?_
     refine sgw Sz hO fun s hO => ?_
     refine sfzR 0 hO fB.u fun s hO tE nb => ?_
     obtain ⟨o7, H⟩ := H
     have zz := oapp underlying23 ti31 rfl 8 hO rfl dV.u tE nb o7 (by decide)
     obtain ⟨T7, XE, XF, PR, ip, BU, IC⟩ := zz
     dsimp only [sS, sZ] at BU
     refine GoAt.step (IC (by exact rfl) (by exact rfl)) (fun _ => (CSv.cons (cs_eq (J00 3 hO rfl rfl) (J00 3 ip.own rfl rfl)) (CSv.cons (cs_eq (J00 3 hO rfl rfl) (J00 3 ip.own rfl rfl)) (CSv.cons (cs_eq (J00 3 hO rfl rfl) (J00 3 ip.own rfl rfl)) (CSv.cons (cs_eq (J00 3 hO rfl rfl) (J00 3 ip.own rfl rfl)) (CSv.nil _ _)))))) (Stp.kp hO ip) rfl ?_
     refine nst ip fun s hO => ?_
     refine au ?_
     refine GoQA.alloc rfl rfl (alBuild (n := 1) (parts := [(0, .int .i64 dq)]) (vs := [.int .i64 dq]) underlying31 ti3 (by decide) (by decide) (by decide) (by kernel_rfl) rfl rfl) ?_
     intro abT A285 abU A287 SA SB hd290 hnb291 hh292
     refine sgw SA hO fun s hO => ?_
     have uB := elE (Rp.int .i64) [.int .i64 dq] [dq] hO (Els.cons rfl rfl (Els.nil _ _ _) (by simp [mx]))
     refine sgn (e := .row 3 1 (some ⟨abU, 0, none⟩) 1 1 [.int .i64 dq]) SB hO kC hw257 hnb291 rfl hh292 hd290 (fr : Fr (bl []) w0 _ abT) fun s hO hB => ?_
     replace uB := uB.ch s.ch
     refine cl1 Fl.i 0 hO uB.u fun s hO => ?_
     refine GoQA.loudI rfl rfl fun CQ A295 SC => ?_
     refine sgw SC hO fun s hO => ?_
     refine sfz 0 hO fun s hO SD afz => ?_
     refine sapQ 7 hO SD H (fun GR aqA aqB s hO => ?_) (g := fun _ _ _ _ hv hst h => GoAt.step hv (fun _ => (CSv.cons (cs_eq (J00 3 hO rfl rfl) (J00 3 hst.own rfl rfl)) (CSv.cons (cs_eq (J00 3 hO rfl rfl) (J00 3 hst.own rfl rfl)) (CSv.cons (cs_eq (J00 3 hO rfl rfl) (J00 3 hst.own rfl rfl)) (CSv.cons (cs_eq (J00 3 hO rfl rfl) (J00 3 hst.own rfl rfl)) (CSv.nil _ _)))))) (Stp.kp hO hst) rfl h)
     refine GoQA.alloc rfl rfl (alBuild (n := 1) (parts := [(0, .int .i64 (gW : Int))]) (vs := [.int .i64 (gW : Int)]) underlying31 ti3 (by decide) (by decide) (by decide) (by kernel_rfl) rfl rfl) ?_
     intro CT A304 abV A306 SE SF hd309 hnb310 hh311
     refine sgw SE hO fun s hO => ?_
     have uC := elE (Rp.int .i64) [.int .i64 (gW : Int)] [(gW : Int)] hO (Els.cons rfl rfl (Els.nil _ _ _) (by simp [mx]))
     refine sgn (e := .row 3 1 (some ⟨abV, 0, none⟩) 1 1 [.int .i64 (gW : Int)]) SF hO kC hw257 hnb310 rfl hh311 hd309 (fr : Fr (bl []) w0 _ CT) fun s hO hB => ?_
     replace uC := uC.ch s.ch
     refine cl1 Fl.i 0 hO uC.u fun s hO => ?_
     refine GoQA.loudI rfl rfl fun xV A314 SG => ?_
     refine sgw SG hO fun s hO => ?_
     refine sfz 0 hO fun s hO tF PU => ?_
     refine sapQ 6 hO tF H.2 (fun aai aaj aak s hO => ?_) (g := fun _ _ _ _ hv hst h => GoAt.step hv (fun _ => (CSv.cons (cs_eq (J00 3 hO rfl rfl) (J00 3 hst.own rfl rfl)) (CSv.cons (cs_eq (J00 3 hO rfl rfl) (J00 3 hst.own rfl rfl)) (CSv.cons (cs_eq (J00 3 hO rfl rfl) (J00 3 hst.own rfl rfl)) (CSv.cons (cs_eq (J00 3 hO rfl rfl) (J00 3 hst.own rfl rfl)) (CSv.nil _ _)))))) (Stp.kp hO hst) rfl h)
     refine GoQA.lastI rfl rfl fun aqC A322 SJ => ?_
     refine sgw SJ hO fun s hO => ?_
     refine sbs 3 hO fun aqD s hO => ?_
     refine au ?_
     refine GoQA.lastI rfl rfl fun aqE A326 SK => ?_
     refine sgw SK hO fun s hO => ?_
     refine sbs 3 hO fun aal s hO => ?_
     refine au ?_
     refine GoQA.lastI rfl rfl fun aqF A330 SM => ?_
     refine sgw SM hO fun s hO => ?_
     refine sbs 3 hO fun G4 s hO => ?_
     refine GoQA.nil fun HP A334 SN SO => ?_
     refine sgw SN hO fun s hO => ?_
     refine spm SO hO fun s hO => ?_
     refine au ?_
     refine au ?_
     refine sap1 (((ix f7 dq) ++ jm)) 1 hO H.2.2 (fun _ YT aqG aqH s hO => ?_) (hR := by exact fun _ _ => ⟨rfl, (lenApp z9)⟩)
     refine au ?_
     have zz := omapUpd (MK.str underlying9) 2 hO rfl underlying154 ((ix f7 dq) ++ jm) (nA.length : Int)
     obtain ⟨wk, nK, ID⟩ := zz
     refine zg (ID (by exact rfl) (by exact rfl) (by exact rfl)) ?_
     refine nst nK fun s hO => ?_
     refine au ?_
     refine sap1 ((nA.length : Int)) 0 hO H.2.2.2 fun _ G6 aam aqI s hO => ?_
     refine sinc (natbd je dH.bd) ?_
     refine au ?_
     exact hX3 _ H.2.2.2.2 _ _ agr ⟨_, _, _, _, _, _, _, _, _, _, _, _, _, _, _, _, _, _, _, ⟨agr, hO, fr⟩, fC.u, BU.u⟩
    refine scm H (fun pv H => ?_) fun pv H => ?_
    ·refine au ?_
     refine sap1 kx 0 hO H fun _ XX aqJ aqK s hO => ?_
     refine sinc (natbd je dH.bd) ?_
     refine au ?_
     exact hX3 _ H.2 _ _ agr ⟨_, _, _, _, _, _, _, _, _, _, _, _, _, _, _, _, _, _, _, ⟨agr, hO, fr⟩, fC.u, dV.u⟩
    refine six1 1 hO H.1 H.2.1 ?_
    refine sld1 1 hO H.1 H.2.1 ?_
    have hle350 := t1le 1 hO H.1 H.2.1
    refine au ?_
    have ro := H.1
    have mb := H.2.1
    refine scm H.2.2 (fun iv H => ?_) fun iv H => ?_
    ·refine au ?_
     refine sap1 kx 0 hO H fun _ Ue Uf Ug s hO => ?_
     refine sinc (natbd je dH.bd) ?_
     refine au ?_
     exact hX3 _ H.2 _ _ agr ⟨_, _, _, _, _, _, _, _, _, _, _, _, _, _, _, _, _, _, _, ⟨agr, hO, fr⟩, fC.u, dV.u⟩
    refine au ?_
    obtain ⟨abX, H⟩ := H
    obtain ⟨abY, H⟩ := H
    refine zo (J8Q underlying9 rfl rfl abX abY) ?_
    by_cases gX : mhas pO ((((ix f7 dq) ++ jm).drop (1 : Int).toNat)) = true
    ·refine zs (olookT (a := (((ix f7 dq) ++ jm).drop (1 : Int).toNat)) (MK.str underlying9) 2 hO rfl underlying154 rfl rfl gX) ?_
     refine au ?_
     refine drs 3 [q0, q1, q0, q0, q0, q0, q1, q0, q2, q3, q0, q3] hO fun wm s hO => ?_
     refine sxl1 1 hO (ifp gX H).1 (ifp gX H).2.1 ?_
     have hle361 := t1le 1 hO (ifp gX H).1 (ifp gX H).2.1
     refine GoQ.pure rfl (J05 underlying185 ti185 (pl := [(0, 1), (1, 1)]) (vs := [(0, .string (gstr ((ix f7 dq) ++ jm))), (1, .string (gstr (ix lH kx)))]) (cs := #[.string (gstr ((ix f7 dq) ++ jm)), .string (gstr (ix lH kx))]) (by kernel_rfl) rfl (by kernel_rfl)) rfl rfl ?_
     refine sapF (⟨(ix f7 dq) ++ jm, ix lH kx⟩ : Rule) 4 hO (ifp gX H).2.2 (fun _ C7 aqL aqM s hO => ?_) (hok := by exact ⟨(lenApp z9), hle361⟩)
     refine sbs 3 hO fun aqN s hO => ?_
     refine au ?_
     refine sap1 kx 0 hO (ifp gX H).2.2.2 fun _ Ui Uj aqO s hO => ?_
     refine sinc (natbd je dH.bd) ?_
     refine au ?_
     exact hX3 _ (ifp gX H).2.2.2.2 _ _ agr ⟨_, _, _, _, _, _, _, _, _, _, _, _, _, _, _, _, _, _, _, ⟨agr, hO, fr⟩, fC.u, dV.u⟩
    refine zs (olookF (a := (((ix f7 dq) ++ jm).drop (1 : Int).toNat)) (MK.str underlying9) 2 hO rfl underlying154 ti3 rfl rfl gX) ?_
    refine au ?_
    refine sap1 kx 0 hO (ifn gX H) fun _ aan aao aap s hO => ?_
    refine sinc (natbd je dH.bd) ?_
    refine au ?_
    exact hX3 _ (ifn gX H).2 _ _ agr ⟨_, _, _, _, _, _, _, _, _, _, _, _, _, _, _, _, _, _, _, ⟨agr, hO, fr⟩, fC.u, dV.u⟩
   refine au ?_
   refine sfz 0 hO fun s hO SP SQ => ?_
   have zz := obu underlying23 ti31 hO (SP) SQ
   obtain ⟨aqP, aqQ, IE, SR, afA, IF⟩ := zz
   refine zg (IF rfl) ?_
   refine nst IE fun s hO => ?_
   refine sfzR 0 hO SR.u fun s hO qJ qK => ?_
   obtain ⟨vM, H⟩ := H
   have zz := oapp underlying23 ti31 rfl 4 hO rfl fC.u qJ qK vM (by decide)
   obtain ⟨vN, Uk, Ul, Ks, nM, kE, nO⟩ := zz
   dsimp only [sS, sZ] at kE
   refine zg (nO (by exact rfl) (by exact rfl)) ?_
   refine nst nM fun s hO => ?_
   refine sbs 2 hO fun Um s hO => ?_
   refine au ?_
   obtain ⟨yP, H⟩ := H
   refine zo (J03 rfl rfl (wrap_i64 yP)) ?_
   refine sbs 2 hO fun abz s hO => ?_
   refine au ?_
   obtain ⟨ab0, H⟩ := H
   refine zo (J73 rfl rfl (wrap_i64 ab0)) ?_
   refine au ?_
   exact hX2 _ H _ _ agr ⟨_, _, _, _, _, _, _, _, _, _, _, _, _, _, _, _, _, _, _, _, ⟨agr, hO, fr⟩, kE.u, dV.u⟩
  refine sag 2 hO ?_
  refine sba 8 hO fun aas s hO => ?_
  refine au ?_
  refine sfzR 7 hO lG.u fun s hO um uo => ?_
  refine sfz 6 hO fun s hO li ne => ?_
  refine sfz 5 hO fun s hO uq ur => ?_
  refine sfzR 4 hO fC.u fun s hO ut uu => ?_
  refine sfz 3 hO fun s hO SS ST => ?_
  refine Go1.retC2 func136 rfl rfl (rlb 3 hO) ⟨((⟨a0.Points, a0.Monoid, a0.Gens, ny, nw, nu, d_176, d_172, dq⟩ : Enum)), _, _, _, _, _, _, _, _, _, _, _, _, _, ?_, frs, dH.r, um.r, li.r, uq.r, ut.r, SS.r, H⟩
  exact (congrArg (fun l => Value.tuple (List.toArray l)) (J01 (congrArg (fun l => Value.agg (List.toArray l)) (J01 rfl (J01 rfl (J01 rfl (J01 (congrArg (fun nn => Value.slice pM nn pN) uo) (J01 (congrArg (fun nn => Value.slice gI nn ic) ne) (J01 (congrArg (fun nn => Value.slice ko nn kq) ur) (J01 (congrArg (fun nn => Value.slice jR nn jS) uu) (J01 (congrArg (fun nn => Value.slice ki nn l8) ST) (J01 rfl rfl)))))))))) (J01 rfl rfl)))
 refine sag 2 hO ?_
 refine sba 8 hO fun aqR s hO => ?_
 refine au ?_
 refine sfzR 7 hO lG.u fun s hO SU SV => ?_
 refine sfz 6 hO fun s hO SW SX => ?_
 refine sfz 5 hO fun s hO iI SY => ?_
 refine sfzR 4 hO fC.u fun s hO S0 S3 => ?_
 refine sfz 3 hO fun s hO S4 S5 => ?_
 refine Go1.retC2 func136 rfl rfl (rlb 3 hO) ⟨((⟨a0.Points, a0.Monoid, a0.Gens, ny, nw, nu, d_176, d_172, dq⟩ : Enum)), _, _, _, _, _, _, _, _, _, _, _, _, _, ?_, frs, dH.r, SU.r, SW.r, iI.r, S0.r, S4.r, H⟩
 exact (congrArg (fun l => Value.tuple (List.toArray l)) (J01 (congrArg (fun l => Value.agg (List.toArray l)) (J01 rfl (J01 rfl (J01 rfl (J01 (congrArg (fun nn => Value.slice pM nn pN) SV) (J01 (congrArg (fun nn => Value.slice gI nn ic) SX) (J01 (congrArg (fun nn => Value.slice ko nn kq) SY) (J01 (congrArg (fun nn => Value.slice jR nn jS) S3) (J01 (congrArg (fun nn => Value.slice ki nn l8) S5) (J01 rfl rfl)))))))))) (J01 rfl rfl)))
theorem body104 : Body prog 104 := ⟨f104, func104, rfl, by kernel_rfl⟩
theorem J5c {dQ : Option Addr} {dR : Nat} {gens : List (List Int)} {monoid : Bool} (hA : HA0 A w0) (dI : ISs A w0 dQ dR gens) {K : Enum → Int → Prop} (H : J2q gens monoid K) :
    CallsV prog 104 #[.slice dQ gens.length dR, .bool monoid] w0 (fun v w' => ∃ (r0 : Enum), ∃ (r1 : Int), ∃ (dA : Option Addr), ∃ (dB : Nat), ∃ (c8 : Option Addr), ∃ (db : Nat), ∃ (cE : Option Addr), ∃ (cG : Nat), ∃ (dC : Option Addr), ∃ (dD : Nat), ∃ (de : Option Addr), ∃ (dg : Nat), ∃ (dh : Option Addr), ∃ (di : Nat), v = .tuple #[.agg #[.int .i64 r0.Points, .bool r0.Monoid, .slice dA r0.Gens.length dB, .slice c8 r0.Elems.length db, .slice cE r0.Prefix.length cG, .slice dC r0.Last.length dD, .slice de r0.Right.length dg, .slice dh r0.Rules.length di, .int .i64 r0.Done], .int .i64 r1] ∧ Same w0 w' ∧ ISs A w' dA dB r0.Gens ∧ ISs A w' c8 db r0.Elems ∧ ISi A w' cE cG r0.Prefix ∧ ISi A w' dC dD r0.Last ∧ ISs A w' de dg r0.Right ∧ ISl (rpRule) A w' dh di r0.Rules ∧ K r0 r1) := by
 refine cal hA func104 ntmps104 fun hO hB => ?_
 unfold J2q at H
 refine sal hO fun w1 B2 s hO => ?_
 refine au ?_
 refine zcr (J02 body135 rfl (J5e hO.lt dI.u H)) fun _ w6 => e4 fun r4 r5 g7 g8 => e4 fun gz gA f8 f9 => e4 fun g9 ia gB gC => e2 fun gD gE => sc0 hO fun s hO => d1 fun dk => d1 fun b8 => d4 fun cw dm cO cP H => ?_
 refine sal hO fun w7 B8 s hO => ?_
 refine sba 0 hO fun w10 s hO => ?_
 refine scm H (fun h11 H => ?_) fun h11 H => ?_
 ·refine sag 0 hO ?_
  refine zcr (J02 body136 rfl (J4x hO.lt dk.u b8.u cw.u dm.u cO.u cP.u H)) fun _ w14 => e4 fun r12 r13 S6 S7 => e4 fun Jl Jm IG IH => e4 fun S8 S9 Jo Jp => e2 fun Jq Jr => sc0 hO fun s hO => d1 fun uD => d1 fun qi => d4 fun pQ uE qj qk H => ?_
  refine sba 1 hO fun w15 s hO => ?_
  refine au ?_
  refine Go1.retC2 func104 rfl rfl (rlb 1 hO) ⟨((⟨r12.Points, r12.Monoid, r12.Gens, r12.Elems, r12.Prefix, r12.Last, r12.Right, r12.Rules, r12.Done⟩ : Enum)), _, _, _, _, _, _, _, _, _, _, _, _, _, er, frs, uD.r, qi.r, pQ.r, uE.r, qj.r, qk.r, H⟩
 refine au ?_
 refine zo (J05 underlying123 ti123 (pl := [(0, 1), (1, 1), (2, 1), (3, 1), (4, 1), (5, 1), (6, 1), (7, 1), (8, 1)]) (vs := []) (cs := #[.int .i64 (0 : Int), .bool false, .slice none 0 0, .slice none 0 0, .slice none 0 0, .slice none 0 0, .slice none 0 0, .slice none 0 0, .int .i64 (0 : Int)]) (by kernel_rfl) rfl (by kernel_rfl)) ?_
 refine sba 1 hO fun w16 s hO => ?_
 refine au ?_
 refine Go1.retC2 func104 rfl rfl (rlb 1 hO) ⟨((⟨(0 : Int), false, ([] : List (List Int)), ([] : List (List Int)), ([] : List Int), ([] : List Int), ([] : List (List Int)), ([] : List Rule), (0 : Int)⟩ : Enum)), _, _, _, _, _, _, _, _, _, _, _, _, _, er, frs, (ISl.null _ _ _), (ISl.null _ _ _), (ISl.null _ _ _), (ISl.null _ _ _), (ISl.null _ _ _), (ISl.null _ _ _), H⟩
theorem body105 : Body prog 105 := ⟨f105, func105, rfl, by kernel_rfl⟩
theorem J5f {gR gi fQ gT gk gn : Option Addr} {gS gj fR gU gm gq : Nat} {e : Enum} (hA : HA0 A w0) (pK : ISs A w0 gR gS e.Gens) (gt : ISs A w0 gi gj e.Elems) (iL : ISi A w0 fQ fR e.Prefix) (gV : ISi A w0 gT gU e.Last) (jh : ISs A w0 gk gm e.Right) (mv : ISl (rpRule) A w0 gn gq e.Rules) {K : List (List Int) → Prop} (H : J2n e K) :
    CallsV prog 105 #[.agg #[.int .i64 e.Points, .bool e.Monoid, .slice gR e.Gens.length gS, .slice gi e.Elems.length gj, .slice fQ e.Prefix.length fR, .slice gT e.Last.length gU, .slice gk e.Right.length gm, .slice gn e.Rules.length gq, .int .i64 e.Done]] w0 (fun v w' => ∃ (r0 : List (List Int)), ∃ (p_r0 : Option Addr), ∃ (c_r0 : Nat), v = .slice p_r0 r0.length c_r0 ∧ Same w0 w' ∧ ISs A w' p_r0 c_r0 r0 ∧ K r0) := by
 refine cal hA func105 ntmps105 fun hO hB => ?_
 unfold J2n at H
 refine sbx hO fun w1 B2 s hO => ?_
 refine sln0 ?_
 refine au ?_
 have xn := Stp.nil (e := 31) (r := 1) hO
 refine nst xn fun s hO => ?_
 have hE6 := elN (Rp.sl (Rp.int .i64)) hO
 refine lv [1, 12] hO (H gt.bd) (fun E (k1_8, out1_9) σ w => ∃ n14 p12 c13 iE, (fun Z => Lo A w0 σ w [(3, .slice p12 n14 c13), (13, .int .i64 (k1_8 : Int))] Z ∧ Els (Rp.sl (Rp.int .i64)) (bl Z ++ A) w iE out1_9) (E.set 0 (.row 31 1 p12 n14 c13 iE))) ⟨_, _, _, _, ⟨agr, hO, fr⟩, hE6.u⟩ ?_
 refine fun X1 => p1 fun k1_8 out1_9 => fun H hX1 σ w7 hk => e4 fun n14 p12 c13 iE => d1 fun hL => fun cY => lh hk (fun hO hB => ?_) hL
 dsimp only [esets, sS, sZ] at hO hB cY
 dsimp only at H
 revert hO; repeat (rename Owns .. => q; clear q)
 intro hO; repeat (rename Sq .. => q; clear q)
 refine scm H (fun h15 H => ?_) fun h15 H => ?_
 ·refine sln0 ?_
  refine au ?_
  refine snil Fl.i 3 hO fun s hO => ?_
  refine lv [1, 3, 4, 12, 13, 18] hO H (fun E (BV, row2_19) σ w => ∃ n22 p20 c21, (fun Z => Lo A w0 σ w [(5, .slice p20 n22 c21), (19, .int .i64 (BV : Int))] Z ∧ Els (Rp.sl (Rp.int .i64)) (bl Z ++ A) w iE out1_9) (E.set 0 (t1 Fl.i 3 p20 n22 c21 row2_19))) ⟨_, _, _, ⟨agr, hO, fr⟩, cY.u⟩ ?_
  refine fun X2 => p1 fun BV row2_19 => fun H hX2 σ w17 hk => e3 fun n22 p20 c21 => d1 fun hL => fun cY => lh hk (fun hO hB => ?_) hL
  dsimp only [esets, sS, sZ] at hO hB cY
  dsimp only at H
  revert hO; repeat (rename Owns .. => q; clear q)
  intro hO; repeat (rename Sq .. => q; clear q)
  refine scm H (fun h23 H => ?_) fun h23 H => ?_
  ·refine sag 2 hO ?_
   refine au ?_
   refine zcr (J02 body106 rfl (J0I hO.lt pK.u gt.u iL.u gV.u jh.u mv.u H)) fun _ w25 => e1 fun r24 => sc0 hO fun s hO => d1 fun u5 H => ?_
   refine au ?_
   refine lv [1, 3, 4, 5, 7, 12, 13, 18, 19] hO H (fun E (at3_27, i3_28) σ w => (fun Z => Lo A w0 σ w [(8, .int .i64 at3_27), (9, .int .i64 (i3_28 : Int))] Z ∧ Els (Rp.sl (Rp.int .i64)) (bl Z ++ A) w iE out1_9) E) ⟨⟨agr, hO, fr⟩, cY.u⟩ ?_
   refine fun X3 => p1 fun at3_27 i3_28 => fun H hX3 σ w26 hk => d1 fun hL => fun cY => lh hk (fun hO hB => ?_) hL
   dsimp only at H
   revert hO; repeat (rename Owns .. => q; clear q)
   intro hO; repeat (rename Sq .. => q; clear q)
   refine au ?_
   refine zo (J6A underlying9 rfl) ?_
   replace H := H u5
   refine scm H (fun h29 H => ?_) fun h29 H => ?_
   ·refine au ?_
    refine drs 0 [q0, q1, q0, q0, q1, q0, q0, q0, q0, q0, q0, q1, q0] hO fun w30 s hO => ?_
    refine sxls hO jh.u H.1 H.2.1 fun p31 c32 uF => ?_
    refine au ?_
    have h34 := H.1
    have h35 := H.2.1
    replace H := H.2.2
    obtain ⟨h36, H⟩ := H
    obtain ⟨h37, H⟩ := H
    refine GoQ.pure rfl (J4D underlying9 rfl rfl h36 h37) rfl rfl ?_
    refine GoQ.pure rfl (J73 rfl rfl rfl) rfl rfl ?_
    refine GoQ.pure rfl (J1Y underlying5 underlying3 rfl rfl) rfl rfl ?_
    refine sxl hO uF.u H.1 H.2.1 ?_
    refine sinc (natbd h29 u5) ?_
    refine au ?_
    exact hX3 _ H.2.2 _ _ agr ⟨⟨agr, hO, fr⟩, cY.u⟩
   refine au ?_
   refine sap1 at3_27 0 hO H fun _ w38 p39 c40 s hO => ?_
   refine sinc (natbd h23 gt.bd) ?_
   refine au ?_
   exact hX2 _ H.2 _ _ agr ⟨_, _, _, ⟨agr, hO, fr⟩, cY.u⟩
  refine au ?_
  refine sfz 0 hO fun s hO l5 ab1 => ?_
  have zz := obu underlying23 ti31 hO (l5) ab1
  obtain ⟨w43, p44, t7, zw, aqS, Ta⟩ := zz
  refine zg (Ta rfl) ?_
  refine nst t7 fun s hO => ?_
  refine sfzR 0 hO zw fun s hO gM tY => ?_
  obtain ⟨h52, H⟩ := H
  have zz := oapp underlying23 ti31 rfl 0 hO rfl cY.u gM tY h52 (by decide)
  obtain ⟨w53, p54, c55, aqT, Tc, II, kF⟩ := zz
  dsimp only [sS, sZ] at II
  refine zg (kF (by exact rfl) (by exact rfl)) ?_
  refine nst Tc fun s hO => ?_
  refine sinc (natbd h15 gt.bd) ?_
  refine au ?_
  exact hX1 _ H _ _ agr ⟨_, _, _, _, ⟨agr, hO, fr⟩, II⟩
 refine au ?_
 refine sfzR 0 hO cY.u fun s hO ab2 tS => ?_
 refine Go1.ret1 func105 rfl ⟨_, _, _, ?_, frs, ab2.r, H⟩
 exact (congrArg (fun nn => Value.slice p12 nn c13) tS)
theorem body138 : Body prog 138 := ⟨f138, func138, rfl, by kernel_rfl⟩
theorem J61 {p_l : Option Addr} {c_l : Nat} {l : List Int} {n : Int} (hA : HA0 A w0) (h_l : ISi A w0 p_l c_l l) {K : List Bool → Prop} (H : J3x l n K) :
    CallsV prog 138 #[.slice p_l l.length c_l, .int .i64 n] w0 (fun v w' => ∃ (r0 : List Bool), ∃ (fe : Nat), ∃ (p_r0 : Option Addr), ∃ (c_r0 : Nat), v = .slice p_r0 fe c_r0 ∧ Same w0 w' ∧ Owns w0.heap.size w' [t1 Fl.bool 4 p_r0 fe c_r0 r0] A ∧ K r0) := by
 refine cal hA func138 ntmps138 fun hO hB => ?_
 unfold J3x at H
 refine smk Fl.bool H hO fun w1 p4 s hO => ?_
 refine sln0 ?_
 refine au ?_
 refine lv [1, 5, 10, 11] hO (H.2.2 h_l.bd) (fun E (aK, out1_8) σ w => Lo A w0 σ w [(12, .int .i64 (aK : Int))] [t1 Fl.bool 4 p4 n.toNat n.toNat out1_8]) ⟨agr, hO, fr⟩ ?_
 refine fun X1 => p1 fun aK out1_8 => fun H hX1 σ w6 hk => lh hk fun hO hB => ?_
 dsimp only at H
 revert hO; repeat (rename Owns .. => q; clear q)
 intro hO; repeat (rename Sq .. => q; clear q)
 refine scm H (fun h9 H => ?_) fun h9 H => ?_
 ·refine sxl hO h_l.u H.1 H.2.1 ?_
  refine au ?_
  have h10 := H.1
  have h11 := H.2.1
  refine scm H.2.2 (fun h12 H => ?_) fun h12 H => ?_
  ·refine scm H (fun h13 H => ?_) fun h13 H => ?_
   ·refine six1 0 hO H.1 H.2.1 ?_
    refine sst (u := true) 0 hO H.1 H.2.1 fun w14 s hO => ?_
    refine sinc (natbd h9 h_l.bd) ?_
    refine au ?_
    exact hX1 _ H.2.2 _ _ agr ⟨agr, hO, fr⟩
   refine sinc (natbd h9 h_l.bd) ?_
   refine au ?_
   exact hX1 _ H _ _ agr ⟨agr, hO, fr⟩
  refine sinc (natbd h9 h_l.bd) ?_
  refine au ?_
  exact hX1 _ H _ _ agr ⟨agr, hO, fr⟩
 refine au ?_
 refine Go1.ret1 func138 rfl ⟨_, _, _, _, er, frs, hO, H⟩
theorem body58 : Body prog 58 := ⟨f58, func58, rfl, by kernel_rfl⟩
theorem J4h {u6 : Option Addr} {u7 : Nat} {set_ : List Bool} (hA : HA0 A w0) (lI : ISb A w0 u6 u7 set_) {K : List Int → Prop} (H : J1e set_ K) :
    CallsV prog 58 #[.slice u6 set_.length u7] w0 (fun v w' => ∃ (r0 : List Int), ∃ (fe : Nat), ∃ (p_r0 : Option Addr), ∃ (c_r0 : Nat), v = .slice p_r0 fe c_r0 ∧ Same w0 w' ∧ Owns w0.heap.size w' [t1 Fl.i 3 p_r0 fe c_r0 r0] A ∧ K r0) := by
 refine cal hA func58 ntmps58 fun hO hB => ?_
 unfold J1e at H
 refine sln0 ?_
 refine au ?_
 refine snil Fl.i 3 hO fun s hO => ?_
 refine lv [6, 7] hO (H lI.bd) (fun E (k1_3, IJ) σ w => ∃ n7 p5 c6, Lo A w0 σ w [(3, .slice p5 n7 c6), (8, .int .i64 (k1_3 : Int))] [t1 Fl.i 3 p5 n7 c6 IJ]) ⟨_, _, _, ⟨agr, hO, fr⟩⟩ ?_
 refine fun X1 => p1 fun k1_3 IJ => fun H hX1 σ w2 hk => e3 fun n7 p5 c6 => lh hk fun hO hB => ?_
 dsimp only at H
 revert hO; repeat (rename Owns .. => q; clear q)
 intro hO; repeat (rename Sq .. => q; clear q)
 refine scm H (fun h8 H => ?_) fun h8 H => ?_
 ·refine au ?_
  have h9 := H.1
  have h10 := H.2.1
  refine sxb hO lI.u H.1 H.2.1 H.2.2 (fun h11 H => ?_) fun h11 H => ?_
  ·refine au ?_
   refine sap1 ((k1_3 : Int)) 0 hO H fun _ w12 p13 c14 s hO => ?_
   refine sinc (natbd h8 lI.bd) ?_
   refine au ?_
   exact hX1 _ H.2 _ _ agr ⟨_, _, _, ⟨agr, hO, fr⟩⟩
  refine sinc (natbd h8 lI.bd) ?_
  refine au ?_
  exact hX1 _ H _ _ agr ⟨_, _, _, ⟨agr, hO, fr⟩⟩
 refine au ?_
 refine Go1.ret1 func58 rfl ⟨_, _, _, _, er, frs, hO, H⟩
theorem body108 : Body prog 108 := ⟨f108, func108, rfl, by kernel_rfl⟩
theorem J3Q {p_t dQ : Option Addr} {c_t dR : Nat} {t : List (List Int)} {gens : List Int} (hA : HA0 A w0) (h_t : ISs A w0 p_t c_t t) (dI : ISi A w0 dQ dR gens) {K : List Int → Prop} (H : J0J t gens K) :
    CallsV prog 108 #[.slice p_t t.length c_t, .slice dQ gens.length dR] w0 (fun v w' => ∃ (r0 : List Int), ∃ (fe : Nat), ∃ (p_r0 : Option Addr), ∃ (c_r0 : Nat), v = .slice p_r0 fe c_r0 ∧ Same w0 w' ∧ Owns w0.heap.size w' [t1 Fl.i 3 p_r0 fe c_r0 r0] A ∧ K r0) := by
 refine cal hA func108 ntmps108 fun hO hB => ?_
 unfold J0J at H
 refine sln0 ?_
 refine zcr (J02 body138 rfl (J61 hO.lt dI.u (H h_t.bd))) fun _ w3 => e4 fun r1 Aa dT dU => sc1 hO fun s hO => fun H => ?_
 refine au ?_
 refine lv [0, 5] hO H (fun E (changed1_6, in1_7) σ w => Lo A w0 σ w [(6, .bool changed1_6)] [t1 Fl.bool 4 dT Aa dU in1_7]) ⟨agr, hO, fr⟩ ?_
 refine fun X1 => p1 fun changed1_6 in1_7 => fun H hX1 σ w5 hk => lh hk fun hO hB => ?_
 dsimp only at H
 revert hO; repeat (rename Owns .. => q; clear q)
 intro hO; repeat (rename Sq .. => q; clear q)
 refine au ?_
 cases changed1_6
 ·refine au ?_
  have hl8 := t1lend 0 hO
  have hn9 := t1n 0 hO
  have hOc10 := hO.drop 0
  refine zcr (J02 body58 (by rw [hn9]; exact rfl) (J4h hOc10.lt hl8 (iF H))) fun _ w13 => e4 fun r11 afB Oj Ok => sc1 hO fun s hO => fun H => ?_
  refine au ?_
  refine sdr [1] hO fun s hO => ?_
  refine Go1.ret1 func108 rfl ⟨_, _, _, _, er, frs, hO, H⟩
 refine sln0 ?_
 refine au ?_
 refine lv [0, 5, 15] hO (iT H) (fun E (changed2_16, BW, in2_18) σ w => Lo A w0 σ w [(6, .bool changed2_16), (16, .int .i64 (BW : Int))] [t1 Fl.bool 4 dT Aa dU in2_18]) ⟨agr, hO, fr⟩ ?_
 refine fun X2 => p2 fun changed2_16 BW in2_18 => fun H hX2 σ w15 hk => lh hk fun hO hB => ?_
 dsimp only at H
 revert hO; repeat (rename Owns .. => q; clear q)
 intro hO; repeat (rename Sq .. => q; clear q)
 refine scm H (fun h19 H => ?_) fun h19 H => ?_
 ·refine sln0 ?_
  refine au ?_
  refine lv [0, 5, 7, 15, 16, 20] hO H (fun E (changed3_21, BX, in3_23) σ w => Lo A w0 σ w [(6, .bool changed3_21), (21, .int .i64 (BX : Int))] [t1 Fl.bool 4 dT Aa dU in3_23]) ⟨agr, hO, fr⟩ ?_
  refine fun X3 => p2 fun changed3_21 BX in3_23 => fun H hX3 σ w20 hk => lh hk fun hO hB => ?_
  dsimp only at H
  revert hO; repeat (rename Owns .. => q; clear q)
  intro hO; repeat (rename Sq .. => q; clear q)
  refine scm H (fun h24 H => ?_) fun h24 H => ?_
  ·refine au ?_
   have h25 := H.1
   have h26 := H.2.1
   refine sxb1 0 hO H.1 H.2.1 H.2.2 (fun h27 H => ?_) fun h27 H => ?_
   ·refine six1 0 hO H.1 H.2.1 ?_
    have h28 := H.1
    have h29 := H.2.1
    refine sbd1 0 hO H.1 H.2.1 H.2.2 (fun h30 H => ?_) fun h30 H => ?_
    ·refine six h_t H.1 H.2.1 ?_
     refine slds hO h_t.u H.1 H.2.1 fun p31 c32 uF => ?_
     refine six uF H.2.2.1 H.2.2.2.1 ?_
     refine sld hO uF.u H.2.2.1 H.2.2.2.1 ?_
     refine six1 0 hO H.2.2.2.2.1 H.2.2.2.2.2.1 ?_
     have h34 := H.1
     have h35 := H.2.1
     have h36 := H.2.2.1
     have h37 := H.2.2.2.1
     have h38 := H.2.2.2.2.1
     have h39 := H.2.2.2.2.2.1
     refine sbd1 0 hO H.2.2.2.2.1 H.2.2.2.2.2.1 H.2.2.2.2.2.2 (fun h40 H => ?_) fun h40 H => ?_
     ·refine sinc (natbd h24 h_t.bd) ?_
      refine au ?_
      exact hX3 _ H _ _ agr ⟨agr, hO, fr⟩
     refine sxls hO h_t.u H.1 H.2.1 fun p41 c42 ab3 => ?_
     refine sxl hO ab3.u H.2.2.1 H.2.2.2.1 ?_
     refine six1 0 hO H.2.2.2.2.1 H.2.2.2.2.2.1 ?_
     refine sst (u := true) 0 hO H.2.2.2.2.1 H.2.2.2.2.2.1 fun w44 s hO => ?_
     refine sinc (natbd h24 h_t.bd) ?_
     refine au ?_
     exact hX3 _ H.2.2.2.2.2.2 _ _ agr ⟨agr, hO, fr⟩
    refine sinc (natbd h24 h_t.bd) ?_
    refine au ?_
    exact hX3 _ H _ _ agr ⟨agr, hO, fr⟩
   refine sinc (natbd h24 h_t.bd) ?_
   refine au ?_
   exact hX3 _ H _ _ agr ⟨agr, hO, fr⟩
  refine sinc (natbd h19 h_t.bd) ?_
  refine au ?_
  exact hX2 _ H _ _ agr ⟨agr, hO, fr⟩
 refine au ?_
 exact hX1 _ H _ _ agr ⟨agr, hO, fr⟩
theorem body64 : Body prog 64 := ⟨f64, func64, rfl, by kernel_rfl⟩
theorem J6J {fh IK : Option Addr} {fk IL : Nat} {a0 : List (List Int)} {a1 : Int} {a2 : List Bool} (hA : HA0 A w0) (aS : ISs A w0 fh fk a0) (ab4 : ISb A w0 IK IL a2) {K : Syntactic → Int → Prop} (H : J4E a0 a1 a2 K) :
    CallsV prog 64 #[.slice fh a0.length fk, .int .i64 a1, .slice IK a2.length IL] w0 (fun v w' => ∃ (r0 : Syntactic), ∃ (r1 : Int), ∃ (cR : Option Addr), ∃ (cS : Nat), ∃ (cU : Option Addr), ∃ (cV : Nat), ∃ (cA : Option Addr), ∃ (cB : Nat), ∃ (cC : Option Addr), ∃ (cD : Nat), ∃ (dx : Option Addr), ∃ (dy : Nat), v = .tuple #[.agg (cSY r0 cR cS cU cV cA cB cC cD dx dy), .int .i64 r1] ∧ Same w0 w' ∧ ISs A w' cR cS r0.Table ∧ ISt A w' cU cV r0.Words ∧ ISi A w' cA cB r0.Images ∧ ISb A w' cC cD r0.Accept ∧ ISb A w' dx dy r0.Plus ∧ K r0 r1) := by
 refine cal hA func64 ntmps64 fun hO hB => ?_
 unfold J4E at H
 refine sal hO fun w1 B2 s hO => ?_
 refine au ?_
 refine zcr (J02 body104 rfl (J5c hO.lt aS.u H)) fun _ w6 => e4 fun r4 r5 g7 g8 => e4 fun gz gA f8 f9 => e4 fun g9 ia gB gC => e2 fun gD gE => sc0 hO fun s hO => d1 fun dk => d1 fun b8 => d4 fun cw dm cO cP H => ?_
 refine sal hO fun w7 B8 s hO => ?_
 refine sba 0 hO fun w10 s hO => ?_
 refine scm H (fun h11 H => ?_) fun h11 H => ?_
 ·refine sln0 ?_
  refine scm (H b8.bd) (fun h12 H => ?_) fun h12 H => ?_
  ·refine au ?_
   refine zo (J05 underlying33 ti33 (pl := [(0, 1), (1, 1), (2, 1), (3, 1), (4, 1), (5, 1)]) (vs := []) (cs := #[.int .i64 (0 : Int), .slice none 0 0, .slice none 0 0, .slice none 0 0, .slice none 0 0, .slice none 0 0]) (by kernel_rfl) rfl (by kernel_rfl)) ?_
   refine sba 1 hO fun w13 s hO => ?_
   refine au ?_
   refine Go1.retC2 func64 rfl rfl (rlb 1 hO) ⟨((⟨(0 : Int), ([] : List (List Int)), ([] : List Str), ([] : List Int), ([] : List Bool), ([] : List Bool)⟩ : Syntactic)), _, _, _, _, _, _, _, _, _, _, _, er, frs, (ISl.null _ _ _), (ISl.null _ _ _), (ISl.null _ _ _), (ISl.null _ _ _), (ISl.null _ _ _), H⟩
  refine au ?_
  refine drA Same.tr 1 [(0, m0), (1, m0), (2, m1), (4, m0), (5, m1), (6, m0), (3, m2), (7, m4), (8, m0), (9, m4), (10, m3)] hO fun w14 s hO => ?_
  have ii := hO.le
  have hw16 := (fr : Fr (bl []) w0 _ w14).ch.size
  refine au ?_
  refine sln0 ?_
  refine GoQA.stable rfl (J5P (vs := [.int .i64 r4.Points, .bool r4.Monoid, .slice g7 r4.Gens.length g8, .slice gz r4.Elems.length gA, .slice f8 r4.Prefix.length f9, .slice g9 r4.Last.length ia, .slice gB r4.Right.length gC, .slice gD r4.Rules.length gE, .int .i64 r4.Done]) (i := 0) 0 hO rfl rfl underlying123 rfl ti123 rfl) rfl rfl ?_
  refine au ?_
  refine sbl 0 ?_
  refine sln0 ?_
  refine GoQA.loudI rfl rfl fun w17 A18 zl => ?_
  refine sgw zl hO fun s hO => ?_
  refine GoAt.call (J02 body105 rfl (J5f hO.lt dk.u b8.u cw.u dm.u cO.u cP.u (H aS.bd))) (fun _ _ hr => ⟨fun _ => saq hr, Same.kp hO (saq hr)⟩) rfl fun _ w21 => e3 fun r20 eY e8 => sA0 hO fun s hO => d1 fun e9 H => ?_
  obtain ⟨h32, H⟩ := H
  obtain ⟨h33, H⟩ := H
  have zz := alMakeE (n := (r4.Elems.length : Int)) (r := Rp.bool) (d := false) underlying22 ti4 (fun _ _ => rfl) rfl h32 h33 (by decide)
  obtain ⟨o8, hal36, ab5⟩ := zz
  refine GoQA.alloc rfl rfl (hal36 rfl rfl) ?_
  intro w23 A24 b25 A26 ab6 ab7 hd29 hnb30 hh31
  refine sgw ab6 hO fun s hO => ?_
  have Ab := elX hO (ab5 _ _)
  refine sgn (e := .row 4 1 (some ⟨b25, 0, none⟩) r4.Elems.length r4.Elems.length o8) ab7 hO ii hw16 hnb30 rfl hh31 hd29 (fr : Fr (bl []) w0 _ w23) fun s hO hB => ?_
  replace Ab := Ab.ch s.ch
  refine cl1 Fl.bool 0 hO Ab.u fun s hO => ?_
  refine GoQA.pure rfl (J05 underlying33 ti33 (pl := [(0, 1), (1, 1), (2, 1), (3, 1), (4, 1), (5, 1)]) (vs := [(0, .int .i64 (a0.length : Int)), (1, .slice eY r20.length e8), (5, .slice (some ⟨b25, 0, none⟩) r4.Elems.length r4.Elems.length)]) (cs := #[.int .i64 (a0.length : Int), .slice eY r20.length e8, .slice none 0 0, .slice none 0 0, .slice none 0 0, .slice (some ⟨b25, 0, none⟩) r4.Elems.length r4.Elems.length]) (by kernel_rfl) rfl (by kernel_rfl)) rfl rfl ?_
  refine GoQA.alloc rfl rfl (alAlloc (cs := #[.int .i64 (0 : Int), .slice none 0 0, .slice none 0 0, .slice none 0 0, .slice none 0 0, .slice none 0 0]) ti33 rfl) ?_
  intro w39 A40 b41 A42 ab8 ab9 hd45 hnb46 hh47
  refine sgw ab8 hO fun s hO => ?_
  refine sgn (e := .blk b41 (.cells #[.int .i64 (0 : Int), .slice none 0 0, .slice none 0 0, .slice none 0 0, .slice none 0 0, .slice none 0 0] 33 (0, 0))) ab9 hO ii hw16 hnb46 rfl hh47 hd45 (fr : Fr (bl []) w0 _ w39) fun s hO hB => ?_
  refine GoQA.lastI rfl rfl fun w48 A49 aca => ?_
  refine sgw aca hO fun s hO => ?_
  refine sba 0 hO fun w51 s hO => ?_
  refine GoQA.nil fun w52 A53 acb acd => ?_
  refine sgw acb hO fun s hO => ?_
  refine spm acd hO fun s hO => ?_
  refine sln0 ?_
  refine au ?_
  refine snil Fl.str 9 hO fun s hO => ?_
  refine snil Fl.bool 4 hO fun s hO => ?_
  refine lv [0, 1, 2, 6, 8, 10, 41, 42] hO H (fun E (k1_59, d_60, fE) σ w => ∃ n63 p61 c62 n67 p65 c66, (fun Z => Lo A w0 σ w [(43, .int .i64 (k1_59 : Int))] Z ∧ ISs (bl Z ++ A) w g7 g8 r4.Gens ∧ ISs (bl Z ++ A) w gz gA r4.Elems ∧ ISi (bl Z ++ A) w f8 f9 r4.Prefix ∧ ISi (bl Z ++ A) w g9 ia r4.Last ∧ ISs (bl Z ++ A) w gB gC r4.Right ∧ ISl (rpRule) (bl Z ++ A) w gD gE r4.Rules ∧ ISs (bl Z ++ A) w eY e8 r20) (esets E [(0, t1 Fl.bool 4 p61 n63 c62 d_60), (1, t1 Fl.str 9 p65 n67 c66 fE), (2, .blk b41 (.cells #[.int .i64 (a0.length : Int), .slice eY r20.length e8, .slice p65 n67 c66, .slice none 0 0, .slice p61 n63 c62, .slice (some ⟨b25, 0, none⟩) r4.Elems.length r4.Elems.length] 33 (0, 0)))])) ⟨_, _, _, _, _, _, ⟨agr, hO, fr⟩, dk.u, b8.u, cw.u, dm.u, cO.u, cP.u, e9.u⟩ ?_
  refine fun X1 => p2 fun k1_59 d_60 fE => fun H hX1 σ w58 hk => e4 fun n63 p61 c62 n67 => e2 fun p65 c66 => d1 fun hL => d1 fun dk => d1 fun b8 => d4 fun cw dm cO cP e9 => lh hk (fun hO hB => ?_) hL
  dsimp only [esets, sS, sZ] at hO hB dk b8 cw dm cO cP e9
  dsimp only at H
  revert hO; repeat (rename Owns .. => q; clear q)
  intro hO; repeat (rename Sq .. => q; clear q)
  refine scm H (fun h68 H => ?_) fun h68 H => ?_
  ·refine sxls hO b8 H.1 H.2.1 fun p69 c70 zc => ?_
   refine au ?_
   refine drs 2 [q0, q1, q1, q0, q2, q2, q3, q0, q3] hO fun w72 s hO => ?_
   refine sag 4 hO ?_
   refine au ?_
   have h75 := H.1
   have h76 := H.2.1
   refine zcq rfl (J02 body106 rfl (J0I hO.lt dk.u b8.u cw.u dm.u cO.u cP.u H.2.2)) fun _ w74 => e1 fun r73 => sq0 hO fun s hO => d1 fun IM H => ?_
   refine sap1 r73 1 hO H (fun _ w77 p78 c79 s hO => ?_) (hR := by exact fun _ _ => ⟨rfl, IM⟩)
   refine sbs 2 hO fun w80 s hO => ?_
   refine au ?_
   refine drs 4 [q0, q1, q0, q0, q0, q0, q1, q0, q1, q2, q3, q0, q3] hO fun w81 s hO => ?_
   refine sxl hO zc.u H.2.1 H.2.2.1 ?_
   refine sxl hO ab4.u H.2.2.2.1 H.2.2.2.2.1 ?_
   refine sap1 (ix a2 (ix (ix r4.Elems (k1_59 : Int)) a1)) 0 hO H.2.2.2.2.2 fun _ w82 p83 c84 s hO => ?_
   refine sbs 2 hO fun w85 s hO => ?_
   refine sinc (natbd h68 b8.bd) ?_
   refine au ?_
   exact hX1 _ H.2.2.2.2.2.2 _ _ agr ⟨_, _, _, _, _, _, ⟨agr, hO, fr⟩, dk.u, b8.u, cw.u, dm.u, cO.u, cP.u, e9.u⟩
  refine sln0 ?_
  refine au ?_
  refine snil Fl.i 3 hO fun s hO => ?_
  refine lv [6, 8, 10, 69, 70] hO H (fun E (BY, Ac) σ w => ∃ n92 p90 c91, (fun Z => Lo A w0 σ w [(71, .int .i64 (BY : Int))] Z ∧ ISs (bl Z ++ A) w g7 g8 r4.Gens ∧ ISs (bl Z ++ A) w gz gA r4.Elems ∧ ISi (bl Z ++ A) w f8 f9 r4.Prefix ∧ ISi (bl Z ++ A) w g9 ia r4.Last ∧ ISs (bl Z ++ A) w gB gC r4.Right ∧ ISl (rpRule) (bl Z ++ A) w gD gE r4.Rules ∧ ISs (bl Z ++ A) w eY e8 r20) (esets E [(0, t1 Fl.i 3 p90 n92 c91 Ac), (3, .blk b41 (.cells #[.int .i64 (a0.length : Int), .slice eY r20.length e8, .slice p65 n67 c66, .slice p90 n92 c91, .slice p61 n63 c62, .slice (some ⟨b25, 0, none⟩) r4.Elems.length r4.Elems.length] 33 (0, 0)))])) ⟨_, _, _, ⟨agr, hO, fr⟩, dk.u, b8.u, cw.u, dm.u, cO.u, cP.u, e9.u⟩ ?_
  refine fun X2 => p1 fun BY Ac => fun H hX2 σ w87 hk => e3 fun n92 p90 c91 => d1 fun hL => d1 fun dk => d1 fun b8 => d4 fun cw dm cO cP e9 => lh hk (fun hO hB => ?_) hL
  dsimp only [esets, sS, sZ] at hO hB dk b8 cw dm cO cP e9
  dsimp only at H
  revert hO; repeat (rename Owns .. => q; clear q)
  intro hO; repeat (rename Sq .. => q; clear q)
  refine scm H (fun h93 H => ?_) fun h93 H => ?_
  ·refine sxls hO aS.u H.1 H.2.1 fun p94 c95 pG => ?_
   refine au ?_
   refine drs 2 [q0, q1, q0, q1, q0, q2, q2, q3, q0, q3] hO fun w97 s hO => ?_
   refine au ?_
   have jP := H.1
   have nS := H.2.1
   refine zcq rfl (J02 body107 rfl (J1k hO.lt b8.u pG.u H.2.2)) fun _ w99 => e1 fun r98 => sq0 hO fun s hO => fun H => ?_
   refine sap1 r98 0 hO H fun _ xW abl abm s hO => ?_
   refine sbs 3 hO fun rX s hO => ?_
   refine sinc (natbd h93 aS.bd) ?_
   refine au ?_
   exact hX2 _ H.2 _ _ agr ⟨_, _, _, ⟨agr, hO, fr⟩, dk.u, b8.u, cw.u, dm.u, cO.u, cP.u, e9.u⟩
  refine au ?_
  have Td := t1lend 0 hO
  have iq := t1n 0 hO
  have hOc108 := hO.drop 0
  refine zcr (J02 body108 (by rw [iq]; exact rfl) (J3Q hOc108.lt (e9.u.ch (Owns.J0c _ _ 0)) Td H)) fun _ Vu => e4 fun r109 acx acy acz => sc1 hO fun s hO => fun H => ?_
  refine sln1 0 hO ?_
  refine au ?_
  refine sdr [6] hO fun s hO => ?_
  refine lv [6, 10, 89, 90] hO H (fun E (u9, d_115) σ w => (fun Z => Lo A w0 σ w [(91, .int .i64 (u9 : Int))] Z ∧ ISs (bl Z ++ A) w eY e8 r20) (E.set 5 (t1 Fl.bool 4 (some ⟨b25, 0, none⟩) r4.Elems.length r4.Elems.length d_115))) ⟨⟨agr, hO, fr⟩, e9.u⟩ ?_
  refine fun X3 => p1 fun u9 d_115 => fun H hX3 σ El hk => d1 fun hL => fun e9 => lh hk (fun hO hB => ?_) hL
  dsimp only [esets, sS, sZ] at hO hB e9
  dsimp only at H
  revert hO; repeat (rename Owns .. => q; clear q)
  intro hO; repeat (rename Sq .. => q; clear q)
  refine scm H (fun IN H => ?_) fun IN H => ?_
  ·refine sxl1 0 hO H.1 H.2.1 ?_
   refine six1 5 hO H.2.2.1 H.2.2.2.1 ?_
   refine sst (u := true) 5 hO H.2.2.1 H.2.2.2.1 fun sI s hO => ?_
   refine sinc (natbd IN (t1b 0 hO)) ?_
   refine au ?_
   exact hX3 _ H.2.2.2.2 _ _ agr ⟨⟨agr, hO, fr⟩, e9.u⟩
  refine sag 4 hO ?_
  refine sba 6 hO fun aqU s hO => ?_
  refine au ?_
  refine sfz 3 hO fun s hO Te Tf => ?_
  refine sfz 1 hO fun s hO Tg Th => ?_
  refine sfz 1 hO fun s hO Tj Tk => ?_
  refine sfz 2 hO fun s hO Tl Tm => ?_
  refine Go1.retC2 func64 rfl rfl (rlb 2 hO) ⟨((⟨(a0.length : Int), r20, fE, Ac, d_60, d_115⟩ : Syntactic)), _, _, _, _, _, _, _, _, _, _, _, ?_, frs, e9.r, Te.r, Tg.r, Tj.r, Tl.r, H⟩
  exact (congrArg (fun l => Value.tuple (List.toArray l)) (J01 (congrArg (fun l => Value.agg (List.toArray l)) (J01 rfl (J01 rfl (J01 (congrArg (fun nn => Value.slice p65 nn c66) Tf) (J01 (congrArg (fun nn => Value.slice p90 nn c91) Th) (J01 (congrArg (fun nn => Value.slice p61 nn c62) Tk) (J01 (congrArg (fun nn => Value.slice (some ⟨b25, 0, none⟩) nn r4.Elems.length) Tm) rfl))))))) (J01 rfl rfl)))
 refine au ?_
 refine zo (J05 underlying33 ti33 (pl := [(0, 1), (1, 1), (2, 1), (3, 1), (4, 1), (5, 1)]) (vs := []) (cs := #[.int .i64 (0 : Int), .slice none 0 0, .slice none 0 0, .slice none 0 0, .slice none 0 0, .slice none 0 0]) (by kernel_rfl) rfl (by kernel_rfl)) ?_
 refine sba 1 hO fun vA s hO => ?_
 refine au ?_
 refine Go1.retC2 func64 rfl rfl (rlb 1 hO) ⟨((⟨(0 : Int), ([] : List (List Int)), ([] : List Str), ([] : List Int), ([] : List Bool), ([] : List Bool)⟩ : Syntactic)), _, _, _, _, _, _, _, _, _, _, _, er, frs, (ISl.null _ _ _), (ISl.null _ _ _), (ISl.null _ _ _), (ISl.null _ _ _), (ISl.null _ _ _), H⟩
end Sg
