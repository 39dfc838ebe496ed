/- -/
import Derived.Test.YtlneebpmblkllaaTi
import Derived.Test.YtlneebpmblkllaaWSyntacticMonoidsb
import Derived.Test.YtlneebpmblkllaaAl
namespace Sg
open Go Go.RowKit Go.Proofs
set_option linter.unusedVariables false
set_option linter.unusedSimpArgs false
set_option maxRecDepth 100000
set_option maxHeartbeats 4000000
theorem body155 : Body Try.prog 155 := ⟨Try.f155, Try.func155, rfl, by kernel_rfl⟩
theorem body131 : Body Try.prog 131 := ⟨Try.f131, Try.func131, rfl, by kernel_rfl⟩
theorem walk_enumerate_begin {A : List Nat} {w0 : World} {x5 : Option Addr} {x6 : Nat} {a0 : List (List Int)} {a1 : Bool} (hA : ∀ b ∈ A, b < w0.heap.size) (cM : ISl (Rp.sl (Rp.int .i64)) A w0 x5 x6 a0) {K : Option run → Int → Prop} (H : J17 a0 a1 K) :
    CallsV Try.prog 131 #[.slice x5 a0.length x6, .bool a1] w0 (fun v w' => (∃ (r1 : Int), v = .tuple #[.pointer none, .int .i64 r1] ∧ Same w0 w' ∧ K none r1) ∨ (∃ (q : run) (r1 : Int) (b_q : Nat) (cf : Nat) (cg : Option Addr) (ci : Nat) (dS : List Value) (bT : Nat) (bU : Option Addr) (bV : Nat) (dI : List Value) (bG : Nat) (bH : Option Addr) (bI : Nat) (dq : List Value) (cj : Nat) (ck : Option Addr) (co : Nat) (dT : List Value) (bW : Nat) (bX : Option Addr) (bY : Nat) (dJ : List Value) (b7 : Nat) (b8 : Option Addr) (b9 : Nat) (dK : List Value) (fS : Nat) (dt : Nat) (du : Option Addr) (dw : Nat) (fk : List Value) (cU : Nat) (cV : Option Addr) (cW : Nat) (eN : List Value) (cX : Nat) (cY : Option Addr) (c5 : Nat) (eO : List Value), v = .tuple #[.pointer (some ⟨b_q, 0, none⟩), .int .i64 r1] ∧ Same w0 w' ∧ (fun Z0 => Owns w0.heap.size w' Z0 A ∧ Els (Rp.sl (Rp.int .i64)) (bl Z0 ++ A) w' dS q.Enum.Gens ∧ Els (Rp.sl (Rp.int .i64)) (bl Z0 ++ A) w' dI q.Enum.Elems ∧ Els (Rp.int .i64) (bl Z0 ++ A) w' dq q.Enum.Prefix ∧ Els (Rp.int .i64) (bl Z0 ++ A) w' dT q.Enum.Last ∧ Els (Rp.sl (Rp.int .i64)) (bl Z0 ++ A) w' dJ q.Enum.Right ∧ Els (rpRule) (bl Z0 ++ A) w' dK q.Enum.Rules ∧ Els (Rp.str) (bl Z0 ++ A) w' fk q.words ∧ Els (Rp.int .i64) (bl Z0 ++ A) w' eN q.behind ∧ Els (Rp.int .i64) (bl Z0 ++ A) w' eO q.single ∧ K (some q) r1) [.blk b_q (.cells #[.int .i64 q.Enum.Points, .bool q.Enum.Monoid, .slice cg cf ci, .slice bU bT bV, .slice bH bG bI, .slice ck cj co, .slice bX bW bY, .slice b8 b7 b9, .int .i64 q.Enum.Done, .map (some fS), .slice du dt dw, .slice cV cU cW, .slice cY cX c5] 156 (0, 0)), .row 31 1 cg cf ci dS, .row 31 1 bU bT bV dI, .row 3 1 bH bG bI dq, .row 3 1 ck cj co dT, .row 31 1 bX bW bY dJ, .row 185 2 b8 b7 b9 dK, .row 9 1 du dt dw fk, .row 3 1 cV cU cW eN, .row 3 1 cY cX c5 eO, .any (mapE (fun a : List UInt8 => Value.string (gstr a)) (fun a : Int => Value.int .i64 a) fS q.number)])) := by
 refine CallsV.of (l := [.slice x5 a0.length x6, .bool a1]) Try.func131 rfl Try.ntmps131 rfl ?_
 have hO := Owns.start hA
 have hB := Fr.refl (bl []) w0
 unfold J17 at H
 refine zq (zr (za rfl (za rfl (zn (zq ?_)))))
 refine zq (zr (zm rfl (zo (J0d Try.underlying23 rfl) ?_)))
 replace cM := cM.ch (Ch.start A w0)
 replace H := H cM.bd
 by_cases h1 : (a0.length : Int) = (0 : Int)
 ·replace H := ifp h1 H
  refine zo (fun w => opB (J0w rfl rfl w) (decide_eq_true h1)) (zm rfl (zp (zp (zp (zo (J05 rfl rfl rfl) ?_)))))
  refine zn (zt rfl rfl (zq (zr (za rfl (za rfl ?_)))))
  refine zn ?_
  refine Go1.ret2 Try.func131 rfl ?_
  exact Or.inl ⟨((1 : Int)), rfl, hB.same, H⟩
 replace H := ifn h1 H
 refine zo (fun w => opB (J0w rfl rfl w) (decide_eq_false h1)) (zm rfl (zm rfl (zo (J0d Try.underlying23 rfl) ?_)))
 by_cases h2 : (6 : Int) < (a0.length : Int)
 ·replace H := ifp h2 H
  refine zo (fun w => opB (J0M rfl rfl w) (decide_eq_true h2)) (zo (J04 rfl rfl rfl) (zn (zt rfl rfl (zq (zr ?_)))))
  refine za rfl (za rfl (zn ?_))
  refine Go1.ret2 Try.func131 rfl ?_
  exact Or.inl ⟨((1 : Int)), rfl, hB.same, H⟩
 replace H := ifn h2 H
 refine zo (fun w => opB (J0M rfl rfl w) (decide_eq_false h2)) (zo (J04 rfl rfl rfl) (zn (zf rfl rfl (zk (zq ?_)))))
 refine Go1.cut [(0, .slice x5 a0.length x6), (1, .bool a1)] ⟨rfl, rfl, trivial⟩ ?_
 intro σ _
 refine zr ?_
 have zz := omakeMap (fun a : List UInt8 => Value.string (gstr a)) (fun a : Int => Value.int .i64 a) hO
 obtain ⟨w3, B4, Gb, hs6, C1⟩ := zz
 refine GoR.op C1 rfl rfl ?_
 replace hO := Gb.own
 refine zo (J0q Try.underlying156 ti156 (pl := [(0, 9), (9, 1), (10, 1), (11, 1), (12, 1)]) (vs := [(1, .map (some B4))]) (cs := #[.int .i64 0, .bool false, .slice none 0 0, .slice none 0 0, .slice none 0 0, .slice none 0 0, .slice none 0 0, .slice none 0 0, .int .i64 0, .map (some B4), .slice none 0 0, .slice none 0 0, .slice none 0 0]) (by kernel_rfl) rfl (by kernel_rfl)) ?_
 have zz := obox (t := 156) (v := .agg #[.int .i64 0, .bool false, .slice none 0 0, .slice none 0 0, .slice none 0 0, .slice none 0 0, .slice none 0 0, .slice none 0 0, .int .i64 0, .map (some B4), .slice none 0 0, .slice none 0 0, .slice none 0 0]) (cs := #[.int .i64 0, .bool false, .slice none 0 0, .slice none 0 0, .slice none 0 0, .slice none 0 0, .slice none 0 0, .slice none 0 0, .int .i64 0, .map (some B4), .slice none 0 0, .slice none 0 0, .slice none 0 0]) hO rfl
 obtain ⟨w9, B10, Eu, Vy, Nb⟩ := zz
 refine zg (Nb rfl) ?_
 replace hO := Eu.own
 refine za rfl (zn (zq (zr (zm rfl (zm rfl ?_)))))
 refine zm rfl ?_
 obtain ⟨h15, H⟩ := H
 obtain ⟨h16, H⟩ := H
 replace cM := (cM.ch Gb.ch).ch Eu.ch
 refine zo (J02 Try.underlying23 ti31 rfl rfl h15 h16 (cM.some_ h15 h16)) ?_
 have zz := ldSl cM h15 h16
 obtain ⟨p17, c18, zX, RA⟩ := zz
 refine zs (RA Try.underlying31 rfl rfl) (zo (J0d Try.underlying31 rfl) ?_)
 replace H := H zX.bd
 refine zm rfl (zo (J01 rfl) (zo (J00 Try.underlying156 rfl ti123 rfl (by decide)) (zo (J00 Try.underlying123 rfl ti3 rfl (by decide)) ?_)))
 have zz := J0e (v := .int .i64 ((ix a0 (0 : Int)).length : Int)) (i := 0) (cs' := #[.int .i64 ((ix a0 (0 : Int)).length : Int), .bool false, .slice none 0 0, .slice none 0 0, .slice none 0 0, .slice none 0 0, .slice none 0 0, .slice none 0 0, .int .i64 0, .map (some B4), .slice none 0 0, .slice none 0 0, .slice none 0 0]) 0 hO rfl rfl rfl rfl
 obtain ⟨w21, nS, Nc⟩ := zz
 refine zg (Nc Try.underlying3 rfl ti3 (by exact rfl) (by exact rfl)) ?_
 replace hO := nS.own
 refine zo (J01 rfl) (zo (J00 Try.underlying156 rfl ti123 rfl (by decide)) (zo (J00 Try.underlying123 rfl ti4 rfl (by decide)) ?_))
 have zz := J0e (v := .bool a1) (i := 1) (cs' := #[.int .i64 ((ix a0 (0 : Int)).length : Int), .bool a1, .slice none 0 0, .slice none 0 0, .slice none 0 0, .slice none 0 0, .slice none 0 0, .slice none 0 0, .int .i64 0, .map (some B4), .slice none 0 0, .slice none 0 0, .slice none 0 0]) 0 hO rfl rfl rfl rfl
 obtain ⟨w24, mT, D4⟩ := zz
 refine zg (D4 Try.underlying4 rfl ti4 (by exact rfl) (by exact rfl)) ?_
 replace hO := mT.own
 refine zn (zq (zq ?_))
 refine Go1.cut [(0, .slice x5 a0.length x6), (1, .bool a1), (6, .pointer (some ⟨B10, 0, none⟩))] ⟨rfl, rfl, rfl, trivial⟩ ?_
 intro σ _
 refine zr (zm rfl (zo (J0d Try.underlying23 rfl) (zm rfl (zn (zb ?_)))))
 have j4 := Stp.nil (e := 31) (r := 1) hO
 replace hO := j4.own
 have wH := Els.nil (Rp.sl (Rp.int .i64)) (bl (.row 31 1 none 0 0 [] :: [.blk B10 (.cells #[.int .i64 ((ix a0 (0 : Int)).length : Int), .bool a1, .slice none 0 0, .slice none 0 0, .slice none 0 0, .slice none 0 0, .slice none 0 0, .slice none 0 0, .int .i64 0, .map (some B4), .slice none 0 0, .slice none 0 0, .slice none 0 0] 156 (0, 0)), .any (mapE (fun a : List UInt8 => Value.string (gstr a)) (fun a : Int => Value.int .i64 a) B4 (([] : List (Str × Int))))]) ++ A) w24
 have Z1 := (nS.ch.trans mT.ch).trans j4.ch
 replace cM := cM.ch Z1
 replace hB := ((((hB.trans Gb.fr).trans Eu.fr).trans nS.fr).trans mT.fr).trans j4.fr
 refine Go1.loopW (S := Nat × List (List Int)) (fun s σ w => match s with | (k1_31, d_32) => ∃ (n37 : Nat) (p35 : Option Addr) (c36 : Nat) (gz : List Value), agrees σ [(1, .bool a1), (6, .pointer (some ⟨B10, 0, none⟩)), (39, .slice x5 a0.length x6), (40, .int .i64 (a0.length : Int)), (41, .int .i64 (k1_31 : Int))] ∧ (fun Z0 => Owns w0.heap.size w Z0 A ∧ Els (Rp.sl (Rp.int .i64)) (bl Z0 ++ A) w gz d_32 ∧ ISl (Rp.sl (Rp.int .i64)) (bl Z0 ++ A) w x5 x6 a0 ∧ Fr (bl []) w0 (bl Z0) w) [.row 31 1 p35 n37 c36 gz, .blk B10 (.cells #[.int .i64 ((ix a0 (0 : Int)).length : Int), .bool a1, .slice p35 n37 c36, .slice none 0 0, .slice none 0 0, .slice none 0 0, .slice none 0 0, .slice none 0 0, .int .i64 0, .map (some B4), .slice none 0 0, .slice none 0 0, .slice none 0 0] 156 (0, 0)), .any (mapE (fun a : List UInt8 => Value.string (gstr a)) (fun a : Int => Value.int .i64 a) B4 (([] : List (Str × Int))))]) H ⟨0, none, 0, [], ⟨rfl, rfl, rfl, rfl, rfl, trivial⟩, hO, wH, cM, hB⟩ ?_
 intro X1
 refine prE fun k1_31 => fun d_32 => ?_
 intro H hX1 σ w30
 refine exE fun n37 => exE fun p35 => exE fun c36 => exE fun gz => andE fun hag => andE fun hO => andE fun au => andE fun cM => fun hB => ?_
 dsimp only at H
 refine Go1.keep [(1, .bool a1), (6, .pointer (some ⟨B10, 0, none⟩)), (39, .slice x5 a0.length x6), (40, .int .i64 (a0.length : Int)), (41, .int .i64 (k1_31 : Int))] hag ?_
 refine zq (zr ?_)
 by_cases h38 : (k1_31 : Int) < (a0.length : Int)
 ·replace H := ifp h38 H
  refine zo (fun w => opB (J08 rfl rfl w) (decide_eq_true h38)) (zn (zq (zt rfl rfl (zk (zq ?_)))))
  refine zb (zq (zr ?_))
  obtain ⟨h39, H⟩ := H
  obtain ⟨h40, H⟩ := H
  refine zo (J02 Try.underlying23 ti31 rfl rfl h39 h40 (cM.some_ h39 h40)) ?_
  have zz := ldSl cM h39 h40
  obtain ⟨p41, c42, qR, RB⟩ := zz
  refine zs (RB Try.underlying31 rfl rfl) (za rfl (zn (zq (zq (zr ?_)))))
  refine zm rfl (zo (J0d Try.underlying31 rfl) ?_)
  replace H := H qR.bd
  refine zm rfl (zo (J01 rfl) (zo (J00 Try.underlying156 rfl ti123 rfl (by decide)) (zo (J00 Try.underlying123 rfl ti3 rfl (by decide)) (zs (oblk (i := 0) 1 hO rfl rfl Try.underlying3 rfl rfl) ?_))))
  by_cases h45 : ((ix a0 (k1_31 : Int)).length : Int) = ((ix a0 (0 : Int)).length : Int)
  ·replace H := ifp h45 H
   refine zo (fun w => opB (J0g rfl rfl w) (ndT h45)) (zm rfl (zm rfl ?_))
   refine GoR.call (J0a body154 rfl (walk_trans_Valid hO.lt qR H)) rfl rfl ?_
   rintro v50 w47 ⟨r46, rfl, Iw, H⟩
   have vp := Stp.same hO Iw
   replace hO := vp.own
   cases r46
   ·replace H := ifn Bool.false_ne_true H
    refine zo (J0l rfl) (zo (J04 rfl rfl rfl) (zn (zt rfl rfl (zq (zr ?_)))))
    refine za rfl (za rfl (zn ?_))
    refine Go1.ret2 Try.func131 rfl ?_
    replace hB := hB.trans vp.fr
    exact Or.inl ⟨((4 : Int)), rfl, hB.same, H⟩
   replace H := ifp rfl H
   refine zo (J0l rfl) (zo (J04 rfl rfl rfl) (zn (zf rfl rfl (zk ?_))))
   refine Go1.cut [(1, .bool a1), (6, .pointer (some ⟨B10, 0, none⟩)), (8, .slice p41 ((ix a0 (k1_31 : Int)).length) c42), (39, .slice x5 a0.length x6), (40, .int .i64 (a0.length : Int)), (41, .int .i64 (k1_31 : Int))] ⟨rfl, rfl, rfl, rfl, rfl, rfl, trivial⟩ ?_
   intro σ _
   refine Go1.drawS 1 [(0, .pure), (1, .pure), (2, .pure), (3, .pure), (4, .pure), (5, .stable), (6, .pure), (7, .loud), (8, .loud), (9, .last), (10, .pure), (11, .pure), (12, .pure), (13, .last)] mixed (by kernel_rfl) ?_
   intro w52 RD
   have qS := Stp.same hO RD
   replace hO := qS.own
   refine GoQ.pure rfl (J03 rfl) rfl rfl ?_
   refine GoQ.pure rfl (J03 rfl) rfl rfl ?_
   refine GoQ.pure rfl (J01 rfl) rfl rfl ?_
   refine GoQ.pure rfl (J00 Try.underlying156 rfl ti123 rfl (by decide)) rfl rfl ?_
   refine GoQ.pure rfl (J00 Try.underlying123 rfl ti23 rfl (by decide)) rfl rfl ?_
   refine GoQ.stable rfl (oblk (i := 2) 1 hO rfl rfl Try.underlying23 rfl rfl) rfl rfl ?_
   refine GoQ.pure rfl (J03 rfl) rfl rfl ?_
   replace qR := (qR.ch vp.ch).ch qS.ch
   refine GoQ.call rfl (J0a body86 rfl (J0I hO.lt qR H)) (fun v w hr => by obtain ⟨_, _, _, _, _, _, hs, _, _, _⟩ := hr; assumption) rfl rfl ?_
   rintro v60 w57 ⟨r55, H8, Cb, Cc, TH, rfl, RE, hN59, Gc, H⟩
   have AA := Stp.more hO RE hN59
   replace hO := AA.own
   replace Gc := Gc.ch (Ch.assoc _ _ _ _)
   have zz := freeze 0 hO rfl Gc
   obtain ⟨hO1, Gd, x7, RF⟩ := zz
   replace hO := hO1; clear hO1
   have zz := J0k (r := Rp.sl (Rp.int .i64)) (n := 1) (parts := [(0, .slice Cb H8 Cc)]) (vs := [.slice Cb H8 Cc]) (xs := [r55]) rfl Try.underlying23 ti31 hO (by decide) (by kernel_rfl) (Els.cons rfl ⟨Cb, Cc, congrArg some (congrArg (fun nn => Value.slice Cb nn Cc) RF), x7⟩ (Els.nil _ _ _) (by simp [mx])) rfl
   obtain ⟨w66, p67, yV, t5, RG, Nd⟩ := zz
   refine GoQ.loud rfl (Nd rfl) RG rfl rfl ?_
   replace hO := yV.own
   have zz := freeze 0 hO rfl t5
   obtain ⟨hO1, Ev, C2, RH⟩ := zz
   replace hO := hO1; clear hO1
   obtain ⟨h76, H⟩ := H
   have Z2 := ((((vp.ch.trans qS.ch).trans AA.ch).trans Gd).trans yV.ch).trans Ev
   replace au := au.ch Z2
   have zz := oapp Try.underlying23 ti31 rfl 0 hO rfl au C2 RH h76 (by decide)
   obtain ⟨w77, p78, c79, pN, jA, zR, Ew⟩ := zz
   refine GoQ.last rfl (Ew (by exact rfl) (by exact rfl)) rfl rfl ?_
   replace hO := jA.own
   refine GoQ.pure rfl (J01 rfl) rfl rfl ?_
   refine GoQ.pure rfl (J00 Try.underlying156 rfl ti123 rfl (by decide)) rfl rfl ?_
   refine GoQ.pure rfl (J00 Try.underlying123 rfl ti23 rfl (by decide)) rfl rfl ?_
   have zz := J0e (v := .slice p78 (n37 + 1) c79) (i := 2) (cs' := #[.int .i64 ((ix a0 (0 : Int)).length : Int), .bool a1, .slice p78 (n37 + 1) c79, .slice none 0 0, .slice none 0 0, .slice none 0 0, .slice none 0 0, .slice none 0 0, .int .i64 0, .map (some B4), .slice none 0 0, .slice none 0 0, .slice none 0 0]) 1 hO rfl rfl rfl rfl
   obtain ⟨w85, x8, Ex⟩ := zz
   refine GoQ.last rfl (Ex Try.underlying23 rfl ti23 (by exact rfl) (by exact rfl)) rfl rfl ?_
   replace hO := x8.own
   refine GoQ.nil ?_
   refine Go1.inBlock ?_
   refine zr ?_
   replace cM := ((cM.ch Z2).ch jA.ch).ch x8.ch
   refine zo (J0c rfl rfl (wrap_i64 (natbd h38 cM.bd))) (zm rfl (zn ?_))
   replace zR := zR.ch x8.ch
   replace hB := (((((((hB.trans vp.fr).trans qS.fr).trans AA.fr).trans (Owns.J09 _ _ 0)).trans yV.fr).trans (Owns.J09 _ _ 0)).trans jA.fr).trans x8.fr
   exact hX1 _ H _ _ ⟨n37 + 1, p78, c79, pN, ⟨rfl, rfl, rfl, rfl, rfl, trivial⟩, hO, zR, cM, hB⟩
  replace H := ifn h45 H
  refine zo (fun w => opB (J0g rfl rfl w) (ndF h45)) (zm rfl (zp (zp (zp (zo (J05 rfl rfl rfl) ?_)))))
  refine zn (zt rfl rfl (zq ?_))
  refine Go1.cut [] trivial ?_
  intro σ _
  refine zr (za rfl (za rfl (zn ?_)))
  refine Go1.ret2 Try.func131 rfl ?_
  exact Or.inl ⟨((4 : Int)), rfl, hB.same, H⟩
 replace H := ifn h38 H
 refine zo (fun w => opB (J08 rfl rfl w) (decide_eq_false h38)) (zn (zq (zf rfl rfl ?_)))
 refine Go1.exit rfl ?_
 refine zq (zr (za rfl (zn (zq (zq ?_)))))
 refine zr (zm rfl (zn ?_))
 cases a1
 ·replace H := ifn Bool.false_ne_true H
  refine zf rfl rfl (zk (zq (zq (zr (zm rfl ?_)))))
  refine zo (J01 rfl) (zo (J00 Try.underlying156 rfl ti123 rfl (by decide)) (zo (J00 Try.underlying123 rfl ti23 rfl (by decide)) (zs (oblk (i := 2) 1 hO rfl rfl Try.underlying23 rfl rfl) (zo (J0y Try.underlying23 rfl (au.neq hO 0 rfl)) (zm rfl ?_)))))
  refine zn (zb ?_)
  have gQ := Stp.nil (e := 31) (r := 1) hO
  replace hO := gQ.own
  have cw := Els.nil (Rp.sl (Rp.int .i64)) (bl (.row 31 1 none 0 0 [] :: [.row 31 1 p35 n37 c36 gz, .blk B10 (.cells #[.int .i64 ((ix a0 (0 : Int)).length : Int), .bool false, .slice p35 n37 c36, .slice none 0 0, .slice none 0 0, .slice none 0 0, .slice none 0 0, .slice none 0 0, .int .i64 0, .map (some B4), .slice none 0 0, .slice none 0 0, .slice none 0 0] 156 (0, 0)), .any (mapE (fun a : List UInt8 => Value.string (gstr a)) (fun a : Int => Value.int .i64 a) B4 (([] : List (Str × Int))))]) ++ A) w30
  have qT := Stp.nil (e := 3) (r := 1) hO
  replace hO := qT.own
  have kl := Els.nil (Rp.int .i64) (bl (.row 3 1 none 0 0 [] :: [.row 31 1 none 0 0 [], .row 31 1 p35 n37 c36 gz, .blk B10 (.cells #[.int .i64 ((ix a0 (0 : Int)).length : Int), .bool false, .slice p35 n37 c36, .slice none 0 0, .slice none 0 0, .slice none 0 0, .slice none 0 0, .slice none 0 0, .int .i64 0, .map (some B4), .slice none 0 0, .slice none 0 0, .slice none 0 0] 156 (0, 0)), .any (mapE (fun a : List UInt8 => Value.string (gstr a)) (fun a : Int => Value.int .i64 a) B4 (([] : List (Str × Int))))]) ++ A) w30
  have pr := Stp.nil (e := 3) (r := 1) hO
  replace hO := pr.own
  have cr := Els.nil (Rp.int .i64) (bl (.row 3 1 none 0 0 [] :: [.row 3 1 none 0 0 [], .row 31 1 none 0 0 [], .row 31 1 p35 n37 c36 gz, .blk B10 (.cells #[.int .i64 ((ix a0 (0 : Int)).length : Int), .bool false, .slice p35 n37 c36, .slice none 0 0, .slice none 0 0, .slice none 0 0, .slice none 0 0, .slice none 0 0, .int .i64 0, .map (some B4), .slice none 0 0, .slice none 0 0, .slice none 0 0] 156 (0, 0)), .any (mapE (fun a : List UInt8 => Value.string (gstr a)) (fun a : Int => Value.int .i64 a) B4 (([] : List (Str × Int))))]) ++ A) w30
  have mf := Stp.nil (e := 185) (r := 2) hO
  replace hO := mf.own
  have xt := Els.nil (rpRule) (bl (.row 185 2 none 0 0 [] :: [.row 3 1 none 0 0 [], .row 3 1 none 0 0 [], .row 31 1 none 0 0 [], .row 31 1 p35 n37 c36 gz, .blk B10 (.cells #[.int .i64 ((ix a0 (0 : Int)).length : Int), .bool false, .slice p35 n37 c36, .slice none 0 0, .slice none 0 0, .slice none 0 0, .slice none 0 0, .slice none 0 0, .int .i64 0, .map (some B4), .slice none 0 0, .slice none 0 0, .slice none 0 0] 156 (0, 0)), .any (mapE (fun a : List UInt8 => Value.string (gstr a)) (fun a : Int => Value.int .i64 a) B4 (([] : List (Str × Int))))]) ++ A) w30
  have gR := Stp.nil (e := 9) (r := 1) hO
  replace hO := gR.own
  have cv := Els.nil (Rp.str) (bl (.row 9 1 none 0 0 [] :: [.row 185 2 none 0 0 [], .row 3 1 none 0 0 [], .row 3 1 none 0 0 [], .row 31 1 none 0 0 [], .row 31 1 p35 n37 c36 gz, .blk B10 (.cells #[.int .i64 ((ix a0 (0 : Int)).length : Int), .bool false, .slice p35 n37 c36, .slice none 0 0, .slice none 0 0, .slice none 0 0, .slice none 0 0, .slice none 0 0, .int .i64 0, .map (some B4), .slice none 0 0, .slice none 0 0, .slice none 0 0] 156 (0, 0)), .any (mapE (fun a : List UInt8 => Value.string (gstr a)) (fun a : Int => Value.int .i64 a) B4 (([] : List (Str × Int))))]) ++ A) w30
  have ju := Stp.nil (e := 3) (r := 1) hO
  replace hO := ju.own
  have Ey := Els.nil (Rp.int .i64) (bl (.row 3 1 none 0 0 [] :: [.row 9 1 none 0 0 [], .row 185 2 none 0 0 [], .row 3 1 none 0 0 [], .row 3 1 none 0 0 [], .row 31 1 none 0 0 [], .row 31 1 p35 n37 c36 gz, .blk B10 (.cells #[.int .i64 ((ix a0 (0 : Int)).length : Int), .bool false, .slice p35 n37 c36, .slice none 0 0, .slice none 0 0, .slice none 0 0, .slice none 0 0, .slice none 0 0, .int .i64 0, .map (some B4), .slice none 0 0, .slice none 0 0, .slice none 0 0] 156 (0, 0)), .any (mapE (fun a : List UInt8 => Value.string (gstr a)) (fun a : Int => Value.int .i64 a) B4 (([] : List (Str × Int))))]) ++ A) w30
  have ug := Stp.nil (e := 3) (r := 1) hO
  replace hO := ug.own
  have Nf := Els.nil (Rp.int .i64) (bl (.row 3 1 none 0 0 [] :: [.row 3 1 none 0 0 [], .row 9 1 none 0 0 [], .row 185 2 none 0 0 [], .row 3 1 none 0 0 [], .row 3 1 none 0 0 [], .row 31 1 none 0 0 [], .row 31 1 p35 n37 c36 gz, .blk B10 (.cells #[.int .i64 ((ix a0 (0 : Int)).length : Int), .bool false, .slice p35 n37 c36, .slice none 0 0, .slice none 0 0, .slice none 0 0, .slice none 0 0, .slice none 0 0, .int .i64 0, .map (some B4), .slice none 0 0, .slice none 0 0, .slice none 0 0] 156 (0, 0)), .any (mapE (fun a : List UInt8 => Value.string (gstr a)) (fun a : Int => Value.int .i64 a) B4 (([] : List (Str × Int))))]) ++ A) w30
  replace Ey := Ey.ch ug.ch
  replace cv := (cv.ch ju.ch).ch ug.ch
  have Z3 := (gR.ch.trans ju.ch).trans ug.ch
  replace xt := xt.ch Z3
  have Z4 := ((mf.ch.trans gR.ch).trans ju.ch).trans ug.ch
  replace cr := cr.ch Z4
  have Z5 := (((pr.ch.trans mf.ch).trans gR.ch).trans ju.ch).trans ug.ch
  replace kl := kl.ch Z5
  have Z6 := ((((qT.ch.trans pr.ch).trans mf.ch).trans gR.ch).trans ju.ch).trans ug.ch
  replace cw := cw.ch Z6
  have Z7 := (((((gQ.ch.trans qT.ch).trans pr.ch).trans mf.ch).trans gR.ch).trans ju.ch).trans ug.ch
  replace au := au.ch Z7
  replace hB := ((((((hB.trans gQ.fr).trans qT.fr).trans pr.fr).trans mf.fr).trans gR.fr).trans ju.fr).trans ug.fr
  refine Go1.loopW (S := Nat × List Int × List Int × List Str × List Rule × List Int × List Int × List (List Int) × (List (Str × Int))) (fun s σ w => match s with | (k2_110, d_111, d_117, d_123, d_129, d_135, d_141, d_147, m2_153) => ∃ (iY : Nat) (j7 : Option Addr) (j8 : Nat) (ph : List Value) (jb : Nat) (jC : Option Addr) (jO : Nat) (qU : List Value) (jc : Nat) (j9 : Option Addr) (ka : Nat) (nQ : List Value) (jd : Nat) (jp : Option Addr) (jx : Nat) (qV : List Value) (je : Nat) (km : Option Addr) (kn : Nat) (qW : List Value) (jf : Nat) (kN : Option Addr) (kO : Nat) (qX : List Value) (jg : Nat) (lv : Option Addr) (lA : Nat) (qY : List Value), agrees σ [(6, .pointer (some ⟨B10, 0, none⟩)), (9, .int .i64 (-1)), (85, .slice p35 n37 c36), (86, .int .i64 (d_32.length : Int)), (87, .int .i64 (k2_110 : Int))] ∧ (fun Z0 => Owns w0.heap.size w Z0 A ∧ Els (Rp.int .i64) (bl Z0 ++ A) w ph d_111 ∧ Els (Rp.int .i64) (bl Z0 ++ A) w qU d_117 ∧ Els (Rp.str) (bl Z0 ++ A) w nQ d_123 ∧ Els (rpRule) (bl Z0 ++ A) w qV d_129 ∧ Els (Rp.int .i64) (bl Z0 ++ A) w qW d_135 ∧ Els (Rp.int .i64) (bl Z0 ++ A) w qX d_141 ∧ Els (Rp.sl (Rp.int .i64)) (bl Z0 ++ A) w qY d_147 ∧ Els (Rp.sl (Rp.int .i64)) (bl Z0 ++ A) w gz d_32 ∧ Fr (bl []) w0 (bl Z0) w) [.row 3 1 j7 iY j8 ph, .row 3 1 jC jb jO qU, .row 9 1 j9 jc ka nQ, .row 185 2 jp jd jx qV, .row 3 1 km je kn qW, .row 3 1 kN jf kO qX, .row 31 1 lv jg lA qY, .row 31 1 p35 n37 c36 gz, .blk B10 (.cells #[.int .i64 ((ix a0 (0 : Int)).length : Int), .bool false, .slice p35 n37 c36, .slice lv jg lA, .slice kN jf kO, .slice km je kn, .slice none 0 0, .slice jp jd jx, .int .i64 0, .map (some B4), .slice j9 jc ka, .slice jC jb jO, .slice j7 iY j8] 156 (0, 0)), .any (mapE (fun a : List UInt8 => Value.string (gstr a)) (fun a : Int => Value.int .i64 a) B4 m2_153)]) H ⟨0, none, 0, [], 0, none, 0, [], 0, none, 0, [], 0, none, 0, [], 0, none, 0, [], 0, none, 0, [], 0, none, 0, [], ⟨rfl, rfl, rfl, rfl, rfl, trivial⟩, hO, Nf, Ey, cv, xt, cr, kl, cw, au, hB⟩ ?_
  intro X2
  refine prE fun k2_110 => prE fun d_111 => prE fun d_117 => prE fun d_123 => prE fun d_129 => prE fun d_135 => prE fun d_141 => prE fun d_147 => fun m2_153 => ?_
  intro H hX2 σ Jf
  refine exE fun iY => exE fun j7 => exE fun j8 => exE fun ph => exE fun jb => exE fun jC => exE fun jO => exE fun qU => exE fun jc => exE fun j9 => exE fun ka => exE fun nQ => exE fun jd => exE fun jp => exE fun jx => exE fun qV => exE fun je => exE fun km => exE fun kn => exE fun qW => exE fun jf => exE fun kN => exE fun kO => exE fun qX => exE fun jg => exE fun lv => exE fun lA => exE fun qY => andE fun hag => andE fun hO => andE fun cx => andE fun cE => andE fun cK => andE fun cF => andE fun c8 => andE fun dO => andE fun dR => andE fun au => fun hB => ?_
  dsimp only at H
  refine Go1.keep [(6, .pointer (some ⟨B10, 0, none⟩)), (9, .int .i64 (-1)), (85, .slice p35 n37 c36), (86, .int .i64 (d_32.length : Int)), (87, .int .i64 (k2_110 : Int))] hag ?_
  refine zq (zr ?_)
  by_cases Bo : (k2_110 : Int) < (d_32.length : Int)
  ·replace H := ifp Bo H
   refine zo (fun w => opB (J08 rfl rfl w) (decide_eq_true Bo)) (zn (zq (zt rfl rfl (zk (zq ?_)))))
   refine zb (zq (zr (zm rfl ?_)))
   obtain ⟨x9, H⟩ := H
   obtain ⟨zY, H⟩ := H
   refine zo (J02 Try.underlying23 ti31 rfl rfl x9 (ltn (au.neq hO 7 rfl) zY) (au.psome hO 7 rfl x9 zY)) ?_
   have zz := oldSl 7 hO rfl au x9 zY
   obtain ⟨Ez, EA, dk, Ng⟩ := zz
   refine zs (Ng Try.underlying31 rfl rfl) (za rfl (za rfl (zn (zq (zr ?_)))))
   refine zm rfl ?_
   obtain ⟨RJ, H⟩ := H
   refine zo (J0c rfl rfl (wrap_i64 RJ)) (zo (op_conv Try.underlying3 Try.underlying21 rfl rfl) ?_)
   obtain ⟨C3, H⟩ := H
   obtain ⟨C4, H⟩ := H
   refine zo (op_convRS Try.underlying21 Try.underlying9 rfl C3 C4) (za rfl (zn (zq ?_)))
   refine Go1.drawS 0 [(0, .pure), (1, .pure), (2, .pure), (3, .stable), (4, .pure), (5, .loud), (6, .stable), (7, .pure), (8, .pure), (9, .pure), (10, .pure), (11, .pure)] mixed (by kernel_rfl) ?_
   intro Vz Nh
   have jV := Stp.same hO Nh
   replace hO := jV.own
   refine GoQ.pure rfl (J03 rfl) rfl rfl ?_
   refine GoQ.pure rfl (J01 rfl) rfl rfl ?_
   refine GoQ.pure rfl (J00 Try.underlying156 rfl ti154 rfl (by decide)) rfl rfl ?_
   refine GoQ.stable rfl (oblk (i := 9) 8 hO rfl rfl Try.underlying154 rfl rfl) rfl rfl ?_
   refine GoQ.pure rfl (J03 rfl) rfl rfl ?_
   replace dk := dk.ch jV.ch
   refine GoQ.call rfl (J0a body157 rfl (J0n hO.lt dk H)) (fun v w hr => by obtain ⟨_, _, hs, _, _⟩ := hr; assumption) rfl rfl ?_
   rintro VA RK ⟨r167, rfl, H6, Ty, H⟩
   have tz := Stp.same hO H6
   replace hO := tz.own
   by_cases yy : mhas m2_153 r167 = true
   ·replace H := ifp yy H
    refine GoQ.stable rfl (olookT (a := r167) (MK.str Try.underlying9) 9 hO rfl Try.underlying154 rfl rfl yy) rfl rfl ?_
    refine GoQ.pure rfl (J03 rfl) rfl rfl ?_
    refine GoQ.pure rfl (J07 rfl rfl) rfl rfl ?_
    refine GoQ.pure rfl (J07 rfl rfl) rfl rfl ?_
    refine GoQ.pure rfl (J0i rfl) rfl rfl ?_
    refine GoQ.pure rfl (J0i rfl) rfl rfl ?_
    refine GoQ.nil ?_
    refine zq (zq ?_)
    refine Go1.cut [(6, .pointer (some ⟨B10, 0, none⟩)), (9, .int .i64 (-1)), (10, .int .i64 (k2_110 : Int)), (11, .slice Ez ((ix d_32 (k2_110 : Int)).length) EA), (12, .string (gstr (chr (IntKind.i32.wrap ((97 : Int) + (k2_110 : Int)))))), (13, .int .i64 (mgt m2_153 r167)), (14, .bool true), (85, .slice p35 n37 c36), (86, .int .i64 (d_32.length : Int)), (87, .int .i64 (k2_110 : Int))] ⟨rfl, rfl, rfl, rfl, rfl, rfl, rfl, rfl, rfl, rfl, trivial⟩ ?_
    intro σ _
    refine zr (zm rfl (zn (zt rfl rfl ?_)))
    refine Go1.drawS 5 [(0, .pure), (1, .pure), (2, .pure), (3, .pure), (4, .pure), (5, .stable), (6, .pure), (7, .pure), (8, .pure), (9, .pure), (10, .stable), (11, .pure), (12, .pure), (13, .stable), (14, .pure), (15, .loud), (16, .last), (17, .pure), (18, .pure), (19, .pure), (20, .last)] mixed (by kernel_rfl) ?_
    intro QR Ni
    have tA := Stp.same hO Ni
    replace hO := tA.own
    refine GoQ.pure rfl (J03 rfl) rfl rfl ?_
    refine GoQ.pure rfl (J03 rfl) rfl rfl ?_
    refine GoQ.pure rfl (J01 rfl) rfl rfl ?_
    refine GoQ.pure rfl (J00 Try.underlying156 rfl ti123 rfl (by decide)) rfl rfl ?_
    refine GoQ.pure rfl (J00 Try.underlying123 rfl ti121 rfl (by decide)) rfl rfl ?_
    refine GoQ.stable rfl (oblk (i := 7) 8 hO rfl rfl Try.underlying121 rfl rfl) rfl rfl ?_
    refine GoQ.pure rfl (J03 rfl) rfl rfl ?_
    refine GoQ.pure rfl (J03 rfl) rfl rfl ?_
    refine GoQ.pure rfl (J01 rfl) rfl rfl ?_
    refine GoQ.pure rfl (J00 Try.underlying156 rfl ti30 rfl (by decide)) rfl rfl ?_
    refine GoQ.stable rfl (oblk (i := 10) 8 hO rfl rfl Try.underlying30 rfl rfl) rfl rfl ?_
    refine GoQ.pure rfl (J03 rfl) rfl rfl ?_
    obtain ⟨ym, H⟩ := H
    obtain ⟨yn, H⟩ := H
    have Z8 := (jV.ch.trans tz.ch).trans tA.ch
    replace cK := cK.ch Z8
    refine GoQ.pure rfl (J02 Try.underlying30 ti9 rfl rfl ym (ltn (cK.neq hO 2 rfl) yn) (cK.psome hO 2 rfl ym yn)) rfl rfl ?_
    refine GoQ.stable rfl (oldStr 2 hO rfl cK ym yn Try.underlying9 rfl rfl) rfl rfl ?_
    have hle179 := Els.str_le cK ym yn
    refine GoQ.pure rfl (J0q Try.underlying185 ti185 (pl := [(0, 1), (1, 1)]) (vs := [(0, .string (gstr (chr (IntKind.i32.wrap ((97 : Int) + (k2_110 : Int)))))), (1, .string (gstr (ix d_123 (mgt m2_153 r167))))]) (cs := #[.string (gstr (chr (IntKind.i32.wrap ((97 : Int) + (k2_110 : Int))))), .string (gstr (ix d_123 (mgt m2_153 r167)))]) (by kernel_rfl) rfl (by kernel_rfl)) rfl rfl ?_
    have zz := obuildN (r := rpRule) (n := 1) (parts := [(0, .agg #[.string (gstr (chr (IntKind.i32.wrap ((97 : Int) + (k2_110 : Int))))), .string (gstr (ix d_123 (mgt m2_153 r167)))])]) (vs := [.string (gstr (chr (IntKind.i32.wrap ((97 : Int) + (k2_110 : Int))))), .string (gstr (ix d_123 (mgt m2_153 r167)))]) (xs := [(⟨(chr (IntKind.i32.wrap ((97 : Int) + (k2_110 : Int)))), ix d_123 (mgt m2_153 r167)⟩ : Rule)]) Try.underlying121 ti185 hO (by decide) (by decide) (by kernel_rfl) (Els.flat1 (⟨(chr (IntKind.i32.wrap ((97 : Int) + (k2_110 : Int)))), ix d_123 (mgt m2_153 r167)⟩ : Rule) ⟨(chr_le _), hle179⟩) rfl
    obtain ⟨VB, VC, tB, Nj, Nk, Jg⟩ := zz
    refine GoQ.loud rfl (Jg rfl) Nk rfl rfl ?_
    replace hO := tB.own
    have zz := freeze 0 hO rfl Nj
    obtain ⟨hO1, vu, sW, Nl⟩ := zz
    dsimp only [eS, eZ] at hO1 vu sW
    replace hB := ((((hB.trans jV.fr).trans tz.fr).trans tA.fr).trans tB.fr).trans (Owns.J09 _ _ 0)
    dsimp only [eS, eZ] at hB
    replace hO := hO1; clear hO1
    obtain ⟨yw, H⟩ := H
    replace cF := ((cF.ch Z8).ch tB.ch).ch vu
    have zz := oapp Try.underlying121 ti185 rfl 3 hO rfl cF sW Nl yw (by decide)
    obtain ⟨VD, EB, EC, Nm, rJ, ur, Cw⟩ := zz
    dsimp only [sS, sZ] at rJ ur
    refine GoQ.last rfl (Cw (by exact rfl) (by exact rfl)) rfl rfl ?_
    replace hO := rJ.own
    refine GoQ.pure rfl (J01 rfl) rfl rfl ?_
    refine GoQ.pure rfl (J00 Try.underlying156 rfl ti123 rfl (by decide)) rfl rfl ?_
    refine GoQ.pure rfl (J00 Try.underlying123 rfl ti121 rfl (by decide)) rfl rfl ?_
    have zz := J0e (v := .slice EB (jd + 1) EC) (i := 7) (cs' := #[.int .i64 ((ix a0 (0 : Int)).length : Int), .bool false, .slice p35 n37 c36, .slice lv jg lA, .slice kN jf kO, .slice km je kn, .slice none 0 0, .slice EB (jd + 1) EC, .int .i64 0, .map (some B4), .slice j9 jc ka, .slice jC jb jO, .slice j7 iY j8]) 8 hO rfl rfl rfl rfl
    obtain ⟨VE, pO, Jh⟩ := zz
    dsimp only [sS, sZ] at pO
    refine GoQ.last rfl (Jh Try.underlying121 rfl ti121 (by exact rfl) (by exact rfl)) rfl rfl ?_
    replace hO := pO.own
    refine GoQ.nil ?_
    refine Go1.cut [(6, .pointer (some ⟨B10, 0, none⟩)), (9, .int .i64 (-1)), (13, .int .i64 (mgt m2_153 r167)), (85, .slice p35 n37 c36), (86, .int .i64 (d_32.length : Int)), (87, .int .i64 (k2_110 : Int))] ⟨rfl, rfl, rfl, rfl, rfl, rfl, trivial⟩ ?_
    intro σ _
    refine zr (zm rfl (zm rfl (zo (J01 rfl) (zo (J00 Try.underlying156 rfl ti31 rfl (by decide)) (zs (oblk (i := 12) 8 hO rfl rfl Try.underlying31 rfl rfl) ?_)))))
    refine zm rfl ?_
    have zz := J0k (r := Rp.int .i64) (n := 1) (parts := [(0, .int .i64 (mgt m2_153 r167))]) (vs := [.int .i64 (mgt m2_153 r167)]) (xs := [(mgt m2_153 r167)]) rfl Try.underlying31 ti3 hO (by decide) (by kernel_rfl) (Els.cons rfl rfl (Els.nil _ _ _) (by simp [mx])) rfl
    obtain ⟨RL, VG, rK, Nn, TV, Ji⟩ := zz
    refine zg (Ji rfl) ?_
    replace hO := rK.own
    have zz := freeze 0 hO rfl Nn
    obtain ⟨hO1, uW, yW, Np⟩ := zz
    dsimp only [eS, eZ] at hO1 uW yW
    replace hB := (((hB.trans rJ.fr).trans pO.fr).trans rK.fr).trans (Owns.J09 _ _ 0)
    dsimp only [eS, eZ] at hB
    replace hO := hO1; clear hO1
    obtain ⟨C5, H⟩ := H
    have Z9 := (((((Z8.trans tB.ch).trans vu).trans rJ.ch).trans pO.ch).trans rK.ch).trans uW
    replace cx := cx.ch Z9
    have zz := oapp Try.underlying31 ti3 rfl 0 hO rfl cx yW Np C5 (by decide)
    obtain ⟨RM, Ge, Gf, Nq, pP, Cd, Jj⟩ := zz
    dsimp only [sS, sZ] at pP Cd
    refine zg (Jj (by exact rfl) (by exact rfl)) ?_
    replace hO := pP.own
    refine zo (J01 rfl) (zo (J00 Try.underlying156 rfl ti31 rfl (by decide)) ?_)
    have zz := J0e (v := .slice Ge (iY + 1) Gf) (i := 12) (cs' := #[.int .i64 ((ix a0 (0 : Int)).length : Int), .bool false, .slice p35 n37 c36, .slice lv jg lA, .slice kN jf kO, .slice km je kn, .slice none 0 0, .slice EB (jd + 1) EC, .int .i64 0, .map (some B4), .slice j9 jc ka, .slice jC jb jO, .slice Ge (iY + 1) Gf]) 8 hO rfl rfl rfl rfl
    obtain ⟨VH, gq, Jk⟩ := zz
    dsimp only [sS, sZ] at gq
    refine zg (Jk Try.underlying31 rfl ti31 (by exact rfl) (by exact rfl)) ?_
    replace hO := gq.own
    refine zn ?_
    refine Go1.inBlock ?_
    refine zr ?_
    replace au := ((au.ch Z9).ch pP.ch).ch gq.ch
    refine zo (J0c rfl rfl (wrap_i64 (natbd Bo au.bd))) (zm rfl (zn ?_))
    replace Cd := Cd.ch gq.ch
    replace hB := (hB.trans pP.fr).trans gq.fr
    have Z10 := (((pO.ch.trans rK.ch).trans uW).trans pP.ch).trans gq.ch
    replace ur := ur.ch Z10
    have Z11 := ((((((tB.ch.trans vu).trans rJ.ch).trans pO.ch).trans rK.ch).trans uW).trans pP.ch).trans gq.ch
    replace cK := cK.ch Z11
    have Z12 := (Z9.trans pP.ch).trans gq.ch
    replace cE := cE.ch Z12
    replace c8 := c8.ch Z12
    replace dO := dO.ch Z12
    replace dR := dR.ch Z12
    exact hX2 _ H _ _ ⟨iY + 1, Ge, Gf, Nq, jb, jC, jO, qU, jc, j9, ka, nQ, jd + 1, EB, EC, Nm, je, km, kn, qW, jf, kN, kO, qX, jg, lv, lA, qY, ⟨rfl, rfl, rfl, rfl, rfl, trivial⟩, hO, Cd, cE, cK, ur, c8, dO, dR, au, hB⟩
   replace H := ifn yy H
   refine GoQ.stable rfl (olookF (a := r167) (MK.str Try.underlying9) 9 hO rfl Try.underlying154 ti3 rfl rfl yy) rfl rfl ?_
   refine GoQ.pure rfl (J03 rfl) rfl rfl ?_
   refine GoQ.pure rfl (J07 rfl rfl) rfl rfl ?_
   refine GoQ.pure rfl (J07 rfl rfl) rfl rfl ?_
   refine GoQ.pure rfl (J0i rfl) rfl rfl ?_
   refine GoQ.pure rfl (J0i rfl) rfl rfl ?_
   refine GoQ.nil ?_
   refine zq (zq (zr (zm rfl (zn (zf rfl rfl ?_)))))
   refine Go1.cut [(6, .pointer (some ⟨B10, 0, none⟩)), (9, .int .i64 (-1)), (10, .int .i64 (k2_110 : Int)), (11, .slice Ez ((ix d_32 (k2_110 : Int)).length) EA), (12, .string (gstr (chr (IntKind.i32.wrap ((97 : Int) + (k2_110 : Int)))))), (85, .slice p35 n37 c36), (86, .int .i64 (d_32.length : Int)), (87, .int .i64 (k2_110 : Int))] ⟨rfl, rfl, rfl, rfl, rfl, rfl, rfl, rfl, trivial⟩ ?_
   intro σ _
   refine zr (zm rfl (zm rfl ?_))
   replace dk := dk.ch tz.ch
   refine GoR.call (J0a body86 rfl (J0I hO.lt dk H)) rfl rfl ?_
   rintro VI VJ ⟨r224, yz, vQ, vR, Tz, rfl, Nr, hN228, vw, H⟩
   have rL := Stp.more hO Nr hN228
   dsimp only [List.cons_append, List.nil_append] at rL
   replace hO := rL.own
   refine zm rfl (zm rfl (zm rfl (zm rfl ?_)))
   refine GoR.inl (vs := [.pointer (some ⟨B10, 0, none⟩), .slice vQ yz vR, .int .i64 (-1), .int .i64 (k2_110 : Int), .string (gstr (chr (IntKind.i32.wrap ((97 : Int) + (k2_110 : Int))))), .int .i64 (-1)]) (caps := []) rfl rfl body155 Try.func155 rfl Try.ntmps155 rfl rfl rfl ?_
   intro RhR232 hR232
   refine zq (zr (za rfl (zn (zq (zr ?_)))))
   refine zm rfl (zo (J01 rfl) (zo (J00 Try.underlying156 rfl ti123 rfl (by decide)) (zo (J00 Try.underlying123 rfl ti23 rfl (by decide)) (zs (oblk (i := 3) 9 hO rfl rfl Try.underlying23 rfl rfl) ?_))))
   have Z13 := (jV.ch.trans tz.ch).trans rL.ch
   replace dR := dR.ch Z13
   refine zo (J0y Try.underlying23 rfl (dR.neq hO 7 rfl)) (za rfl (zn (zq ?_)))
   refine Go1.drawS 1 [(0, .pure), (1, .pure), (2, .pure), (3, .stable), (4, .pure), (6, .pure), (5, .loud), (7, .last)] mixed (by kernel_rfl) ?_
   intro RN Nt
   have rM := Stp.same hO Nt
   replace hO := rM.own
   refine GoQ.pure rfl (J03 rfl) rfl rfl ?_
   refine GoQ.pure rfl (J01 rfl) rfl rfl ?_
   refine GoQ.pure rfl (J00 Try.underlying156 rfl ti154 rfl (by decide)) rfl rfl ?_
   refine GoQ.stable rfl (oblk (i := 9) 9 hO rfl rfl Try.underlying154 rfl rfl) rfl rfl ?_
   refine GoQ.pure rfl (J03 rfl) rfl rfl ?_
   refine GoQ.pure rfl (J03 rfl) rfl rfl ?_
   replace vw := vw.ch (Ch.assoc _ _ _ _)
   replace vw := vw.ch rM.ch
   have zz := rowlend 0 hO rfl vw
   obtain ⟨Nu, Nv⟩ := zz
   have hOc238 := hO.drop 0
   refine GoQ.call rfl (J0a body157 (show ([.slice vQ yz vR] : List Value) = [.slice vQ r224.length vR] from by rw [← Nv]) (J0n hOc238.lt Nu H)) (fun v w hr => by obtain ⟨_, _, hs, _, _⟩ := hr; assumption) rfl rfl ?_
   rintro VK RO ⟨r239, rfl, ED, TA, H⟩
   have rN := Stp.same hO ED
   replace hO := rN.own
   have zz := omapUpd (MK.str Try.underlying9) 10 hO rfl Try.underlying154 r239 (d_147.length : Int)
   obtain ⟨RQ, gT, C6⟩ := zz
   dsimp only [sS, sZ] at gT
   refine GoQ.last rfl (C6 (by exact rfl) (by exact rfl) (by exact rfl)) rfl rfl ?_
   replace hO := gT.own
   refine GoQ.nil ?_
   refine zq ?_
   refine Go1.cut [(0, .pointer (some ⟨B10, 0, none⟩)), (1, .slice vQ yz vR), (2, .int .i64 (-1)), (3, .int .i64 (k2_110 : Int)), (4, .string (gstr (chr (IntKind.i32.wrap ((97 : Int) + (k2_110 : Int)))))), (5, .int .i64 (-1)), (13, .int .i64 (d_147.length : Int))] ⟨rfl, rfl, rfl, rfl, rfl, rfl, rfl, trivial⟩ ?_
   intro σ _
   refine zr (zm rfl (zm rfl (zo (J01 rfl) (zo (J00 Try.underlying156 rfl ti123 rfl (by decide)) (zo (J00 Try.underlying123 rfl ti23 rfl (by decide)) ?_)))))
   refine zs (oblk (i := 3) 9 hO rfl rfl Try.underlying23 rfl rfl) (zm rfl ?_)
   replace vw := (vw.ch rN.ch).ch gT.ch
   have zz := freeze 0 hO rfl vw
   obtain ⟨hO1, vy, fe, Nw⟩ := zz
   dsimp only [eS, eZ] at hO1 vy fe
   replace hB := ((((((hB.trans jV.fr).trans tz.fr).trans rL.fr).trans rM.fr).trans rN.fr).trans gT.fr).trans (Owns.J09 _ _ 0)
   dsimp only [eS, eZ] at hB
   replace hO := hO1; clear hO1
   have zz := J0k (r := Rp.sl (Rp.int .i64)) (n := 1) (parts := [(0, .slice vQ yz vR)]) (vs := [.slice vQ yz vR]) (xs := [r224]) rfl Try.underlying23 ti31 hO (by decide) (by kernel_rfl) (Els.cons rfl ⟨vQ, vR, congrArg some (congrArg (fun nn => Value.slice vQ nn vR) Nw), fe⟩ (Els.nil _ _ _) (by simp [mx])) rfl
   obtain ⟨VL, VM, rO, Ny, TW, Jl⟩ := zz
   refine zg (Jl rfl) ?_
   replace hO := rO.own
   have zz := freeze 0 hO rfl Ny
   obtain ⟨hO1, uX, fy, Nz⟩ := zz
   dsimp only [eS, eZ] at hO1 uX fy
   replace hB := (hB.trans rO.fr).trans (Owns.J09 _ _ 0)
   dsimp only [eS, eZ] at hB
   replace hO := hO1; clear hO1
   obtain ⟨RR, H⟩ := H
   have Z14 := ((((rM.ch.trans rN.ch).trans gT.ch).trans vy).trans rO.ch).trans uX
   replace dR := dR.ch Z14
   have zz := oapp Try.underlying23 ti31 rfl 6 hO rfl dR fy Nz RR (by decide)
   obtain ⟨VN, yA, yB, NA, pQ, fG, Jm⟩ := zz
   dsimp only [sS, sZ] at pQ fG
   refine zg (Jm (by exact rfl) (by exact rfl)) ?_
   replace hO := pQ.own
   refine zo (J01 rfl) (zo (J00 Try.underlying156 rfl ti123 rfl (by decide)) (zo (J00 Try.underlying123 rfl ti23 rfl (by decide)) ?_))
   have zz := J0e (v := .slice yA (jg + 1) yB) (i := 3) (cs' := #[.int .i64 ((ix a0 (0 : Int)).length : Int), .bool false, .slice p35 n37 c36, .slice yA (jg + 1) yB, .slice kN jf kO, .slice km je kn, .slice none 0 0, .slice jp jd jx, .int .i64 0, .map (some B4), .slice j9 jc ka, .slice jC jb jO, .slice j7 iY j8]) 8 hO rfl rfl rfl rfl
   obtain ⟨VO, nV, Jo⟩ := zz
   dsimp only [sS, sZ] at nV
   refine zg (Jo Try.underlying23 rfl ti23 (by exact rfl) (by exact rfl)) ?_
   replace hO := nV.own
   refine zn (zq (zr (zm rfl (zm rfl (zo (J01 rfl) ?_)))))
   refine zo (J00 Try.underlying156 rfl ti123 rfl (by decide)) (zo (J00 Try.underlying123 rfl ti31 rfl (by decide)) (zs (oblk (i := 4) 8 hO rfl rfl Try.underlying31 rfl rfl) (zm rfl ?_)))
   have zz := J0k (r := Rp.int .i64) (n := 1) (parts := [(0, .int .i64 (-1))]) (vs := [.int .i64 (-1)]) (xs := [(-1 : Int)]) rfl Try.underlying31 ti3 hO (by decide) (by kernel_rfl) (Els.cons rfl rfl (Els.nil _ _ _) (by simp [mx])) rfl
   obtain ⟨VP, VQ, pS, NB, TX, Jp⟩ := zz
   refine zg (Jp rfl) ?_
   replace hO := pS.own
   have zz := freeze 0 hO rfl NB
   obtain ⟨hO1, jB, gj, NC⟩ := zz
   dsimp only [eS, eZ] at hO1 jB gj
   replace hB := (((hB.trans pQ.fr).trans nV.fr).trans pS.fr).trans (Owns.J09 _ _ 0)
   dsimp only [eS, eZ] at hB
   replace hO := hO1; clear hO1
   obtain ⟨RS, H⟩ := H
   have Z15 := (((((((((Z13.trans rM.ch).trans rN.ch).trans gT.ch).trans vy).trans rO.ch).trans uX).trans pQ.ch).trans nV.ch).trans pS.ch).trans jB
   replace dO := dO.ch Z15
   have zz := oapp Try.underlying31 ti3 rfl 5 hO rfl dO gj NC RS (by decide)
   obtain ⟨Gg, z3, z4, ND, nW, gE, Jq⟩ := zz
   dsimp only [sS, sZ] at nW gE
   refine zg (Jq (by exact rfl) (by exact rfl)) ?_
   replace hO := nW.own
   refine zo (J01 rfl) (zo (J00 Try.underlying156 rfl ti123 rfl (by decide)) (zo (J00 Try.underlying123 rfl ti31 rfl (by decide)) ?_))
   have zz := J0e (v := .slice z3 (jf + 1) z4) (i := 4) (cs' := #[.int .i64 ((ix a0 (0 : Int)).length : Int), .bool false, .slice p35 n37 c36, .slice yA (jg + 1) yB, .slice z3 (jf + 1) z4, .slice km je kn, .slice none 0 0, .slice jp jd jx, .int .i64 0, .map (some B4), .slice j9 jc ka, .slice jC jb jO, .slice j7 iY j8]) 8 hO rfl rfl rfl rfl
   obtain ⟨Q4, iV, CB⟩ := zz
   dsimp only [sS, sZ] at iV
   refine zg (CB Try.underlying31 rfl ti31 (by exact rfl) (by exact rfl)) ?_
   replace hO := iV.own
   refine zn (zq ?_)
   refine Go1.cut [(0, .pointer (some ⟨B10, 0, none⟩)), (3, .int .i64 (k2_110 : Int)), (4, .string (gstr (chr (IntKind.i32.wrap ((97 : Int) + (k2_110 : Int)))))), (5, .int .i64 (-1)), (13, .int .i64 (d_147.length : Int))] ⟨rfl, rfl, rfl, rfl, rfl, trivial⟩ ?_
   intro σ _
   refine zr (zm rfl (zm rfl (zo (J01 rfl) (zo (J00 Try.underlying156 rfl ti123 rfl (by decide)) (zo (J00 Try.underlying123 rfl ti31 rfl (by decide)) ?_)))))
   refine zs (oblk (i := 5) 8 hO rfl rfl Try.underlying31 rfl rfl) (zm rfl ?_)
   have zz := J0k (r := Rp.int .i64) (n := 1) (parts := [(0, .int .i64 (k2_110 : Int))]) (vs := [.int .i64 (k2_110 : Int)]) (xs := [(k2_110 : Int)]) rfl Try.underlying31 ti3 hO (by decide) (by kernel_rfl) (Els.cons rfl rfl (Els.nil _ _ _) (by simp [mx])) rfl
   obtain ⟨Q5, VR, jr, EE, TY, Jr⟩ := zz
   refine zg (Jr rfl) ?_
   replace hO := jr.own
   have zz := freeze 0 hO rfl EE
   obtain ⟨hO1, tO, iO, NE⟩ := zz
   dsimp only [eS, eZ] at hO1 tO iO
   replace hB := (((hB.trans nW.fr).trans iV.fr).trans jr.fr).trans (Owns.J09 _ _ 0)
   dsimp only [eS, eZ] at hB
   replace hO := hO1; clear hO1
   obtain ⟨RT, H⟩ := H
   have Z16 := (((Z15.trans nW.ch).trans iV.ch).trans jr.ch).trans tO
   replace c8 := c8.ch Z16
   have zz := oapp Try.underlying31 ti3 rfl 4 hO rfl c8 iO NE RT (by decide)
   obtain ⟨VS, Bp, Bq, NF, m8, i7, Js⟩ := zz
   dsimp only [sS, sZ] at m8 i7
   refine zg (Js (by exact rfl) (by exact rfl)) ?_
   replace hO := m8.own
   refine zo (J01 rfl) (zo (J00 Try.underlying156 rfl ti123 rfl (by decide)) (zo (J00 Try.underlying123 rfl ti31 rfl (by decide)) ?_))
   have zz := J0e (v := .slice Bp (je + 1) Bq) (i := 5) (cs' := #[.int .i64 ((ix a0 (0 : Int)).length : Int), .bool false, .slice p35 n37 c36, .slice yA (jg + 1) yB, .slice z3 (jf + 1) z4, .slice Bp (je + 1) Bq, .slice none 0 0, .slice jp jd jx, .int .i64 0, .map (some B4), .slice j9 jc ka, .slice jC jb jO, .slice j7 iY j8]) 8 hO rfl rfl rfl rfl
   obtain ⟨Q7, mq, Jt⟩ := zz
   dsimp only [sS, sZ] at mq
   refine zg (Jt Try.underlying31 rfl ti31 (by exact rfl) (by exact rfl)) ?_
   replace hO := mq.own
   refine zn (zq (zr (zm rfl (zm rfl (zo (J01 rfl) ?_)))))
   refine zo (J00 Try.underlying156 rfl ti30 rfl (by decide)) (zs (oblk (i := 10) 8 hO rfl rfl Try.underlying30 rfl rfl) (zm rfl ?_))
   have zz := J0k (r := Rp.str) (n := 1) (parts := [(0, .string (gstr (chr (IntKind.i32.wrap ((97 : Int) + (k2_110 : Int))))))]) (vs := [.string (gstr (chr (IntKind.i32.wrap ((97 : Int) + (k2_110 : Int)))))]) (xs := [chr (IntKind.i32.wrap ((97 : Int) + (k2_110 : Int)))]) rfl Try.underlying30 ti9 hO (by decide) (by kernel_rfl) (Els.cons rfl ⟨rfl, (chr_le _)⟩ (Els.nil _ _ _) (by simp [mx])) rfl
   obtain ⟨VU, VV, m9, NG, T0, Ju⟩ := zz
   refine zg (Ju rfl) ?_
   replace hO := m9.own
   have zz := freeze 0 hO rfl NG
   obtain ⟨hO1, sX, kS, NH⟩ := zz
   dsimp only [eS, eZ] at hO1 sX kS
   replace hB := (((hB.trans m8.fr).trans mq.fr).trans m9.fr).trans (Owns.J09 _ _ 0)
   dsimp only [eS, eZ] at hB
   replace hO := hO1; clear hO1
   obtain ⟨FN, H⟩ := H
   have Z17 := (((Z16.trans m8.ch).trans mq.ch).trans m9.ch).trans sX
   replace cK := cK.ch Z17
   have zz := oapp Try.underlying30 ti9 rfl 2 hO rfl cK kS NH FN (by decide)
   obtain ⟨IT, C7, C8, vm, fJ, mh, Jv⟩ := zz
   dsimp only [sS, sZ] at fJ mh
   refine zg (Jv (by exact rfl) (by exact rfl)) ?_
   replace hO := fJ.own
   refine zo (J01 rfl) (zo (J00 Try.underlying156 rfl ti30 rfl (by decide)) ?_)
   have zz := J0e (v := .slice C7 (jc + 1) C8) (i := 10) (cs' := #[.int .i64 ((ix a0 (0 : Int)).length : Int), .bool false, .slice p35 n37 c36, .slice yA (jg + 1) yB, .slice z3 (jf + 1) z4, .slice Bp (je + 1) Bq, .slice none 0 0, .slice jp jd jx, .int .i64 0, .map (some B4), .slice C7 (jc + 1) C8, .slice jC jb jO, .slice j7 iY j8]) 8 hO rfl rfl rfl rfl
   obtain ⟨VW, lJ, Jw⟩ := zz
   dsimp only [sS, sZ] at lJ
   refine zg (Jw Try.underlying30 rfl ti30 (by exact rfl) (by exact rfl)) ?_
   replace hO := lJ.own
   refine zn (zq ?_)
   refine Go1.cut [(0, .pointer (some ⟨B10, 0, none⟩)), (5, .int .i64 (-1)), (13, .int .i64 (d_147.length : Int))] ⟨rfl, rfl, rfl, trivial⟩ ?_
   intro σ _
   refine zr (zm rfl (zm rfl (zo (J01 rfl) (zo (J00 Try.underlying156 rfl ti31 rfl (by decide)) (zs (oblk (i := 11) 8 hO rfl rfl Try.underlying31 rfl rfl) ?_)))))
   refine zm rfl ?_
   have zz := J0k (r := Rp.int .i64) (n := 1) (parts := [(0, .int .i64 (-1))]) (vs := [.int .i64 (-1)]) (xs := [(-1 : Int)]) rfl Try.underlying31 ti3 hO (by decide) (by kernel_rfl) (Els.cons rfl rfl (Els.nil _ _ _) (by simp [mx])) rfl
   obtain ⟨VX, VY, mr, ut, T1, Jx⟩ := zz
   refine zg (Jx rfl) ?_
   replace hO := mr.own
   have zz := freeze 0 hO rfl ut
   obtain ⟨hO1, me, lG, Ei⟩ := zz
   dsimp only [eS, eZ] at hO1 me lG
   replace hB := (((hB.trans fJ.fr).trans lJ.fr).trans mr.fr).trans (Owns.J09 _ _ 0)
   dsimp only [eS, eZ] at hB
   replace hO := hO1; clear hO1
   obtain ⟨RU, H⟩ := H
   have Z18 := (((Z17.trans fJ.ch).trans lJ.ch).trans mr.ch).trans me
   replace cE := cE.ch Z18
   have zz := oapp Try.underlying31 ti3 rfl 1 hO rfl cE lG Ei RU (by decide)
   obtain ⟨V0, EF, EG, NI, lK, uu, Jy⟩ := zz
   dsimp only [sS, sZ] at lK uu
   refine zg (Jy (by exact rfl) (by exact rfl)) ?_
   replace hO := lK.own
   refine zo (J01 rfl) (zo (J00 Try.underlying156 rfl ti31 rfl (by decide)) ?_)
   have zz := J0e (v := .slice EF (jb + 1) EG) (i := 11) (cs' := #[.int .i64 ((ix a0 (0 : Int)).length : Int), .bool false, .slice p35 n37 c36, .slice yA (jg + 1) yB, .slice z3 (jf + 1) z4, .slice Bp (je + 1) Bq, .slice none 0 0, .slice jp jd jx, .int .i64 0, .map (some B4), .slice C7 (jc + 1) C8, .slice EF (jb + 1) EG, .slice j7 iY j8]) 8 hO rfl rfl rfl rfl
   obtain ⟨IV, kY, Jz⟩ := zz
   dsimp only [sS, sZ] at kY
   refine zg (Jz Try.underlying31 rfl ti31 (by exact rfl) (by exact rfl)) ?_
   replace hO := kY.own
   refine zn (zq (zr (zm rfl (za rfl (zn ?_)))))
   refine Go1.ret1V Try.func155 rfl (show _ = .int .i64 (d_147.length : Int) from rfl) ?_
   refine hR232 _ _ ?_
   refine za rfl (zn (zr (zm rfl (zm rfl (zo (J01 rfl) ?_)))))
   refine zo (J00 Try.underlying156 rfl ti31 rfl (by decide)) (zs (oblk (i := 12) 8 hO rfl rfl Try.underlying31 rfl rfl) (zm rfl ?_))
   have zz := J0k (r := Rp.int .i64) (n := 1) (parts := [(0, .int .i64 (d_147.length : Int))]) (vs := [.int .i64 (d_147.length : Int)]) (xs := [(d_147.length : Int)]) rfl Try.underlying31 ti3 hO (by decide) (by kernel_rfl) (Els.cons rfl rfl (Els.nil _ _ _) (by simp [mx])) rfl
   obtain ⟨V1, V2, lL, NJ, T3, CF⟩ := zz
   refine zg (CF rfl) ?_
   replace hO := lL.own
   have zz := freeze 0 hO rfl NJ
   obtain ⟨hO1, pt, yX, NK⟩ := zz
   dsimp only [eS, eZ] at hO1 pt yX
   replace hB := (((hB.trans lK.fr).trans kY.fr).trans lL.fr).trans (Owns.J09 _ _ 0)
   dsimp only [eS, eZ] at hB
   replace hO := hO1; clear hO1
   obtain ⟨RV, H⟩ := H
   have Z19 := (((Z18.trans lK.ch).trans kY.ch).trans lL.ch).trans pt
   replace cx := cx.ch Z19
   have zz := oapp Try.underlying31 ti3 rfl 0 hO rfl cx yX NK RV (by decide)
   obtain ⟨V3, Gh, Gi, NL, k8, Ce, JA⟩ := zz
   dsimp only [sS, sZ] at k8 Ce
   refine zg (JA (by exact rfl) (by exact rfl)) ?_
   replace hO := k8.own
   refine zo (J01 rfl) (zo (J00 Try.underlying156 rfl ti31 rfl (by decide)) ?_)
   have zz := J0e (v := .slice Gh (iY + 1) Gi) (i := 12) (cs' := #[.int .i64 ((ix a0 (0 : Int)).length : Int), .bool false, .slice p35 n37 c36, .slice yA (jg + 1) yB, .slice z3 (jf + 1) z4, .slice Bp (je + 1) Bq, .slice none 0 0, .slice jp jd jx, .int .i64 0, .map (some B4), .slice C7 (jc + 1) C8, .slice EF (jb + 1) EG, .slice Gh (iY + 1) Gi]) 8 hO rfl rfl rfl rfl
   obtain ⟨V4, ko, JB⟩ := zz
   dsimp only [sS, sZ] at ko
   refine zg (JB Try.underlying31 rfl ti31 (by exact rfl) (by exact rfl)) ?_
   replace hO := ko.own
   refine zn ?_
   refine Go1.inBlock ?_
   refine Go1.cut [(6, .pointer (some ⟨B10, 0, none⟩)), (9, .int .i64 (-1)), (85, .slice p35 n37 c36), (86, .int .i64 (d_32.length : Int)), (87, .int .i64 (k2_110 : Int))] ⟨rfl, rfl, rfl, rfl, rfl, trivial⟩ ?_
   intro σ _
   refine zr ?_
   replace au := ((au.ch Z19).ch k8.ch).ch ko.ch
   refine zo (J0c rfl rfl (wrap_i64 (natbd Bo au.bd))) (zm rfl (zn ?_))
   replace Ce := Ce.ch ko.ch
   replace hB := (hB.trans k8.fr).trans ko.fr
   have Z20 := (((kY.ch.trans lL.ch).trans pt).trans k8.ch).trans ko.ch
   replace uu := uu.ch Z20
   have Z21 := (((((((lJ.ch.trans mr.ch).trans me).trans lK.ch).trans kY.ch).trans lL.ch).trans pt).trans k8.ch).trans ko.ch
   replace mh := mh.ch Z21
   have Z22 := (((((((((((mq.ch.trans m9.ch).trans sX).trans fJ.ch).trans lJ.ch).trans mr.ch).trans me).trans lK.ch).trans kY.ch).trans lL.ch).trans pt).trans k8.ch).trans ko.ch
   replace i7 := i7.ch Z22
   have Z23 := (((((((((((((((iV.ch.trans jr.ch).trans tO).trans m8.ch).trans mq.ch).trans m9.ch).trans sX).trans fJ.ch).trans lJ.ch).trans mr.ch).trans me).trans lK.ch).trans kY.ch).trans lL.ch).trans pt).trans k8.ch).trans ko.ch
   replace gE := gE.ch Z23
   have Z24 := (((((((((((((((((((nV.ch.trans pS.ch).trans jB).trans nW.ch).trans iV.ch).trans jr.ch).trans tO).trans m8.ch).trans mq.ch).trans m9.ch).trans sX).trans fJ.ch).trans lJ.ch).trans mr.ch).trans me).trans lK.ch).trans kY.ch).trans lL.ch).trans pt).trans k8.ch).trans ko.ch
   replace fG := fG.ch Z24
   replace cF := ((cF.ch Z19).ch k8.ch).ch ko.ch
   exact hX2 _ H _ _ ⟨iY + 1, Gh, Gi, NL, jb + 1, EF, EG, NI, jc + 1, C7, C8, vm, jd, jp, jx, qV, je + 1, Bp, Bq, NF, jf + 1, z3, z4, ND, jg + 1, yA, yB, NA, ⟨rfl, rfl, rfl, rfl, rfl, trivial⟩, hO, Ce, uu, mh, cF, i7, gE, fG, au, hB⟩
  replace H := ifn Bo H
  refine zo (fun w => opB (J08 rfl rfl w) (decide_eq_false Bo)) (zn (zq (zf rfl rfl ?_)))
  refine Go1.exit rfl ?_
  refine zq (zr (zm rfl (za rfl (za rfl (zn ?_)))))
  have uh := Stp.nil (e := 31) (r := 1) hO
  replace hO := uh.own
  have cO := Els.nil (Rp.sl (Rp.int .i64)) (bl (.row 31 1 none 0 0 [] :: [.row 3 1 j7 iY j8 ph, .row 3 1 jC jb jO qU, .row 9 1 j9 jc ka nQ, .row 185 2 jp jd jx qV, .row 3 1 km je kn qW, .row 3 1 kN jf kO qX, .row 31 1 lv jg lA qY, .row 31 1 p35 n37 c36 gz, .blk B10 (.cells #[.int .i64 ((ix a0 (0 : Int)).length : Int), .bool false, .slice p35 n37 c36, .slice lv jg lA, .slice kN jf kO, .slice km je kn, .slice none 0 0, .slice jp jd jx, .int .i64 0, .map (some B4), .slice j9 jc ka, .slice jC jb jO, .slice j7 iY j8] 156 (0, 0)), .any (mapE (fun a : List UInt8 => Value.string (gstr a)) (fun a : Int => Value.int .i64 a) B4 m2_153)]) ++ A) Jf
  have gH := Stp.front 10 hO rfl
  dsimp only [eS, eZ] at gH
  replace hO := gH.own
  have ki := Stp.front 2 hO rfl
  dsimp only [eS, eZ] at ki
  replace hO := ki.own
  have gC := Stp.front 3 hO rfl
  dsimp only [eS, eZ] at gC
  replace hO := gC.own
  have rP := Stp.front 4 hO rfl
  dsimp only [eS, eZ] at rP
  replace hO := rP.own
  have rQ := Stp.front 5 hO rfl
  dsimp only [eS, eZ] at rQ
  replace hO := rQ.own
  have rR := Stp.front 5 hO rfl
  dsimp only [eS, eZ] at rR
  replace hO := rR.own
  have gI := Stp.front 6 hO rfl
  dsimp only [eS, eZ] at gI
  replace hO := gI.own
  have rS := Stp.front 7 hO rfl
  dsimp only [eS, eZ] at rS
  replace hO := rS.own
  have rT := Stp.front 8 hO rfl
  dsimp only [eS, eZ] at rT
  replace hO := rT.own
  have rU := Stp.front 9 hO rfl
  dsimp only [eS, eZ] at rU
  replace hO := rU.own
  have rV := Stp.front 10 hO rfl
  dsimp only [eS, eZ] at rV
  replace hO := rV.own
  refine Go1.ret2 Try.func131 rfl ?_
  have Z25 := (((((((((gH.ch.trans ki.ch).trans gC.ch).trans rP.ch).trans rQ.ch).trans rR.ch).trans gI.ch).trans rS.ch).trans rT.ch).trans rU.ch).trans rV.ch
  replace cO := cO.ch Z25
  have Z26 := ((((((((((uh.ch.trans gH.ch).trans ki.ch).trans gC.ch).trans rP.ch).trans rQ.ch).trans rR.ch).trans gI.ch).trans rS.ch).trans rT.ch).trans rU.ch).trans rV.ch
  replace cx := cx.ch Z26
  replace cE := cE.ch Z26
  replace cK := cK.ch Z26
  replace cF := cF.ch Z26
  replace c8 := c8.ch Z26
  replace dO := dO.ch Z26
  replace dR := dR.ch Z26
  replace au := au.ch Z26
  replace hB := (((((((((((hB.trans uh.fr).trans gH.fr).trans ki.fr).trans gC.fr).trans rP.fr).trans rQ.fr).trans rR.fr).trans gI.fr).trans rS.fr).trans rT.fr).trans rU.fr).trans rV.fr
  exact Or.inr ⟨(⟨(⟨((ix a0 (0 : Int)).length : Int), false, d_32, d_147, d_141, d_135, ([] : List (List Int)), d_129, (0 : Int)⟩ : Enum), m2_153, d_123, d_117, d_111⟩ : run), ((0 : Int)), B10, n37, p35, c36, gz, jg, lv, lA, qY, jf, kN, kO, qX, je, km, kn, qW, 0, none, 0, ([]), jd, jp, jx, qV, B4, jc, j9, ka, nQ, jb, jC, jO, qU, iY, j7, j8, ph, rfl, hB.same, hO, au, dR, dO, c8, cO, cF, cK, cE, cx, H⟩
 replace H := ifp rfl H
 refine zt rfl rfl (zr (zm rfl (zm rfl (zo (J01 rfl) (zo (J00 Try.underlying156 rfl ti123 rfl (by decide)) ?_)))))
 refine zo (J00 Try.underlying123 rfl ti3 rfl (by decide)) (zs (oblk (i := 0) 1 hO rfl rfl Try.underlying3 rfl rfl) ?_)
 refine GoR.call (J0a body156 rfl (walk_trans_Identity hO.lt H)) rfl rfl ?_
 rintro V5 V6 ⟨r397, yC, yD, rfl, NM, dH, H⟩
 have AB := Stp.same hO NM
 replace hO := AB.own
 refine GoR.inl (vs := [.pointer (some ⟨B10, 0, none⟩), .slice yC r397.length yD, .int .i64 (-1), .int .i64 (-1), .string (gstr (([] : Str))), .int .i64 (-1)]) (caps := []) rfl rfl body155 Try.func155 rfl Try.ntmps155 rfl rfl rfl ?_
 intro RhR403 hR403
 refine zq (zr (za rfl (zn (zq (zr ?_)))))
 refine zm rfl (zo (J01 rfl) (zo (J00 Try.underlying156 rfl ti123 rfl (by decide)) (zo (J00 Try.underlying123 rfl ti23 rfl (by decide)) (zs (oblk (i := 3) 1 hO rfl rfl Try.underlying23 rfl rfl) (zo (J0d Try.underlying23 rfl) ?_)))))
 refine za rfl (zn (zq ?_))
 refine Go1.cut [(0, .pointer (some ⟨B10, 0, none⟩)), (1, .slice yC r397.length yD), (2, .int .i64 (-1)), (3, .int .i64 (-1)), (4, .string (gstr (([] : Str)))), (5, .int .i64 (-1)), (13, .int .i64 0)] ⟨rfl, rfl, rfl, rfl, rfl, rfl, rfl, trivial⟩ ?_
 intro σ _
 refine Go1.drawS 1 [(0, .pure), (1, .pure), (2, .pure), (3, .stable), (4, .pure), (6, .pure), (5, .loud), (7, .last)] mixed (by kernel_rfl) ?_
 intro V7 NN
 have yE := Stp.same hO NN
 replace hO := yE.own
 refine GoQ.pure rfl (J03 rfl) rfl rfl ?_
 refine GoQ.pure rfl (J01 rfl) rfl rfl ?_
 refine GoQ.pure rfl (J00 Try.underlying156 rfl ti154 rfl (by decide)) rfl rfl ?_
 refine GoQ.stable rfl (oblk (i := 9) 1 hO rfl rfl Try.underlying154 rfl rfl) rfl rfl ?_
 refine GoQ.pure rfl (J03 rfl) rfl rfl ?_
 refine GoQ.pure rfl (J03 rfl) rfl rfl ?_
 replace dH := dH.ch yE.ch
 refine GoQ.call rfl (J0a body157 rfl (J0n hO.lt dH H)) (fun v w hr => by obtain ⟨_, _, hs, _, _⟩ := hr; assumption) rfl rfl ?_
 rintro V8 RW ⟨r407, rfl, EH, TB, H⟩
 have yF := Stp.same hO EH
 replace hO := yF.own
 have zz := omapUpd (MK.str Try.underlying9) 2 hO rfl Try.underlying154 r407 (0 : Int)
 obtain ⟨V9, fB, JC⟩ := zz
 refine GoQ.last rfl (JC (by exact rfl) (by exact rfl) (by exact rfl)) rfl rfl ?_
 replace hO := fB.own
 refine GoQ.nil ?_
 refine zq (zr (zm rfl (zm rfl (zo (J01 rfl) (zo (J00 Try.underlying156 rfl ti123 rfl (by decide)) ?_)))))
 refine zo (J00 Try.underlying123 rfl ti23 rfl (by decide)) (zs (oblk (i := 3) 1 hO rfl rfl Try.underlying23 rfl rfl) (zm rfl ?_))
 replace dH := (dH.ch yF.ch).ch fB.ch
 have zz := J0k (r := Rp.sl (Rp.int .i64)) (n := 1) (parts := [(0, .slice yC r397.length yD)]) (vs := [.slice yC r397.length yD]) (xs := [r397]) rfl Try.underlying23 ti31 hO (by decide) (by kernel_rfl) (Els.cons rfl ⟨yC, yD, rfl, dH⟩ (Els.nil _ _ _) (by simp [mx])) rfl
 obtain ⟨RX, Wa, yG, NO, T4, JD⟩ := zz
 refine zg (JD rfl) ?_
 replace hO := yG.own
 have zz := freeze 0 hO rfl NO
 obtain ⟨hO1, EI, e8, NP⟩ := zz
 replace hO := hO1; clear hO1
 have iL := Stp.nil (e := 31) (r := 1) hO
 replace hO := iL.own
 have ii := Els.nil (Rp.sl (Rp.int .i64)) (bl (.row 31 1 none 0 0 [] :: [.row 31 1 p35 n37 c36 gz, .blk B10 (.cells #[.int .i64 ((ix a0 (0 : Int)).length : Int), .bool true, .slice p35 n37 c36, .slice none 0 0, .slice none 0 0, .slice none 0 0, .slice none 0 0, .slice none 0 0, .int .i64 0, .map (some B4), .slice none 0 0, .slice none 0 0, .slice none 0 0] 156 (0, 0)), .any (mapE (fun a : List UInt8 => Value.string (gstr a)) (fun a : Int => Value.int .i64 a) B4 (mput (([] : List (Str × Int))) r407 ((0 : Int))))]) ++ A) RX
 obtain ⟨z5, H⟩ := H
 replace e8 := e8.ch iL.ch
 have zz := oapp Try.underlying23 ti31 rfl 0 hO rfl ii e8 NP z5 (by decide)
 obtain ⟨Wb, q8, q9, ya, xH, fu, JE⟩ := zz
 refine zg (JE (by exact rfl) (by exact rfl)) ?_
 replace hO := xH.own
 refine zo (J01 rfl) (zo (J00 Try.underlying156 rfl ti123 rfl (by decide)) (zo (J00 Try.underlying123 rfl ti23 rfl (by decide)) ?_))
 have zz := J0e (v := .slice q8 (0 + 1) q9) (i := 3) (cs' := #[.int .i64 ((ix a0 (0 : Int)).length : Int), .bool true, .slice p35 n37 c36, .slice q8 (0 + 1) q9, .slice none 0 0, .slice none 0 0, .slice none 0 0, .slice none 0 0, .int .i64 0, .map (some B4), .slice none 0 0, .slice none 0 0, .slice none 0 0]) 2 hO rfl rfl rfl rfl
 obtain ⟨Wc, wM, JF⟩ := zz
 refine zg (JF Try.underlying23 rfl ti23 (by exact rfl) (by exact rfl)) ?_
 replace hO := wM.own
 refine zn (zq ?_)
 refine Go1.cut [(0, .pointer (some ⟨B10, 0, none⟩)), (2, .int .i64 (-1)), (3, .int .i64 (-1)), (4, .string (gstr (([] : Str)))), (5, .int .i64 (-1)), (13, .int .i64 0)] ⟨rfl, rfl, rfl, rfl, rfl, rfl, trivial⟩ ?_
 intro σ _
 refine zr (zm rfl (zm rfl (zo (J01 rfl) (zo (J00 Try.underlying156 rfl ti123 rfl (by decide)) (zo (J00 Try.underlying123 rfl ti31 rfl (by decide)) ?_)))))
 refine zs (oblk (i := 4) 2 hO rfl rfl Try.underlying31 rfl rfl) (zm rfl ?_)
 have zz := J0k (r := Rp.int .i64) (n := 1) (parts := [(0, .int .i64 (-1))]) (vs := [.int .i64 (-1)]) (xs := [(-1 : Int)]) rfl Try.underlying31 ti3 hO (by decide) (by kernel_rfl) (Els.cons rfl rfl (Els.nil _ _ _) (by simp [mx])) rfl
 obtain ⟨RY, Wd, wN, NQ, T5, JG⟩ := zz
 refine zg (JG rfl) ?_
 replace hO := wN.own
 have zz := freeze 0 hO rfl NQ
 obtain ⟨hO1, yY, fN, NR⟩ := zz
 dsimp only [eS, eZ] at hO1 yY fN
 replace hB := ((((((((((hB.trans AB.fr).trans yE.fr).trans yF.fr).trans fB.fr).trans yG.fr).trans (Owns.J09 _ _ 0)).trans iL.fr).trans xH.fr).trans wM.fr).trans wN.fr).trans (Owns.J09 _ _ 0)
 dsimp only [eS, eZ] at hB
 replace hO := hO1; clear hO1
 have vS := Stp.nil (e := 3) (r := 1) hO
 replace hO := vS.own
 have NS := Els.nil (Rp.int .i64) (bl (.row 3 1 none 0 0 [] :: [.row 31 1 q8 (0 + 1) q9 ya, .row 31 1 p35 n37 c36 gz, .blk B10 (.cells #[.int .i64 ((ix a0 (0 : Int)).length : Int), .bool true, .slice p35 n37 c36, .slice q8 (0 + 1) q9, .slice none 0 0, .slice none 0 0, .slice none 0 0, .slice none 0 0, .int .i64 0, .map (some B4), .slice none 0 0, .slice none 0 0, .slice none 0 0] 156 (0, 0)), .any (mapE (fun a : List UInt8 => Value.string (gstr a)) (fun a : Int => Value.int .i64 a) B4 (mput (([] : List (Str × Int))) r407 ((0 : Int))))]) ++ A) RY
 obtain ⟨R0, H⟩ := H
 replace fN := fN.ch vS.ch
 have zz := oapp Try.underlying31 ti3 rfl 0 hO rfl NS fN NR R0 (by decide)
 obtain ⟨We, t6, t7, y3, uY, gk, C9⟩ := zz
 dsimp only [sS, sZ] at uY gk
 refine zg (C9 (by exact rfl) (by exact rfl)) ?_
 replace hO := uY.own
 refine zo (J01 rfl) (zo (J00 Try.underlying156 rfl ti123 rfl (by decide)) (zo (J00 Try.underlying123 rfl ti31 rfl (by decide)) ?_))
 have zz := J0e (v := .slice t6 (0 + 1) t7) (i := 4) (cs' := #[.int .i64 ((ix a0 (0 : Int)).length : Int), .bool true, .slice p35 n37 c36, .slice q8 (0 + 1) q9, .slice t6 (0 + 1) t7, .slice none 0 0, .slice none 0 0, .slice none 0 0, .int .i64 0, .map (some B4), .slice none 0 0, .slice none 0 0, .slice none 0 0]) 3 hO rfl rfl rfl rfl
 obtain ⟨Wf, ui, JH⟩ := zz
 dsimp only [sS, sZ] at ui
 refine zg (JH Try.underlying31 rfl ti31 (by exact rfl) (by exact rfl)) ?_
 replace hO := ui.own
 refine zn (zq (zr (zm rfl (zm rfl (zo (J01 rfl) ?_)))))
 refine zo (J00 Try.underlying156 rfl ti123 rfl (by decide)) (zo (J00 Try.underlying123 rfl ti31 rfl (by decide)) (zs (oblk (i := 5) 3 hO rfl rfl Try.underlying31 rfl rfl) (zm rfl ?_)))
 have zz := J0k (r := Rp.int .i64) (n := 1) (parts := [(0, .int .i64 (-1))]) (vs := [.int .i64 (-1)]) (xs := [(-1 : Int)]) rfl Try.underlying31 ti3 hO (by decide) (by kernel_rfl) (Els.cons rfl rfl (Els.nil _ _ _) (by simp [mx])) rfl
 obtain ⟨R2, Wg, iW, NT, T6, JI⟩ := zz
 refine zg (JI rfl) ?_
 replace hO := iW.own
 have zz := freeze 0 hO rfl NT
 obtain ⟨hO1, xg, ik, NU⟩ := zz
 dsimp only [eS, eZ] at hO1 xg ik
 replace hB := ((((hB.trans vS.fr).trans uY.fr).trans ui.fr).trans iW.fr).trans (Owns.J09 _ _ 0)
 dsimp only [eS, eZ] at hB
 replace hO := hO1; clear hO1
 have uj := Stp.nil (e := 3) (r := 1) hO
 replace hO := uj.own
 have NV := Els.nil (Rp.int .i64) (bl (.row 3 1 none 0 0 [] :: [.row 3 1 t6 (0 + 1) t7 y3, .row 31 1 q8 (0 + 1) q9 ya, .row 31 1 p35 n37 c36 gz, .blk B10 (.cells #[.int .i64 ((ix a0 (0 : Int)).length : Int), .bool true, .slice p35 n37 c36, .slice q8 (0 + 1) q9, .slice t6 (0 + 1) t7, .slice none 0 0, .slice none 0 0, .slice none 0 0, .int .i64 0, .map (some B4), .slice none 0 0, .slice none 0 0, .slice none 0 0] 156 (0, 0)), .any (mapE (fun a : List UInt8 => Value.string (gstr a)) (fun a : Int => Value.int .i64 a) B4 (mput (([] : List (Str × Int))) r407 ((0 : Int))))]) ++ A) R2
 obtain ⟨R3, H⟩ := H
 replace ik := ik.ch uj.ch
 have zz := oapp Try.underlying31 ti3 rfl 0 hO rfl NV ik NU R3 (by decide)
 obtain ⟨Wh, vi, vj, AC, tC, i8, JJ⟩ := zz
 dsimp only [sS, sZ] at tC i8
 refine zg (JJ (by exact rfl) (by exact rfl)) ?_
 replace hO := tC.own
 refine zo (J01 rfl) (zo (J00 Try.underlying156 rfl ti123 rfl (by decide)) (zo (J00 Try.underlying123 rfl ti31 rfl (by decide)) ?_))
 have zz := J0e (v := .slice vi (0 + 1) vj) (i := 5) (cs' := #[.int .i64 ((ix a0 (0 : Int)).length : Int), .bool true, .slice p35 n37 c36, .slice q8 (0 + 1) q9, .slice t6 (0 + 1) t7, .slice vi (0 + 1) vj, .slice none 0 0, .slice none 0 0, .int .i64 0, .map (some B4), .slice none 0 0, .slice none 0 0, .slice none 0 0]) 4 hO rfl rfl rfl rfl
 obtain ⟨R4, rW, JK⟩ := zz
 dsimp only [sS, sZ] at rW
 refine zg (JK Try.underlying31 rfl ti31 (by exact rfl) (by exact rfl)) ?_
 replace hO := rW.own
 refine zn (zq ?_)
 refine Go1.cut [(0, .pointer (some ⟨B10, 0, none⟩)), (4, .string (gstr (([] : Str)))), (5, .int .i64 (-1)), (13, .int .i64 0)] ⟨rfl, rfl, rfl, rfl, trivial⟩ ?_
 intro σ _
 refine zr (zm rfl (zm rfl (zo (J01 rfl) (zo (J00 Try.underlying156 rfl ti30 rfl (by decide)) (zs (oblk (i := 10) 4 hO rfl rfl Try.underlying30 rfl rfl) ?_)))))
 refine zm rfl ?_
 have zz := J0k (r := Rp.str) (n := 1) (parts := [(0, .string (gstr (([] : Str))))]) (vs := [.string (gstr (([] : Str)))]) (xs := [([] : Str)]) rfl Try.underlying30 ti9 hO (by decide) (by kernel_rfl) (Els.cons rfl ⟨rfl, (by decide)⟩ (Els.nil _ _ _) (by simp [mx])) rfl
 obtain ⟨JL, uF, f7, xh, T7, JM⟩ := zz
 refine zg (JM rfl) ?_
 replace hO := f7.own
 have zz := freeze 0 hO rfl xh
 obtain ⟨hO1, vz, kT, NW⟩ := zz
 dsimp only [eS, eZ] at hO1 vz kT
 replace hB := ((((hB.trans uj.fr).trans tC.fr).trans rW.fr).trans f7.fr).trans (Owns.J09 _ _ 0)
 dsimp only [eS, eZ] at hB
 replace hO := hO1; clear hO1
 have rX := Stp.nil (e := 9) (r := 1) hO
 replace hO := rX.own
 have NX := Els.nil (Rp.str) (bl (.row 9 1 none 0 0 [] :: [.row 3 1 vi (0 + 1) vj AC, .row 3 1 t6 (0 + 1) t7 y3, .row 31 1 q8 (0 + 1) q9 ya, .row 31 1 p35 n37 c36 gz, .blk B10 (.cells #[.int .i64 ((ix a0 (0 : Int)).length : Int), .bool true, .slice p35 n37 c36, .slice q8 (0 + 1) q9, .slice t6 (0 + 1) t7, .slice vi (0 + 1) vj, .slice none 0 0, .slice none 0 0, .int .i64 0, .map (some B4), .slice none 0 0, .slice none 0 0, .slice none 0 0] 156 (0, 0)), .any (mapE (fun a : List UInt8 => Value.string (gstr a)) (fun a : Int => Value.int .i64 a) B4 (mput (([] : List (Str × Int))) r407 ((0 : Int))))]) ++ A) JL
 obtain ⟨R5, H⟩ := H
 replace kT := kT.ch rX.ch
 have zz := oapp Try.underlying30 ti9 rfl 0 hO rfl NX kT NW R5 (by decide)
 obtain ⟨R6, xv, xw, Cf, pT, nG, JN⟩ := zz
 dsimp only [sS, sZ] at pT nG
 refine zg (JN (by exact rfl) (by exact rfl)) ?_
 replace hO := pT.own
 refine zo (J01 rfl) (zo (J00 Try.underlying156 rfl ti30 rfl (by decide)) ?_)
 have zz := J0e (v := .slice xv (0 + 1) xw) (i := 10) (cs' := #[.int .i64 ((ix a0 (0 : Int)).length : Int), .bool true, .slice p35 n37 c36, .slice q8 (0 + 1) q9, .slice t6 (0 + 1) t7, .slice vi (0 + 1) vj, .slice none 0 0, .slice none 0 0, .int .i64 0, .map (some B4), .slice xv (0 + 1) xw, .slice none 0 0, .slice none 0 0]) 5 hO rfl rfl rfl rfl
 obtain ⟨Wi, nX, Db⟩ := zz
 dsimp only [sS, sZ] at nX
 refine zg (Db Try.underlying30 rfl ti30 (by exact rfl) (by exact rfl)) ?_
 replace hO := nX.own
 refine zn (zq (zr (zm rfl (zm rfl (zo (J01 rfl) ?_)))))
 refine zo (J00 Try.underlying156 rfl ti31 rfl (by decide)) (zs (oblk (i := 11) 5 hO rfl rfl Try.underlying31 rfl rfl) (zm rfl ?_))
 have zz := J0k (r := Rp.int .i64) (n := 1) (parts := [(0, .int .i64 (-1))]) (vs := [.int .i64 (-1)]) (xs := [(-1 : Int)]) rfl Try.underlying31 ti3 hO (by decide) (by kernel_rfl) (Els.cons rfl rfl (Els.nil _ _ _) (by simp [mx])) rfl
 obtain ⟨R7, Wj, pU, NY, H9, JO⟩ := zz
 refine zg (JO rfl) ?_
 replace hO := pU.own
 have zz := freeze 0 hO rfl NY
 obtain ⟨hO1, uv, uw, N1⟩ := zz
 dsimp only [eS, eZ] at hO1 uv uw
 replace hB := ((((hB.trans rX.fr).trans pT.fr).trans nX.fr).trans pU.fr).trans (Owns.J09 _ _ 0)
 dsimp only [eS, eZ] at hB
 replace hO := hO1; clear hO1
 have nY := Stp.nil (e := 3) (r := 1) hO
 replace hO := nY.own
 have N2 := Els.nil (Rp.int .i64) (bl (.row 3 1 none 0 0 [] :: [.row 9 1 xv (0 + 1) xw Cf, .row 3 1 vi (0 + 1) vj AC, .row 3 1 t6 (0 + 1) t7 y3, .row 31 1 q8 (0 + 1) q9 ya, .row 31 1 p35 n37 c36 gz, .blk B10 (.cells #[.int .i64 ((ix a0 (0 : Int)).length : Int), .bool true, .slice p35 n37 c36, .slice q8 (0 + 1) q9, .slice t6 (0 + 1) t7, .slice vi (0 + 1) vj, .slice none 0 0, .slice none 0 0, .int .i64 0, .map (some B4), .slice xv (0 + 1) xw, .slice none 0 0, .slice none 0 0] 156 (0, 0)), .any (mapE (fun a : List UInt8 => Value.string (gstr a)) (fun a : Int => Value.int .i64 a) B4 (mput (([] : List (Str × Int))) r407 ((0 : Int))))]) ++ A) R7
 obtain ⟨Dc, H⟩ := H
 replace uw := uw.ch nY.ch
 have zz := oapp Try.underlying31 ti3 rfl 0 hO rfl N2 uw N1 Dc (by decide)
 obtain ⟨Wk, z6, z7, EJ, gD, xi, JP⟩ := zz
 dsimp only [sS, sZ] at gD xi
 refine zg (JP (by exact rfl) (by exact rfl)) ?_
 replace hO := gD.own
 refine zo (J01 rfl) (zo (J00 Try.underlying156 rfl ti31 rfl (by decide)) ?_)
 have zz := J0e (v := .slice z6 (0 + 1) z7) (i := 11) (cs' := #[.int .i64 ((ix a0 (0 : Int)).length : Int), .bool true, .slice p35 n37 c36, .slice q8 (0 + 1) q9, .slice t6 (0 + 1) t7, .slice vi (0 + 1) vj, .slice none 0 0, .slice none 0 0, .int .i64 0, .map (some B4), .slice xv (0 + 1) xw, .slice z6 (0 + 1) z7, .slice none 0 0]) 6 hO rfl rfl rfl rfl
 obtain ⟨JQ, ms, JR⟩ := zz
 dsimp only [sS, sZ] at ms
 refine zg (JR Try.underlying31 rfl ti31 (by exact rfl) (by exact rfl)) ?_
 replace hO := ms.own
 refine zn (zq ?_)
 refine Go1.cut [(13, .int .i64 0)] ⟨rfl, trivial⟩ ?_
 intro σ _
 refine zr (zm rfl (za rfl (zn ?_)))
 refine Go1.ret1V Try.func155 rfl (show _ = .int .i64 0 from rfl) ?_
 refine hR403 _ _ ?_
 refine za rfl (zn (zq (zq (zr (zm rfl ?_)))))
 refine zo (J01 rfl) (zo (J00 Try.underlying156 rfl ti123 rfl (by decide)) (zo (J00 Try.underlying123 rfl ti23 rfl (by decide)) (zs (oblk (i := 2) 6 hO rfl rfl Try.underlying23 rfl rfl) ?_)))
 have Z27 := (((((((((((((((((((((((((((AB.ch.trans yE.ch).trans yF.ch).trans fB.ch).trans yG.ch).trans EI).trans iL.ch).trans xH.ch).trans wM.ch).trans wN.ch).trans yY).trans vS.ch).trans uY.ch).trans ui.ch).trans iW.ch).trans xg).trans uj.ch).trans tC.ch).trans rW.ch).trans f7.ch).trans vz).trans rX.ch).trans pT.ch).trans nX.ch).trans pU.ch).trans uv).trans nY.ch).trans gD.ch).trans ms.ch
 replace au := au.ch Z27
 refine zo (J0y Try.underlying23 rfl (au.neq hO 5 rfl)) (zm rfl (zn (zb ?_)))
 have na := Stp.nil (e := 185) (r := 2) hO
 replace hO := na.own
 have EK := Els.nil (rpRule) (bl (.row 185 2 none 0 0 [] :: [.row 3 1 z6 (0 + 1) z7 EJ, .row 9 1 xv (0 + 1) xw Cf, .row 3 1 vi (0 + 1) vj AC, .row 3 1 t6 (0 + 1) t7 y3, .row 31 1 q8 (0 + 1) q9 ya, .row 31 1 p35 n37 c36 gz, .blk B10 (.cells #[.int .i64 ((ix a0 (0 : Int)).length : Int), .bool true, .slice p35 n37 c36, .slice q8 (0 + 1) q9, .slice t6 (0 + 1) t7, .slice vi (0 + 1) vj, .slice none 0 0, .slice none 0 0, .int .i64 0, .map (some B4), .slice xv (0 + 1) xw, .slice z6 (0 + 1) z7, .slice none 0 0] 156 (0, 0)), .any (mapE (fun a : List UInt8 => Value.string (gstr a)) (fun a : Int => Value.int .i64 a) B4 (mput (([] : List (Str × Int))) r407 ((0 : Int))))]) ++ A) JQ
 have gr := Stp.nil (e := 3) (r := 1) hO
 replace hO := gr.own
 have N3 := Els.nil (Rp.int .i64) (bl (.row 3 1 none 0 0 [] :: [.row 185 2 none 0 0 [], .row 3 1 z6 (0 + 1) z7 EJ, .row 9 1 xv (0 + 1) xw Cf, .row 3 1 vi (0 + 1) vj AC, .row 3 1 t6 (0 + 1) t7 y3, .row 31 1 q8 (0 + 1) q9 ya, .row 31 1 p35 n37 c36 gz, .blk B10 (.cells #[.int .i64 ((ix a0 (0 : Int)).length : Int), .bool true, .slice p35 n37 c36, .slice q8 (0 + 1) q9, .slice t6 (0 + 1) t7, .slice vi (0 + 1) vj, .slice none 0 0, .slice none 0 0, .int .i64 0, .map (some B4), .slice xv (0 + 1) xw, .slice z6 (0 + 1) z7, .slice none 0 0] 156 (0, 0)), .any (mapE (fun a : List UInt8 => Value.string (gstr a)) (fun a : Int => Value.int .i64 a) B4 (mput (([] : List (Str × Int))) r407 ((0 : Int))))]) ++ A) JQ
 replace EK := EK.ch gr.ch
 replace au := (au.ch na.ch).ch gr.ch
 have Z28 := (ms.ch.trans na.ch).trans gr.ch
 replace xi := xi.ch Z28
 replace hB := ((((hB.trans nY.fr).trans gD.fr).trans ms.fr).trans na.fr).trans gr.fr
 have Z29 := ((((((nX.ch.trans pU.ch).trans uv).trans nY.ch).trans gD.ch).trans ms.ch).trans na.ch).trans gr.ch
 replace nG := nG.ch Z29
 have Z30 := (((((((((((rW.ch.trans f7.ch).trans vz).trans rX.ch).trans pT.ch).trans nX.ch).trans pU.ch).trans uv).trans nY.ch).trans gD.ch).trans ms.ch).trans na.ch).trans gr.ch
 replace i8 := i8.ch Z30
 have Z31 := ((((((((((((((((ui.ch.trans iW.ch).trans xg).trans uj.ch).trans tC.ch).trans rW.ch).trans f7.ch).trans vz).trans rX.ch).trans pT.ch).trans nX.ch).trans pU.ch).trans uv).trans nY.ch).trans gD.ch).trans ms.ch).trans na.ch).trans gr.ch
 replace gk := gk.ch Z31
 have Z32 := (((((((((((((((((((((wM.ch.trans wN.ch).trans yY).trans vS.ch).trans uY.ch).trans ui.ch).trans iW.ch).trans xg).trans uj.ch).trans tC.ch).trans rW.ch).trans f7.ch).trans vz).trans rX.ch).trans pT.ch).trans nX.ch).trans pU.ch).trans uv).trans nY.ch).trans gD.ch).trans ms.ch).trans na.ch).trans gr.ch
 replace fu := fu.ch Z32
 refine Go1.loopW (S := Nat × List Int × List Rule × List Int × List Str × List Int × List Int × List (List Int) × (List (Str × Int))) (fun s σ w => match s with | (k3_548, d_549, d_555, d_561, d_567, d_573, d_579, d_585, m3_591) => ∃ (i4 : Nat) (kc : Option Addr) (kd : Nat) (sY : List Value) (jh : Nat) (jP : Option Addr) (jQ : Nat) (rf : List Value) (ji : Nat) (jR : Option Addr) (jS : Nat) (rh : List Value) (jj : Nat) (ke : Option Addr) (kg : Nat) (rk : List Value) (jk : Nat) (kq : Option Addr) (kr : Nat) (ro : List Value) (jl : Nat) (kP : Option Addr) (kQ : Nat) (rp : List Value) (jm : Nat) (lB : Option Addr) (lC : Nat) (rq : List Value), agrees σ [(6, .pointer (some ⟨B10, 0, none⟩)), (9, .int .i64 0), (85, .slice p35 n37 c36), (86, .int .i64 (d_32.length : Int)), (87, .int .i64 (k3_548 : Int))] ∧ (fun Z0 => Owns w0.heap.size w Z0 A ∧ Els (Rp.int .i64) (bl Z0 ++ A) w sY d_549 ∧ Els (rpRule) (bl Z0 ++ A) w rf d_555 ∧ Els (Rp.int .i64) (bl Z0 ++ A) w rh d_561 ∧ Els (Rp.str) (bl Z0 ++ A) w rk d_567 ∧ Els (Rp.int .i64) (bl Z0 ++ A) w ro d_573 ∧ Els (Rp.int .i64) (bl Z0 ++ A) w rp d_579 ∧ Els (Rp.sl (Rp.int .i64)) (bl Z0 ++ A) w rq d_585 ∧ Els (Rp.sl (Rp.int .i64)) (bl Z0 ++ A) w gz d_32 ∧ Fr (bl []) w0 (bl Z0) w) [.row 3 1 kc i4 kd sY, .row 185 2 jP jh jQ rf, .row 3 1 jR ji jS rh, .row 9 1 ke jj kg rk, .row 3 1 kq jk kr ro, .row 3 1 kP jl kQ rp, .row 31 1 lB jm lC rq, .row 31 1 p35 n37 c36 gz, .blk B10 (.cells #[.int .i64 ((ix a0 (0 : Int)).length : Int), .bool true, .slice p35 n37 c36, .slice lB jm lC, .slice kP jl kQ, .slice kq jk kr, .slice none 0 0, .slice jP jh jQ, .int .i64 0, .map (some B4), .slice ke jj kg, .slice jR ji jS, .slice kc i4 kd] 156 (0, 0)), .any (mapE (fun a : List UInt8 => Value.string (gstr a)) (fun a : Int => Value.int .i64 a) B4 m3_591)]) H ⟨0, none, 0, [], 0, none, 0, [], 0 + 1, z6, z7, EJ, 0 + 1, xv, xw, Cf, 0 + 1, vi, vj, AC, 0 + 1, t6, t7, y3, 0 + 1, q8, q9, ya, ⟨rfl, rfl, rfl, rfl, rfl, trivial⟩, hO, N3, EK, xi, nG, i8, gk, fu, au, hB⟩ ?_
 intro X3
 refine prE fun k3_548 => prE fun d_549 => prE fun d_555 => prE fun d_561 => prE fun d_567 => prE fun d_573 => prE fun d_579 => prE fun d_585 => fun m3_591 => ?_
 intro H hX3 σ R8
 refine exE fun i4 => exE fun kc => exE fun kd => exE fun sY => exE fun jh => exE fun jP => exE fun jQ => exE fun rf => exE fun ji => exE fun jR => exE fun jS => exE fun rh => exE fun jj => exE fun ke => exE fun kg => exE fun rk => exE fun jk => exE fun kq => exE fun kr => exE fun ro => exE fun jl => exE fun kP => exE fun kQ => exE fun rp => exE fun jm => exE fun lB => exE fun lC => exE fun rq => andE fun hag => andE fun hO => andE fun cy => andE fun cG => andE fun cH => andE fun cL => andE fun dr => andE fun dP => andE fun d9 => andE fun au => fun hB => ?_
 dsimp only at H
 refine Go1.keep [(6, .pointer (some ⟨B10, 0, none⟩)), (9, .int .i64 0), (85, .slice p35 n37 c36), (86, .int .i64 (d_32.length : Int)), (87, .int .i64 (k3_548 : Int))] hag ?_
 refine zq (zr ?_)
 by_cases Br : (k3_548 : Int) < (d_32.length : Int)
 ·replace H := ifp Br H
  refine zo (fun w => opB (J08 rfl rfl w) (decide_eq_true Br)) (zn (zq (zt rfl rfl (zk (zq ?_)))))
  refine zb (zq (zr (zm rfl ?_)))
  obtain ⟨Gj, H⟩ := H
  obtain ⟨Gk, H⟩ := H
  refine zo (J02 Try.underlying23 ti31 rfl rfl Gj (ltn (au.neq hO 7 rfl) Gk) (au.psome hO 7 rfl Gj Gk)) ?_
  have zz := oldSl 7 hO rfl au Gj Gk
  obtain ⟨JS, JT, dm, N4⟩ := zz
  refine zs (N4 Try.underlying31 rfl rfl) (za rfl (za rfl (zn (zq (zr ?_)))))
  refine zm rfl ?_
  obtain ⟨Gl, H⟩ := H
  refine zo (J0c rfl rfl (wrap_i64 Gl)) (zo (op_conv Try.underlying3 Try.underlying21 rfl rfl) ?_)
  obtain ⟨R9, H⟩ := H
  obtain ⟨Dd, H⟩ := H
  refine zo (op_convRS Try.underlying21 Try.underlying9 rfl R9 Dd) (za rfl (zn (zq ?_)))
  refine Go1.drawS 0 [(0, .pure), (1, .pure), (2, .pure), (3, .stable), (4, .pure), (5, .loud), (6, .stable), (7, .pure), (8, .pure), (9, .pure), (10, .pure), (11, .pure)] mixed (by kernel_rfl) ?_
  intro Wl N5
  have ig := Stp.same hO N5
  replace hO := ig.own
  refine GoQ.pure rfl (J03 rfl) rfl rfl ?_
  refine GoQ.pure rfl (J01 rfl) rfl rfl ?_
  refine GoQ.pure rfl (J00 Try.underlying156 rfl ti154 rfl (by decide)) rfl rfl ?_
  refine GoQ.stable rfl (oblk (i := 9) 8 hO rfl rfl Try.underlying154 rfl rfl) rfl rfl ?_
  refine GoQ.pure rfl (J03 rfl) rfl rfl ?_
  replace dm := dm.ch ig.ch
  refine GoQ.call rfl (J0a body157 rfl (J0n hO.lt dm H)) (fun v w hr => by obtain ⟨_, _, hs, _, _⟩ := hr; assumption) rfl rfl ?_
  rintro Wm Wn ⟨r605, rfl, N6, TC, H⟩
  have tD := Stp.same hO N6
  replace hO := tD.own
  by_cases xx : mhas m3_591 r605 = true
  ·replace H := ifp xx H
   refine GoQ.stable rfl (olookT (a := r605) (MK.str Try.underlying9) 9 hO rfl Try.underlying154 rfl rfl xx) rfl rfl ?_
   refine GoQ.pure rfl (J03 rfl) rfl rfl ?_
   refine GoQ.pure rfl (J07 rfl rfl) rfl rfl ?_
   refine GoQ.pure rfl (J07 rfl rfl) rfl rfl ?_
   refine GoQ.pure rfl (J0i rfl) rfl rfl ?_
   refine GoQ.pure rfl (J0i rfl) rfl rfl ?_
   refine GoQ.nil ?_
   refine zq (zq ?_)
   refine Go1.cut [(6, .pointer (some ⟨B10, 0, none⟩)), (9, .int .i64 0), (10, .int .i64 (k3_548 : Int)), (11, .slice JS ((ix d_32 (k3_548 : Int)).length) JT), (12, .string (gstr (chr (IntKind.i32.wrap ((97 : Int) + (k3_548 : Int)))))), (13, .int .i64 (mgt m3_591 r605)), (14, .bool true), (85, .slice p35 n37 c36), (86, .int .i64 (d_32.length : Int)), (87, .int .i64 (k3_548 : Int))] ⟨rfl, rfl, rfl, rfl, rfl, rfl, rfl, rfl, rfl, rfl, trivial⟩ ?_
   intro σ _
   refine zr (zm rfl (zn (zt rfl rfl ?_)))
   refine Go1.drawS 5 [(0, .pure), (1, .pure), (2, .pure), (3, .pure), (4, .pure), (5, .stable), (6, .pure), (7, .pure), (8, .pure), (9, .pure), (10, .stable), (11, .pure), (12, .pure), (13, .stable), (14, .pure), (15, .loud), (16, .last), (17, .pure), (18, .pure), (19, .pure), (20, .last)] mixed (by kernel_rfl) ?_
   intro Wo N7
   have tE := Stp.same hO N7
   replace hO := tE.own
   refine GoQ.pure rfl (J03 rfl) rfl rfl ?_
   refine GoQ.pure rfl (J03 rfl) rfl rfl ?_
   refine GoQ.pure rfl (J01 rfl) rfl rfl ?_
   refine GoQ.pure rfl (J00 Try.underlying156 rfl ti123 rfl (by decide)) rfl rfl ?_
   refine GoQ.pure rfl (J00 Try.underlying123 rfl ti121 rfl (by decide)) rfl rfl ?_
   refine GoQ.stable rfl (oblk (i := 7) 8 hO rfl rfl Try.underlying121 rfl rfl) rfl rfl ?_
   refine GoQ.pure rfl (J03 rfl) rfl rfl ?_
   refine GoQ.pure rfl (J03 rfl) rfl rfl ?_
   refine GoQ.pure rfl (J01 rfl) rfl rfl ?_
   refine GoQ.pure rfl (J00 Try.underlying156 rfl ti30 rfl (by decide)) rfl rfl ?_
   refine GoQ.stable rfl (oblk (i := 10) 8 hO rfl rfl Try.underlying30 rfl rfl) rfl rfl ?_
   refine GoQ.pure rfl (J03 rfl) rfl rfl ?_
   obtain ⟨EL, H⟩ := H
   obtain ⟨EM, H⟩ := H
   have Z33 := (ig.ch.trans tD.ch).trans tE.ch
   replace cL := cL.ch Z33
   refine GoQ.pure rfl (J02 Try.underlying30 ti9 rfl rfl EL (ltn (cL.neq hO 3 rfl) EM) (cL.psome hO 3 rfl EL EM)) rfl rfl ?_
   refine GoQ.stable rfl (oldStr 3 hO rfl cL EL EM Try.underlying9 rfl rfl) rfl rfl ?_
   have hle617 := Els.str_le cL EL EM
   refine GoQ.pure rfl (J0q Try.underlying185 ti185 (pl := [(0, 1), (1, 1)]) (vs := [(0, .string (gstr (chr (IntKind.i32.wrap ((97 : Int) + (k3_548 : Int)))))), (1, .string (gstr (ix d_567 (mgt m3_591 r605))))]) (cs := #[.string (gstr (chr (IntKind.i32.wrap ((97 : Int) + (k3_548 : Int))))), .string (gstr (ix d_567 (mgt m3_591 r605)))]) (by kernel_rfl) rfl (by kernel_rfl)) rfl rfl ?_
   have zz := obuildN (r := rpRule) (n := 1) (parts := [(0, .agg #[.string (gstr (chr (IntKind.i32.wrap ((97 : Int) + (k3_548 : Int))))), .string (gstr (ix d_567 (mgt m3_591 r605)))])]) (vs := [.string (gstr (chr (IntKind.i32.wrap ((97 : Int) + (k3_548 : Int))))), .string (gstr (ix d_567 (mgt m3_591 r605)))]) (xs := [(⟨(chr (IntKind.i32.wrap ((97 : Int) + (k3_548 : Int)))), ix d_567 (mgt m3_591 r605)⟩ : Rule)]) Try.underlying121 ti185 hO (by decide) (by decide) (by kernel_rfl) (Els.flat1 (⟨(chr (IntKind.i32.wrap ((97 : Int) + (k3_548 : Int)))), ix d_567 (mgt m3_591 r605)⟩ : Rule) ⟨(chr_le _), hle617⟩) rfl
   obtain ⟨Sa, Wp, ir, N8, N9, JU⟩ := zz
   refine GoQ.loud rfl (JU rfl) N9 rfl rfl ?_
   replace hO := ir.own
   have zz := freeze 0 hO rfl N8
   obtain ⟨hO1, vA, ta, Oa⟩ := zz
   dsimp only [eS, eZ] at hO1 vA ta
   replace hB := ((((hB.trans ig.fr).trans tD.fr).trans tE.fr).trans ir.fr).trans (Owns.J09 _ _ 0)
   dsimp only [eS, eZ] at hB
   replace hO := hO1; clear hO1
   obtain ⟨Sb, H⟩ := H
   replace cG := ((cG.ch Z33).ch ir.ch).ch vA
   have zz := oapp Try.underlying121 ti185 rfl 1 hO rfl cG ta Oa Sb (by decide)
   obtain ⟨Wq, EO, EP, Ob, rY, ux, JV⟩ := zz
   dsimp only [sS, sZ] at rY ux
   refine GoQ.last rfl (JV (by exact rfl) (by exact rfl)) rfl rfl ?_
   replace hO := rY.own
   refine GoQ.pure rfl (J01 rfl) rfl rfl ?_
   refine GoQ.pure rfl (J00 Try.underlying156 rfl ti123 rfl (by decide)) rfl rfl ?_
   refine GoQ.pure rfl (J00 Try.underlying123 rfl ti121 rfl (by decide)) rfl rfl ?_
   have zz := J0e (v := .slice EO (jh + 1) EP) (i := 7) (cs' := #[.int .i64 ((ix a0 (0 : Int)).length : Int), .bool true, .slice p35 n37 c36, .slice lB jm lC, .slice kP jl kQ, .slice kq jk kr, .slice none 0 0, .slice EO (jh + 1) EP, .int .i64 0, .map (some B4), .slice ke jj kg, .slice jR ji jS, .slice kc i4 kd]) 8 hO rfl rfl rfl rfl
   obtain ⟨Sc, pV, JW⟩ := zz
   dsimp only [sS, sZ] at pV
   refine GoQ.last rfl (JW Try.underlying121 rfl ti121 (by exact rfl) (by exact rfl)) rfl rfl ?_
   replace hO := pV.own
   refine GoQ.nil ?_
   refine Go1.cut [(6, .pointer (some ⟨B10, 0, none⟩)), (9, .int .i64 0), (13, .int .i64 (mgt m3_591 r605)), (85, .slice p35 n37 c36), (86, .int .i64 (d_32.length : Int)), (87, .int .i64 (k3_548 : Int))] ⟨rfl, rfl, rfl, rfl, rfl, rfl, trivial⟩ ?_
   intro σ _
   refine zr (zm rfl (zm rfl (zo (J01 rfl) (zo (J00 Try.underlying156 rfl ti31 rfl (by decide)) (zs (oblk (i := 12) 8 hO rfl rfl Try.underlying31 rfl rfl) ?_)))))
   refine zm rfl ?_
   have zz := J0k (r := Rp.int .i64) (n := 1) (parts := [(0, .int .i64 (mgt m3_591 r605))]) (vs := [.int .i64 (mgt m3_591 r605)]) (xs := [(mgt m3_591 r605)]) rfl Try.underlying31 ti3 hO (by decide) (by kernel_rfl) (Els.cons rfl rfl (Els.nil _ _ _) (by simp [mx])) rfl
   obtain ⟨Wr, Ws, sa, Oc, T8, De⟩ := zz
   refine zg (De rfl) ?_
   replace hO := sa.own
   have zz := freeze 0 hO rfl Oc
   obtain ⟨hO1, u0, y4, Od⟩ := zz
   dsimp only [eS, eZ] at hO1 u0 y4
   replace hB := (((hB.trans rY.fr).trans pV.fr).trans sa.fr).trans (Owns.J09 _ _ 0)
   dsimp only [eS, eZ] at hB
   replace hO := hO1; clear hO1
   obtain ⟨Sd, H⟩ := H
   have Z34 := (((((Z33.trans ir.ch).trans vA).trans rY.ch).trans pV.ch).trans sa.ch).trans u0
   replace cy := cy.ch Z34
   have zz := oapp Try.underlying31 ti3 rfl 0 hO rfl cy y4 Od Sd (by decide)
   obtain ⟨Se, Gm, Gn, Oe, pW, Cg, JX⟩ := zz
   dsimp only [sS, sZ] at pW Cg
   refine zg (JX (by exact rfl) (by exact rfl)) ?_
   replace hO := pW.own
   refine zo (J01 rfl) (zo (J00 Try.underlying156 rfl ti31 rfl (by decide)) ?_)
   have zz := J0e (v := .slice Gm (i4 + 1) Gn) (i := 12) (cs' := #[.int .i64 ((ix a0 (0 : Int)).length : Int), .bool true, .slice p35 n37 c36, .slice lB jm lC, .slice kP jl kQ, .slice kq jk kr, .slice none 0 0, .slice EO (jh + 1) EP, .int .i64 0, .map (some B4), .slice ke jj kg, .slice jR ji jS, .slice Gm (i4 + 1) Gn]) 8 hO rfl rfl rfl rfl
   obtain ⟨Wt, n7, JY⟩ := zz
   dsimp only [sS, sZ] at n7
   refine zg (JY Try.underlying31 rfl ti31 (by exact rfl) (by exact rfl)) ?_
   replace hO := n7.own
   refine zn ?_
   refine Go1.inBlock ?_
   refine zr ?_
   replace au := ((au.ch Z34).ch pW.ch).ch n7.ch
   refine zo (J0c rfl rfl (wrap_i64 (natbd Br au.bd))) (zm rfl (zn ?_))
   replace Cg := Cg.ch n7.ch
   replace hB := (hB.trans pW.fr).trans n7.fr
   have Z35 := (((pV.ch.trans sa.ch).trans u0).trans pW.ch).trans n7.ch
   replace ux := ux.ch Z35
   have Z36 := ((((((ir.ch.trans vA).trans rY.ch).trans pV.ch).trans sa.ch).trans u0).trans pW.ch).trans n7.ch
   replace cL := cL.ch Z36
   have Z37 := (Z34.trans pW.ch).trans n7.ch
   replace cH := cH.ch Z37
   replace dr := dr.ch Z37
   replace dP := dP.ch Z37
   replace d9 := d9.ch Z37
   exact hX3 _ H _ _ ⟨i4 + 1, Gm, Gn, Oe, jh + 1, EO, EP, Ob, ji, jR, jS, rh, jj, ke, kg, rk, jk, kq, kr, ro, jl, kP, kQ, rp, jm, lB, lC, rq, ⟨rfl, rfl, rfl, rfl, rfl, trivial⟩, hO, Cg, ux, cH, cL, dr, dP, d9, au, hB⟩
  replace H := ifn xx H
  refine GoQ.stable rfl (olookF (a := r605) (MK.str Try.underlying9) 9 hO rfl Try.underlying154 ti3 rfl rfl xx) rfl rfl ?_
  refine GoQ.pure rfl (J03 rfl) rfl rfl ?_
  refine GoQ.pure rfl (J07 rfl rfl) rfl rfl ?_
  refine GoQ.pure rfl (J07 rfl rfl) rfl rfl ?_
  refine GoQ.pure rfl (J0i rfl) rfl rfl ?_
  refine GoQ.pure rfl (J0i rfl) rfl rfl ?_
  refine GoQ.nil ?_
  refine zq (zq (zr (zm rfl (zn (zf rfl rfl ?_)))))
  refine Go1.cut [(6, .pointer (some ⟨B10, 0, none⟩)), (9, .int .i64 0), (10, .int .i64 (k3_548 : Int)), (11, .slice JS ((ix d_32 (k3_548 : Int)).length) JT), (12, .string (gstr (chr (IntKind.i32.wrap ((97 : Int) + (k3_548 : Int)))))), (85, .slice p35 n37 c36), (86, .int .i64 (d_32.length : Int)), (87, .int .i64 (k3_548 : Int))] ⟨rfl, rfl, rfl, rfl, rfl, rfl, rfl, rfl, trivial⟩ ?_
  intro σ _
  refine zr (zm rfl (zm rfl ?_))
  replace dm := dm.ch tD.ch
  refine GoR.call (J0a body86 rfl (J0I hO.lt dm H)) rfl rfl ?_
  rintro Wu Wv ⟨r662, yH, vT, vU, TD, rfl, Og, hN666, vB, H⟩
  have sb := Stp.more hO Og hN666
  dsimp only [List.cons_append, List.nil_append] at sb
  replace hO := sb.own
  refine zm rfl (zm rfl (zm rfl (zm rfl ?_)))
  refine GoR.inl (vs := [.pointer (some ⟨B10, 0, none⟩), .slice vT yH vU, .int .i64 0, .int .i64 (k3_548 : Int), .string (gstr (chr (IntKind.i32.wrap ((97 : Int) + (k3_548 : Int))))), .int .i64 0]) (caps := []) rfl rfl body155 Try.func155 rfl Try.ntmps155 rfl rfl rfl ?_
  intro RhR670 hR670
  refine zq (zr (za rfl (zn (zq (zr ?_)))))
  refine zm rfl (zo (J01 rfl) (zo (J00 Try.underlying156 rfl ti123 rfl (by decide)) (zo (J00 Try.underlying123 rfl ti23 rfl (by decide)) (zs (oblk (i := 3) 9 hO rfl rfl Try.underlying23 rfl rfl) ?_))))
  have Z38 := (ig.ch.trans tD.ch).trans sb.ch
  replace d9 := d9.ch Z38
  refine zo (J0y Try.underlying23 rfl (d9.neq hO 7 rfl)) (za rfl (zn (zq ?_)))
  refine Go1.drawS 1 [(0, .pure), (1, .pure), (2, .pure), (3, .stable), (4, .pure), (6, .pure), (5, .loud), (7, .last)] mixed (by kernel_rfl) ?_
  intro Ww Oh
  have sc := Stp.same hO Oh
  replace hO := sc.own
  refine GoQ.pure rfl (J03 rfl) rfl rfl ?_
  refine GoQ.pure rfl (J01 rfl) rfl rfl ?_
  refine GoQ.pure rfl (J00 Try.underlying156 rfl ti154 rfl (by decide)) rfl rfl ?_
  refine GoQ.stable rfl (oblk (i := 9) 9 hO rfl rfl Try.underlying154 rfl rfl) rfl rfl ?_
  refine GoQ.pure rfl (J03 rfl) rfl rfl ?_
  refine GoQ.pure rfl (J03 rfl) rfl rfl ?_
  replace vB := vB.ch (Ch.assoc _ _ _ _)
  replace vB := vB.ch sc.ch
  have zz := rowlend 0 hO rfl vB
  obtain ⟨Oi, Oj⟩ := zz
  have hOc676 := hO.drop 0
  refine GoQ.call rfl (J0a body157 (show ([.slice vT yH vU] : List Value) = [.slice vT r662.length vU] from by rw [← Oj]) (J0n hOc676.lt Oi H)) (fun v w hr => by obtain ⟨_, _, hs, _, _⟩ := hr; assumption) rfl rfl ?_
  rintro Wx Wy ⟨r677, rfl, Ok, TE, H⟩
  have sd := Stp.same hO Ok
  replace hO := sd.own
  have zz := omapUpd (MK.str Try.underlying9) 10 hO rfl Try.underlying154 r677 (d_585.length : Int)
  obtain ⟨Wz, pX, J0⟩ := zz
  dsimp only [sS, sZ] at pX
  refine GoQ.last rfl (J0 (by exact rfl) (by exact rfl) (by exact rfl)) rfl rfl ?_
  replace hO := pX.own
  refine GoQ.nil ?_
  refine zq ?_
  refine Go1.cut [(0, .pointer (some ⟨B10, 0, none⟩)), (1, .slice vT yH vU), (2, .int .i64 0), (3, .int .i64 (k3_548 : Int)), (4, .string (gstr (chr (IntKind.i32.wrap ((97 : Int) + (k3_548 : Int)))))), (5, .int .i64 0), (13, .int .i64 (d_585.length : Int))] ⟨rfl, rfl, rfl, rfl, rfl, rfl, rfl, trivial⟩ ?_
  intro σ _
  refine zr (zm rfl (zm rfl (zo (J01 rfl) (zo (J00 Try.underlying156 rfl ti123 rfl (by decide)) (zo (J00 Try.underlying123 rfl ti23 rfl (by decide)) ?_)))))
  refine zs (oblk (i := 3) 9 hO rfl rfl Try.underlying23 rfl rfl) (zm rfl ?_)
  replace vB := (vB.ch sd.ch).ch pX.ch
  have zz := freeze 0 hO rfl vB
  obtain ⟨hO1, vC, ff, Ol⟩ := zz
  dsimp only [eS, eZ] at hO1 vC ff
  replace hB := ((((((hB.trans ig.fr).trans tD.fr).trans sb.fr).trans sc.fr).trans sd.fr).trans pX.fr).trans (Owns.J09 _ _ 0)
  dsimp only [eS, eZ] at hB
  replace hO := hO1; clear hO1
  have zz := J0k (r := Rp.sl (Rp.int .i64)) (n := 1) (parts := [(0, .slice vT yH vU)]) (vs := [.slice vT yH vU]) (xs := [r662]) rfl Try.underlying23 ti31 hO (by decide) (by kernel_rfl) (Els.cons rfl ⟨vT, vU, congrArg some (congrArg (fun nn => Value.slice vT nn vU) Ol), ff⟩ (Els.nil _ _ _) (by simp [mx])) rfl
  obtain ⟨WA, WB, se, Om, T9, J1⟩ := zz
  refine zg (J1 rfl) ?_
  replace hO := se.own
  have zz := freeze 0 hO rfl Om
  obtain ⟨hO1, u4, fA, Oo⟩ := zz
  dsimp only [eS, eZ] at hO1 u4 fA
  replace hB := (hB.trans se.fr).trans (Owns.J09 _ _ 0)
  dsimp only [eS, eZ] at hB
  replace hO := hO1; clear hO1
  obtain ⟨Sf, H⟩ := H
  have Z39 := ((((sc.ch.trans sd.ch).trans pX.ch).trans vC).trans se.ch).trans u4
  replace d9 := d9.ch Z39
  have zz := oapp Try.underlying23 ti31 rfl 6 hO rfl d9 fA Oo Sf (by decide)
  obtain ⟨WC, yI, yJ, Oq, pY, fH, J2⟩ := zz
  dsimp only [sS, sZ] at pY fH
  refine zg (J2 (by exact rfl) (by exact rfl)) ?_
  replace hO := pY.own
  refine zo (J01 rfl) (zo (J00 Try.underlying156 rfl ti123 rfl (by decide)) (zo (J00 Try.underlying123 rfl ti23 rfl (by decide)) ?_))
  have zz := J0e (v := .slice yI (jm + 1) yJ) (i := 3) (cs' := #[.int .i64 ((ix a0 (0 : Int)).length : Int), .bool true, .slice p35 n37 c36, .slice yI (jm + 1) yJ, .slice kP jl kQ, .slice kq jk kr, .slice none 0 0, .slice jP jh jQ, .int .i64 0, .map (some B4), .slice ke jj kg, .slice jR ji jS, .slice kc i4 kd]) 8 hO rfl rfl rfl rfl
  obtain ⟨WD, n8, J3⟩ := zz
  dsimp only [sS, sZ] at n8
  refine zg (J3 Try.underlying23 rfl ti23 (by exact rfl) (by exact rfl)) ?_
  replace hO := n8.own
  refine zn (zq (zr (zm rfl (zm rfl (zo (J01 rfl) ?_)))))
  refine zo (J00 Try.underlying156 rfl ti123 rfl (by decide)) (zo (J00 Try.underlying123 rfl ti31 rfl (by decide)) (zs (oblk (i := 4) 8 hO rfl rfl Try.underlying31 rfl rfl) (zm rfl ?_)))
  have zz := J0k (r := Rp.int .i64) (n := 1) (parts := [(0, .int .i64 0)]) (vs := [.int .i64 0]) (xs := [(0 : Int)]) rfl Try.underlying31 ti3 hO (by decide) (by kernel_rfl) (Els.cons rfl rfl (Els.nil _ _ _) (by simp [mx])) rfl
  obtain ⟨WE, WF, p6, Os, Ua, J4⟩ := zz
  refine zg (J4 rfl) ?_
  replace hO := p6.own
  have zz := freeze 0 hO rfl Os
  obtain ⟨hO1, uy, gm, Ot⟩ := zz
  dsimp only [eS, eZ] at hO1 uy gm
  replace hB := (((hB.trans pY.fr).trans n8.fr).trans p6.fr).trans (Owns.J09 _ _ 0)
  dsimp only [eS, eZ] at hB
  replace hO := hO1; clear hO1
  obtain ⟨Sh, H⟩ := H
  have Z40 := (((((((((Z38.trans sc.ch).trans sd.ch).trans pX.ch).trans vC).trans se.ch).trans u4).trans pY.ch).trans n8.ch).trans p6.ch).trans uy
  replace dP := dP.ch Z40
  have zz := oapp Try.underlying31 ti3 rfl 5 hO rfl dP gm Ot Sh (by decide)
  obtain ⟨WG, z8, z9, Ou, n9, gF, J5⟩ := zz
  dsimp only [sS, sZ] at n9 gF
  refine zg (J5 (by exact rfl) (by exact rfl)) ?_
  replace hO := n9.own
  refine zo (J01 rfl) (zo (J00 Try.underlying156 rfl ti123 rfl (by decide)) (zo (J00 Try.underlying123 rfl ti31 rfl (by decide)) ?_))
  have zz := J0e (v := .slice z8 (jl + 1) z9) (i := 4) (cs' := #[.int .i64 ((ix a0 (0 : Int)).length : Int), .bool true, .slice p35 n37 c36, .slice yI (jm + 1) yJ, .slice z8 (jl + 1) z9, .slice kq jk kr, .slice none 0 0, .slice jP jh jQ, .int .i64 0, .map (some B4), .slice ke jj kg, .slice jR ji jS, .slice kc i4 kd]) 8 hO rfl rfl rfl rfl
  obtain ⟨WH, nb, J6⟩ := zz
  dsimp only [sS, sZ] at nb
  refine zg (J6 Try.underlying31 rfl ti31 (by exact rfl) (by exact rfl)) ?_
  replace hO := nb.own
  refine zn (zq ?_)
  refine Go1.cut [(0, .pointer (some ⟨B10, 0, none⟩)), (3, .int .i64 (k3_548 : Int)), (4, .string (gstr (chr (IntKind.i32.wrap ((97 : Int) + (k3_548 : Int)))))), (5, .int .i64 0), (13, .int .i64 (d_585.length : Int))] ⟨rfl, rfl, rfl, rfl, rfl, trivial⟩ ?_
  intro σ _
  refine zr (zm rfl (zm rfl (zo (J01 rfl) (zo (J00 Try.underlying156 rfl ti123 rfl (by decide)) (zo (J00 Try.underlying123 rfl ti31 rfl (by decide)) ?_)))))
  refine zs (oblk (i := 5) 8 hO rfl rfl Try.underlying31 rfl rfl) (zm rfl ?_)
  have zz := J0k (r := Rp.int .i64) (n := 1) (parts := [(0, .int .i64 (k3_548 : Int))]) (vs := [.int .i64 (k3_548 : Int)]) (xs := [(k3_548 : Int)]) rfl Try.underlying31 ti3 hO (by decide) (by kernel_rfl) (Els.cons rfl rfl (Els.nil _ _ _) (by simp [mx])) rfl
  obtain ⟨WI, WJ, oa, Ov, Ub, J7⟩ := zz
  refine zg (J7 rfl) ?_
  replace hO := oa.own
  have zz := freeze 0 hO rfl Ov
  obtain ⟨hO1, tP, iP, Ow⟩ := zz
  dsimp only [eS, eZ] at hO1 tP iP
  replace hB := (((hB.trans n9.fr).trans nb.fr).trans oa.fr).trans (Owns.J09 _ _ 0)
  dsimp only [eS, eZ] at hB
  replace hO := hO1; clear hO1
  obtain ⟨Si, H⟩ := H
  have Z41 := (((Z40.trans n9.ch).trans nb.ch).trans oa.ch).trans tP
  replace dr := dr.ch Z41
  have zz := oapp Try.underlying31 ti3 rfl 4 hO rfl dr iP Ow Si (by decide)
  obtain ⟨WK, Bs, Bt, Ox, nc, i9, J8⟩ := zz
  dsimp only [sS, sZ] at nc i9
  refine zg (J8 (by exact rfl) (by exact rfl)) ?_
  replace hO := nc.own
  refine zo (J01 rfl) (zo (J00 Try.underlying156 rfl ti123 rfl (by decide)) (zo (J00 Try.underlying123 rfl ti31 rfl (by decide)) ?_))
  have zz := J0e (v := .slice Bs (jk + 1) Bt) (i := 5) (cs' := #[.int .i64 ((ix a0 (0 : Int)).length : Int), .bool true, .slice p35 n37 c36, .slice yI (jm + 1) yJ, .slice z8 (jl + 1) z9, .slice Bs (jk + 1) Bt, .slice none 0 0, .slice jP jh jQ, .int .i64 0, .map (some B4), .slice ke jj kg, .slice jR ji jS, .slice kc i4 kd]) 8 hO rfl rfl rfl rfl
  obtain ⟨WL, mt, J9⟩ := zz
  dsimp only [sS, sZ] at mt
  refine zg (J9 Try.underlying31 rfl ti31 (by exact rfl) (by exact rfl)) ?_
  replace hO := mt.own
  refine zn (zq (zr (zm rfl (zm rfl (zo (J01 rfl) ?_)))))
  refine zo (J00 Try.underlying156 rfl ti30 rfl (by decide)) (zs (oblk (i := 10) 8 hO rfl rfl Try.underlying30 rfl rfl) (zm rfl ?_))
  have zz := J0k (r := Rp.str) (n := 1) (parts := [(0, .string (gstr (chr (IntKind.i32.wrap ((97 : Int) + (k3_548 : Int))))))]) (vs := [.string (gstr (chr (IntKind.i32.wrap ((97 : Int) + (k3_548 : Int)))))]) (xs := [chr (IntKind.i32.wrap ((97 : Int) + (k3_548 : Int)))]) rfl Try.underlying30 ti9 hO (by decide) (by kernel_rfl) (Els.cons rfl ⟨rfl, (chr_le _)⟩ (Els.nil _ _ _) (by simp [mx])) rfl
  obtain ⟨WM, WN, ne, Oy, Uc, Ka⟩ := zz
  refine zg (Ka rfl) ?_
  replace hO := ne.own
  have zz := freeze 0 hO rfl Oy
  obtain ⟨hO1, tc, kU, Oz⟩ := zz
  dsimp only [eS, eZ] at hO1 tc kU
  replace hB := (((hB.trans nc.fr).trans mt.fr).trans ne.fr).trans (Owns.J09 _ _ 0)
  dsimp only [eS, eZ] at hB
  replace hO := hO1; clear hO1
  obtain ⟨Sj, H⟩ := H
  have Z42 := (((Z41.trans nc.ch).trans mt.ch).trans ne.ch).trans tc
  replace cL := cL.ch Z42
  have zz := oapp Try.underlying30 ti9 rfl 3 hO rfl cL kU Oz Sj (by decide)
  obtain ⟨WO, Df, Dg, OA, mv, mj, Kb⟩ := zz
  dsimp only [sS, sZ] at mv mj
  refine zg (Kb (by exact rfl) (by exact rfl)) ?_
  replace hO := mv.own
  refine zo (J01 rfl) (zo (J00 Try.underlying156 rfl ti30 rfl (by decide)) ?_)
  have zz := J0e (v := .slice Df (jj + 1) Dg) (i := 10) (cs' := #[.int .i64 ((ix a0 (0 : Int)).length : Int), .bool true, .slice p35 n37 c36, .slice yI (jm + 1) yJ, .slice z8 (jl + 1) z9, .slice Bs (jk + 1) Bt, .slice none 0 0, .slice jP jh jQ, .int .i64 0, .map (some B4), .slice Df (jj + 1) Dg, .slice jR ji jS, .slice kc i4 kd]) 8 hO rfl rfl rfl rfl
  obtain ⟨WP, lM, Kc⟩ := zz
  dsimp only [sS, sZ] at lM
  refine zg (Kc Try.underlying30 rfl ti30 (by exact rfl) (by exact rfl)) ?_
  replace hO := lM.own
  refine zn (zq ?_)
  refine Go1.cut [(0, .pointer (some ⟨B10, 0, none⟩)), (5, .int .i64 0), (13, .int .i64 (d_585.length : Int))] ⟨rfl, rfl, rfl, trivial⟩ ?_
  intro σ _
  refine zr (zm rfl (zm rfl (zo (J01 rfl) (zo (J00 Try.underlying156 rfl ti31 rfl (by decide)) (zs (oblk (i := 11) 8 hO rfl rfl Try.underlying31 rfl rfl) ?_)))))
  refine zm rfl ?_
  have zz := J0k (r := Rp.int .i64) (n := 1) (parts := [(0, .int .i64 0)]) (vs := [.int .i64 0]) (xs := [(0 : Int)]) rfl Try.underlying31 ti3 hO (by decide) (by kernel_rfl) (Els.cons rfl rfl (Els.nil _ _ _) (by simp [mx])) rfl
  obtain ⟨WQ, WR, mw, OB, Ud, Kd⟩ := zz
  refine zg (Kd rfl) ?_
  replace hO := mw.own
  have zz := freeze 0 hO rfl OB
  obtain ⟨hO1, rs, te, OC⟩ := zz
  dsimp only [eS, eZ] at hO1 rs te
  replace hB := (((hB.trans mv.fr).trans lM.fr).trans mw.fr).trans (Owns.J09 _ _ 0)
  dsimp only [eS, eZ] at hB
  replace hO := hO1; clear hO1
  obtain ⟨Sk, H⟩ := H
  have Z43 := (((Z42.trans mv.ch).trans lM.ch).trans mw.ch).trans rs
  replace cH := cH.ch Z43
  have zz := oapp Try.underlying31 ti3 rfl 2 hO rfl cH te OC Sk (by decide)
  obtain ⟨WS, EQ, ER, OD, lN, uz, Ke⟩ := zz
  dsimp only [sS, sZ] at lN uz
  refine zg (Ke (by exact rfl) (by exact rfl)) ?_
  replace hO := lN.own
  refine zo (J01 rfl) (zo (J00 Try.underlying156 rfl ti31 rfl (by decide)) ?_)
  have zz := J0e (v := .slice EQ (ji + 1) ER) (i := 11) (cs' := #[.int .i64 ((ix a0 (0 : Int)).length : Int), .bool true, .slice p35 n37 c36, .slice yI (jm + 1) yJ, .slice z8 (jl + 1) z9, .slice Bs (jk + 1) Bt, .slice none 0 0, .slice jP jh jQ, .int .i64 0, .map (some B4), .slice Df (jj + 1) Dg, .slice EQ (ji + 1) ER, .slice kc i4 kd]) 8 hO rfl rfl rfl rfl
  obtain ⟨WT, k9, Kf⟩ := zz
  dsimp only [sS, sZ] at k9
  refine zg (Kf Try.underlying31 rfl ti31 (by exact rfl) (by exact rfl)) ?_
  replace hO := k9.own
  refine zn (zq (zr (zm rfl (za rfl (zn ?_)))))
  refine Go1.ret1V Try.func155 rfl (show _ = .int .i64 (d_585.length : Int) from rfl) ?_
  refine hR670 _ _ ?_
  refine za rfl (zn (zr (zm rfl (zm rfl (zo (J01 rfl) ?_)))))
  refine zo (J00 Try.underlying156 rfl ti31 rfl (by decide)) (zs (oblk (i := 12) 8 hO rfl rfl Try.underlying31 rfl rfl) (zm rfl ?_))
  have zz := J0k (r := Rp.int .i64) (n := 1) (parts := [(0, .int .i64 (d_585.length : Int))]) (vs := [.int .i64 (d_585.length : Int)]) (xs := [(d_585.length : Int)]) rfl Try.underlying31 ti3 hO (by decide) (by kernel_rfl) (Els.cons rfl rfl (Els.nil _ _ _) (by simp [mx])) rfl
  obtain ⟨WU, WW, lO, OE, Ue, Kg⟩ := zz
  refine zg (Kg rfl) ?_
  replace hO := lO.own
  have zz := freeze 0 hO rfl OE
  obtain ⟨hO1, pv, y5, OF⟩ := zz
  dsimp only [eS, eZ] at hO1 pv y5
  replace hB := (((hB.trans lN.fr).trans k9.fr).trans lO.fr).trans (Owns.J09 _ _ 0)
  dsimp only [eS, eZ] at hB
  replace hO := hO1; clear hO1
  obtain ⟨Sl, H⟩ := H
  have Z44 := (((Z43.trans lN.ch).trans k9.ch).trans lO.ch).trans pv
  replace cy := cy.ch Z44
  have zz := oapp Try.underlying31 ti3 rfl 0 hO rfl cy y5 OF Sl (by decide)
  obtain ⟨WX, Gp, Gq, OG, ld, Ci, Kh⟩ := zz
  dsimp only [sS, sZ] at ld Ci
  refine zg (Kh (by exact rfl) (by exact rfl)) ?_
  replace hO := ld.own
  refine zo (J01 rfl) (zo (J00 Try.underlying156 rfl ti31 rfl (by decide)) ?_)
  have zz := J0e (v := .slice Gp (i4 + 1) Gq) (i := 12) (cs' := #[.int .i64 ((ix a0 (0 : Int)).length : Int), .bool true, .slice p35 n37 c36, .slice yI (jm + 1) yJ, .slice z8 (jl + 1) z9, .slice Bs (jk + 1) Bt, .slice none 0 0, .slice jP jh jQ, .int .i64 0, .map (some B4), .slice Df (jj + 1) Dg, .slice EQ (ji + 1) ER, .slice Gp (i4 + 1) Gq]) 8 hO rfl rfl rfl rfl
  obtain ⟨WY, ks, Ki⟩ := zz
  dsimp only [sS, sZ] at ks
  refine zg (Ki Try.underlying31 rfl ti31 (by exact rfl) (by exact rfl)) ?_
  replace hO := ks.own
  refine zn ?_
  refine Go1.inBlock ?_
  refine Go1.cut [(6, .pointer (some ⟨B10, 0, none⟩)), (9, .int .i64 0), (85, .slice p35 n37 c36), (86, .int .i64 (d_32.length : Int)), (87, .int .i64 (k3_548 : Int))] ⟨rfl, rfl, rfl, rfl, rfl, trivial⟩ ?_
  intro σ _
  refine zr ?_
  replace au := ((au.ch Z44).ch ld.ch).ch ks.ch
  refine zo (J0c rfl rfl (wrap_i64 (natbd Br au.bd))) (zm rfl (zn ?_))
  replace Ci := Ci.ch ks.ch
  replace hB := (hB.trans ld.fr).trans ks.fr
  have Z45 := (((k9.ch.trans lO.ch).trans pv).trans ld.ch).trans ks.ch
  replace uz := uz.ch Z45
  have Z46 := (((((((lM.ch.trans mw.ch).trans rs).trans lN.ch).trans k9.ch).trans lO.ch).trans pv).trans ld.ch).trans ks.ch
  replace mj := mj.ch Z46
  have Z47 := (((((((((((mt.ch.trans ne.ch).trans tc).trans mv.ch).trans lM.ch).trans mw.ch).trans rs).trans lN.ch).trans k9.ch).trans lO.ch).trans pv).trans ld.ch).trans ks.ch
  replace i9 := i9.ch Z47
  have Z48 := (((((((((((((((nb.ch.trans oa.ch).trans tP).trans nc.ch).trans mt.ch).trans ne.ch).trans tc).trans mv.ch).trans lM.ch).trans mw.ch).trans rs).trans lN.ch).trans k9.ch).trans lO.ch).trans pv).trans ld.ch).trans ks.ch
  replace gF := gF.ch Z48
  have Z49 := (((((((((((((((((((n8.ch.trans p6.ch).trans uy).trans n9.ch).trans nb.ch).trans oa.ch).trans tP).trans nc.ch).trans mt.ch).trans ne.ch).trans tc).trans mv.ch).trans lM.ch).trans mw.ch).trans rs).trans lN.ch).trans k9.ch).trans lO.ch).trans pv).trans ld.ch).trans ks.ch
  replace fH := fH.ch Z49
  replace cG := ((cG.ch Z44).ch ld.ch).ch ks.ch
  exact hX3 _ H _ _ ⟨i4 + 1, Gp, Gq, OG, jh, jP, jQ, rf, ji + 1, EQ, ER, OD, jj + 1, Df, Dg, OA, jk + 1, Bs, Bt, Ox, jl + 1, z8, z9, Ou, jm + 1, yI, yJ, Oq, ⟨rfl, rfl, rfl, rfl, rfl, trivial⟩, hO, Ci, cG, uz, mj, i9, gF, fH, au, hB⟩
 replace H := ifn Br H
 refine zo (fun w => opB (J08 rfl rfl w) (decide_eq_false Br)) (zn (zq (zf rfl rfl ?_)))
 refine Go1.exit rfl ?_
 refine zq (zr (zm rfl (za rfl (za rfl (zn ?_)))))
 have uk := Stp.nil (e := 31) (r := 1) hO
 replace hO := uk.own
 have kt := Els.nil (Rp.sl (Rp.int .i64)) (bl (.row 31 1 none 0 0 [] :: [.row 3 1 kc i4 kd sY, .row 185 2 jP jh jQ rf, .row 3 1 jR ji jS rh, .row 9 1 ke jj kg rk, .row 3 1 kq jk kr ro, .row 3 1 kP jl kQ rp, .row 31 1 lB jm lC rq, .row 31 1 p35 n37 c36 gz, .blk B10 (.cells #[.int .i64 ((ix a0 (0 : Int)).length : Int), .bool true, .slice p35 n37 c36, .slice lB jm lC, .slice kP jl kQ, .slice kq jk kr, .slice none 0 0, .slice jP jh jQ, .int .i64 0, .map (some B4), .slice ke jj kg, .slice jR ji jS, .slice kc i4 kd] 156 (0, 0)), .any (mapE (fun a : List UInt8 => Value.string (gstr a)) (fun a : Int => Value.int .i64 a) B4 m3_591)]) ++ A) R8
 have sf := Stp.front 10 hO rfl
 dsimp only [eS, eZ] at sf
 replace hO := sf.own
 have sj := Stp.front 2 hO rfl
 dsimp only [eS, eZ] at sj
 replace hO := sj.own
 have sk := Stp.front 4 hO rfl
 dsimp only [eS, eZ] at sk
 replace hO := sk.own
 have sm := Stp.front 5 hO rfl
 dsimp only [eS, eZ] at sm
 replace hO := sm.own
 have sn := Stp.front 5 hO rfl
 dsimp only [eS, eZ] at sn
 replace hO := sn.own
 have sq := Stp.front 5 hO rfl
 dsimp only [eS, eZ] at sq
 replace hO := sq.own
 have sr := Stp.front 6 hO rfl
 dsimp only [eS, eZ] at sr
 replace hO := sr.own
 have ss := Stp.front 7 hO rfl
 dsimp only [eS, eZ] at ss
 replace hO := ss.own
 have su := Stp.front 8 hO rfl
 dsimp only [eS, eZ] at su
 replace hO := su.own
 have sv := Stp.front 9 hO rfl
 dsimp only [eS, eZ] at sv
 replace hO := sv.own
 have sw := Stp.front 10 hO rfl
 dsimp only [eS, eZ] at sw
 replace hO := sw.own
 refine Go1.ret2 Try.func131 rfl ?_
 have Z50 := (((((((((sf.ch.trans sj.ch).trans sk.ch).trans sm.ch).trans sn.ch).trans sq.ch).trans sr.ch).trans ss.ch).trans su.ch).trans sv.ch).trans sw.ch
 replace kt := kt.ch Z50
 have Z51 := ((((((((((uk.ch.trans sf.ch).trans sj.ch).trans sk.ch).trans sm.ch).trans sn.ch).trans sq.ch).trans sr.ch).trans ss.ch).trans su.ch).trans sv.ch).trans sw.ch
 replace cy := cy.ch Z51
 replace cG := cG.ch Z51
 replace cH := cH.ch Z51
 replace cL := cL.ch Z51
 replace dr := dr.ch Z51
 replace dP := dP.ch Z51
 replace d9 := d9.ch Z51
 replace au := au.ch Z51
 replace hB := (((((((((((hB.trans uk.fr).trans sf.fr).trans sj.fr).trans sk.fr).trans sm.fr).trans sn.fr).trans sq.fr).trans sr.fr).trans ss.fr).trans su.fr).trans sv.fr).trans sw.fr
 exact Or.inr ⟨(⟨(⟨((ix a0 (0 : Int)).length : Int), true, d_32, d_585, d_579, d_573, ([] : List (List Int)), d_555, (0 : Int)⟩ : Enum), m3_591, d_567, d_561, d_549⟩ : run), ((0 : Int)), B10, n37, p35, c36, gz, jm, lB, lC, rq, jl, kP, kQ, rp, jk, kq, kr, ro, 0, none, 0, ([]), jh, jP, jQ, rf, B4, jj, ke, kg, rk, ji, jR, jS, rh, i4, kc, kd, sY, rfl, hB.same, hO, au, d9, dP, dr, kt, cG, cL, cH, cy, H⟩
theorem body158 : Body Try.prog 158 := ⟨Try.f158, Try.func158, rfl, by kernel_rfl⟩
theorem walk_trans_Compose {A : List Nat} {w0 : World} {p_f : Option Addr} {c_f : Nat} {p_g : Option Addr} {c_g : Nat} {f : List Int} {g : List Int} (hA : ∀ b ∈ A, b < w0.heap.size) (h_f : ISl (Rp.int .i64) A w0 p_f c_f f) (h_g : ISl (Rp.int .i64) A w0 p_g c_g g) {K : List Int → Prop} (H : J1q f g K) :
    CallsV Try.prog 158 #[.slice p_f f.length c_f, .slice p_g g.length c_g] w0 (fun v w' => ∃ (r0 : List Int) (tV : Option Addr) (tW : Nat), v = .slice tV r0.length tW ∧ Same w0 w' ∧ ISl (Rp.int .i64) A w' tV tW r0 ∧ K r0) := by
 refine CallsV.of (l := [.slice p_f f.length c_f, .slice p_g g.length c_g]) Try.func158 rfl Try.ntmps158 rfl ?_
 have hO := Owns.start hA
 have hB := Fr.refl (bl []) w0
 unfold J1q at H
 refine zq (zr (za rfl (zn (zq (zq ?_)))))
 refine zr (zm rfl (zo (J0d Try.underlying31 rfl) ?_))
 replace h_f := h_f.ch (Ch.start A w0)
 replace H := H h_f.bd
 refine zm rfl (zo (J0d Try.underlying31 rfl) ?_)
 replace h_g := h_g.ch (Ch.start A w0)
 replace H := H h_g.bd
 by_cases h1 : (f.length : Int) = (g.length : Int)
 ·replace H := ifp h1 H
  refine zo (fun w => opB (J0g rfl rfl w) (ndT h1)) (zm rfl (zm rfl ?_))
  refine GoR.call (J0a body154 rfl (walk_trans_Valid hO.lt h_f H)) rfl rfl ?_
  rintro v6 w3 ⟨r2, rfl, hs4, H⟩
  have mU := Stp.same hO hs4
  replace hO := mU.own
  cases r2
  ·replace H := ifn Bool.false_ne_true H
   refine zo (J0l rfl) (zo (J04 rfl rfl rfl) (zm rfl (zp (zp (zp ?_)))))
   refine zo (J05 rfl rfl rfl) (zn (zt rfl rfl (zq (zr (za rfl ?_)))))
   refine zn ?_
   refine Go1.ret1 Try.func158 rfl ?_
   replace hB := hB.trans mU.fr
   exact ⟨([] : List Int), none, 0, rfl, hB.same, (ISl.null _ _ _), H⟩
  replace H := ifp rfl H
  refine zo (J0l rfl) (zo (J04 rfl rfl rfl) (zm rfl (zm rfl ?_)))
  replace h_g := h_g.ch mU.ch
  refine GoR.call (J0a body154 rfl (walk_trans_Valid hO.lt h_g H)) rfl rfl ?_
  rintro v12 w9 ⟨r8, rfl, xq, H⟩
  have wm := Stp.same hO xq
  replace hO := wm.own
  cases r8
  ·replace H := ifn Bool.false_ne_true H
   refine zo (J0l rfl) (zo (J04 rfl rfl rfl) (zn (zt rfl rfl (zq ?_))))
   refine Go1.cut [] trivial ?_
   intro σ _
   refine zr (za rfl (zn ?_))
   refine Go1.ret1 Try.func158 rfl ?_
   replace hB := (hB.trans mU.fr).trans wm.fr
   exact ⟨([] : List Int), none, 0, rfl, hB.same, (ISl.null _ _ _), H⟩
  replace H := ifp rfl H
  refine zo (J0l rfl) (zo (J04 rfl rfl rfl) (zn (zf rfl rfl (zk (zq ?_)))))
  refine zr (zm rfl (zo (J0d Try.underlying31 rfl) ?_))
  obtain ⟨h21, H⟩ := H
  obtain ⟨h22, H⟩ := H
  have zz := omake (n := (f.length : Int)) (r := Rp.int .i64) (d := (0 : Int)) Try.underlying31 ti3 (fun _ _ => rfl) rfl hO h21 h22 (by decide)
  obtain ⟨w14, p15, xV, nP, dC, Rb, xN⟩ := zz
  refine zg (xN rfl rfl) ?_
  replace hO := nP.own
  refine za rfl (zn (zq (zq (zr (zm rfl ?_)))))
  refine zo (J0d Try.underlying31 rfl) (zm rfl (zn (zb ?_)))
  replace h_g := (h_g.ch wm.ch).ch nP.ch
  have Z1 := (mU.ch.trans wm.ch).trans nP.ch
  replace h_f := h_f.ch Z1
  replace hB := ((hB.trans mU.fr).trans wm.fr).trans nP.fr
  refine Go1.loopW (S := Nat × List Int) (fun s σ w => match s with | (k1_25, h1_26) => ∃ (Aa : List Value), agrees σ [(1, .slice p_g g.length c_g), (5, .slice p15 f.length f.length), (26, .slice p_f f.length c_f), (27, .int .i64 (f.length : Int)), (28, .int .i64 (k1_25 : Int))] ∧ (fun Z0 => Owns w0.heap.size w Z0 A ∧ Els (Rp.int .i64) (bl Z0 ++ A) w Aa h1_26 ∧ ISl (Rp.int .i64) (bl Z0 ++ A) w p_f c_f f ∧ ISl (Rp.int .i64) (bl Z0 ++ A) w p_g c_g g ∧ Fr (bl []) w0 (bl Z0) w) [.row 3 1 p15 f.length f.length Aa]) H ⟨xV, ⟨rfl, rfl, rfl, rfl, rfl, trivial⟩, hO, dC, h_f, h_g, hB⟩ ?_
  intro X1
  refine prE fun k1_25 => fun h1_26 => ?_
  intro H hX1 σ w24
  refine exE fun Aa => andE fun hag => andE fun hO => andE fun ES => andE fun h_f => andE fun h_g => fun hB => ?_
  dsimp only at H
  refine Go1.keep [(1, .slice p_g g.length c_g), (5, .slice p15 f.length f.length), (26, .slice p_f f.length c_f), (27, .int .i64 (f.length : Int)), (28, .int .i64 (k1_25 : Int))] hag ?_
  refine zq (zr ?_)
  by_cases h29 : (k1_25 : Int) < (f.length : Int)
  ·replace H := ifp h29 H
   refine zo (fun w => opB (J08 rfl rfl w) (decide_eq_true h29)) (zn (zq (zt rfl rfl (zk (zq ?_)))))
   refine zb (zq (zr (zm rfl ?_)))
   obtain ⟨h30, H⟩ := H
   obtain ⟨h31, H⟩ := H
   refine zo (J02 Try.underlying31 ti3 rfl rfl h30 h31 (h_f.some_ h30 h31)) (zs (ldInt h_f h30 h31 Try.underlying3 rfl rfl) (za rfl (za rfl (zn (zr ?_)))))
   refine zm rfl (zm rfl (zm rfl (zm rfl ?_)))
   obtain ⟨h32, H⟩ := H
   obtain ⟨h33, H⟩ := H
   refine zo (J02 Try.underlying31 ti3 rfl rfl h32 h33 (h_g.some_ h32 h33)) (zs (ldInt h_g h32 h33 Try.underlying3 rfl rfl) ?_)
   obtain ⟨h34, H⟩ := H
   obtain ⟨h35, H⟩ := H
   refine zo (J02 Try.underlying31 ti3 rfl rfl h34 (ltn (ES.neq hO 0 rfl) h35) (ES.psome hO 0 rfl h34 h35)) ?_
   have zz := ost (r := Rp.int .i64) rfl 0 hO rfl ES h34 h35 (v := .int .i64 (ix g (ix f (k1_25 : Int)))) (u := (ix g (ix f (k1_25 : Int)))) rfl rfl
   obtain ⟨w36, Sm, wn, Sn, OH⟩ := zz
   refine zg (OH Try.underlying3 rfl ti3 (by exact rfl) (by exact rfl)) ?_
   replace hO := wn.own
   refine zn ?_
   refine Go1.inBlock ?_
   refine zr ?_
   replace h_f := h_f.ch wn.ch
   refine zo (J0c rfl rfl (wrap_i64 (natbd h29 h_f.bd))) (zm rfl (zn ?_))
   replace h_g := h_g.ch wn.ch
   replace hB := hB.trans wn.fr
   exact hX1 _ H _ _ ⟨Sm, ⟨rfl, rfl, rfl, rfl, rfl, trivial⟩, hO, Sn, h_f, h_g, hB⟩
  replace H := ifn h29 H
  refine zo (fun w => opB (J08 rfl rfl w) (decide_eq_false h29)) (zn (zq (zf rfl rfl ?_)))
  refine Go1.exit rfl ?_
  refine zq (zr (zm rfl (za rfl (zn ?_))))
  have zz := freeze 0 hO rfl ES
  obtain ⟨hO1, zO, wb, Fq⟩ := zz
  replace hO := hO1; clear hO1
  refine Go1.ret1 Try.func158 rfl ?_
  replace hB := hB.trans (Owns.J09 _ _ 0)
  exact ⟨h1_26, p15, f.length, (congrArg (fun nn => Value.slice p15 nn f.length) Fq), hB.same, (wb.ch (Ch.weak _ _ _)), H⟩
 replace H := ifn h1 H
 refine zo (fun w => opB (J0g rfl rfl w) (ndF h1)) (zm rfl (zp (zp (zp (zo (J05 rfl rfl rfl) ?_)))))
 refine zm rfl (zp (zp (zp (zo (J05 rfl rfl rfl) (zn ?_)))))
 refine zt rfl rfl (zq ?_)
 refine Go1.cut [] trivial ?_
 intro σ _
 refine zr (za rfl (zn ?_))
 refine Go1.ret1 Try.func158 rfl ?_
 exact ⟨([] : List Int), none, 0, rfl, hB.same, (ISl.null _ _ _), H⟩
end Sg
