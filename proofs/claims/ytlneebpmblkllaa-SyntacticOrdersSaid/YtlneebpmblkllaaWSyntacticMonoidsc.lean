/- -/
import Derived.Test.YtlneebpmblkllaaTi
import Derived.Test.YtlneebpmblkllaaWSyntacticMonoidsb
import Derived.Test.YtlneebpmblkllaaAl
namespace Sg
open Go Go.RowKit Go.Proofs
set_option linter.unusedVariables false
set_option linter.unusedSimpArgs false
set_option maxRecDepth 100000
set_option maxHeartbeats 4000000
theorem body155 : Body Try.prog 155 := ⟨Try.f155, Try.func155, rfl, by kernel_rfl⟩
theorem body131 : Body Try.prog 131 := ⟨Try.f131, Try.func131, rfl, by kernel_rfl⟩
theorem walk_enumerate_begin {A : List Nat} {w0 : World} {xI : Option Addr} {xJ : Nat} {a0 : List (List Int)} {a1 : Bool} (hA : ∀ b ∈ A, b < w0.heap.size) (c9 : ISl (Rp.sl (Rp.int .i64)) A w0 xI xJ a0) {K : Option run → Int → Prop} (H : J14 a0 a1 K) :
    CallsV Try.prog 131 #[.slice xI a0.length xJ, .bool a1] w0 (fun v w' => (∃ (r1 : Int), v = .tuple #[.pointer none, .int .i64 r1] ∧ Same w0 w' ∧ K none r1) ∨ (∃ (q : run) (r1 : Int) (b_q : Nat) (cE : Nat) (cF : Option Addr) (cG : Nat) (d6 : List Value) (ci : Nat) (cj : Option Addr) (ck : Nat) (dU : List Value) (bW : Nat) (bX : Option Addr) (bY : Nat) (dI : List Value) (cH : Nat) (cI : Option Addr) (cJ : Nat) (d7 : List Value) (co : Nat) (cp : Option Addr) (cq : Nat) (dV : List Value) (cr : Nat) (cv : Option Addr) (cw : Nat) (dW : List Value) (fY : Nat) (dK : Nat) (dM : Option Addr) (dN : Nat) (fx : List Value) (dm : Nat) (dn : Option Addr) (dp : Nat) (e8 : List Value) (dq : Nat) (dr : Option Addr) (dt : Nat) (e9 : List Value), v = .tuple #[.pointer (some ⟨b_q, 0, none⟩), .int .i64 r1] ∧ Same w0 w' ∧ (fun Z0 => Owns w0.heap.size w' Z0 A ∧ Els (Rp.sl (Rp.int .i64)) (bl Z0 ++ A) w' d6 q.Enum.Gens ∧ Els (Rp.sl (Rp.int .i64)) (bl Z0 ++ A) w' dU q.Enum.Elems ∧ Els (Rp.int .i64) (bl Z0 ++ A) w' dI q.Enum.Prefix ∧ Els (Rp.int .i64) (bl Z0 ++ A) w' d7 q.Enum.Last ∧ Els (Rp.sl (Rp.int .i64)) (bl Z0 ++ A) w' dV q.Enum.Right ∧ Els (rpRule) (bl Z0 ++ A) w' dW q.Enum.Rules ∧ Els (Rp.str) (bl Z0 ++ A) w' fx q.words ∧ Els (Rp.int .i64) (bl Z0 ++ A) w' e8 q.behind ∧ Els (Rp.int .i64) (bl Z0 ++ A) w' e9 q.single ∧ K (some q) r1) [.blk b_q (.cells #[.int .i64 q.Enum.Points, .bool q.Enum.Monoid, .slice cF cE cG, .slice cj ci ck, .slice bX bW bY, .slice cI cH cJ, .slice cp co cq, .slice cv cr cw, .int .i64 q.Enum.Done, .map (some fY), .slice dM dK dN, .slice dn dm dp, .slice dr dq dt] 156 (0, 0)), .row 31 1 cF cE cG d6, .row 31 1 cj ci ck dU, .row 3 1 bX bW bY dI, .row 3 1 cI cH cJ d7, .row 31 1 cp co cq dV, .row 185 2 cv cr cw dW, .row 9 1 dM dK dN fx, .row 3 1 dn dm dp e8, .row 3 1 dr dq dt e9, .any (mapE (fun a : List UInt8 => Value.string (gstr a)) (fun a : Int => Value.int .i64 a) fY q.number)])) := by
 refine CallsV.of (l := [.slice xI a0.length xJ, .bool a1]) Try.func131 rfl Try.ntmps131 rfl ?_
 have hO := Owns.start hA
 have hB := Fr.refl (bl []) w0
 unfold J14 at H
 refine zq (zr (za rfl (za rfl (zn (zq ?_)))))
 refine zq (zr (zm rfl (zo (J0d Try.underlying23 rfl) ?_)))
 replace c9 := c9.ch (Ch.start A w0)
 replace H := H c9.bd
 by_cases h1 : (a0.length : Int) = (0 : Int)
 ·replace H := ifp h1 H
  refine zo (fun w => opB (J0A rfl rfl w) (decide_eq_true h1)) (zm rfl (zp (zp (zp (zo (J06 rfl rfl rfl) ?_)))))
  refine zn (zt rfl rfl (zq (zr (za rfl (za rfl ?_)))))
  refine zn ?_
  refine Go1.ret2 Try.func131 rfl ?_
  exact Or.inl ⟨((1 : Int)), rfl, hB.same, H⟩
 replace H := ifn h1 H
 refine zo (fun w => opB (J0A rfl rfl w) (decide_eq_false h1)) (zm rfl (zm rfl (zo (J0d Try.underlying23 rfl) ?_)))
 by_cases h2 : (6 : Int) < (a0.length : Int)
 ·replace H := ifp h2 H
  refine zo (fun w => opB (J1a rfl rfl w) (decide_eq_true h2)) (zo (J05 rfl rfl rfl) (zn (zt rfl rfl (zq (zr ?_)))))
  refine za rfl (za rfl (zn ?_))
  refine Go1.ret2 Try.func131 rfl ?_
  exact Or.inl ⟨((1 : Int)), rfl, hB.same, H⟩
 replace H := ifn h2 H
 refine zo (fun w => opB (J1a rfl rfl w) (decide_eq_false h2)) (zo (J05 rfl rfl rfl) (zn (zf rfl rfl (zk (zq ?_)))))
 refine Go1.cut [(0, .slice xI a0.length xJ), (1, .bool a1)] ⟨rfl, rfl, trivial⟩ ?_
 intro σ _
 refine zr ?_
 have zz := omakeMap (fun a : List UInt8 => Value.string (gstr a)) (fun a : Int => Value.int .i64 a) hO
 obtain ⟨w3, B4, F3, hs6, CP⟩ := zz
 refine GoR.op CP rfl rfl ?_
 replace hO := F3.own
 refine zo (J0s Try.underlying156 ti156 (pl := [(0, 9), (9, 1), (10, 1), (11, 1), (12, 1)]) (vs := [(1, .map (some B4))]) (cs := #[.int .i64 0, .bool false, .slice none 0 0, .slice none 0 0, .slice none 0 0, .slice none 0 0, .slice none 0 0, .slice none 0 0, .int .i64 0, .map (some B4), .slice none 0 0, .slice none 0 0, .slice none 0 0]) (by kernel_rfl) rfl (by kernel_rfl)) ?_
 have zz := obox (t := 156) (v := .agg #[.int .i64 0, .bool false, .slice none 0 0, .slice none 0 0, .slice none 0 0, .slice none 0 0, .slice none 0 0, .slice none 0 0, .int .i64 0, .map (some B4), .slice none 0 0, .slice none 0 0, .slice none 0 0]) (cs := #[.int .i64 0, .bool false, .slice none 0 0, .slice none 0 0, .slice none 0 0, .slice none 0 0, .slice none 0 0, .slice none 0 0, .int .i64 0, .map (some B4), .slice none 0 0, .slice none 0 0, .slice none 0 0]) hO rfl
 obtain ⟨w9, B10, Ei, VL, M7⟩ := zz
 refine zg (M7 rfl) ?_
 replace hO := Ei.own
 refine za rfl (zn (zq (zr (zm rfl (zm rfl ?_)))))
 refine zm rfl ?_
 obtain ⟨h15, H⟩ := H
 obtain ⟨h16, H⟩ := H
 replace c9 := (c9.ch F3.ch).ch Ei.ch
 refine zo (J02 Try.underlying23 ti31 rfl rfl h15 h16 (c9.some_ h15 h16)) ?_
 have zz := ldSl c9 h15 h16
 obtain ⟨p17, c18, zF, Rt⟩ := zz
 refine zs (Rt Try.underlying31 rfl rfl) (zo (J0d Try.underlying31 rfl) ?_)
 replace H := H zF.bd
 refine zm rfl (zo (J01 rfl) (zo (J00 Try.underlying156 rfl ti123 rfl (by decide)) (zo (J00 Try.underlying123 rfl ti3 rfl (by decide)) ?_)))
 have zz := J0f (v := .int .i64 ((ix a0 (0 : Int)).length : Int)) (i := 0) (cs' := #[.int .i64 ((ix a0 (0 : Int)).length : Int), .bool false, .slice none 0 0, .slice none 0 0, .slice none 0 0, .slice none 0 0, .slice none 0 0, .slice none 0 0, .int .i64 0, .map (some B4), .slice none 0 0, .slice none 0 0, .slice none 0 0]) 0 hO rfl rfl rfl rfl
 obtain ⟨w21, gH, M8⟩ := zz
 refine zg (M8 Try.underlying3 rfl ti3 (by exact rfl) (by exact rfl)) ?_
 replace hO := gH.own
 refine zo (J01 rfl) (zo (J00 Try.underlying156 rfl ti123 rfl (by decide)) (zo (J00 Try.underlying123 rfl ti4 rfl (by decide)) ?_))
 have zz := J0f (v := .bool a1) (i := 1) (cs' := #[.int .i64 ((ix a0 (0 : Int)).length : Int), .bool a1, .slice none 0 0, .slice none 0 0, .slice none 0 0, .slice none 0 0, .slice none 0 0, .slice none 0 0, .int .i64 0, .map (some B4), .slice none 0 0, .slice none 0 0, .slice none 0 0]) 0 hO rfl rfl rfl rfl
 obtain ⟨w24, mV, DS⟩ := zz
 refine zg (DS Try.underlying4 rfl ti4 (by exact rfl) (by exact rfl)) ?_
 replace hO := mV.own
 refine zn (zq (zq ?_))
 refine Go1.cut [(0, .slice xI a0.length xJ), (1, .bool a1), (6, .pointer (some ⟨B10, 0, none⟩))] ⟨rfl, rfl, rfl, trivial⟩ ?_
 intro σ _
 refine zr (zm rfl (zo (J0d Try.underlying23 rfl) (zm rfl (zn (zb ?_)))))
 have gp := Stp.nil (e := 31) (r := 1) hO
 replace hO := gp.own
 have wn := Els.nil (Rp.sl (Rp.int .i64)) (bl (.row 31 1 none 0 0 [] :: [.blk B10 (.cells #[.int .i64 ((ix a0 (0 : Int)).length : Int), .bool a1, .slice none 0 0, .slice none 0 0, .slice none 0 0, .slice none 0 0, .slice none 0 0, .slice none 0 0, .int .i64 0, .map (some B4), .slice none 0 0, .slice none 0 0, .slice none 0 0] 156 (0, 0)), .any (mapE (fun a : List UInt8 => Value.string (gstr a)) (fun a : Int => Value.int .i64 a) B4 (([] : List (Str × Int))))]) ++ A) w24
 have Z1 := (gH.ch.trans mV.ch).trans gp.ch
 replace c9 := c9.ch Z1
 replace hB := ((((hB.trans F3.fr).trans Ei.fr).trans gH.fr).trans mV.fr).trans gp.fr
 refine Go1.loopW (S := Nat × List (List Int)) (fun s σ w => match s with | (k1_31, d_32) => ∃ (n37 : Nat) (p35 : Option Addr) (c36 : Nat) (gz : List Value), agrees σ [(1, .bool a1), (6, .pointer (some ⟨B10, 0, none⟩)), (39, .slice xI a0.length xJ), (40, .int .i64 (a0.length : Int)), (41, .int .i64 (k1_31 : Int))] ∧ (fun Z0 => Owns w0.heap.size w Z0 A ∧ Els (Rp.sl (Rp.int .i64)) (bl Z0 ++ A) w gz d_32 ∧ ISl (Rp.sl (Rp.int .i64)) (bl Z0 ++ A) w xI xJ a0 ∧ Fr (bl []) w0 (bl Z0) w) [.row 31 1 p35 n37 c36 gz, .blk B10 (.cells #[.int .i64 ((ix a0 (0 : Int)).length : Int), .bool a1, .slice p35 n37 c36, .slice none 0 0, .slice none 0 0, .slice none 0 0, .slice none 0 0, .slice none 0 0, .int .i64 0, .map (some B4), .slice none 0 0, .slice none 0 0, .slice none 0 0] 156 (0, 0)), .any (mapE (fun a : List UInt8 => Value.string (gstr a)) (fun a : Int => Value.int .i64 a) B4 (([] : List (Str × Int))))]) H ⟨0, none, 0, [], ⟨rfl, rfl, rfl, rfl, rfl, trivial⟩, hO, wn, c9, hB⟩ ?_
 intro X1
 refine prE fun k1_31 => fun d_32 => ?_
 intro H hX1 σ w30
 refine exE fun n37 => exE fun p35 => exE fun c36 => exE fun gz => andE fun hag => andE fun hO => andE fun au => andE fun c9 => fun hB => ?_
 dsimp only at H
 refine Go1.keep [(1, .bool a1), (6, .pointer (some ⟨B10, 0, none⟩)), (39, .slice xI a0.length xJ), (40, .int .i64 (a0.length : Int)), (41, .int .i64 (k1_31 : Int))] hag ?_
 refine zq (zr ?_)
 by_cases h38 : (k1_31 : Int) < (a0.length : Int)
 ·replace H := ifp h38 H
  refine zo (fun w => opB (J08 rfl rfl w) (decide_eq_true h38)) (zn (zq (zt rfl rfl (zk (zq ?_)))))
  refine zb (zq (zr ?_))
  obtain ⟨h39, H⟩ := H
  obtain ⟨h40, H⟩ := H
  refine zo (J02 Try.underlying23 ti31 rfl rfl h39 h40 (c9.some_ h39 h40)) ?_
  have zz := ldSl c9 h39 h40
  obtain ⟨p41, c42, qO, Ru⟩ := zz
  refine zs (Ru Try.underlying31 rfl rfl) (za rfl (zn (zq (zq (zr ?_)))))
  refine zm rfl (zo (J0d Try.underlying31 rfl) ?_)
  replace H := H qO.bd
  refine zm rfl (zo (J01 rfl) (zo (J00 Try.underlying156 rfl ti123 rfl (by decide)) (zo (J00 Try.underlying123 rfl ti3 rfl (by decide)) (zs (oblk (i := 0) 1 hO rfl rfl Try.underlying3 rfl rfl) ?_))))
  by_cases h45 : ((ix a0 (k1_31 : Int)).length : Int) = ((ix a0 (0 : Int)).length : Int)
  ·replace H := ifp h45 H
   refine zo (fun w => opB (J0g rfl rfl w) (ndT h45)) (zm rfl (zm rfl ?_))
   refine GoR.call (J0a body154 rfl (walk_trans_Valid hO.lt qO H)) rfl rfl ?_
   rintro v50 w47 ⟨r46, rfl, Ip, H⟩
   have u9 := Stp.same hO Ip
   replace hO := u9.own
   cases r46
   ·replace H := ifn Bool.false_ne_true H
    refine zo (J0p rfl) (zo (J05 rfl rfl rfl) (zn (zt rfl rfl (zq (zr ?_)))))
    refine za rfl (za rfl (zn ?_))
    refine Go1.ret2 Try.func131 rfl ?_
    replace hB := hB.trans u9.fr
    exact Or.inl ⟨((4 : Int)), rfl, hB.same, H⟩
   replace H := ifp rfl H
   refine zo (J0p rfl) (zo (J05 rfl rfl rfl) (zn (zf rfl rfl (zk ?_))))
   refine Go1.cut [(1, .bool a1), (6, .pointer (some ⟨B10, 0, none⟩)), (8, .slice p41 ((ix a0 (k1_31 : Int)).length) c42), (39, .slice xI a0.length xJ), (40, .int .i64 (a0.length : Int)), (41, .int .i64 (k1_31 : Int))] ⟨rfl, rfl, rfl, rfl, rfl, rfl, trivial⟩ ?_
   intro σ _
   refine Go1.drawS 1 [(0, .pure), (1, .pure), (2, .pure), (3, .pure), (4, .pure), (5, .stable), (6, .pure), (7, .loud), (8, .loud), (9, .last), (10, .pure), (11, .pure), (12, .pure), (13, .last)] mixed (by kernel_rfl) ?_
   intro w52 F4
   have Ai := Stp.same hO F4
   replace hO := Ai.own
   refine GoQ.pure rfl (J03 rfl) rfl rfl ?_
   refine GoQ.pure rfl (J03 rfl) rfl rfl ?_
   refine GoQ.pure rfl (J01 rfl) rfl rfl ?_
   refine GoQ.pure rfl (J00 Try.underlying156 rfl ti123 rfl (by decide)) rfl rfl ?_
   refine GoQ.pure rfl (J00 Try.underlying123 rfl ti23 rfl (by decide)) rfl rfl ?_
   refine GoQ.stable rfl (oblk (i := 2) 1 hO rfl rfl Try.underlying23 rfl rfl) rfl rfl ?_
   refine GoQ.pure rfl (J03 rfl) rfl rfl ?_
   replace qO := (qO.ch u9.ch).ch Ai.ch
   refine GoQ.call rfl (J0a body86 rfl (J0F hO.lt qO H)) (fun v w hr => by obtain ⟨_, _, _, _, _, _, hs, _, _, _⟩ := hr; assumption) rfl rfl ?_
   rintro v60 w57 ⟨r55, H2, BW, BX, TU, rfl, Rv, hN59, F5, H⟩
   have Aj := Stp.more hO Rv hN59
   replace hO := Aj.own
   replace F5 := F5.ch (Ch.assoc _ _ _ _)
   have zz := freeze 0 hO rfl F5
   obtain ⟨hO1, F6, vQ, Rw⟩ := zz
   replace hO := hO1; clear hO1
   have zz := J0j (r := Rp.sl (Rp.int .i64)) (n := 1) (parts := [(0, .slice BW H2 BX)]) (vs := [.slice BW H2 BX]) (xs := [r55]) rfl Try.underlying23 ti31 hO (by decide) (by kernel_rfl) (Els.cons rfl ⟨BW, BX, congrArg some (congrArg (fun nn => Value.slice BW nn BX) Rw), vQ⟩ (Els.nil _ _ _) (by simp [mx])) rfl
   obtain ⟨w66, p67, pp, tJ, Rx, M9⟩ := zz
   refine GoQ.loud rfl (M9 rfl) Rx rfl rfl ?_
   replace hO := pp.own
   have zz := freeze 0 hO rfl tJ
   obtain ⟨hO1, Ej, CQ, Ry⟩ := zz
   replace hO := hO1; clear hO1
   obtain ⟨h76, H⟩ := H
   have Z2 := ((((u9.ch.trans Ai.ch).trans Aj.ch).trans F6).trans pp.ch).trans Ej
   replace au := au.ch Z2
   have zz := oapp Try.underlying23 ti31 rfl 0 hO rfl au CQ Ry h76 (by decide)
   obtain ⟨w77, p78, c79, pK, jx, zy, Ek⟩ := zz
   refine GoQ.last rfl (Ek (by exact rfl) (by exact rfl)) rfl rfl ?_
   replace hO := jx.own
   refine GoQ.pure rfl (J01 rfl) rfl rfl ?_
   refine GoQ.pure rfl (J00 Try.underlying156 rfl ti123 rfl (by decide)) rfl rfl ?_
   refine GoQ.pure rfl (J00 Try.underlying123 rfl ti23 rfl (by decide)) rfl rfl ?_
   have zz := J0f (v := .slice p78 (n37 + 1) c79) (i := 2) (cs' := #[.int .i64 ((ix a0 (0 : Int)).length : Int), .bool a1, .slice p78 (n37 + 1) c79, .slice none 0 0, .slice none 0 0, .slice none 0 0, .slice none 0 0, .slice none 0 0, .int .i64 0, .map (some B4), .slice none 0 0, .slice none 0 0, .slice none 0 0]) 1 hO rfl rfl rfl rfl
   obtain ⟨w85, nV, El⟩ := zz
   refine GoQ.last rfl (El Try.underlying23 rfl ti23 (by exact rfl) (by exact rfl)) rfl rfl ?_
   replace hO := nV.own
   refine GoQ.nil ?_
   refine Go1.inBlock ?_
   refine zr ?_
   replace c9 := ((c9.ch Z2).ch jx.ch).ch nV.ch
   refine zo (J0c rfl rfl (wrap_i64 (natbd h38 c9.bd))) (zm rfl (zn ?_))
   replace zy := zy.ch nV.ch
   replace hB := (((((((hB.trans u9.fr).trans Ai.fr).trans Aj.fr).trans (Owns.J09 _ _ 0)).trans pp.fr).trans (Owns.J09 _ _ 0)).trans jx.fr).trans nV.fr
   exact hX1 _ H _ _ ⟨n37 + 1, p78, c79, pK, ⟨rfl, rfl, rfl, rfl, rfl, trivial⟩, hO, zy, c9, hB⟩
  replace H := ifn h45 H
  refine zo (fun w => opB (J0g rfl rfl w) (ndF h45)) (zm rfl (zp (zp (zp (zo (J06 rfl rfl rfl) ?_)))))
  refine zn (zt rfl rfl (zq ?_))
  refine Go1.cut [] trivial ?_
  intro σ _
  refine zr (za rfl (za rfl (zn ?_)))
  refine Go1.ret2 Try.func131 rfl ?_
  exact Or.inl ⟨((4 : Int)), rfl, hB.same, H⟩
 replace H := ifn h38 H
 refine zo (fun w => opB (J08 rfl rfl w) (decide_eq_false h38)) (zn (zq (zf rfl rfl ?_)))
 refine Go1.exit rfl ?_
 refine zq (zr (za rfl (zn (zq (zq ?_)))))
 refine zr (zm rfl (zn ?_))
 cases a1
 ·replace H := ifn Bool.false_ne_true H
  refine zf rfl rfl (zk (zq (zq (zr (zm rfl ?_)))))
  refine zo (J01 rfl) (zo (J00 Try.underlying156 rfl ti123 rfl (by decide)) (zo (J00 Try.underlying123 rfl ti23 rfl (by decide)) (zs (oblk (i := 2) 1 hO rfl rfl Try.underlying23 rfl rfl) (zo (J0w Try.underlying23 rfl (au.neq hO 0 rfl)) (zm rfl ?_)))))
  refine zn (zb ?_)
  have jY := Stp.nil (e := 31) (r := 1) hO
  replace hO := jY.own
  have cP := Els.nil (Rp.sl (Rp.int .i64)) (bl (.row 31 1 none 0 0 [] :: [.row 31 1 p35 n37 c36 gz, .blk B10 (.cells #[.int .i64 ((ix a0 (0 : Int)).length : Int), .bool false, .slice p35 n37 c36, .slice none 0 0, .slice none 0 0, .slice none 0 0, .slice none 0 0, .slice none 0 0, .int .i64 0, .map (some B4), .slice none 0 0, .slice none 0 0, .slice none 0 0] 156 (0, 0)), .any (mapE (fun a : List UInt8 => Value.string (gstr a)) (fun a : Int => Value.int .i64 a) B4 (([] : List (Str × Int))))]) ++ A) w30
  have jD := Stp.nil (e := 3) (r := 1) hO
  replace hO := jD.own
  have kj := Els.nil (Rp.int .i64) (bl (.row 3 1 none 0 0 [] :: [.row 31 1 none 0 0 [], .row 31 1 p35 n37 c36 gz, .blk B10 (.cells #[.int .i64 ((ix a0 (0 : Int)).length : Int), .bool false, .slice p35 n37 c36, .slice none 0 0, .slice none 0 0, .slice none 0 0, .slice none 0 0, .slice none 0 0, .int .i64 0, .map (some B4), .slice none 0 0, .slice none 0 0, .slice none 0 0] 156 (0, 0)), .any (mapE (fun a : List UInt8 => Value.string (gstr a)) (fun a : Int => Value.int .i64 a) B4 (([] : List (Str × Int))))]) ++ A) w30
  have yD := Stp.nil (e := 3) (r := 1) hO
  replace hO := yD.own
  have cN := Els.nil (Rp.int .i64) (bl (.row 3 1 none 0 0 [] :: [.row 3 1 none 0 0 [], .row 31 1 none 0 0 [], .row 31 1 p35 n37 c36 gz, .blk B10 (.cells #[.int .i64 ((ix a0 (0 : Int)).length : Int), .bool false, .slice p35 n37 c36, .slice none 0 0, .slice none 0 0, .slice none 0 0, .slice none 0 0, .slice none 0 0, .int .i64 0, .map (some B4), .slice none 0 0, .slice none 0 0, .slice none 0 0] 156 (0, 0)), .any (mapE (fun a : List UInt8 => Value.string (gstr a)) (fun a : Int => Value.int .i64 a) B4 (([] : List (Str × Int))))]) ++ A) w30
  have iL := Stp.nil (e := 185) (r := 2) hO
  replace hO := iL.own
  have w4 := Els.nil (rpRule) (bl (.row 185 2 none 0 0 [] :: [.row 3 1 none 0 0 [], .row 3 1 none 0 0 [], .row 31 1 none 0 0 [], .row 31 1 p35 n37 c36 gz, .blk B10 (.cells #[.int .i64 ((ix a0 (0 : Int)).length : Int), .bool false, .slice p35 n37 c36, .slice none 0 0, .slice none 0 0, .slice none 0 0, .slice none 0 0, .slice none 0 0, .int .i64 0, .map (some B4), .slice none 0 0, .slice none 0 0, .slice none 0 0] 156 (0, 0)), .any (mapE (fun a : List UInt8 => Value.string (gstr a)) (fun a : Int => Value.int .i64 a) B4 (([] : List (Str × Int))))]) ++ A) w30
  have gQ := Stp.nil (e := 9) (r := 1) hO
  replace hO := gQ.own
  have cO := Els.nil (Rp.str) (bl (.row 9 1 none 0 0 [] :: [.row 185 2 none 0 0 [], .row 3 1 none 0 0 [], .row 3 1 none 0 0 [], .row 31 1 none 0 0 [], .row 31 1 p35 n37 c36 gz, .blk B10 (.cells #[.int .i64 ((ix a0 (0 : Int)).length : Int), .bool false, .slice p35 n37 c36, .slice none 0 0, .slice none 0 0, .slice none 0 0, .slice none 0 0, .slice none 0 0, .int .i64 0, .map (some B4), .slice none 0 0, .slice none 0 0, .slice none 0 0] 156 (0, 0)), .any (mapE (fun a : List UInt8 => Value.string (gstr a)) (fun a : Int => Value.int .i64 a) B4 (([] : List (Str × Int))))]) ++ A) w30
  have jq := Stp.nil (e := 3) (r := 1) hO
  replace hO := jq.own
  have Em := Els.nil (Rp.int .i64) (bl (.row 3 1 none 0 0 [] :: [.row 9 1 none 0 0 [], .row 185 2 none 0 0 [], .row 3 1 none 0 0 [], .row 3 1 none 0 0 [], .row 31 1 none 0 0 [], .row 31 1 p35 n37 c36 gz, .blk B10 (.cells #[.int .i64 ((ix a0 (0 : Int)).length : Int), .bool false, .slice p35 n37 c36, .slice none 0 0, .slice none 0 0, .slice none 0 0, .slice none 0 0, .slice none 0 0, .int .i64 0, .map (some B4), .slice none 0 0, .slice none 0 0, .slice none 0 0] 156 (0, 0)), .any (mapE (fun a : List UInt8 => Value.string (gstr a)) (fun a : Int => Value.int .i64 a) B4 (([] : List (Str × Int))))]) ++ A) w30
  have tU := Stp.nil (e := 3) (r := 1) hO
  replace hO := tU.own
  have Na := Els.nil (Rp.int .i64) (bl (.row 3 1 none 0 0 [] :: [.row 3 1 none 0 0 [], .row 9 1 none 0 0 [], .row 185 2 none 0 0 [], .row 3 1 none 0 0 [], .row 3 1 none 0 0 [], .row 31 1 none 0 0 [], .row 31 1 p35 n37 c36 gz, .blk B10 (.cells #[.int .i64 ((ix a0 (0 : Int)).length : Int), .bool false, .slice p35 n37 c36, .slice none 0 0, .slice none 0 0, .slice none 0 0, .slice none 0 0, .slice none 0 0, .int .i64 0, .map (some B4), .slice none 0 0, .slice none 0 0, .slice none 0 0] 156 (0, 0)), .any (mapE (fun a : List UInt8 => Value.string (gstr a)) (fun a : Int => Value.int .i64 a) B4 (([] : List (Str × Int))))]) ++ A) w30
  replace Em := Em.ch tU.ch
  replace cO := (cO.ch jq.ch).ch tU.ch
  have Z3 := (gQ.ch.trans jq.ch).trans tU.ch
  replace w4 := w4.ch Z3
  have Z4 := ((iL.ch.trans gQ.ch).trans jq.ch).trans tU.ch
  replace cN := cN.ch Z4
  have Z5 := (((yD.ch.trans iL.ch).trans gQ.ch).trans jq.ch).trans tU.ch
  replace kj := kj.ch Z5
  have Z6 := ((((jD.ch.trans yD.ch).trans iL.ch).trans gQ.ch).trans jq.ch).trans tU.ch
  replace cP := cP.ch Z6
  have Z7 := (((((jY.ch.trans jD.ch).trans yD.ch).trans iL.ch).trans gQ.ch).trans jq.ch).trans tU.ch
  replace au := au.ch Z7
  replace hB := ((((((hB.trans jY.fr).trans jD.fr).trans yD.fr).trans iL.fr).trans gQ.fr).trans jq.fr).trans tU.fr
  refine Go1.loopW (S := Nat × List Int × List Int × List Str × List Rule × List Int × List Int × List (List Int) × (List (Str × Int))) (fun s σ w => match s with | (k2_110, d_111, d_117, d_123, d_129, d_135, d_141, d_147, m2_153) => ∃ (iX : Nat) (j6 : Option Addr) (j7 : Nat) (pg : List Value) (i8 : Nat) (jz : Option Addr) (jM : Nat) (qP : List Value) (i9 : Nat) (j8 : Option Addr) (j9 : Nat) (nS : List Value) (ja : Nat) (jl : Option Addr) (ju : Nat) (qQ : List Value) (jb : Nat) (kl : Option Addr) (km : Nat) (qR : List Value) (jc : Nat) (kM : Option Addr) (kN : Nat) (qS : List Value) (jd : Nat) (lB : Option Addr) (lC : Nat) (qT : List Value), agrees σ [(6, .pointer (some ⟨B10, 0, none⟩)), (9, .int .i64 (-1)), (85, .slice p35 n37 c36), (86, .int .i64 (d_32.length : Int)), (87, .int .i64 (k2_110 : Int))] ∧ (fun Z0 => Owns w0.heap.size w Z0 A ∧ Els (Rp.int .i64) (bl Z0 ++ A) w pg d_111 ∧ Els (Rp.int .i64) (bl Z0 ++ A) w qP d_117 ∧ Els (Rp.str) (bl Z0 ++ A) w nS d_123 ∧ Els (rpRule) (bl Z0 ++ A) w qQ d_129 ∧ Els (Rp.int .i64) (bl Z0 ++ A) w qR d_135 ∧ Els (Rp.int .i64) (bl Z0 ++ A) w qS d_141 ∧ Els (Rp.sl (Rp.int .i64)) (bl Z0 ++ A) w qT d_147 ∧ Els (Rp.sl (Rp.int .i64)) (bl Z0 ++ A) w gz d_32 ∧ Fr (bl []) w0 (bl Z0) w) [.row 3 1 j6 iX j7 pg, .row 3 1 jz i8 jM qP, .row 9 1 j8 i9 j9 nS, .row 185 2 jl ja ju qQ, .row 3 1 kl jb km qR, .row 3 1 kM jc kN qS, .row 31 1 lB jd lC qT, .row 31 1 p35 n37 c36 gz, .blk B10 (.cells #[.int .i64 ((ix a0 (0 : Int)).length : Int), .bool false, .slice p35 n37 c36, .slice lB jd lC, .slice kM jc kN, .slice kl jb km, .slice none 0 0, .slice jl ja ju, .int .i64 0, .map (some B4), .slice j8 i9 j9, .slice jz i8 jM, .slice j6 iX j7] 156 (0, 0)), .any (mapE (fun a : List UInt8 => Value.string (gstr a)) (fun a : Int => Value.int .i64 a) B4 m2_153)]) H ⟨0, none, 0, [], 0, none, 0, [], 0, none, 0, [], 0, none, 0, [], 0, none, 0, [], 0, none, 0, [], 0, none, 0, [], ⟨rfl, rfl, rfl, rfl, rfl, trivial⟩, hO, Na, Em, cO, w4, cN, kj, cP, au, hB⟩ ?_
  intro X2
  refine prE fun k2_110 => prE fun d_111 => prE fun d_117 => prE fun d_123 => prE fun d_129 => prE fun d_135 => prE fun d_141 => prE fun d_147 => fun m2_153 => ?_
  intro H hX2 σ Ja
  refine exE fun iX => exE fun j6 => exE fun j7 => exE fun pg => exE fun i8 => exE fun jz => exE fun jM => exE fun qP => exE fun i9 => exE fun j8 => exE fun j9 => exE fun nS => exE fun ja => exE fun jl => exE fun ju => exE fun qQ => exE fun jb => exE fun kl => exE fun km => exE fun qR => exE fun jc => exE fun kM => exE fun kN => exE fun qS => exE fun jd => exE fun lB => exE fun lC => exE fun qT => andE fun hag => andE fun hO => andE fun cR => andE fun cU => andE fun c7 => andE fun cV => andE fun dw => andE fun dX => andE fun d5 => andE fun au => fun hB => ?_
  dsimp only at H
  refine Go1.keep [(6, .pointer (some ⟨B10, 0, none⟩)), (9, .int .i64 (-1)), (85, .slice p35 n37 c36), (86, .int .i64 (d_32.length : Int)), (87, .int .i64 (k2_110 : Int))] hag ?_
  refine zq (zr ?_)
  by_cases A9 : (k2_110 : Int) < (d_32.length : Int)
  ·replace H := ifp A9 H
   refine zo (fun w => opB (J08 rfl rfl w) (decide_eq_true A9)) (zn (zq (zt rfl rfl (zk (zq ?_)))))
   refine zb (zq (zr (zm rfl ?_)))
   obtain ⟨xK, H⟩ := H
   obtain ⟨zG, H⟩ := H
   refine zo (J02 Try.underlying23 ti31 rfl rfl xK (ltn (au.neq hO 7 rfl) zG) (au.psome hO 7 rfl xK zG)) ?_
   have zz := oldSl 7 hO rfl au xK zG
   obtain ⟨En, Eo, dE, Nb⟩ := zz
   refine zs (Nb Try.underlying31 rfl rfl) (za rfl (za rfl (zn (zq (zr ?_)))))
   refine zm rfl ?_
   obtain ⟨Rz, H⟩ := H
   refine zo (J0c rfl rfl (wrap_i64 Rz)) (zo (op_conv Try.underlying3 Try.underlying21 rfl rfl) ?_)
   obtain ⟨CR, H⟩ := H
   obtain ⟨CT, H⟩ := H
   refine zo (op_convRS Try.underlying21 Try.underlying9 rfl CR CT) (za rfl (zn (zq ?_)))
   refine Go1.drawS 0 [(0, .pure), (1, .pure), (2, .pure), (3, .stable), (4, .pure), (5, .loud), (6, .stable), (7, .pure), (8, .pure), (9, .pure), (10, .pure), (11, .pure)] mixed (by kernel_rfl) ?_
   intro VM Nc
   have jT := Stp.same hO Nc
   replace hO := jT.own
   refine GoQ.pure rfl (J03 rfl) rfl rfl ?_
   refine GoQ.pure rfl (J01 rfl) rfl rfl ?_
   refine GoQ.pure rfl (J00 Try.underlying156 rfl ti154 rfl (by decide)) rfl rfl ?_
   refine GoQ.stable rfl (oblk (i := 9) 8 hO rfl rfl Try.underlying154 rfl rfl) rfl rfl ?_
   refine GoQ.pure rfl (J03 rfl) rfl rfl ?_
   replace dE := dE.ch jT.ch
   refine GoQ.call rfl (J0a body157 rfl (J0l hO.lt dE H)) (fun v w hr => by obtain ⟨_, _, hs, _, _⟩ := hr; assumption) rfl rfl ?_
   rintro VN RA ⟨r167, rfl, H0, TK, H⟩
   have tg := Stp.same hO H0
   replace hO := tg.own
   by_cases x9 : mhas m2_153 r167 = true
   ·replace H := ifp x9 H
    refine GoQ.stable rfl (olookT (a := r167) (MK.str Try.underlying9) 9 hO rfl Try.underlying154 rfl rfl x9) rfl rfl ?_
    refine GoQ.pure rfl (J03 rfl) rfl rfl ?_
    refine GoQ.pure rfl (J07 rfl rfl) rfl rfl ?_
    refine GoQ.pure rfl (J07 rfl rfl) rfl rfl ?_
    refine GoQ.pure rfl (J0e rfl) rfl rfl ?_
    refine GoQ.pure rfl (J0e rfl) rfl rfl ?_
    refine GoQ.nil ?_
    refine zq (zq ?_)
    refine Go1.cut [(6, .pointer (some ⟨B10, 0, none⟩)), (9, .int .i64 (-1)), (10, .int .i64 (k2_110 : Int)), (11, .slice En ((ix d_32 (k2_110 : Int)).length) Eo), (12, .string (gstr (chr (IntKind.i32.wrap ((97 : Int) + (k2_110 : Int)))))), (13, .int .i64 (mgt m2_153 r167)), (14, .bool true), (85, .slice p35 n37 c36), (86, .int .i64 (d_32.length : Int)), (87, .int .i64 (k2_110 : Int))] ⟨rfl, rfl, rfl, rfl, rfl, rfl, rfl, rfl, rfl, rfl, trivial⟩ ?_
    intro σ _
    refine zr (zm rfl (zn (zt rfl rfl ?_)))
    refine Go1.drawS 5 [(0, .pure), (1, .pure), (2, .pure), (3, .pure), (4, .pure), (5, .stable), (6, .pure), (7, .pure), (8, .pure), (9, .pure), (10, .stable), (11, .pure), (12, .pure), (13, .stable), (14, .pure), (15, .loud), (16, .last), (17, .pure), (18, .pure), (19, .pure), (20, .last)] mixed (by kernel_rfl) ?_
    intro QJ Nd
    have tj := Stp.same hO Nd
    replace hO := tj.own
    refine GoQ.pure rfl (J03 rfl) rfl rfl ?_
    refine GoQ.pure rfl (J03 rfl) rfl rfl ?_
    refine GoQ.pure rfl (J01 rfl) rfl rfl ?_
    refine GoQ.pure rfl (J00 Try.underlying156 rfl ti123 rfl (by decide)) rfl rfl ?_
    refine GoQ.pure rfl (J00 Try.underlying123 rfl ti121 rfl (by decide)) rfl rfl ?_
    refine GoQ.stable rfl (oblk (i := 7) 8 hO rfl rfl Try.underlying121 rfl rfl) rfl rfl ?_
    refine GoQ.pure rfl (J03 rfl) rfl rfl ?_
    refine GoQ.pure rfl (J03 rfl) rfl rfl ?_
    refine GoQ.pure rfl (J01 rfl) rfl rfl ?_
    refine GoQ.pure rfl (J00 Try.underlying156 rfl ti30 rfl (by decide)) rfl rfl ?_
    refine GoQ.stable rfl (oblk (i := 10) 8 hO rfl rfl Try.underlying30 rfl rfl) rfl rfl ?_
    refine GoQ.pure rfl (J03 rfl) rfl rfl ?_
    obtain ⟨xU, H⟩ := H
    obtain ⟨xV, H⟩ := H
    have Z8 := (jT.ch.trans tg.ch).trans tj.ch
    replace c7 := c7.ch Z8
    refine GoQ.pure rfl (J02 Try.underlying30 ti9 rfl rfl xU (ltn (c7.neq hO 2 rfl) xV) (c7.psome hO 2 rfl xU xV)) rfl rfl ?_
    refine GoQ.stable rfl (oldStr 2 hO rfl c7 xU xV Try.underlying9 rfl rfl) rfl rfl ?_
    have hle179 := Els.str_le c7 xU xV
    refine GoQ.pure rfl (J0s Try.underlying185 ti185 (pl := [(0, 1), (1, 1)]) (vs := [(0, .string (gstr (chr (IntKind.i32.wrap ((97 : Int) + (k2_110 : Int)))))), (1, .string (gstr (ix d_123 (mgt m2_153 r167))))]) (cs := #[.string (gstr (chr (IntKind.i32.wrap ((97 : Int) + (k2_110 : Int))))), .string (gstr (ix d_123 (mgt m2_153 r167)))]) (by kernel_rfl) rfl (by kernel_rfl)) rfl rfl ?_
    have zz := obuildN (r := rpRule) (n := 1) (parts := [(0, .agg #[.string (gstr (chr (IntKind.i32.wrap ((97 : Int) + (k2_110 : Int))))), .string (gstr (ix d_123 (mgt m2_153 r167)))])]) (vs := [.string (gstr (chr (IntKind.i32.wrap ((97 : Int) + (k2_110 : Int))))), .string (gstr (ix d_123 (mgt m2_153 r167)))]) (xs := [(⟨(chr (IntKind.i32.wrap ((97 : Int) + (k2_110 : Int)))), ix d_123 (mgt m2_153 r167)⟩ : Rule)]) Try.underlying121 ti185 hO (by decide) (by decide) (by kernel_rfl) (Els.flat1 (⟨(chr (IntKind.i32.wrap ((97 : Int) + (k2_110 : Int)))), ix d_123 (mgt m2_153 r167)⟩ : Rule) ⟨(chr_le _), hle179⟩) rfl
    obtain ⟨VO, VP, tm, Nf, Ng, Jb⟩ := zz
    refine GoQ.loud rfl (Jb rfl) Ng rfl rfl ?_
    replace hO := tm.own
    have zz := freeze 0 hO rfl Nf
    obtain ⟨hO1, vc, sM, Nh⟩ := zz
    dsimp only [eS, eZ] at hO1 vc sM
    replace hB := ((((hB.trans jT.fr).trans tg.fr).trans tj.fr).trans tm.fr).trans (Owns.J09 _ _ 0)
    dsimp only [eS, eZ] at hB
    replace hO := hO1; clear hO1
    obtain ⟨x8, H⟩ := H
    replace cV := ((cV.ch Z8).ch tm.ch).ch vc
    have zz := oapp Try.underlying121 ti185 rfl 3 hO rfl cV sM Nh x8 (by decide)
    obtain ⟨VQ, Ep, Er, Ni, rD, t9, Cm⟩ := zz
    dsimp only [sS, sZ] at rD t9
    refine GoQ.last rfl (Cm (by exact rfl) (by exact rfl)) rfl rfl ?_
    replace hO := rD.own
    refine GoQ.pure rfl (J01 rfl) rfl rfl ?_
    refine GoQ.pure rfl (J00 Try.underlying156 rfl ti123 rfl (by decide)) rfl rfl ?_
    refine GoQ.pure rfl (J00 Try.underlying123 rfl ti121 rfl (by decide)) rfl rfl ?_
    have zz := J0f (v := .slice Ep (ja + 1) Er) (i := 7) (cs' := #[.int .i64 ((ix a0 (0 : Int)).length : Int), .bool false, .slice p35 n37 c36, .slice lB jd lC, .slice kM jc kN, .slice kl jb km, .slice none 0 0, .slice Ep (ja + 1) Er, .int .i64 0, .map (some B4), .slice j8 i9 j9, .slice jz i8 jM, .slice j6 iX j7]) 8 hO rfl rfl rfl rfl
    obtain ⟨VR, pM, Jc⟩ := zz
    dsimp only [sS, sZ] at pM
    refine GoQ.last rfl (Jc Try.underlying121 rfl ti121 (by exact rfl) (by exact rfl)) rfl rfl ?_
    replace hO := pM.own
    refine GoQ.nil ?_
    refine Go1.cut [(6, .pointer (some ⟨B10, 0, none⟩)), (9, .int .i64 (-1)), (13, .int .i64 (mgt m2_153 r167)), (85, .slice p35 n37 c36), (86, .int .i64 (d_32.length : Int)), (87, .int .i64 (k2_110 : Int))] ⟨rfl, rfl, rfl, rfl, rfl, rfl, trivial⟩ ?_
    intro σ _
    refine zr (zm rfl (zm rfl (zo (J01 rfl) (zo (J00 Try.underlying156 rfl ti31 rfl (by decide)) (zs (oblk (i := 12) 8 hO rfl rfl Try.underlying31 rfl rfl) ?_)))))
    refine zm rfl ?_
    have zz := J0j (r := Rp.int .i64) (n := 1) (parts := [(0, .int .i64 (mgt m2_153 r167))]) (vs := [.int .i64 (mgt m2_153 r167)]) (xs := [(mgt m2_153 r167)]) rfl Try.underlying31 ti3 hO (by decide) (by kernel_rfl) (Els.cons rfl rfl (Els.nil _ _ _) (by simp [mx])) rfl
    obtain ⟨RB, VS, rE, Nj, T9, Jd⟩ := zz
    refine zg (Jd rfl) ?_
    replace hO := rE.own
    have zz := freeze 0 hO rfl Nj
    obtain ⟨hO1, uI, yE, Nk⟩ := zz
    dsimp only [eS, eZ] at hO1 uI yE
    replace hB := (((hB.trans rD.fr).trans pM.fr).trans rE.fr).trans (Owns.J09 _ _ 0)
    dsimp only [eS, eZ] at hB
    replace hO := hO1; clear hO1
    obtain ⟨CU, H⟩ := H
    have Z9 := (((((Z8.trans tm.ch).trans vc).trans rD.ch).trans pM.ch).trans rE.ch).trans uI
    replace cR := cR.ch Z9
    have zz := oapp Try.underlying31 ti3 rfl 0 hO rfl cR yE Nk CU (by decide)
    obtain ⟨RD, F7, F8, Nl, pN, BY, Je⟩ := zz
    dsimp only [sS, sZ] at pN BY
    refine zg (Je (by exact rfl) (by exact rfl)) ?_
    replace hO := pN.own
    refine zo (J01 rfl) (zo (J00 Try.underlying156 rfl ti31 rfl (by decide)) ?_)
    have zz := J0f (v := .slice F7 (iX + 1) F8) (i := 12) (cs' := #[.int .i64 ((ix a0 (0 : Int)).length : Int), .bool false, .slice p35 n37 c36, .slice lB jd lC, .slice kM jc kN, .slice kl jb km, .slice none 0 0, .slice Ep (ja + 1) Er, .int .i64 0, .map (some B4), .slice j8 i9 j9, .slice jz i8 jM, .slice F7 (iX + 1) F8]) 8 hO rfl rfl rfl rfl
    obtain ⟨VU, gv, Jf⟩ := zz
    dsimp only [sS, sZ] at gv
    refine zg (Jf Try.underlying31 rfl ti31 (by exact rfl) (by exact rfl)) ?_
    replace hO := gv.own
    refine zn ?_
    refine Go1.inBlock ?_
    refine zr ?_
    replace au := ((au.ch Z9).ch pN.ch).ch gv.ch
    refine zo (J0c rfl rfl (wrap_i64 (natbd A9 au.bd))) (zm rfl (zn ?_))
    replace BY := BY.ch gv.ch
    replace hB := (hB.trans pN.fr).trans gv.fr
    have Z10 := (((pM.ch.trans rE.ch).trans uI).trans pN.ch).trans gv.ch
    replace t9 := t9.ch Z10
    have Z11 := ((((((tm.ch.trans vc).trans rD.ch).trans pM.ch).trans rE.ch).trans uI).trans pN.ch).trans gv.ch
    replace c7 := c7.ch Z11
    have Z12 := (Z9.trans pN.ch).trans gv.ch
    replace cU := cU.ch Z12
    replace dw := dw.ch Z12
    replace dX := dX.ch Z12
    replace d5 := d5.ch Z12
    exact hX2 _ H _ _ ⟨iX + 1, F7, F8, Nl, i8, jz, jM, qP, i9, j8, j9, nS, ja + 1, Ep, Er, Ni, jb, kl, km, qR, jc, kM, kN, qS, jd, lB, lC, qT, ⟨rfl, rfl, rfl, rfl, rfl, trivial⟩, hO, BY, cU, c7, t9, dw, dX, d5, au, hB⟩
   replace H := ifn x9 H
   refine GoQ.stable rfl (olookF (a := r167) (MK.str Try.underlying9) 9 hO rfl Try.underlying154 ti3 rfl rfl x9) rfl rfl ?_
   refine GoQ.pure rfl (J03 rfl) rfl rfl ?_
   refine GoQ.pure rfl (J07 rfl rfl) rfl rfl ?_
   refine GoQ.pure rfl (J07 rfl rfl) rfl rfl ?_
   refine GoQ.pure rfl (J0e rfl) rfl rfl ?_
   refine GoQ.pure rfl (J0e rfl) rfl rfl ?_
   refine GoQ.nil ?_
   refine zq (zq (zr (zm rfl (zn (zf rfl rfl ?_)))))
   refine Go1.cut [(6, .pointer (some ⟨B10, 0, none⟩)), (9, .int .i64 (-1)), (10, .int .i64 (k2_110 : Int)), (11, .slice En ((ix d_32 (k2_110 : Int)).length) Eo), (12, .string (gstr (chr (IntKind.i32.wrap ((97 : Int) + (k2_110 : Int)))))), (85, .slice p35 n37 c36), (86, .int .i64 (d_32.length : Int)), (87, .int .i64 (k2_110 : Int))] ⟨rfl, rfl, rfl, rfl, rfl, rfl, rfl, rfl, trivial⟩ ?_
   intro σ _
   refine zr (zm rfl (zm rfl ?_))
   replace dE := dE.ch tg.ch
   refine GoR.call (J0a body86 rfl (J0F hO.lt dE H)) rfl rfl ?_
   rintro VV VW ⟨r224, ya, vC, vD, TL, rfl, Nm, hN228, vd, H⟩
   have rF := Stp.more hO Nm hN228
   dsimp only [List.cons_append, List.nil_append] at rF
   replace hO := rF.own
   refine zm rfl (zm rfl (zm rfl (zm rfl ?_)))
   refine GoR.inl (vs := [.pointer (some ⟨B10, 0, none⟩), .slice vC ya vD, .int .i64 (-1), .int .i64 (k2_110 : Int), .string (gstr (chr (IntKind.i32.wrap ((97 : Int) + (k2_110 : Int))))), .int .i64 (-1)]) (caps := []) rfl rfl body155 Try.func155 rfl Try.ntmps155 rfl rfl rfl ?_
   intro RhR232 hR232
   refine zq (zr (za rfl (zn (zq (zr ?_)))))
   refine zm rfl (zo (J01 rfl) (zo (J00 Try.underlying156 rfl ti123 rfl (by decide)) (zo (J00 Try.underlying123 rfl ti23 rfl (by decide)) (zs (oblk (i := 3) 9 hO rfl rfl Try.underlying23 rfl rfl) ?_))))
   have Z13 := (jT.ch.trans tg.ch).trans rF.ch
   replace d5 := d5.ch Z13
   refine zo (J0w Try.underlying23 rfl (d5.neq hO 7 rfl)) (za rfl (zn (zq ?_)))
   refine Go1.drawS 1 [(0, .pure), (1, .pure), (2, .pure), (3, .stable), (4, .pure), (6, .pure), (5, .loud), (7, .last)] mixed (by kernel_rfl) ?_
   intro RE Nn
   have rG := Stp.same hO Nn
   replace hO := rG.own
   refine GoQ.pure rfl (J03 rfl) rfl rfl ?_
   refine GoQ.pure rfl (J01 rfl) rfl rfl ?_
   refine GoQ.pure rfl (J00 Try.underlying156 rfl ti154 rfl (by decide)) rfl rfl ?_
   refine GoQ.stable rfl (oblk (i := 9) 9 hO rfl rfl Try.underlying154 rfl rfl) rfl rfl ?_
   refine GoQ.pure rfl (J03 rfl) rfl rfl ?_
   refine GoQ.pure rfl (J03 rfl) rfl rfl ?_
   replace vd := vd.ch (Ch.assoc _ _ _ _)
   replace vd := vd.ch rG.ch
   have zz := rowlend 0 hO rfl vd
   obtain ⟨Np, Nq⟩ := zz
   have hOc238 := hO.drop 0
   refine GoQ.call rfl (J0a body157 (show ([.slice vC ya vD] : List Value) = [.slice vC r224.length vD] from by rw [← Nq]) (J0l hOc238.lt Np H)) (fun v w hr => by obtain ⟨_, _, hs, _, _⟩ := hr; assumption) rfl rfl ?_
   rintro VX RF ⟨r239, rfl, Et, TM, H⟩
   have rH := Stp.same hO Et
   replace hO := rH.own
   have zz := omapUpd (MK.str Try.underlying9) 10 hO rfl Try.underlying154 r239 (d_147.length : Int)
   obtain ⟨RG, gS, CV⟩ := zz
   dsimp only [sS, sZ] at gS
   refine GoQ.last rfl (CV (by exact rfl) (by exact rfl) (by exact rfl)) rfl rfl ?_
   replace hO := gS.own
   refine GoQ.nil ?_
   refine zq ?_
   refine Go1.cut [(0, .pointer (some ⟨B10, 0, none⟩)), (1, .slice vC ya vD), (2, .int .i64 (-1)), (3, .int .i64 (k2_110 : Int)), (4, .string (gstr (chr (IntKind.i32.wrap ((97 : Int) + (k2_110 : Int)))))), (5, .int .i64 (-1)), (13, .int .i64 (d_147.length : Int))] ⟨rfl, rfl, rfl, rfl, rfl, rfl, rfl, trivial⟩ ?_
   intro σ _
   refine zr (zm rfl (zm rfl (zo (J01 rfl) (zo (J00 Try.underlying156 rfl ti123 rfl (by decide)) (zo (J00 Try.underlying123 rfl ti23 rfl (by decide)) ?_)))))
   refine zs (oblk (i := 3) 9 hO rfl rfl Try.underlying23 rfl rfl) (zm rfl ?_)
   replace vd := (vd.ch rH.ch).ch gS.ch
   have zz := freeze 0 hO rfl vd
   obtain ⟨hO1, ve, fu, Nr⟩ := zz
   dsimp only [eS, eZ] at hO1 ve fu
   replace hB := ((((((hB.trans jT.fr).trans tg.fr).trans rF.fr).trans rG.fr).trans rH.fr).trans gS.fr).trans (Owns.J09 _ _ 0)
   dsimp only [eS, eZ] at hB
   replace hO := hO1; clear hO1
   have zz := J0j (r := Rp.sl (Rp.int .i64)) (n := 1) (parts := [(0, .slice vC ya vD)]) (vs := [.slice vC ya vD]) (xs := [r224]) rfl Try.underlying23 ti31 hO (by decide) (by kernel_rfl) (Els.cons rfl ⟨vC, vD, congrArg some (congrArg (fun nn => Value.slice vC nn vD) Nr), fu⟩ (Els.nil _ _ _) (by simp [mx])) rfl
   obtain ⟨VY, V0, rI, Nt, Ua, Jg⟩ := zz
   refine zg (Jg rfl) ?_
   replace hO := rI.own
   have zz := freeze 0 hO rfl Nt
   obtain ⟨hO1, uJ, fH, Nu⟩ := zz
   dsimp only [eS, eZ] at hO1 uJ fH
   replace hB := (hB.trans rI.fr).trans (Owns.J09 _ _ 0)
   dsimp only [eS, eZ] at hB
   replace hO := hO1; clear hO1
   obtain ⟨RH, H⟩ := H
   have Z14 := ((((rG.ch.trans rH.ch).trans gS.ch).trans ve).trans rI.ch).trans uJ
   replace d5 := d5.ch Z14
   have zz := oapp Try.underlying23 ti31 rfl 6 hO rfl d5 fH Nu RH (by decide)
   obtain ⟨V1, yb, yc, Nv, pO, fM, Jh⟩ := zz
   dsimp only [sS, sZ] at pO fM
   refine zg (Jh (by exact rfl) (by exact rfl)) ?_
   replace hO := pO.own
   refine zo (J01 rfl) (zo (J00 Try.underlying156 rfl ti123 rfl (by decide)) (zo (J00 Try.underlying123 rfl ti23 rfl (by decide)) ?_))
   have zz := J0f (v := .slice yb (jd + 1) yc) (i := 3) (cs' := #[.int .i64 ((ix a0 (0 : Int)).length : Int), .bool false, .slice p35 n37 c36, .slice yb (jd + 1) yc, .slice kM jc kN, .slice kl jb km, .slice none 0 0, .slice jl ja ju, .int .i64 0, .map (some B4), .slice j8 i9 j9, .slice jz i8 jM, .slice j6 iX j7]) 8 hO rfl rfl rfl rfl
   obtain ⟨V2, nW, Ji⟩ := zz
   dsimp only [sS, sZ] at nW
   refine zg (Ji Try.underlying23 rfl ti23 (by exact rfl) (by exact rfl)) ?_
   replace hO := nW.own
   refine zn (zq (zr (zm rfl (zm rfl (zo (J01 rfl) ?_)))))
   refine zo (J00 Try.underlying156 rfl ti123 rfl (by decide)) (zo (J00 Try.underlying123 rfl ti31 rfl (by decide)) (zs (oblk (i := 4) 8 hO rfl rfl Try.underlying31 rfl rfl) (zm rfl ?_)))
   have zz := J0j (r := Rp.int .i64) (n := 1) (parts := [(0, .int .i64 (-1))]) (vs := [.int .i64 (-1)]) (xs := [(-1 : Int)]) rfl Try.underlying31 ti3 hO (by decide) (by kernel_rfl) (Els.cons rfl rfl (Els.nil _ _ _) (by simp [mx])) rfl
   obtain ⟨V3, V4, pP, Nw, Ub, Jj⟩ := zz
   refine zg (Jj rfl) ?_
   replace hO := pP.own
   have zz := freeze 0 hO rfl Nw
   obtain ⟨hO1, jy, gq, Ny⟩ := zz
   dsimp only [eS, eZ] at hO1 jy gq
   replace hB := (((hB.trans pO.fr).trans nW.fr).trans pP.fr).trans (Owns.J09 _ _ 0)
   dsimp only [eS, eZ] at hB
   replace hO := hO1; clear hO1
   obtain ⟨RJ, H⟩ := H
   have Z15 := (((((((((Z13.trans rG.ch).trans rH.ch).trans gS.ch).trans ve).trans rI.ch).trans uJ).trans pO.ch).trans nW.ch).trans pP.ch).trans jy
   replace dX := dX.ch Z15
   have zz := oapp Try.underlying31 ti3 rfl 5 hO rfl dX gq Ny RJ (by decide)
   obtain ⟨F9, zH, zI, Nz, nX, gE, Jk⟩ := zz
   dsimp only [sS, sZ] at nX gE
   refine zg (Jk (by exact rfl) (by exact rfl)) ?_
   replace hO := nX.own
   refine zo (J01 rfl) (zo (J00 Try.underlying156 rfl ti123 rfl (by decide)) (zo (J00 Try.underlying123 rfl ti31 rfl (by decide)) ?_))
   have zz := J0f (v := .slice zH (jc + 1) zI) (i := 4) (cs' := #[.int .i64 ((ix a0 (0 : Int)).length : Int), .bool false, .slice p35 n37 c36, .slice yb (jd + 1) yc, .slice zH (jc + 1) zI, .slice kl jb km, .slice none 0 0, .slice jl ja ju, .int .i64 0, .map (some B4), .slice j8 i9 j9, .slice jz i8 jM, .slice j6 iX j7]) 8 hO rfl rfl rfl rfl
   obtain ⟨QW, iU, Cr⟩ := zz
   dsimp only [sS, sZ] at iU
   refine zg (Cr Try.underlying31 rfl ti31 (by exact rfl) (by exact rfl)) ?_
   replace hO := iU.own
   refine zn (zq ?_)
   refine Go1.cut [(0, .pointer (some ⟨B10, 0, none⟩)), (3, .int .i64 (k2_110 : Int)), (4, .string (gstr (chr (IntKind.i32.wrap ((97 : Int) + (k2_110 : Int)))))), (5, .int .i64 (-1)), (13, .int .i64 (d_147.length : Int))] ⟨rfl, rfl, rfl, rfl, rfl, trivial⟩ ?_
   intro σ _
   refine zr (zm rfl (zm rfl (zo (J01 rfl) (zo (J00 Try.underlying156 rfl ti123 rfl (by decide)) (zo (J00 Try.underlying123 rfl ti31 rfl (by decide)) ?_)))))
   refine zs (oblk (i := 5) 8 hO rfl rfl Try.underlying31 rfl rfl) (zm rfl ?_)
   have zz := J0j (r := Rp.int .i64) (n := 1) (parts := [(0, .int .i64 (k2_110 : Int))]) (vs := [.int .i64 (k2_110 : Int)]) (xs := [(k2_110 : Int)]) rfl Try.underlying31 ti3 hO (by decide) (by kernel_rfl) (Els.cons rfl rfl (Els.nil _ _ _) (by simp [mx])) rfl
   obtain ⟨QX, V5, jo, Eu, Uc, Jl⟩ := zz
   refine zg (Jl rfl) ?_
   replace hO := jo.own
   have zz := freeze 0 hO rfl Eu
   obtain ⟨hO1, tC, iM, NA⟩ := zz
   dsimp only [eS, eZ] at hO1 tC iM
   replace hB := (((hB.trans nX.fr).trans iU.fr).trans jo.fr).trans (Owns.J09 _ _ 0)
   dsimp only [eS, eZ] at hB
   replace hO := hO1; clear hO1
   obtain ⟨RK, H⟩ := H
   have Z16 := (((Z15.trans nX.ch).trans iU.ch).trans jo.ch).trans tC
   replace dw := dw.ch Z16
   have zz := oapp Try.underlying31 ti3 rfl 4 hO rfl dw iM NA RK (by decide)
   obtain ⟨V6, Ba, Bb, NB, m9, i5, Jm⟩ := zz
   dsimp only [sS, sZ] at m9 i5
   refine zg (Jm (by exact rfl) (by exact rfl)) ?_
   replace hO := m9.own
   refine zo (J01 rfl) (zo (J00 Try.underlying156 rfl ti123 rfl (by decide)) (zo (J00 Try.underlying123 rfl ti31 rfl (by decide)) ?_))
   have zz := J0f (v := .slice Ba (jb + 1) Bb) (i := 5) (cs' := #[.int .i64 ((ix a0 (0 : Int)).length : Int), .bool false, .slice p35 n37 c36, .slice yb (jd + 1) yc, .slice zH (jc + 1) zI, .slice Ba (jb + 1) Bb, .slice none 0 0, .slice jl ja ju, .int .i64 0, .map (some B4), .slice j8 i9 j9, .slice jz i8 jM, .slice j6 iX j7]) 8 hO rfl rfl rfl rfl
   obtain ⟨Q0, mr, Jo⟩ := zz
   dsimp only [sS, sZ] at mr
   refine zg (Jo Try.underlying31 rfl ti31 (by exact rfl) (by exact rfl)) ?_
   replace hO := mr.own
   refine zn (zq (zr (zm rfl (zm rfl (zo (J01 rfl) ?_)))))
   refine zo (J00 Try.underlying156 rfl ti30 rfl (by decide)) (zs (oblk (i := 10) 8 hO rfl rfl Try.underlying30 rfl rfl) (zm rfl ?_))
   have zz := J0j (r := Rp.str) (n := 1) (parts := [(0, .string (gstr (chr (IntKind.i32.wrap ((97 : Int) + (k2_110 : Int))))))]) (vs := [.string (gstr (chr (IntKind.i32.wrap ((97 : Int) + (k2_110 : Int)))))]) (xs := [chr (IntKind.i32.wrap ((97 : Int) + (k2_110 : Int)))]) rfl Try.underlying30 ti9 hO (by decide) (by kernel_rfl) (Els.cons rfl ⟨rfl, (chr_le _)⟩ (Els.nil _ _ _) (by simp [mx])) rfl
   obtain ⟨V7, V8, na, NC, Ud, Jp⟩ := zz
   refine zg (Jp rfl) ?_
   replace hO := na.own
   have zz := freeze 0 hO rfl NC
   obtain ⟨hO1, sN, kS, ND⟩ := zz
   dsimp only [eS, eZ] at hO1 sN kS
   replace hB := (((hB.trans m9.fr).trans mr.fr).trans na.fr).trans (Owns.J09 _ _ 0)
   dsimp only [eS, eZ] at hB
   replace hO := hO1; clear hO1
   obtain ⟨FG, H⟩ := H
   have Z17 := (((Z16.trans m9.ch).trans mr.ch).trans na.ch).trans sN
   replace c7 := c7.ch Z17
   have zz := oapp Try.underlying30 ti9 rfl 2 hO rfl c7 kS ND FG (by decide)
   obtain ⟨IM, CW, CX, u5, fP, mj, Jq⟩ := zz
   dsimp only [sS, sZ] at fP mj
   refine zg (Jq (by exact rfl) (by exact rfl)) ?_
   replace hO := fP.own
   refine zo (J01 rfl) (zo (J00 Try.underlying156 rfl ti30 rfl (by decide)) ?_)
   have zz := J0f (v := .slice CW (i9 + 1) CX) (i := 10) (cs' := #[.int .i64 ((ix a0 (0 : Int)).length : Int), .bool false, .slice p35 n37 c36, .slice yb (jd + 1) yc, .slice zH (jc + 1) zI, .slice Ba (jb + 1) Bb, .slice none 0 0, .slice jl ja ju, .int .i64 0, .map (some B4), .slice CW (i9 + 1) CX, .slice jz i8 jM, .slice j6 iX j7]) 8 hO rfl rfl rfl rfl
   obtain ⟨V9, lM, Jr⟩ := zz
   dsimp only [sS, sZ] at lM
   refine zg (Jr Try.underlying30 rfl ti30 (by exact rfl) (by exact rfl)) ?_
   replace hO := lM.own
   refine zn (zq ?_)
   refine Go1.cut [(0, .pointer (some ⟨B10, 0, none⟩)), (5, .int .i64 (-1)), (13, .int .i64 (d_147.length : Int))] ⟨rfl, rfl, rfl, trivial⟩ ?_
   intro σ _
   refine zr (zm rfl (zm rfl (zo (J01 rfl) (zo (J00 Try.underlying156 rfl ti31 rfl (by decide)) (zs (oblk (i := 11) 8 hO rfl rfl Try.underlying31 rfl rfl) ?_)))))
   refine zm rfl ?_
   have zz := J0j (r := Rp.int .i64) (n := 1) (parts := [(0, .int .i64 (-1))]) (vs := [.int .i64 (-1)]) (xs := [(-1 : Int)]) rfl Try.underlying31 ti3 hO (by decide) (by kernel_rfl) (Els.cons rfl rfl (Els.nil _ _ _) (by simp [mx])) rfl
   obtain ⟨Wa, Wb, ms, ua, Ue, Js⟩ := zz
   refine zg (Js rfl) ?_
   replace hO := ms.own
   have zz := freeze 0 hO rfl ua
   obtain ⟨hO1, mg, lJ, D8⟩ := zz
   dsimp only [eS, eZ] at hO1 mg lJ
   replace hB := (((hB.trans fP.fr).trans lM.fr).trans ms.fr).trans (Owns.J09 _ _ 0)
   dsimp only [eS, eZ] at hB
   replace hO := hO1; clear hO1
   obtain ⟨RL, H⟩ := H
   have Z18 := (((Z17.trans fP.ch).trans lM.ch).trans ms.ch).trans mg
   replace cU := cU.ch Z18
   have zz := oapp Try.underlying31 ti3 rfl 1 hO rfl cU lJ D8 RL (by decide)
   obtain ⟨Wc, Ev, Ew, NE, lN, ub, Jt⟩ := zz
   dsimp only [sS, sZ] at lN ub
   refine zg (Jt (by exact rfl) (by exact rfl)) ?_
   replace hO := lN.own
   refine zo (J01 rfl) (zo (J00 Try.underlying156 rfl ti31 rfl (by decide)) ?_)
   have zz := J0f (v := .slice Ev (i8 + 1) Ew) (i := 11) (cs' := #[.int .i64 ((ix a0 (0 : Int)).length : Int), .bool false, .slice p35 n37 c36, .slice yb (jd + 1) yc, .slice zH (jc + 1) zI, .slice Ba (jb + 1) Bb, .slice none 0 0, .slice jl ja ju, .int .i64 0, .map (some B4), .slice CW (i9 + 1) CX, .slice Ev (i8 + 1) Ew, .slice j6 iX j7]) 8 hO rfl rfl rfl rfl
   obtain ⟨IQ, k8, Ju⟩ := zz
   dsimp only [sS, sZ] at k8
   refine zg (Ju Try.underlying31 rfl ti31 (by exact rfl) (by exact rfl)) ?_
   replace hO := k8.own
   refine zn (zq (zr (zm rfl (za rfl (zn ?_)))))
   refine Go1.ret1V Try.func155 rfl (show _ = .int .i64 (d_147.length : Int) from rfl) ?_
   refine hR232 _ _ ?_
   refine za rfl (zn (zr (zm rfl (zm rfl (zo (J01 rfl) ?_)))))
   refine zo (J00 Try.underlying156 rfl ti31 rfl (by decide)) (zs (oblk (i := 12) 8 hO rfl rfl Try.underlying31 rfl rfl) (zm rfl ?_))
   have zz := J0j (r := Rp.int .i64) (n := 1) (parts := [(0, .int .i64 (d_147.length : Int))]) (vs := [.int .i64 (d_147.length : Int)]) (xs := [(d_147.length : Int)]) rfl Try.underlying31 ti3 hO (by decide) (by kernel_rfl) (Els.cons rfl rfl (Els.nil _ _ _) (by simp [mx])) rfl
   obtain ⟨Wd, We, lO, NF, Uf, Cv⟩ := zz
   refine zg (Cv rfl) ?_
   replace hO := lO.own
   have zz := freeze 0 hO rfl NF
   obtain ⟨hO1, pq, yF, NG⟩ := zz
   dsimp only [eS, eZ] at hO1 pq yF
   replace hB := (((hB.trans lN.fr).trans k8.fr).trans lO.fr).trans (Owns.J09 _ _ 0)
   dsimp only [eS, eZ] at hB
   replace hO := hO1; clear hO1
   obtain ⟨RM, H⟩ := H
   have Z19 := (((Z18.trans lN.ch).trans k8.ch).trans lO.ch).trans pq
   replace cR := cR.ch Z19
   have zz := oapp Try.underlying31 ti3 rfl 0 hO rfl cR yF NG RM (by decide)
   obtain ⟨Wf, Ga, Gb, NH, k9, B1, Jv⟩ := zz
   dsimp only [sS, sZ] at k9 B1
   refine zg (Jv (by exact rfl) (by exact rfl)) ?_
   replace hO := k9.own
   refine zo (J01 rfl) (zo (J00 Try.underlying156 rfl ti31 rfl (by decide)) ?_)
   have zz := J0f (v := .slice Ga (iX + 1) Gb) (i := 12) (cs' := #[.int .i64 ((ix a0 (0 : Int)).length : Int), .bool false, .slice p35 n37 c36, .slice yb (jd + 1) yc, .slice zH (jc + 1) zI, .slice Ba (jb + 1) Bb, .slice none 0 0, .slice jl ja ju, .int .i64 0, .map (some B4), .slice CW (i9 + 1) CX, .slice Ev (i8 + 1) Ew, .slice Ga (iX + 1) Gb]) 8 hO rfl rfl rfl rfl
   obtain ⟨Wg, kn, Jw⟩ := zz
   dsimp only [sS, sZ] at kn
   refine zg (Jw Try.underlying31 rfl ti31 (by exact rfl) (by exact rfl)) ?_
   replace hO := kn.own
   refine zn ?_
   refine Go1.inBlock ?_
   refine Go1.cut [(6, .pointer (some ⟨B10, 0, none⟩)), (9, .int .i64 (-1)), (85, .slice p35 n37 c36), (86, .int .i64 (d_32.length : Int)), (87, .int .i64 (k2_110 : Int))] ⟨rfl, rfl, rfl, rfl, rfl, trivial⟩ ?_
   intro σ _
   refine zr ?_
   replace au := ((au.ch Z19).ch k9.ch).ch kn.ch
   refine zo (J0c rfl rfl (wrap_i64 (natbd A9 au.bd))) (zm rfl (zn ?_))
   replace B1 := B1.ch kn.ch
   replace hB := (hB.trans k9.fr).trans kn.fr
   have Z20 := (((k8.ch.trans lO.ch).trans pq).trans k9.ch).trans kn.ch
   replace ub := ub.ch Z20
   have Z21 := (((((((lM.ch.trans ms.ch).trans mg).trans lN.ch).trans k8.ch).trans lO.ch).trans pq).trans k9.ch).trans kn.ch
   replace mj := mj.ch Z21
   have Z22 := (((((((((((mr.ch.trans na.ch).trans sN).trans fP.ch).trans lM.ch).trans ms.ch).trans mg).trans lN.ch).trans k8.ch).trans lO.ch).trans pq).trans k9.ch).trans kn.ch
   replace i5 := i5.ch Z22
   have Z23 := (((((((((((((((iU.ch.trans jo.ch).trans tC).trans m9.ch).trans mr.ch).trans na.ch).trans sN).trans fP.ch).trans lM.ch).trans ms.ch).trans mg).trans lN.ch).trans k8.ch).trans lO.ch).trans pq).trans k9.ch).trans kn.ch
   replace gE := gE.ch Z23
   have Z24 := (((((((((((((((((((nW.ch.trans pP.ch).trans jy).trans nX.ch).trans iU.ch).trans jo.ch).trans tC).trans m9.ch).trans mr.ch).trans na.ch).trans sN).trans fP.ch).trans lM.ch).trans ms.ch).trans mg).trans lN.ch).trans k8.ch).trans lO.ch).trans pq).trans k9.ch).trans kn.ch
   replace fM := fM.ch Z24
   replace cV := ((cV.ch Z19).ch k9.ch).ch kn.ch
   exact hX2 _ H _ _ ⟨iX + 1, Ga, Gb, NH, i8 + 1, Ev, Ew, NE, i9 + 1, CW, CX, u5, ja, jl, ju, qQ, jb + 1, Ba, Bb, NB, jc + 1, zH, zI, Nz, jd + 1, yb, yc, Nv, ⟨rfl, rfl, rfl, rfl, rfl, trivial⟩, hO, B1, ub, mj, cV, i5, gE, fM, au, hB⟩
  replace H := ifn A9 H
  refine zo (fun w => opB (J08 rfl rfl w) (decide_eq_false A9)) (zn (zq (zf rfl rfl ?_)))
  refine Go1.exit rfl ?_
  refine zq (zr (zm rfl (za rfl (za rfl (zn ?_)))))
  have tV := Stp.nil (e := 31) (r := 1) hO
  replace hO := tV.own
  have de := Els.nil (Rp.sl (Rp.int .i64)) (bl (.row 31 1 none 0 0 [] :: [.row 3 1 j6 iX j7 pg, .row 3 1 jz i8 jM qP, .row 9 1 j8 i9 j9 nS, .row 185 2 jl ja ju qQ, .row 3 1 kl jb km qR, .row 3 1 kM jc kN qS, .row 31 1 lB jd lC qT, .row 31 1 p35 n37 c36 gz, .blk B10 (.cells #[.int .i64 ((ix a0 (0 : Int)).length : Int), .bool false, .slice p35 n37 c36, .slice lB jd lC, .slice kM jc kN, .slice kl jb km, .slice none 0 0, .slice jl ja ju, .int .i64 0, .map (some B4), .slice j8 i9 j9, .slice jz i8 jM, .slice j6 iX j7] 156 (0, 0)), .any (mapE (fun a : List UInt8 => Value.string (gstr a)) (fun a : Int => Value.int .i64 a) B4 m2_153)]) ++ A) Ja
  have gI := Stp.front 10 hO rfl
  dsimp only [eS, eZ] at gI
  replace hO := gI.own
  have kh := Stp.front 2 hO rfl
  dsimp only [eS, eZ] at kh
  replace hO := kh.own
  have gC := Stp.front 3 hO rfl
  dsimp only [eS, eZ] at gC
  replace hO := gC.own
  have rJ := Stp.front 4 hO rfl
  dsimp only [eS, eZ] at rJ
  replace hO := rJ.own
  have rK := Stp.front 5 hO rfl
  dsimp only [eS, eZ] at rK
  replace hO := rK.own
  have rL := Stp.front 5 hO rfl
  dsimp only [eS, eZ] at rL
  replace hO := rL.own
  have gJ := Stp.front 6 hO rfl
  dsimp only [eS, eZ] at gJ
  replace hO := gJ.own
  have rM := Stp.front 7 hO rfl
  dsimp only [eS, eZ] at rM
  replace hO := rM.own
  have rN := Stp.front 8 hO rfl
  dsimp only [eS, eZ] at rN
  replace hO := rN.own
  have rO := Stp.front 9 hO rfl
  dsimp only [eS, eZ] at rO
  replace hO := rO.own
  have rP := Stp.front 10 hO rfl
  dsimp only [eS, eZ] at rP
  replace hO := rP.own
  refine Go1.ret2 Try.func131 rfl ?_
  have Z25 := (((((((((gI.ch.trans kh.ch).trans gC.ch).trans rJ.ch).trans rK.ch).trans rL.ch).trans gJ.ch).trans rM.ch).trans rN.ch).trans rO.ch).trans rP.ch
  replace de := de.ch Z25
  have Z26 := ((((((((((tV.ch.trans gI.ch).trans kh.ch).trans gC.ch).trans rJ.ch).trans rK.ch).trans rL.ch).trans gJ.ch).trans rM.ch).trans rN.ch).trans rO.ch).trans rP.ch
  replace cR := cR.ch Z26
  replace cU := cU.ch Z26
  replace c7 := c7.ch Z26
  replace cV := cV.ch Z26
  replace dw := dw.ch Z26
  replace dX := dX.ch Z26
  replace d5 := d5.ch Z26
  replace au := au.ch Z26
  replace hB := (((((((((((hB.trans tV.fr).trans gI.fr).trans kh.fr).trans gC.fr).trans rJ.fr).trans rK.fr).trans rL.fr).trans gJ.fr).trans rM.fr).trans rN.fr).trans rO.fr).trans rP.fr
  exact Or.inr ⟨(⟨(⟨((ix a0 (0 : Int)).length : Int), false, d_32, d_147, d_141, d_135, ([] : List (List Int)), d_129, (0 : Int)⟩ : Enum), m2_153, d_123, d_117, d_111⟩ : run), ((0 : Int)), B10, n37, p35, c36, gz, jd, lB, lC, qT, jc, kM, kN, qS, jb, kl, km, qR, 0, none, 0, ([]), ja, jl, ju, qQ, B4, i9, j8, j9, nS, i8, jz, jM, qP, iX, j6, j7, pg, rfl, hB.same, hO, au, d5, dX, dw, de, cV, c7, cU, cR, H⟩
 replace H := ifp rfl H
 refine zt rfl rfl (zr (zm rfl (zm rfl (zo (J01 rfl) (zo (J00 Try.underlying156 rfl ti123 rfl (by decide)) ?_)))))
 refine zo (J00 Try.underlying123 rfl ti3 rfl (by decide)) (zs (oblk (i := 0) 1 hO rfl rfl Try.underlying3 rfl rfl) ?_)
 refine GoR.call (J0a body156 rfl (walk_trans_Identity hO.lt H)) rfl rfl ?_
 rintro Wh Wi ⟨r397, yd, ye, rfl, NI, dT, H⟩
 have Ak := Stp.same hO NI
 replace hO := Ak.own
 refine GoR.inl (vs := [.pointer (some ⟨B10, 0, none⟩), .slice yd r397.length ye, .int .i64 (-1), .int .i64 (-1), .string (gstr (([] : Str))), .int .i64 (-1)]) (caps := []) rfl rfl body155 Try.func155 rfl Try.ntmps155 rfl rfl rfl ?_
 intro RhR403 hR403
 refine zq (zr (za rfl (zn (zq (zr ?_)))))
 refine zm rfl (zo (J01 rfl) (zo (J00 Try.underlying156 rfl ti123 rfl (by decide)) (zo (J00 Try.underlying123 rfl ti23 rfl (by decide)) (zs (oblk (i := 3) 1 hO rfl rfl Try.underlying23 rfl rfl) (zo (J0d Try.underlying23 rfl) ?_)))))
 refine za rfl (zn (zq ?_))
 refine Go1.cut [(0, .pointer (some ⟨B10, 0, none⟩)), (1, .slice yd r397.length ye), (2, .int .i64 (-1)), (3, .int .i64 (-1)), (4, .string (gstr (([] : Str)))), (5, .int .i64 (-1)), (13, .int .i64 0)] ⟨rfl, rfl, rfl, rfl, rfl, rfl, rfl, trivial⟩ ?_
 intro σ _
 refine Go1.drawS 1 [(0, .pure), (1, .pure), (2, .pure), (3, .stable), (4, .pure), (6, .pure), (5, .loud), (7, .last)] mixed (by kernel_rfl) ?_
 intro Wj NJ
 have yf := Stp.same hO NJ
 replace hO := yf.own
 refine GoQ.pure rfl (J03 rfl) rfl rfl ?_
 refine GoQ.pure rfl (J01 rfl) rfl rfl ?_
 refine GoQ.pure rfl (J00 Try.underlying156 rfl ti154 rfl (by decide)) rfl rfl ?_
 refine GoQ.stable rfl (oblk (i := 9) 1 hO rfl rfl Try.underlying154 rfl rfl) rfl rfl ?_
 refine GoQ.pure rfl (J03 rfl) rfl rfl ?_
 refine GoQ.pure rfl (J03 rfl) rfl rfl ?_
 replace dT := dT.ch yf.ch
 refine GoQ.call rfl (J0a body157 rfl (J0l hO.lt dT H)) (fun v w hr => by obtain ⟨_, _, hs, _, _⟩ := hr; assumption) rfl rfl ?_
 rintro Wk RN ⟨r407, rfl, Ex, TN, H⟩
 have yg := Stp.same hO Ex
 replace hO := yg.own
 have zz := omapUpd (MK.str Try.underlying9) 2 hO rfl Try.underlying154 r407 (0 : Int)
 obtain ⟨Wl, fJ, Jx⟩ := zz
 refine GoQ.last rfl (Jx (by exact rfl) (by exact rfl) (by exact rfl)) rfl rfl ?_
 replace hO := fJ.own
 refine GoQ.nil ?_
 refine zq (zr (zm rfl (zm rfl (zo (J01 rfl) (zo (J00 Try.underlying156 rfl ti123 rfl (by decide)) ?_)))))
 refine zo (J00 Try.underlying123 rfl ti23 rfl (by decide)) (zs (oblk (i := 3) 1 hO rfl rfl Try.underlying23 rfl rfl) (zm rfl ?_))
 replace dT := (dT.ch yg.ch).ch fJ.ch
 have zz := J0j (r := Rp.sl (Rp.int .i64)) (n := 1) (parts := [(0, .slice yd r397.length ye)]) (vs := [.slice yd r397.length ye]) (xs := [r397]) rfl Try.underlying23 ti31 hO (by decide) (by kernel_rfl) (Els.cons rfl ⟨yd, ye, rfl, dT⟩ (Els.nil _ _ _) (by simp [mx])) rfl
 obtain ⟨RO, Wm, yh, NK, Ug, Jy⟩ := zz
 refine zg (Jy rfl) ?_
 replace hO := yh.own
 have zz := freeze 0 hO rfl NK
 obtain ⟨hO1, Ey, fo, NL⟩ := zz
 replace hO := hO1; clear hO1
 have iI := Stp.nil (e := 31) (r := 1) hO
 replace hO := iI.own
 have ie := Els.nil (Rp.sl (Rp.int .i64)) (bl (.row 31 1 none 0 0 [] :: [.row 31 1 p35 n37 c36 gz, .blk B10 (.cells #[.int .i64 ((ix a0 (0 : Int)).length : Int), .bool true, .slice p35 n37 c36, .slice none 0 0, .slice none 0 0, .slice none 0 0, .slice none 0 0, .slice none 0 0, .int .i64 0, .map (some B4), .slice none 0 0, .slice none 0 0, .slice none 0 0] 156 (0, 0)), .any (mapE (fun a : List UInt8 => Value.string (gstr a)) (fun a : Int => Value.int .i64 a) B4 (mput (([] : List (Str × Int))) r407 ((0 : Int))))]) ++ A) RO
 obtain ⟨zJ, H⟩ := H
 replace fo := fo.ch iI.ch
 have zz := oapp Try.underlying23 ti31 rfl 0 hO rfl ie fo NL zJ (by decide)
 obtain ⟨Wn, qU, qV, xL, xm, fD, Jz⟩ := zz
 refine zg (Jz (by exact rfl) (by exact rfl)) ?_
 replace hO := xm.own
 refine zo (J01 rfl) (zo (J00 Try.underlying156 rfl ti123 rfl (by decide)) (zo (J00 Try.underlying123 rfl ti23 rfl (by decide)) ?_))
 have zz := J0f (v := .slice qU (0 + 1) qV) (i := 3) (cs' := #[.int .i64 ((ix a0 (0 : Int)).length : Int), .bool true, .slice p35 n37 c36, .slice qU (0 + 1) qV, .slice none 0 0, .slice none 0 0, .slice none 0 0, .slice none 0 0, .int .i64 0, .map (some B4), .slice none 0 0, .slice none 0 0, .slice none 0 0]) 2 hO rfl rfl rfl rfl
 obtain ⟨Wo, wt, JA⟩ := zz
 refine zg (JA Try.underlying23 rfl ti23 (by exact rfl) (by exact rfl)) ?_
 replace hO := wt.own
 refine zn (zq ?_)
 refine Go1.cut [(0, .pointer (some ⟨B10, 0, none⟩)), (2, .int .i64 (-1)), (3, .int .i64 (-1)), (4, .string (gstr (([] : Str)))), (5, .int .i64 (-1)), (13, .int .i64 0)] ⟨rfl, rfl, rfl, rfl, rfl, rfl, trivial⟩ ?_
 intro σ _
 refine zr (zm rfl (zm rfl (zo (J01 rfl) (zo (J00 Try.underlying156 rfl ti123 rfl (by decide)) (zo (J00 Try.underlying123 rfl ti31 rfl (by decide)) ?_)))))
 refine zs (oblk (i := 4) 2 hO rfl rfl Try.underlying31 rfl rfl) (zm rfl ?_)
 have zz := J0j (r := Rp.int .i64) (n := 1) (parts := [(0, .int .i64 (-1))]) (vs := [.int .i64 (-1)]) (xs := [(-1 : Int)]) rfl Try.underlying31 ti3 hO (by decide) (by kernel_rfl) (Els.cons rfl rfl (Els.nil _ _ _) (by simp [mx])) rfl
 obtain ⟨RQ, Wp, wu, NM, Uh, JB⟩ := zz
 refine zg (JB rfl) ?_
 replace hO := wu.own
 have zz := freeze 0 hO rfl NM
 obtain ⟨hO1, yG, fT, NN⟩ := zz
 dsimp only [eS, eZ] at hO1 yG fT
 replace hB := ((((((((((hB.trans Ak.fr).trans yf.fr).trans yg.fr).trans fJ.fr).trans yh.fr).trans (Owns.J09 _ _ 0)).trans iI.fr).trans xm.fr).trans wt.fr).trans wu.fr).trans (Owns.J09 _ _ 0)
 dsimp only [eS, eZ] at hB
 replace hO := hO1; clear hO1
 have vE := Stp.nil (e := 3) (r := 1) hO
 replace hO := vE.own
 have NO := Els.nil (Rp.int .i64) (bl (.row 3 1 none 0 0 [] :: [.row 31 1 qU (0 + 1) qV xL, .row 31 1 p35 n37 c36 gz, .blk B10 (.cells #[.int .i64 ((ix a0 (0 : Int)).length : Int), .bool true, .slice p35 n37 c36, .slice qU (0 + 1) qV, .slice none 0 0, .slice none 0 0, .slice none 0 0, .slice none 0 0, .int .i64 0, .map (some B4), .slice none 0 0, .slice none 0 0, .slice none 0 0] 156 (0, 0)), .any (mapE (fun a : List UInt8 => Value.string (gstr a)) (fun a : Int => Value.int .i64 a) B4 (mput (([] : List (Str × Int))) r407 ((0 : Int))))]) ++ A) RQ
 obtain ⟨RR, H⟩ := H
 replace fT := fT.ch vE.ch
 have zz := oapp Try.underlying31 ti3 rfl 0 hO rfl NO fT NN RR (by decide)
 obtain ⟨Wq, tK, tL, yH, uK, gr, C0⟩ := zz
 dsimp only [sS, sZ] at uK gr
 refine zg (C0 (by exact rfl) (by exact rfl)) ?_
 replace hO := uK.own
 refine zo (J01 rfl) (zo (J00 Try.underlying156 rfl ti123 rfl (by decide)) (zo (J00 Try.underlying123 rfl ti31 rfl (by decide)) ?_))
 have zz := J0f (v := .slice tK (0 + 1) tL) (i := 4) (cs' := #[.int .i64 ((ix a0 (0 : Int)).length : Int), .bool true, .slice p35 n37 c36, .slice qU (0 + 1) qV, .slice tK (0 + 1) tL, .slice none 0 0, .slice none 0 0, .slice none 0 0, .int .i64 0, .map (some B4), .slice none 0 0, .slice none 0 0, .slice none 0 0]) 3 hO rfl rfl rfl rfl
 obtain ⟨Wr, tW, JC⟩ := zz
 dsimp only [sS, sZ] at tW
 refine zg (JC Try.underlying31 rfl ti31 (by exact rfl) (by exact rfl)) ?_
 replace hO := tW.own
 refine zn (zq (zr (zm rfl (zm rfl (zo (J01 rfl) ?_)))))
 refine zo (J00 Try.underlying156 rfl ti123 rfl (by decide)) (zo (J00 Try.underlying123 rfl ti31 rfl (by decide)) (zs (oblk (i := 5) 3 hO rfl rfl Try.underlying31 rfl rfl) (zm rfl ?_)))
 have zz := J0j (r := Rp.int .i64) (n := 1) (parts := [(0, .int .i64 (-1))]) (vs := [.int .i64 (-1)]) (xs := [(-1 : Int)]) rfl Try.underlying31 ti3 hO (by decide) (by kernel_rfl) (Els.cons rfl rfl (Els.nil _ _ _) (by simp [mx])) rfl
 obtain ⟨RS, Ws, iV, NP, Ui, JD⟩ := zz
 refine zg (JD rfl) ?_
 replace hO := iV.own
 have zz := freeze 0 hO rfl NP
 obtain ⟨hO1, wN, ig, NQ⟩ := zz
 dsimp only [eS, eZ] at hO1 wN ig
 replace hB := ((((hB.trans vE.fr).trans uK.fr).trans tW.fr).trans iV.fr).trans (Owns.J09 _ _ 0)
 dsimp only [eS, eZ] at hB
 replace hO := hO1; clear hO1
 have tX := Stp.nil (e := 3) (r := 1) hO
 replace hO := tX.own
 have NR := Els.nil (Rp.int .i64) (bl (.row 3 1 none 0 0 [] :: [.row 3 1 tK (0 + 1) tL yH, .row 31 1 qU (0 + 1) qV xL, .row 31 1 p35 n37 c36 gz, .blk B10 (.cells #[.int .i64 ((ix a0 (0 : Int)).length : Int), .bool true, .slice p35 n37 c36, .slice qU (0 + 1) qV, .slice tK (0 + 1) tL, .slice none 0 0, .slice none 0 0, .slice none 0 0, .int .i64 0, .map (some B4), .slice none 0 0, .slice none 0 0, .slice none 0 0] 156 (0, 0)), .any (mapE (fun a : List UInt8 => Value.string (gstr a)) (fun a : Int => Value.int .i64 a) B4 (mput (([] : List (Str × Int))) r407 ((0 : Int))))]) ++ A) RS
 obtain ⟨RT, H⟩ := H
 replace ig := ig.ch tX.ch
 have zz := oapp Try.underlying31 ti3 rfl 0 hO rfl NR ig NQ RT (by decide)
 obtain ⟨Wt, uY, u0, Al, tn, i6, JE⟩ := zz
 dsimp only [sS, sZ] at tn i6
 refine zg (JE (by exact rfl) (by exact rfl)) ?_
 replace hO := tn.own
 refine zo (J01 rfl) (zo (J00 Try.underlying156 rfl ti123 rfl (by decide)) (zo (J00 Try.underlying123 rfl ti31 rfl (by decide)) ?_))
 have zz := J0f (v := .slice uY (0 + 1) u0) (i := 5) (cs' := #[.int .i64 ((ix a0 (0 : Int)).length : Int), .bool true, .slice p35 n37 c36, .slice qU (0 + 1) qV, .slice tK (0 + 1) tL, .slice uY (0 + 1) u0, .slice none 0 0, .slice none 0 0, .int .i64 0, .map (some B4), .slice none 0 0, .slice none 0 0, .slice none 0 0]) 4 hO rfl rfl rfl rfl
 obtain ⟨RU, rQ, JF⟩ := zz
 dsimp only [sS, sZ] at rQ
 refine zg (JF Try.underlying31 rfl ti31 (by exact rfl) (by exact rfl)) ?_
 replace hO := rQ.own
 refine zn (zq ?_)
 refine Go1.cut [(0, .pointer (some ⟨B10, 0, none⟩)), (4, .string (gstr (([] : Str)))), (5, .int .i64 (-1)), (13, .int .i64 0)] ⟨rfl, rfl, rfl, rfl, trivial⟩ ?_
 intro σ _
 refine zr (zm rfl (zm rfl (zo (J01 rfl) (zo (J00 Try.underlying156 rfl ti30 rfl (by decide)) (zs (oblk (i := 10) 4 hO rfl rfl Try.underlying30 rfl rfl) ?_)))))
 refine zm rfl ?_
 have zz := J0j (r := Rp.str) (n := 1) (parts := [(0, .string (gstr (([] : Str))))]) (vs := [.string (gstr (([] : Str)))]) (xs := [([] : Str)]) rfl Try.underlying30 ti9 hO (by decide) (by kernel_rfl) (Els.cons rfl ⟨rfl, (by decide)⟩ (Els.nil _ _ _) (by simp [mx])) rfl
 obtain ⟨JG, uq, gi, wO, Uj, JH⟩ := zz
 refine zg (JH rfl) ?_
 replace hO := gi.own
 have zz := freeze 0 hO rfl wO
 obtain ⟨hO1, vg, kT, NS⟩ := zz
 dsimp only [eS, eZ] at hO1 vg kT
 replace hB := ((((hB.trans tX.fr).trans tn.fr).trans rQ.fr).trans gi.fr).trans (Owns.J09 _ _ 0)
 dsimp only [eS, eZ] at hB
 replace hO := hO1; clear hO1
 have rR := Stp.nil (e := 9) (r := 1) hO
 replace hO := rR.own
 have NT := Els.nil (Rp.str) (bl (.row 9 1 none 0 0 [] :: [.row 3 1 uY (0 + 1) u0 Al, .row 3 1 tK (0 + 1) tL yH, .row 31 1 qU (0 + 1) qV xL, .row 31 1 p35 n37 c36 gz, .blk B10 (.cells #[.int .i64 ((ix a0 (0 : Int)).length : Int), .bool true, .slice p35 n37 c36, .slice qU (0 + 1) qV, .slice tK (0 + 1) tL, .slice uY (0 + 1) u0, .slice none 0 0, .slice none 0 0, .int .i64 0, .map (some B4), .slice none 0 0, .slice none 0 0, .slice none 0 0] 156 (0, 0)), .any (mapE (fun a : List UInt8 => Value.string (gstr a)) (fun a : Int => Value.int .i64 a) B4 (mput (([] : List (Str × Int))) r407 ((0 : Int))))]) ++ A) JG
 obtain ⟨RV, H⟩ := H
 replace kT := kT.ch rR.ch
 have zz := oapp Try.underlying30 ti9 rfl 0 hO rfl NT kT NS RV (by decide)
 obtain ⟨RW, xa, xb, B3, pQ, nH, JI⟩ := zz
 dsimp only [sS, sZ] at pQ nH
 refine zg (JI (by exact rfl) (by exact rfl)) ?_
 replace hO := pQ.own
 refine zo (J01 rfl) (zo (J00 Try.underlying156 rfl ti30 rfl (by decide)) ?_)
 have zz := J0f (v := .slice xa (0 + 1) xb) (i := 10) (cs' := #[.int .i64 ((ix a0 (0 : Int)).length : Int), .bool true, .slice p35 n37 c36, .slice qU (0 + 1) qV, .slice tK (0 + 1) tL, .slice uY (0 + 1) u0, .slice none 0 0, .slice none 0 0, .int .i64 0, .map (some B4), .slice xa (0 + 1) xb, .slice none 0 0, .slice none 0 0]) 5 hO rfl rfl rfl rfl
 obtain ⟨Wu, nY, C1⟩ := zz
 dsimp only [sS, sZ] at nY
 refine zg (C1 Try.underlying30 rfl ti30 (by exact rfl) (by exact rfl)) ?_
 replace hO := nY.own
 refine zn (zq (zr (zm rfl (zm rfl (zo (J01 rfl) ?_)))))
 refine zo (J00 Try.underlying156 rfl ti31 rfl (by decide)) (zs (oblk (i := 11) 5 hO rfl rfl Try.underlying31 rfl rfl) (zm rfl ?_))
 have zz := J0j (r := Rp.int .i64) (n := 1) (parts := [(0, .int .i64 (-1))]) (vs := [.int .i64 (-1)]) (xs := [(-1 : Int)]) rfl Try.underlying31 ti3 hO (by decide) (by kernel_rfl) (Els.cons rfl rfl (Els.nil _ _ _) (by simp [mx])) rfl
 obtain ⟨RX, Wv, pS, NU, H3, JJ⟩ := zz
 refine zg (JJ rfl) ?_
 replace hO := pS.own
 have zz := freeze 0 hO rfl NU
 obtain ⟨hO1, uc, ud, NV⟩ := zz
 dsimp only [eS, eZ] at hO1 uc ud
 replace hB := ((((hB.trans rR.fr).trans pQ.fr).trans nY.fr).trans pS.fr).trans (Owns.J09 _ _ 0)
 dsimp only [eS, eZ] at hB
 replace hO := hO1; clear hO1
 have n7 := Stp.nil (e := 3) (r := 1) hO
 replace hO := n7.own
 have NW := Els.nil (Rp.int .i64) (bl (.row 3 1 none 0 0 [] :: [.row 9 1 xa (0 + 1) xb B3, .row 3 1 uY (0 + 1) u0 Al, .row 3 1 tK (0 + 1) tL yH, .row 31 1 qU (0 + 1) qV xL, .row 31 1 p35 n37 c36 gz, .blk B10 (.cells #[.int .i64 ((ix a0 (0 : Int)).length : Int), .bool true, .slice p35 n37 c36, .slice qU (0 + 1) qV, .slice tK (0 + 1) tL, .slice uY (0 + 1) u0, .slice none 0 0, .slice none 0 0, .int .i64 0, .map (some B4), .slice xa (0 + 1) xb, .slice none 0 0, .slice none 0 0] 156 (0, 0)), .any (mapE (fun a : List UInt8 => Value.string (gstr a)) (fun a : Int => Value.int .i64 a) B4 (mput (([] : List (Str × Int))) r407 ((0 : Int))))]) ++ A) RX
 obtain ⟨C2, H⟩ := H
 replace ud := ud.ch n7.ch
 have zz := oapp Try.underlying31 ti3 rfl 0 hO rfl NW ud NV C2 (by decide)
 obtain ⟨Ww, zK, zL, Ez, gD, wP, JK⟩ := zz
 dsimp only [sS, sZ] at gD wP
 refine zg (JK (by exact rfl) (by exact rfl)) ?_
 replace hO := gD.own
 refine zo (J01 rfl) (zo (J00 Try.underlying156 rfl ti31 rfl (by decide)) ?_)
 have zz := J0f (v := .slice zK (0 + 1) zL) (i := 11) (cs' := #[.int .i64 ((ix a0 (0 : Int)).length : Int), .bool true, .slice p35 n37 c36, .slice qU (0 + 1) qV, .slice tK (0 + 1) tL, .slice uY (0 + 1) u0, .slice none 0 0, .slice none 0 0, .int .i64 0, .map (some B4), .slice xa (0 + 1) xb, .slice zK (0 + 1) zL, .slice none 0 0]) 6 hO rfl rfl rfl rfl
 obtain ⟨JL, mt, JM⟩ := zz
 dsimp only [sS, sZ] at mt
 refine zg (JM Try.underlying31 rfl ti31 (by exact rfl) (by exact rfl)) ?_
 replace hO := mt.own
 refine zn (zq ?_)
 refine Go1.cut [(13, .int .i64 0)] ⟨rfl, trivial⟩ ?_
 intro σ _
 refine zr (zm rfl (za rfl (zn ?_)))
 refine Go1.ret1V Try.func155 rfl (show _ = .int .i64 0 from rfl) ?_
 refine hR403 _ _ ?_
 refine za rfl (zn (zq (zq (zr (zm rfl ?_)))))
 refine zo (J01 rfl) (zo (J00 Try.underlying156 rfl ti123 rfl (by decide)) (zo (J00 Try.underlying123 rfl ti23 rfl (by decide)) (zs (oblk (i := 2) 6 hO rfl rfl Try.underlying23 rfl rfl) ?_)))
 have Z27 := (((((((((((((((((((((((((((Ak.ch.trans yf.ch).trans yg.ch).trans fJ.ch).trans yh.ch).trans Ey).trans iI.ch).trans xm.ch).trans wt.ch).trans wu.ch).trans yG).trans vE.ch).trans uK.ch).trans tW.ch).trans iV.ch).trans wN).trans tX.ch).trans tn.ch).trans rQ.ch).trans gi.ch).trans vg).trans rR.ch).trans pQ.ch).trans nY.ch).trans pS.ch).trans uc).trans n7.ch).trans gD.ch).trans mt.ch
 replace au := au.ch Z27
 refine zo (J0w Try.underlying23 rfl (au.neq hO 5 rfl)) (zm rfl (zn (zb ?_)))
 have nb := Stp.nil (e := 185) (r := 2) hO
 replace hO := nb.own
 have EA := Els.nil (rpRule) (bl (.row 185 2 none 0 0 [] :: [.row 3 1 zK (0 + 1) zL Ez, .row 9 1 xa (0 + 1) xb B3, .row 3 1 uY (0 + 1) u0 Al, .row 3 1 tK (0 + 1) tL yH, .row 31 1 qU (0 + 1) qV xL, .row 31 1 p35 n37 c36 gz, .blk B10 (.cells #[.int .i64 ((ix a0 (0 : Int)).length : Int), .bool true, .slice p35 n37 c36, .slice qU (0 + 1) qV, .slice tK (0 + 1) tL, .slice uY (0 + 1) u0, .slice none 0 0, .slice none 0 0, .int .i64 0, .map (some B4), .slice xa (0 + 1) xb, .slice zK (0 + 1) zL, .slice none 0 0] 156 (0, 0)), .any (mapE (fun a : List UInt8 => Value.string (gstr a)) (fun a : Int => Value.int .i64 a) B4 (mput (([] : List (Str × Int))) r407 ((0 : Int))))]) ++ A) JL
 have gw := Stp.nil (e := 3) (r := 1) hO
 replace hO := gw.own
 have NX := Els.nil (Rp.int .i64) (bl (.row 3 1 none 0 0 [] :: [.row 185 2 none 0 0 [], .row 3 1 zK (0 + 1) zL Ez, .row 9 1 xa (0 + 1) xb B3, .row 3 1 uY (0 + 1) u0 Al, .row 3 1 tK (0 + 1) tL yH, .row 31 1 qU (0 + 1) qV xL, .row 31 1 p35 n37 c36 gz, .blk B10 (.cells #[.int .i64 ((ix a0 (0 : Int)).length : Int), .bool true, .slice p35 n37 c36, .slice qU (0 + 1) qV, .slice tK (0 + 1) tL, .slice uY (0 + 1) u0, .slice none 0 0, .slice none 0 0, .int .i64 0, .map (some B4), .slice xa (0 + 1) xb, .slice zK (0 + 1) zL, .slice none 0 0] 156 (0, 0)), .any (mapE (fun a : List UInt8 => Value.string (gstr a)) (fun a : Int => Value.int .i64 a) B4 (mput (([] : List (Str × Int))) r407 ((0 : Int))))]) ++ A) JL
 replace EA := EA.ch gw.ch
 replace au := (au.ch nb.ch).ch gw.ch
 have Z28 := (mt.ch.trans nb.ch).trans gw.ch
 replace wP := wP.ch Z28
 replace hB := ((((hB.trans n7.fr).trans gD.fr).trans mt.fr).trans nb.fr).trans gw.fr
 have Z29 := ((((((nY.ch.trans pS.ch).trans uc).trans n7.ch).trans gD.ch).trans mt.ch).trans nb.ch).trans gw.ch
 replace nH := nH.ch Z29
 have Z30 := (((((((((((rQ.ch.trans gi.ch).trans vg).trans rR.ch).trans pQ.ch).trans nY.ch).trans pS.ch).trans uc).trans n7.ch).trans gD.ch).trans mt.ch).trans nb.ch).trans gw.ch
 replace i6 := i6.ch Z30
 have Z31 := ((((((((((((((((tW.ch.trans iV.ch).trans wN).trans tX.ch).trans tn.ch).trans rQ.ch).trans gi.ch).trans vg).trans rR.ch).trans pQ.ch).trans nY.ch).trans pS.ch).trans uc).trans n7.ch).trans gD.ch).trans mt.ch).trans nb.ch).trans gw.ch
 replace gr := gr.ch Z31
 have Z32 := (((((((((((((((((((((wt.ch.trans wu.ch).trans yG).trans vE.ch).trans uK.ch).trans tW.ch).trans iV.ch).trans wN).trans tX.ch).trans tn.ch).trans rQ.ch).trans gi.ch).trans vg).trans rR.ch).trans pQ.ch).trans nY.ch).trans pS.ch).trans uc).trans n7.ch).trans gD.ch).trans mt.ch).trans nb.ch).trans gw.ch
 replace fD := fD.ch Z32
 refine Go1.loopW (S := Nat × List Int × List Rule × List Int × List Str × List Int × List Int × List (List Int) × (List (Str × Int))) (fun s σ w => match s with | (k3_548, d_549, d_555, d_561, d_567, d_573, d_579, d_585, m3_591) => ∃ (iY : Nat) (ka : Option Addr) (kc : Nat) (sO : List Value) (je : Nat) (jN : Option Addr) (jO : Nat) (qW : List Value) (jf : Nat) (jP : Option Addr) (jQ : Nat) (qX : List Value) (jg : Nat) (kd : Option Addr) (ke : Nat) (qY : List Value) (jh : Nat) (ko : Option Addr) (kq : Nat) (q8 : List Value) (ji : Nat) (kO : Option Addr) (kP : Nat) (q9 : List Value) (jj : Nat) (lD : Option Addr) (lE : Nat) (rf : List Value), agrees σ [(6, .pointer (some ⟨B10, 0, none⟩)), (9, .int .i64 0), (85, .slice p35 n37 c36), (86, .int .i64 (d_32.length : Int)), (87, .int .i64 (k3_548 : Int))] ∧ (fun Z0 => Owns w0.heap.size w Z0 A ∧ Els (Rp.int .i64) (bl Z0 ++ A) w sO d_549 ∧ Els (rpRule) (bl Z0 ++ A) w qW d_555 ∧ Els (Rp.int .i64) (bl Z0 ++ A) w qX d_561 ∧ Els (Rp.str) (bl Z0 ++ A) w qY d_567 ∧ Els (Rp.int .i64) (bl Z0 ++ A) w q8 d_573 ∧ Els (Rp.int .i64) (bl Z0 ++ A) w q9 d_579 ∧ Els (Rp.sl (Rp.int .i64)) (bl Z0 ++ A) w rf d_585 ∧ Els (Rp.sl (Rp.int .i64)) (bl Z0 ++ A) w gz d_32 ∧ Fr (bl []) w0 (bl Z0) w) [.row 3 1 ka iY kc sO, .row 185 2 jN je jO qW, .row 3 1 jP jf jQ qX, .row 9 1 kd jg ke qY, .row 3 1 ko jh kq q8, .row 3 1 kO ji kP q9, .row 31 1 lD jj lE rf, .row 31 1 p35 n37 c36 gz, .blk B10 (.cells #[.int .i64 ((ix a0 (0 : Int)).length : Int), .bool true, .slice p35 n37 c36, .slice lD jj lE, .slice kO ji kP, .slice ko jh kq, .slice none 0 0, .slice jN je jO, .int .i64 0, .map (some B4), .slice kd jg ke, .slice jP jf jQ, .slice ka iY kc] 156 (0, 0)), .any (mapE (fun a : List UInt8 => Value.string (gstr a)) (fun a : Int => Value.int .i64 a) B4 m3_591)]) H ⟨0, none, 0, [], 0, none, 0, [], 0 + 1, zK, zL, Ez, 0 + 1, xa, xb, B3, 0 + 1, uY, u0, Al, 0 + 1, tK, tL, yH, 0 + 1, qU, qV, xL, ⟨rfl, rfl, rfl, rfl, rfl, trivial⟩, hO, NX, EA, wP, nH, i6, gr, fD, au, hB⟩ ?_
 intro X3
 refine prE fun k3_548 => prE fun d_549 => prE fun d_555 => prE fun d_561 => prE fun d_567 => prE fun d_573 => prE fun d_579 => prE fun d_585 => fun m3_591 => ?_
 intro H hX3 σ RY
 refine exE fun iY => exE fun ka => exE fun kc => exE fun sO => exE fun je => exE fun jN => exE fun jO => exE fun qW => exE fun jf => exE fun jP => exE fun jQ => exE fun qX => exE fun jg => exE fun kd => exE fun ke => exE fun qY => exE fun jh => exE fun ko => exE fun kq => exE fun q8 => exE fun ji => exE fun kO => exE fun kP => exE fun q9 => exE fun jj => exE fun lD => exE fun lE => exE fun rf => andE fun hag => andE fun hO => andE fun cS => andE fun cW => andE fun cX => andE fun c8 => andE fun dJ => andE fun dY => andE fun eB => andE fun au => fun hB => ?_
 dsimp only at H
 refine Go1.keep [(6, .pointer (some ⟨B10, 0, none⟩)), (9, .int .i64 0), (85, .slice p35 n37 c36), (86, .int .i64 (d_32.length : Int)), (87, .int .i64 (k3_548 : Int))] hag ?_
 refine zq (zr ?_)
 by_cases Bc : (k3_548 : Int) < (d_32.length : Int)
 ·replace H := ifp Bc H
  refine zo (fun w => opB (J08 rfl rfl w) (decide_eq_true Bc)) (zn (zq (zt rfl rfl (zk (zq ?_)))))
  refine zb (zq (zr (zm rfl ?_)))
  obtain ⟨Gc, H⟩ := H
  obtain ⟨Gd, H⟩ := H
  refine zo (J02 Try.underlying23 ti31 rfl rfl Gc (ltn (au.neq hO 7 rfl) Gd) (au.psome hO 7 rfl Gc Gd)) ?_
  have zz := oldSl 7 hO rfl au Gc Gd
  obtain ⟨JN, JO, dF, NY⟩ := zz
  refine zs (NY Try.underlying31 rfl rfl) (za rfl (za rfl (zn (zq (zr ?_)))))
  refine zm rfl ?_
  obtain ⟨Ge, H⟩ := H
  refine zo (J0c rfl rfl (wrap_i64 Ge)) (zo (op_conv Try.underlying3 Try.underlying21 rfl rfl) ?_)
  obtain ⟨R0, H⟩ := H
  obtain ⟨C3, H⟩ := H
  refine zo (op_convRS Try.underlying21 Try.underlying9 rfl R0 C3) (za rfl (zn (zq ?_)))
  refine Go1.drawS 0 [(0, .pure), (1, .pure), (2, .pure), (3, .stable), (4, .pure), (5, .loud), (6, .stable), (7, .pure), (8, .pure), (9, .pure), (10, .pure), (11, .pure)] mixed (by kernel_rfl) ?_
  intro Wx N1
  have ic := Stp.same hO N1
  replace hO := ic.own
  refine GoQ.pure rfl (J03 rfl) rfl rfl ?_
  refine GoQ.pure rfl (J01 rfl) rfl rfl ?_
  refine GoQ.pure rfl (J00 Try.underlying156 rfl ti154 rfl (by decide)) rfl rfl ?_
  refine GoQ.stable rfl (oblk (i := 9) 8 hO rfl rfl Try.underlying154 rfl rfl) rfl rfl ?_
  refine GoQ.pure rfl (J03 rfl) rfl rfl ?_
  replace dF := dF.ch ic.ch
  refine GoQ.call rfl (J0a body157 rfl (J0l hO.lt dF H)) (fun v w hr => by obtain ⟨_, _, hs, _, _⟩ := hr; assumption) rfl rfl ?_
  rintro Wy Wz ⟨r605, rfl, N2, TO, H⟩
  have tp := Stp.same hO N2
  replace hO := tp.own
  by_cases xc : mhas m3_591 r605 = true
  ·replace H := ifp xc H
   refine GoQ.stable rfl (olookT (a := r605) (MK.str Try.underlying9) 9 hO rfl Try.underlying154 rfl rfl xc) rfl rfl ?_
   refine GoQ.pure rfl (J03 rfl) rfl rfl ?_
   refine GoQ.pure rfl (J07 rfl rfl) rfl rfl ?_
   refine GoQ.pure rfl (J07 rfl rfl) rfl rfl ?_
   refine GoQ.pure rfl (J0e rfl) rfl rfl ?_
   refine GoQ.pure rfl (J0e rfl) rfl rfl ?_
   refine GoQ.nil ?_
   refine zq (zq ?_)
   refine Go1.cut [(6, .pointer (some ⟨B10, 0, none⟩)), (9, .int .i64 0), (10, .int .i64 (k3_548 : Int)), (11, .slice JN ((ix d_32 (k3_548 : Int)).length) JO), (12, .string (gstr (chr (IntKind.i32.wrap ((97 : Int) + (k3_548 : Int)))))), (13, .int .i64 (mgt m3_591 r605)), (14, .bool true), (85, .slice p35 n37 c36), (86, .int .i64 (d_32.length : Int)), (87, .int .i64 (k3_548 : Int))] ⟨rfl, rfl, rfl, rfl, rfl, rfl, rfl, rfl, rfl, rfl, trivial⟩ ?_
   intro σ _
   refine zr (zm rfl (zn (zt rfl rfl ?_)))
   refine Go1.drawS 5 [(0, .pure), (1, .pure), (2, .pure), (3, .pure), (4, .pure), (5, .stable), (6, .pure), (7, .pure), (8, .pure), (9, .pure), (10, .stable), (11, .pure), (12, .pure), (13, .stable), (14, .pure), (15, .loud), (16, .last), (17, .pure), (18, .pure), (19, .pure), (20, .last)] mixed (by kernel_rfl) ?_
   intro WA N3
   have tq := Stp.same hO N3
   replace hO := tq.own
   refine GoQ.pure rfl (J03 rfl) rfl rfl ?_
   refine GoQ.pure rfl (J03 rfl) rfl rfl ?_
   refine GoQ.pure rfl (J01 rfl) rfl rfl ?_
   refine GoQ.pure rfl (J00 Try.underlying156 rfl ti123 rfl (by decide)) rfl rfl ?_
   refine GoQ.pure rfl (J00 Try.underlying123 rfl ti121 rfl (by decide)) rfl rfl ?_
   refine GoQ.stable rfl (oblk (i := 7) 8 hO rfl rfl Try.underlying121 rfl rfl) rfl rfl ?_
   refine GoQ.pure rfl (J03 rfl) rfl rfl ?_
   refine GoQ.pure rfl (J03 rfl) rfl rfl ?_
   refine GoQ.pure rfl (J01 rfl) rfl rfl ?_
   refine GoQ.pure rfl (J00 Try.underlying156 rfl ti30 rfl (by decide)) rfl rfl ?_
   refine GoQ.stable rfl (oblk (i := 10) 8 hO rfl rfl Try.underlying30 rfl rfl) rfl rfl ?_
   refine GoQ.pure rfl (J03 rfl) rfl rfl ?_
   obtain ⟨EB, H⟩ := H
   obtain ⟨EC, H⟩ := H
   have Z33 := (ic.ch.trans tp.ch).trans tq.ch
   replace c8 := c8.ch Z33
   refine GoQ.pure rfl (J02 Try.underlying30 ti9 rfl rfl EB (ltn (c8.neq hO 3 rfl) EC) (c8.psome hO 3 rfl EB EC)) rfl rfl ?_
   refine GoQ.stable rfl (oldStr 3 hO rfl c8 EB EC Try.underlying9 rfl rfl) rfl rfl ?_
   have hle617 := Els.str_le c8 EB EC
   refine GoQ.pure rfl (J0s Try.underlying185 ti185 (pl := [(0, 1), (1, 1)]) (vs := [(0, .string (gstr (chr (IntKind.i32.wrap ((97 : Int) + (k3_548 : Int)))))), (1, .string (gstr (ix d_567 (mgt m3_591 r605))))]) (cs := #[.string (gstr (chr (IntKind.i32.wrap ((97 : Int) + (k3_548 : Int))))), .string (gstr (ix d_567 (mgt m3_591 r605)))]) (by kernel_rfl) rfl (by kernel_rfl)) rfl rfl ?_
   have zz := obuildN (r := rpRule) (n := 1) (parts := [(0, .agg #[.string (gstr (chr (IntKind.i32.wrap ((97 : Int) + (k3_548 : Int))))), .string (gstr (ix d_567 (mgt m3_591 r605)))])]) (vs := [.string (gstr (chr (IntKind.i32.wrap ((97 : Int) + (k3_548 : Int))))), .string (gstr (ix d_567 (mgt m3_591 r605)))]) (xs := [(⟨(chr (IntKind.i32.wrap ((97 : Int) + (k3_548 : Int)))), ix d_567 (mgt m3_591 r605)⟩ : Rule)]) Try.underlying121 ti185 hO (by decide) (by decide) (by kernel_rfl) (Els.flat1 (⟨(chr (IntKind.i32.wrap ((97 : Int) + (k3_548 : Int)))), ix d_567 (mgt m3_591 r605)⟩ : Rule) ⟨(chr_le _), hle617⟩) rfl
   obtain ⟨R2, WB, ip, N4, N5, JP⟩ := zz
   refine GoQ.loud rfl (JP rfl) N5 rfl rfl ?_
   replace hO := ip.own
   have zz := freeze 0 hO rfl N4
   obtain ⟨hO1, vh, sP, N6⟩ := zz
   dsimp only [eS, eZ] at hO1 vh sP
   replace hB := ((((hB.trans ic.fr).trans tp.fr).trans tq.fr).trans ip.fr).trans (Owns.J09 _ _ 0)
   dsimp only [eS, eZ] at hB
   replace hO := hO1; clear hO1
   obtain ⟨R3, H⟩ := H
   replace cW := ((cW.ch Z33).ch ip.ch).ch vh
   have zz := oapp Try.underlying121 ti185 rfl 1 hO rfl cW sP N6 R3 (by decide)
   obtain ⟨WC, ED, EE, N7, rS, ue, JQ⟩ := zz
   dsimp only [sS, sZ] at rS ue
   refine GoQ.last rfl (JQ (by exact rfl) (by exact rfl)) rfl rfl ?_
   replace hO := rS.own
   refine GoQ.pure rfl (J01 rfl) rfl rfl ?_
   refine GoQ.pure rfl (J00 Try.underlying156 rfl ti123 rfl (by decide)) rfl rfl ?_
   refine GoQ.pure rfl (J00 Try.underlying123 rfl ti121 rfl (by decide)) rfl rfl ?_
   have zz := J0f (v := .slice ED (je + 1) EE) (i := 7) (cs' := #[.int .i64 ((ix a0 (0 : Int)).length : Int), .bool true, .slice p35 n37 c36, .slice lD jj lE, .slice kO ji kP, .slice ko jh kq, .slice none 0 0, .slice ED (je + 1) EE, .int .i64 0, .map (some B4), .slice kd jg ke, .slice jP jf jQ, .slice ka iY kc]) 8 hO rfl rfl rfl rfl
   obtain ⟨R4, pT, JR⟩ := zz
   dsimp only [sS, sZ] at pT
   refine GoQ.last rfl (JR Try.underlying121 rfl ti121 (by exact rfl) (by exact rfl)) rfl rfl ?_
   replace hO := pT.own
   refine GoQ.nil ?_
   refine Go1.cut [(6, .pointer (some ⟨B10, 0, none⟩)), (9, .int .i64 0), (13, .int .i64 (mgt m3_591 r605)), (85, .slice p35 n37 c36), (86, .int .i64 (d_32.length : Int)), (87, .int .i64 (k3_548 : Int))] ⟨rfl, rfl, rfl, rfl, rfl, rfl, trivial⟩ ?_
   intro σ _
   refine zr (zm rfl (zm rfl (zo (J01 rfl) (zo (J00 Try.underlying156 rfl ti31 rfl (by decide)) (zs (oblk (i := 12) 8 hO rfl rfl Try.underlying31 rfl rfl) ?_)))))
   refine zm rfl ?_
   have zz := J0j (r := Rp.int .i64) (n := 1) (parts := [(0, .int .i64 (mgt m3_591 r605))]) (vs := [.int .i64 (mgt m3_591 r605)]) (xs := [(mgt m3_591 r605)]) rfl Try.underlying31 ti3 hO (by decide) (by kernel_rfl) (Els.cons rfl rfl (Els.nil _ _ _) (by simp [mx])) rfl
   obtain ⟨WD, WE, rT, N8, Uk, C4⟩ := zz
   refine zg (C4 rfl) ?_
   replace hO := rT.own
   have zz := freeze 0 hO rfl N8
   obtain ⟨hO1, uL, yI, N9⟩ := zz
   dsimp only [eS, eZ] at hO1 uL yI
   replace hB := (((hB.trans rS.fr).trans pT.fr).trans rT.fr).trans (Owns.J09 _ _ 0)
   dsimp only [eS, eZ] at hB
   replace hO := hO1; clear hO1
   obtain ⟨R5, H⟩ := H
   have Z34 := (((((Z33.trans ip.ch).trans vh).trans rS.ch).trans pT.ch).trans rT.ch).trans uL
   replace cS := cS.ch Z34
   have zz := oapp Try.underlying31 ti3 rfl 0 hO rfl cS yI N9 R5 (by decide)
   obtain ⟨R6, Gf, Gg, Oa, pU, B5, JS⟩ := zz
   dsimp only [sS, sZ] at pU B5
   refine zg (JS (by exact rfl) (by exact rfl)) ?_
   replace hO := pU.own
   refine zo (J01 rfl) (zo (J00 Try.underlying156 rfl ti31 rfl (by decide)) ?_)
   have zz := J0f (v := .slice Gf (iY + 1) Gg) (i := 12) (cs' := #[.int .i64 ((ix a0 (0 : Int)).length : Int), .bool true, .slice p35 n37 c36, .slice lD jj lE, .slice kO ji kP, .slice ko jh kq, .slice none 0 0, .slice ED (je + 1) EE, .int .i64 0, .map (some B4), .slice kd jg ke, .slice jP jf jQ, .slice Gf (iY + 1) Gg]) 8 hO rfl rfl rfl rfl
   obtain ⟨WF, n8, JT⟩ := zz
   dsimp only [sS, sZ] at n8
   refine zg (JT Try.underlying31 rfl ti31 (by exact rfl) (by exact rfl)) ?_
   replace hO := n8.own
   refine zn ?_
   refine Go1.inBlock ?_
   refine zr ?_
   replace au := ((au.ch Z34).ch pU.ch).ch n8.ch
   refine zo (J0c rfl rfl (wrap_i64 (natbd Bc au.bd))) (zm rfl (zn ?_))
   replace B5 := B5.ch n8.ch
   replace hB := (hB.trans pU.fr).trans n8.fr
   have Z35 := (((pT.ch.trans rT.ch).trans uL).trans pU.ch).trans n8.ch
   replace ue := ue.ch Z35
   have Z36 := ((((((ip.ch.trans vh).trans rS.ch).trans pT.ch).trans rT.ch).trans uL).trans pU.ch).trans n8.ch
   replace c8 := c8.ch Z36
   have Z37 := (Z34.trans pU.ch).trans n8.ch
   replace cX := cX.ch Z37
   replace dJ := dJ.ch Z37
   replace dY := dY.ch Z37
   replace eB := eB.ch Z37
   exact hX3 _ H _ _ ⟨iY + 1, Gf, Gg, Oa, je + 1, ED, EE, N7, jf, jP, jQ, qX, jg, kd, ke, qY, jh, ko, kq, q8, ji, kO, kP, q9, jj, lD, lE, rf, ⟨rfl, rfl, rfl, rfl, rfl, trivial⟩, hO, B5, ue, cX, c8, dJ, dY, eB, au, hB⟩
  replace H := ifn xc H
  refine GoQ.stable rfl (olookF (a := r605) (MK.str Try.underlying9) 9 hO rfl Try.underlying154 ti3 rfl rfl xc) rfl rfl ?_
  refine GoQ.pure rfl (J03 rfl) rfl rfl ?_
  refine GoQ.pure rfl (J07 rfl rfl) rfl rfl ?_
  refine GoQ.pure rfl (J07 rfl rfl) rfl rfl ?_
  refine GoQ.pure rfl (J0e rfl) rfl rfl ?_
  refine GoQ.pure rfl (J0e rfl) rfl rfl ?_
  refine GoQ.nil ?_
  refine zq (zq (zr (zm rfl (zn (zf rfl rfl ?_)))))
  refine Go1.cut [(6, .pointer (some ⟨B10, 0, none⟩)), (9, .int .i64 0), (10, .int .i64 (k3_548 : Int)), (11, .slice JN ((ix d_32 (k3_548 : Int)).length) JO), (12, .string (gstr (chr (IntKind.i32.wrap ((97 : Int) + (k3_548 : Int)))))), (85, .slice p35 n37 c36), (86, .int .i64 (d_32.length : Int)), (87, .int .i64 (k3_548 : Int))] ⟨rfl, rfl, rfl, rfl, rfl, rfl, rfl, rfl, trivial⟩ ?_
  intro σ _
  refine zr (zm rfl (zm rfl ?_))
  replace dF := dF.ch tp.ch
  refine GoR.call (J0a body86 rfl (J0F hO.lt dF H)) rfl rfl ?_
  rintro WG WH ⟨r662, yj, vF, vG, TP, rfl, Ob, hN666, vi, H⟩
  have rU := Stp.more hO Ob hN666
  dsimp only [List.cons_append, List.nil_append] at rU
  replace hO := rU.own
  refine zm rfl (zm rfl (zm rfl (zm rfl ?_)))
  refine GoR.inl (vs := [.pointer (some ⟨B10, 0, none⟩), .slice vF yj vG, .int .i64 0, .int .i64 (k3_548 : Int), .string (gstr (chr (IntKind.i32.wrap ((97 : Int) + (k3_548 : Int))))), .int .i64 0]) (caps := []) rfl rfl body155 Try.func155 rfl Try.ntmps155 rfl rfl rfl ?_
  intro RhR670 hR670
  refine zq (zr (za rfl (zn (zq (zr ?_)))))
  refine zm rfl (zo (J01 rfl) (zo (J00 Try.underlying156 rfl ti123 rfl (by decide)) (zo (J00 Try.underlying123 rfl ti23 rfl (by decide)) (zs (oblk (i := 3) 9 hO rfl rfl Try.underlying23 rfl rfl) ?_))))
  have Z38 := (ic.ch.trans tp.ch).trans rU.ch
  replace eB := eB.ch Z38
  refine zo (J0w Try.underlying23 rfl (eB.neq hO 7 rfl)) (za rfl (zn (zq ?_)))
  refine Go1.drawS 1 [(0, .pure), (1, .pure), (2, .pure), (3, .stable), (4, .pure), (6, .pure), (5, .loud), (7, .last)] mixed (by kernel_rfl) ?_
  intro WI Oc
  have rV := Stp.same hO Oc
  replace hO := rV.own
  refine GoQ.pure rfl (J03 rfl) rfl rfl ?_
  refine GoQ.pure rfl (J01 rfl) rfl rfl ?_
  refine GoQ.pure rfl (J00 Try.underlying156 rfl ti154 rfl (by decide)) rfl rfl ?_
  refine GoQ.stable rfl (oblk (i := 9) 9 hO rfl rfl Try.underlying154 rfl rfl) rfl rfl ?_
  refine GoQ.pure rfl (J03 rfl) rfl rfl ?_
  refine GoQ.pure rfl (J03 rfl) rfl rfl ?_
  replace vi := vi.ch (Ch.assoc _ _ _ _)
  replace vi := vi.ch rV.ch
  have zz := rowlend 0 hO rfl vi
  obtain ⟨Od, Oe⟩ := zz
  have hOc676 := hO.drop 0
  refine GoQ.call rfl (J0a body157 (show ([.slice vF yj vG] : List Value) = [.slice vF r662.length vG] from by rw [← Oe]) (J0l hOc676.lt Od H)) (fun v w hr => by obtain ⟨_, _, hs, _, _⟩ := hr; assumption) rfl rfl ?_
  rintro WJ WK ⟨r677, rfl, Og, TQ, H⟩
  have rW := Stp.same hO Og
  replace hO := rW.own
  have zz := omapUpd (MK.str Try.underlying9) 10 hO rfl Try.underlying154 r677 (d_585.length : Int)
  obtain ⟨WL, pV, JU⟩ := zz
  dsimp only [sS, sZ] at pV
  refine GoQ.last rfl (JU (by exact rfl) (by exact rfl) (by exact rfl)) rfl rfl ?_
  replace hO := pV.own
  refine GoQ.nil ?_
  refine zq ?_
  refine Go1.cut [(0, .pointer (some ⟨B10, 0, none⟩)), (1, .slice vF yj vG), (2, .int .i64 0), (3, .int .i64 (k3_548 : Int)), (4, .string (gstr (chr (IntKind.i32.wrap ((97 : Int) + (k3_548 : Int)))))), (5, .int .i64 0), (13, .int .i64 (d_585.length : Int))] ⟨rfl, rfl, rfl, rfl, rfl, rfl, rfl, trivial⟩ ?_
  intro σ _
  refine zr (zm rfl (zm rfl (zo (J01 rfl) (zo (J00 Try.underlying156 rfl ti123 rfl (by decide)) (zo (J00 Try.underlying123 rfl ti23 rfl (by decide)) ?_)))))
  refine zs (oblk (i := 3) 9 hO rfl rfl Try.underlying23 rfl rfl) (zm rfl ?_)
  replace vi := (vi.ch rW.ch).ch pV.ch
  have zz := freeze 0 hO rfl vi
  obtain ⟨hO1, vj, fv, Oh⟩ := zz
  dsimp only [eS, eZ] at hO1 vj fv
  replace hB := ((((((hB.trans ic.fr).trans tp.fr).trans rU.fr).trans rV.fr).trans rW.fr).trans pV.fr).trans (Owns.J09 _ _ 0)
  dsimp only [eS, eZ] at hB
  replace hO := hO1; clear hO1
  have zz := J0j (r := Rp.sl (Rp.int .i64)) (n := 1) (parts := [(0, .slice vF yj vG)]) (vs := [.slice vF yj vG]) (xs := [r662]) rfl Try.underlying23 ti31 hO (by decide) (by kernel_rfl) (Els.cons rfl ⟨vF, vG, congrArg some (congrArg (fun nn => Value.slice vF nn vG) Oh), fv⟩ (Els.nil _ _ _) (by simp [mx])) rfl
  obtain ⟨WM, WN, rX, Oi, Ul, JV⟩ := zz
  refine zg (JV rfl) ?_
  replace hO := rX.own
  have zz := freeze 0 hO rfl Oi
  obtain ⟨hO1, uM, fI, Oj⟩ := zz
  dsimp only [eS, eZ] at hO1 uM fI
  replace hB := (hB.trans rX.fr).trans (Owns.J09 _ _ 0)
  dsimp only [eS, eZ] at hB
  replace hO := hO1; clear hO1
  obtain ⟨R7, H⟩ := H
  have Z39 := ((((rV.ch.trans rW.ch).trans pV.ch).trans vj).trans rX.ch).trans uM
  replace eB := eB.ch Z39
  have zz := oapp Try.underlying23 ti31 rfl 6 hO rfl eB fI Oj R7 (by decide)
  obtain ⟨WO, yk, yl, Ok, pW, fN, JW⟩ := zz
  dsimp only [sS, sZ] at pW fN
  refine zg (JW (by exact rfl) (by exact rfl)) ?_
  replace hO := pW.own
  refine zo (J01 rfl) (zo (J00 Try.underlying156 rfl ti123 rfl (by decide)) (zo (J00 Try.underlying123 rfl ti23 rfl (by decide)) ?_))
  have zz := J0f (v := .slice yk (jj + 1) yl) (i := 3) (cs' := #[.int .i64 ((ix a0 (0 : Int)).length : Int), .bool true, .slice p35 n37 c36, .slice yk (jj + 1) yl, .slice kO ji kP, .slice ko jh kq, .slice none 0 0, .slice jN je jO, .int .i64 0, .map (some B4), .slice kd jg ke, .slice jP jf jQ, .slice ka iY kc]) 8 hO rfl rfl rfl rfl
  obtain ⟨WP, n9, JX⟩ := zz
  dsimp only [sS, sZ] at n9
  refine zg (JX Try.underlying23 rfl ti23 (by exact rfl) (by exact rfl)) ?_
  replace hO := n9.own
  refine zn (zq (zr (zm rfl (zm rfl (zo (J01 rfl) ?_)))))
  refine zo (J00 Try.underlying156 rfl ti123 rfl (by decide)) (zo (J00 Try.underlying123 rfl ti31 rfl (by decide)) (zs (oblk (i := 4) 8 hO rfl rfl Try.underlying31 rfl rfl) (zm rfl ?_)))
  have zz := J0j (r := Rp.int .i64) (n := 1) (parts := [(0, .int .i64 0)]) (vs := [.int .i64 0]) (xs := [(0 : Int)]) rfl Try.underlying31 ti3 hO (by decide) (by kernel_rfl) (Els.cons rfl rfl (Els.nil _ _ _) (by simp [mx])) rfl
  obtain ⟨WQ, WR, pX, Ol, Um, JY⟩ := zz
  refine zg (JY rfl) ?_
  replace hO := pX.own
  have zz := freeze 0 hO rfl Ol
  obtain ⟨hO1, uf, gs, Om⟩ := zz
  dsimp only [eS, eZ] at hO1 uf gs
  replace hB := (((hB.trans pW.fr).trans n9.fr).trans pX.fr).trans (Owns.J09 _ _ 0)
  dsimp only [eS, eZ] at hB
  replace hO := hO1; clear hO1
  obtain ⟨R8, H⟩ := H
  have Z40 := (((((((((Z38.trans rV.ch).trans rW.ch).trans pV.ch).trans vj).trans rX.ch).trans uM).trans pW.ch).trans n9.ch).trans pX.ch).trans uf
  replace dY := dY.ch Z40
  have zz := oapp Try.underlying31 ti3 rfl 5 hO rfl dY gs Om R8 (by decide)
  obtain ⟨WS, zM, zN, Oo, oa, gF, J0⟩ := zz
  dsimp only [sS, sZ] at oa gF
  refine zg (J0 (by exact rfl) (by exact rfl)) ?_
  replace hO := oa.own
  refine zo (J01 rfl) (zo (J00 Try.underlying156 rfl ti123 rfl (by decide)) (zo (J00 Try.underlying123 rfl ti31 rfl (by decide)) ?_))
  have zz := J0f (v := .slice zM (ji + 1) zN) (i := 4) (cs' := #[.int .i64 ((ix a0 (0 : Int)).length : Int), .bool true, .slice p35 n37 c36, .slice yk (jj + 1) yl, .slice zM (ji + 1) zN, .slice ko jh kq, .slice none 0 0, .slice jN je jO, .int .i64 0, .map (some B4), .slice kd jg ke, .slice jP jf jQ, .slice ka iY kc]) 8 hO rfl rfl rfl rfl
  obtain ⟨WT, nc, J1⟩ := zz
  dsimp only [sS, sZ] at nc
  refine zg (J1 Try.underlying31 rfl ti31 (by exact rfl) (by exact rfl)) ?_
  replace hO := nc.own
  refine zn (zq ?_)
  refine Go1.cut [(0, .pointer (some ⟨B10, 0, none⟩)), (3, .int .i64 (k3_548 : Int)), (4, .string (gstr (chr (IntKind.i32.wrap ((97 : Int) + (k3_548 : Int)))))), (5, .int .i64 0), (13, .int .i64 (d_585.length : Int))] ⟨rfl, rfl, rfl, rfl, rfl, trivial⟩ ?_
  intro σ _
  refine zr (zm rfl (zm rfl (zo (J01 rfl) (zo (J00 Try.underlying156 rfl ti123 rfl (by decide)) (zo (J00 Try.underlying123 rfl ti31 rfl (by decide)) ?_)))))
  refine zs (oblk (i := 5) 8 hO rfl rfl Try.underlying31 rfl rfl) (zm rfl ?_)
  have zz := J0j (r := Rp.int .i64) (n := 1) (parts := [(0, .int .i64 (k3_548 : Int))]) (vs := [.int .i64 (k3_548 : Int)]) (xs := [(k3_548 : Int)]) rfl Try.underlying31 ti3 hO (by decide) (by kernel_rfl) (Els.cons rfl rfl (Els.nil _ _ _) (by simp [mx])) rfl
  obtain ⟨WU, WW, ob, Oq, Un, J2⟩ := zz
  refine zg (J2 rfl) ?_
  replace hO := ob.own
  have zz := freeze 0 hO rfl Oq
  obtain ⟨hO1, tD, iN, Os⟩ := zz
  dsimp only [eS, eZ] at hO1 tD iN
  replace hB := (((hB.trans oa.fr).trans nc.fr).trans ob.fr).trans (Owns.J09 _ _ 0)
  dsimp only [eS, eZ] at hB
  replace hO := hO1; clear hO1
  obtain ⟨R9, H⟩ := H
  have Z41 := (((Z40.trans oa.ch).trans nc.ch).trans ob.ch).trans tD
  replace dJ := dJ.ch Z41
  have zz := oapp Try.underlying31 ti3 rfl 4 hO rfl dJ iN Os R9 (by decide)
  obtain ⟨WX, Bd, Be, Ot, ne, i7, J3⟩ := zz
  dsimp only [sS, sZ] at ne i7
  refine zg (J3 (by exact rfl) (by exact rfl)) ?_
  replace hO := ne.own
  refine zo (J01 rfl) (zo (J00 Try.underlying156 rfl ti123 rfl (by decide)) (zo (J00 Try.underlying123 rfl ti31 rfl (by decide)) ?_))
  have zz := J0f (v := .slice Bd (jh + 1) Be) (i := 5) (cs' := #[.int .i64 ((ix a0 (0 : Int)).length : Int), .bool true, .slice p35 n37 c36, .slice yk (jj + 1) yl, .slice zM (ji + 1) zN, .slice Bd (jh + 1) Be, .slice none 0 0, .slice jN je jO, .int .i64 0, .map (some B4), .slice kd jg ke, .slice jP jf jQ, .slice ka iY kc]) 8 hO rfl rfl rfl rfl
  obtain ⟨WY, mv, J4⟩ := zz
  dsimp only [sS, sZ] at mv
  refine zg (J4 Try.underlying31 rfl ti31 (by exact rfl) (by exact rfl)) ?_
  replace hO := mv.own
  refine zn (zq (zr (zm rfl (zm rfl (zo (J01 rfl) ?_)))))
  refine zo (J00 Try.underlying156 rfl ti30 rfl (by decide)) (zs (oblk (i := 10) 8 hO rfl rfl Try.underlying30 rfl rfl) (zm rfl ?_))
  have zz := J0j (r := Rp.str) (n := 1) (parts := [(0, .string (gstr (chr (IntKind.i32.wrap ((97 : Int) + (k3_548 : Int))))))]) (vs := [.string (gstr (chr (IntKind.i32.wrap ((97 : Int) + (k3_548 : Int)))))]) (xs := [chr (IntKind.i32.wrap ((97 : Int) + (k3_548 : Int)))]) rfl Try.underlying30 ti9 hO (by decide) (by kernel_rfl) (Els.cons rfl ⟨rfl, (chr_le _)⟩ (Els.nil _ _ _) (by simp [mx])) rfl
  obtain ⟨W0, W1, nf, Ou, Uo, J5⟩ := zz
  refine zg (J5 rfl) ?_
  replace hO := nf.own
  have zz := freeze 0 hO rfl Ou
  obtain ⟨hO1, sQ, kU, Ov⟩ := zz
  dsimp only [eS, eZ] at hO1 sQ kU
  replace hB := (((hB.trans ne.fr).trans mv.fr).trans nf.fr).trans (Owns.J09 _ _ 0)
  dsimp only [eS, eZ] at hB
  replace hO := hO1; clear hO1
  obtain ⟨Sa, H⟩ := H
  have Z42 := (((Z41.trans ne.ch).trans mv.ch).trans nf.ch).trans sQ
  replace c8 := c8.ch Z42
  have zz := oapp Try.underlying30 ti9 rfl 3 hO rfl c8 kU Ov Sa (by decide)
  obtain ⟨W2, C5, C6, Ow, mw, ml, J6⟩ := zz
  dsimp only [sS, sZ] at mw ml
  refine zg (J6 (by exact rfl) (by exact rfl)) ?_
  replace hO := mw.own
  refine zo (J01 rfl) (zo (J00 Try.underlying156 rfl ti30 rfl (by decide)) ?_)
  have zz := J0f (v := .slice C5 (jg + 1) C6) (i := 10) (cs' := #[.int .i64 ((ix a0 (0 : Int)).length : Int), .bool true, .slice p35 n37 c36, .slice yk (jj + 1) yl, .slice zM (ji + 1) zN, .slice Bd (jh + 1) Be, .slice none 0 0, .slice jN je jO, .int .i64 0, .map (some B4), .slice C5 (jg + 1) C6, .slice jP jf jQ, .slice ka iY kc]) 8 hO rfl rfl rfl rfl
  obtain ⟨W3, lP, J7⟩ := zz
  dsimp only [sS, sZ] at lP
  refine zg (J7 Try.underlying30 rfl ti30 (by exact rfl) (by exact rfl)) ?_
  replace hO := lP.own
  refine zn (zq ?_)
  refine Go1.cut [(0, .pointer (some ⟨B10, 0, none⟩)), (5, .int .i64 0), (13, .int .i64 (d_585.length : Int))] ⟨rfl, rfl, rfl, trivial⟩ ?_
  intro σ _
  refine zr (zm rfl (zm rfl (zo (J01 rfl) (zo (J00 Try.underlying156 rfl ti31 rfl (by decide)) (zs (oblk (i := 11) 8 hO rfl rfl Try.underlying31 rfl rfl) ?_)))))
  refine zm rfl ?_
  have zz := J0j (r := Rp.int .i64) (n := 1) (parts := [(0, .int .i64 0)]) (vs := [.int .i64 0]) (xs := [(0 : Int)]) rfl Try.underlying31 ti3 hO (by decide) (by kernel_rfl) (Els.cons rfl rfl (Els.nil _ _ _) (by simp [mx])) rfl
  obtain ⟨W4, W5, my, Ox, Up, J8⟩ := zz
  refine zg (J8 rfl) ?_
  replace hO := my.own
  have zz := freeze 0 hO rfl Ox
  obtain ⟨hO1, rh, sR, Oy⟩ := zz
  dsimp only [eS, eZ] at hO1 rh sR
  replace hB := (((hB.trans mw.fr).trans lP.fr).trans my.fr).trans (Owns.J09 _ _ 0)
  dsimp only [eS, eZ] at hB
  replace hO := hO1; clear hO1
  obtain ⟨Sb, H⟩ := H
  have Z43 := (((Z42.trans mw.ch).trans lP.ch).trans my.ch).trans rh
  replace cX := cX.ch Z43
  have zz := oapp Try.underlying31 ti3 rfl 2 hO rfl cX sR Oy Sb (by decide)
  obtain ⟨W6, EF, EG, Oz, lQ, ug, J9⟩ := zz
  dsimp only [sS, sZ] at lQ ug
  refine zg (J9 (by exact rfl) (by exact rfl)) ?_
  replace hO := lQ.own
  refine zo (J01 rfl) (zo (J00 Try.underlying156 rfl ti31 rfl (by decide)) ?_)
  have zz := J0f (v := .slice EF (jf + 1) EG) (i := 11) (cs' := #[.int .i64 ((ix a0 (0 : Int)).length : Int), .bool true, .slice p35 n37 c36, .slice yk (jj + 1) yl, .slice zM (ji + 1) zN, .slice Bd (jh + 1) Be, .slice none 0 0, .slice jN je jO, .int .i64 0, .map (some B4), .slice C5 (jg + 1) C6, .slice EF (jf + 1) EG, .slice ka iY kc]) 8 hO rfl rfl rfl rfl
  obtain ⟨W7, ld, Ka⟩ := zz
  dsimp only [sS, sZ] at ld
  refine zg (Ka Try.underlying31 rfl ti31 (by exact rfl) (by exact rfl)) ?_
  replace hO := ld.own
  refine zn (zq (zr (zm rfl (za rfl (zn ?_)))))
  refine Go1.ret1V Try.func155 rfl (show _ = .int .i64 (d_585.length : Int) from rfl) ?_
  refine hR670 _ _ ?_
  refine za rfl (zn (zr (zm rfl (zm rfl (zo (J01 rfl) ?_)))))
  refine zo (J00 Try.underlying156 rfl ti31 rfl (by decide)) (zs (oblk (i := 12) 8 hO rfl rfl Try.underlying31 rfl rfl) (zm rfl ?_))
  have zz := J0j (r := Rp.int .i64) (n := 1) (parts := [(0, .int .i64 (d_585.length : Int))]) (vs := [.int .i64 (d_585.length : Int)]) (xs := [(d_585.length : Int)]) rfl Try.underlying31 ti3 hO (by decide) (by kernel_rfl) (Els.cons rfl rfl (Els.nil _ _ _) (by simp [mx])) rfl
  obtain ⟨W8, W9, lR, OA, Uq, Kb⟩ := zz
  refine zg (Kb rfl) ?_
  replace hO := lR.own
  have zz := freeze 0 hO rfl OA
  obtain ⟨hO1, pr, yJ, OB⟩ := zz
  dsimp only [eS, eZ] at hO1 pr yJ
  replace hB := (((hB.trans lQ.fr).trans ld.fr).trans lR.fr).trans (Owns.J09 _ _ 0)
  dsimp only [eS, eZ] at hB
  replace hO := hO1; clear hO1
  obtain ⟨Sc, H⟩ := H
  have Z44 := (((Z43.trans lQ.ch).trans ld.ch).trans lR.ch).trans pr
  replace cS := cS.ch Z44
  have zz := oapp Try.underlying31 ti3 rfl 0 hO rfl cS yJ OB Sc (by decide)
  obtain ⟨Xa, Gh, Gi, OC, lg, B6, Kc⟩ := zz
  dsimp only [sS, sZ] at lg B6
  refine zg (Kc (by exact rfl) (by exact rfl)) ?_
  replace hO := lg.own
  refine zo (J01 rfl) (zo (J00 Try.underlying156 rfl ti31 rfl (by decide)) ?_)
  have zz := J0f (v := .slice Gh (iY + 1) Gi) (i := 12) (cs' := #[.int .i64 ((ix a0 (0 : Int)).length : Int), .bool true, .slice p35 n37 c36, .slice yk (jj + 1) yl, .slice zM (ji + 1) zN, .slice Bd (jh + 1) Be, .slice none 0 0, .slice jN je jO, .int .i64 0, .map (some B4), .slice C5 (jg + 1) C6, .slice EF (jf + 1) EG, .slice Gh (iY + 1) Gi]) 8 hO rfl rfl rfl rfl
  obtain ⟨Xb, kr, Kd⟩ := zz
  dsimp only [sS, sZ] at kr
  refine zg (Kd Try.underlying31 rfl ti31 (by exact rfl) (by exact rfl)) ?_
  replace hO := kr.own
  refine zn ?_
  refine Go1.inBlock ?_
  refine Go1.cut [(6, .pointer (some ⟨B10, 0, none⟩)), (9, .int .i64 0), (85, .slice p35 n37 c36), (86, .int .i64 (d_32.length : Int)), (87, .int .i64 (k3_548 : Int))] ⟨rfl, rfl, rfl, rfl, rfl, trivial⟩ ?_
  intro σ _
  refine zr ?_
  replace au := ((au.ch Z44).ch lg.ch).ch kr.ch
  refine zo (J0c rfl rfl (wrap_i64 (natbd Bc au.bd))) (zm rfl (zn ?_))
  replace B6 := B6.ch kr.ch
  replace hB := (hB.trans lg.fr).trans kr.fr
  have Z45 := (((ld.ch.trans lR.ch).trans pr).trans lg.ch).trans kr.ch
  replace ug := ug.ch Z45
  have Z46 := (((((((lP.ch.trans my.ch).trans rh).trans lQ.ch).trans ld.ch).trans lR.ch).trans pr).trans lg.ch).trans kr.ch
  replace ml := ml.ch Z46
  have Z47 := (((((((((((mv.ch.trans nf.ch).trans sQ).trans mw.ch).trans lP.ch).trans my.ch).trans rh).trans lQ.ch).trans ld.ch).trans lR.ch).trans pr).trans lg.ch).trans kr.ch
  replace i7 := i7.ch Z47
  have Z48 := (((((((((((((((nc.ch.trans ob.ch).trans tD).trans ne.ch).trans mv.ch).trans nf.ch).trans sQ).trans mw.ch).trans lP.ch).trans my.ch).trans rh).trans lQ.ch).trans ld.ch).trans lR.ch).trans pr).trans lg.ch).trans kr.ch
  replace gF := gF.ch Z48
  have Z49 := (((((((((((((((((((n9.ch.trans pX.ch).trans uf).trans oa.ch).trans nc.ch).trans ob.ch).trans tD).trans ne.ch).trans mv.ch).trans nf.ch).trans sQ).trans mw.ch).trans lP.ch).trans my.ch).trans rh).trans lQ.ch).trans ld.ch).trans lR.ch).trans pr).trans lg.ch).trans kr.ch
  replace fN := fN.ch Z49
  replace cW := ((cW.ch Z44).ch lg.ch).ch kr.ch
  exact hX3 _ H _ _ ⟨iY + 1, Gh, Gi, OC, je, jN, jO, qW, jf + 1, EF, EG, Oz, jg + 1, C5, C6, Ow, jh + 1, Bd, Be, Ot, ji + 1, zM, zN, Oo, jj + 1, yk, yl, Ok, ⟨rfl, rfl, rfl, rfl, rfl, trivial⟩, hO, B6, cW, ug, ml, i7, gF, fN, au, hB⟩
 replace H := ifn Bc H
 refine zo (fun w => opB (J08 rfl rfl w) (decide_eq_false Bc)) (zn (zq (zf rfl rfl ?_)))
 refine Go1.exit rfl ?_
 refine zq (zr (zm rfl (za rfl (za rfl (zn ?_)))))
 have tY := Stp.nil (e := 31) (r := 1) hO
 replace hO := tY.own
 have ks := Els.nil (Rp.sl (Rp.int .i64)) (bl (.row 31 1 none 0 0 [] :: [.row 3 1 ka iY kc sO, .row 185 2 jN je jO qW, .row 3 1 jP jf jQ qX, .row 9 1 kd jg ke qY, .row 3 1 ko jh kq q8, .row 3 1 kO ji kP q9, .row 31 1 lD jj lE rf, .row 31 1 p35 n37 c36 gz, .blk B10 (.cells #[.int .i64 ((ix a0 (0 : Int)).length : Int), .bool true, .slice p35 n37 c36, .slice lD jj lE, .slice kO ji kP, .slice ko jh kq, .slice none 0 0, .slice jN je jO, .int .i64 0, .map (some B4), .slice kd jg ke, .slice jP jf jQ, .slice ka iY kc] 156 (0, 0)), .any (mapE (fun a : List UInt8 => Value.string (gstr a)) (fun a : Int => Value.int .i64 a) B4 m3_591)]) ++ A) RY
 have rY := Stp.front 10 hO rfl
 dsimp only [eS, eZ] at rY
 replace hO := rY.own
 have sa := Stp.front 2 hO rfl
 dsimp only [eS, eZ] at sa
 replace hO := sa.own
 have sb := Stp.front 4 hO rfl
 dsimp only [eS, eZ] at sb
 replace hO := sb.own
 have sc := Stp.front 5 hO rfl
 dsimp only [eS, eZ] at sc
 replace hO := sc.own
 have sd := Stp.front 5 hO rfl
 dsimp only [eS, eZ] at sd
 replace hO := sd.own
 have se := Stp.front 5 hO rfl
 dsimp only [eS, eZ] at se
 replace hO := se.own
 have sf := Stp.front 6 hO rfl
 dsimp only [eS, eZ] at sf
 replace hO := sf.own
 have sj := Stp.front 7 hO rfl
 dsimp only [eS, eZ] at sj
 replace hO := sj.own
 have sk := Stp.front 8 hO rfl
 dsimp only [eS, eZ] at sk
 replace hO := sk.own
 have sm := Stp.front 9 hO rfl
 dsimp only [eS, eZ] at sm
 replace hO := sm.own
 have sn := Stp.front 10 hO rfl
 dsimp only [eS, eZ] at sn
 replace hO := sn.own
 refine Go1.ret2 Try.func131 rfl ?_
 have Z50 := (((((((((rY.ch.trans sa.ch).trans sb.ch).trans sc.ch).trans sd.ch).trans se.ch).trans sf.ch).trans sj.ch).trans sk.ch).trans sm.ch).trans sn.ch
 replace ks := ks.ch Z50
 have Z51 := ((((((((((tY.ch.trans rY.ch).trans sa.ch).trans sb.ch).trans sc.ch).trans sd.ch).trans se.ch).trans sf.ch).trans sj.ch).trans sk.ch).trans sm.ch).trans sn.ch
 replace cS := cS.ch Z51
 replace cW := cW.ch Z51
 replace cX := cX.ch Z51
 replace c8 := c8.ch Z51
 replace dJ := dJ.ch Z51
 replace dY := dY.ch Z51
 replace eB := eB.ch Z51
 replace au := au.ch Z51
 replace hB := (((((((((((hB.trans tY.fr).trans rY.fr).trans sa.fr).trans sb.fr).trans sc.fr).trans sd.fr).trans se.fr).trans sf.fr).trans sj.fr).trans sk.fr).trans sm.fr).trans sn.fr
 exact Or.inr ⟨(⟨(⟨((ix a0 (0 : Int)).length : Int), true, d_32, d_585, d_579, d_573, ([] : List (List Int)), d_555, (0 : Int)⟩ : Enum), m3_591, d_567, d_561, d_549⟩ : run), ((0 : Int)), B10, n37, p35, c36, gz, jj, lD, lE, rf, ji, kO, kP, q9, jh, ko, kq, q8, 0, none, 0, ([]), je, jN, jO, qW, B4, jg, kd, ke, qY, jf, jP, jQ, qX, iY, ka, kc, sO, rfl, hB.same, hO, au, eB, dY, dJ, ks, cW, c8, cX, cS, H⟩
theorem body158 : Body Try.prog 158 := ⟨Try.f158, Try.func158, rfl, by kernel_rfl⟩
theorem walk_trans_Compose {A : List Nat} {w0 : World} {p_f : Option Addr} {c_f : Nat} {p_g : Option Addr} {c_g : Nat} {f : List Int} {g : List Int} (hA : ∀ b ∈ A, b < w0.heap.size) (h_f : ISl (Rp.int .i64) A w0 p_f c_f f) (h_g : ISl (Rp.int .i64) A w0 p_g c_g g) {K : List Int → Prop} (H : J1v f g K) :
    CallsV Try.prog 158 #[.slice p_f f.length c_f, .slice p_g g.length c_g] w0 (fun v w' => ∃ (r0 : List Int) (qD : Option Addr) (qE : Nat), v = .slice qD r0.length qE ∧ Same w0 w' ∧ ISl (Rp.int .i64) A w' qD qE r0 ∧ K r0) := by
 refine CallsV.of (l := [.slice p_f f.length c_f, .slice p_g g.length c_g]) Try.func158 rfl Try.ntmps158 rfl ?_
 have hO := Owns.start hA
 have hB := Fr.refl (bl []) w0
 unfold J1v at H
 refine zq (zr (za rfl (zn (zq (zq ?_)))))
 refine zr (zm rfl (zo (J0d Try.underlying31 rfl) ?_))
 replace h_f := h_f.ch (Ch.start A w0)
 replace H := H h_f.bd
 refine zm rfl (zo (J0d Try.underlying31 rfl) ?_)
 replace h_g := h_g.ch (Ch.start A w0)
 replace H := H h_g.bd
 by_cases h1 : (f.length : Int) = (g.length : Int)
 ·replace H := ifp h1 H
  refine zo (fun w => opB (J0g rfl rfl w) (ndT h1)) (zm rfl (zm rfl ?_))
  refine GoR.call (J0a body154 rfl (walk_trans_Valid hO.lt h_f H)) rfl rfl ?_
  rintro v6 w3 ⟨r2, rfl, hs4, H⟩
  have kQ := Stp.same hO hs4
  replace hO := kQ.own
  cases r2
  ·replace H := ifn Bool.false_ne_true H
   refine zo (J0p rfl) (zo (J05 rfl rfl rfl) (zm rfl (zp (zp (zp ?_)))))
   refine zo (J06 rfl rfl rfl) (zn (zt rfl rfl (zq (zr (za rfl ?_)))))
   refine zn ?_
   refine Go1.ret1 Try.func158 rfl ?_
   replace hB := hB.trans kQ.fr
   exact ⟨([] : List Int), none, 0, rfl, hB.same, (ISl.null _ _ _), H⟩
  replace H := ifp rfl H
  refine zo (J0p rfl) (zo (J05 rfl rfl rfl) (zm rfl (zm rfl ?_)))
  replace h_g := h_g.ch kQ.ch
  refine GoR.call (J0a body154 rfl (walk_trans_Valid hO.lt h_g H)) rfl rfl ?_
  rintro v12 w9 ⟨r8, rfl, wX, H⟩
  have vV := Stp.same hO wX
  replace hO := vV.own
  cases r8
  ·replace H := ifn Bool.false_ne_true H
   refine zo (J0p rfl) (zo (J05 rfl rfl rfl) (zn (zt rfl rfl (zq ?_))))
   refine Go1.cut [] trivial ?_
   intro σ _
   refine zr (za rfl (zn ?_))
   refine Go1.ret1 Try.func158 rfl ?_
   replace hB := (hB.trans kQ.fr).trans vV.fr
   exact ⟨([] : List Int), none, 0, rfl, hB.same, (ISl.null _ _ _), H⟩
  replace H := ifp rfl H
  refine zo (J0p rfl) (zo (J05 rfl rfl rfl) (zn (zf rfl rfl (zk (zq ?_)))))
  refine zr (zm rfl (zo (J0d Try.underlying31 rfl) ?_))
  obtain ⟨h21, H⟩ := H
  obtain ⟨h22, H⟩ := H
  have zz := omake (n := (f.length : Int)) (r := Rp.int .i64) (d := (0 : Int)) Try.underlying31 ti3 (fun _ _ => rfl) rfl hO h21 h22 (by decide)
  obtain ⟨w14, p15, xD, nQ, dS, CB, xt⟩ := zz
  refine zg (xt rfl rfl) ?_
  replace hO := nQ.own
  refine za rfl (zn (zq (zq (zr (zm rfl ?_)))))
  refine zo (J0d Try.underlying31 rfl) (zm rfl (zn (zb ?_)))
  replace h_g := (h_g.ch vV.ch).ch nQ.ch
  have Z1 := (kQ.ch.trans vV.ch).trans nQ.ch
  replace h_f := h_f.ch Z1
  replace hB := ((hB.trans kQ.fr).trans vV.fr).trans nQ.fr
  refine Go1.loopW (S := Nat × List Int) (fun s σ w => match s with | (k1_25, h1_26) => ∃ (zO : List Value), agrees σ [(1, .slice p_g g.length c_g), (5, .slice p15 f.length f.length), (26, .slice p_f f.length c_f), (27, .int .i64 (f.length : Int)), (28, .int .i64 (k1_25 : Int))] ∧ (fun Z0 => Owns w0.heap.size w Z0 A ∧ Els (Rp.int .i64) (bl Z0 ++ A) w zO h1_26 ∧ ISl (Rp.int .i64) (bl Z0 ++ A) w p_f c_f f ∧ ISl (Rp.int .i64) (bl Z0 ++ A) w p_g c_g g ∧ Fr (bl []) w0 (bl Z0) w) [.row 3 1 p15 f.length f.length zO]) H ⟨xD, ⟨rfl, rfl, rfl, rfl, rfl, trivial⟩, hO, dS, h_f, h_g, hB⟩ ?_
  intro X1
  refine prE fun k1_25 => fun h1_26 => ?_
  intro H hX1 σ w24
  refine exE fun zO => andE fun hag => andE fun hO => andE fun EH => andE fun h_f => andE fun h_g => fun hB => ?_
  dsimp only at H
  refine Go1.keep [(1, .slice p_g g.length c_g), (5, .slice p15 f.length f.length), (26, .slice p_f f.length c_f), (27, .int .i64 (f.length : Int)), (28, .int .i64 (k1_25 : Int))] hag ?_
  refine zq (zr ?_)
  by_cases h29 : (k1_25 : Int) < (f.length : Int)
  ·replace H := ifp h29 H
   refine zo (fun w => opB (J08 rfl rfl w) (decide_eq_true h29)) (zn (zq (zt rfl rfl (zk (zq ?_)))))
   refine zb (zq (zr (zm rfl ?_)))
   obtain ⟨h30, H⟩ := H
   obtain ⟨h31, H⟩ := H
   refine zo (J02 Try.underlying31 ti3 rfl rfl h30 h31 (h_f.some_ h30 h31)) (zs (ldInt h_f h30 h31 Try.underlying3 rfl rfl) (za rfl (za rfl (zn (zr ?_)))))
   refine zm rfl (zm rfl (zm rfl (zm rfl ?_)))
   obtain ⟨h32, H⟩ := H
   obtain ⟨h33, H⟩ := H
   refine zo (J02 Try.underlying31 ti3 rfl rfl h32 h33 (h_g.some_ h32 h33)) (zs (ldInt h_g h32 h33 Try.underlying3 rfl rfl) ?_)
   obtain ⟨h34, H⟩ := H
   obtain ⟨h35, H⟩ := H
   refine zo (J02 Try.underlying31 ti3 rfl rfl h34 (ltn (EH.neq hO 0 rfl) h35) (EH.psome hO 0 rfl h34 h35)) ?_
   have zz := ost (r := Rp.int .i64) rfl 0 hO rfl EH h34 h35 (v := .int .i64 (ix g (ix f (k1_25 : Int)))) (u := (ix g (ix f (k1_25 : Int)))) rfl rfl
   obtain ⟨w36, Sd, B7, Se, EI⟩ := zz
   refine zg (EI Try.underlying3 rfl ti3 (by exact rfl) (by exact rfl)) ?_
   replace hO := B7.own
   refine zn ?_
   refine Go1.inBlock ?_
   refine zr ?_
   replace h_f := h_f.ch B7.ch
   refine zo (J0c rfl rfl (wrap_i64 (natbd h29 h_f.bd))) (zm rfl (zn ?_))
   replace h_g := h_g.ch B7.ch
   replace hB := hB.trans B7.fr
   exact hX1 _ H _ _ ⟨Sd, ⟨rfl, rfl, rfl, rfl, rfl, trivial⟩, hO, Se, h_f, h_g, hB⟩
  replace H := ifn h29 H
  refine zo (fun w => opB (J08 rfl rfl w) (decide_eq_false h29)) (zn (zq (zf rfl rfl ?_)))
  refine Go1.exit rfl ?_
  refine zq (zr (zm rfl (za rfl (zn ?_))))
  have zz := freeze 0 hO rfl EH
  obtain ⟨hO1, zu, uo, Fh⟩ := zz
  replace hO := hO1; clear hO1
  refine Go1.ret1 Try.func158 rfl ?_
  replace hB := hB.trans (Owns.J09 _ _ 0)
  exact ⟨h1_26, p15, f.length, (congrArg (fun nn => Value.slice p15 nn f.length) Fh), hB.same, (uo.ch (Ch.weak _ _ _)), H⟩
 replace H := ifn h1 H
 refine zo (fun w => opB (J0g rfl rfl w) (ndF h1)) (zm rfl (zp (zp (zp (zo (J06 rfl rfl rfl) ?_)))))
 refine zm rfl (zp (zp (zp (zo (J06 rfl rfl rfl) (zn ?_)))))
 refine zt rfl rfl (zq ?_)
 refine Go1.cut [] trivial ?_
 intro σ _
 refine zr (za rfl (zn ?_))
 refine Go1.ret1 Try.func158 rfl ?_
 exact ⟨([] : List Int), none, 0, rfl, hB.same, (ISl.null _ _ _), H⟩
end Sg
