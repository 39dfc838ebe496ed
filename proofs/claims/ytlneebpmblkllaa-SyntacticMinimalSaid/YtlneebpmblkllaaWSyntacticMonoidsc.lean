/- -/
import Derived.Test.YtlneebpmblkllaaTi
import Derived.Test.YtlneebpmblkllaaWSyntacticMonoidsb
import Derived.Test.YtlneebpmblkllaaAl
namespace Sg
open Go Go.RowKit Go.Proofs
set_option linter.unusedVariables false
set_option linter.unusedSimpArgs false
set_option maxRecDepth 100000
set_option maxHeartbeats 4000000
theorem body155 : Body Try.prog 155 := ⟨Try.f155, Try.func155, rfl, by kernel_rfl⟩
theorem body131 : Body Try.prog 131 := ⟨Try.f131, Try.func131, rfl, by kernel_rfl⟩
theorem walk_enumerate_begin {A : List Nat} {w0 : World} {xi : Option Addr} {xj : Nat} {a0 : List (List Int)} {a1 : Bool} (hA : ∀ b ∈ A, b < w0.heap.size) (cq : ISl (Rp.sl (Rp.int .i64)) A w0 xi xj a0) {K : Option run → Int → Prop} (H : enumerate_begin a0 a1 K) :
    CallsV Try.prog 131 #[.slice xi a0.length xj, .bool a1] w0 (fun v w' => (∃ (r1 : Int), v = .tuple #[.pointer none, .int .i64 r1] ∧ Same w0 w' ∧ K none r1) ∨ (∃ (q : run), ∃ (r1 : Int), ∃ (b_q : Nat), ∃ (bQ : Nat), ∃ (bS : Option Addr), ∃ (bT : Nat), ∃ (dn : List Value), ∃ (bB : Nat), ∃ (bC : Option Addr), ∃ (bD : Nat), ∃ (de : List Value), ∃ (bo : Nat), ∃ (bt : Option Addr), ∃ (bu : Nat), ∃ (cU : List Value), ∃ (bU : Nat), ∃ (bV : Option Addr), ∃ (bW : Nat), ∃ (dp : List Value), ∃ (bE : Nat), ∃ (bF : Option Addr), ∃ (bG : Nat), ∃ (dg : List Value), ∃ (bH : Nat), ∃ (bI : Option Addr), ∃ (bK : Nat), ∃ (dh : List Value), ∃ (eO : Nat), ∃ (cW : Nat), ∃ (cX : Option Addr), ∃ (cY : Nat), ∃ (dY : List Value), ∃ (cB : Nat), ∃ (cC : Option Addr), ∃ (cD : Nat), ∃ (dK : List Value), ∃ (cE : Nat), ∃ (cF : Option Addr), ∃ (cG : Nat), ∃ (dM : List Value), v = .tuple #[.pointer (some ⟨b_q, 0, none⟩), .int .i64 r1] ∧ Same w0 w' ∧ (fun Z0 => Owns w0.heap.size w' Z0 A ∧ Els (Rp.sl (Rp.int .i64)) (bl Z0 ++ A) w' dn q.Enum.Gens ∧ Els (Rp.sl (Rp.int .i64)) (bl Z0 ++ A) w' de q.Enum.Elems ∧ Els (Rp.int .i64) (bl Z0 ++ A) w' cU q.Enum.Prefix ∧ Els (Rp.int .i64) (bl Z0 ++ A) w' dp q.Enum.Last ∧ Els (Rp.sl (Rp.int .i64)) (bl Z0 ++ A) w' dg q.Enum.Right ∧ Els (rpRule) (bl Z0 ++ A) w' dh q.Enum.Rules ∧ Els (Rp.str) (bl Z0 ++ A) w' dY q.words ∧ Els (Rp.int .i64) (bl Z0 ++ A) w' dK q.behind ∧ Els (Rp.int .i64) (bl Z0 ++ A) w' dM q.single ∧ K (some q) r1) [.blk b_q (.cells #[.int .i64 q.Enum.Points, .bool q.Enum.Monoid, .slice bS bQ bT, .slice bC bB bD, .slice bt bo bu, .slice bV bU bW, .slice bF bE bG, .slice bI bH bK, .int .i64 q.Enum.Done, .map (some eO), .slice cX cW cY, .slice cC cB cD, .slice cF cE cG] 156 (0, 0)), .row 31 1 bS bQ bT dn, .row 31 1 bC bB bD de, .row 3 1 bt bo bu cU, .row 3 1 bV bU bW dp, .row 31 1 bF bE bG dg, .row 185 2 bI bH bK dh, .row 9 1 cX cW cY dY, .row 3 1 cC cB cD dK, .row 3 1 cF cE cG dM, .any (mapE (fun a : List UInt8 => Value.string (gstr a)) (fun a : Int => Value.int .i64 a) eO q.number)])) := by
 refine CallsV.of (l := [.slice xi a0.length xj, .bool a1]) Try.func131 rfl Try.ntmps131 rfl ?_
 have hO := Owns.start hA
 have hB := Fr.refl (bl []) w0
 unfold enumerate_begin at H
 refine zq (zr (za rfl (za rfl (zn (zq ?_)))))
 refine zq (zr (zm rfl (zo (op_len Try.underlying23 rfl) ?_)))
 replace cq := cq.ch (Ch.start A w0)
 replace H := H cq.bd
 by_cases h1 : (a0.length : Int) = (0 : Int)
 ·replace H := ifp h1 H
  refine zo (fun w => opB (op_eql rfl rfl w) (decide_eq_true h1)) (zm rfl (zp (zp (zp (zo (op_pickT rfl rfl rfl) ?_)))))
  refine zn (zt rfl rfl (zq (zr (za rfl (za rfl ?_)))))
  refine zn ?_
  refine Go1.ret2 Try.func131 rfl ?_
  exact Or.inl ⟨((1 : Int)), rfl, hB.same, H⟩
 replace H := ifn h1 H
 refine zo (fun w => opB (op_eql rfl rfl w) (decide_eq_false h1)) (zm rfl (zm rfl (zo (op_len Try.underlying23 rfl) ?_)))
 by_cases h2 : (6 : Int) < (a0.length : Int)
 ·replace H := ifp h2 H
  refine zo (fun w => opB (op_gtr rfl rfl w) (decide_eq_true h2)) (zo (op_pickF rfl rfl rfl) (zn (zt rfl rfl (zq (zr ?_)))))
  refine za rfl (za rfl (zn ?_))
  refine Go1.ret2 Try.func131 rfl ?_
  exact Or.inl ⟨((1 : Int)), rfl, hB.same, H⟩
 replace H := ifn h2 H
 refine zo (fun w => opB (op_gtr rfl rfl w) (decide_eq_false h2)) (zo (op_pickF rfl rfl rfl) (zn (zf rfl rfl (zk (zq ?_)))))
 refine Go1.cut [(0, .slice xi a0.length xj), (1, .bool a1)] ⟨rfl, rfl, trivial⟩ ?_
 intro σ _
 refine zr ?_
 have hobt := omakeMap (fun a : List UInt8 => Value.string (gstr a)) (fun a : Int => Value.int .i64 a) hO
 obtain ⟨w3, B4, Fw, hs6, Ce⟩ := hobt
 refine GoR.op Ce rfl rfl ?_
 replace hO := Fw.own
 refine zo (op_build Try.underlying156 ti156 (pl := [(0, 9), (9, 1), (10, 1), (11, 1), (12, 1)]) (vs := [(1, .map (some B4))]) (cs := #[.int .i64 (0 : Int), .bool false, .slice none 0 0, .slice none 0 0, .slice none 0 0, .slice none 0 0, .slice none 0 0, .slice none 0 0, .int .i64 (0 : Int), .map (some B4), .slice none 0 0, .slice none 0 0, .slice none 0 0]) (by kernel_rfl) rfl (by kernel_rfl)) ?_
 have hobt := obox (t := 156) (v := .agg #[.int .i64 (0 : Int), .bool false, .slice none 0 0, .slice none 0 0, .slice none 0 0, .slice none 0 0, .slice none 0 0, .slice none 0 0, .int .i64 (0 : Int), .map (some B4), .slice none 0 0, .slice none 0 0, .slice none 0 0]) (cs := #[.int .i64 (0 : Int), .bool false, .slice none 0 0, .slice none 0 0, .slice none 0 0, .slice none 0 0, .slice none 0 0, .slice none 0 0, .int .i64 (0 : Int), .map (some B4), .slice none 0 0, .slice none 0 0, .slice none 0 0]) hO rfl
 obtain ⟨w9, B10, DL, Uz, Mm⟩ := hobt
 refine zg (Mm rfl) ?_
 replace hO := DL.own
 refine za rfl (zn (zq (zr (zm rfl (zm rfl ?_)))))
 refine zm rfl ?_
 obtain ⟨h15, H⟩ := H
 obtain ⟨h16, H⟩ := H
 replace cq := (cq.ch Fw.ch).ch DL.ch
 refine zo (op_index Try.underlying23 ti31 rfl rfl h15 h16 (cq.some_ h15 h16)) ?_
 have hobt := ldSl cq h15 h16
 obtain ⟨p17, c18, yT, QI⟩ := hobt
 refine zs (QI Try.underlying31 rfl rfl) (zo (op_len Try.underlying31 rfl) ?_)
 replace H := H yT.bd
 refine zm rfl (zo (op_nilCheck rfl) (zo (op_fieldAddr Try.underlying156 rfl ti123 rfl (by decide)) (zo (op_fieldAddr Try.underlying123 rfl ti3 rfl (by decide)) ?_)))
 have hobt := oblkSt2 (v := .int .i64 ((ix a0 (0 : Int)).length : Int)) (i := 0) (cs' := #[.int .i64 ((ix a0 (0 : Int)).length : Int), .bool false, .slice none 0 0, .slice none 0 0, .slice none 0 0, .slice none 0 0, .slice none 0 0, .slice none 0 0, .int .i64 (0 : Int), .map (some B4), .slice none 0 0, .slice none 0 0, .slice none 0 0]) 0 hO rfl rfl rfl rfl
 obtain ⟨w21, mJ, Mn⟩ := hobt
 refine zg (Mn Try.underlying3 rfl ti3 (by exact rfl) (by exact rfl)) ?_
 replace hO := mJ.own
 refine zo (op_nilCheck rfl) (zo (op_fieldAddr Try.underlying156 rfl ti123 rfl (by decide)) (zo (op_fieldAddr Try.underlying123 rfl ti4 rfl (by decide)) ?_))
 have hobt := oblkSt2 (v := .bool a1) (i := 1) (cs' := #[.int .i64 ((ix a0 (0 : Int)).length : Int), .bool a1, .slice none 0 0, .slice none 0 0, .slice none 0 0, .slice none 0 0, .slice none 0 0, .slice none 0 0, .int .i64 (0 : Int), .map (some B4), .slice none 0 0, .slice none 0 0, .slice none 0 0]) 0 hO rfl rfl rfl rfl
 obtain ⟨w24, i7, Di⟩ := hobt
 refine zg (Di Try.underlying4 rfl ti4 (by exact rfl) (by exact rfl)) ?_
 replace hO := i7.own
 refine zn (zq (zq ?_))
 refine Go1.cut [(0, .slice xi a0.length xj), (1, .bool a1), (6, .pointer (some ⟨B10, 0, none⟩))] ⟨rfl, rfl, rfl, trivial⟩ ?_
 intro σ _
 refine zr (zm rfl (zo (op_len Try.underlying23 rfl) (zm rfl (zn (zb ?_)))))
 have Bm := Stp.nil (e := 31) (r := 1) hO
 replace hO := Bm.own
 have vA := Els.nil (Rp.sl (Rp.int .i64)) (bl (.row 31 1 none 0 0 [] :: [.blk B10 (.cells #[.int .i64 ((ix a0 (0 : Int)).length : Int), .bool a1, .slice none 0 0, .slice none 0 0, .slice none 0 0, .slice none 0 0, .slice none 0 0, .slice none 0 0, .int .i64 (0 : Int), .map (some B4), .slice none 0 0, .slice none 0 0, .slice none 0 0] 156 (0, 0)), .any (mapE (fun a : List UInt8 => Value.string (gstr a)) (fun a : Int => Value.int .i64 a) B4 (([] : List (Str × Int))))]) ++ A) w24
 have Z1 := (mJ.ch.trans i7.ch).trans Bm.ch
 replace cq := cq.ch Z1
 replace hB := ((((hB.trans Fw.fr).trans DL.fr).trans mJ.fr).trans i7.fr).trans Bm.fr
 refine Go1.loopW (S := Nat × List (List Int)) (fun s σ w => match s with | (k1_31, d_32) => ∃ (n37 : Nat), ∃ (p35 : Option Addr), ∃ (c36 : Nat), ∃ (fB : List Value), agrees σ [(1, .bool a1), (6, .pointer (some ⟨B10, 0, none⟩)), (39, .slice xi a0.length xj), (40, .int .i64 (a0.length : Int)), (41, .int .i64 (k1_31 : Int))] ∧ (fun Z0 => Owns w0.heap.size w Z0 A ∧ Els (Rp.sl (Rp.int .i64)) (bl Z0 ++ A) w fB d_32 ∧ ISl (Rp.sl (Rp.int .i64)) (bl Z0 ++ A) w xi xj a0 ∧ Fr (bl []) w0 (bl Z0) w) [.row 31 1 p35 n37 c36 fB, .blk B10 (.cells #[.int .i64 ((ix a0 (0 : Int)).length : Int), .bool a1, .slice p35 n37 c36, .slice none 0 0, .slice none 0 0, .slice none 0 0, .slice none 0 0, .slice none 0 0, .int .i64 (0 : Int), .map (some B4), .slice none 0 0, .slice none 0 0, .slice none 0 0] 156 (0, 0)), .any (mapE (fun a : List UInt8 => Value.string (gstr a)) (fun a : Int => Value.int .i64 a) B4 (([] : List (Str × Int))))]) H ⟨0, none, 0, [], ⟨rfl, rfl, rfl, rfl, rfl, trivial⟩, hO, vA, cq, hB⟩ ?_
 intro X1
 refine prE fun k1_31 => fun d_32 => ?_
 intro H hX1 σ w30
 refine exE fun n37 => exE fun p35 => exE fun c36 => exE fun fB => andE fun hag => andE fun hO => andE fun au => andE fun cq => fun hB => ?_
 dsimp only at H
 refine Go1.keep [(1, .bool a1), (6, .pointer (some ⟨B10, 0, none⟩)), (39, .slice xi a0.length xj), (40, .int .i64 (a0.length : Int)), (41, .int .i64 (k1_31 : Int))] hag ?_
 refine zq (zr ?_)
 by_cases h38 : (k1_31 : Int) < (a0.length : Int)
 ·replace H := ifp h38 H
  refine zo (fun w => opB (op_lss rfl rfl w) (decide_eq_true h38)) (zn (zq (zt rfl rfl (zk (zq ?_)))))
  refine zb (zq (zr ?_))
  obtain ⟨h39, H⟩ := H
  obtain ⟨h40, H⟩ := H
  refine zo (op_index Try.underlying23 ti31 rfl rfl h39 h40 (cq.some_ h39 h40)) ?_
  have hobt := ldSl cq h39 h40
  obtain ⟨p41, c42, pr, QJ⟩ := hobt
  refine zs (QJ Try.underlying31 rfl rfl) (za rfl (zn (zq (zq (zr ?_)))))
  refine zm rfl (zo (op_len Try.underlying31 rfl) ?_)
  replace H := H pr.bd
  refine zm rfl (zo (op_nilCheck rfl) (zo (op_fieldAddr Try.underlying156 rfl ti123 rfl (by decide)) (zo (op_fieldAddr Try.underlying123 rfl ti3 rfl (by decide)) (zs (oblk (i := 0) 1 hO rfl rfl Try.underlying3 rfl rfl) ?_))))
  by_cases h45 : ((ix a0 (k1_31 : Int)).length : Int) = ((ix a0 (0 : Int)).length : Int)
  ·replace H := ifp h45 H
   refine zo (fun w => opB (op_neq rfl rfl w) (ndT h45)) (zm rfl (zm rfl ?_))
   refine GoR.call (op_call body154 rfl (walk_trans_Valid hO.lt pr H)) rfl rfl ?_
   rintro v50 w47 ⟨r46, rfl, HM, H⟩
   have t7 := Stp.same hO HM
   replace hO := t7.own
   cases r46
   ·replace H := ifn Bool.false_ne_true H
    refine zo (op_not rfl) (zo (op_pickF rfl rfl rfl) (zn (zt rfl rfl (zq (zr ?_)))))
    refine za rfl (za rfl (zn ?_))
    refine Go1.ret2 Try.func131 rfl ?_
    replace hB := hB.trans t7.fr
    exact Or.inl ⟨((4 : Int)), rfl, hB.same, H⟩
   replace H := ifp rfl H
   refine zo (op_not rfl) (zo (op_pickF rfl rfl rfl) (zn (zf rfl rfl (zk ?_))))
   refine Go1.cut [(1, .bool a1), (6, .pointer (some ⟨B10, 0, none⟩)), (8, .slice p41 ((ix a0 (k1_31 : Int)).length) c42), (39, .slice xi a0.length xj), (40, .int .i64 (a0.length : Int)), (41, .int .i64 (k1_31 : Int))] ⟨rfl, rfl, rfl, rfl, rfl, rfl, trivial⟩ ?_
   intro σ _
   refine Go1.drawS 1 [(0, .pure), (1, .pure), (2, .pure), (3, .pure), (4, .pure), (5, .stable), (6, .pure), (7, .loud), (8, .loud), (9, .last), (10, .pure), (11, .pure), (12, .pure), (13, .last)] mixed (by kernel_rfl) ?_
   intro w52 EE
   have zL := Stp.same hO EE
   replace hO := zL.own
   refine GoQ.pure rfl (op_move rfl) rfl rfl ?_
   refine GoQ.pure rfl (op_move rfl) rfl rfl ?_
   refine GoQ.pure rfl (op_nilCheck rfl) rfl rfl ?_
   refine GoQ.pure rfl (op_fieldAddr Try.underlying156 rfl ti123 rfl (by decide)) rfl rfl ?_
   refine GoQ.pure rfl (op_fieldAddr Try.underlying123 rfl ti23 rfl (by decide)) rfl rfl ?_
   refine GoQ.stable rfl (oblk (i := 2) 1 hO rfl rfl Try.underlying23 rfl rfl) rfl rfl ?_
   refine GoQ.pure rfl (op_move rfl) rfl rfl ?_
   replace pr := (pr.ch t7.ch).ch zL.ch
   refine GoQ.call rfl (op_call body86 rfl (walk_slices_Clone_int hO.lt pr H)) (fun v w hr => by obtain ⟨_, _, _, _, _, _, hs, _, _, _⟩ := hr; assumption) rfl rfl ?_
   rintro v60 w57 ⟨r55, Hs, Bn, Bo, Sv, rfl, QK, hN59, Fx, H⟩
   have zM := Stp.more hO QK hN59
   replace hO := zM.own
   replace Fx := Fx.ch (Ch.assoc _ _ _ _)
   have hobt := freeze 0 hO rfl Fx
   obtain ⟨hO1, Fy, xk, QL⟩ := hobt
   replace hO := hO1; clear hO1
   have hobt := obuild (r := Rp.sl (Rp.int .i64)) (n := 1) (parts := [(0, .slice Bn Hs Bo)]) (vs := [.slice Bn Hs Bo]) (xs := [r55]) rfl Try.underlying23 ti31 hO (by decide) (by kernel_rfl) (Els.cons rfl ⟨Bn, Bo, congrArg some (congrArg (fun nn => Value.slice Bn nn Bo) QL), xk⟩ (Els.nil _ _ _) (by simp [mx])) rfl
   obtain ⟨w66, p67, x9, sk, EF, Mo⟩ := hobt
   refine GoQ.loud rfl (Mo rfl) EF rfl rfl ?_
   replace hO := x9.own
   have hobt := freeze 0 hO rfl sk
   obtain ⟨hO1, DN, Cf, QM⟩ := hobt
   replace hO := hO1; clear hO1
   obtain ⟨h76, H⟩ := H
   have Z2 := ((((t7.ch.trans zL.ch).trans zM.ch).trans Fy).trans x9.ch).trans DN
   replace au := au.ch Z2
   have hobt := oapp Try.underlying23 ti31 rfl 0 hO rfl au Cf QM h76 (by decide)
   obtain ⟨w77, p78, c79, ot, gI, yN, Mp⟩ := hobt
   refine GoQ.last rfl (Mp (by exact rfl) (by exact rfl)) rfl rfl ?_
   replace hO := gI.own
   refine GoQ.pure rfl (op_nilCheck rfl) rfl rfl ?_
   refine GoQ.pure rfl (op_fieldAddr Try.underlying156 rfl ti123 rfl (by decide)) rfl rfl ?_
   refine GoQ.pure rfl (op_fieldAddr Try.underlying123 rfl ti23 rfl (by decide)) rfl rfl ?_
   have hobt := oblkSt2 (v := .slice p78 (n37 + 1) c79) (i := 2) (cs' := #[.int .i64 ((ix a0 (0 : Int)).length : Int), .bool a1, .slice p78 (n37 + 1) c79, .slice none 0 0, .slice none 0 0, .slice none 0 0, .slice none 0 0, .slice none 0 0, .int .i64 (0 : Int), .map (some B4), .slice none 0 0, .slice none 0 0, .slice none 0 0]) 1 hO rfl rfl rfl rfl
   obtain ⟨w85, xl, DO⟩ := hobt
   refine GoQ.last rfl (DO Try.underlying23 rfl ti23 (by exact rfl) (by exact rfl)) rfl rfl ?_
   replace hO := xl.own
   refine GoQ.nil ?_
   refine Go1.inBlock ?_
   refine zr ?_
   replace cq := ((cq.ch Z2).ch gI.ch).ch xl.ch
   refine zo (op_add rfl rfl (wrap_i64 (natbd h38 cq.bd))) (zm rfl (zn ?_))
   replace yN := yN.ch xl.ch
   replace hB := (((((((hB.trans t7.fr).trans zL.fr).trans zM.fr).trans (Owns.dropFr _ _ 0)).trans x9.fr).trans (Owns.dropFr _ _ 0)).trans gI.fr).trans xl.fr
   exact hX1 _ H _ _ ⟨n37 + 1, p78, c79, ot, ⟨rfl, rfl, rfl, rfl, rfl, trivial⟩, hO, yN, cq, hB⟩
  replace H := ifn h45 H
  refine zo (fun w => opB (op_neq rfl rfl w) (ndF h45)) (zm rfl (zp (zp (zp (zo (op_pickT rfl rfl rfl) ?_)))))
  refine zn (zt rfl rfl (zq ?_))
  refine Go1.cut [] trivial ?_
  intro σ _
  refine zr (za rfl (za rfl (zn ?_)))
  refine Go1.ret2 Try.func131 rfl ?_
  exact Or.inl ⟨((4 : Int)), rfl, hB.same, H⟩
 replace H := ifn h38 H
 refine zo (fun w => opB (op_lss rfl rfl w) (decide_eq_false h38)) (zn (zq (zf rfl rfl ?_)))
 refine Go1.exit rfl ?_
 refine zq (zr (za rfl (zn (zq (zq ?_)))))
 refine zr (zm rfl (zn ?_))
 cases a1
 ·replace H := ifn Bool.false_ne_true H
  refine zf rfl rfl (zk (zq (zq (zr (zm rfl ?_)))))
  refine zo (op_nilCheck rfl) (zo (op_fieldAddr Try.underlying156 rfl ti123 rfl (by decide)) (zo (op_fieldAddr Try.underlying123 rfl ti23 rfl (by decide)) (zs (oblk (i := 2) 1 hO rfl rfl Try.underlying23 rfl rfl) (zo (op_lenN Try.underlying23 rfl (au.neq hO 0 rfl)) (zm rfl ?_)))))
  refine zn (zb ?_)
  have sH := Stp.nil (e := 31) (r := 1) hO
  replace hO := sH.own
  have b9 := Els.nil (Rp.sl (Rp.int .i64)) (bl (.row 31 1 none 0 0 [] :: [.row 31 1 p35 n37 c36 fB, .blk B10 (.cells #[.int .i64 ((ix a0 (0 : Int)).length : Int), .bool false, .slice p35 n37 c36, .slice none 0 0, .slice none 0 0, .slice none 0 0, .slice none 0 0, .slice none 0 0, .int .i64 (0 : Int), .map (some B4), .slice none 0 0, .slice none 0 0, .slice none 0 0] 156 (0, 0)), .any (mapE (fun a : List UInt8 => Value.string (gstr a)) (fun a : Int => Value.int .i64 a) B4 (([] : List (Str × Int))))]) ++ A) w30
  have zN := Stp.nil (e := 3) (r := 1) hO
  replace hO := zN.own
  have ju := Els.nil (Rp.int .i64) (bl (.row 3 1 none 0 0 [] :: [.row 31 1 none 0 0 [], .row 31 1 p35 n37 c36 fB, .blk B10 (.cells #[.int .i64 ((ix a0 (0 : Int)).length : Int), .bool false, .slice p35 n37 c36, .slice none 0 0, .slice none 0 0, .slice none 0 0, .slice none 0 0, .slice none 0 0, .int .i64 (0 : Int), .map (some B4), .slice none 0 0, .slice none 0 0, .slice none 0 0] 156 (0, 0)), .any (mapE (fun a : List UInt8 => Value.string (gstr a)) (fun a : Int => Value.int .i64 a) B4 (([] : List (Str × Int))))]) ++ A) w30
  have ya := Stp.nil (e := 3) (r := 1) hO
  replace hO := ya.own
  have b7 := Els.nil (Rp.int .i64) (bl (.row 3 1 none 0 0 [] :: [.row 3 1 none 0 0 [], .row 31 1 none 0 0 [], .row 31 1 p35 n37 c36 fB, .blk B10 (.cells #[.int .i64 ((ix a0 (0 : Int)).length : Int), .bool false, .slice p35 n37 c36, .slice none 0 0, .slice none 0 0, .slice none 0 0, .slice none 0 0, .slice none 0 0, .int .i64 (0 : Int), .map (some B4), .slice none 0 0, .slice none 0 0, .slice none 0 0] 156 (0, 0)), .any (mapE (fun a : List UInt8 => Value.string (gstr a)) (fun a : Int => Value.int .i64 a) B4 (([] : List (Str × Int))))]) ++ A) w30
  have kV := Stp.nil (e := 185) (r := 2) hO
  replace hO := kV.own
  have ww := Els.nil (rpRule) (bl (.row 185 2 none 0 0 [] :: [.row 3 1 none 0 0 [], .row 3 1 none 0 0 [], .row 31 1 none 0 0 [], .row 31 1 p35 n37 c36 fB, .blk B10 (.cells #[.int .i64 ((ix a0 (0 : Int)).length : Int), .bool false, .slice p35 n37 c36, .slice none 0 0, .slice none 0 0, .slice none 0 0, .slice none 0 0, .slice none 0 0, .int .i64 (0 : Int), .map (some B4), .slice none 0 0, .slice none 0 0, .slice none 0 0] 156 (0, 0)), .any (mapE (fun a : List UInt8 => Value.string (gstr a)) (fun a : Int => Value.int .i64 a) B4 (([] : List (Str × Int))))]) ++ A) w30
  have fV := Stp.nil (e := 9) (r := 1) hO
  replace hO := fV.own
  have b8 := Els.nil (Rp.str) (bl (.row 9 1 none 0 0 [] :: [.row 185 2 none 0 0 [], .row 3 1 none 0 0 [], .row 3 1 none 0 0 [], .row 31 1 none 0 0 [], .row 31 1 p35 n37 c36 fB, .blk B10 (.cells #[.int .i64 ((ix a0 (0 : Int)).length : Int), .bool false, .slice p35 n37 c36, .slice none 0 0, .slice none 0 0, .slice none 0 0, .slice none 0 0, .slice none 0 0, .int .i64 (0 : Int), .map (some B4), .slice none 0 0, .slice none 0 0, .slice none 0 0] 156 (0, 0)), .any (mapE (fun a : List UInt8 => Value.string (gstr a)) (fun a : Int => Value.int .i64 a) B4 (([] : List (Str × Int))))]) ++ A) w30
  have iv := Stp.nil (e := 3) (r := 1) hO
  replace hO := iv.own
  have DP := Els.nil (Rp.int .i64) (bl (.row 3 1 none 0 0 [] :: [.row 9 1 none 0 0 [], .row 185 2 none 0 0 [], .row 3 1 none 0 0 [], .row 3 1 none 0 0 [], .row 31 1 none 0 0 [], .row 31 1 p35 n37 c36 fB, .blk B10 (.cells #[.int .i64 ((ix a0 (0 : Int)).length : Int), .bool false, .slice p35 n37 c36, .slice none 0 0, .slice none 0 0, .slice none 0 0, .slice none 0 0, .slice none 0 0, .int .i64 (0 : Int), .map (some B4), .slice none 0 0, .slice none 0 0, .slice none 0 0] 156 (0, 0)), .any (mapE (fun a : List UInt8 => Value.string (gstr a)) (fun a : Int => Value.int .i64 a) B4 (([] : List (Str × Int))))]) ++ A) w30
  have sA := Stp.nil (e := 3) (r := 1) hO
  replace hO := sA.own
  have Mq := Els.nil (Rp.int .i64) (bl (.row 3 1 none 0 0 [] :: [.row 3 1 none 0 0 [], .row 9 1 none 0 0 [], .row 185 2 none 0 0 [], .row 3 1 none 0 0 [], .row 3 1 none 0 0 [], .row 31 1 none 0 0 [], .row 31 1 p35 n37 c36 fB, .blk B10 (.cells #[.int .i64 ((ix a0 (0 : Int)).length : Int), .bool false, .slice p35 n37 c36, .slice none 0 0, .slice none 0 0, .slice none 0 0, .slice none 0 0, .slice none 0 0, .int .i64 (0 : Int), .map (some B4), .slice none 0 0, .slice none 0 0, .slice none 0 0] 156 (0, 0)), .any (mapE (fun a : List UInt8 => Value.string (gstr a)) (fun a : Int => Value.int .i64 a) B4 (([] : List (Str × Int))))]) ++ A) w30
  replace DP := DP.ch sA.ch
  replace b8 := (b8.ch iv.ch).ch sA.ch
  have Z3 := (fV.ch.trans iv.ch).trans sA.ch
  replace ww := ww.ch Z3
  have Z4 := ((kV.ch.trans fV.ch).trans iv.ch).trans sA.ch
  replace b7 := b7.ch Z4
  have Z5 := (((ya.ch.trans kV.ch).trans fV.ch).trans iv.ch).trans sA.ch
  replace ju := ju.ch Z5
  have Z6 := ((((zN.ch.trans ya.ch).trans kV.ch).trans fV.ch).trans iv.ch).trans sA.ch
  replace b9 := b9.ch Z6
  have Z7 := (((((sH.ch.trans zN.ch).trans ya.ch).trans kV.ch).trans fV.ch).trans iv.ch).trans sA.ch
  replace au := au.ch Z7
  replace hB := ((((((hB.trans sH.fr).trans zN.fr).trans ya.fr).trans kV.fr).trans fV.fr).trans iv.fr).trans sA.fr
  refine Go1.loopW (S := Nat × List Int × List Int × List Str × List Rule × List Int × List Int × List (List Int) × (List (Str × Int))) (fun s σ w => match s with | (k2_110, d_111, d_117, d_123, d_129, d_135, d_141, d_147, m2_153) => ∃ (gQ : Nat), ∃ (ja : Option Addr), ∃ (jb : Nat), ∃ (nY : List Value), ∃ (gW : Nat), ∃ (iE : Option Addr), ∃ (iO : Nat), ∃ (pt : List Value), ∃ (gX : Nat), ∃ (jc : Option Addr), ∃ (jd : Nat), ∃ (mH : List Value), ∃ (gY : Nat), ∃ (ip : Option Addr), ∃ (iB : Nat), ∃ (pv : List Value), ∃ (g5 : Nat), ∃ (jv : Option Addr), ∃ (jw : Nat), ∃ (pz : List Value), ∃ (g6 : Nat), ∃ (jO : Option Addr), ∃ (jP : Nat), ∃ (pC : List Value), ∃ (g7 : Nat), ∃ (kd : Option Addr), ∃ (ke : Nat), ∃ (pD : List Value), agrees σ [(6, .pointer (some ⟨B10, 0, none⟩)), (9, .int .i64 (-1 : Int)), (85, .slice p35 n37 c36), (86, .int .i64 (d_32.length : Int)), (87, .int .i64 (k2_110 : Int))] ∧ (fun Z0 => Owns w0.heap.size w Z0 A ∧ Els (Rp.int .i64) (bl Z0 ++ A) w nY d_111 ∧ Els (Rp.int .i64) (bl Z0 ++ A) w pt d_117 ∧ Els (Rp.str) (bl Z0 ++ A) w mH d_123 ∧ Els (rpRule) (bl Z0 ++ A) w pv d_129 ∧ Els (Rp.int .i64) (bl Z0 ++ A) w pz d_135 ∧ Els (Rp.int .i64) (bl Z0 ++ A) w pC d_141 ∧ Els (Rp.sl (Rp.int .i64)) (bl Z0 ++ A) w pD d_147 ∧ Els (Rp.sl (Rp.int .i64)) (bl Z0 ++ A) w fB d_32 ∧ Fr (bl []) w0 (bl Z0) w) [.row 3 1 ja gQ jb nY, .row 3 1 iE gW iO pt, .row 9 1 jc gX jd mH, .row 185 2 ip gY iB pv, .row 3 1 jv g5 jw pz, .row 3 1 jO g6 jP pC, .row 31 1 kd g7 ke pD, .row 31 1 p35 n37 c36 fB, .blk B10 (.cells #[.int .i64 ((ix a0 (0 : Int)).length : Int), .bool false, .slice p35 n37 c36, .slice kd g7 ke, .slice jO g6 jP, .slice jv g5 jw, .slice none 0 0, .slice ip gY iB, .int .i64 (0 : Int), .map (some B4), .slice jc gX jd, .slice iE gW iO, .slice ja gQ jb] 156 (0, 0)), .any (mapE (fun a : List UInt8 => Value.string (gstr a)) (fun a : Int => Value.int .i64 a) B4 m2_153)]) H ⟨0, none, 0, [], 0, none, 0, [], 0, none, 0, [], 0, none, 0, [], 0, none, 0, [], 0, none, 0, [], 0, none, 0, [], ⟨rfl, rfl, rfl, rfl, rfl, trivial⟩, hO, Mq, DP, b8, ww, b7, ju, b9, au, hB⟩ ?_
  intro X2
  refine prE fun k2_110 => prE fun d_111 => prE fun d_117 => prE fun d_123 => prE fun d_129 => prE fun d_135 => prE fun d_141 => prE fun d_147 => fun m2_153 => ?_
  intro H hX2 σ QO
  refine exE fun gQ => exE fun ja => exE fun jb => exE fun nY => exE fun gW => exE fun iE => exE fun iO => exE fun pt => exE fun gX => exE fun jc => exE fun jd => exE fun mH => exE fun gY => exE fun ip => exE fun iB => exE fun pv => exE fun g5 => exE fun jv => exE fun jw => exE fun pz => exE fun g6 => exE fun jO => exE fun jP => exE fun pC => exE fun g7 => exE fun kd => exE fun ke => exE fun pD => andE fun hag => andE fun hO => andE fun ca => andE fun ce => andE fun co => andE fun cf => andE fun cI => andE fun di => andE fun dm => andE fun au => fun hB => ?_
  dsimp only at H
  refine Go1.keep [(6, .pointer (some ⟨B10, 0, none⟩)), (9, .int .i64 (-1 : Int)), (85, .slice p35 n37 c36), (86, .int .i64 (d_32.length : Int)), (87, .int .i64 (k2_110 : Int))] hag ?_
  refine zq (zr ?_)
  by_cases Ay : (k2_110 : Int) < (d_32.length : Int)
  ·replace H := ifp Ay H
   refine zo (fun w => opB (op_lss rfl rfl w) (decide_eq_true Ay)) (zn (zq (zt rfl rfl (zk (zq ?_)))))
   refine zb (zq (zr (zm rfl ?_)))
   obtain ⟨xm, H⟩ := H
   obtain ⟨yU, H⟩ := H
   refine zo (op_index Try.underlying23 ti31 rfl rfl xm (ltn (au.neq hO 7 rfl) yU) (au.psome hO 7 rfl xm yU)) ?_
   have hobt := oldSl 7 hO rfl au xm yU
   obtain ⟨DR, DS, cQ, Mr⟩ := hobt
   refine zs (Mr Try.underlying31 rfl rfl) (za rfl (za rfl (zn (zq (zr ?_)))))
   refine zm rfl ?_
   obtain ⟨QP, H⟩ := H
   refine zo (op_add rfl rfl (wrap_i64 QP)) (zo (op_conv Try.underlying3 Try.underlying21 rfl rfl) ?_)
   obtain ⟨Cg, H⟩ := H
   obtain ⟨Ci, H⟩ := H
   refine zo (op_convRS Try.underlying21 Try.underlying9 rfl Cg Ci) (za rfl (zn (zq ?_)))
   refine Go1.drawS 0 [(0, .pure), (1, .pure), (2, .pure), (3, .stable), (4, .pure), (5, .loud), (6, .stable), (7, .pure), (8, .pure), (9, .pure), (10, .pure), (11, .pure)] mixed (by kernel_rfl) ?_
   intro UA Mt
   have iW := Stp.same hO Mt
   replace hO := iW.own
   refine GoQ.pure rfl (op_move rfl) rfl rfl ?_
   refine GoQ.pure rfl (op_nilCheck rfl) rfl rfl ?_
   refine GoQ.pure rfl (op_fieldAddr Try.underlying156 rfl ti154 rfl (by decide)) rfl rfl ?_
   refine GoQ.stable rfl (oblk (i := 9) 8 hO rfl rfl Try.underlying154 rfl rfl) rfl rfl ?_
   refine GoQ.pure rfl (op_move rfl) rfl rfl ?_
   replace cQ := cQ.ch iW.ch
   refine GoQ.call rfl (op_call body157 rfl (walk_enumerate_text hO.lt cQ H)) (fun v w hr => by obtain ⟨_, _, hs, _, _⟩ := hr; assumption) rfl rfl ?_
   rintro UB QQ ⟨r167, rfl, Hq, Sm, H⟩
   have rJ := Stp.same hO Hq
   replace hO := rJ.own
   by_cases xJ : mhas m2_153 r167 = true
   ·replace H := ifp xJ H
    refine GoQ.stable rfl (olookT (a := r167) (MK.str Try.underlying9) 9 hO rfl Try.underlying154 rfl rfl xJ) rfl rfl ?_
    refine GoQ.pure rfl (op_move rfl) rfl rfl ?_
    refine GoQ.pure rfl (op_extract rfl rfl) rfl rfl ?_
    refine GoQ.pure rfl (op_extract rfl rfl) rfl rfl ?_
    refine GoQ.pure rfl (op_assign rfl) rfl rfl ?_
    refine GoQ.pure rfl (op_assign rfl) rfl rfl ?_
    refine GoQ.nil ?_
    refine zq (zq ?_)
    refine Go1.cut [(6, .pointer (some ⟨B10, 0, none⟩)), (9, .int .i64 (-1 : Int)), (10, .int .i64 (k2_110 : Int)), (11, .slice DR ((ix d_32 (k2_110 : Int)).length) DS), (12, .string (gstr (chr (IntKind.i32.wrap ((97 : Int) + (k2_110 : Int)))))), (13, .int .i64 (mgt m2_153 r167)), (14, .bool true), (85, .slice p35 n37 c36), (86, .int .i64 (d_32.length : Int)), (87, .int .i64 (k2_110 : Int))] ⟨rfl, rfl, rfl, rfl, rfl, rfl, rfl, rfl, rfl, rfl, trivial⟩ ?_
    intro σ _
    refine zr (zm rfl (zn (zt rfl rfl ?_)))
    refine Go1.drawS 5 [(0, .pure), (1, .pure), (2, .pure), (3, .pure), (4, .pure), (5, .stable), (6, .pure), (7, .pure), (8, .pure), (9, .pure), (10, .stable), (11, .pure), (12, .pure), (13, .stable), (14, .pure), (15, .loud), (16, .last), (17, .pure), (18, .pure), (19, .pure), (20, .last)] mixed (by kernel_rfl) ?_
    intro P1 Mu
    have rK := Stp.same hO Mu
    replace hO := rK.own
    refine GoQ.pure rfl (op_move rfl) rfl rfl ?_
    refine GoQ.pure rfl (op_move rfl) rfl rfl ?_
    refine GoQ.pure rfl (op_nilCheck rfl) rfl rfl ?_
    refine GoQ.pure rfl (op_fieldAddr Try.underlying156 rfl ti123 rfl (by decide)) rfl rfl ?_
    refine GoQ.pure rfl (op_fieldAddr Try.underlying123 rfl ti121 rfl (by decide)) rfl rfl ?_
    refine GoQ.stable rfl (oblk (i := 7) 8 hO rfl rfl Try.underlying121 rfl rfl) rfl rfl ?_
    refine GoQ.pure rfl (op_move rfl) rfl rfl ?_
    refine GoQ.pure rfl (op_move rfl) rfl rfl ?_
    refine GoQ.pure rfl (op_nilCheck rfl) rfl rfl ?_
    refine GoQ.pure rfl (op_fieldAddr Try.underlying156 rfl ti30 rfl (by decide)) rfl rfl ?_
    refine GoQ.stable rfl (oblk (i := 10) 8 hO rfl rfl Try.underlying30 rfl rfl) rfl rfl ?_
    refine GoQ.pure rfl (op_move rfl) rfl rfl ?_
    obtain ⟨xx, H⟩ := H
    obtain ⟨xz, H⟩ := H
    have Z8 := (iW.ch.trans rJ.ch).trans rK.ch
    replace co := co.ch Z8
    refine GoQ.pure rfl (op_index Try.underlying30 ti9 rfl rfl xx (ltn (co.neq hO 2 rfl) xz) (co.psome hO 2 rfl xx xz)) rfl rfl ?_
    refine GoQ.stable rfl (oldStr 2 hO rfl co xx xz Try.underlying9 rfl rfl) rfl rfl ?_
    have hle179 := Els.str_le co xx xz
    refine GoQ.pure rfl (op_build Try.underlying185 ti185 (pl := [(0, 1), (1, 1)]) (vs := [(0, .string (gstr (chr (IntKind.i32.wrap ((97 : Int) + (k2_110 : Int)))))), (1, .string (gstr (ix d_123 (mgt m2_153 r167))))]) (cs := #[.string (gstr (chr (IntKind.i32.wrap ((97 : Int) + (k2_110 : Int))))), .string (gstr (ix d_123 (mgt m2_153 r167)))]) (by kernel_rfl) rfl (by kernel_rfl)) rfl rfl ?_
    have hobt := obuildN (r := rpRule) (n := 1) (parts := [(0, .agg #[.string (gstr (chr (IntKind.i32.wrap ((97 : Int) + (k2_110 : Int))))), .string (gstr (ix d_123 (mgt m2_153 r167)))])]) (vs := [.string (gstr (chr (IntKind.i32.wrap ((97 : Int) + (k2_110 : Int))))), .string (gstr (ix d_123 (mgt m2_153 r167)))]) (xs := [(⟨(chr (IntKind.i32.wrap ((97 : Int) + (k2_110 : Int)))), ix d_123 (mgt m2_153 r167)⟩ : Rule)]) Try.underlying121 ti185 hO (by decide) (by decide) (by kernel_rfl) (Els.flat1 (⟨(chr (IntKind.i32.wrap ((97 : Int) + (k2_110 : Int)))), ix d_123 (mgt m2_153 r167)⟩ : Rule) ⟨(chr_le _), hle179⟩) rfl
    obtain ⟨UC, UD, rL, Mv, Mw, Ix⟩ := hobt
    refine GoQ.loud rfl (Ix rfl) Mw rfl rfl ?_
    replace hO := rL.own
    have hobt := freeze 0 hO rfl Mv
    obtain ⟨hO1, ua, ro, Mx⟩ := hobt
    dsimp only [eS, eZ] at hO1 ua ro
    replace hB := ((((hB.trans iW.fr).trans rJ.fr).trans rK.fr).trans rL.fr).trans (Owns.dropFr _ _ 0)
    dsimp only [eS, eZ] at hB
    replace hO := hO1; clear hO1
    obtain ⟨xI, H⟩ := H
    replace cf := ((cf.ch Z8).ch rL.ch).ch ua
    have hobt := oapp Try.underlying121 ti185 rfl 3 hO rfl cf ro Mx xI (by decide)
    obtain ⟨UE, DT, DU, My, qb, sI, BL⟩ := hobt
    dsimp only [sS, sZ] at qb sI
    refine GoQ.last rfl (BL (by exact rfl) (by exact rfl)) rfl rfl ?_
    replace hO := qb.own
    refine GoQ.pure rfl (op_nilCheck rfl) rfl rfl ?_
    refine GoQ.pure rfl (op_fieldAddr Try.underlying156 rfl ti123 rfl (by decide)) rfl rfl ?_
    refine GoQ.pure rfl (op_fieldAddr Try.underlying123 rfl ti121 rfl (by decide)) rfl rfl ?_
    have hobt := oblkSt2 (v := .slice DT (gY + 1) DU) (i := 7) (cs' := #[.int .i64 ((ix a0 (0 : Int)).length : Int), .bool false, .slice p35 n37 c36, .slice kd g7 ke, .slice jO g6 jP, .slice jv g5 jw, .slice none 0 0, .slice DT (gY + 1) DU, .int .i64 (0 : Int), .map (some B4), .slice jc gX jd, .slice iE gW iO, .slice ja gQ jb]) 8 hO rfl rfl rfl rfl
    obtain ⟨UF, ou, Iy⟩ := hobt
    dsimp only [sS, sZ] at ou
    refine GoQ.last rfl (Iy Try.underlying121 rfl ti121 (by exact rfl) (by exact rfl)) rfl rfl ?_
    replace hO := ou.own
    refine GoQ.nil ?_
    refine Go1.cut [(6, .pointer (some ⟨B10, 0, none⟩)), (9, .int .i64 (-1 : Int)), (13, .int .i64 (mgt m2_153 r167)), (85, .slice p35 n37 c36), (86, .int .i64 (d_32.length : Int)), (87, .int .i64 (k2_110 : Int))] ⟨rfl, rfl, rfl, rfl, rfl, rfl, trivial⟩ ?_
    intro σ _
    refine zr (zm rfl (zm rfl (zo (op_nilCheck rfl) (zo (op_fieldAddr Try.underlying156 rfl ti31 rfl (by decide)) (zs (oblk (i := 12) 8 hO rfl rfl Try.underlying31 rfl rfl) ?_)))))
    refine zm rfl ?_
    have hobt := obuild (r := Rp.int .i64) (n := 1) (parts := [(0, .int .i64 (mgt m2_153 r167))]) (vs := [.int .i64 (mgt m2_153 r167)]) (xs := [(mgt m2_153 r167)]) rfl Try.underlying31 ti3 hO (by decide) (by kernel_rfl) (Els.cons rfl rfl (Els.nil _ _ _) (by simp [mx])) rfl
    obtain ⟨QR, UG, qc, Mz, SN, Iz⟩ := hobt
    refine zg (Iz rfl) ?_
    replace hO := qc.own
    have hobt := freeze 0 hO rfl Mz
    obtain ⟨hO1, tA, yb, MA⟩ := hobt
    dsimp only [eS, eZ] at hO1 tA yb
    replace hB := (((hB.trans qb.fr).trans ou.fr).trans qc.fr).trans (Owns.dropFr _ _ 0)
    dsimp only [eS, eZ] at hB
    replace hO := hO1; clear hO1
    obtain ⟨Cj, H⟩ := H
    have Z9 := (((((Z8.trans rL.ch).trans ua).trans qb.ch).trans ou.ch).trans qc.ch).trans tA
    replace ca := ca.ch Z9
    have hobt := oapp Try.underlying31 ti3 rfl 0 hO rfl ca yb MA Cj (by decide)
    obtain ⟨QS, Fz, FA, MB, ov, Bp, IA⟩ := hobt
    dsimp only [sS, sZ] at ov Bp
    refine zg (IA (by exact rfl) (by exact rfl)) ?_
    replace hO := ov.own
    refine zo (op_nilCheck rfl) (zo (op_fieldAddr Try.underlying156 rfl ti31 rfl (by decide)) ?_)
    have hobt := oblkSt2 (v := .slice Fz (gQ + 1) FA) (i := 12) (cs' := #[.int .i64 ((ix a0 (0 : Int)).length : Int), .bool false, .slice p35 n37 c36, .slice kd g7 ke, .slice jO g6 jP, .slice jv g5 jw, .slice none 0 0, .slice DT (gY + 1) DU, .int .i64 (0 : Int), .map (some B4), .slice jc gX jd, .slice iE gW iO, .slice Fz (gQ + 1) FA]) 8 hO rfl rfl rfl rfl
    obtain ⟨UH, fw, IB⟩ := hobt
    dsimp only [sS, sZ] at fw
    refine zg (IB Try.underlying31 rfl ti31 (by exact rfl) (by exact rfl)) ?_
    replace hO := fw.own
    refine zn ?_
    refine Go1.inBlock ?_
    refine zr ?_
    replace au := ((au.ch Z9).ch ov.ch).ch fw.ch
    refine zo (op_add rfl rfl (wrap_i64 (natbd Ay au.bd))) (zm rfl (zn ?_))
    replace Bp := Bp.ch fw.ch
    replace hB := (hB.trans ov.fr).trans fw.fr
    have Z10 := (((ou.ch.trans qc.ch).trans tA).trans ov.ch).trans fw.ch
    replace sI := sI.ch Z10
    have Z11 := ((((((rL.ch.trans ua).trans qb.ch).trans ou.ch).trans qc.ch).trans tA).trans ov.ch).trans fw.ch
    replace co := co.ch Z11
    have Z12 := (Z9.trans ov.ch).trans fw.ch
    replace ce := ce.ch Z12
    replace cI := cI.ch Z12
    replace di := di.ch Z12
    replace dm := dm.ch Z12
    exact hX2 _ H _ _ ⟨gQ + 1, Fz, FA, MB, gW, iE, iO, pt, gX, jc, jd, mH, gY + 1, DT, DU, My, g5, jv, jw, pz, g6, jO, jP, pC, g7, kd, ke, pD, ⟨rfl, rfl, rfl, rfl, rfl, trivial⟩, hO, Bp, ce, co, sI, cI, di, dm, au, hB⟩
   replace H := ifn xJ H
   refine GoQ.stable rfl (olookF (a := r167) (MK.str Try.underlying9) 9 hO rfl Try.underlying154 ti3 rfl rfl xJ) rfl rfl ?_
   refine GoQ.pure rfl (op_move rfl) rfl rfl ?_
   refine GoQ.pure rfl (op_extract rfl rfl) rfl rfl ?_
   refine GoQ.pure rfl (op_extract rfl rfl) rfl rfl ?_
   refine GoQ.pure rfl (op_assign rfl) rfl rfl ?_
   refine GoQ.pure rfl (op_assign rfl) rfl rfl ?_
   refine GoQ.nil ?_
   refine zq (zq (zr (zm rfl (zn (zf rfl rfl ?_)))))
   refine Go1.cut [(6, .pointer (some ⟨B10, 0, none⟩)), (9, .int .i64 (-1 : Int)), (10, .int .i64 (k2_110 : Int)), (11, .slice DR ((ix d_32 (k2_110 : Int)).length) DS), (12, .string (gstr (chr (IntKind.i32.wrap ((97 : Int) + (k2_110 : Int)))))), (85, .slice p35 n37 c36), (86, .int .i64 (d_32.length : Int)), (87, .int .i64 (k2_110 : Int))] ⟨rfl, rfl, rfl, rfl, rfl, rfl, rfl, rfl, trivial⟩ ?_
   intro σ _
   refine zr (zm rfl (zm rfl ?_))
   replace cQ := cQ.ch rJ.ch
   refine GoR.call (op_call body86 rfl (walk_slices_Clone_int hO.lt cQ H)) rfl rfl ?_
   rintro UI UJ ⟨r224, xK, ux, uy, Sn, rfl, MC, hN228, ub, H⟩
   have qd := Stp.more hO MC hN228
   dsimp only [List.cons_append, List.nil_append] at qd
   replace hO := qd.own
   refine zm rfl (zm rfl (zm rfl (zm rfl ?_)))
   refine GoR.inl (vs := [.pointer (some ⟨B10, 0, none⟩), .slice ux xK uy, .int .i64 (-1 : Int), .int .i64 (k2_110 : Int), .string (gstr (chr (IntKind.i32.wrap ((97 : Int) + (k2_110 : Int))))), .int .i64 (-1 : Int)]) (caps := []) rfl rfl body155 Try.func155 rfl Try.ntmps155 rfl rfl rfl ?_
   intro RhR232 hR232
   refine zq (zr (za rfl (zn (zq (zr ?_)))))
   refine zm rfl (zo (op_nilCheck rfl) (zo (op_fieldAddr Try.underlying156 rfl ti123 rfl (by decide)) (zo (op_fieldAddr Try.underlying123 rfl ti23 rfl (by decide)) (zs (oblk (i := 3) 9 hO rfl rfl Try.underlying23 rfl rfl) ?_))))
   have Z13 := (iW.ch.trans rJ.ch).trans qd.ch
   replace dm := dm.ch Z13
   refine zo (op_lenN Try.underlying23 rfl (dm.neq hO 7 rfl)) (za rfl (zn (zq ?_)))
   refine Go1.drawS 1 [(0, .pure), (1, .pure), (2, .pure), (3, .stable), (4, .pure), (6, .pure), (5, .loud), (7, .last)] mixed (by kernel_rfl) ?_
   intro QT MD
   have qe := Stp.same hO MD
   replace hO := qe.own
   refine GoQ.pure rfl (op_move rfl) rfl rfl ?_
   refine GoQ.pure rfl (op_nilCheck rfl) rfl rfl ?_
   refine GoQ.pure rfl (op_fieldAddr Try.underlying156 rfl ti154 rfl (by decide)) rfl rfl ?_
   refine GoQ.stable rfl (oblk (i := 9) 9 hO rfl rfl Try.underlying154 rfl rfl) rfl rfl ?_
   refine GoQ.pure rfl (op_move rfl) rfl rfl ?_
   refine GoQ.pure rfl (op_move rfl) rfl rfl ?_
   replace ub := ub.ch (Ch.assoc _ _ _ _)
   replace ub := ub.ch qe.ch
   have hobt := rowlend 0 hO rfl ub
   obtain ⟨ME, MF⟩ := hobt
   have hOc238 := hO.drop 0
   refine GoQ.call rfl (op_call body157 (show ([.slice ux xK uy] : List Value) = [.slice ux r224.length uy] from by rw [← MF]) (walk_enumerate_text hOc238.lt ME H)) (fun v w hr => by obtain ⟨_, _, hs, _, _⟩ := hr; assumption) rfl rfl ?_
   rintro UK QU ⟨r239, rfl, DW, So, H⟩
   have qf := Stp.same hO DW
   replace hO := qf.own
   have hobt := omapUpd (MK.str Try.underlying9) 10 hO rfl Try.underlying154 r239 (d_147.length : Int)
   obtain ⟨QV, fX, Ck⟩ := hobt
   dsimp only [sS, sZ] at fX
   refine GoQ.last rfl (Ck (by exact rfl) (by exact rfl) (by exact rfl)) rfl rfl ?_
   replace hO := fX.own
   refine GoQ.nil ?_
   refine zq ?_
   refine Go1.cut [(0, .pointer (some ⟨B10, 0, none⟩)), (1, .slice ux xK uy), (2, .int .i64 (-1 : Int)), (3, .int .i64 (k2_110 : Int)), (4, .string (gstr (chr (IntKind.i32.wrap ((97 : Int) + (k2_110 : Int)))))), (5, .int .i64 (-1 : Int)), (13, .int .i64 (d_147.length : Int))] ⟨rfl, rfl, rfl, rfl, rfl, rfl, rfl, trivial⟩ ?_
   intro σ _
   refine zr (zm rfl (zm rfl (zo (op_nilCheck rfl) (zo (op_fieldAddr Try.underlying156 rfl ti123 rfl (by decide)) (zo (op_fieldAddr Try.underlying123 rfl ti23 rfl (by decide)) ?_)))))
   refine zs (oblk (i := 3) 9 hO rfl rfl Try.underlying23 rfl rfl) (zm rfl ?_)
   replace ub := (ub.ch qf.ch).ch fX.ch
   have hobt := freeze 0 hO rfl ub
   obtain ⟨hO1, uc, dU, MG⟩ := hobt
   dsimp only [eS, eZ] at hO1 uc dU
   replace hB := ((((((hB.trans iW.fr).trans rJ.fr).trans qd.fr).trans qe.fr).trans qf.fr).trans fX.fr).trans (Owns.dropFr _ _ 0)
   dsimp only [eS, eZ] at hB
   replace hO := hO1; clear hO1
   have hobt := obuild (r := Rp.sl (Rp.int .i64)) (n := 1) (parts := [(0, .slice ux xK uy)]) (vs := [.slice ux xK uy]) (xs := [r224]) rfl Try.underlying23 ti31 hO (by decide) (by kernel_rfl) (Els.cons rfl ⟨ux, uy, congrArg some (congrArg (fun nn => Value.slice ux nn uy) MG), dU⟩ (Els.nil _ _ _) (by simp [mx])) rfl
   obtain ⟨UL, UM, qg, MH, SO, IC⟩ := hobt
   refine zg (IC rfl) ?_
   replace hO := qg.own
   have hobt := freeze 0 hO rfl MH
   obtain ⟨hO1, tB, d8, MJ⟩ := hobt
   dsimp only [eS, eZ] at hO1 tB d8
   replace hB := (hB.trans qg.fr).trans (Owns.dropFr _ _ 0)
   dsimp only [eS, eZ] at hB
   replace hO := hO1; clear hO1
   obtain ⟨QW, H⟩ := H
   have Z14 := ((((qe.ch.trans qf.ch).trans fX.ch).trans uc).trans qg.ch).trans tB
   replace dm := dm.ch Z14
   have hobt := oapp Try.underlying23 ti31 rfl 6 hO rfl dm d8 MJ QW (by decide)
   obtain ⟨UN, xL, xM, ML, ow, eo, ID⟩ := hobt
   dsimp only [sS, sZ] at ow eo
   refine zg (ID (by exact rfl) (by exact rfl)) ?_
   replace hO := ow.own
   refine zo (op_nilCheck rfl) (zo (op_fieldAddr Try.underlying156 rfl ti123 rfl (by decide)) (zo (op_fieldAddr Try.underlying123 rfl ti23 rfl (by decide)) ?_))
   have hobt := oblkSt2 (v := .slice xL (g7 + 1) xM) (i := 3) (cs' := #[.int .i64 ((ix a0 (0 : Int)).length : Int), .bool false, .slice p35 n37 c36, .slice xL (g7 + 1) xM, .slice jO g6 jP, .slice jv g5 jw, .slice none 0 0, .slice ip gY iB, .int .i64 (0 : Int), .map (some B4), .slice jc gX jd, .slice iE gW iO, .slice ja gQ jb]) 8 hO rfl rfl rfl rfl
   obtain ⟨UO, mO, IE⟩ := hobt
   dsimp only [sS, sZ] at mO
   refine zg (IE Try.underlying23 rfl ti23 (by exact rfl) (by exact rfl)) ?_
   replace hO := mO.own
   refine zn (zq (zr (zm rfl (zm rfl (zo (op_nilCheck rfl) ?_)))))
   refine zo (op_fieldAddr Try.underlying156 rfl ti123 rfl (by decide)) (zo (op_fieldAddr Try.underlying123 rfl ti31 rfl (by decide)) (zs (oblk (i := 4) 8 hO rfl rfl Try.underlying31 rfl rfl) (zm rfl ?_)))
   have hobt := obuild (r := Rp.int .i64) (n := 1) (parts := [(0, .int .i64 (-1 : Int))]) (vs := [.int .i64 (-1 : Int)]) (xs := [(-1 : Int)]) rfl Try.underlying31 ti3 hO (by decide) (by kernel_rfl) (Els.cons rfl rfl (Els.nil _ _ _) (by simp [mx])) rfl
   obtain ⟨UP, UQ, oA, MM, SP, IF⟩ := hobt
   refine zg (IF rfl) ?_
   replace hO := oA.own
   have hobt := freeze 0 hO rfl MM
   obtain ⟨hO1, iD, fk, MO⟩ := hobt
   dsimp only [eS, eZ] at hO1 iD fk
   replace hB := (((hB.trans ow.fr).trans mO.fr).trans oA.fr).trans (Owns.dropFr _ _ 0)
   dsimp only [eS, eZ] at hB
   replace hO := hO1; clear hO1
   obtain ⟨QX, H⟩ := H
   have Z15 := (((((((((Z13.trans qe.ch).trans qf.ch).trans fX.ch).trans uc).trans qg.ch).trans tB).trans ow.ch).trans mO.ch).trans oA.ch).trans iD
   replace di := di.ch Z15
   have hobt := oapp Try.underlying31 ti3 rfl 5 hO rfl di fk MO QX (by decide)
   obtain ⟨FB, yV, yW, MP, mP, fH, IG⟩ := hobt
   dsimp only [sS, sZ] at mP fH
   refine zg (IG (by exact rfl) (by exact rfl)) ?_
   replace hO := mP.own
   refine zo (op_nilCheck rfl) (zo (op_fieldAddr Try.underlying156 rfl ti123 rfl (by decide)) (zo (op_fieldAddr Try.underlying123 rfl ti31 rfl (by decide)) ?_))
   have hobt := oblkSt2 (v := .slice yV (g6 + 1) yW) (i := 4) (cs' := #[.int .i64 ((ix a0 (0 : Int)).length : Int), .bool false, .slice p35 n37 c36, .slice xL (g7 + 1) xM, .slice yV (g6 + 1) yW, .slice jv g5 jw, .slice none 0 0, .slice ip gY iB, .int .i64 (0 : Int), .map (some B4), .slice jc gX jd, .slice iE gW iO, .slice ja gQ jb]) 8 hO rfl rfl rfl rfl
   obtain ⟨Qd, gM, BQ⟩ := hobt
   dsimp only [sS, sZ] at gM
   refine zg (BQ Try.underlying31 rfl ti31 (by exact rfl) (by exact rfl)) ?_
   replace hO := gM.own
   refine zn (zq ?_)
   refine Go1.cut [(0, .pointer (some ⟨B10, 0, none⟩)), (3, .int .i64 (k2_110 : Int)), (4, .string (gstr (chr (IntKind.i32.wrap ((97 : Int) + (k2_110 : Int)))))), (5, .int .i64 (-1 : Int)), (13, .int .i64 (d_147.length : Int))] ⟨rfl, rfl, rfl, rfl, rfl, trivial⟩ ?_
   intro σ _
   refine zr (zm rfl (zm rfl (zo (op_nilCheck rfl) (zo (op_fieldAddr Try.underlying156 rfl ti123 rfl (by decide)) (zo (op_fieldAddr Try.underlying123 rfl ti31 rfl (by decide)) ?_)))))
   refine zs (oblk (i := 5) 8 hO rfl rfl Try.underlying31 rfl rfl) (zm rfl ?_)
   have hobt := obuild (r := Rp.int .i64) (n := 1) (parts := [(0, .int .i64 (k2_110 : Int))]) (vs := [.int .i64 (k2_110 : Int)]) (xs := [(k2_110 : Int)]) rfl Try.underlying31 ti3 hO (by decide) (by kernel_rfl) (Els.cons rfl rfl (Els.nil _ _ _) (by simp [mx])) rfl
   obtain ⟨Qe, UR, ir, DX, SQ, IH⟩ := hobt
   refine zg (IH rfl) ?_
   replace hO := ir.own
   have hobt := freeze 0 hO rfl DX
   obtain ⟨hO1, rY, gJ, MQ⟩ := hobt
   dsimp only [eS, eZ] at hO1 rY gJ
   replace hB := (((hB.trans mP.fr).trans gM.fr).trans ir.fr).trans (Owns.dropFr _ _ 0)
   dsimp only [eS, eZ] at hB
   replace hO := hO1; clear hO1
   obtain ⟨QY, H⟩ := H
   have Z16 := (((Z15.trans mP.ch).trans gM.ch).trans ir.ch).trans rY
   replace cI := cI.ch Z16
   have hobt := oapp Try.underlying31 ti3 rfl 4 hO rfl cI gJ MQ QY (by decide)
   obtain ⟨US, Az, AA, MR, lY, gT, II⟩ := hobt
   dsimp only [sS, sZ] at lY gT
   refine zg (II (by exact rfl) (by exact rfl)) ?_
   replace hO := lY.own
   refine zo (op_nilCheck rfl) (zo (op_fieldAddr Try.underlying156 rfl ti123 rfl (by decide)) (zo (op_fieldAddr Try.underlying123 rfl ti31 rfl (by decide)) ?_))
   have hobt := oblkSt2 (v := .slice Az (g5 + 1) AA) (i := 5) (cs' := #[.int .i64 ((ix a0 (0 : Int)).length : Int), .bool false, .slice p35 n37 c36, .slice xL (g7 + 1) xM, .slice yV (g6 + 1) yW, .slice Az (g5 + 1) AA, .slice none 0 0, .slice ip gY iB, .int .i64 (0 : Int), .map (some B4), .slice jc gX jd, .slice iE gW iO, .slice ja gQ jb]) 8 hO rfl rfl rfl rfl
   obtain ⟨Qg, li, IJ⟩ := hobt
   dsimp only [sS, sZ] at li
   refine zg (IJ Try.underlying31 rfl ti31 (by exact rfl) (by exact rfl)) ?_
   replace hO := li.own
   refine zn (zq (zr (zm rfl (zm rfl (zo (op_nilCheck rfl) ?_)))))
   refine zo (op_fieldAddr Try.underlying156 rfl ti30 rfl (by decide)) (zs (oblk (i := 10) 8 hO rfl rfl Try.underlying30 rfl rfl) (zm rfl ?_))
   have hobt := obuild (r := Rp.str) (n := 1) (parts := [(0, .string (gstr (chr (IntKind.i32.wrap ((97 : Int) + (k2_110 : Int))))))]) (vs := [.string (gstr (chr (IntKind.i32.wrap ((97 : Int) + (k2_110 : Int)))))]) (xs := [chr (IntKind.i32.wrap ((97 : Int) + (k2_110 : Int)))]) rfl Try.underlying30 ti9 hO (by decide) (by kernel_rfl) (Els.cons rfl ⟨rfl, (chr_le _)⟩ (Els.nil _ _ _) (by simp [mx])) rfl
   obtain ⟨UT, UU, l5, MS, SR, IK⟩ := hobt
   refine zg (IK rfl) ?_
   replace hO := l5.own
   have hobt := freeze 0 hO rfl MS
   obtain ⟨hO1, rp, jS, MT⟩ := hobt
   dsimp only [eS, eZ] at hO1 rp jS
   replace hB := (((hB.trans lY.fr).trans li.fr).trans l5.fr).trans (Owns.dropFr _ _ 0)
   dsimp only [eS, eZ] at hB
   replace hO := hO1; clear hO1
   obtain ⟨E5, H⟩ := H
   have Z17 := (((Z16.trans lY.ch).trans li.ch).trans l5.ch).trans rp
   replace co := co.ch Z17
   have hobt := oapp Try.underlying30 ti9 rfl 2 hO rfl co jS MT E5 (by decide)
   obtain ⟨H7, Cl, Cm, tY, eA, kX, IL⟩ := hobt
   dsimp only [sS, sZ] at eA kX
   refine zg (IL (by exact rfl) (by exact rfl)) ?_
   replace hO := eA.own
   refine zo (op_nilCheck rfl) (zo (op_fieldAddr Try.underlying156 rfl ti30 rfl (by decide)) ?_)
   have hobt := oblkSt2 (v := .slice Cl (gX + 1) Cm) (i := 10) (cs' := #[.int .i64 ((ix a0 (0 : Int)).length : Int), .bool false, .slice p35 n37 c36, .slice xL (g7 + 1) xM, .slice yV (g6 + 1) yW, .slice Az (g5 + 1) AA, .slice none 0 0, .slice ip gY iB, .int .i64 (0 : Int), .map (some B4), .slice Cl (gX + 1) Cm, .slice iE gW iO, .slice ja gQ jb]) 8 hO rfl rfl rfl rfl
   obtain ⟨UV, kw, IM⟩ := hobt
   dsimp only [sS, sZ] at kw
   refine zg (IM Try.underlying30 rfl ti30 (by exact rfl) (by exact rfl)) ?_
   replace hO := kw.own
   refine zn (zq ?_)
   refine Go1.cut [(0, .pointer (some ⟨B10, 0, none⟩)), (5, .int .i64 (-1 : Int)), (13, .int .i64 (d_147.length : Int))] ⟨rfl, rfl, rfl, trivial⟩ ?_
   intro σ _
   refine zr (zm rfl (zm rfl (zo (op_nilCheck rfl) (zo (op_fieldAddr Try.underlying156 rfl ti31 rfl (by decide)) (zs (oblk (i := 11) 8 hO rfl rfl Try.underlying31 rfl rfl) ?_)))))
   refine zm rfl ?_
   have hobt := obuild (r := Rp.int .i64) (n := 1) (parts := [(0, .int .i64 (-1 : Int))]) (vs := [.int .i64 (-1 : Int)]) (xs := [(-1 : Int)]) rfl Try.underlying31 ti3 hO (by decide) (by kernel_rfl) (Els.cons rfl rfl (Els.nil _ _ _) (by simp [mx])) rfl
   obtain ⟨UW, UX, lj, sJ, SS, IN⟩ := hobt
   refine zg (IN rfl) ?_
   replace hO := lj.own
   have hobt := freeze 0 hO rfl sJ
   obtain ⟨hO1, kU, ko, Dy⟩ := hobt
   dsimp only [eS, eZ] at hO1 kU ko
   replace hB := (((hB.trans eA.fr).trans kw.fr).trans lj.fr).trans (Owns.dropFr _ _ 0)
   dsimp only [eS, eZ] at hB
   replace hO := hO1; clear hO1
   obtain ⟨Q0, H⟩ := H
   have Z18 := (((Z17.trans eA.ch).trans kw.ch).trans lj.ch).trans kU
   replace ce := ce.ch Z18
   have hobt := oapp Try.underlying31 ti3 rfl 1 hO rfl ce ko Dy Q0 (by decide)
   obtain ⟨UY, DY, D0, MU, kx, sK, IQ⟩ := hobt
   dsimp only [sS, sZ] at kx sK
   refine zg (IQ (by exact rfl) (by exact rfl)) ?_
   replace hO := kx.own
   refine zo (op_nilCheck rfl) (zo (op_fieldAddr Try.underlying156 rfl ti31 rfl (by decide)) ?_)
   have hobt := oblkSt2 (v := .slice DY (gW + 1) D0) (i := 11) (cs' := #[.int .i64 ((ix a0 (0 : Int)).length : Int), .bool false, .slice p35 n37 c36, .slice xL (g7 + 1) xM, .slice yV (g6 + 1) yW, .slice Az (g5 + 1) AA, .slice none 0 0, .slice ip gY iB, .int .i64 (0 : Int), .map (some B4), .slice Cl (gX + 1) Cm, .slice DY (gW + 1) D0, .slice ja gQ jb]) 8 hO rfl rfl rfl rfl
   obtain ⟨H9, jX, IR⟩ := hobt
   dsimp only [sS, sZ] at jX
   refine zg (IR Try.underlying31 rfl ti31 (by exact rfl) (by exact rfl)) ?_
   replace hO := jX.own
   refine zn (zq (zr (zm rfl (za rfl (zn ?_)))))
   refine Go1.ret1V Try.func155 rfl (show _ = .int .i64 (d_147.length : Int) from rfl) ?_
   refine hR232 _ _ ?_
   refine za rfl (zn (zr (zm rfl (zm rfl (zo (op_nilCheck rfl) ?_)))))
   refine zo (op_fieldAddr Try.underlying156 rfl ti31 rfl (by decide)) (zs (oblk (i := 12) 8 hO rfl rfl Try.underlying31 rfl rfl) (zm rfl ?_))
   have hobt := obuild (r := Rp.int .i64) (n := 1) (parts := [(0, .int .i64 (d_147.length : Int))]) (vs := [.int .i64 (d_147.length : Int)]) (xs := [(d_147.length : Int)]) rfl Try.underlying31 ti3 hO (by decide) (by kernel_rfl) (Els.cons rfl rfl (Els.nil _ _ _) (by simp [mx])) rfl
   obtain ⟨U0, U1, kz, MV, ST, BU⟩ := hobt
   refine zg (BU rfl) ?_
   replace hO := kz.own
   have hobt := freeze 0 hO rfl MV
   obtain ⟨hO1, oa, yc, MW⟩ := hobt
   dsimp only [eS, eZ] at hO1 oa yc
   replace hB := (((hB.trans kx.fr).trans jX.fr).trans kz.fr).trans (Owns.dropFr _ _ 0)
   dsimp only [eS, eZ] at hB
   replace hO := hO1; clear hO1
   obtain ⟨Q1, H⟩ := H
   have Z19 := (((Z18.trans kx.ch).trans jX.ch).trans kz.ch).trans oa
   replace ca := ca.ch Z19
   have hobt := oapp Try.underlying31 ti3 rfl 0 hO rfl ca yc MW Q1 (by decide)
   obtain ⟨U2, FC, FD, MX, jY, Bq, IS⟩ := hobt
   dsimp only [sS, sZ] at jY Bq
   refine zg (IS (by exact rfl) (by exact rfl)) ?_
   replace hO := jY.own
   refine zo (op_nilCheck rfl) (zo (op_fieldAddr Try.underlying156 rfl ti31 rfl (by decide)) ?_)
   have hobt := oblkSt2 (v := .slice FC (gQ + 1) FD) (i := 12) (cs' := #[.int .i64 ((ix a0 (0 : Int)).length : Int), .bool false, .slice p35 n37 c36, .slice xL (g7 + 1) xM, .slice yV (g6 + 1) yW, .slice Az (g5 + 1) AA, .slice none 0 0, .slice ip gY iB, .int .i64 (0 : Int), .map (some B4), .slice Cl (gX + 1) Cm, .slice DY (gW + 1) D0, .slice FC (gQ + 1) FD]) 8 hO rfl rfl rfl rfl
   obtain ⟨U3, jx, IT⟩ := hobt
   dsimp only [sS, sZ] at jx
   refine zg (IT Try.underlying31 rfl ti31 (by exact rfl) (by exact rfl)) ?_
   replace hO := jx.own
   refine zn ?_
   refine Go1.inBlock ?_
   refine Go1.cut [(6, .pointer (some ⟨B10, 0, none⟩)), (9, .int .i64 (-1 : Int)), (85, .slice p35 n37 c36), (86, .int .i64 (d_32.length : Int)), (87, .int .i64 (k2_110 : Int))] ⟨rfl, rfl, rfl, rfl, rfl, trivial⟩ ?_
   intro σ _
   refine zr ?_
   replace au := ((au.ch Z19).ch jY.ch).ch jx.ch
   refine zo (op_add rfl rfl (wrap_i64 (natbd Ay au.bd))) (zm rfl (zn ?_))
   replace Bq := Bq.ch jx.ch
   replace hB := (hB.trans jY.fr).trans jx.fr
   have Z20 := (((jX.ch.trans kz.ch).trans oa).trans jY.ch).trans jx.ch
   replace sK := sK.ch Z20
   have Z21 := (((((((kw.ch.trans lj.ch).trans kU).trans kx.ch).trans jX.ch).trans kz.ch).trans oa).trans jY.ch).trans jx.ch
   replace kX := kX.ch Z21
   have Z22 := (((((((((((li.ch.trans l5.ch).trans rp).trans eA.ch).trans kw.ch).trans lj.ch).trans kU).trans kx.ch).trans jX.ch).trans kz.ch).trans oa).trans jY.ch).trans jx.ch
   replace gT := gT.ch Z22
   have Z23 := (((((((((((((((gM.ch.trans ir.ch).trans rY).trans lY.ch).trans li.ch).trans l5.ch).trans rp).trans eA.ch).trans kw.ch).trans lj.ch).trans kU).trans kx.ch).trans jX.ch).trans kz.ch).trans oa).trans jY.ch).trans jx.ch
   replace fH := fH.ch Z23
   have Z24 := (((((((((((((((((((mO.ch.trans oA.ch).trans iD).trans mP.ch).trans gM.ch).trans ir.ch).trans rY).trans lY.ch).trans li.ch).trans l5.ch).trans rp).trans eA.ch).trans kw.ch).trans lj.ch).trans kU).trans kx.ch).trans jX.ch).trans kz.ch).trans oa).trans jY.ch).trans jx.ch
   replace eo := eo.ch Z24
   replace cf := ((cf.ch Z19).ch jY.ch).ch jx.ch
   exact hX2 _ H _ _ ⟨gQ + 1, FC, FD, MX, gW + 1, DY, D0, MU, gX + 1, Cl, Cm, tY, gY, ip, iB, pv, g5 + 1, Az, AA, MR, g6 + 1, yV, yW, MP, g7 + 1, xL, xM, ML, ⟨rfl, rfl, rfl, rfl, rfl, trivial⟩, hO, Bq, sK, kX, cf, gT, fH, eo, au, hB⟩
  replace H := ifn Ay H
  refine zo (fun w => opB (op_lss rfl rfl w) (decide_eq_false Ay)) (zn (zq (zf rfl rfl ?_)))
  refine Go1.exit rfl ?_
  refine zq (zr (zm rfl (za rfl (za rfl (zn ?_)))))
  have sB := Stp.nil (e := 31) (r := 1) hO
  replace hO := sB.own
  have cv := Els.nil (Rp.sl (Rp.int .i64)) (bl (.row 31 1 none 0 0 [] :: [.row 3 1 ja gQ jb nY, .row 3 1 iE gW iO pt, .row 9 1 jc gX jd mH, .row 185 2 ip gY iB pv, .row 3 1 jv g5 jw pz, .row 3 1 jO g6 jP pC, .row 31 1 kd g7 ke pD, .row 31 1 p35 n37 c36 fB, .blk B10 (.cells #[.int .i64 ((ix a0 (0 : Int)).length : Int), .bool false, .slice p35 n37 c36, .slice kd g7 ke, .slice jO g6 jP, .slice jv g5 jw, .slice none 0 0, .slice ip gY iB, .int .i64 (0 : Int), .map (some B4), .slice jc gX jd, .slice iE gW iO, .slice ja gQ jb] 156 (0, 0)), .any (mapE (fun a : List UInt8 => Value.string (gstr a)) (fun a : Int => Value.int .i64 a) B4 m2_153)]) ++ A) QO
  have fJ := Stp.front 10 hO rfl
  dsimp only [eS, eZ] at fJ
  replace hO := fJ.own
  have jr := Stp.front 2 hO rfl
  dsimp only [eS, eZ] at jr
  replace hO := jr.own
  have fF := Stp.front 3 hO rfl
  dsimp only [eS, eZ] at fF
  replace hO := fF.own
  have qh := Stp.front 4 hO rfl
  dsimp only [eS, eZ] at qh
  replace hO := qh.own
  have qi := Stp.front 5 hO rfl
  dsimp only [eS, eZ] at qi
  replace hO := qi.own
  have qj := Stp.front 5 hO rfl
  dsimp only [eS, eZ] at qj
  replace hO := qj.own
  have fK := Stp.front 6 hO rfl
  dsimp only [eS, eZ] at fK
  replace hO := fK.own
  have qk := Stp.front 7 hO rfl
  dsimp only [eS, eZ] at qk
  replace hO := qk.own
  have ql := Stp.front 8 hO rfl
  dsimp only [eS, eZ] at ql
  replace hO := ql.own
  have qm := Stp.front 9 hO rfl
  dsimp only [eS, eZ] at qm
  replace hO := qm.own
  have qn := Stp.front 10 hO rfl
  dsimp only [eS, eZ] at qn
  replace hO := qn.own
  refine Go1.ret2 Try.func131 rfl ?_
  have Z25 := (((((((((fJ.ch.trans jr.ch).trans fF.ch).trans qh.ch).trans qi.ch).trans qj.ch).trans fK.ch).trans qk.ch).trans ql.ch).trans qm.ch).trans qn.ch
  replace cv := cv.ch Z25
  have Z26 := ((((((((((sB.ch.trans fJ.ch).trans jr.ch).trans fF.ch).trans qh.ch).trans qi.ch).trans qj.ch).trans fK.ch).trans qk.ch).trans ql.ch).trans qm.ch).trans qn.ch
  replace ca := ca.ch Z26
  replace ce := ce.ch Z26
  replace co := co.ch Z26
  replace cf := cf.ch Z26
  replace cI := cI.ch Z26
  replace di := di.ch Z26
  replace dm := dm.ch Z26
  replace au := au.ch Z26
  replace hB := (((((((((((hB.trans sB.fr).trans fJ.fr).trans jr.fr).trans fF.fr).trans qh.fr).trans qi.fr).trans qj.fr).trans fK.fr).trans qk.fr).trans ql.fr).trans qm.fr).trans qn.fr
  exact Or.inr ⟨(⟨(⟨((ix a0 (0 : Int)).length : Int), false, d_32, d_147, d_141, d_135, ([] : List (List Int)), d_129, (0 : Int)⟩ : Enum), m2_153, d_123, d_117, d_111⟩ : run), ((0 : Int)), B10, n37, p35, c36, fB, g7, kd, ke, pD, g6, jO, jP, pC, g5, jv, jw, pz, 0, none, 0, ([]), gY, ip, iB, pv, B4, gX, jc, jd, mH, gW, iE, iO, pt, gQ, ja, jb, nY, rfl, hB.same, hO, au, dm, di, cI, cv, cf, co, ce, ca, H⟩
 replace H := ifp rfl H
 refine zt rfl rfl (zr (zm rfl (zm rfl (zo (op_nilCheck rfl) (zo (op_fieldAddr Try.underlying156 rfl ti123 rfl (by decide)) ?_)))))
 refine zo (op_fieldAddr Try.underlying123 rfl ti3 rfl (by decide)) (zs (oblk (i := 0) 1 hO rfl rfl Try.underlying3 rfl rfl) ?_)
 refine GoR.call (op_call body156 rfl (walk_trans_Identity hO.lt H)) rfl rfl ?_
 rintro U4 U5 ⟨r397, xN, xO, rfl, MY, db, H⟩
 have zO := Stp.same hO MY
 replace hO := zO.own
 refine GoR.inl (vs := [.pointer (some ⟨B10, 0, none⟩), .slice xN r397.length xO, .int .i64 (-1 : Int), .int .i64 (-1 : Int), .string (gstr (([] : Str))), .int .i64 (-1 : Int)]) (caps := []) rfl rfl body155 Try.func155 rfl Try.ntmps155 rfl rfl rfl ?_
 intro RhR403 hR403
 refine zq (zr (za rfl (zn (zq (zr ?_)))))
 refine zm rfl (zo (op_nilCheck rfl) (zo (op_fieldAddr Try.underlying156 rfl ti123 rfl (by decide)) (zo (op_fieldAddr Try.underlying123 rfl ti23 rfl (by decide)) (zs (oblk (i := 3) 1 hO rfl rfl Try.underlying23 rfl rfl) (zo (op_len Try.underlying23 rfl) ?_)))))
 refine za rfl (zn (zq ?_))
 refine Go1.cut [(0, .pointer (some ⟨B10, 0, none⟩)), (1, .slice xN r397.length xO), (2, .int .i64 (-1 : Int)), (3, .int .i64 (-1 : Int)), (4, .string (gstr (([] : Str)))), (5, .int .i64 (-1 : Int)), (13, .int .i64 (0 : Int))] ⟨rfl, rfl, rfl, rfl, rfl, rfl, rfl, trivial⟩ ?_
 intro σ _
 refine Go1.drawS 1 [(0, .pure), (1, .pure), (2, .pure), (3, .stable), (4, .pure), (6, .pure), (5, .loud), (7, .last)] mixed (by kernel_rfl) ?_
 intro U6 M0
 have xP := Stp.same hO M0
 replace hO := xP.own
 refine GoQ.pure rfl (op_move rfl) rfl rfl ?_
 refine GoQ.pure rfl (op_nilCheck rfl) rfl rfl ?_
 refine GoQ.pure rfl (op_fieldAddr Try.underlying156 rfl ti154 rfl (by decide)) rfl rfl ?_
 refine GoQ.stable rfl (oblk (i := 9) 1 hO rfl rfl Try.underlying154 rfl rfl) rfl rfl ?_
 refine GoQ.pure rfl (op_move rfl) rfl rfl ?_
 refine GoQ.pure rfl (op_move rfl) rfl rfl ?_
 replace db := db.ch xP.ch
 refine GoQ.call rfl (op_call body157 rfl (walk_enumerate_text hO.lt db H)) (fun v w hr => by obtain ⟨_, _, hs, _, _⟩ := hr; assumption) rfl rfl ?_
 rintro U7 Q2 ⟨r407, rfl, D1, Sp, H⟩
 have xQ := Stp.same hO D1
 replace hO := xQ.own
 have hobt := omapUpd (MK.str Try.underlying9) 2 hO rfl Try.underlying154 r407 (0 : Int)
 obtain ⟨U8, eg, IU⟩ := hobt
 refine GoQ.last rfl (IU (by exact rfl) (by exact rfl) (by exact rfl)) rfl rfl ?_
 replace hO := eg.own
 refine GoQ.nil ?_
 refine zq (zr (zm rfl (zm rfl (zo (op_nilCheck rfl) (zo (op_fieldAddr Try.underlying156 rfl ti123 rfl (by decide)) ?_)))))
 refine zo (op_fieldAddr Try.underlying123 rfl ti23 rfl (by decide)) (zs (oblk (i := 3) 1 hO rfl rfl Try.underlying23 rfl rfl) (zm rfl ?_))
 replace db := (db.ch xQ.ch).ch eg.ch
 have hobt := obuild (r := Rp.sl (Rp.int .i64)) (n := 1) (parts := [(0, .slice xN r397.length xO)]) (vs := [.slice xN r397.length xO]) (xs := [r397]) rfl Try.underlying23 ti31 hO (by decide) (by kernel_rfl) (Els.cons rfl ⟨xN, xO, rfl, db⟩ (Els.nil _ _ _) (by simp [mx])) rfl
 obtain ⟨Q3, U9, xR, M1, SU, IV⟩ := hobt
 refine zg (IV rfl) ?_
 replace hO := xR.own
 have hobt := freeze 0 hO rfl M1
 obtain ⟨hO1, D2, dR, M2⟩ := hobt
 replace hO := hO1; clear hO1
 have gH := Stp.nil (e := 31) (r := 1) hO
 replace hO := gH.own
 have gk := Els.nil (Rp.sl (Rp.int .i64)) (bl (.row 31 1 none 0 0 [] :: [.row 31 1 p35 n37 c36 fB, .blk B10 (.cells #[.int .i64 ((ix a0 (0 : Int)).length : Int), .bool true, .slice p35 n37 c36, .slice none 0 0, .slice none 0 0, .slice none 0 0, .slice none 0 0, .slice none 0 0, .int .i64 (0 : Int), .map (some B4), .slice none 0 0, .slice none 0 0, .slice none 0 0] 156 (0, 0)), .any (mapE (fun a : List UInt8 => Value.string (gstr a)) (fun a : Int => Value.int .i64 a) B4 (mput (([] : List (Str × Int))) r407 ((0 : Int))))]) ++ A) Q3
 obtain ⟨yX, H⟩ := H
 replace dR := dR.ch gH.ch
 have hobt := oapp Try.underlying23 ti31 rfl 0 hO rfl gk dR M2 yX (by decide)
 obtain ⟨Va, pE, pF, xn, wI, d4, IW⟩ := hobt
 refine zg (IW (by exact rfl) (by exact rfl)) ?_
 replace hO := wI.own
 refine zo (op_nilCheck rfl) (zo (op_fieldAddr Try.underlying156 rfl ti123 rfl (by decide)) (zo (op_fieldAddr Try.underlying123 rfl ti23 rfl (by decide)) ?_))
 have hobt := oblkSt2 (v := .slice pE (0 + 1) pF) (i := 3) (cs' := #[.int .i64 ((ix a0 (0 : Int)).length : Int), .bool true, .slice p35 n37 c36, .slice pE (0 + 1) pF, .slice none 0 0, .slice none 0 0, .slice none 0 0, .slice none 0 0, .int .i64 (0 : Int), .map (some B4), .slice none 0 0, .slice none 0 0, .slice none 0 0]) 2 hO rfl rfl rfl rfl
 obtain ⟨Vb, vE, IX⟩ := hobt
 refine zg (IX Try.underlying23 rfl ti23 (by exact rfl) (by exact rfl)) ?_
 replace hO := vE.own
 refine zn (zq ?_)
 refine Go1.cut [(0, .pointer (some ⟨B10, 0, none⟩)), (2, .int .i64 (-1 : Int)), (3, .int .i64 (-1 : Int)), (4, .string (gstr (([] : Str)))), (5, .int .i64 (-1 : Int)), (13, .int .i64 (0 : Int))] ⟨rfl, rfl, rfl, rfl, rfl, rfl, trivial⟩ ?_
 intro σ _
 refine zr (zm rfl (zm rfl (zo (op_nilCheck rfl) (zo (op_fieldAddr Try.underlying156 rfl ti123 rfl (by decide)) (zo (op_fieldAddr Try.underlying123 rfl ti31 rfl (by decide)) ?_)))))
 refine zs (oblk (i := 4) 2 hO rfl rfl Try.underlying31 rfl rfl) (zm rfl ?_)
 have hobt := obuild (r := Rp.int .i64) (n := 1) (parts := [(0, .int .i64 (-1 : Int))]) (vs := [.int .i64 (-1 : Int)]) (xs := [(-1 : Int)]) rfl Try.underlying31 ti3 hO (by decide) (by kernel_rfl) (Els.cons rfl rfl (Els.nil _ _ _) (by simp [mx])) rfl
 obtain ⟨Q4, Vc, vF, M3, SV, IY⟩ := hobt
 refine zg (IY rfl) ?_
 replace hO := vF.own
 have hobt := freeze 0 hO rfl M3
 obtain ⟨hO1, yd, eH, M4⟩ := hobt
 dsimp only [eS, eZ] at hO1 yd eH
 replace hB := ((((((((((hB.trans zO.fr).trans xP.fr).trans xQ.fr).trans eg.fr).trans xR.fr).trans (Owns.dropFr _ _ 0)).trans gH.fr).trans wI.fr).trans vE.fr).trans vF.fr).trans (Owns.dropFr _ _ 0)
 dsimp only [eS, eZ] at hB
 replace hO := hO1; clear hO1
 have uz := Stp.nil (e := 3) (r := 1) hO
 replace hO := uz.own
 have M5 := Els.nil (Rp.int .i64) (bl (.row 3 1 none 0 0 [] :: [.row 31 1 pE (0 + 1) pF xn, .row 31 1 p35 n37 c36 fB, .blk B10 (.cells #[.int .i64 ((ix a0 (0 : Int)).length : Int), .bool true, .slice p35 n37 c36, .slice pE (0 + 1) pF, .slice none 0 0, .slice none 0 0, .slice none 0 0, .slice none 0 0, .int .i64 (0 : Int), .map (some B4), .slice none 0 0, .slice none 0 0, .slice none 0 0] 156 (0, 0)), .any (mapE (fun a : List UInt8 => Value.string (gstr a)) (fun a : Int => Value.int .i64 a) B4 (mput (([] : List (Str × Int))) r407 ((0 : Int))))]) ++ A) Q4
 obtain ⟨Q5, H⟩ := H
 replace eH := eH.ch uz.ch
 have hobt := oapp Try.underlying31 ti3 rfl 0 hO rfl M5 eH M4 Q5 (by decide)
 obtain ⟨Vd, sm, sn, ye, tC, fm, Cn⟩ := hobt
 dsimp only [sS, sZ] at tC fm
 refine zg (Cn (by exact rfl) (by exact rfl)) ?_
 replace hO := tC.own
 refine zo (op_nilCheck rfl) (zo (op_fieldAddr Try.underlying156 rfl ti123 rfl (by decide)) (zo (op_fieldAddr Try.underlying123 rfl ti31 rfl (by decide)) ?_))
 have hobt := oblkSt2 (v := .slice sm (0 + 1) sn) (i := 4) (cs' := #[.int .i64 ((ix a0 (0 : Int)).length : Int), .bool true, .slice p35 n37 c36, .slice pE (0 + 1) pF, .slice sm (0 + 1) sn, .slice none 0 0, .slice none 0 0, .slice none 0 0, .int .i64 (0 : Int), .map (some B4), .slice none 0 0, .slice none 0 0, .slice none 0 0]) 3 hO rfl rfl rfl rfl
 obtain ⟨Ve, sC, I0⟩ := hobt
 dsimp only [sS, sZ] at sC
 refine zg (I0 Try.underlying31 rfl ti31 (by exact rfl) (by exact rfl)) ?_
 replace hO := sC.own
 refine zn (zq (zr (zm rfl (zm rfl (zo (op_nilCheck rfl) ?_)))))
 refine zo (op_fieldAddr Try.underlying156 rfl ti123 rfl (by decide)) (zo (op_fieldAddr Try.underlying123 rfl ti31 rfl (by decide)) (zs (oblk (i := 5) 3 hO rfl rfl Try.underlying31 rfl rfl) (zm rfl ?_)))
 have hobt := obuild (r := Rp.int .i64) (n := 1) (parts := [(0, .int .i64 (-1 : Int))]) (vs := [.int .i64 (-1 : Int)]) (xs := [(-1 : Int)]) rfl Try.underlying31 ti3 hO (by decide) (by kernel_rfl) (Els.cons rfl rfl (Els.nil _ _ _) (by simp [mx])) rfl
 obtain ⟨Q6, Vf, gO, M6, SW, I1⟩ := hobt
 refine zg (I1 rfl) ?_
 replace hO := gO.own
 have hobt := freeze 0 hO rfl M6
 obtain ⟨hO1, vY, gm, M7⟩ := hobt
 dsimp only [eS, eZ] at hO1 vY gm
 replace hB := ((((hB.trans uz.fr).trans tC.fr).trans sC.fr).trans gO.fr).trans (Owns.dropFr _ _ 0)
 dsimp only [eS, eZ] at hB
 replace hO := hO1; clear hO1
 have sD := Stp.nil (e := 3) (r := 1) hO
 replace hO := sD.own
 have M8 := Els.nil (Rp.int .i64) (bl (.row 3 1 none 0 0 [] :: [.row 3 1 sm (0 + 1) sn ye, .row 31 1 pE (0 + 1) pF xn, .row 31 1 p35 n37 c36 fB, .blk B10 (.cells #[.int .i64 ((ix a0 (0 : Int)).length : Int), .bool true, .slice p35 n37 c36, .slice pE (0 + 1) pF, .slice sm (0 + 1) sn, .slice none 0 0, .slice none 0 0, .slice none 0 0, .int .i64 (0 : Int), .map (some B4), .slice none 0 0, .slice none 0 0, .slice none 0 0] 156 (0, 0)), .any (mapE (fun a : List UInt8 => Value.string (gstr a)) (fun a : Int => Value.int .i64 a) B4 (mput (([] : List (Str × Int))) r407 ((0 : Int))))]) ++ A) Q6
 obtain ⟨Q7, H⟩ := H
 replace gm := gm.ch sD.ch
 have hobt := oapp Try.underlying31 ti3 rfl 0 hO rfl M8 gm M7 Q7 (by decide)
 obtain ⟨Vg, tU, tV, zP, rM, gU, I2⟩ := hobt
 dsimp only [sS, sZ] at rM gU
 refine zg (I2 (by exact rfl) (by exact rfl)) ?_
 replace hO := rM.own
 refine zo (op_nilCheck rfl) (zo (op_fieldAddr Try.underlying156 rfl ti123 rfl (by decide)) (zo (op_fieldAddr Try.underlying123 rfl ti31 rfl (by decide)) ?_))
 have hobt := oblkSt2 (v := .slice tU (0 + 1) tV) (i := 5) (cs' := #[.int .i64 ((ix a0 (0 : Int)).length : Int), .bool true, .slice p35 n37 c36, .slice pE (0 + 1) pF, .slice sm (0 + 1) sn, .slice tU (0 + 1) tV, .slice none 0 0, .slice none 0 0, .int .i64 (0 : Int), .map (some B4), .slice none 0 0, .slice none 0 0, .slice none 0 0]) 4 hO rfl rfl rfl rfl
 obtain ⟨Q8, qo, I3⟩ := hobt
 dsimp only [sS, sZ] at qo
 refine zg (I3 Try.underlying31 rfl ti31 (by exact rfl) (by exact rfl)) ?_
 replace hO := qo.own
 refine zn (zq ?_)
 refine Go1.cut [(0, .pointer (some ⟨B10, 0, none⟩)), (4, .string (gstr (([] : Str)))), (5, .int .i64 (-1 : Int)), (13, .int .i64 (0 : Int))] ⟨rfl, rfl, rfl, rfl, trivial⟩ ?_
 intro σ _
 refine zr (zm rfl (zm rfl (zo (op_nilCheck rfl) (zo (op_fieldAddr Try.underlying156 rfl ti30 rfl (by decide)) (zs (oblk (i := 10) 4 hO rfl rfl Try.underlying30 rfl rfl) ?_)))))
 refine zm rfl ?_
 have hobt := obuild (r := Rp.str) (n := 1) (parts := [(0, .string (gstr (([] : Str))))]) (vs := [.string (gstr (([] : Str)))]) (xs := [([] : Str)]) rfl Try.underlying30 ti9 hO (by decide) (by kernel_rfl) (Els.cons rfl ⟨rfl, (by decide)⟩ (Els.nil _ _ _) (by simp [mx])) rfl
 obtain ⟨I4, sW, e9, v7, SX, I5⟩ := hobt
 refine zg (I5 rfl) ?_
 replace hO := e9.own
 have hobt := freeze 0 hO rfl v7
 obtain ⟨hO1, ud, jT, M9⟩ := hobt
 dsimp only [eS, eZ] at hO1 ud jT
 replace hB := ((((hB.trans sD.fr).trans rM.fr).trans qo.fr).trans e9.fr).trans (Owns.dropFr _ _ 0)
 dsimp only [eS, eZ] at hB
 replace hO := hO1; clear hO1
 have qq := Stp.nil (e := 9) (r := 1) hO
 replace hO := qq.own
 have Na := Els.nil (Rp.str) (bl (.row 9 1 none 0 0 [] :: [.row 3 1 tU (0 + 1) tV zP, .row 3 1 sm (0 + 1) sn ye, .row 31 1 pE (0 + 1) pF xn, .row 31 1 p35 n37 c36 fB, .blk B10 (.cells #[.int .i64 ((ix a0 (0 : Int)).length : Int), .bool true, .slice p35 n37 c36, .slice pE (0 + 1) pF, .slice sm (0 + 1) sn, .slice tU (0 + 1) tV, .slice none 0 0, .slice none 0 0, .int .i64 (0 : Int), .map (some B4), .slice none 0 0, .slice none 0 0, .slice none 0 0] 156 (0, 0)), .any (mapE (fun a : List UInt8 => Value.string (gstr a)) (fun a : Int => Value.int .i64 a) B4 (mput (([] : List (Str × Int))) r407 ((0 : Int))))]) ++ A) I4
 obtain ⟨Q9, H⟩ := H
 replace jT := jT.ch qq.ch
 have hobt := oapp Try.underlying30 ti9 rfl 0 hO rfl Na jT M9 Q9 (by decide)
 obtain ⟨Ra, wx, wy, Br, oB, mB, I6⟩ := hobt
 dsimp only [sS, sZ] at oB mB
 refine zg (I6 (by exact rfl) (by exact rfl)) ?_
 replace hO := oB.own
 refine zo (op_nilCheck rfl) (zo (op_fieldAddr Try.underlying156 rfl ti30 rfl (by decide)) ?_)
 have hobt := oblkSt2 (v := .slice wx (0 + 1) wy) (i := 10) (cs' := #[.int .i64 ((ix a0 (0 : Int)).length : Int), .bool true, .slice p35 n37 c36, .slice pE (0 + 1) pF, .slice sm (0 + 1) sn, .slice tU (0 + 1) tV, .slice none 0 0, .slice none 0 0, .int .i64 (0 : Int), .map (some B4), .slice wx (0 + 1) wy, .slice none 0 0, .slice none 0 0]) 5 hO rfl rfl rfl rfl
 obtain ⟨Vh, mQ, Co⟩ := hobt
 dsimp only [sS, sZ] at mQ
 refine zg (Co Try.underlying30 rfl ti30 (by exact rfl) (by exact rfl)) ?_
 replace hO := mQ.own
 refine zn (zq (zr (zm rfl (zm rfl (zo (op_nilCheck rfl) ?_)))))
 refine zo (op_fieldAddr Try.underlying156 rfl ti31 rfl (by decide)) (zs (oblk (i := 11) 5 hO rfl rfl Try.underlying31 rfl rfl) (zm rfl ?_))
 have hobt := obuild (r := Rp.int .i64) (n := 1) (parts := [(0, .int .i64 (-1 : Int))]) (vs := [.int .i64 (-1 : Int)]) (xs := [(-1 : Int)]) rfl Try.underlying31 ti3 hO (by decide) (by kernel_rfl) (Els.cons rfl rfl (Els.nil _ _ _) (by simp [mx])) rfl
 obtain ⟨Rb, Vi, oC, Nb, Ht, I7⟩ := hobt
 refine zg (I7 rfl) ?_
 replace hO := oC.own
 have hobt := freeze 0 hO rfl Nb
 obtain ⟨hO1, sL, sM, Nc⟩ := hobt
 dsimp only [eS, eZ] at hO1 sL sM
 replace hB := ((((hB.trans qq.fr).trans oB.fr).trans mQ.fr).trans oC.fr).trans (Owns.dropFr _ _ 0)
 dsimp only [eS, eZ] at hB
 replace hO := hO1; clear hO1
 have mS := Stp.nil (e := 3) (r := 1) hO
 replace hO := mS.own
 have Nd := Els.nil (Rp.int .i64) (bl (.row 3 1 none 0 0 [] :: [.row 9 1 wx (0 + 1) wy Br, .row 3 1 tU (0 + 1) tV zP, .row 3 1 sm (0 + 1) sn ye, .row 31 1 pE (0 + 1) pF xn, .row 31 1 p35 n37 c36 fB, .blk B10 (.cells #[.int .i64 ((ix a0 (0 : Int)).length : Int), .bool true, .slice p35 n37 c36, .slice pE (0 + 1) pF, .slice sm (0 + 1) sn, .slice tU (0 + 1) tV, .slice none 0 0, .slice none 0 0, .int .i64 (0 : Int), .map (some B4), .slice wx (0 + 1) wy, .slice none 0 0, .slice none 0 0] 156 (0, 0)), .any (mapE (fun a : List UInt8 => Value.string (gstr a)) (fun a : Int => Value.int .i64 a) B4 (mput (([] : List (Str × Int))) r407 ((0 : Int))))]) ++ A) Rb
 obtain ⟨Cp, H⟩ := H
 replace sM := sM.ch mS.ch
 have hobt := oapp Try.underlying31 ti3 rfl 0 hO rfl Nd sM Nc Cp (by decide)
 obtain ⟨Vj, yY, y3, D3, fG, v8, I8⟩ := hobt
 dsimp only [sS, sZ] at fG v8
 refine zg (I8 (by exact rfl) (by exact rfl)) ?_
 replace hO := fG.own
 refine zo (op_nilCheck rfl) (zo (op_fieldAddr Try.underlying156 rfl ti31 rfl (by decide)) ?_)
 have hobt := oblkSt2 (v := .slice yY (0 + 1) y3) (i := 11) (cs' := #[.int .i64 ((ix a0 (0 : Int)).length : Int), .bool true, .slice p35 n37 c36, .slice pE (0 + 1) pF, .slice sm (0 + 1) sn, .slice tU (0 + 1) tV, .slice none 0 0, .slice none 0 0, .int .i64 (0 : Int), .map (some B4), .slice wx (0 + 1) wy, .slice yY (0 + 1) y3, .slice none 0 0]) 6 hO rfl rfl rfl rfl
 obtain ⟨I9, lk, Ja⟩ := hobt
 dsimp only [sS, sZ] at lk
 refine zg (Ja Try.underlying31 rfl ti31 (by exact rfl) (by exact rfl)) ?_
 replace hO := lk.own
 refine zn (zq ?_)
 refine Go1.cut [(13, .int .i64 (0 : Int))] ⟨rfl, trivial⟩ ?_
 intro σ _
 refine zr (zm rfl (za rfl (zn ?_)))
 refine Go1.ret1V Try.func155 rfl (show _ = .int .i64 (0 : Int) from rfl) ?_
 refine hR403 _ _ ?_
 refine za rfl (zn (zq (zq (zr (zm rfl ?_)))))
 refine zo (op_nilCheck rfl) (zo (op_fieldAddr Try.underlying156 rfl ti123 rfl (by decide)) (zo (op_fieldAddr Try.underlying123 rfl ti23 rfl (by decide)) (zs (oblk (i := 2) 6 hO rfl rfl Try.underlying23 rfl rfl) ?_)))
 have Z27 := (((((((((((((((((((((((((((zO.ch.trans xP.ch).trans xQ.ch).trans eg.ch).trans xR.ch).trans D2).trans gH.ch).trans wI.ch).trans vE.ch).trans vF.ch).trans yd).trans uz.ch).trans tC.ch).trans sC.ch).trans gO.ch).trans vY).trans sD.ch).trans rM.ch).trans qo.ch).trans e9.ch).trans ud).trans qq.ch).trans oB.ch).trans mQ.ch).trans oC.ch).trans sL).trans mS.ch).trans fG.ch).trans lk.ch
 replace au := au.ch Z27
 refine zo (op_lenN Try.underlying23 rfl (au.neq hO 5 rfl)) (zm rfl (zn (zb ?_)))
 have l7 := Stp.nil (e := 185) (r := 2) hO
 replace hO := l7.own
 have D4 := Els.nil (rpRule) (bl (.row 185 2 none 0 0 [] :: [.row 3 1 yY (0 + 1) y3 D3, .row 9 1 wx (0 + 1) wy Br, .row 3 1 tU (0 + 1) tV zP, .row 3 1 sm (0 + 1) sn ye, .row 31 1 pE (0 + 1) pF xn, .row 31 1 p35 n37 c36 fB, .blk B10 (.cells #[.int .i64 ((ix a0 (0 : Int)).length : Int), .bool true, .slice p35 n37 c36, .slice pE (0 + 1) pF, .slice sm (0 + 1) sn, .slice tU (0 + 1) tV, .slice none 0 0, .slice none 0 0, .int .i64 (0 : Int), .map (some B4), .slice wx (0 + 1) wy, .slice yY (0 + 1) y3, .slice none 0 0] 156 (0, 0)), .any (mapE (fun a : List UInt8 => Value.string (gstr a)) (fun a : Int => Value.int .i64 a) B4 (mput (([] : List (Str × Int))) r407 ((0 : Int))))]) ++ A) I9
 have fx := Stp.nil (e := 3) (r := 1) hO
 replace hO := fx.own
 have Nf := Els.nil (Rp.int .i64) (bl (.row 3 1 none 0 0 [] :: [.row 185 2 none 0 0 [], .row 3 1 yY (0 + 1) y3 D3, .row 9 1 wx (0 + 1) wy Br, .row 3 1 tU (0 + 1) tV zP, .row 3 1 sm (0 + 1) sn ye, .row 31 1 pE (0 + 1) pF xn, .row 31 1 p35 n37 c36 fB, .blk B10 (.cells #[.int .i64 ((ix a0 (0 : Int)).length : Int), .bool true, .slice p35 n37 c36, .slice pE (0 + 1) pF, .slice sm (0 + 1) sn, .slice tU (0 + 1) tV, .slice none 0 0, .slice none 0 0, .int .i64 (0 : Int), .map (some B4), .slice wx (0 + 1) wy, .slice yY (0 + 1) y3, .slice none 0 0] 156 (0, 0)), .any (mapE (fun a : List UInt8 => Value.string (gstr a)) (fun a : Int => Value.int .i64 a) B4 (mput (([] : List (Str × Int))) r407 ((0 : Int))))]) ++ A) I9
 replace D4 := D4.ch fx.ch
 replace au := (au.ch l7.ch).ch fx.ch
 have Z28 := (lk.ch.trans l7.ch).trans fx.ch
 replace v8 := v8.ch Z28
 replace hB := ((((hB.trans mS.fr).trans fG.fr).trans lk.fr).trans l7.fr).trans fx.fr
 have Z29 := ((((((mQ.ch.trans oC.ch).trans sL).trans mS.ch).trans fG.ch).trans lk.ch).trans l7.ch).trans fx.ch
 replace mB := mB.ch Z29
 have Z30 := (((((((((((qo.ch.trans e9.ch).trans ud).trans qq.ch).trans oB.ch).trans mQ.ch).trans oC.ch).trans sL).trans mS.ch).trans fG.ch).trans lk.ch).trans l7.ch).trans fx.ch
 replace gU := gU.ch Z30
 have Z31 := ((((((((((((((((sC.ch.trans gO.ch).trans vY).trans sD.ch).trans rM.ch).trans qo.ch).trans e9.ch).trans ud).trans qq.ch).trans oB.ch).trans mQ.ch).trans oC.ch).trans sL).trans mS.ch).trans fG.ch).trans lk.ch).trans l7.ch).trans fx.ch
 replace fm := fm.ch Z31
 have Z32 := (((((((((((((((((((((vE.ch.trans vF.ch).trans yd).trans uz.ch).trans tC.ch).trans sC.ch).trans gO.ch).trans vY).trans sD.ch).trans rM.ch).trans qo.ch).trans e9.ch).trans ud).trans qq.ch).trans oB.ch).trans mQ.ch).trans oC.ch).trans sL).trans mS.ch).trans fG.ch).trans lk.ch).trans l7.ch).trans fx.ch
 replace d4 := d4.ch Z32
 refine Go1.loopW (S := Nat × List Int × List Rule × List Int × List Str × List Int × List Int × List (List Int) × (List (Str × Int))) (fun s σ w => match s with | (k3_548, d_549, d_555, d_561, d_567, d_573, d_579, d_585, m3_591) => ∃ (gR : Nat), ∃ (je : Option Addr), ∃ (jf : Nat), ∃ (rq : List Value), ∃ (g8 : Nat), ∃ (iP : Option Addr), ∃ (iQ : Nat), ∃ (pG : List Value), ∃ (g9 : Nat), ∃ (iR : Option Addr), ∃ (iT : Nat), ∃ (pI : List Value), ∃ (ia : Nat), ∃ (jg : Option Addr), ∃ (jh : Nat), ∃ (pK : List Value), ∃ (ic : Nat), ∃ (jy : Option Addr), ∃ (jz : Nat), ∃ (pM : List Value), ∃ (ie : Nat), ∃ (jQ : Option Addr), ∃ (jR : Nat), ∃ (pN : List Value), ∃ (ig : Nat), ∃ (kg : Option Addr), ∃ (kh : Nat), ∃ (pO : List Value), agrees σ [(6, .pointer (some ⟨B10, 0, none⟩)), (9, .int .i64 (0 : Int)), (85, .slice p35 n37 c36), (86, .int .i64 (d_32.length : Int)), (87, .int .i64 (k3_548 : Int))] ∧ (fun Z0 => Owns w0.heap.size w Z0 A ∧ Els (Rp.int .i64) (bl Z0 ++ A) w rq d_549 ∧ Els (rpRule) (bl Z0 ++ A) w pG d_555 ∧ Els (Rp.int .i64) (bl Z0 ++ A) w pI d_561 ∧ Els (Rp.str) (bl Z0 ++ A) w pK d_567 ∧ Els (Rp.int .i64) (bl Z0 ++ A) w pM d_573 ∧ Els (Rp.int .i64) (bl Z0 ++ A) w pN d_579 ∧ Els (Rp.sl (Rp.int .i64)) (bl Z0 ++ A) w pO d_585 ∧ Els (Rp.sl (Rp.int .i64)) (bl Z0 ++ A) w fB d_32 ∧ Fr (bl []) w0 (bl Z0) w) [.row 3 1 je gR jf rq, .row 185 2 iP g8 iQ pG, .row 3 1 iR g9 iT pI, .row 9 1 jg ia jh pK, .row 3 1 jy ic jz pM, .row 3 1 jQ ie jR pN, .row 31 1 kg ig kh pO, .row 31 1 p35 n37 c36 fB, .blk B10 (.cells #[.int .i64 ((ix a0 (0 : Int)).length : Int), .bool true, .slice p35 n37 c36, .slice kg ig kh, .slice jQ ie jR, .slice jy ic jz, .slice none 0 0, .slice iP g8 iQ, .int .i64 (0 : Int), .map (some B4), .slice jg ia jh, .slice iR g9 iT, .slice je gR jf] 156 (0, 0)), .any (mapE (fun a : List UInt8 => Value.string (gstr a)) (fun a : Int => Value.int .i64 a) B4 m3_591)]) H ⟨0, none, 0, [], 0, none, 0, [], 0 + 1, yY, y3, D3, 0 + 1, wx, wy, Br, 0 + 1, tU, tV, zP, 0 + 1, sm, sn, ye, 0 + 1, pE, pF, xn, ⟨rfl, rfl, rfl, rfl, rfl, trivial⟩, hO, Nf, D4, v8, mB, gU, fm, d4, au, hB⟩ ?_
 intro X3
 refine prE fun k3_548 => prE fun d_549 => prE fun d_555 => prE fun d_561 => prE fun d_567 => prE fun d_573 => prE fun d_579 => prE fun d_585 => fun m3_591 => ?_
 intro H hX3 σ Rc
 refine exE fun gR => exE fun je => exE fun jf => exE fun rq => exE fun g8 => exE fun iP => exE fun iQ => exE fun pG => exE fun g9 => exE fun iR => exE fun iT => exE fun pI => exE fun ia => exE fun jg => exE fun jh => exE fun pK => exE fun ic => exE fun jy => exE fun jz => exE fun pM => exE fun ie => exE fun jQ => exE fun jR => exE fun pN => exE fun ig => exE fun kg => exE fun kh => exE fun pO => andE fun hag => andE fun hO => andE fun cb => andE fun cg => andE fun ci => andE fun cp => andE fun cV => andE fun dj => andE fun dz => andE fun au => fun hB => ?_
 dsimp only at H
 refine Go1.keep [(6, .pointer (some ⟨B10, 0, none⟩)), (9, .int .i64 (0 : Int)), (85, .slice p35 n37 c36), (86, .int .i64 (d_32.length : Int)), (87, .int .i64 (k3_548 : Int))] hag ?_
 refine zq (zr ?_)
 by_cases AB : (k3_548 : Int) < (d_32.length : Int)
 ·replace H := ifp AB H
  refine zo (fun w => opB (op_lss rfl rfl w) (decide_eq_true AB)) (zn (zq (zt rfl rfl (zk (zq ?_)))))
  refine zb (zq (zr (zm rfl ?_)))
  obtain ⟨FE, H⟩ := H
  obtain ⟨FF, H⟩ := H
  refine zo (op_index Try.underlying23 ti31 rfl rfl FE (ltn (au.neq hO 7 rfl) FF) (au.psome hO 7 rfl FE FF)) ?_
  have hobt := oldSl 7 hO rfl au FE FF
  obtain ⟨Jb, Jc, cR, Ng⟩ := hobt
  refine zs (Ng Try.underlying31 rfl rfl) (za rfl (za rfl (zn (zq (zr ?_)))))
  refine zm rfl ?_
  obtain ⟨FG, H⟩ := H
  refine zo (op_add rfl rfl (wrap_i64 FG)) (zo (op_conv Try.underlying3 Try.underlying21 rfl rfl) ?_)
  obtain ⟨Rd, H⟩ := H
  obtain ⟨Cq, H⟩ := H
  refine zo (op_convRS Try.underlying21 Try.underlying9 rfl Rd Cq) (za rfl (zn (zq ?_)))
  refine Go1.drawS 0 [(0, .pure), (1, .pure), (2, .pure), (3, .stable), (4, .pure), (5, .loud), (6, .stable), (7, .pure), (8, .pure), (9, .pure), (10, .pure), (11, .pure)] mixed (by kernel_rfl) ?_
  intro Vk Nh
  have gj := Stp.same hO Nh
  replace hO := gj.own
  refine GoQ.pure rfl (op_move rfl) rfl rfl ?_
  refine GoQ.pure rfl (op_nilCheck rfl) rfl rfl ?_
  refine GoQ.pure rfl (op_fieldAddr Try.underlying156 rfl ti154 rfl (by decide)) rfl rfl ?_
  refine GoQ.stable rfl (oblk (i := 9) 8 hO rfl rfl Try.underlying154 rfl rfl) rfl rfl ?_
  refine GoQ.pure rfl (op_move rfl) rfl rfl ?_
  replace cR := cR.ch gj.ch
  refine GoQ.call rfl (op_call body157 rfl (walk_enumerate_text hO.lt cR H)) (fun v w hr => by obtain ⟨_, _, hs, _, _⟩ := hr; assumption) rfl rfl ?_
  rintro Vl Vm ⟨r605, rfl, Ni, Sq, H⟩
  have rN := Stp.same hO Ni
  replace hO := rN.own
  by_cases wz : mhas m3_591 r605 = true
  ·replace H := ifp wz H
   refine GoQ.stable rfl (olookT (a := r605) (MK.str Try.underlying9) 9 hO rfl Try.underlying154 rfl rfl wz) rfl rfl ?_
   refine GoQ.pure rfl (op_move rfl) rfl rfl ?_
   refine GoQ.pure rfl (op_extract rfl rfl) rfl rfl ?_
   refine GoQ.pure rfl (op_extract rfl rfl) rfl rfl ?_
   refine GoQ.pure rfl (op_assign rfl) rfl rfl ?_
   refine GoQ.pure rfl (op_assign rfl) rfl rfl ?_
   refine GoQ.nil ?_
   refine zq (zq ?_)
   refine Go1.cut [(6, .pointer (some ⟨B10, 0, none⟩)), (9, .int .i64 (0 : Int)), (10, .int .i64 (k3_548 : Int)), (11, .slice Jb ((ix d_32 (k3_548 : Int)).length) Jc), (12, .string (gstr (chr (IntKind.i32.wrap ((97 : Int) + (k3_548 : Int)))))), (13, .int .i64 (mgt m3_591 r605)), (14, .bool true), (85, .slice p35 n37 c36), (86, .int .i64 (d_32.length : Int)), (87, .int .i64 (k3_548 : Int))] ⟨rfl, rfl, rfl, rfl, rfl, rfl, rfl, rfl, rfl, rfl, trivial⟩ ?_
   intro σ _
   refine zr (zm rfl (zn (zt rfl rfl ?_)))
   refine Go1.drawS 5 [(0, .pure), (1, .pure), (2, .pure), (3, .pure), (4, .pure), (5, .stable), (6, .pure), (7, .pure), (8, .pure), (9, .pure), (10, .stable), (11, .pure), (12, .pure), (13, .stable), (14, .pure), (15, .loud), (16, .last), (17, .pure), (18, .pure), (19, .pure), (20, .last)] mixed (by kernel_rfl) ?_
   intro Vn Nj
   have rO := Stp.same hO Nj
   replace hO := rO.own
   refine GoQ.pure rfl (op_move rfl) rfl rfl ?_
   refine GoQ.pure rfl (op_move rfl) rfl rfl ?_
   refine GoQ.pure rfl (op_nilCheck rfl) rfl rfl ?_
   refine GoQ.pure rfl (op_fieldAddr Try.underlying156 rfl ti123 rfl (by decide)) rfl rfl ?_
   refine GoQ.pure rfl (op_fieldAddr Try.underlying123 rfl ti121 rfl (by decide)) rfl rfl ?_
   refine GoQ.stable rfl (oblk (i := 7) 8 hO rfl rfl Try.underlying121 rfl rfl) rfl rfl ?_
   refine GoQ.pure rfl (op_move rfl) rfl rfl ?_
   refine GoQ.pure rfl (op_move rfl) rfl rfl ?_
   refine GoQ.pure rfl (op_nilCheck rfl) rfl rfl ?_
   refine GoQ.pure rfl (op_fieldAddr Try.underlying156 rfl ti30 rfl (by decide)) rfl rfl ?_
   refine GoQ.stable rfl (oblk (i := 10) 8 hO rfl rfl Try.underlying30 rfl rfl) rfl rfl ?_
   refine GoQ.pure rfl (op_move rfl) rfl rfl ?_
   obtain ⟨D5, H⟩ := H
   obtain ⟨D6, H⟩ := H
   have Z33 := (gj.ch.trans rN.ch).trans rO.ch
   replace cp := cp.ch Z33
   refine GoQ.pure rfl (op_index Try.underlying30 ti9 rfl rfl D5 (ltn (cp.neq hO 3 rfl) D6) (cp.psome hO 3 rfl D5 D6)) rfl rfl ?_
   refine GoQ.stable rfl (oldStr 3 hO rfl cp D5 D6 Try.underlying9 rfl rfl) rfl rfl ?_
   have hle617 := Els.str_le cp D5 D6
   refine GoQ.pure rfl (op_build Try.underlying185 ti185 (pl := [(0, 1), (1, 1)]) (vs := [(0, .string (gstr (chr (IntKind.i32.wrap ((97 : Int) + (k3_548 : Int)))))), (1, .string (gstr (ix d_567 (mgt m3_591 r605))))]) (cs := #[.string (gstr (chr (IntKind.i32.wrap ((97 : Int) + (k3_548 : Int))))), .string (gstr (ix d_567 (mgt m3_591 r605)))]) (by kernel_rfl) rfl (by kernel_rfl)) rfl rfl ?_
   have hobt := obuildN (r := rpRule) (n := 1) (parts := [(0, .agg #[.string (gstr (chr (IntKind.i32.wrap ((97 : Int) + (k3_548 : Int))))), .string (gstr (ix d_567 (mgt m3_591 r605)))])]) (vs := [.string (gstr (chr (IntKind.i32.wrap ((97 : Int) + (k3_548 : Int))))), .string (gstr (ix d_567 (mgt m3_591 r605)))]) (xs := [(⟨(chr (IntKind.i32.wrap ((97 : Int) + (k3_548 : Int)))), ix d_567 (mgt m3_591 r605)⟩ : Rule)]) Try.underlying121 ti185 hO (by decide) (by decide) (by kernel_rfl) (Els.flat1 (⟨(chr (IntKind.i32.wrap ((97 : Int) + (k3_548 : Int)))), ix d_567 (mgt m3_591 r605)⟩ : Rule) ⟨(chr_le _), hle617⟩) rfl
   obtain ⟨Re, Vo, gs, Nk, Nl, Jd⟩ := hobt
   refine GoQ.loud rfl (Jd rfl) Nl rfl rfl ?_
   replace hO := gs.own
   have hobt := freeze 0 hO rfl Nk
   obtain ⟨hO1, ue, rs, Nm⟩ := hobt
   dsimp only [eS, eZ] at hO1 ue rs
   replace hB := ((((hB.trans gj.fr).trans rN.fr).trans rO.fr).trans gs.fr).trans (Owns.dropFr _ _ 0)
   dsimp only [eS, eZ] at hB
   replace hO := hO1; clear hO1
   obtain ⟨Rf, H⟩ := H
   replace cg := ((cg.ch Z33).ch gs.ch).ch ue
   have hobt := oapp Try.underlying121 ti185 rfl 1 hO rfl cg rs Nm Rf (by decide)
   obtain ⟨Vp, D7, D8, Nn, qr, sN, Je⟩ := hobt
   dsimp only [sS, sZ] at qr sN
   refine GoQ.last rfl (Je (by exact rfl) (by exact rfl)) rfl rfl ?_
   replace hO := qr.own
   refine GoQ.pure rfl (op_nilCheck rfl) rfl rfl ?_
   refine GoQ.pure rfl (op_fieldAddr Try.underlying156 rfl ti123 rfl (by decide)) rfl rfl ?_
   refine GoQ.pure rfl (op_fieldAddr Try.underlying123 rfl ti121 rfl (by decide)) rfl rfl ?_
   have hobt := oblkSt2 (v := .slice D7 (g8 + 1) D8) (i := 7) (cs' := #[.int .i64 ((ix a0 (0 : Int)).length : Int), .bool true, .slice p35 n37 c36, .slice kg ig kh, .slice jQ ie jR, .slice jy ic jz, .slice none 0 0, .slice D7 (g8 + 1) D8, .int .i64 (0 : Int), .map (some B4), .slice jg ia jh, .slice iR g9 iT, .slice je gR jf]) 8 hO rfl rfl rfl rfl
   obtain ⟨Rg, oD, Jf⟩ := hobt
   dsimp only [sS, sZ] at oD
   refine GoQ.last rfl (Jf Try.underlying121 rfl ti121 (by exact rfl) (by exact rfl)) rfl rfl ?_
   replace hO := oD.own
   refine GoQ.nil ?_
   refine Go1.cut [(6, .pointer (some ⟨B10, 0, none⟩)), (9, .int .i64 (0 : Int)), (13, .int .i64 (mgt m3_591 r605)), (85, .slice p35 n37 c36), (86, .int .i64 (d_32.length : Int)), (87, .int .i64 (k3_548 : Int))] ⟨rfl, rfl, rfl, rfl, rfl, rfl, trivial⟩ ?_
   intro σ _
   refine zr (zm rfl (zm rfl (zo (op_nilCheck rfl) (zo (op_fieldAddr Try.underlying156 rfl ti31 rfl (by decide)) (zs (oblk (i := 12) 8 hO rfl rfl Try.underlying31 rfl rfl) ?_)))))
   refine zm rfl ?_
   have hobt := obuild (r := Rp.int .i64) (n := 1) (parts := [(0, .int .i64 (mgt m3_591 r605))]) (vs := [.int .i64 (mgt m3_591 r605)]) (xs := [(mgt m3_591 r605)]) rfl Try.underlying31 ti3 hO (by decide) (by kernel_rfl) (Els.cons rfl rfl (Els.nil _ _ _) (by simp [mx])) rfl
   obtain ⟨Vq, Vr, qt, Np, SY, Cr⟩ := hobt
   refine zg (Cr rfl) ?_
   replace hO := qt.own
   have hobt := freeze 0 hO rfl Np
   obtain ⟨hO1, tD, yf, Nq⟩ := hobt
   dsimp only [eS, eZ] at hO1 tD yf
   replace hB := (((hB.trans qr.fr).trans oD.fr).trans qt.fr).trans (Owns.dropFr _ _ 0)
   dsimp only [eS, eZ] at hB
   replace hO := hO1; clear hO1
   obtain ⟨Rh, H⟩ := H
   have Z34 := (((((Z33.trans gs.ch).trans ue).trans qr.ch).trans oD.ch).trans qt.ch).trans tD
   replace cb := cb.ch Z34
   have hobt := oapp Try.underlying31 ti3 rfl 0 hO rfl cb yf Nq Rh (by decide)
   obtain ⟨Ri, FH, FI, Nr, oE, Bs, Jg⟩ := hobt
   dsimp only [sS, sZ] at oE Bs
   refine zg (Jg (by exact rfl) (by exact rfl)) ?_
   replace hO := oE.own
   refine zo (op_nilCheck rfl) (zo (op_fieldAddr Try.underlying156 rfl ti31 rfl (by decide)) ?_)
   have hobt := oblkSt2 (v := .slice FH (gR + 1) FI) (i := 12) (cs' := #[.int .i64 ((ix a0 (0 : Int)).length : Int), .bool true, .slice p35 n37 c36, .slice kg ig kh, .slice jQ ie jR, .slice jy ic jz, .slice none 0 0, .slice D7 (g8 + 1) D8, .int .i64 (0 : Int), .map (some B4), .slice jg ia jh, .slice iR g9 iT, .slice FH (gR + 1) FI]) 8 hO rfl rfl rfl rfl
   obtain ⟨Vt, mT, Jh⟩ := hobt
   dsimp only [sS, sZ] at mT
   refine zg (Jh Try.underlying31 rfl ti31 (by exact rfl) (by exact rfl)) ?_
   replace hO := mT.own
   refine zn ?_
   refine Go1.inBlock ?_
   refine zr ?_
   replace au := ((au.ch Z34).ch oE.ch).ch mT.ch
   refine zo (op_add rfl rfl (wrap_i64 (natbd AB au.bd))) (zm rfl (zn ?_))
   replace Bs := Bs.ch mT.ch
   replace hB := (hB.trans oE.fr).trans mT.fr
   have Z35 := (((oD.ch.trans qt.ch).trans tD).trans oE.ch).trans mT.ch
   replace sN := sN.ch Z35
   have Z36 := ((((((gs.ch.trans ue).trans qr.ch).trans oD.ch).trans qt.ch).trans tD).trans oE.ch).trans mT.ch
   replace cp := cp.ch Z36
   have Z37 := (Z34.trans oE.ch).trans mT.ch
   replace ci := ci.ch Z37
   replace cV := cV.ch Z37
   replace dj := dj.ch Z37
   replace dz := dz.ch Z37
   exact hX3 _ H _ _ ⟨gR + 1, FH, FI, Nr, g8 + 1, D7, D8, Nn, g9, iR, iT, pI, ia, jg, jh, pK, ic, jy, jz, pM, ie, jQ, jR, pN, ig, kg, kh, pO, ⟨rfl, rfl, rfl, rfl, rfl, trivial⟩, hO, Bs, sN, ci, cp, cV, dj, dz, au, hB⟩
  replace H := ifn wz H
  refine GoQ.stable rfl (olookF (a := r605) (MK.str Try.underlying9) 9 hO rfl Try.underlying154 ti3 rfl rfl wz) rfl rfl ?_
  refine GoQ.pure rfl (op_move rfl) rfl rfl ?_
  refine GoQ.pure rfl (op_extract rfl rfl) rfl rfl ?_
  refine GoQ.pure rfl (op_extract rfl rfl) rfl rfl ?_
  refine GoQ.pure rfl (op_assign rfl) rfl rfl ?_
  refine GoQ.pure rfl (op_assign rfl) rfl rfl ?_
  refine GoQ.nil ?_
  refine zq (zq (zr (zm rfl (zn (zf rfl rfl ?_)))))
  refine Go1.cut [(6, .pointer (some ⟨B10, 0, none⟩)), (9, .int .i64 (0 : Int)), (10, .int .i64 (k3_548 : Int)), (11, .slice Jb ((ix d_32 (k3_548 : Int)).length) Jc), (12, .string (gstr (chr (IntKind.i32.wrap ((97 : Int) + (k3_548 : Int)))))), (85, .slice p35 n37 c36), (86, .int .i64 (d_32.length : Int)), (87, .int .i64 (k3_548 : Int))] ⟨rfl, rfl, rfl, rfl, rfl, rfl, rfl, rfl, trivial⟩ ?_
  intro σ _
  refine zr (zm rfl (zm rfl ?_))
  replace cR := cR.ch rN.ch
  refine GoR.call (op_call body86 rfl (walk_slices_Clone_int hO.lt cR H)) rfl rfl ?_
  rintro Vu Vv ⟨r662, xS, uA, uB, Sr, rfl, Nt, hN666, uf, H⟩
  have qu := Stp.more hO Nt hN666
  dsimp only [List.cons_append, List.nil_append] at qu
  replace hO := qu.own
  refine zm rfl (zm rfl (zm rfl (zm rfl ?_)))
  refine GoR.inl (vs := [.pointer (some ⟨B10, 0, none⟩), .slice uA xS uB, .int .i64 (0 : Int), .int .i64 (k3_548 : Int), .string (gstr (chr (IntKind.i32.wrap ((97 : Int) + (k3_548 : Int))))), .int .i64 (0 : Int)]) (caps := []) rfl rfl body155 Try.func155 rfl Try.ntmps155 rfl rfl rfl ?_
  intro RhR670 hR670
  refine zq (zr (za rfl (zn (zq (zr ?_)))))
  refine zm rfl (zo (op_nilCheck rfl) (zo (op_fieldAddr Try.underlying156 rfl ti123 rfl (by decide)) (zo (op_fieldAddr Try.underlying123 rfl ti23 rfl (by decide)) (zs (oblk (i := 3) 9 hO rfl rfl Try.underlying23 rfl rfl) ?_))))
  have Z38 := (gj.ch.trans rN.ch).trans qu.ch
  replace dz := dz.ch Z38
  refine zo (op_lenN Try.underlying23 rfl (dz.neq hO 7 rfl)) (za rfl (zn (zq ?_)))
  refine Go1.drawS 1 [(0, .pure), (1, .pure), (2, .pure), (3, .stable), (4, .pure), (6, .pure), (5, .loud), (7, .last)] mixed (by kernel_rfl) ?_
  intro Vw Nu
  have qv := Stp.same hO Nu
  replace hO := qv.own
  refine GoQ.pure rfl (op_move rfl) rfl rfl ?_
  refine GoQ.pure rfl (op_nilCheck rfl) rfl rfl ?_
  refine GoQ.pure rfl (op_fieldAddr Try.underlying156 rfl ti154 rfl (by decide)) rfl rfl ?_
  refine GoQ.stable rfl (oblk (i := 9) 9 hO rfl rfl Try.underlying154 rfl rfl) rfl rfl ?_
  refine GoQ.pure rfl (op_move rfl) rfl rfl ?_
  refine GoQ.pure rfl (op_move rfl) rfl rfl ?_
  replace uf := uf.ch (Ch.assoc _ _ _ _)
  replace uf := uf.ch qv.ch
  have hobt := rowlend 0 hO rfl uf
  obtain ⟨Nv, Nw⟩ := hobt
  have hOc676 := hO.drop 0
  refine GoQ.call rfl (op_call body157 (show ([.slice uA xS uB] : List Value) = [.slice uA r662.length uB] from by rw [← Nw]) (walk_enumerate_text hOc676.lt Nv H)) (fun v w hr => by obtain ⟨_, _, hs, _, _⟩ := hr; assumption) rfl rfl ?_
  rintro Vx Vy ⟨r677, rfl, Ny, Ss, H⟩
  have qw := Stp.same hO Ny
  replace hO := qw.own
  have hobt := omapUpd (MK.str Try.underlying9) 10 hO rfl Try.underlying154 r677 (d_585.length : Int)
  obtain ⟨Vz, oF, Ji⟩ := hobt
  dsimp only [sS, sZ] at oF
  refine GoQ.last rfl (Ji (by exact rfl) (by exact rfl) (by exact rfl)) rfl rfl ?_
  replace hO := oF.own
  refine GoQ.nil ?_
  refine zq ?_
  refine Go1.cut [(0, .pointer (some ⟨B10, 0, none⟩)), (1, .slice uA xS uB), (2, .int .i64 (0 : Int)), (3, .int .i64 (k3_548 : Int)), (4, .string (gstr (chr (IntKind.i32.wrap ((97 : Int) + (k3_548 : Int)))))), (5, .int .i64 (0 : Int)), (13, .int .i64 (d_585.length : Int))] ⟨rfl, rfl, rfl, rfl, rfl, rfl, rfl, trivial⟩ ?_
  intro σ _
  refine zr (zm rfl (zm rfl (zo (op_nilCheck rfl) (zo (op_fieldAddr Try.underlying156 rfl ti123 rfl (by decide)) (zo (op_fieldAddr Try.underlying123 rfl ti23 rfl (by decide)) ?_)))))
  refine zs (oblk (i := 3) 9 hO rfl rfl Try.underlying23 rfl rfl) (zm rfl ?_)
  replace uf := (uf.ch qw.ch).ch oF.ch
  have hobt := freeze 0 hO rfl uf
  obtain ⟨hO1, ug, dV, Nz⟩ := hobt
  dsimp only [eS, eZ] at hO1 ug dV
  replace hB := ((((((hB.trans gj.fr).trans rN.fr).trans qu.fr).trans qv.fr).trans qw.fr).trans oF.fr).trans (Owns.dropFr _ _ 0)
  dsimp only [eS, eZ] at hB
  replace hO := hO1; clear hO1
  have hobt := obuild (r := Rp.sl (Rp.int .i64)) (n := 1) (parts := [(0, .slice uA xS uB)]) (vs := [.slice uA xS uB]) (xs := [r662]) rfl Try.underlying23 ti31 hO (by decide) (by kernel_rfl) (Els.cons rfl ⟨uA, uB, congrArg some (congrArg (fun nn => Value.slice uA nn uB) Nz), dV⟩ (Els.nil _ _ _) (by simp [mx])) rfl
  obtain ⟨VA, VB, qz, NA, S0, Jj⟩ := hobt
  refine zg (Jj rfl) ?_
  replace hO := qz.own
  have hobt := freeze 0 hO rfl NA
  obtain ⟨hO1, tE, d9, NB⟩ := hobt
  dsimp only [eS, eZ] at hO1 tE d9
  replace hB := (hB.trans qz.fr).trans (Owns.dropFr _ _ 0)
  dsimp only [eS, eZ] at hB
  replace hO := hO1; clear hO1
  obtain ⟨Rj, H⟩ := H
  have Z39 := ((((qv.ch.trans qw.ch).trans oF.ch).trans ug).trans qz.ch).trans tE
  replace dz := dz.ch Z39
  have hobt := oapp Try.underlying23 ti31 rfl 6 hO rfl dz d9 NB Rj (by decide)
  obtain ⟨VC, xT, xU, NC, oG, er, Jk⟩ := hobt
  dsimp only [sS, sZ] at oG er
  refine zg (Jk (by exact rfl) (by exact rfl)) ?_
  replace hO := oG.own
  refine zo (op_nilCheck rfl) (zo (op_fieldAddr Try.underlying156 rfl ti123 rfl (by decide)) (zo (op_fieldAddr Try.underlying123 rfl ti23 rfl (by decide)) ?_))
  have hobt := oblkSt2 (v := .slice xT (ig + 1) xU) (i := 3) (cs' := #[.int .i64 ((ix a0 (0 : Int)).length : Int), .bool true, .slice p35 n37 c36, .slice xT (ig + 1) xU, .slice jQ ie jR, .slice jy ic jz, .slice none 0 0, .slice iP g8 iQ, .int .i64 (0 : Int), .map (some B4), .slice jg ia jh, .slice iR g9 iT, .slice je gR jf]) 8 hO rfl rfl rfl rfl
  obtain ⟨VD, mU, Jl⟩ := hobt
  dsimp only [sS, sZ] at mU
  refine zg (Jl Try.underlying23 rfl ti23 (by exact rfl) (by exact rfl)) ?_
  replace hO := mU.own
  refine zn (zq (zr (zm rfl (zm rfl (zo (op_nilCheck rfl) ?_)))))
  refine zo (op_fieldAddr Try.underlying156 rfl ti123 rfl (by decide)) (zo (op_fieldAddr Try.underlying123 rfl ti31 rfl (by decide)) (zs (oblk (i := 4) 8 hO rfl rfl Try.underlying31 rfl rfl) (zm rfl ?_)))
  have hobt := obuild (r := Rp.int .i64) (n := 1) (parts := [(0, .int .i64 (0 : Int))]) (vs := [.int .i64 (0 : Int)]) (xs := [(0 : Int)]) rfl Try.underlying31 ti3 hO (by decide) (by kernel_rfl) (Els.cons rfl rfl (Els.nil _ _ _) (by simp [mx])) rfl
  obtain ⟨VE, VG, oH, ND, S1, Jm⟩ := hobt
  refine zg (Jm rfl) ?_
  replace hO := oH.own
  have hobt := freeze 0 hO rfl ND
  obtain ⟨hO1, sO, fo, NE⟩ := hobt
  dsimp only [eS, eZ] at hO1 sO fo
  replace hB := (((hB.trans oG.fr).trans mU.fr).trans oH.fr).trans (Owns.dropFr _ _ 0)
  dsimp only [eS, eZ] at hB
  replace hO := hO1; clear hO1
  obtain ⟨Rk, H⟩ := H
  have Z40 := (((((((((Z38.trans qv.ch).trans qw.ch).trans oF.ch).trans ug).trans qz.ch).trans tE).trans oG.ch).trans mU.ch).trans oH.ch).trans sO
  replace dj := dj.ch Z40
  have hobt := oapp Try.underlying31 ti3 rfl 5 hO rfl dj fo NE Rk (by decide)
  obtain ⟨VH, y4, y5, NF, mV, fI, Jo⟩ := hobt
  dsimp only [sS, sZ] at mV fI
  refine zg (Jo (by exact rfl) (by exact rfl)) ?_
  replace hO := mV.own
  refine zo (op_nilCheck rfl) (zo (op_fieldAddr Try.underlying156 rfl ti123 rfl (by decide)) (zo (op_fieldAddr Try.underlying123 rfl ti31 rfl (by decide)) ?_))
  have hobt := oblkSt2 (v := .slice y4 (ie + 1) y5) (i := 4) (cs' := #[.int .i64 ((ix a0 (0 : Int)).length : Int), .bool true, .slice p35 n37 c36, .slice xT (ig + 1) xU, .slice y4 (ie + 1) y5, .slice jy ic jz, .slice none 0 0, .slice iP g8 iQ, .int .i64 (0 : Int), .map (some B4), .slice jg ia jh, .slice iR g9 iT, .slice je gR jf]) 8 hO rfl rfl rfl rfl
  obtain ⟨VI, l8, Jp⟩ := hobt
  dsimp only [sS, sZ] at l8
  refine zg (Jp Try.underlying31 rfl ti31 (by exact rfl) (by exact rfl)) ?_
  replace hO := l8.own
  refine zn (zq ?_)
  refine Go1.cut [(0, .pointer (some ⟨B10, 0, none⟩)), (3, .int .i64 (k3_548 : Int)), (4, .string (gstr (chr (IntKind.i32.wrap ((97 : Int) + (k3_548 : Int)))))), (5, .int .i64 (0 : Int)), (13, .int .i64 (d_585.length : Int))] ⟨rfl, rfl, rfl, rfl, rfl, trivial⟩ ?_
  intro σ _
  refine zr (zm rfl (zm rfl (zo (op_nilCheck rfl) (zo (op_fieldAddr Try.underlying156 rfl ti123 rfl (by decide)) (zo (op_fieldAddr Try.underlying123 rfl ti31 rfl (by decide)) ?_)))))
  refine zs (oblk (i := 5) 8 hO rfl rfl Try.underlying31 rfl rfl) (zm rfl ?_)
  have hobt := obuild (r := Rp.int .i64) (n := 1) (parts := [(0, .int .i64 (k3_548 : Int))]) (vs := [.int .i64 (k3_548 : Int)]) (xs := [(k3_548 : Int)]) rfl Try.underlying31 ti3 hO (by decide) (by kernel_rfl) (Els.cons rfl rfl (Els.nil _ _ _) (by simp [mx])) rfl
  obtain ⟨VJ, VK, mW, NG, S3, Jq⟩ := hobt
  refine zg (Jq rfl) ?_
  replace hO := mW.own
  have hobt := freeze 0 hO rfl NG
  obtain ⟨hO1, sa, gK, NH⟩ := hobt
  dsimp only [eS, eZ] at hO1 sa gK
  replace hB := (((hB.trans mV.fr).trans l8.fr).trans mW.fr).trans (Owns.dropFr _ _ 0)
  dsimp only [eS, eZ] at hB
  replace hO := hO1; clear hO1
  obtain ⟨Rl, H⟩ := H
  have Z41 := (((Z40.trans mV.ch).trans l8.ch).trans mW.ch).trans sa
  replace cV := cV.ch Z41
  have hobt := oapp Try.underlying31 ti3 rfl 4 hO rfl cV gK NH Rl (by decide)
  obtain ⟨VL, AC, AD, NI, l9, gV, Jr⟩ := hobt
  dsimp only [sS, sZ] at l9 gV
  refine zg (Jr (by exact rfl) (by exact rfl)) ?_
  replace hO := l9.own
  refine zo (op_nilCheck rfl) (zo (op_fieldAddr Try.underlying156 rfl ti123 rfl (by decide)) (zo (op_fieldAddr Try.underlying123 rfl ti31 rfl (by decide)) ?_))
  have hobt := oblkSt2 (v := .slice AC (ic + 1) AD) (i := 5) (cs' := #[.int .i64 ((ix a0 (0 : Int)).length : Int), .bool true, .slice p35 n37 c36, .slice xT (ig + 1) xU, .slice y4 (ie + 1) y5, .slice AC (ic + 1) AD, .slice none 0 0, .slice iP g8 iQ, .int .i64 (0 : Int), .map (some B4), .slice jg ia jh, .slice iR g9 iT, .slice je gR jf]) 8 hO rfl rfl rfl rfl
  obtain ⟨VM, lm, Js⟩ := hobt
  dsimp only [sS, sZ] at lm
  refine zg (Js Try.underlying31 rfl ti31 (by exact rfl) (by exact rfl)) ?_
  replace hO := lm.own
  refine zn (zq (zr (zm rfl (zm rfl (zo (op_nilCheck rfl) ?_)))))
  refine zo (op_fieldAddr Try.underlying156 rfl ti30 rfl (by decide)) (zs (oblk (i := 10) 8 hO rfl rfl Try.underlying30 rfl rfl) (zm rfl ?_))
  have hobt := obuild (r := Rp.str) (n := 1) (parts := [(0, .string (gstr (chr (IntKind.i32.wrap ((97 : Int) + (k3_548 : Int))))))]) (vs := [.string (gstr (chr (IntKind.i32.wrap ((97 : Int) + (k3_548 : Int)))))]) (xs := [chr (IntKind.i32.wrap ((97 : Int) + (k3_548 : Int)))]) rfl Try.underlying30 ti9 hO (by decide) (by kernel_rfl) (Els.cons rfl ⟨rfl, (chr_le _)⟩ (Els.nil _ _ _) (by simp [mx])) rfl
  obtain ⟨VN, VO, ma, NJ, S4, Jt⟩ := hobt
  refine zg (Jt rfl) ?_
  replace hO := ma.own
  have hobt := freeze 0 hO rfl NJ
  obtain ⟨hO1, ru, jU, NK⟩ := hobt
  dsimp only [eS, eZ] at hO1 ru jU
  replace hB := (((hB.trans l9.fr).trans lm.fr).trans ma.fr).trans (Owns.dropFr _ _ 0)
  dsimp only [eS, eZ] at hB
  replace hO := hO1; clear hO1
  obtain ⟨Rm, H⟩ := H
  have Z42 := (((Z41.trans l9.ch).trans lm.ch).trans ma.ch).trans ru
  replace cp := cp.ch Z42
  have hobt := oapp Try.underlying30 ti9 rfl 3 hO rfl cp jU NK Rm (by decide)
  obtain ⟨VP, Cs, Ct, NL, lp, kY, Ju⟩ := hobt
  dsimp only [sS, sZ] at lp kY
  refine zg (Ju (by exact rfl) (by exact rfl)) ?_
  replace hO := lp.own
  refine zo (op_nilCheck rfl) (zo (op_fieldAddr Try.underlying156 rfl ti30 rfl (by decide)) ?_)
  have hobt := oblkSt2 (v := .slice Cs (ia + 1) Ct) (i := 10) (cs' := #[.int .i64 ((ix a0 (0 : Int)).length : Int), .bool true, .slice p35 n37 c36, .slice xT (ig + 1) xU, .slice y4 (ie + 1) y5, .slice AC (ic + 1) AD, .slice none 0 0, .slice iP g8 iQ, .int .i64 (0 : Int), .map (some B4), .slice Cs (ia + 1) Ct, .slice iR g9 iT, .slice je gR jf]) 8 hO rfl rfl rfl rfl
  obtain ⟨VQ, kA, Jv⟩ := hobt
  dsimp only [sS, sZ] at kA
  refine zg (Jv Try.underlying30 rfl ti30 (by exact rfl) (by exact rfl)) ?_
  replace hO := kA.own
  refine zn (zq ?_)
  refine Go1.cut [(0, .pointer (some ⟨B10, 0, none⟩)), (5, .int .i64 (0 : Int)), (13, .int .i64 (d_585.length : Int))] ⟨rfl, rfl, rfl, trivial⟩ ?_
  intro σ _
  refine zr (zm rfl (zm rfl (zo (op_nilCheck rfl) (zo (op_fieldAddr Try.underlying156 rfl ti31 rfl (by decide)) (zs (oblk (i := 11) 8 hO rfl rfl Try.underlying31 rfl rfl) ?_)))))
  refine zm rfl ?_
  have hobt := obuild (r := Rp.int .i64) (n := 1) (parts := [(0, .int .i64 (0 : Int))]) (vs := [.int .i64 (0 : Int)]) (xs := [(0 : Int)]) rfl Try.underlying31 ti3 hO (by decide) (by kernel_rfl) (Els.cons rfl rfl (Els.nil _ _ _) (by simp [mx])) rfl
  obtain ⟨VR, VS, lr, NM, S5, Jw⟩ := hobt
  refine zg (Jw rfl) ?_
  replace hO := lr.own
  have hobt := freeze 0 hO rfl NM
  obtain ⟨hO1, pP, rv, NN⟩ := hobt
  dsimp only [eS, eZ] at hO1 pP rv
  replace hB := (((hB.trans lp.fr).trans kA.fr).trans lr.fr).trans (Owns.dropFr _ _ 0)
  dsimp only [eS, eZ] at hB
  replace hO := hO1; clear hO1
  obtain ⟨Rn, H⟩ := H
  have Z43 := (((Z42.trans lp.ch).trans kA.ch).trans lr.ch).trans pP
  replace ci := ci.ch Z43
  have hobt := oapp Try.underlying31 ti3 rfl 2 hO rfl ci rv NN Rn (by decide)
  obtain ⟨VU, D9, Ea, NO, kB, sP, Jx⟩ := hobt
  dsimp only [sS, sZ] at kB sP
  refine zg (Jx (by exact rfl) (by exact rfl)) ?_
  replace hO := kB.own
  refine zo (op_nilCheck rfl) (zo (op_fieldAddr Try.underlying156 rfl ti31 rfl (by decide)) ?_)
  have hobt := oblkSt2 (v := .slice D9 (g9 + 1) Ea) (i := 11) (cs' := #[.int .i64 ((ix a0 (0 : Int)).length : Int), .bool true, .slice p35 n37 c36, .slice xT (ig + 1) xU, .slice y4 (ie + 1) y5, .slice AC (ic + 1) AD, .slice none 0 0, .slice iP g8 iQ, .int .i64 (0 : Int), .map (some B4), .slice Cs (ia + 1) Ct, .slice D9 (g9 + 1) Ea, .slice je gR jf]) 8 hO rfl rfl rfl rfl
  obtain ⟨VV, j3, Jy⟩ := hobt
  dsimp only [sS, sZ] at j3
  refine zg (Jy Try.underlying31 rfl ti31 (by exact rfl) (by exact rfl)) ?_
  replace hO := j3.own
  refine zn (zq (zr (zm rfl (za rfl (zn ?_)))))
  refine Go1.ret1V Try.func155 rfl (show _ = .int .i64 (d_585.length : Int) from rfl) ?_
  refine hR670 _ _ ?_
  refine za rfl (zn (zr (zm rfl (zm rfl (zo (op_nilCheck rfl) ?_)))))
  refine zo (op_fieldAddr Try.underlying156 rfl ti31 rfl (by decide)) (zs (oblk (i := 12) 8 hO rfl rfl Try.underlying31 rfl rfl) (zm rfl ?_))
  have hobt := obuild (r := Rp.int .i64) (n := 1) (parts := [(0, .int .i64 (d_585.length : Int))]) (vs := [.int .i64 (d_585.length : Int)]) (xs := [(d_585.length : Int)]) rfl Try.underlying31 ti3 hO (by decide) (by kernel_rfl) (Els.cons rfl rfl (Els.nil _ _ _) (by simp [mx])) rfl
  obtain ⟨VW, VX, kC, NP, S6, Jz⟩ := hobt
  refine zg (Jz rfl) ?_
  replace hO := kC.own
  have hobt := freeze 0 hO rfl NP
  obtain ⟨hO1, ob, yg, NQ⟩ := hobt
  dsimp only [eS, eZ] at hO1 ob yg
  replace hB := (((hB.trans kB.fr).trans j3.fr).trans kC.fr).trans (Owns.dropFr _ _ 0)
  dsimp only [eS, eZ] at hB
  replace hO := hO1; clear hO1
  obtain ⟨Ro, H⟩ := H
  have Z44 := (((Z43.trans kB.ch).trans j3.ch).trans kC.ch).trans ob
  replace cb := cb.ch Z44
  have hobt := oapp Try.underlying31 ti3 rfl 0 hO rfl cb yg NQ Ro (by decide)
  obtain ⟨VY, FJ, FK, NR, j4, Bt, JA⟩ := hobt
  dsimp only [sS, sZ] at j4 Bt
  refine zg (JA (by exact rfl) (by exact rfl)) ?_
  replace hO := j4.own
  refine zo (op_nilCheck rfl) (zo (op_fieldAddr Try.underlying156 rfl ti31 rfl (by decide)) ?_)
  have hobt := oblkSt2 (v := .slice FJ (gR + 1) FK) (i := 12) (cs' := #[.int .i64 ((ix a0 (0 : Int)).length : Int), .bool true, .slice p35 n37 c36, .slice xT (ig + 1) xU, .slice y4 (ie + 1) y5, .slice AC (ic + 1) AD, .slice none 0 0, .slice iP g8 iQ, .int .i64 (0 : Int), .map (some B4), .slice Cs (ia + 1) Ct, .slice D9 (g9 + 1) Ea, .slice FJ (gR + 1) FK]) 8 hO rfl rfl rfl rfl
  obtain ⟨V0, jA, JB⟩ := hobt
  dsimp only [sS, sZ] at jA
  refine zg (JB Try.underlying31 rfl ti31 (by exact rfl) (by exact rfl)) ?_
  replace hO := jA.own
  refine zn ?_
  refine Go1.inBlock ?_
  refine Go1.cut [(6, .pointer (some ⟨B10, 0, none⟩)), (9, .int .i64 (0 : Int)), (85, .slice p35 n37 c36), (86, .int .i64 (d_32.length : Int)), (87, .int .i64 (k3_548 : Int))] ⟨rfl, rfl, rfl, rfl, rfl, trivial⟩ ?_
  intro σ _
  refine zr ?_
  replace au := ((au.ch Z44).ch j4.ch).ch jA.ch
  refine zo (op_add rfl rfl (wrap_i64 (natbd AB au.bd))) (zm rfl (zn ?_))
  replace Bt := Bt.ch jA.ch
  replace hB := (hB.trans j4.fr).trans jA.fr
  have Z45 := (((j3.ch.trans kC.ch).trans ob).trans j4.ch).trans jA.ch
  replace sP := sP.ch Z45
  have Z46 := (((((((kA.ch.trans lr.ch).trans pP).trans kB.ch).trans j3.ch).trans kC.ch).trans ob).trans j4.ch).trans jA.ch
  replace kY := kY.ch Z46
  have Z47 := (((((((((((lm.ch.trans ma.ch).trans ru).trans lp.ch).trans kA.ch).trans lr.ch).trans pP).trans kB.ch).trans j3.ch).trans kC.ch).trans ob).trans j4.ch).trans jA.ch
  replace gV := gV.ch Z47
  have Z48 := (((((((((((((((l8.ch.trans mW.ch).trans sa).trans l9.ch).trans lm.ch).trans ma.ch).trans ru).trans lp.ch).trans kA.ch).trans lr.ch).trans pP).trans kB.ch).trans j3.ch).trans kC.ch).trans ob).trans j4.ch).trans jA.ch
  replace fI := fI.ch Z48
  have Z49 := (((((((((((((((((((mU.ch.trans oH.ch).trans sO).trans mV.ch).trans l8.ch).trans mW.ch).trans sa).trans l9.ch).trans lm.ch).trans ma.ch).trans ru).trans lp.ch).trans kA.ch).trans lr.ch).trans pP).trans kB.ch).trans j3.ch).trans kC.ch).trans ob).trans j4.ch).trans jA.ch
  replace er := er.ch Z49
  replace cg := ((cg.ch Z44).ch j4.ch).ch jA.ch
  exact hX3 _ H _ _ ⟨gR + 1, FJ, FK, NR, g8, iP, iQ, pG, g9 + 1, D9, Ea, NO, ia + 1, Cs, Ct, NL, ic + 1, AC, AD, NI, ie + 1, y4, y5, NF, ig + 1, xT, xU, NC, ⟨rfl, rfl, rfl, rfl, rfl, trivial⟩, hO, Bt, cg, sP, kY, gV, fI, er, au, hB⟩
 replace H := ifn AB H
 refine zo (fun w => opB (op_lss rfl rfl w) (decide_eq_false AB)) (zn (zq (zf rfl rfl ?_)))
 refine Go1.exit rfl ?_
 refine zq (zr (zm rfl (za rfl (za rfl (zn ?_)))))
 have sE := Stp.nil (e := 31) (r := 1) hO
 replace hO := sE.own
 have jB := Els.nil (Rp.sl (Rp.int .i64)) (bl (.row 31 1 none 0 0 [] :: [.row 3 1 je gR jf rq, .row 185 2 iP g8 iQ pG, .row 3 1 iR g9 iT pI, .row 9 1 jg ia jh pK, .row 3 1 jy ic jz pM, .row 3 1 jQ ie jR pN, .row 31 1 kg ig kh pO, .row 31 1 p35 n37 c36 fB, .blk B10 (.cells #[.int .i64 ((ix a0 (0 : Int)).length : Int), .bool true, .slice p35 n37 c36, .slice kg ig kh, .slice jQ ie jR, .slice jy ic jz, .slice none 0 0, .slice iP g8 iQ, .int .i64 (0 : Int), .map (some B4), .slice jg ia jh, .slice iR g9 iT, .slice je gR jf] 156 (0, 0)), .any (mapE (fun a : List UInt8 => Value.string (gstr a)) (fun a : Int => Value.int .i64 a) B4 m3_591)]) ++ A) Rc
 have qA := Stp.front 10 hO rfl
 dsimp only [eS, eZ] at qA
 replace hO := qA.own
 have qB := Stp.front 2 hO rfl
 dsimp only [eS, eZ] at qB
 replace hO := qB.own
 have qC := Stp.front 4 hO rfl
 dsimp only [eS, eZ] at qC
 replace hO := qC.own
 have qD := Stp.front 5 hO rfl
 dsimp only [eS, eZ] at qD
 replace hO := qD.own
 have qE := Stp.front 5 hO rfl
 dsimp only [eS, eZ] at qE
 replace hO := qE.own
 have qF := Stp.front 5 hO rfl
 dsimp only [eS, eZ] at qF
 replace hO := qF.own
 have qG := Stp.front 6 hO rfl
 dsimp only [eS, eZ] at qG
 replace hO := qG.own
 have qH := Stp.front 7 hO rfl
 dsimp only [eS, eZ] at qH
 replace hO := qH.own
 have qI := Stp.front 8 hO rfl
 dsimp only [eS, eZ] at qI
 replace hO := qI.own
 have qJ := Stp.front 9 hO rfl
 dsimp only [eS, eZ] at qJ
 replace hO := qJ.own
 have qK := Stp.front 10 hO rfl
 dsimp only [eS, eZ] at qK
 replace hO := qK.own
 refine Go1.ret2 Try.func131 rfl ?_
 have Z50 := (((((((((qA.ch.trans qB.ch).trans qC.ch).trans qD.ch).trans qE.ch).trans qF.ch).trans qG.ch).trans qH.ch).trans qI.ch).trans qJ.ch).trans qK.ch
 replace jB := jB.ch Z50
 have Z51 := ((((((((((sE.ch.trans qA.ch).trans qB.ch).trans qC.ch).trans qD.ch).trans qE.ch).trans qF.ch).trans qG.ch).trans qH.ch).trans qI.ch).trans qJ.ch).trans qK.ch
 replace cb := cb.ch Z51
 replace cg := cg.ch Z51
 replace ci := ci.ch Z51
 replace cp := cp.ch Z51
 replace cV := cV.ch Z51
 replace dj := dj.ch Z51
 replace dz := dz.ch Z51
 replace au := au.ch Z51
 replace hB := (((((((((((hB.trans sE.fr).trans qA.fr).trans qB.fr).trans qC.fr).trans qD.fr).trans qE.fr).trans qF.fr).trans qG.fr).trans qH.fr).trans qI.fr).trans qJ.fr).trans qK.fr
 exact Or.inr ⟨(⟨(⟨((ix a0 (0 : Int)).length : Int), true, d_32, d_585, d_579, d_573, ([] : List (List Int)), d_555, (0 : Int)⟩ : Enum), m3_591, d_567, d_561, d_549⟩ : run), ((0 : Int)), B10, n37, p35, c36, fB, ig, kg, kh, pO, ie, jQ, jR, pN, ic, jy, jz, pM, 0, none, 0, ([]), g8, iP, iQ, pG, B4, ia, jg, jh, pK, g9, iR, iT, pI, gR, je, jf, rq, rfl, hB.same, hO, au, dz, dj, cV, jB, cg, cp, ci, cb, H⟩
theorem body158 : Body Try.prog 158 := ⟨Try.f158, Try.func158, rfl, by kernel_rfl⟩
theorem walk_trans_Compose {A : List Nat} {w0 : World} {p_f : Option Addr} {c_f : Nat} {p_g : Option Addr} {c_g : Nat} {f : List Int} {g : List Int} (hA : ∀ b ∈ A, b < w0.heap.size) (h_f : ISl (Rp.int .i64) A w0 p_f c_f f) (h_g : ISl (Rp.int .i64) A w0 p_g c_g g) {K : List Int → Prop} (H : trans_Compose f g K) :
    CallsV Try.prog 158 #[.slice p_f f.length c_f, .slice p_g g.length c_g] w0 (fun v w' => ∃ (r0 : List Int), ∃ (uV : Option Addr), ∃ (uW : Nat), v = .slice uV r0.length uW ∧ Same w0 w' ∧ ISl (Rp.int .i64) A w' uV uW r0 ∧ K r0) := by
 refine CallsV.of (l := [.slice p_f f.length c_f, .slice p_g g.length c_g]) Try.func158 rfl Try.ntmps158 rfl ?_
 have hO := Owns.start hA
 have hB := Fr.refl (bl []) w0
 unfold trans_Compose at H
 refine zq (zr (za rfl (zn (zq (zq ?_)))))
 refine zr (zm rfl (zo (op_len Try.underlying31 rfl) ?_))
 replace h_f := h_f.ch (Ch.start A w0)
 replace H := H h_f.bd
 refine zm rfl (zo (op_len Try.underlying31 rfl) ?_)
 replace h_g := h_g.ch (Ch.start A w0)
 replace H := H h_g.bd
 by_cases h1 : (f.length : Int) = (g.length : Int)
 ·replace H := ifp h1 H
  refine zo (fun w => opB (op_neq rfl rfl w) (ndT h1)) (zm rfl (zm rfl ?_))
  refine GoR.call (op_call body154 rfl (walk_trans_Valid hO.lt h_f H)) rfl rfl ?_
  rintro v6 w3 ⟨r2, rfl, hs4, H⟩
  have lP := Stp.same hO hs4
  replace hO := lP.own
  cases r2
  ·replace H := ifn Bool.false_ne_true H
   refine zo (op_not rfl) (zo (op_pickF rfl rfl rfl) (zm rfl (zp (zp (zp ?_)))))
   refine zo (op_pickT rfl rfl rfl) (zn (zt rfl rfl (zq (zr (za rfl ?_)))))
   refine zn ?_
   refine Go1.ret1 Try.func158 rfl ?_
   replace hB := hB.trans lP.fr
   exact ⟨([] : List Int), none, 0, rfl, hB.same, (ISl.null _ _ _), H⟩
  replace H := ifp rfl H
  refine zo (op_not rfl) (zo (op_pickF rfl rfl rfl) (zm rfl (zm rfl ?_)))
  replace h_g := h_g.ch lP.ch
  refine GoR.call (op_call body154 rfl (walk_trans_Valid hO.lt h_g H)) rfl rfl ?_
  rintro v12 w9 ⟨r8, rfl, wV, H⟩
  have u6 := Stp.same hO wV
  replace hO := u6.own
  cases r8
  ·replace H := ifn Bool.false_ne_true H
   refine zo (op_not rfl) (zo (op_pickF rfl rfl rfl) (zn (zt rfl rfl (zq ?_))))
   refine Go1.cut [] trivial ?_
   intro σ _
   refine zr (za rfl (zn ?_))
   refine Go1.ret1 Try.func158 rfl ?_
   replace hB := (hB.trans lP.fr).trans u6.fr
   exact ⟨([] : List Int), none, 0, rfl, hB.same, (ISl.null _ _ _), H⟩
  replace H := ifp rfl H
  refine zo (op_not rfl) (zo (op_pickF rfl rfl rfl) (zn (zf rfl rfl (zk (zq ?_)))))
  refine zr (zm rfl (zo (op_len Try.underlying31 rfl) ?_))
  obtain ⟨h21, H⟩ := H
  obtain ⟨h22, H⟩ := H
  have hobt := omake (n := (f.length : Int)) (r := Rp.int .i64) (d := (0 : Int)) Try.underlying31 ti3 (fun _ _ => rfl) rfl hO h21 h22 (by decide)
  obtain ⟨w14, p15, xc, u5, c9, Qk, zF⟩ := hobt
  refine zg (zF rfl rfl) ?_
  replace hO := u5.own
  refine za rfl (zn (zq (zq (zr (zm rfl ?_)))))
  refine zo (op_len Try.underlying31 rfl) (zm rfl (zn (zb ?_)))
  replace h_g := (h_g.ch u6.ch).ch u5.ch
  have Z1 := (lP.ch.trans u6.ch).trans u5.ch
  replace h_f := h_f.ch Z1
  replace hB := ((hB.trans lP.fr).trans u6.fr).trans u5.fr
  refine Go1.loopW (S := Nat × List Int) (fun s σ w => match s with | (k1_25, h1_26) => ∃ (y6 : List Value), agrees σ [(1, .slice p_g g.length c_g), (5, .slice p15 f.length f.length), (26, .slice p_f f.length c_f), (27, .int .i64 (f.length : Int)), (28, .int .i64 (k1_25 : Int))] ∧ (fun Z0 => Owns w0.heap.size w Z0 A ∧ Els (Rp.int .i64) (bl Z0 ++ A) w y6 h1_26 ∧ ISl (Rp.int .i64) (bl Z0 ++ A) w p_f c_f f ∧ ISl (Rp.int .i64) (bl Z0 ++ A) w p_g c_g g ∧ Fr (bl []) w0 (bl Z0) w) [.row 3 1 p15 f.length f.length y6]) H ⟨xc, ⟨rfl, rfl, rfl, rfl, rfl, trivial⟩, hO, c9, h_f, h_g, hB⟩ ?_
  intro X1
  refine prE fun k1_25 => fun h1_26 => ?_
  intro H hX1 σ w24
  refine exE fun y6 => andE fun hag => andE fun hO => andE fun Eb => andE fun h_f => andE fun h_g => fun hB => ?_
  dsimp only at H
  refine Go1.keep [(1, .slice p_g g.length c_g), (5, .slice p15 f.length f.length), (26, .slice p_f f.length c_f), (27, .int .i64 (f.length : Int)), (28, .int .i64 (k1_25 : Int))] hag ?_
  refine zq (zr ?_)
  by_cases h29 : (k1_25 : Int) < (f.length : Int)
  ·replace H := ifp h29 H
   refine zo (fun w => opB (op_lss rfl rfl w) (decide_eq_true h29)) (zn (zq (zt rfl rfl (zk (zq ?_)))))
   refine zb (zq (zr (zm rfl ?_)))
   obtain ⟨h30, H⟩ := H
   obtain ⟨h31, H⟩ := H
   refine zo (op_index Try.underlying31 ti3 rfl rfl h30 h31 (h_f.some_ h30 h31)) (zs (ldInt h_f h30 h31 Try.underlying3 rfl rfl) (za rfl (za rfl (zn (zr ?_)))))
   refine zm rfl (zm rfl (zm rfl (zm rfl ?_)))
   obtain ⟨h32, H⟩ := H
   obtain ⟨h33, H⟩ := H
   refine zo (op_index Try.underlying31 ti3 rfl rfl h32 h33 (h_g.some_ h32 h33)) (zs (ldInt h_g h32 h33 Try.underlying3 rfl rfl) ?_)
   obtain ⟨h34, H⟩ := H
   obtain ⟨h35, H⟩ := H
   refine zo (op_index Try.underlying31 ti3 rfl rfl h34 (ltn (Eb.neq hO 0 rfl) h35) (Eb.psome hO 0 rfl h34 h35)) ?_
   have hobt := ost (r := Rp.int .i64) rfl 0 hO rfl Eb h34 h35 (v := .int .i64 (ix g (ix f (k1_25 : Int)))) (u := (ix g (ix f (k1_25 : Int)))) rfl rfl
   obtain ⟨w36, Rq, Bu, Rr, NS⟩ := hobt
   refine zg (NS Try.underlying3 rfl ti3 (by exact rfl) (by exact rfl)) ?_
   replace hO := Bu.own
   refine zn ?_
   refine Go1.inBlock ?_
   refine zr ?_
   replace h_f := h_f.ch Bu.ch
   refine zo (op_add rfl rfl (wrap_i64 (natbd h29 h_f.bd))) (zm rfl (zn ?_))
   replace h_g := h_g.ch Bu.ch
   replace hB := hB.trans Bu.fr
   exact hX1 _ H _ _ ⟨Rq, ⟨rfl, rfl, rfl, rfl, rfl, trivial⟩, hO, Rr, h_f, h_g, hB⟩
  replace H := ifn h29 H
  refine zo (fun w => opB (op_lss rfl rfl w) (decide_eq_false h29)) (zn (zq (zf rfl rfl ?_)))
  refine Go1.exit rfl ?_
  refine zq (zr (zm rfl (za rfl (zn ?_))))
  have hobt := freeze 0 hO rfl Eb
  obtain ⟨hO1, yK, uR, EG⟩ := hobt
  replace hO := hO1; clear hO1
  refine Go1.ret1 Try.func158 rfl ?_
  replace hB := hB.trans (Owns.dropFr _ _ 0)
  exact ⟨h1_26, p15, f.length, (congrArg (fun nn => Value.slice p15 nn f.length) EG), hB.same, (uR.ch (Ch.weak _ _ _)), H⟩
 replace H := ifn h1 H
 refine zo (fun w => opB (op_neq rfl rfl w) (ndF h1)) (zm rfl (zp (zp (zp (zo (op_pickT rfl rfl rfl) ?_)))))
 refine zm rfl (zp (zp (zp (zo (op_pickT rfl rfl rfl) (zn ?_)))))
 refine zt rfl rfl (zq ?_)
 refine Go1.cut [] trivial ?_
 intro σ _
 refine zr (za rfl (zn ?_))
 refine Go1.ret1 Try.func158 rfl ?_
 exact ⟨([] : List Int), none, 0, rfl, hB.same, (ISl.null _ _ _), H⟩
end Sg
