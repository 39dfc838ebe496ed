/- -/
import Derived.Test.YtlneebpmblkllaaTi
import Derived.Test.YtlneebpmblkllaaWSyntacticMonoidsb
import Derived.Test.YtlneebpmblkllaaAl
namespace Sg
open Go Go.RowKit Go.Proofs
set_option linter.unusedVariables false
set_option linter.unusedSimpArgs false
set_option maxRecDepth 100000
set_option maxHeartbeats 4000000
theorem body155 : Body Try.prog 155 := ⟨Try.f155, Try.func155, rfl, by kernel_rfl⟩
theorem body131 : Body Try.prog 131 := ⟨Try.f131, Try.func131, rfl, by kernel_rfl⟩
theorem walk_enumerate_begin {A : List Nat} {w0 : World} {xn : Option Addr} {xo : Nat} {a0 : List (List Int)} {a1 : Bool} (hA : ∀ b ∈ A, b < w0.heap.size) (cq : ISl (Rp.sl (Rp.int .i64)) A w0 xn xo a0) {K : Option run → Int → Prop} (H : enumerate_begin a0 a1 K) :
    CallsV Try.prog 131 #[.slice xn a0.length xo, .bool a1] w0 (fun v w' => (∃ (r1 : Int), v = .tuple #[.pointer none, .int .i64 r1] ∧ Same w0 w' ∧ K none r1) ∨ (∃ (q : run), ∃ (r1 : Int), ∃ (b_q : Nat), ∃ (bQ : Nat), ∃ (bS : Option Addr), ∃ (bT : Nat), ∃ (dn : List Value), ∃ (bB : Nat), ∃ (bC : Option Addr), ∃ (bD : Nat), ∃ (de : List Value), ∃ (bo : Nat), ∃ (bt : Option Addr), ∃ (bu : Nat), ∃ (cU : List Value), ∃ (bU : Nat), ∃ (bV : Option Addr), ∃ (bW : Nat), ∃ (dp : List Value), ∃ (bE : Nat), ∃ (bF : Option Addr), ∃ (bG : Nat), ∃ (dg : List Value), ∃ (bH : Nat), ∃ (bI : Option Addr), ∃ (bK : Nat), ∃ (dh : List Value), ∃ (eO : Nat), ∃ (cW : Nat), ∃ (cX : Option Addr), ∃ (cY : Nat), ∃ (dY : List Value), ∃ (cB : Nat), ∃ (cC : Option Addr), ∃ (cD : Nat), ∃ (dK : List Value), ∃ (cE : Nat), ∃ (cF : Option Addr), ∃ (cG : Nat), ∃ (dM : List Value), v = .tuple #[.pointer (some ⟨b_q, 0, none⟩), .int .i64 r1] ∧ Same w0 w' ∧ (fun Z0 => Owns w0.heap.size w' Z0 A ∧ Els (Rp.sl (Rp.int .i64)) (bl Z0 ++ A) w' dn q.Enum.Gens ∧ Els (Rp.sl (Rp.int .i64)) (bl Z0 ++ A) w' de q.Enum.Elems ∧ Els (Rp.int .i64) (bl Z0 ++ A) w' cU q.Enum.Prefix ∧ Els (Rp.int .i64) (bl Z0 ++ A) w' dp q.Enum.Last ∧ Els (Rp.sl (Rp.int .i64)) (bl Z0 ++ A) w' dg q.Enum.Right ∧ Els (rpRule) (bl Z0 ++ A) w' dh q.Enum.Rules ∧ Els (Rp.str) (bl Z0 ++ A) w' dY q.words ∧ Els (Rp.int .i64) (bl Z0 ++ A) w' dK q.behind ∧ Els (Rp.int .i64) (bl Z0 ++ A) w' dM q.single ∧ K (some q) r1) [.blk b_q (.cells #[.int .i64 q.Enum.Points, .bool q.Enum.Monoid, .slice bS bQ bT, .slice bC bB bD, .slice bt bo bu, .slice bV bU bW, .slice bF bE bG, .slice bI bH bK, .int .i64 q.Enum.Done, .map (some eO), .slice cX cW cY, .slice cC cB cD, .slice cF cE cG] 156 (0, 0)), .row 31 1 bS bQ bT dn, .row 31 1 bC bB bD de, .row 3 1 bt bo bu cU, .row 3 1 bV bU bW dp, .row 31 1 bF bE bG dg, .row 185 2 bI bH bK dh, .row 9 1 cX cW cY dY, .row 3 1 cC cB cD dK, .row 3 1 cF cE cG dM, .any (mapE (fun a : List UInt8 => Value.string (gstr a)) (fun a : Int => Value.int .i64 a) eO q.number)])) := by
 refine CallsV.of (l := [.slice xn a0.length xo, .bool a1]) Try.func131 rfl Try.ntmps131 rfl ?_
 have hO := Owns.start hA
 have hB := Fr.refl (bl []) w0
 unfold enumerate_begin at H
 refine zq (zr (za rfl (za rfl (zn (zq ?_)))))
 refine zq (zr (zm rfl (zo (op_len Try.underlying23 rfl) ?_)))
 replace cq := cq.ch (Ch.start A w0)
 replace H := H cq.bd
 by_cases h1 : (a0.length : Int) = (0 : Int)
 ·replace H := ifp h1 H
  refine zo (fun w => opB (op_eql rfl rfl w) (decide_eq_true h1)) (zm rfl (zp (zp (zp (zo (op_pickT rfl rfl rfl) ?_)))))
  refine zn (zt rfl rfl (zq (zr (za rfl (za rfl ?_)))))
  refine zn ?_
  refine Go1.ret2 Try.func131 rfl ?_
  exact Or.inl ⟨((1 : Int)), rfl, hB.same, H⟩
 replace H := ifn h1 H
 refine zo (fun w => opB (op_eql rfl rfl w) (decide_eq_false h1)) (zm rfl (zm rfl (zo (op_len Try.underlying23 rfl) ?_)))
 by_cases h2 : (6 : Int) < (a0.length : Int)
 ·replace H := ifp h2 H
  refine zo (fun w => opB (op_gtr rfl rfl w) (decide_eq_true h2)) (zo (op_pickF rfl rfl rfl) (zn (zt rfl rfl (zq (zr ?_)))))
  refine za rfl (za rfl (zn ?_))
  refine Go1.ret2 Try.func131 rfl ?_
  exact Or.inl ⟨((1 : Int)), rfl, hB.same, H⟩
 replace H := ifn h2 H
 refine zo (fun w => opB (op_gtr rfl rfl w) (decide_eq_false h2)) (zo (op_pickF rfl rfl rfl) (zn (zf rfl rfl (zk (zq ?_)))))
 refine Go1.cut [(0, .slice xn a0.length xo), (1, .bool a1)] ⟨rfl, rfl, trivial⟩ ?_
 intro σ _
 refine zr ?_
 have hobt := omakeMap (fun a : List UInt8 => Value.string (gstr a)) (fun a : Int => Value.int .i64 a) hO
 obtain ⟨w3, B4, FB, hs6, Ck⟩ := hobt
 refine GoR.op Ck rfl rfl ?_
 replace hO := FB.own
 refine zo (op_build Try.underlying156 ti156 (pl := [(0, 9), (9, 1), (10, 1), (11, 1), (12, 1)]) (vs := [(1, .map (some B4))]) (cs := #[.int .i64 (0 : Int), .bool false, .slice none 0 0, .slice none 0 0, .slice none 0 0, .slice none 0 0, .slice none 0 0, .slice none 0 0, .int .i64 (0 : Int), .map (some B4), .slice none 0 0, .slice none 0 0, .slice none 0 0]) (by kernel_rfl) rfl (by kernel_rfl)) ?_
 have hobt := obox (t := 156) (v := .agg #[.int .i64 (0 : Int), .bool false, .slice none 0 0, .slice none 0 0, .slice none 0 0, .slice none 0 0, .slice none 0 0, .slice none 0 0, .int .i64 (0 : Int), .map (some B4), .slice none 0 0, .slice none 0 0, .slice none 0 0]) (cs := #[.int .i64 (0 : Int), .bool false, .slice none 0 0, .slice none 0 0, .slice none 0 0, .slice none 0 0, .slice none 0 0, .slice none 0 0, .int .i64 (0 : Int), .map (some B4), .slice none 0 0, .slice none 0 0, .slice none 0 0]) hO rfl
 obtain ⟨w9, B10, DS, UE, Mr⟩ := hobt
 refine zg (Mr rfl) ?_
 replace hO := DS.own
 refine za rfl (zn (zq (zr (zm rfl (zm rfl ?_)))))
 refine zm rfl ?_
 obtain ⟨h15, H⟩ := H
 obtain ⟨h16, H⟩ := H
 replace cq := (cq.ch FB.ch).ch DS.ch
 refine zo (op_index Try.underlying23 ti31 rfl rfl h15 h16 (cq.some_ h15 h16)) ?_
 have hobt := ldSl cq h15 h16
 obtain ⟨p17, c18, yY, QO⟩ := hobt
 refine zs (QO Try.underlying31 rfl rfl) (zo (op_len Try.underlying31 rfl) ?_)
 replace H := H yY.bd
 refine zm rfl (zo (op_nilCheck rfl) (zo (op_fieldAddr Try.underlying156 rfl ti123 rfl (by decide)) (zo (op_fieldAddr Try.underlying123 rfl ti3 rfl (by decide)) ?_)))
 have hobt := oblkSt2 (v := .int .i64 ((ix a0 (0 : Int)).length : Int)) (i := 0) (cs' := #[.int .i64 ((ix a0 (0 : Int)).length : Int), .bool false, .slice none 0 0, .slice none 0 0, .slice none 0 0, .slice none 0 0, .slice none 0 0, .slice none 0 0, .int .i64 (0 : Int), .map (some B4), .slice none 0 0, .slice none 0 0, .slice none 0 0]) 0 hO rfl rfl rfl rfl
 obtain ⟨w21, mO, Mt⟩ := hobt
 refine zg (Mt Try.underlying3 rfl ti3 (by exact rfl) (by exact rfl)) ?_
 replace hO := mO.own
 refine zo (op_nilCheck rfl) (zo (op_fieldAddr Try.underlying156 rfl ti123 rfl (by decide)) (zo (op_fieldAddr Try.underlying123 rfl ti4 rfl (by decide)) ?_))
 have hobt := oblkSt2 (v := .bool a1) (i := 1) (cs' := #[.int .i64 ((ix a0 (0 : Int)).length : Int), .bool a1, .slice none 0 0, .slice none 0 0, .slice none 0 0, .slice none 0 0, .slice none 0 0, .slice none 0 0, .int .i64 (0 : Int), .map (some B4), .slice none 0 0, .slice none 0 0, .slice none 0 0]) 0 hO rfl rfl rfl rfl
 obtain ⟨w24, i7, Do⟩ := hobt
 refine zg (Do Try.underlying4 rfl ti4 (by exact rfl) (by exact rfl)) ?_
 replace hO := i7.own
 refine zn (zq (zq ?_))
 refine Go1.cut [(0, .slice xn a0.length xo), (1, .bool a1), (6, .pointer (some ⟨B10, 0, none⟩))] ⟨rfl, rfl, rfl, trivial⟩ ?_
 intro σ _
 refine zr (zm rfl (zo (op_len Try.underlying23 rfl) (zm rfl (zn (zb ?_)))))
 have Br := Stp.nil (e := 31) (r := 1) hO
 replace hO := Br.own
 have vF := Els.nil (Rp.sl (Rp.int .i64)) (bl (.row 31 1 none 0 0 [] :: [.blk B10 (.cells #[.int .i64 ((ix a0 (0 : Int)).length : Int), .bool a1, .slice none 0 0, .slice none 0 0, .slice none 0 0, .slice none 0 0, .slice none 0 0, .slice none 0 0, .int .i64 (0 : Int), .map (some B4), .slice none 0 0, .slice none 0 0, .slice none 0 0] 156 (0, 0)), .any (mapE (fun a : List UInt8 => Value.string (gstr a)) (fun a : Int => Value.int .i64 a) B4 (([] : List (Str × Int))))]) ++ A) w24
 have Z1 := (mO.ch.trans i7.ch).trans Br.ch
 replace cq := cq.ch Z1
 replace hB := ((((hB.trans FB.fr).trans DS.fr).trans mO.fr).trans i7.fr).trans Br.fr
 refine Go1.loopW (S := Nat × List (List Int)) (fun s σ w => match s with | (k1_31, d_32) => ∃ (n37 : Nat), ∃ (p35 : Option Addr), ∃ (c36 : Nat), ∃ (fB : List Value), agrees σ [(1, .bool a1), (6, .pointer (some ⟨B10, 0, none⟩)), (39, .slice xn a0.length xo), (40, .int .i64 (a0.length : Int)), (41, .int .i64 (k1_31 : Int))] ∧ (fun Z0 => Owns w0.heap.size w Z0 A ∧ Els (Rp.sl (Rp.int .i64)) (bl Z0 ++ A) w fB d_32 ∧ ISl (Rp.sl (Rp.int .i64)) (bl Z0 ++ A) w xn xo a0 ∧ Fr (bl []) w0 (bl Z0) w) [.row 31 1 p35 n37 c36 fB, .blk B10 (.cells #[.int .i64 ((ix a0 (0 : Int)).length : Int), .bool a1, .slice p35 n37 c36, .slice none 0 0, .slice none 0 0, .slice none 0 0, .slice none 0 0, .slice none 0 0, .int .i64 (0 : Int), .map (some B4), .slice none 0 0, .slice none 0 0, .slice none 0 0] 156 (0, 0)), .any (mapE (fun a : List UInt8 => Value.string (gstr a)) (fun a : Int => Value.int .i64 a) B4 (([] : List (Str × Int))))]) H ⟨0, none, 0, [], ⟨rfl, rfl, rfl, rfl, rfl, trivial⟩, hO, vF, cq, hB⟩ ?_
 intro X1
 refine prE fun k1_31 => fun d_32 => ?_
 intro H hX1 σ w30
 refine exE fun n37 => exE fun p35 => exE fun c36 => exE fun fB => andE fun hag => andE fun hO => andE fun au => andE fun cq => fun hB => ?_
 dsimp only at H
 refine Go1.keep [(1, .bool a1), (6, .pointer (some ⟨B10, 0, none⟩)), (39, .slice xn a0.length xo), (40, .int .i64 (a0.length : Int)), (41, .int .i64 (k1_31 : Int))] hag ?_
 refine zq (zr ?_)
 by_cases h38 : (k1_31 : Int) < (a0.length : Int)
 ·replace H := ifp h38 H
  refine zo (fun w => opB (op_lss rfl rfl w) (decide_eq_true h38)) (zn (zq (zt rfl rfl (zk (zq ?_)))))
  refine zb (zq (zr ?_))
  obtain ⟨h39, H⟩ := H
  obtain ⟨h40, H⟩ := H
  refine zo (op_index Try.underlying23 ti31 rfl rfl h39 h40 (cq.some_ h39 h40)) ?_
  have hobt := ldSl cq h39 h40
  obtain ⟨p41, c42, pz, QP⟩ := hobt
  refine zs (QP Try.underlying31 rfl rfl) (za rfl (zn (zq (zq (zr ?_)))))
  refine zm rfl (zo (op_len Try.underlying31 rfl) ?_)
  replace H := H pz.bd
  refine zm rfl (zo (op_nilCheck rfl) (zo (op_fieldAddr Try.underlying156 rfl ti123 rfl (by decide)) (zo (op_fieldAddr Try.underlying123 rfl ti3 rfl (by decide)) (zs (oblk (i := 0) 1 hO rfl rfl Try.underlying3 rfl rfl) ?_))))
  by_cases h45 : ((ix a0 (k1_31 : Int)).length : Int) = ((ix a0 (0 : Int)).length : Int)
  ·replace H := ifp h45 H
   refine zo (fun w => opB (op_neq rfl rfl w) (ndT h45)) (zm rfl (zm rfl ?_))
   refine GoR.call (op_call body154 rfl (walk_trans_Valid hO.lt pz H)) rfl rfl ?_
   rintro v50 w47 ⟨r46, rfl, HR, H⟩
   have uc := Stp.same hO HR
   replace hO := uc.own
   cases r46
   ·replace H := ifn Bool.false_ne_true H
    refine zo (op_not rfl) (zo (op_pickF rfl rfl rfl) (zn (zt rfl rfl (zq (zr ?_)))))
    refine za rfl (za rfl (zn ?_))
    refine Go1.ret2 Try.func131 rfl ?_
    replace hB := hB.trans uc.fr
    exact Or.inl ⟨((4 : Int)), rfl, hB.same, H⟩
   replace H := ifp rfl H
   refine zo (op_not rfl) (zo (op_pickF rfl rfl rfl) (zn (zf rfl rfl (zk ?_))))
   refine Go1.cut [(1, .bool a1), (6, .pointer (some ⟨B10, 0, none⟩)), (8, .slice p41 ((ix a0 (k1_31 : Int)).length) c42), (39, .slice xn a0.length xo), (40, .int .i64 (a0.length : Int)), (41, .int .i64 (k1_31 : Int))] ⟨rfl, rfl, rfl, rfl, rfl, rfl, trivial⟩ ?_
   intro σ _
   refine Go1.drawS 1 [(0, .pure), (1, .pure), (2, .pure), (3, .pure), (4, .pure), (5, .stable), (6, .pure), (7, .loud), (8, .loud), (9, .last), (10, .pure), (11, .pure), (12, .pure), (13, .last)] mixed (by kernel_rfl) ?_
   intro w52 EJ
   have zQ := Stp.same hO EJ
   replace hO := zQ.own
   refine GoQ.pure rfl (op_move rfl) rfl rfl ?_
   refine GoQ.pure rfl (op_move rfl) rfl rfl ?_
   refine GoQ.pure rfl (op_nilCheck rfl) rfl rfl ?_
   refine GoQ.pure rfl (op_fieldAddr Try.underlying156 rfl ti123 rfl (by decide)) rfl rfl ?_
   refine GoQ.pure rfl (op_fieldAddr Try.underlying123 rfl ti23 rfl (by decide)) rfl rfl ?_
   refine GoQ.stable rfl (oblk (i := 2) 1 hO rfl rfl Try.underlying23 rfl rfl) rfl rfl ?_
   refine GoQ.pure rfl (op_move rfl) rfl rfl ?_
   replace pz := (pz.ch uc.ch).ch zQ.ch
   refine GoQ.call rfl (op_call body86 rfl (walk_slices_Clone_int hO.lt pz H)) (fun v w hr => by obtain ⟨_, _, _, _, _, _, hs, _, _, _⟩ := hr; assumption) rfl rfl ?_
   rintro v60 w57 ⟨r55, Hx, Bs, Bt, SA, rfl, QQ, hN59, FC, H⟩
   have zR := Stp.more hO QQ hN59
   replace hO := zR.own
   replace FC := FC.ch (Ch.assoc _ _ _ _)
   have hobt := freeze 0 hO rfl FC
   obtain ⟨hO1, FD, xp, QR⟩ := hobt
   replace hO := hO1; clear hO1
   have hobt := obuild (r := Rp.sl (Rp.int .i64)) (n := 1) (parts := [(0, .slice Bs Hx Bt)]) (vs := [.slice Bs Hx Bt]) (xs := [r55]) rfl Try.underlying23 ti31 hO (by decide) (by kernel_rfl) (Els.cons rfl ⟨Bs, Bt, congrArg some (congrArg (fun nn => Value.slice Bs nn Bt) QR), xp⟩ (Els.nil _ _ _) (by simp [mx])) rfl
   obtain ⟨w66, p67, ye, ss, EK, Mu⟩ := hobt
   refine GoQ.loud rfl (Mu rfl) EK rfl rfl ?_
   replace hO := ye.own
   have hobt := freeze 0 hO rfl ss
   obtain ⟨hO1, DT, Cl, QS⟩ := hobt
   replace hO := hO1; clear hO1
   obtain ⟨h76, H⟩ := H
   have Z2 := ((((uc.ch.trans zQ.ch).trans zR.ch).trans FD).trans ye.ch).trans DT
   replace au := au.ch Z2
   have hobt := oapp Try.underlying23 ti31 rfl 0 hO rfl au Cl QS h76 (by decide)
   obtain ⟨w77, p78, c79, ow, gI, yS, Mv⟩ := hobt
   refine GoQ.last rfl (Mv (by exact rfl) (by exact rfl)) rfl rfl ?_
   replace hO := gI.own
   refine GoQ.pure rfl (op_nilCheck rfl) rfl rfl ?_
   refine GoQ.pure rfl (op_fieldAddr Try.underlying156 rfl ti123 rfl (by decide)) rfl rfl ?_
   refine GoQ.pure rfl (op_fieldAddr Try.underlying123 rfl ti23 rfl (by decide)) rfl rfl ?_
   have hobt := oblkSt2 (v := .slice p78 (n37 + 1) c79) (i := 2) (cs' := #[.int .i64 ((ix a0 (0 : Int)).length : Int), .bool a1, .slice p78 (n37 + 1) c79, .slice none 0 0, .slice none 0 0, .slice none 0 0, .slice none 0 0, .slice none 0 0, .int .i64 (0 : Int), .map (some B4), .slice none 0 0, .slice none 0 0, .slice none 0 0]) 1 hO rfl rfl rfl rfl
   obtain ⟨w85, xq, DU⟩ := hobt
   refine GoQ.last rfl (DU Try.underlying23 rfl ti23 (by exact rfl) (by exact rfl)) rfl rfl ?_
   replace hO := xq.own
   refine GoQ.nil ?_
   refine Go1.inBlock ?_
   refine zr ?_
   replace cq := ((cq.ch Z2).ch gI.ch).ch xq.ch
   refine zo (op_add rfl rfl (wrap_i64 (natbd h38 cq.bd))) (zm rfl (zn ?_))
   replace yS := yS.ch xq.ch
   replace hB := (((((((hB.trans uc.fr).trans zQ.fr).trans zR.fr).trans (Owns.dropFr _ _ 0)).trans ye.fr).trans (Owns.dropFr _ _ 0)).trans gI.fr).trans xq.fr
   exact hX1 _ H _ _ ⟨n37 + 1, p78, c79, ow, ⟨rfl, rfl, rfl, rfl, rfl, trivial⟩, hO, yS, cq, hB⟩
  replace H := ifn h45 H
  refine zo (fun w => opB (op_neq rfl rfl w) (ndF h45)) (zm rfl (zp (zp (zp (zo (op_pickT rfl rfl rfl) ?_)))))
  refine zn (zt rfl rfl (zq ?_))
  refine Go1.cut [] trivial ?_
  intro σ _
  refine zr (za rfl (za rfl (zn ?_)))
  refine Go1.ret2 Try.func131 rfl ?_
  exact Or.inl ⟨((4 : Int)), rfl, hB.same, H⟩
 replace H := ifn h38 H
 refine zo (fun w => opB (op_lss rfl rfl w) (decide_eq_false h38)) (zn (zq (zf rfl rfl ?_)))
 refine Go1.exit rfl ?_
 refine zq (zr (za rfl (zn (zq (zq ?_)))))
 refine zr (zm rfl (zn ?_))
 cases a1
 ·replace H := ifn Bool.false_ne_true H
  refine zf rfl rfl (zk (zq (zq (zr (zm rfl ?_)))))
  refine zo (op_nilCheck rfl) (zo (op_fieldAddr Try.underlying156 rfl ti123 rfl (by decide)) (zo (op_fieldAddr Try.underlying123 rfl ti23 rfl (by decide)) (zs (oblk (i := 2) 1 hO rfl rfl Try.underlying23 rfl rfl) (zo (op_lenN Try.underlying23 rfl (au.neq hO 0 rfl)) (zm rfl ?_)))))
  refine zn (zb ?_)
  have sM := Stp.nil (e := 31) (r := 1) hO
  replace hO := sM.own
  have b9 := Els.nil (Rp.sl (Rp.int .i64)) (bl (.row 31 1 none 0 0 [] :: [.row 31 1 p35 n37 c36 fB, .blk B10 (.cells #[.int .i64 ((ix a0 (0 : Int)).length : Int), .bool false, .slice p35 n37 c36, .slice none 0 0, .slice none 0 0, .slice none 0 0, .slice none 0 0, .slice none 0 0, .int .i64 (0 : Int), .map (some B4), .slice none 0 0, .slice none 0 0, .slice none 0 0] 156 (0, 0)), .any (mapE (fun a : List UInt8 => Value.string (gstr a)) (fun a : Int => Value.int .i64 a) B4 (([] : List (Str × Int))))]) ++ A) w30
  have zS := Stp.nil (e := 3) (r := 1) hO
  replace hO := zS.own
  have ju := Els.nil (Rp.int .i64) (bl (.row 3 1 none 0 0 [] :: [.row 31 1 none 0 0 [], .row 31 1 p35 n37 c36 fB, .blk B10 (.cells #[.int .i64 ((ix a0 (0 : Int)).length : Int), .bool false, .slice p35 n37 c36, .slice none 0 0, .slice none 0 0, .slice none 0 0, .slice none 0 0, .slice none 0 0, .int .i64 (0 : Int), .map (some B4), .slice none 0 0, .slice none 0 0, .slice none 0 0] 156 (0, 0)), .any (mapE (fun a : List UInt8 => Value.string (gstr a)) (fun a : Int => Value.int .i64 a) B4 (([] : List (Str × Int))))]) ++ A) w30
  have yf := Stp.nil (e := 3) (r := 1) hO
  replace hO := yf.own
  have b7 := Els.nil (Rp.int .i64) (bl (.row 3 1 none 0 0 [] :: [.row 3 1 none 0 0 [], .row 31 1 none 0 0 [], .row 31 1 p35 n37 c36 fB, .blk B10 (.cells #[.int .i64 ((ix a0 (0 : Int)).length : Int), .bool false, .slice p35 n37 c36, .slice none 0 0, .slice none 0 0, .slice none 0 0, .slice none 0 0, .slice none 0 0, .int .i64 (0 : Int), .map (some B4), .slice none 0 0, .slice none 0 0, .slice none 0 0] 156 (0, 0)), .any (mapE (fun a : List UInt8 => Value.string (gstr a)) (fun a : Int => Value.int .i64 a) B4 (([] : List (Str × Int))))]) ++ A) w30
  have kV := Stp.nil (e := 185) (r := 2) hO
  replace hO := kV.own
  have wB := Els.nil (rpRule) (bl (.row 185 2 none 0 0 [] :: [.row 3 1 none 0 0 [], .row 3 1 none 0 0 [], .row 31 1 none 0 0 [], .row 31 1 p35 n37 c36 fB, .blk B10 (.cells #[.int .i64 ((ix a0 (0 : Int)).length : Int), .bool false, .slice p35 n37 c36, .slice none 0 0, .slice none 0 0, .slice none 0 0, .slice none 0 0, .slice none 0 0, .int .i64 (0 : Int), .map (some B4), .slice none 0 0, .slice none 0 0, .slice none 0 0] 156 (0, 0)), .any (mapE (fun a : List UInt8 => Value.string (gstr a)) (fun a : Int => Value.int .i64 a) B4 (([] : List (Str × Int))))]) ++ A) w30
  have fV := Stp.nil (e := 9) (r := 1) hO
  replace hO := fV.own
  have b8 := Els.nil (Rp.str) (bl (.row 9 1 none 0 0 [] :: [.row 185 2 none 0 0 [], .row 3 1 none 0 0 [], .row 3 1 none 0 0 [], .row 31 1 none 0 0 [], .row 31 1 p35 n37 c36 fB, .blk B10 (.cells #[.int .i64 ((ix a0 (0 : Int)).length : Int), .bool false, .slice p35 n37 c36, .slice none 0 0, .slice none 0 0, .slice none 0 0, .slice none 0 0, .slice none 0 0, .int .i64 (0 : Int), .map (some B4), .slice none 0 0, .slice none 0 0, .slice none 0 0] 156 (0, 0)), .any (mapE (fun a : List UInt8 => Value.string (gstr a)) (fun a : Int => Value.int .i64 a) B4 (([] : List (Str × Int))))]) ++ A) w30
  have iv := Stp.nil (e := 3) (r := 1) hO
  replace hO := iv.own
  have DW := Els.nil (Rp.int .i64) (bl (.row 3 1 none 0 0 [] :: [.row 9 1 none 0 0 [], .row 185 2 none 0 0 [], .row 3 1 none 0 0 [], .row 3 1 none 0 0 [], .row 31 1 none 0 0 [], .row 31 1 p35 n37 c36 fB, .blk B10 (.cells #[.int .i64 ((ix a0 (0 : Int)).length : Int), .bool false, .slice p35 n37 c36, .slice none 0 0, .slice none 0 0, .slice none 0 0, .slice none 0 0, .slice none 0 0, .int .i64 (0 : Int), .map (some B4), .slice none 0 0, .slice none 0 0, .slice none 0 0] 156 (0, 0)), .any (mapE (fun a : List UInt8 => Value.string (gstr a)) (fun a : Int => Value.int .i64 a) B4 (([] : List (Str × Int))))]) ++ A) w30
  have sF := Stp.nil (e := 3) (r := 1) hO
  replace hO := sF.own
  have Mw := Els.nil (Rp.int .i64) (bl (.row 3 1 none 0 0 [] :: [.row 3 1 none 0 0 [], .row 9 1 none 0 0 [], .row 185 2 none 0 0 [], .row 3 1 none 0 0 [], .row 3 1 none 0 0 [], .row 31 1 none 0 0 [], .row 31 1 p35 n37 c36 fB, .blk B10 (.cells #[.int .i64 ((ix a0 (0 : Int)).length : Int), .bool false, .slice p35 n37 c36, .slice none 0 0, .slice none 0 0, .slice none 0 0, .slice none 0 0, .slice none 0 0, .int .i64 (0 : Int), .map (some B4), .slice none 0 0, .slice none 0 0, .slice none 0 0] 156 (0, 0)), .any (mapE (fun a : List UInt8 => Value.string (gstr a)) (fun a : Int => Value.int .i64 a) B4 (([] : List (Str × Int))))]) ++ A) w30
  replace DW := DW.ch sF.ch
  replace b8 := (b8.ch iv.ch).ch sF.ch
  have Z3 := (fV.ch.trans iv.ch).trans sF.ch
  replace wB := wB.ch Z3
  have Z4 := ((kV.ch.trans fV.ch).trans iv.ch).trans sF.ch
  replace b7 := b7.ch Z4
  have Z5 := (((yf.ch.trans kV.ch).trans fV.ch).trans iv.ch).trans sF.ch
  replace ju := ju.ch Z5
  have Z6 := ((((zS.ch.trans yf.ch).trans kV.ch).trans fV.ch).trans iv.ch).trans sF.ch
  replace b9 := b9.ch Z6
  have Z7 := (((((sM.ch.trans zS.ch).trans yf.ch).trans kV.ch).trans fV.ch).trans iv.ch).trans sF.ch
  replace au := au.ch Z7
  replace hB := ((((((hB.trans sM.fr).trans zS.fr).trans yf.fr).trans kV.fr).trans fV.fr).trans iv.fr).trans sF.fr
  refine Go1.loopW (S := Nat × List Int × List Int × List Str × List Rule × List Int × List Int × List (List Int) × (List (Str × Int))) (fun s σ w => match s with | (k2_110, d_111, d_117, d_123, d_129, d_135, d_141, d_147, m2_153) => ∃ (gQ : Nat), ∃ (ja : Option Addr), ∃ (jb : Nat), ∃ (n9 : List Value), ∃ (gW : Nat), ∃ (iE : Option Addr), ∃ (iO : Nat), ∃ (pC : List Value), ∃ (gX : Nat), ∃ (jc : Option Addr), ∃ (jd : Nat), ∃ (mK : List Value), ∃ (gY : Nat), ∃ (ip : Option Addr), ∃ (iB : Nat), ∃ (pD : List Value), ∃ (g5 : Nat), ∃ (jv : Option Addr), ∃ (jw : Nat), ∃ (pE : List Value), ∃ (g6 : Nat), ∃ (jO : Option Addr), ∃ (jP : Nat), ∃ (pF : List Value), ∃ (g7 : Nat), ∃ (kd : Option Addr), ∃ (ke : Nat), ∃ (pG : List Value), agrees σ [(6, .pointer (some ⟨B10, 0, none⟩)), (9, .int .i64 (-1 : Int)), (85, .slice p35 n37 c36), (86, .int .i64 (d_32.length : Int)), (87, .int .i64 (k2_110 : Int))] ∧ (fun Z0 => Owns w0.heap.size w Z0 A ∧ Els (Rp.int .i64) (bl Z0 ++ A) w n9 d_111 ∧ Els (Rp.int .i64) (bl Z0 ++ A) w pC d_117 ∧ Els (Rp.str) (bl Z0 ++ A) w mK d_123 ∧ Els (rpRule) (bl Z0 ++ A) w pD d_129 ∧ Els (Rp.int .i64) (bl Z0 ++ A) w pE d_135 ∧ Els (Rp.int .i64) (bl Z0 ++ A) w pF d_141 ∧ Els (Rp.sl (Rp.int .i64)) (bl Z0 ++ A) w pG d_147 ∧ Els (Rp.sl (Rp.int .i64)) (bl Z0 ++ A) w fB d_32 ∧ Fr (bl []) w0 (bl Z0) w) [.row 3 1 ja gQ jb n9, .row 3 1 iE gW iO pC, .row 9 1 jc gX jd mK, .row 185 2 ip gY iB pD, .row 3 1 jv g5 jw pE, .row 3 1 jO g6 jP pF, .row 31 1 kd g7 ke pG, .row 31 1 p35 n37 c36 fB, .blk B10 (.cells #[.int .i64 ((ix a0 (0 : Int)).length : Int), .bool false, .slice p35 n37 c36, .slice kd g7 ke, .slice jO g6 jP, .slice jv g5 jw, .slice none 0 0, .slice ip gY iB, .int .i64 (0 : Int), .map (some B4), .slice jc gX jd, .slice iE gW iO, .slice ja gQ jb] 156 (0, 0)), .any (mapE (fun a : List UInt8 => Value.string (gstr a)) (fun a : Int => Value.int .i64 a) B4 m2_153)]) H ⟨0, none, 0, [], 0, none, 0, [], 0, none, 0, [], 0, none, 0, [], 0, none, 0, [], 0, none, 0, [], 0, none, 0, [], ⟨rfl, rfl, rfl, rfl, rfl, trivial⟩, hO, Mw, DW, b8, wB, b7, ju, b9, au, hB⟩ ?_
  intro X2
  refine prE fun k2_110 => prE fun d_111 => prE fun d_117 => prE fun d_123 => prE fun d_129 => prE fun d_135 => prE fun d_141 => prE fun d_147 => fun m2_153 => ?_
  intro H hX2 σ QT
  refine exE fun gQ => exE fun ja => exE fun jb => exE fun n9 => exE fun gW => exE fun iE => exE fun iO => exE fun pC => exE fun gX => exE fun jc => exE fun jd => exE fun mK => exE fun gY => exE fun ip => exE fun iB => exE fun pD => exE fun g5 => exE fun jv => exE fun jw => exE fun pE => exE fun g6 => exE fun jO => exE fun jP => exE fun pF => exE fun g7 => exE fun kd => exE fun ke => exE fun pG => andE fun hag => andE fun hO => andE fun ca => andE fun ce => andE fun co => andE fun cf => andE fun cI => andE fun di => andE fun dm => andE fun au => fun hB => ?_
  dsimp only at H
  refine Go1.keep [(6, .pointer (some ⟨B10, 0, none⟩)), (9, .int .i64 (-1 : Int)), (85, .slice p35 n37 c36), (86, .int .i64 (d_32.length : Int)), (87, .int .i64 (k2_110 : Int))] hag ?_
  refine zq (zr ?_)
  by_cases AD : (k2_110 : Int) < (d_32.length : Int)
  ·replace H := ifp AD H
   refine zo (fun w => opB (op_lss rfl rfl w) (decide_eq_true AD)) (zn (zq (zt rfl rfl (zk (zq ?_)))))
   refine zb (zq (zr (zm rfl ?_)))
   obtain ⟨xr, H⟩ := H
   obtain ⟨y3, H⟩ := H
   refine zo (op_index Try.underlying23 ti31 rfl rfl xr (ltn (au.neq hO 7 rfl) y3) (au.psome hO 7 rfl xr y3)) ?_
   have hobt := oldSl 7 hO rfl au xr y3
   obtain ⟨DX, DY, cQ, Mx⟩ := hobt
   refine zs (Mx Try.underlying31 rfl rfl) (za rfl (za rfl (zn (zq (zr ?_)))))
   refine zm rfl ?_
   obtain ⟨QU, H⟩ := H
   refine zo (op_add rfl rfl (wrap_i64 QU)) (zo (op_conv Try.underlying3 Try.underlying21 rfl rfl) ?_)
   obtain ⟨Cm, H⟩ := H
   obtain ⟨Cn, H⟩ := H
   refine zo (op_convRS Try.underlying21 Try.underlying9 rfl Cm Cn) (za rfl (zn (zq ?_)))
   refine Go1.drawS 0 [(0, .pure), (1, .pure), (2, .pure), (3, .stable), (4, .pure), (5, .loud), (6, .stable), (7, .pure), (8, .pure), (9, .pure), (10, .pure), (11, .pure)] mixed (by kernel_rfl) ?_
   intro UF My
   have iW := Stp.same hO My
   replace hO := iW.own
   refine GoQ.pure rfl (op_move rfl) rfl rfl ?_
   refine GoQ.pure rfl (op_nilCheck rfl) rfl rfl ?_
   refine GoQ.pure rfl (op_fieldAddr Try.underlying156 rfl ti154 rfl (by decide)) rfl rfl ?_
   refine GoQ.stable rfl (oblk (i := 9) 8 hO rfl rfl Try.underlying154 rfl rfl) rfl rfl ?_
   refine GoQ.pure rfl (op_move rfl) rfl rfl ?_
   replace cQ := cQ.ch iW.ch
   refine GoQ.call rfl (op_call body157 rfl (walk_enumerate_text hO.lt cQ H)) (fun v w hr => by obtain ⟨_, _, hs, _, _⟩ := hr; assumption) rfl rfl ?_
   rintro UG QV ⟨r167, rfl, Hv, Sr, H⟩
   have rO := Stp.same hO Hv
   replace hO := rO.own
   by_cases xO : mhas m2_153 r167 = true
   ·replace H := ifp xO H
    refine GoQ.stable rfl (olookT (a := r167) (MK.str Try.underlying9) 9 hO rfl Try.underlying154 rfl rfl xO) rfl rfl ?_
    refine GoQ.pure rfl (op_move rfl) rfl rfl ?_
    refine GoQ.pure rfl (op_extract rfl rfl) rfl rfl ?_
    refine GoQ.pure rfl (op_extract rfl rfl) rfl rfl ?_
    refine GoQ.pure rfl (op_assign rfl) rfl rfl ?_
    refine GoQ.pure rfl (op_assign rfl) rfl rfl ?_
    refine GoQ.nil ?_
    refine zq (zq ?_)
    refine Go1.cut [(6, .pointer (some ⟨B10, 0, none⟩)), (9, .int .i64 (-1 : Int)), (10, .int .i64 (k2_110 : Int)), (11, .slice DX ((ix d_32 (k2_110 : Int)).length) DY), (12, .string (gstr (chr (IntKind.i32.wrap ((97 : Int) + (k2_110 : Int)))))), (13, .int .i64 (mgt m2_153 r167)), (14, .bool true), (85, .slice p35 n37 c36), (86, .int .i64 (d_32.length : Int)), (87, .int .i64 (k2_110 : Int))] ⟨rfl, rfl, rfl, rfl, rfl, rfl, rfl, rfl, rfl, rfl, trivial⟩ ?_
    intro σ _
    refine zr (zm rfl (zn (zt rfl rfl ?_)))
    refine Go1.drawS 5 [(0, .pure), (1, .pure), (2, .pure), (3, .pure), (4, .pure), (5, .stable), (6, .pure), (7, .pure), (8, .pure), (9, .pure), (10, .stable), (11, .pure), (12, .pure), (13, .stable), (14, .pure), (15, .loud), (16, .last), (17, .pure), (18, .pure), (19, .pure), (20, .last)] mixed (by kernel_rfl) ?_
    intro P6 Mz
    have rP := Stp.same hO Mz
    replace hO := rP.own
    refine GoQ.pure rfl (op_move rfl) rfl rfl ?_
    refine GoQ.pure rfl (op_move rfl) rfl rfl ?_
    refine GoQ.pure rfl (op_nilCheck rfl) rfl rfl ?_
    refine GoQ.pure rfl (op_fieldAddr Try.underlying156 rfl ti123 rfl (by decide)) rfl rfl ?_
    refine GoQ.pure rfl (op_fieldAddr Try.underlying123 rfl ti121 rfl (by decide)) rfl rfl ?_
    refine GoQ.stable rfl (oblk (i := 7) 8 hO rfl rfl Try.underlying121 rfl rfl) rfl rfl ?_
    refine GoQ.pure rfl (op_move rfl) rfl rfl ?_
    refine GoQ.pure rfl (op_move rfl) rfl rfl ?_
    refine GoQ.pure rfl (op_nilCheck rfl) rfl rfl ?_
    refine GoQ.pure rfl (op_fieldAddr Try.underlying156 rfl ti30 rfl (by decide)) rfl rfl ?_
    refine GoQ.stable rfl (oblk (i := 10) 8 hO rfl rfl Try.underlying30 rfl rfl) rfl rfl ?_
    refine GoQ.pure rfl (op_move rfl) rfl rfl ?_
    obtain ⟨xD, H⟩ := H
    obtain ⟨xE, H⟩ := H
    have Z8 := (iW.ch.trans rO.ch).trans rP.ch
    replace co := co.ch Z8
    refine GoQ.pure rfl (op_index Try.underlying30 ti9 rfl rfl xD (ltn (co.neq hO 2 rfl) xE) (co.psome hO 2 rfl xD xE)) rfl rfl ?_
    refine GoQ.stable rfl (oldStr 2 hO rfl co xD xE Try.underlying9 rfl rfl) rfl rfl ?_
    have hle179 := Els.str_le co xD xE
    refine GoQ.pure rfl (op_build Try.underlying185 ti185 (pl := [(0, 1), (1, 1)]) (vs := [(0, .string (gstr (chr (IntKind.i32.wrap ((97 : Int) + (k2_110 : Int)))))), (1, .string (gstr (ix d_123 (mgt m2_153 r167))))]) (cs := #[.string (gstr (chr (IntKind.i32.wrap ((97 : Int) + (k2_110 : Int))))), .string (gstr (ix d_123 (mgt m2_153 r167)))]) (by kernel_rfl) rfl (by kernel_rfl)) rfl rfl ?_
    have hobt := obuildN (r := rpRule) (n := 1) (parts := [(0, .agg #[.string (gstr (chr (IntKind.i32.wrap ((97 : Int) + (k2_110 : Int))))), .string (gstr (ix d_123 (mgt m2_153 r167)))])]) (vs := [.string (gstr (chr (IntKind.i32.wrap ((97 : Int) + (k2_110 : Int))))), .string (gstr (ix d_123 (mgt m2_153 r167)))]) (xs := [(⟨(chr (IntKind.i32.wrap ((97 : Int) + (k2_110 : Int)))), ix d_123 (mgt m2_153 r167)⟩ : Rule)]) Try.underlying121 ti185 hO (by decide) (by decide) (by kernel_rfl) (Els.flat1 (⟨(chr (IntKind.i32.wrap ((97 : Int) + (k2_110 : Int)))), ix d_123 (mgt m2_153 r167)⟩ : Rule) ⟨(chr_le _), hle179⟩) rfl
    obtain ⟨UH, UI, rQ, MA, MB, IC⟩ := hobt
    refine GoQ.loud rfl (IC rfl) MB rfl rfl ?_
    replace hO := rQ.own
    have hobt := freeze 0 hO rfl MA
    obtain ⟨hO1, uf, rs, MC⟩ := hobt
    dsimp only [eS, eZ] at hO1 uf rs
    replace hB := ((((hB.trans iW.fr).trans rO.fr).trans rP.fr).trans rQ.fr).trans (Owns.dropFr _ _ 0)
    dsimp only [eS, eZ] at hB
    replace hO := hO1; clear hO1
    obtain ⟨xN, H⟩ := H
    replace cf := ((cf.ch Z8).ch rQ.ch).ch uf
    have hobt := oapp Try.underlying121 ti185 rfl 3 hO rfl cf rs MC xN (by decide)
    obtain ⟨UJ, D0, D1, MD, qe, sN, BQ⟩ := hobt
    dsimp only [sS, sZ] at qe sN
    refine GoQ.last rfl (BQ (by exact rfl) (by exact rfl)) rfl rfl ?_
    replace hO := qe.own
    refine GoQ.pure rfl (op_nilCheck rfl) rfl rfl ?_
    refine GoQ.pure rfl (op_fieldAddr Try.underlying156 rfl ti123 rfl (by decide)) rfl rfl ?_
    refine GoQ.pure rfl (op_fieldAddr Try.underlying123 rfl ti121 rfl (by decide)) rfl rfl ?_
    have hobt := oblkSt2 (v := .slice D0 (gY + 1) D1) (i := 7) (cs' := #[.int .i64 ((ix a0 (0 : Int)).length : Int), .bool false, .slice p35 n37 c36, .slice kd g7 ke, .slice jO g6 jP, .slice jv g5 jw, .slice none 0 0, .slice D0 (gY + 1) D1, .int .i64 (0 : Int), .map (some B4), .slice jc gX jd, .slice iE gW iO, .slice ja gQ jb]) 8 hO rfl rfl rfl rfl
    obtain ⟨UK, oA, ID⟩ := hobt
    dsimp only [sS, sZ] at oA
    refine GoQ.last rfl (ID Try.underlying121 rfl ti121 (by exact rfl) (by exact rfl)) rfl rfl ?_
    replace hO := oA.own
    refine GoQ.nil ?_
    refine Go1.cut [(6, .pointer (some ⟨B10, 0, none⟩)), (9, .int .i64 (-1 : Int)), (13, .int .i64 (mgt m2_153 r167)), (85, .slice p35 n37 c36), (86, .int .i64 (d_32.length : Int)), (87, .int .i64 (k2_110 : Int))] ⟨rfl, rfl, rfl, rfl, rfl, rfl, trivial⟩ ?_
    intro σ _
    refine zr (zm rfl (zm rfl (zo (op_nilCheck rfl) (zo (op_fieldAddr Try.underlying156 rfl ti31 rfl (by decide)) (zs (oblk (i := 12) 8 hO rfl rfl Try.underlying31 rfl rfl) ?_)))))
    refine zm rfl ?_
    have hobt := obuild (r := Rp.int .i64) (n := 1) (parts := [(0, .int .i64 (mgt m2_153 r167))]) (vs := [.int .i64 (mgt m2_153 r167)]) (xs := [(mgt m2_153 r167)]) rfl Try.underlying31 ti3 hO (by decide) (by kernel_rfl) (Els.cons rfl rfl (Els.nil _ _ _) (by simp [mx])) rfl
    obtain ⟨QW, UL, qf, ME, SS, IE⟩ := hobt
    refine zg (IE rfl) ?_
    replace hO := qf.own
    have hobt := freeze 0 hO rfl ME
    obtain ⟨hO1, tF, yg, MF⟩ := hobt
    dsimp only [eS, eZ] at hO1 tF yg
    replace hB := (((hB.trans qe.fr).trans oA.fr).trans qf.fr).trans (Owns.dropFr _ _ 0)
    dsimp only [eS, eZ] at hB
    replace hO := hO1; clear hO1
    obtain ⟨Co, H⟩ := H
    have Z9 := (((((Z8.trans rQ.ch).trans uf).trans qe.ch).trans oA.ch).trans qf.ch).trans tF
    replace ca := ca.ch Z9
    have hobt := oapp Try.underlying31 ti3 rfl 0 hO rfl ca yg MF Co (by decide)
    obtain ⟨QX, FE, FF, MG, oB, Bu, IF⟩ := hobt
    dsimp only [sS, sZ] at oB Bu
    refine zg (IF (by exact rfl) (by exact rfl)) ?_
    replace hO := oB.own
    refine zo (op_nilCheck rfl) (zo (op_fieldAddr Try.underlying156 rfl ti31 rfl (by decide)) ?_)
    have hobt := oblkSt2 (v := .slice FE (gQ + 1) FF) (i := 12) (cs' := #[.int .i64 ((ix a0 (0 : Int)).length : Int), .bool false, .slice p35 n37 c36, .slice kd g7 ke, .slice jO g6 jP, .slice jv g5 jw, .slice none 0 0, .slice D0 (gY + 1) D1, .int .i64 (0 : Int), .map (some B4), .slice jc gX jd, .slice iE gW iO, .slice FE (gQ + 1) FF]) 8 hO rfl rfl rfl rfl
    obtain ⟨UM, fw, IG⟩ := hobt
    dsimp only [sS, sZ] at fw
    refine zg (IG Try.underlying31 rfl ti31 (by exact rfl) (by exact rfl)) ?_
    replace hO := fw.own
    refine zn ?_
    refine Go1.inBlock ?_
    refine zr ?_
    replace au := ((au.ch Z9).ch oB.ch).ch fw.ch
    refine zo (op_add rfl rfl (wrap_i64 (natbd AD au.bd))) (zm rfl (zn ?_))
    replace Bu := Bu.ch fw.ch
    replace hB := (hB.trans oB.fr).trans fw.fr
    have Z10 := (((oA.ch.trans qf.ch).trans tF).trans oB.ch).trans fw.ch
    replace sN := sN.ch Z10
    have Z11 := ((((((rQ.ch.trans uf).trans qe.ch).trans oA.ch).trans qf.ch).trans tF).trans oB.ch).trans fw.ch
    replace co := co.ch Z11
    have Z12 := (Z9.trans oB.ch).trans fw.ch
    replace ce := ce.ch Z12
    replace cI := cI.ch Z12
    replace di := di.ch Z12
    replace dm := dm.ch Z12
    exact hX2 _ H _ _ ⟨gQ + 1, FE, FF, MG, gW, iE, iO, pC, gX, jc, jd, mK, gY + 1, D0, D1, MD, g5, jv, jw, pE, g6, jO, jP, pF, g7, kd, ke, pG, ⟨rfl, rfl, rfl, rfl, rfl, trivial⟩, hO, Bu, ce, co, sN, cI, di, dm, au, hB⟩
   replace H := ifn xO H
   refine GoQ.stable rfl (olookF (a := r167) (MK.str Try.underlying9) 9 hO rfl Try.underlying154 ti3 rfl rfl xO) rfl rfl ?_
   refine GoQ.pure rfl (op_move rfl) rfl rfl ?_
   refine GoQ.pure rfl (op_extract rfl rfl) rfl rfl ?_
   refine GoQ.pure rfl (op_extract rfl rfl) rfl rfl ?_
   refine GoQ.pure rfl (op_assign rfl) rfl rfl ?_
   refine GoQ.pure rfl (op_assign rfl) rfl rfl ?_
   refine GoQ.nil ?_
   refine zq (zq (zr (zm rfl (zn (zf rfl rfl ?_)))))
   refine Go1.cut [(6, .pointer (some ⟨B10, 0, none⟩)), (9, .int .i64 (-1 : Int)), (10, .int .i64 (k2_110 : Int)), (11, .slice DX ((ix d_32 (k2_110 : Int)).length) DY), (12, .string (gstr (chr (IntKind.i32.wrap ((97 : Int) + (k2_110 : Int)))))), (85, .slice p35 n37 c36), (86, .int .i64 (d_32.length : Int)), (87, .int .i64 (k2_110 : Int))] ⟨rfl, rfl, rfl, rfl, rfl, rfl, rfl, rfl, trivial⟩ ?_
   intro σ _
   refine zr (zm rfl (zm rfl ?_))
   replace cQ := cQ.ch rO.ch
   refine GoR.call (op_call body86 rfl (walk_slices_Clone_int hO.lt cQ H)) rfl rfl ?_
   rintro UN UO ⟨r224, xP, uC, uD, Ss, rfl, MH, hN228, ug, H⟩
   have qg := Stp.more hO MH hN228
   dsimp only [List.cons_append, List.nil_append] at qg
   replace hO := qg.own
   refine zm rfl (zm rfl (zm rfl (zm rfl ?_)))
   refine GoR.inl (vs := [.pointer (some ⟨B10, 0, none⟩), .slice uC xP uD, .int .i64 (-1 : Int), .int .i64 (k2_110 : Int), .string (gstr (chr (IntKind.i32.wrap ((97 : Int) + (k2_110 : Int))))), .int .i64 (-1 : Int)]) (caps := []) rfl rfl body155 Try.func155 rfl Try.ntmps155 rfl rfl rfl ?_
   intro RhR232 hR232
   refine zq (zr (za rfl (zn (zq (zr ?_)))))
   refine zm rfl (zo (op_nilCheck rfl) (zo (op_fieldAddr Try.underlying156 rfl ti123 rfl (by decide)) (zo (op_fieldAddr Try.underlying123 rfl ti23 rfl (by decide)) (zs (oblk (i := 3) 9 hO rfl rfl Try.underlying23 rfl rfl) ?_))))
   have Z13 := (iW.ch.trans rO.ch).trans qg.ch
   replace dm := dm.ch Z13
   refine zo (op_lenN Try.underlying23 rfl (dm.neq hO 7 rfl)) (za rfl (zn (zq ?_)))
   refine Go1.drawS 1 [(0, .pure), (1, .pure), (2, .pure), (3, .stable), (4, .pure), (6, .pure), (5, .loud), (7, .last)] mixed (by kernel_rfl) ?_
   intro QY MJ
   have qh := Stp.same hO MJ
   replace hO := qh.own
   refine GoQ.pure rfl (op_move rfl) rfl rfl ?_
   refine GoQ.pure rfl (op_nilCheck rfl) rfl rfl ?_
   refine GoQ.pure rfl (op_fieldAddr Try.underlying156 rfl ti154 rfl (by decide)) rfl rfl ?_
   refine GoQ.stable rfl (oblk (i := 9) 9 hO rfl rfl Try.underlying154 rfl rfl) rfl rfl ?_
   refine GoQ.pure rfl (op_move rfl) rfl rfl ?_
   refine GoQ.pure rfl (op_move rfl) rfl rfl ?_
   replace ug := ug.ch (Ch.assoc _ _ _ _)
   replace ug := ug.ch qh.ch
   have hobt := rowlend 0 hO rfl ug
   obtain ⟨ML, MM⟩ := hobt
   have hOc238 := hO.drop 0
   refine GoQ.call rfl (op_call body157 (show ([.slice uC xP uD] : List Value) = [.slice uC r224.length uD] from by rw [← MM]) (walk_enumerate_text hOc238.lt ML H)) (fun v w hr => by obtain ⟨_, _, hs, _, _⟩ := hr; assumption) rfl rfl ?_
   rintro UP Q0 ⟨r239, rfl, D2, St, H⟩
   have qi := Stp.same hO D2
   replace hO := qi.own
   have hobt := omapUpd (MK.str Try.underlying9) 10 hO rfl Try.underlying154 r239 (d_147.length : Int)
   obtain ⟨Q1, fX, Cp⟩ := hobt
   dsimp only [sS, sZ] at fX
   refine GoQ.last rfl (Cp (by exact rfl) (by exact rfl) (by exact rfl)) rfl rfl ?_
   replace hO := fX.own
   refine GoQ.nil ?_
   refine zq ?_
   refine Go1.cut [(0, .pointer (some ⟨B10, 0, none⟩)), (1, .slice uC xP uD), (2, .int .i64 (-1 : Int)), (3, .int .i64 (k2_110 : Int)), (4, .string (gstr (chr (IntKind.i32.wrap ((97 : Int) + (k2_110 : Int)))))), (5, .int .i64 (-1 : Int)), (13, .int .i64 (d_147.length : Int))] ⟨rfl, rfl, rfl, rfl, rfl, rfl, rfl, trivial⟩ ?_
   intro σ _
   refine zr (zm rfl (zm rfl (zo (op_nilCheck rfl) (zo (op_fieldAddr Try.underlying156 rfl ti123 rfl (by decide)) (zo (op_fieldAddr Try.underlying123 rfl ti23 rfl (by decide)) ?_)))))
   refine zs (oblk (i := 3) 9 hO rfl rfl Try.underlying23 rfl rfl) (zm rfl ?_)
   replace ug := (ug.ch qi.ch).ch fX.ch
   have hobt := freeze 0 hO rfl ug
   obtain ⟨hO1, uh, dU, MO⟩ := hobt
   dsimp only [eS, eZ] at hO1 uh dU
   replace hB := ((((((hB.trans iW.fr).trans rO.fr).trans qg.fr).trans qh.fr).trans qi.fr).trans fX.fr).trans (Owns.dropFr _ _ 0)
   dsimp only [eS, eZ] at hB
   replace hO := hO1; clear hO1
   have hobt := obuild (r := Rp.sl (Rp.int .i64)) (n := 1) (parts := [(0, .slice uC xP uD)]) (vs := [.slice uC xP uD]) (xs := [r224]) rfl Try.underlying23 ti31 hO (by decide) (by kernel_rfl) (Els.cons rfl ⟨uC, uD, congrArg some (congrArg (fun nn => Value.slice uC nn uD) MO), dU⟩ (Els.nil _ _ _) (by simp [mx])) rfl
   obtain ⟨UQ, UR, qj, MP, ST, IH⟩ := hobt
   refine zg (IH rfl) ?_
   replace hO := qj.own
   have hobt := freeze 0 hO rfl MP
   obtain ⟨hO1, tG, d8, MQ⟩ := hobt
   dsimp only [eS, eZ] at hO1 tG d8
   replace hB := (hB.trans qj.fr).trans (Owns.dropFr _ _ 0)
   dsimp only [eS, eZ] at hB
   replace hO := hO1; clear hO1
   obtain ⟨Q2, H⟩ := H
   have Z14 := ((((qh.ch.trans qi.ch).trans fX.ch).trans uh).trans qj.ch).trans tG
   replace dm := dm.ch Z14
   have hobt := oapp Try.underlying23 ti31 rfl 6 hO rfl dm d8 MQ Q2 (by decide)
   obtain ⟨US, xQ, xR, MR, oC, eo, II⟩ := hobt
   dsimp only [sS, sZ] at oC eo
   refine zg (II (by exact rfl) (by exact rfl)) ?_
   replace hO := oC.own
   refine zo (op_nilCheck rfl) (zo (op_fieldAddr Try.underlying156 rfl ti123 rfl (by decide)) (zo (op_fieldAddr Try.underlying123 rfl ti23 rfl (by decide)) ?_))
   have hobt := oblkSt2 (v := .slice xQ (g7 + 1) xR) (i := 3) (cs' := #[.int .i64 ((ix a0 (0 : Int)).length : Int), .bool false, .slice p35 n37 c36, .slice xQ (g7 + 1) xR, .slice jO g6 jP, .slice jv g5 jw, .slice none 0 0, .slice ip gY iB, .int .i64 (0 : Int), .map (some B4), .slice jc gX jd, .slice iE gW iO, .slice ja gQ jb]) 8 hO rfl rfl rfl rfl
   obtain ⟨UT, mS, IJ⟩ := hobt
   dsimp only [sS, sZ] at mS
   refine zg (IJ Try.underlying23 rfl ti23 (by exact rfl) (by exact rfl)) ?_
   replace hO := mS.own
   refine zn (zq (zr (zm rfl (zm rfl (zo (op_nilCheck rfl) ?_)))))
   refine zo (op_fieldAddr Try.underlying156 rfl ti123 rfl (by decide)) (zo (op_fieldAddr Try.underlying123 rfl ti31 rfl (by decide)) (zs (oblk (i := 4) 8 hO rfl rfl Try.underlying31 rfl rfl) (zm rfl ?_)))
   have hobt := obuild (r := Rp.int .i64) (n := 1) (parts := [(0, .int .i64 (-1 : Int))]) (vs := [.int .i64 (-1 : Int)]) (xs := [(-1 : Int)]) rfl Try.underlying31 ti3 hO (by decide) (by kernel_rfl) (Els.cons rfl rfl (Els.nil _ _ _) (by simp [mx])) rfl
   obtain ⟨UU, UV, oD, MS, SU, IK⟩ := hobt
   refine zg (IK rfl) ?_
   replace hO := oD.own
   have hobt := freeze 0 hO rfl MS
   obtain ⟨hO1, iD, fk, MT⟩ := hobt
   dsimp only [eS, eZ] at hO1 iD fk
   replace hB := (((hB.trans oC.fr).trans mS.fr).trans oD.fr).trans (Owns.dropFr _ _ 0)
   dsimp only [eS, eZ] at hB
   replace hO := hO1; clear hO1
   obtain ⟨Q3, H⟩ := H
   have Z15 := (((((((((Z13.trans qh.ch).trans qi.ch).trans fX.ch).trans uh).trans qj.ch).trans tG).trans oC.ch).trans mS.ch).trans oD.ch).trans iD
   replace di := di.ch Z15
   have hobt := oapp Try.underlying31 ti3 rfl 5 hO rfl di fk MT Q3 (by decide)
   obtain ⟨FG, y4, y5, MU, mT, fH, IL⟩ := hobt
   dsimp only [sS, sZ] at mT fH
   refine zg (IL (by exact rfl) (by exact rfl)) ?_
   replace hO := mT.own
   refine zo (op_nilCheck rfl) (zo (op_fieldAddr Try.underlying156 rfl ti123 rfl (by decide)) (zo (op_fieldAddr Try.underlying123 rfl ti31 rfl (by decide)) ?_))
   have hobt := oblkSt2 (v := .slice y4 (g6 + 1) y5) (i := 4) (cs' := #[.int .i64 ((ix a0 (0 : Int)).length : Int), .bool false, .slice p35 n37 c36, .slice xQ (g7 + 1) xR, .slice y4 (g6 + 1) y5, .slice jv g5 jw, .slice none 0 0, .slice ip gY iB, .int .i64 (0 : Int), .map (some B4), .slice jc gX jd, .slice iE gW iO, .slice ja gQ jb]) 8 hO rfl rfl rfl rfl
   obtain ⟨Qi, gM, BV⟩ := hobt
   dsimp only [sS, sZ] at gM
   refine zg (BV Try.underlying31 rfl ti31 (by exact rfl) (by exact rfl)) ?_
   replace hO := gM.own
   refine zn (zq ?_)
   refine Go1.cut [(0, .pointer (some ⟨B10, 0, none⟩)), (3, .int .i64 (k2_110 : Int)), (4, .string (gstr (chr (IntKind.i32.wrap ((97 : Int) + (k2_110 : Int)))))), (5, .int .i64 (-1 : Int)), (13, .int .i64 (d_147.length : Int))] ⟨rfl, rfl, rfl, rfl, rfl, trivial⟩ ?_
   intro σ _
   refine zr (zm rfl (zm rfl (zo (op_nilCheck rfl) (zo (op_fieldAddr Try.underlying156 rfl ti123 rfl (by decide)) (zo (op_fieldAddr Try.underlying123 rfl ti31 rfl (by decide)) ?_)))))
   refine zs (oblk (i := 5) 8 hO rfl rfl Try.underlying31 rfl rfl) (zm rfl ?_)
   have hobt := obuild (r := Rp.int .i64) (n := 1) (parts := [(0, .int .i64 (k2_110 : Int))]) (vs := [.int .i64 (k2_110 : Int)]) (xs := [(k2_110 : Int)]) rfl Try.underlying31 ti3 hO (by decide) (by kernel_rfl) (Els.cons rfl rfl (Els.nil _ _ _) (by simp [mx])) rfl
   obtain ⟨Qj, UW, ir, D3, SV, IM⟩ := hobt
   refine zg (IM rfl) ?_
   replace hO := ir.own
   have hobt := freeze 0 hO rfl D3
   obtain ⟨hO1, se, gJ, MV⟩ := hobt
   dsimp only [eS, eZ] at hO1 se gJ
   replace hB := (((hB.trans mT.fr).trans gM.fr).trans ir.fr).trans (Owns.dropFr _ _ 0)
   dsimp only [eS, eZ] at hB
   replace hO := hO1; clear hO1
   obtain ⟨Q4, H⟩ := H
   have Z16 := (((Z15.trans mT.ch).trans gM.ch).trans ir.ch).trans se
   replace cI := cI.ch Z16
   have hobt := oapp Try.underlying31 ti3 rfl 4 hO rfl cI gJ MV Q4 (by decide)
   obtain ⟨UX, AE, AF, MW, l8, gT, IN⟩ := hobt
   dsimp only [sS, sZ] at l8 gT
   refine zg (IN (by exact rfl) (by exact rfl)) ?_
   replace hO := l8.own
   refine zo (op_nilCheck rfl) (zo (op_fieldAddr Try.underlying156 rfl ti123 rfl (by decide)) (zo (op_fieldAddr Try.underlying123 rfl ti31 rfl (by decide)) ?_))
   have hobt := oblkSt2 (v := .slice AE (g5 + 1) AF) (i := 5) (cs' := #[.int .i64 ((ix a0 (0 : Int)).length : Int), .bool false, .slice p35 n37 c36, .slice xQ (g7 + 1) xR, .slice y4 (g6 + 1) y5, .slice AE (g5 + 1) AF, .slice none 0 0, .slice ip gY iB, .int .i64 (0 : Int), .map (some B4), .slice jc gX jd, .slice iE gW iO, .slice ja gQ jb]) 8 hO rfl rfl rfl rfl
   obtain ⟨Ql, li, IQ⟩ := hobt
   dsimp only [sS, sZ] at li
   refine zg (IQ Try.underlying31 rfl ti31 (by exact rfl) (by exact rfl)) ?_
   replace hO := li.own
   refine zn (zq (zr (zm rfl (zm rfl (zo (op_nilCheck rfl) ?_)))))
   refine zo (op_fieldAddr Try.underlying156 rfl ti30 rfl (by decide)) (zs (oblk (i := 10) 8 hO rfl rfl Try.underlying30 rfl rfl) (zm rfl ?_))
   have hobt := obuild (r := Rp.str) (n := 1) (parts := [(0, .string (gstr (chr (IntKind.i32.wrap ((97 : Int) + (k2_110 : Int))))))]) (vs := [.string (gstr (chr (IntKind.i32.wrap ((97 : Int) + (k2_110 : Int)))))]) (xs := [chr (IntKind.i32.wrap ((97 : Int) + (k2_110 : Int)))]) rfl Try.underlying30 ti9 hO (by decide) (by kernel_rfl) (Els.cons rfl ⟨rfl, (chr_le _)⟩ (Els.nil _ _ _) (by simp [mx])) rfl
   obtain ⟨UY, U0, l9, MX, SW, IR⟩ := hobt
   refine zg (IR rfl) ?_
   replace hO := l9.own
   have hobt := freeze 0 hO rfl MX
   obtain ⟨hO1, ru, jS, MY⟩ := hobt
   dsimp only [eS, eZ] at hO1 ru jS
   replace hB := (((hB.trans l8.fr).trans li.fr).trans l9.fr).trans (Owns.dropFr _ _ 0)
   dsimp only [eS, eZ] at hB
   replace hO := hO1; clear hO1
   obtain ⟨Fa, H⟩ := H
   have Z17 := (((Z16.trans l8.ch).trans li.ch).trans l9.ch).trans ru
   replace co := co.ch Z17
   have hobt := oapp Try.underlying30 ti9 rfl 2 hO rfl co jS MY Fa (by decide)
   obtain ⟨Ic, Cq, Cr, t9, eA, kX, IS⟩ := hobt
   dsimp only [sS, sZ] at eA kX
   refine zg (IS (by exact rfl) (by exact rfl)) ?_
   replace hO := eA.own
   refine zo (op_nilCheck rfl) (zo (op_fieldAddr Try.underlying156 rfl ti30 rfl (by decide)) ?_)
   have hobt := oblkSt2 (v := .slice Cq (gX + 1) Cr) (i := 10) (cs' := #[.int .i64 ((ix a0 (0 : Int)).length : Int), .bool false, .slice p35 n37 c36, .slice xQ (g7 + 1) xR, .slice y4 (g6 + 1) y5, .slice AE (g5 + 1) AF, .slice none 0 0, .slice ip gY iB, .int .i64 (0 : Int), .map (some B4), .slice Cq (gX + 1) Cr, .slice iE gW iO, .slice ja gQ jb]) 8 hO rfl rfl rfl rfl
   obtain ⟨U1, kw, IT⟩ := hobt
   dsimp only [sS, sZ] at kw
   refine zg (IT Try.underlying30 rfl ti30 (by exact rfl) (by exact rfl)) ?_
   replace hO := kw.own
   refine zn (zq ?_)
   refine Go1.cut [(0, .pointer (some ⟨B10, 0, none⟩)), (5, .int .i64 (-1 : Int)), (13, .int .i64 (d_147.length : Int))] ⟨rfl, rfl, rfl, trivial⟩ ?_
   intro σ _
   refine zr (zm rfl (zm rfl (zo (op_nilCheck rfl) (zo (op_fieldAddr Try.underlying156 rfl ti31 rfl (by decide)) (zs (oblk (i := 11) 8 hO rfl rfl Try.underlying31 rfl rfl) ?_)))))
   refine zm rfl ?_
   have hobt := obuild (r := Rp.int .i64) (n := 1) (parts := [(0, .int .i64 (-1 : Int))]) (vs := [.int .i64 (-1 : Int)]) (xs := [(-1 : Int)]) rfl Try.underlying31 ti3 hO (by decide) (by kernel_rfl) (Els.cons rfl rfl (Els.nil _ _ _) (by simp [mx])) rfl
   obtain ⟨U2, U3, lj, sO, SX, IU⟩ := hobt
   refine zg (IU rfl) ?_
   replace hO := lj.own
   have hobt := freeze 0 hO rfl sO
   obtain ⟨hO1, kU, ko, DE⟩ := hobt
   dsimp only [eS, eZ] at hO1 kU ko
   replace hB := (((hB.trans eA.fr).trans kw.fr).trans lj.fr).trans (Owns.dropFr _ _ 0)
   dsimp only [eS, eZ] at hB
   replace hO := hO1; clear hO1
   obtain ⟨Q5, H⟩ := H
   have Z18 := (((Z17.trans eA.ch).trans kw.ch).trans lj.ch).trans kU
   replace ce := ce.ch Z18
   have hobt := oapp Try.underlying31 ti3 rfl 1 hO rfl ce ko DE Q5 (by decide)
   obtain ⟨U4, D4, D5, M0, kx, sP, IV⟩ := hobt
   dsimp only [sS, sZ] at kx sP
   refine zg (IV (by exact rfl) (by exact rfl)) ?_
   replace hO := kx.own
   refine zo (op_nilCheck rfl) (zo (op_fieldAddr Try.underlying156 rfl ti31 rfl (by decide)) ?_)
   have hobt := oblkSt2 (v := .slice D4 (gW + 1) D5) (i := 11) (cs' := #[.int .i64 ((ix a0 (0 : Int)).length : Int), .bool false, .slice p35 n37 c36, .slice xQ (g7 + 1) xR, .slice y4 (g6 + 1) y5, .slice AE (g5 + 1) AF, .slice none 0 0, .slice ip gY iB, .int .i64 (0 : Int), .map (some B4), .slice Cq (gX + 1) Cr, .slice D4 (gW + 1) D5, .slice ja gQ jb]) 8 hO rfl rfl rfl rfl
   obtain ⟨Ie, jX, IW⟩ := hobt
   dsimp only [sS, sZ] at jX
   refine zg (IW Try.underlying31 rfl ti31 (by exact rfl) (by exact rfl)) ?_
   replace hO := jX.own
   refine zn (zq (zr (zm rfl (za rfl (zn ?_)))))
   refine Go1.ret1V Try.func155 rfl (show _ = .int .i64 (d_147.length : Int) from rfl) ?_
   refine hR232 _ _ ?_
   refine za rfl (zn (zr (zm rfl (zm rfl (zo (op_nilCheck rfl) ?_)))))
   refine zo (op_fieldAddr Try.underlying156 rfl ti31 rfl (by decide)) (zs (oblk (i := 12) 8 hO rfl rfl Try.underlying31 rfl rfl) (zm rfl ?_))
   have hobt := obuild (r := Rp.int .i64) (n := 1) (parts := [(0, .int .i64 (d_147.length : Int))]) (vs := [.int .i64 (d_147.length : Int)]) (xs := [(d_147.length : Int)]) rfl Try.underlying31 ti3 hO (by decide) (by kernel_rfl) (Els.cons rfl rfl (Els.nil _ _ _) (by simp [mx])) rfl
   obtain ⟨U5, U6, kz, M1, SY, B1⟩ := hobt
   refine zg (B1 rfl) ?_
   replace hO := kz.own
   have hobt := freeze 0 hO rfl M1
   obtain ⟨hO1, od, yh, M2⟩ := hobt
   dsimp only [eS, eZ] at hO1 od yh
   replace hB := (((hB.trans kx.fr).trans jX.fr).trans kz.fr).trans (Owns.dropFr _ _ 0)
   dsimp only [eS, eZ] at hB
   replace hO := hO1; clear hO1
   obtain ⟨Q6, H⟩ := H
   have Z19 := (((Z18.trans kx.ch).trans jX.ch).trans kz.ch).trans od
   replace ca := ca.ch Z19
   have hobt := oapp Try.underlying31 ti3 rfl 0 hO rfl ca yh M2 Q6 (by decide)
   obtain ⟨U7, FH, FI, M3, jY, Bv, IX⟩ := hobt
   dsimp only [sS, sZ] at jY Bv
   refine zg (IX (by exact rfl) (by exact rfl)) ?_
   replace hO := jY.own
   refine zo (op_nilCheck rfl) (zo (op_fieldAddr Try.underlying156 rfl ti31 rfl (by decide)) ?_)
   have hobt := oblkSt2 (v := .slice FH (gQ + 1) FI) (i := 12) (cs' := #[.int .i64 ((ix a0 (0 : Int)).length : Int), .bool false, .slice p35 n37 c36, .slice xQ (g7 + 1) xR, .slice y4 (g6 + 1) y5, .slice AE (g5 + 1) AF, .slice none 0 0, .slice ip gY iB, .int .i64 (0 : Int), .map (some B4), .slice Cq (gX + 1) Cr, .slice D4 (gW + 1) D5, .slice FH (gQ + 1) FI]) 8 hO rfl rfl rfl rfl
   obtain ⟨U8, jx, IY⟩ := hobt
   dsimp only [sS, sZ] at jx
   refine zg (IY Try.underlying31 rfl ti31 (by exact rfl) (by exact rfl)) ?_
   replace hO := jx.own
   refine zn ?_
   refine Go1.inBlock ?_
   refine Go1.cut [(6, .pointer (some ⟨B10, 0, none⟩)), (9, .int .i64 (-1 : Int)), (85, .slice p35 n37 c36), (86, .int .i64 (d_32.length : Int)), (87, .int .i64 (k2_110 : Int))] ⟨rfl, rfl, rfl, rfl, rfl, trivial⟩ ?_
   intro σ _
   refine zr ?_
   replace au := ((au.ch Z19).ch jY.ch).ch jx.ch
   refine zo (op_add rfl rfl (wrap_i64 (natbd AD au.bd))) (zm rfl (zn ?_))
   replace Bv := Bv.ch jx.ch
   replace hB := (hB.trans jY.fr).trans jx.fr
   have Z20 := (((jX.ch.trans kz.ch).trans od).trans jY.ch).trans jx.ch
   replace sP := sP.ch Z20
   have Z21 := (((((((kw.ch.trans lj.ch).trans kU).trans kx.ch).trans jX.ch).trans kz.ch).trans od).trans jY.ch).trans jx.ch
   replace kX := kX.ch Z21
   have Z22 := (((((((((((li.ch.trans l9.ch).trans ru).trans eA.ch).trans kw.ch).trans lj.ch).trans kU).trans kx.ch).trans jX.ch).trans kz.ch).trans od).trans jY.ch).trans jx.ch
   replace gT := gT.ch Z22
   have Z23 := (((((((((((((((gM.ch.trans ir.ch).trans se).trans l8.ch).trans li.ch).trans l9.ch).trans ru).trans eA.ch).trans kw.ch).trans lj.ch).trans kU).trans kx.ch).trans jX.ch).trans kz.ch).trans od).trans jY.ch).trans jx.ch
   replace fH := fH.ch Z23
   have Z24 := (((((((((((((((((((mS.ch.trans oD.ch).trans iD).trans mT.ch).trans gM.ch).trans ir.ch).trans se).trans l8.ch).trans li.ch).trans l9.ch).trans ru).trans eA.ch).trans kw.ch).trans lj.ch).trans kU).trans kx.ch).trans jX.ch).trans kz.ch).trans od).trans jY.ch).trans jx.ch
   replace eo := eo.ch Z24
   replace cf := ((cf.ch Z19).ch jY.ch).ch jx.ch
   exact hX2 _ H _ _ ⟨gQ + 1, FH, FI, M3, gW + 1, D4, D5, M0, gX + 1, Cq, Cr, t9, gY, ip, iB, pD, g5 + 1, AE, AF, MW, g6 + 1, y4, y5, MU, g7 + 1, xQ, xR, MR, ⟨rfl, rfl, rfl, rfl, rfl, trivial⟩, hO, Bv, sP, kX, cf, gT, fH, eo, au, hB⟩
  replace H := ifn AD H
  refine zo (fun w => opB (op_lss rfl rfl w) (decide_eq_false AD)) (zn (zq (zf rfl rfl ?_)))
  refine Go1.exit rfl ?_
  refine zq (zr (zm rfl (za rfl (za rfl (zn ?_)))))
  have sG := Stp.nil (e := 31) (r := 1) hO
  replace hO := sG.own
  have cv := Els.nil (Rp.sl (Rp.int .i64)) (bl (.row 31 1 none 0 0 [] :: [.row 3 1 ja gQ jb n9, .row 3 1 iE gW iO pC, .row 9 1 jc gX jd mK, .row 185 2 ip gY iB pD, .row 3 1 jv g5 jw pE, .row 3 1 jO g6 jP pF, .row 31 1 kd g7 ke pG, .row 31 1 p35 n37 c36 fB, .blk B10 (.cells #[.int .i64 ((ix a0 (0 : Int)).length : Int), .bool false, .slice p35 n37 c36, .slice kd g7 ke, .slice jO g6 jP, .slice jv g5 jw, .slice none 0 0, .slice ip gY iB, .int .i64 (0 : Int), .map (some B4), .slice jc gX jd, .slice iE gW iO, .slice ja gQ jb] 156 (0, 0)), .any (mapE (fun a : List UInt8 => Value.string (gstr a)) (fun a : Int => Value.int .i64 a) B4 m2_153)]) ++ A) QT
  have fJ := Stp.front 10 hO rfl
  dsimp only [eS, eZ] at fJ
  replace hO := fJ.own
  have jr := Stp.front 2 hO rfl
  dsimp only [eS, eZ] at jr
  replace hO := jr.own
  have fF := Stp.front 3 hO rfl
  dsimp only [eS, eZ] at fF
  replace hO := fF.own
  have qk := Stp.front 4 hO rfl
  dsimp only [eS, eZ] at qk
  replace hO := qk.own
  have ql := Stp.front 5 hO rfl
  dsimp only [eS, eZ] at ql
  replace hO := ql.own
  have qm := Stp.front 5 hO rfl
  dsimp only [eS, eZ] at qm
  replace hO := qm.own
  have fK := Stp.front 6 hO rfl
  dsimp only [eS, eZ] at fK
  replace hO := fK.own
  have qn := Stp.front 7 hO rfl
  dsimp only [eS, eZ] at qn
  replace hO := qn.own
  have qo := Stp.front 8 hO rfl
  dsimp only [eS, eZ] at qo
  replace hO := qo.own
  have qq := Stp.front 9 hO rfl
  dsimp only [eS, eZ] at qq
  replace hO := qq.own
  have qr := Stp.front 10 hO rfl
  dsimp only [eS, eZ] at qr
  replace hO := qr.own
  refine Go1.ret2 Try.func131 rfl ?_
  have Z25 := (((((((((fJ.ch.trans jr.ch).trans fF.ch).trans qk.ch).trans ql.ch).trans qm.ch).trans fK.ch).trans qn.ch).trans qo.ch).trans qq.ch).trans qr.ch
  replace cv := cv.ch Z25
  have Z26 := ((((((((((sG.ch.trans fJ.ch).trans jr.ch).trans fF.ch).trans qk.ch).trans ql.ch).trans qm.ch).trans fK.ch).trans qn.ch).trans qo.ch).trans qq.ch).trans qr.ch
  replace ca := ca.ch Z26
  replace ce := ce.ch Z26
  replace co := co.ch Z26
  replace cf := cf.ch Z26
  replace cI := cI.ch Z26
  replace di := di.ch Z26
  replace dm := dm.ch Z26
  replace au := au.ch Z26
  replace hB := (((((((((((hB.trans sG.fr).trans fJ.fr).trans jr.fr).trans fF.fr).trans qk.fr).trans ql.fr).trans qm.fr).trans fK.fr).trans qn.fr).trans qo.fr).trans qq.fr).trans qr.fr
  exact Or.inr ⟨(⟨(⟨((ix a0 (0 : Int)).length : Int), false, d_32, d_147, d_141, d_135, ([] : List (List Int)), d_129, (0 : Int)⟩ : Enum), m2_153, d_123, d_117, d_111⟩ : run), ((0 : Int)), B10, n37, p35, c36, fB, g7, kd, ke, pG, g6, jO, jP, pF, g5, jv, jw, pE, 0, none, 0, ([]), gY, ip, iB, pD, B4, gX, jc, jd, mK, gW, iE, iO, pC, gQ, ja, jb, n9, rfl, hB.same, hO, au, dm, di, cI, cv, cf, co, ce, ca, H⟩
 replace H := ifp rfl H
 refine zt rfl rfl (zr (zm rfl (zm rfl (zo (op_nilCheck rfl) (zo (op_fieldAddr Try.underlying156 rfl ti123 rfl (by decide)) ?_)))))
 refine zo (op_fieldAddr Try.underlying123 rfl ti3 rfl (by decide)) (zs (oblk (i := 0) 1 hO rfl rfl Try.underlying3 rfl rfl) ?_)
 refine GoR.call (op_call body156 rfl (walk_trans_Identity hO.lt H)) rfl rfl ?_
 rintro U9 Va ⟨r397, xS, xT, rfl, M4, db, H⟩
 have zT := Stp.same hO M4
 replace hO := zT.own
 refine GoR.inl (vs := [.pointer (some ⟨B10, 0, none⟩), .slice xS r397.length xT, .int .i64 (-1 : Int), .int .i64 (-1 : Int), .string (gstr (([] : Str))), .int .i64 (-1 : Int)]) (caps := []) rfl rfl body155 Try.func155 rfl Try.ntmps155 rfl rfl rfl ?_
 intro RhR403 hR403
 refine zq (zr (za rfl (zn (zq (zr ?_)))))
 refine zm rfl (zo (op_nilCheck rfl) (zo (op_fieldAddr Try.underlying156 rfl ti123 rfl (by decide)) (zo (op_fieldAddr Try.underlying123 rfl ti23 rfl (by decide)) (zs (oblk (i := 3) 1 hO rfl rfl Try.underlying23 rfl rfl) (zo (op_len Try.underlying23 rfl) ?_)))))
 refine za rfl (zn (zq ?_))
 refine Go1.cut [(0, .pointer (some ⟨B10, 0, none⟩)), (1, .slice xS r397.length xT), (2, .int .i64 (-1 : Int)), (3, .int .i64 (-1 : Int)), (4, .string (gstr (([] : Str)))), (5, .int .i64 (-1 : Int)), (13, .int .i64 (0 : Int))] ⟨rfl, rfl, rfl, rfl, rfl, rfl, rfl, trivial⟩ ?_
 intro σ _
 refine Go1.drawS 1 [(0, .pure), (1, .pure), (2, .pure), (3, .stable), (4, .pure), (6, .pure), (5, .loud), (7, .last)] mixed (by kernel_rfl) ?_
 intro Vb M5
 have xU := Stp.same hO M5
 replace hO := xU.own
 refine GoQ.pure rfl (op_move rfl) rfl rfl ?_
 refine GoQ.pure rfl (op_nilCheck rfl) rfl rfl ?_
 refine GoQ.pure rfl (op_fieldAddr Try.underlying156 rfl ti154 rfl (by decide)) rfl rfl ?_
 refine GoQ.stable rfl (oblk (i := 9) 1 hO rfl rfl Try.underlying154 rfl rfl) rfl rfl ?_
 refine GoQ.pure rfl (op_move rfl) rfl rfl ?_
 refine GoQ.pure rfl (op_move rfl) rfl rfl ?_
 replace db := db.ch xU.ch
 refine GoQ.call rfl (op_call body157 rfl (walk_enumerate_text hO.lt db H)) (fun v w hr => by obtain ⟨_, _, hs, _, _⟩ := hr; assumption) rfl rfl ?_
 rintro Vc Q7 ⟨r407, rfl, D6, Su, H⟩
 have xV := Stp.same hO D6
 replace hO := xV.own
 have hobt := omapUpd (MK.str Try.underlying9) 2 hO rfl Try.underlying154 r407 (0 : Int)
 obtain ⟨Vd, eg, I0⟩ := hobt
 refine GoQ.last rfl (I0 (by exact rfl) (by exact rfl) (by exact rfl)) rfl rfl ?_
 replace hO := eg.own
 refine GoQ.nil ?_
 refine zq (zr (zm rfl (zm rfl (zo (op_nilCheck rfl) (zo (op_fieldAddr Try.underlying156 rfl ti123 rfl (by decide)) ?_)))))
 refine zo (op_fieldAddr Try.underlying123 rfl ti23 rfl (by decide)) (zs (oblk (i := 3) 1 hO rfl rfl Try.underlying23 rfl rfl) (zm rfl ?_))
 replace db := (db.ch xV.ch).ch eg.ch
 have hobt := obuild (r := Rp.sl (Rp.int .i64)) (n := 1) (parts := [(0, .slice xS r397.length xT)]) (vs := [.slice xS r397.length xT]) (xs := [r397]) rfl Try.underlying23 ti31 hO (by decide) (by kernel_rfl) (Els.cons rfl ⟨xS, xT, rfl, db⟩ (Els.nil _ _ _) (by simp [mx])) rfl
 obtain ⟨Q8, Ve, xW, M6, S0, I1⟩ := hobt
 refine zg (I1 rfl) ?_
 replace hO := xW.own
 have hobt := freeze 0 hO rfl M6
 obtain ⟨hO1, D7, dR, M7⟩ := hobt
 replace hO := hO1; clear hO1
 have gH := Stp.nil (e := 31) (r := 1) hO
 replace hO := gH.own
 have gk := Els.nil (Rp.sl (Rp.int .i64)) (bl (.row 31 1 none 0 0 [] :: [.row 31 1 p35 n37 c36 fB, .blk B10 (.cells #[.int .i64 ((ix a0 (0 : Int)).length : Int), .bool true, .slice p35 n37 c36, .slice none 0 0, .slice none 0 0, .slice none 0 0, .slice none 0 0, .slice none 0 0, .int .i64 (0 : Int), .map (some B4), .slice none 0 0, .slice none 0 0, .slice none 0 0] 156 (0, 0)), .any (mapE (fun a : List UInt8 => Value.string (gstr a)) (fun a : Int => Value.int .i64 a) B4 (mput (([] : List (Str × Int))) r407 ((0 : Int))))]) ++ A) Q8
 obtain ⟨y6, H⟩ := H
 replace dR := dR.ch gH.ch
 have hobt := oapp Try.underlying23 ti31 rfl 0 hO rfl gk dR M7 y6 (by decide)
 obtain ⟨Vf, pI, pK, xt, wN, d4, I2⟩ := hobt
 refine zg (I2 (by exact rfl) (by exact rfl)) ?_
 replace hO := wN.own
 refine zo (op_nilCheck rfl) (zo (op_fieldAddr Try.underlying156 rfl ti123 rfl (by decide)) (zo (op_fieldAddr Try.underlying123 rfl ti23 rfl (by decide)) ?_))
 have hobt := oblkSt2 (v := .slice pI (0 + 1) pK) (i := 3) (cs' := #[.int .i64 ((ix a0 (0 : Int)).length : Int), .bool true, .slice p35 n37 c36, .slice pI (0 + 1) pK, .slice none 0 0, .slice none 0 0, .slice none 0 0, .slice none 0 0, .int .i64 (0 : Int), .map (some B4), .slice none 0 0, .slice none 0 0, .slice none 0 0]) 2 hO rfl rfl rfl rfl
 obtain ⟨Vg, vJ, I3⟩ := hobt
 refine zg (I3 Try.underlying23 rfl ti23 (by exact rfl) (by exact rfl)) ?_
 replace hO := vJ.own
 refine zn (zq ?_)
 refine Go1.cut [(0, .pointer (some ⟨B10, 0, none⟩)), (2, .int .i64 (-1 : Int)), (3, .int .i64 (-1 : Int)), (4, .string (gstr (([] : Str)))), (5, .int .i64 (-1 : Int)), (13, .int .i64 (0 : Int))] ⟨rfl, rfl, rfl, rfl, rfl, rfl, trivial⟩ ?_
 intro σ _
 refine zr (zm rfl (zm rfl (zo (op_nilCheck rfl) (zo (op_fieldAddr Try.underlying156 rfl ti123 rfl (by decide)) (zo (op_fieldAddr Try.underlying123 rfl ti31 rfl (by decide)) ?_)))))
 refine zs (oblk (i := 4) 2 hO rfl rfl Try.underlying31 rfl rfl) (zm rfl ?_)
 have hobt := obuild (r := Rp.int .i64) (n := 1) (parts := [(0, .int .i64 (-1 : Int))]) (vs := [.int .i64 (-1 : Int)]) (xs := [(-1 : Int)]) rfl Try.underlying31 ti3 hO (by decide) (by kernel_rfl) (Els.cons rfl rfl (Els.nil _ _ _) (by simp [mx])) rfl
 obtain ⟨Q9, Vh, vK, M8, S1, I4⟩ := hobt
 refine zg (I4 rfl) ?_
 replace hO := vK.own
 have hobt := freeze 0 hO rfl M8
 obtain ⟨hO1, yj, eH, M9⟩ := hobt
 dsimp only [eS, eZ] at hO1 yj eH
 replace hB := ((((((((((hB.trans zT.fr).trans xU.fr).trans xV.fr).trans eg.fr).trans xW.fr).trans (Owns.dropFr _ _ 0)).trans gH.fr).trans wN.fr).trans vJ.fr).trans vK.fr).trans (Owns.dropFr _ _ 0)
 dsimp only [eS, eZ] at hB
 replace hO := hO1; clear hO1
 have uE := Stp.nil (e := 3) (r := 1) hO
 replace hO := uE.own
 have Na := Els.nil (Rp.int .i64) (bl (.row 3 1 none 0 0 [] :: [.row 31 1 pI (0 + 1) pK xt, .row 31 1 p35 n37 c36 fB, .blk B10 (.cells #[.int .i64 ((ix a0 (0 : Int)).length : Int), .bool true, .slice p35 n37 c36, .slice pI (0 + 1) pK, .slice none 0 0, .slice none 0 0, .slice none 0 0, .slice none 0 0, .int .i64 (0 : Int), .map (some B4), .slice none 0 0, .slice none 0 0, .slice none 0 0] 156 (0, 0)), .any (mapE (fun a : List UInt8 => Value.string (gstr a)) (fun a : Int => Value.int .i64 a) B4 (mput (([] : List (Str × Int))) r407 ((0 : Int))))]) ++ A) Q9
 obtain ⟨Ra, H⟩ := H
 replace eH := eH.ch uE.ch
 have hobt := oapp Try.underlying31 ti3 rfl 0 hO rfl Na eH M9 Ra (by decide)
 obtain ⟨Vi, su, sv, yk, tH, fm, Cs⟩ := hobt
 dsimp only [sS, sZ] at tH fm
 refine zg (Cs (by exact rfl) (by exact rfl)) ?_
 replace hO := tH.own
 refine zo (op_nilCheck rfl) (zo (op_fieldAddr Try.underlying156 rfl ti123 rfl (by decide)) (zo (op_fieldAddr Try.underlying123 rfl ti31 rfl (by decide)) ?_))
 have hobt := oblkSt2 (v := .slice su (0 + 1) sv) (i := 4) (cs' := #[.int .i64 ((ix a0 (0 : Int)).length : Int), .bool true, .slice p35 n37 c36, .slice pI (0 + 1) pK, .slice su (0 + 1) sv, .slice none 0 0, .slice none 0 0, .slice none 0 0, .int .i64 (0 : Int), .map (some B4), .slice none 0 0, .slice none 0 0, .slice none 0 0]) 3 hO rfl rfl rfl rfl
 obtain ⟨Vj, sH, I5⟩ := hobt
 dsimp only [sS, sZ] at sH
 refine zg (I5 Try.underlying31 rfl ti31 (by exact rfl) (by exact rfl)) ?_
 replace hO := sH.own
 refine zn (zq (zr (zm rfl (zm rfl (zo (op_nilCheck rfl) ?_)))))
 refine zo (op_fieldAddr Try.underlying156 rfl ti123 rfl (by decide)) (zo (op_fieldAddr Try.underlying123 rfl ti31 rfl (by decide)) (zs (oblk (i := 5) 3 hO rfl rfl Try.underlying31 rfl rfl) (zm rfl ?_)))
 have hobt := obuild (r := Rp.int .i64) (n := 1) (parts := [(0, .int .i64 (-1 : Int))]) (vs := [.int .i64 (-1 : Int)]) (xs := [(-1 : Int)]) rfl Try.underlying31 ti3 hO (by decide) (by kernel_rfl) (Els.cons rfl rfl (Els.nil _ _ _) (by simp [mx])) rfl
 obtain ⟨Rb, Vk, gO, Nb, S3, I6⟩ := hobt
 refine zg (I6 rfl) ?_
 replace hO := gO.own
 have hobt := freeze 0 hO rfl Nb
 obtain ⟨hO1, wc, gm, Nc⟩ := hobt
 dsimp only [eS, eZ] at hO1 wc gm
 replace hB := ((((hB.trans uE.fr).trans tH.fr).trans sH.fr).trans gO.fr).trans (Owns.dropFr _ _ 0)
 dsimp only [eS, eZ] at hB
 replace hO := hO1; clear hO1
 have sI := Stp.nil (e := 3) (r := 1) hO
 replace hO := sI.own
 have Nd := Els.nil (Rp.int .i64) (bl (.row 3 1 none 0 0 [] :: [.row 3 1 su (0 + 1) sv yk, .row 31 1 pI (0 + 1) pK xt, .row 31 1 p35 n37 c36 fB, .blk B10 (.cells #[.int .i64 ((ix a0 (0 : Int)).length : Int), .bool true, .slice p35 n37 c36, .slice pI (0 + 1) pK, .slice su (0 + 1) sv, .slice none 0 0, .slice none 0 0, .slice none 0 0, .int .i64 (0 : Int), .map (some B4), .slice none 0 0, .slice none 0 0, .slice none 0 0] 156 (0, 0)), .any (mapE (fun a : List UInt8 => Value.string (gstr a)) (fun a : Int => Value.int .i64 a) B4 (mput (([] : List (Str × Int))) r407 ((0 : Int))))]) ++ A) Rb
 obtain ⟨Rc, H⟩ := H
 replace gm := gm.ch sI.ch
 have hobt := oapp Try.underlying31 ti3 rfl 0 hO rfl Nd gm Nc Rc (by decide)
 obtain ⟨Vl, t5, t6, zU, rR, gU, I7⟩ := hobt
 dsimp only [sS, sZ] at rR gU
 refine zg (I7 (by exact rfl) (by exact rfl)) ?_
 replace hO := rR.own
 refine zo (op_nilCheck rfl) (zo (op_fieldAddr Try.underlying156 rfl ti123 rfl (by decide)) (zo (op_fieldAddr Try.underlying123 rfl ti31 rfl (by decide)) ?_))
 have hobt := oblkSt2 (v := .slice t5 (0 + 1) t6) (i := 5) (cs' := #[.int .i64 ((ix a0 (0 : Int)).length : Int), .bool true, .slice p35 n37 c36, .slice pI (0 + 1) pK, .slice su (0 + 1) sv, .slice t5 (0 + 1) t6, .slice none 0 0, .slice none 0 0, .int .i64 (0 : Int), .map (some B4), .slice none 0 0, .slice none 0 0, .slice none 0 0]) 4 hO rfl rfl rfl rfl
 obtain ⟨Rd, qt, I8⟩ := hobt
 dsimp only [sS, sZ] at qt
 refine zg (I8 Try.underlying31 rfl ti31 (by exact rfl) (by exact rfl)) ?_
 replace hO := qt.own
 refine zn (zq ?_)
 refine Go1.cut [(0, .pointer (some ⟨B10, 0, none⟩)), (4, .string (gstr (([] : Str)))), (5, .int .i64 (-1 : Int)), (13, .int .i64 (0 : Int))] ⟨rfl, rfl, rfl, rfl, trivial⟩ ?_
 intro σ _
 refine zr (zm rfl (zm rfl (zo (op_nilCheck rfl) (zo (op_fieldAddr Try.underlying156 rfl ti30 rfl (by decide)) (zs (oblk (i := 10) 4 hO rfl rfl Try.underlying30 rfl rfl) ?_)))))
 refine zm rfl ?_
 have hobt := obuild (r := Rp.str) (n := 1) (parts := [(0, .string (gstr (([] : Str))))]) (vs := [.string (gstr (([] : Str)))]) (xs := [([] : Str)]) rfl Try.underlying30 ti9 hO (by decide) (by kernel_rfl) (Els.cons rfl ⟨rfl, (by decide)⟩ (Els.nil _ _ _) (by simp [mx])) rfl
 obtain ⟨I9, te, e9, we, S4, Ja⟩ := hobt
 refine zg (Ja rfl) ?_
 replace hO := e9.own
 have hobt := freeze 0 hO rfl we
 obtain ⟨hO1, ui, jT, Nf⟩ := hobt
 dsimp only [eS, eZ] at hO1 ui jT
 replace hB := ((((hB.trans sI.fr).trans rR.fr).trans qt.fr).trans e9.fr).trans (Owns.dropFr _ _ 0)
 dsimp only [eS, eZ] at hB
 replace hO := hO1; clear hO1
 have qu := Stp.nil (e := 9) (r := 1) hO
 replace hO := qu.own
 have Ng := Els.nil (Rp.str) (bl (.row 9 1 none 0 0 [] :: [.row 3 1 t5 (0 + 1) t6 zU, .row 3 1 su (0 + 1) sv yk, .row 31 1 pI (0 + 1) pK xt, .row 31 1 p35 n37 c36 fB, .blk B10 (.cells #[.int .i64 ((ix a0 (0 : Int)).length : Int), .bool true, .slice p35 n37 c36, .slice pI (0 + 1) pK, .slice su (0 + 1) sv, .slice t5 (0 + 1) t6, .slice none 0 0, .slice none 0 0, .int .i64 (0 : Int), .map (some B4), .slice none 0 0, .slice none 0 0, .slice none 0 0] 156 (0, 0)), .any (mapE (fun a : List UInt8 => Value.string (gstr a)) (fun a : Int => Value.int .i64 a) B4 (mput (([] : List (Str × Int))) r407 ((0 : Int))))]) ++ A) I9
 obtain ⟨Re, H⟩ := H
 replace jT := jT.ch qu.ch
 have hobt := oapp Try.underlying30 ti9 rfl 0 hO rfl Ng jT Nf Re (by decide)
 obtain ⟨Rf, wC, wD, Bw, oE, mE, Jb⟩ := hobt
 dsimp only [sS, sZ] at oE mE
 refine zg (Jb (by exact rfl) (by exact rfl)) ?_
 replace hO := oE.own
 refine zo (op_nilCheck rfl) (zo (op_fieldAddr Try.underlying156 rfl ti30 rfl (by decide)) ?_)
 have hobt := oblkSt2 (v := .slice wC (0 + 1) wD) (i := 10) (cs' := #[.int .i64 ((ix a0 (0 : Int)).length : Int), .bool true, .slice p35 n37 c36, .slice pI (0 + 1) pK, .slice su (0 + 1) sv, .slice t5 (0 + 1) t6, .slice none 0 0, .slice none 0 0, .int .i64 (0 : Int), .map (some B4), .slice wC (0 + 1) wD, .slice none 0 0, .slice none 0 0]) 5 hO rfl rfl rfl rfl
 obtain ⟨Vm, mU, Ct⟩ := hobt
 dsimp only [sS, sZ] at mU
 refine zg (Ct Try.underlying30 rfl ti30 (by exact rfl) (by exact rfl)) ?_
 replace hO := mU.own
 refine zn (zq (zr (zm rfl (zm rfl (zo (op_nilCheck rfl) ?_)))))
 refine zo (op_fieldAddr Try.underlying156 rfl ti31 rfl (by decide)) (zs (oblk (i := 11) 5 hO rfl rfl Try.underlying31 rfl rfl) (zm rfl ?_))
 have hobt := obuild (r := Rp.int .i64) (n := 1) (parts := [(0, .int .i64 (-1 : Int))]) (vs := [.int .i64 (-1 : Int)]) (xs := [(-1 : Int)]) rfl Try.underlying31 ti3 hO (by decide) (by kernel_rfl) (Els.cons rfl rfl (Els.nil _ _ _) (by simp [mx])) rfl
 obtain ⟨Rg, Vn, oF, Nh, Hy, Jc⟩ := hobt
 refine zg (Jc rfl) ?_
 replace hO := oF.own
 have hobt := freeze 0 hO rfl Nh
 obtain ⟨hO1, sQ, sR, Ni⟩ := hobt
 dsimp only [eS, eZ] at hO1 sQ sR
 replace hB := ((((hB.trans qu.fr).trans oE.fr).trans mU.fr).trans oF.fr).trans (Owns.dropFr _ _ 0)
 dsimp only [eS, eZ] at hB
 replace hO := hO1; clear hO1
 have mV := Stp.nil (e := 3) (r := 1) hO
 replace hO := mV.own
 have Nj := Els.nil (Rp.int .i64) (bl (.row 3 1 none 0 0 [] :: [.row 9 1 wC (0 + 1) wD Bw, .row 3 1 t5 (0 + 1) t6 zU, .row 3 1 su (0 + 1) sv yk, .row 31 1 pI (0 + 1) pK xt, .row 31 1 p35 n37 c36 fB, .blk B10 (.cells #[.int .i64 ((ix a0 (0 : Int)).length : Int), .bool true, .slice p35 n37 c36, .slice pI (0 + 1) pK, .slice su (0 + 1) sv, .slice t5 (0 + 1) t6, .slice none 0 0, .slice none 0 0, .int .i64 (0 : Int), .map (some B4), .slice wC (0 + 1) wD, .slice none 0 0, .slice none 0 0] 156 (0, 0)), .any (mapE (fun a : List UInt8 => Value.string (gstr a)) (fun a : Int => Value.int .i64 a) B4 (mput (([] : List (Str × Int))) r407 ((0 : Int))))]) ++ A) Rg
 obtain ⟨Cu, H⟩ := H
 replace sR := sR.ch mV.ch
 have hobt := oapp Try.underlying31 ti3 rfl 0 hO rfl Nj sR Ni Cu (by decide)
 obtain ⟨Vo, y7, y8, D8, fG, wg, Jd⟩ := hobt
 dsimp only [sS, sZ] at fG wg
 refine zg (Jd (by exact rfl) (by exact rfl)) ?_
 replace hO := fG.own
 refine zo (op_nilCheck rfl) (zo (op_fieldAddr Try.underlying156 rfl ti31 rfl (by decide)) ?_)
 have hobt := oblkSt2 (v := .slice y7 (0 + 1) y8) (i := 11) (cs' := #[.int .i64 ((ix a0 (0 : Int)).length : Int), .bool true, .slice p35 n37 c36, .slice pI (0 + 1) pK, .slice su (0 + 1) sv, .slice t5 (0 + 1) t6, .slice none 0 0, .slice none 0 0, .int .i64 (0 : Int), .map (some B4), .slice wC (0 + 1) wD, .slice y7 (0 + 1) y8, .slice none 0 0]) 6 hO rfl rfl rfl rfl
 obtain ⟨Je, lk, Jf⟩ := hobt
 dsimp only [sS, sZ] at lk
 refine zg (Jf Try.underlying31 rfl ti31 (by exact rfl) (by exact rfl)) ?_
 replace hO := lk.own
 refine zn (zq ?_)
 refine Go1.cut [(13, .int .i64 (0 : Int))] ⟨rfl, trivial⟩ ?_
 intro σ _
 refine zr (zm rfl (za rfl (zn ?_)))
 refine Go1.ret1V Try.func155 rfl (show _ = .int .i64 (0 : Int) from rfl) ?_
 refine hR403 _ _ ?_
 refine za rfl (zn (zq (zq (zr (zm rfl ?_)))))
 refine zo (op_nilCheck rfl) (zo (op_fieldAddr Try.underlying156 rfl ti123 rfl (by decide)) (zo (op_fieldAddr Try.underlying123 rfl ti23 rfl (by decide)) (zs (oblk (i := 2) 6 hO rfl rfl Try.underlying23 rfl rfl) ?_)))
 have Z27 := (((((((((((((((((((((((((((zT.ch.trans xU.ch).trans xV.ch).trans eg.ch).trans xW.ch).trans D7).trans gH.ch).trans wN.ch).trans vJ.ch).trans vK.ch).trans yj).trans uE.ch).trans tH.ch).trans sH.ch).trans gO.ch).trans wc).trans sI.ch).trans rR.ch).trans qt.ch).trans e9.ch).trans ui).trans qu.ch).trans oE.ch).trans mU.ch).trans oF.ch).trans sQ).trans mV.ch).trans fG.ch).trans lk.ch
 replace au := au.ch Z27
 refine zo (op_lenN Try.underlying23 rfl (au.neq hO 5 rfl)) (zm rfl (zn (zb ?_)))
 have ma := Stp.nil (e := 185) (r := 2) hO
 replace hO := ma.own
 have D9 := Els.nil (rpRule) (bl (.row 185 2 none 0 0 [] :: [.row 3 1 y7 (0 + 1) y8 D8, .row 9 1 wC (0 + 1) wD Bw, .row 3 1 t5 (0 + 1) t6 zU, .row 3 1 su (0 + 1) sv yk, .row 31 1 pI (0 + 1) pK xt, .row 31 1 p35 n37 c36 fB, .blk B10 (.cells #[.int .i64 ((ix a0 (0 : Int)).length : Int), .bool true, .slice p35 n37 c36, .slice pI (0 + 1) pK, .slice su (0 + 1) sv, .slice t5 (0 + 1) t6, .slice none 0 0, .slice none 0 0, .int .i64 (0 : Int), .map (some B4), .slice wC (0 + 1) wD, .slice y7 (0 + 1) y8, .slice none 0 0] 156 (0, 0)), .any (mapE (fun a : List UInt8 => Value.string (gstr a)) (fun a : Int => Value.int .i64 a) B4 (mput (([] : List (Str × Int))) r407 ((0 : Int))))]) ++ A) Je
 have fx := Stp.nil (e := 3) (r := 1) hO
 replace hO := fx.own
 have Nk := Els.nil (Rp.int .i64) (bl (.row 3 1 none 0 0 [] :: [.row 185 2 none 0 0 [], .row 3 1 y7 (0 + 1) y8 D8, .row 9 1 wC (0 + 1) wD Bw, .row 3 1 t5 (0 + 1) t6 zU, .row 3 1 su (0 + 1) sv yk, .row 31 1 pI (0 + 1) pK xt, .row 31 1 p35 n37 c36 fB, .blk B10 (.cells #[.int .i64 ((ix a0 (0 : Int)).length : Int), .bool true, .slice p35 n37 c36, .slice pI (0 + 1) pK, .slice su (0 + 1) sv, .slice t5 (0 + 1) t6, .slice none 0 0, .slice none 0 0, .int .i64 (0 : Int), .map (some B4), .slice wC (0 + 1) wD, .slice y7 (0 + 1) y8, .slice none 0 0] 156 (0, 0)), .any (mapE (fun a : List UInt8 => Value.string (gstr a)) (fun a : Int => Value.int .i64 a) B4 (mput (([] : List (Str × Int))) r407 ((0 : Int))))]) ++ A) Je
 replace D9 := D9.ch fx.ch
 replace au := (au.ch ma.ch).ch fx.ch
 have Z28 := (lk.ch.trans ma.ch).trans fx.ch
 replace wg := wg.ch Z28
 replace hB := ((((hB.trans mV.fr).trans fG.fr).trans lk.fr).trans ma.fr).trans fx.fr
 have Z29 := ((((((mU.ch.trans oF.ch).trans sQ).trans mV.ch).trans fG.ch).trans lk.ch).trans ma.ch).trans fx.ch
 replace mE := mE.ch Z29
 have Z30 := (((((((((((qt.ch.trans e9.ch).trans ui).trans qu.ch).trans oE.ch).trans mU.ch).trans oF.ch).trans sQ).trans mV.ch).trans fG.ch).trans lk.ch).trans ma.ch).trans fx.ch
 replace gU := gU.ch Z30
 have Z31 := ((((((((((((((((sH.ch.trans gO.ch).trans wc).trans sI.ch).trans rR.ch).trans qt.ch).trans e9.ch).trans ui).trans qu.ch).trans oE.ch).trans mU.ch).trans oF.ch).trans sQ).trans mV.ch).trans fG.ch).trans lk.ch).trans ma.ch).trans fx.ch
 replace fm := fm.ch Z31
 have Z32 := (((((((((((((((((((((vJ.ch.trans vK.ch).trans yj).trans uE.ch).trans tH.ch).trans sH.ch).trans gO.ch).trans wc).trans sI.ch).trans rR.ch).trans qt.ch).trans e9.ch).trans ui).trans qu.ch).trans oE.ch).trans mU.ch).trans oF.ch).trans sQ).trans mV.ch).trans fG.ch).trans lk.ch).trans ma.ch).trans fx.ch
 replace d4 := d4.ch Z32
 refine Go1.loopW (S := Nat × List Int × List Rule × List Int × List Str × List Int × List Int × List (List Int) × (List (Str × Int))) (fun s σ w => match s with | (k3_548, d_549, d_555, d_561, d_567, d_573, d_579, d_585, m3_591) => ∃ (gR : Nat), ∃ (je : Option Addr), ∃ (jf : Nat), ∃ (rv : List Value), ∃ (g8 : Nat), ∃ (iP : Option Addr), ∃ (iQ : Nat), ∃ (pM : List Value), ∃ (g9 : Nat), ∃ (iR : Option Addr), ∃ (iT : Nat), ∃ (pN : List Value), ∃ (ia : Nat), ∃ (jg : Option Addr), ∃ (jh : Nat), ∃ (pO : List Value), ∃ (ic : Nat), ∃ (jy : Option Addr), ∃ (jz : Nat), ∃ (pP : List Value), ∃ (ie : Nat), ∃ (jQ : Option Addr), ∃ (jR : Nat), ∃ (pQ : List Value), ∃ (ig : Nat), ∃ (kg : Option Addr), ∃ (kh : Nat), ∃ (pS : List Value), agrees σ [(6, .pointer (some ⟨B10, 0, none⟩)), (9, .int .i64 (0 : Int)), (85, .slice p35 n37 c36), (86, .int .i64 (d_32.length : Int)), (87, .int .i64 (k3_548 : Int))] ∧ (fun Z0 => Owns w0.heap.size w Z0 A ∧ Els (Rp.int .i64) (bl Z0 ++ A) w rv d_549 ∧ Els (rpRule) (bl Z0 ++ A) w pM d_555 ∧ Els (Rp.int .i64) (bl Z0 ++ A) w pN d_561 ∧ Els (Rp.str) (bl Z0 ++ A) w pO d_567 ∧ Els (Rp.int .i64) (bl Z0 ++ A) w pP d_573 ∧ Els (Rp.int .i64) (bl Z0 ++ A) w pQ d_579 ∧ Els (Rp.sl (Rp.int .i64)) (bl Z0 ++ A) w pS d_585 ∧ Els (Rp.sl (Rp.int .i64)) (bl Z0 ++ A) w fB d_32 ∧ Fr (bl []) w0 (bl Z0) w) [.row 3 1 je gR jf rv, .row 185 2 iP g8 iQ pM, .row 3 1 iR g9 iT pN, .row 9 1 jg ia jh pO, .row 3 1 jy ic jz pP, .row 3 1 jQ ie jR pQ, .row 31 1 kg ig kh pS, .row 31 1 p35 n37 c36 fB, .blk B10 (.cells #[.int .i64 ((ix a0 (0 : Int)).length : Int), .bool true, .slice p35 n37 c36, .slice kg ig kh, .slice jQ ie jR, .slice jy ic jz, .slice none 0 0, .slice iP g8 iQ, .int .i64 (0 : Int), .map (some B4), .slice jg ia jh, .slice iR g9 iT, .slice je gR jf] 156 (0, 0)), .any (mapE (fun a : List UInt8 => Value.string (gstr a)) (fun a : Int => Value.int .i64 a) B4 m3_591)]) H ⟨0, none, 0, [], 0, none, 0, [], 0 + 1, y7, y8, D8, 0 + 1, wC, wD, Bw, 0 + 1, t5, t6, zU, 0 + 1, su, sv, yk, 0 + 1, pI, pK, xt, ⟨rfl, rfl, rfl, rfl, rfl, trivial⟩, hO, Nk, D9, wg, mE, gU, fm, d4, au, hB⟩ ?_
 intro X3
 refine prE fun k3_548 => prE fun d_549 => prE fun d_555 => prE fun d_561 => prE fun d_567 => prE fun d_573 => prE fun d_579 => prE fun d_585 => fun m3_591 => ?_
 intro H hX3 σ Rh
 refine exE fun gR => exE fun je => exE fun jf => exE fun rv => exE fun g8 => exE fun iP => exE fun iQ => exE fun pM => exE fun g9 => exE fun iR => exE fun iT => exE fun pN => exE fun ia => exE fun jg => exE fun jh => exE fun pO => exE fun ic => exE fun jy => exE fun jz => exE fun pP => exE fun ie => exE fun jQ => exE fun jR => exE fun pQ => exE fun ig => exE fun kg => exE fun kh => exE fun pS => andE fun hag => andE fun hO => andE fun cb => andE fun cg => andE fun ci => andE fun cp => andE fun cV => andE fun dj => andE fun dz => andE fun au => fun hB => ?_
 dsimp only at H
 refine Go1.keep [(6, .pointer (some ⟨B10, 0, none⟩)), (9, .int .i64 (0 : Int)), (85, .slice p35 n37 c36), (86, .int .i64 (d_32.length : Int)), (87, .int .i64 (k3_548 : Int))] hag ?_
 refine zq (zr ?_)
 by_cases AG : (k3_548 : Int) < (d_32.length : Int)
 ·replace H := ifp AG H
  refine zo (fun w => opB (op_lss rfl rfl w) (decide_eq_true AG)) (zn (zq (zt rfl rfl (zk (zq ?_)))))
  refine zb (zq (zr (zm rfl ?_)))
  obtain ⟨FJ, H⟩ := H
  obtain ⟨FK, H⟩ := H
  refine zo (op_index Try.underlying23 ti31 rfl rfl FJ (ltn (au.neq hO 7 rfl) FK) (au.psome hO 7 rfl FJ FK)) ?_
  have hobt := oldSl 7 hO rfl au FJ FK
  obtain ⟨Jg, Jh, cR, Nl⟩ := hobt
  refine zs (Nl Try.underlying31 rfl rfl) (za rfl (za rfl (zn (zq (zr ?_)))))
  refine zm rfl ?_
  obtain ⟨FL, H⟩ := H
  refine zo (op_add rfl rfl (wrap_i64 FL)) (zo (op_conv Try.underlying3 Try.underlying21 rfl rfl) ?_)
  obtain ⟨Ri, H⟩ := H
  obtain ⟨Cv, H⟩ := H
  refine zo (op_convRS Try.underlying21 Try.underlying9 rfl Ri Cv) (za rfl (zn (zq ?_)))
  refine Go1.drawS 0 [(0, .pure), (1, .pure), (2, .pure), (3, .stable), (4, .pure), (5, .loud), (6, .stable), (7, .pure), (8, .pure), (9, .pure), (10, .pure), (11, .pure)] mixed (by kernel_rfl) ?_
  intro Vp Nm
  have gj := Stp.same hO Nm
  replace hO := gj.own
  refine GoQ.pure rfl (op_move rfl) rfl rfl ?_
  refine GoQ.pure rfl (op_nilCheck rfl) rfl rfl ?_
  refine GoQ.pure rfl (op_fieldAddr Try.underlying156 rfl ti154 rfl (by decide)) rfl rfl ?_
  refine GoQ.stable rfl (oblk (i := 9) 8 hO rfl rfl Try.underlying154 rfl rfl) rfl rfl ?_
  refine GoQ.pure rfl (op_move rfl) rfl rfl ?_
  replace cR := cR.ch gj.ch
  refine GoQ.call rfl (op_call body157 rfl (walk_enumerate_text hO.lt cR H)) (fun v w hr => by obtain ⟨_, _, hs, _, _⟩ := hr; assumption) rfl rfl ?_
  rintro Vq Vr ⟨r605, rfl, Nn, Sv, H⟩
  have rS := Stp.same hO Nn
  replace hO := rS.own
  by_cases wE : mhas m3_591 r605 = true
  ·replace H := ifp wE H
   refine GoQ.stable rfl (olookT (a := r605) (MK.str Try.underlying9) 9 hO rfl Try.underlying154 rfl rfl wE) rfl rfl ?_
   refine GoQ.pure rfl (op_move rfl) rfl rfl ?_
   refine GoQ.pure rfl (op_extract rfl rfl) rfl rfl ?_
   refine GoQ.pure rfl (op_extract rfl rfl) rfl rfl ?_
   refine GoQ.pure rfl (op_assign rfl) rfl rfl ?_
   refine GoQ.pure rfl (op_assign rfl) rfl rfl ?_
   refine GoQ.nil ?_
   refine zq (zq ?_)
   refine Go1.cut [(6, .pointer (some ⟨B10, 0, none⟩)), (9, .int .i64 (0 : Int)), (10, .int .i64 (k3_548 : Int)), (11, .slice Jg ((ix d_32 (k3_548 : Int)).length) Jh), (12, .string (gstr (chr (IntKind.i32.wrap ((97 : Int) + (k3_548 : Int)))))), (13, .int .i64 (mgt m3_591 r605)), (14, .bool true), (85, .slice p35 n37 c36), (86, .int .i64 (d_32.length : Int)), (87, .int .i64 (k3_548 : Int))] ⟨rfl, rfl, rfl, rfl, rfl, rfl, rfl, rfl, rfl, rfl, trivial⟩ ?_
   intro σ _
   refine zr (zm rfl (zn (zt rfl rfl ?_)))
   refine Go1.drawS 5 [(0, .pure), (1, .pure), (2, .pure), (3, .pure), (4, .pure), (5, .stable), (6, .pure), (7, .pure), (8, .pure), (9, .pure), (10, .stable), (11, .pure), (12, .pure), (13, .stable), (14, .pure), (15, .loud), (16, .last), (17, .pure), (18, .pure), (19, .pure), (20, .last)] mixed (by kernel_rfl) ?_
   intro Vt Np
   have rT := Stp.same hO Np
   replace hO := rT.own
   refine GoQ.pure rfl (op_move rfl) rfl rfl ?_
   refine GoQ.pure rfl (op_move rfl) rfl rfl ?_
   refine GoQ.pure rfl (op_nilCheck rfl) rfl rfl ?_
   refine GoQ.pure rfl (op_fieldAddr Try.underlying156 rfl ti123 rfl (by decide)) rfl rfl ?_
   refine GoQ.pure rfl (op_fieldAddr Try.underlying123 rfl ti121 rfl (by decide)) rfl rfl ?_
   refine GoQ.stable rfl (oblk (i := 7) 8 hO rfl rfl Try.underlying121 rfl rfl) rfl rfl ?_
   refine GoQ.pure rfl (op_move rfl) rfl rfl ?_
   refine GoQ.pure rfl (op_move rfl) rfl rfl ?_
   refine GoQ.pure rfl (op_nilCheck rfl) rfl rfl ?_
   refine GoQ.pure rfl (op_fieldAddr Try.underlying156 rfl ti30 rfl (by decide)) rfl rfl ?_
   refine GoQ.stable rfl (oblk (i := 10) 8 hO rfl rfl Try.underlying30 rfl rfl) rfl rfl ?_
   refine GoQ.pure rfl (op_move rfl) rfl rfl ?_
   obtain ⟨Ea, H⟩ := H
   obtain ⟨Eb, H⟩ := H
   have Z33 := (gj.ch.trans rS.ch).trans rT.ch
   replace cp := cp.ch Z33
   refine GoQ.pure rfl (op_index Try.underlying30 ti9 rfl rfl Ea (ltn (cp.neq hO 3 rfl) Eb) (cp.psome hO 3 rfl Ea Eb)) rfl rfl ?_
   refine GoQ.stable rfl (oldStr 3 hO rfl cp Ea Eb Try.underlying9 rfl rfl) rfl rfl ?_
   have hle617 := Els.str_le cp Ea Eb
   refine GoQ.pure rfl (op_build Try.underlying185 ti185 (pl := [(0, 1), (1, 1)]) (vs := [(0, .string (gstr (chr (IntKind.i32.wrap ((97 : Int) + (k3_548 : Int)))))), (1, .string (gstr (ix d_567 (mgt m3_591 r605))))]) (cs := #[.string (gstr (chr (IntKind.i32.wrap ((97 : Int) + (k3_548 : Int))))), .string (gstr (ix d_567 (mgt m3_591 r605)))]) (by kernel_rfl) rfl (by kernel_rfl)) rfl rfl ?_
   have hobt := obuildN (r := rpRule) (n := 1) (parts := [(0, .agg #[.string (gstr (chr (IntKind.i32.wrap ((97 : Int) + (k3_548 : Int))))), .string (gstr (ix d_567 (mgt m3_591 r605)))])]) (vs := [.string (gstr (chr (IntKind.i32.wrap ((97 : Int) + (k3_548 : Int))))), .string (gstr (ix d_567 (mgt m3_591 r605)))]) (xs := [(⟨(chr (IntKind.i32.wrap ((97 : Int) + (k3_548 : Int)))), ix d_567 (mgt m3_591 r605)⟩ : Rule)]) Try.underlying121 ti185 hO (by decide) (by decide) (by kernel_rfl) (Els.flat1 (⟨(chr (IntKind.i32.wrap ((97 : Int) + (k3_548 : Int)))), ix d_567 (mgt m3_591 r605)⟩ : Rule) ⟨(chr_le _), hle617⟩) rfl
   obtain ⟨Rj, Vu, gs, Nq, Nr, Ji⟩ := hobt
   refine GoQ.loud rfl (Ji rfl) Nr rfl rfl ?_
   replace hO := gs.own
   have hobt := freeze 0 hO rfl Nq
   obtain ⟨hO1, uj, rB, Nt⟩ := hobt
   dsimp only [eS, eZ] at hO1 uj rB
   replace hB := ((((hB.trans gj.fr).trans rS.fr).trans rT.fr).trans gs.fr).trans (Owns.dropFr _ _ 0)
   dsimp only [eS, eZ] at hB
   replace hO := hO1; clear hO1
   obtain ⟨Rk, H⟩ := H
   replace cg := ((cg.ch Z33).ch gs.ch).ch uj
   have hobt := oapp Try.underlying121 ti185 rfl 1 hO rfl cg rB Nt Rk (by decide)
   obtain ⟨Vv, Ec, Ed, Nu, qv, sT, Jj⟩ := hobt
   dsimp only [sS, sZ] at qv sT
   refine GoQ.last rfl (Jj (by exact rfl) (by exact rfl)) rfl rfl ?_
   replace hO := qv.own
   refine GoQ.pure rfl (op_nilCheck rfl) rfl rfl ?_
   refine GoQ.pure rfl (op_fieldAddr Try.underlying156 rfl ti123 rfl (by decide)) rfl rfl ?_
   refine GoQ.pure rfl (op_fieldAddr Try.underlying123 rfl ti121 rfl (by decide)) rfl rfl ?_
   have hobt := oblkSt2 (v := .slice Ec (g8 + 1) Ed) (i := 7) (cs' := #[.int .i64 ((ix a0 (0 : Int)).length : Int), .bool true, .slice p35 n37 c36, .slice kg ig kh, .slice jQ ie jR, .slice jy ic jz, .slice none 0 0, .slice Ec (g8 + 1) Ed, .int .i64 (0 : Int), .map (some B4), .slice jg ia jh, .slice iR g9 iT, .slice je gR jf]) 8 hO rfl rfl rfl rfl
   obtain ⟨Rl, oG, Jk⟩ := hobt
   dsimp only [sS, sZ] at oG
   refine GoQ.last rfl (Jk Try.underlying121 rfl ti121 (by exact rfl) (by exact rfl)) rfl rfl ?_
   replace hO := oG.own
   refine GoQ.nil ?_
   refine Go1.cut [(6, .pointer (some ⟨B10, 0, none⟩)), (9, .int .i64 (0 : Int)), (13, .int .i64 (mgt m3_591 r605)), (85, .slice p35 n37 c36), (86, .int .i64 (d_32.length : Int)), (87, .int .i64 (k3_548 : Int))] ⟨rfl, rfl, rfl, rfl, rfl, rfl, trivial⟩ ?_
   intro σ _
   refine zr (zm rfl (zm rfl (zo (op_nilCheck rfl) (zo (op_fieldAddr Try.underlying156 rfl ti31 rfl (by decide)) (zs (oblk (i := 12) 8 hO rfl rfl Try.underlying31 rfl rfl) ?_)))))
   refine zm rfl ?_
   have hobt := obuild (r := Rp.int .i64) (n := 1) (parts := [(0, .int .i64 (mgt m3_591 r605))]) (vs := [.int .i64 (mgt m3_591 r605)]) (xs := [(mgt m3_591 r605)]) rfl Try.underlying31 ti3 hO (by decide) (by kernel_rfl) (Els.cons rfl rfl (Els.nil _ _ _) (by simp [mx])) rfl
   obtain ⟨Vw, Vx, qw, Nv, S5, Cw⟩ := hobt
   refine zg (Cw rfl) ?_
   replace hO := qw.own
   have hobt := freeze 0 hO rfl Nv
   obtain ⟨hO1, tI, yl, Nw⟩ := hobt
   dsimp only [eS, eZ] at hO1 tI yl
   replace hB := (((hB.trans qv.fr).trans oG.fr).trans qw.fr).trans (Owns.dropFr _ _ 0)
   dsimp only [eS, eZ] at hB
   replace hO := hO1; clear hO1
   obtain ⟨Rm, H⟩ := H
   have Z34 := (((((Z33.trans gs.ch).trans uj).trans qv.ch).trans oG.ch).trans qw.ch).trans tI
   replace cb := cb.ch Z34
   have hobt := oapp Try.underlying31 ti3 rfl 0 hO rfl cb yl Nw Rm (by decide)
   obtain ⟨Rn, FM, FN, Ny, oH, Bx, Jl⟩ := hobt
   dsimp only [sS, sZ] at oH Bx
   refine zg (Jl (by exact rfl) (by exact rfl)) ?_
   replace hO := oH.own
   refine zo (op_nilCheck rfl) (zo (op_fieldAddr Try.underlying156 rfl ti31 rfl (by decide)) ?_)
   have hobt := oblkSt2 (v := .slice FM (gR + 1) FN) (i := 12) (cs' := #[.int .i64 ((ix a0 (0 : Int)).length : Int), .bool true, .slice p35 n37 c36, .slice kg ig kh, .slice jQ ie jR, .slice jy ic jz, .slice none 0 0, .slice Ec (g8 + 1) Ed, .int .i64 (0 : Int), .map (some B4), .slice jg ia jh, .slice iR g9 iT, .slice FM (gR + 1) FN]) 8 hO rfl rfl rfl rfl
   obtain ⟨Vy, mW, Jm⟩ := hobt
   dsimp only [sS, sZ] at mW
   refine zg (Jm Try.underlying31 rfl ti31 (by exact rfl) (by exact rfl)) ?_
   replace hO := mW.own
   refine zn ?_
   refine Go1.inBlock ?_
   refine zr ?_
   replace au := ((au.ch Z34).ch oH.ch).ch mW.ch
   refine zo (op_add rfl rfl (wrap_i64 (natbd AG au.bd))) (zm rfl (zn ?_))
   replace Bx := Bx.ch mW.ch
   replace hB := (hB.trans oH.fr).trans mW.fr
   have Z35 := (((oG.ch.trans qw.ch).trans tI).trans oH.ch).trans mW.ch
   replace sT := sT.ch Z35
   have Z36 := ((((((gs.ch.trans uj).trans qv.ch).trans oG.ch).trans qw.ch).trans tI).trans oH.ch).trans mW.ch
   replace cp := cp.ch Z36
   have Z37 := (Z34.trans oH.ch).trans mW.ch
   replace ci := ci.ch Z37
   replace cV := cV.ch Z37
   replace dj := dj.ch Z37
   replace dz := dz.ch Z37
   exact hX3 _ H _ _ ⟨gR + 1, FM, FN, Ny, g8 + 1, Ec, Ed, Nu, g9, iR, iT, pN, ia, jg, jh, pO, ic, jy, jz, pP, ie, jQ, jR, pQ, ig, kg, kh, pS, ⟨rfl, rfl, rfl, rfl, rfl, trivial⟩, hO, Bx, sT, ci, cp, cV, dj, dz, au, hB⟩
  replace H := ifn wE H
  refine GoQ.stable rfl (olookF (a := r605) (MK.str Try.underlying9) 9 hO rfl Try.underlying154 ti3 rfl rfl wE) rfl rfl ?_
  refine GoQ.pure rfl (op_move rfl) rfl rfl ?_
  refine GoQ.pure rfl (op_extract rfl rfl) rfl rfl ?_
  refine GoQ.pure rfl (op_extract rfl rfl) rfl rfl ?_
  refine GoQ.pure rfl (op_assign rfl) rfl rfl ?_
  refine GoQ.pure rfl (op_assign rfl) rfl rfl ?_
  refine GoQ.nil ?_
  refine zq (zq (zr (zm rfl (zn (zf rfl rfl ?_)))))
  refine Go1.cut [(6, .pointer (some ⟨B10, 0, none⟩)), (9, .int .i64 (0 : Int)), (10, .int .i64 (k3_548 : Int)), (11, .slice Jg ((ix d_32 (k3_548 : Int)).length) Jh), (12, .string (gstr (chr (IntKind.i32.wrap ((97 : Int) + (k3_548 : Int)))))), (85, .slice p35 n37 c36), (86, .int .i64 (d_32.length : Int)), (87, .int .i64 (k3_548 : Int))] ⟨rfl, rfl, rfl, rfl, rfl, rfl, rfl, rfl, trivial⟩ ?_
  intro σ _
  refine zr (zm rfl (zm rfl ?_))
  replace cR := cR.ch rS.ch
  refine GoR.call (op_call body86 rfl (walk_slices_Clone_int hO.lt cR H)) rfl rfl ?_
  rintro Vz VA ⟨r662, xX, uF, uG, Sw, rfl, Nz, hN666, uk, H⟩
  have qz := Stp.more hO Nz hN666
  dsimp only [List.cons_append, List.nil_append] at qz
  replace hO := qz.own
  refine zm rfl (zm rfl (zm rfl (zm rfl ?_)))
  refine GoR.inl (vs := [.pointer (some ⟨B10, 0, none⟩), .slice uF xX uG, .int .i64 (0 : Int), .int .i64 (k3_548 : Int), .string (gstr (chr (IntKind.i32.wrap ((97 : Int) + (k3_548 : Int))))), .int .i64 (0 : Int)]) (caps := []) rfl rfl body155 Try.func155 rfl Try.ntmps155 rfl rfl rfl ?_
  intro RhR670 hR670
  refine zq (zr (za rfl (zn (zq (zr ?_)))))
  refine zm rfl (zo (op_nilCheck rfl) (zo (op_fieldAddr Try.underlying156 rfl ti123 rfl (by decide)) (zo (op_fieldAddr Try.underlying123 rfl ti23 rfl (by decide)) (zs (oblk (i := 3) 9 hO rfl rfl Try.underlying23 rfl rfl) ?_))))
  have Z38 := (gj.ch.trans rS.ch).trans qz.ch
  replace dz := dz.ch Z38
  refine zo (op_lenN Try.underlying23 rfl (dz.neq hO 7 rfl)) (za rfl (zn (zq ?_)))
  refine Go1.drawS 1 [(0, .pure), (1, .pure), (2, .pure), (3, .stable), (4, .pure), (6, .pure), (5, .loud), (7, .last)] mixed (by kernel_rfl) ?_
  intro VB NA
  have qA := Stp.same hO NA
  replace hO := qA.own
  refine GoQ.pure rfl (op_move rfl) rfl rfl ?_
  refine GoQ.pure rfl (op_nilCheck rfl) rfl rfl ?_
  refine GoQ.pure rfl (op_fieldAddr Try.underlying156 rfl ti154 rfl (by decide)) rfl rfl ?_
  refine GoQ.stable rfl (oblk (i := 9) 9 hO rfl rfl Try.underlying154 rfl rfl) rfl rfl ?_
  refine GoQ.pure rfl (op_move rfl) rfl rfl ?_
  refine GoQ.pure rfl (op_move rfl) rfl rfl ?_
  replace uk := uk.ch (Ch.assoc _ _ _ _)
  replace uk := uk.ch qA.ch
  have hobt := rowlend 0 hO rfl uk
  obtain ⟨NB, NC⟩ := hobt
  have hOc676 := hO.drop 0
  refine GoQ.call rfl (op_call body157 (show ([.slice uF xX uG] : List Value) = [.slice uF r662.length uG] from by rw [← NC]) (walk_enumerate_text hOc676.lt NB H)) (fun v w hr => by obtain ⟨_, _, hs, _, _⟩ := hr; assumption) rfl rfl ?_
  rintro VC VD ⟨r677, rfl, ND, Sx, H⟩
  have qB := Stp.same hO ND
  replace hO := qB.own
  have hobt := omapUpd (MK.str Try.underlying9) 10 hO rfl Try.underlying154 r677 (d_585.length : Int)
  obtain ⟨VE, oI, Jo⟩ := hobt
  dsimp only [sS, sZ] at oI
  refine GoQ.last rfl (Jo (by exact rfl) (by exact rfl) (by exact rfl)) rfl rfl ?_
  replace hO := oI.own
  refine GoQ.nil ?_
  refine zq ?_
  refine Go1.cut [(0, .pointer (some ⟨B10, 0, none⟩)), (1, .slice uF xX uG), (2, .int .i64 (0 : Int)), (3, .int .i64 (k3_548 : Int)), (4, .string (gstr (chr (IntKind.i32.wrap ((97 : Int) + (k3_548 : Int)))))), (5, .int .i64 (0 : Int)), (13, .int .i64 (d_585.length : Int))] ⟨rfl, rfl, rfl, rfl, rfl, rfl, rfl, trivial⟩ ?_
  intro σ _
  refine zr (zm rfl (zm rfl (zo (op_nilCheck rfl) (zo (op_fieldAddr Try.underlying156 rfl ti123 rfl (by decide)) (zo (op_fieldAddr Try.underlying123 rfl ti23 rfl (by decide)) ?_)))))
  refine zs (oblk (i := 3) 9 hO rfl rfl Try.underlying23 rfl rfl) (zm rfl ?_)
  replace uk := (uk.ch qB.ch).ch oI.ch
  have hobt := freeze 0 hO rfl uk
  obtain ⟨hO1, ul, dV, NE⟩ := hobt
  dsimp only [eS, eZ] at hO1 ul dV
  replace hB := ((((((hB.trans gj.fr).trans rS.fr).trans qz.fr).trans qA.fr).trans qB.fr).trans oI.fr).trans (Owns.dropFr _ _ 0)
  dsimp only [eS, eZ] at hB
  replace hO := hO1; clear hO1
  have hobt := obuild (r := Rp.sl (Rp.int .i64)) (n := 1) (parts := [(0, .slice uF xX uG)]) (vs := [.slice uF xX uG]) (xs := [r662]) rfl Try.underlying23 ti31 hO (by decide) (by kernel_rfl) (Els.cons rfl ⟨uF, uG, congrArg some (congrArg (fun nn => Value.slice uF nn uG) NE), dV⟩ (Els.nil _ _ _) (by simp [mx])) rfl
  obtain ⟨VG, VH, qC, NF, S6, Jp⟩ := hobt
  refine zg (Jp rfl) ?_
  replace hO := qC.own
  have hobt := freeze 0 hO rfl NF
  obtain ⟨hO1, tJ, d9, NG⟩ := hobt
  dsimp only [eS, eZ] at hO1 tJ d9
  replace hB := (hB.trans qC.fr).trans (Owns.dropFr _ _ 0)
  dsimp only [eS, eZ] at hB
  replace hO := hO1; clear hO1
  obtain ⟨Ro, H⟩ := H
  have Z39 := ((((qA.ch.trans qB.ch).trans oI.ch).trans ul).trans qC.ch).trans tJ
  replace dz := dz.ch Z39
  have hobt := oapp Try.underlying23 ti31 rfl 6 hO rfl dz d9 NG Ro (by decide)
  obtain ⟨VI, xY, x4, NH, oJ, er, Jq⟩ := hobt
  dsimp only [sS, sZ] at oJ er
  refine zg (Jq (by exact rfl) (by exact rfl)) ?_
  replace hO := oJ.own
  refine zo (op_nilCheck rfl) (zo (op_fieldAddr Try.underlying156 rfl ti123 rfl (by decide)) (zo (op_fieldAddr Try.underlying123 rfl ti23 rfl (by decide)) ?_))
  have hobt := oblkSt2 (v := .slice xY (ig + 1) x4) (i := 3) (cs' := #[.int .i64 ((ix a0 (0 : Int)).length : Int), .bool true, .slice p35 n37 c36, .slice xY (ig + 1) x4, .slice jQ ie jR, .slice jy ic jz, .slice none 0 0, .slice iP g8 iQ, .int .i64 (0 : Int), .map (some B4), .slice jg ia jh, .slice iR g9 iT, .slice je gR jf]) 8 hO rfl rfl rfl rfl
  obtain ⟨VJ, mX, Jr⟩ := hobt
  dsimp only [sS, sZ] at mX
  refine zg (Jr Try.underlying23 rfl ti23 (by exact rfl) (by exact rfl)) ?_
  replace hO := mX.own
  refine zn (zq (zr (zm rfl (zm rfl (zo (op_nilCheck rfl) ?_)))))
  refine zo (op_fieldAddr Try.underlying156 rfl ti123 rfl (by decide)) (zo (op_fieldAddr Try.underlying123 rfl ti31 rfl (by decide)) (zs (oblk (i := 4) 8 hO rfl rfl Try.underlying31 rfl rfl) (zm rfl ?_)))
  have hobt := obuild (r := Rp.int .i64) (n := 1) (parts := [(0, .int .i64 (0 : Int))]) (vs := [.int .i64 (0 : Int)]) (xs := [(0 : Int)]) rfl Try.underlying31 ti3 hO (by decide) (by kernel_rfl) (Els.cons rfl rfl (Els.nil _ _ _) (by simp [mx])) rfl
  obtain ⟨VK, VL, oK, NI, S7, Js⟩ := hobt
  refine zg (Js rfl) ?_
  replace hO := oK.own
  have hobt := freeze 0 hO rfl NI
  obtain ⟨hO1, sU, fo, NJ⟩ := hobt
  dsimp only [eS, eZ] at hO1 sU fo
  replace hB := (((hB.trans oJ.fr).trans mX.fr).trans oK.fr).trans (Owns.dropFr _ _ 0)
  dsimp only [eS, eZ] at hB
  replace hO := hO1; clear hO1
  obtain ⟨Rq, H⟩ := H
  have Z40 := (((((((((Z38.trans qA.ch).trans qB.ch).trans oI.ch).trans ul).trans qC.ch).trans tJ).trans oJ.ch).trans mX.ch).trans oK.ch).trans sU
  replace dj := dj.ch Z40
  have hobt := oapp Try.underlying31 ti3 rfl 5 hO rfl dj fo NJ Rq (by decide)
  obtain ⟨VM, y9, zc, NK, mY, fI, Jt⟩ := hobt
  dsimp only [sS, sZ] at mY fI
  refine zg (Jt (by exact rfl) (by exact rfl)) ?_
  replace hO := mY.own
  refine zo (op_nilCheck rfl) (zo (op_fieldAddr Try.underlying156 rfl ti123 rfl (by decide)) (zo (op_fieldAddr Try.underlying123 rfl ti31 rfl (by decide)) ?_))
  have hobt := oblkSt2 (v := .slice y9 (ie + 1) zc) (i := 4) (cs' := #[.int .i64 ((ix a0 (0 : Int)).length : Int), .bool true, .slice p35 n37 c36, .slice xY (ig + 1) x4, .slice y9 (ie + 1) zc, .slice jy ic jz, .slice none 0 0, .slice iP g8 iQ, .int .i64 (0 : Int), .map (some B4), .slice jg ia jh, .slice iR g9 iT, .slice je gR jf]) 8 hO rfl rfl rfl rfl
  obtain ⟨VN, mb, Ju⟩ := hobt
  dsimp only [sS, sZ] at mb
  refine zg (Ju Try.underlying31 rfl ti31 (by exact rfl) (by exact rfl)) ?_
  replace hO := mb.own
  refine zn (zq ?_)
  refine Go1.cut [(0, .pointer (some ⟨B10, 0, none⟩)), (3, .int .i64 (k3_548 : Int)), (4, .string (gstr (chr (IntKind.i32.wrap ((97 : Int) + (k3_548 : Int)))))), (5, .int .i64 (0 : Int)), (13, .int .i64 (d_585.length : Int))] ⟨rfl, rfl, rfl, rfl, rfl, trivial⟩ ?_
  intro σ _
  refine zr (zm rfl (zm rfl (zo (op_nilCheck rfl) (zo (op_fieldAddr Try.underlying156 rfl ti123 rfl (by decide)) (zo (op_fieldAddr Try.underlying123 rfl ti31 rfl (by decide)) ?_)))))
  refine zs (oblk (i := 5) 8 hO rfl rfl Try.underlying31 rfl rfl) (zm rfl ?_)
  have hobt := obuild (r := Rp.int .i64) (n := 1) (parts := [(0, .int .i64 (k3_548 : Int))]) (vs := [.int .i64 (k3_548 : Int)]) (xs := [(k3_548 : Int)]) rfl Try.underlying31 ti3 hO (by decide) (by kernel_rfl) (Els.cons rfl rfl (Els.nil _ _ _) (by simp [mx])) rfl
  obtain ⟨VO, VP, m3, NL, S8, Jv⟩ := hobt
  refine zg (Jv rfl) ?_
  replace hO := m3.own
  have hobt := freeze 0 hO rfl NL
  obtain ⟨hO1, sf, gK, NM⟩ := hobt
  dsimp only [eS, eZ] at hO1 sf gK
  replace hB := (((hB.trans mY.fr).trans mb.fr).trans m3.fr).trans (Owns.dropFr _ _ 0)
  dsimp only [eS, eZ] at hB
  replace hO := hO1; clear hO1
  obtain ⟨Rr, H⟩ := H
  have Z41 := (((Z40.trans mY.ch).trans mb.ch).trans m3.ch).trans sf
  replace cV := cV.ch Z41
  have hobt := oapp Try.underlying31 ti3 rfl 4 hO rfl cV gK NM Rr (by decide)
  obtain ⟨VQ, AH, AI, NN, mc, gV, Jw⟩ := hobt
  dsimp only [sS, sZ] at mc gV
  refine zg (Jw (by exact rfl) (by exact rfl)) ?_
  replace hO := mc.own
  refine zo (op_nilCheck rfl) (zo (op_fieldAddr Try.underlying156 rfl ti123 rfl (by decide)) (zo (op_fieldAddr Try.underlying123 rfl ti31 rfl (by decide)) ?_))
  have hobt := oblkSt2 (v := .slice AH (ic + 1) AI) (i := 5) (cs' := #[.int .i64 ((ix a0 (0 : Int)).length : Int), .bool true, .slice p35 n37 c36, .slice xY (ig + 1) x4, .slice y9 (ie + 1) zc, .slice AH (ic + 1) AI, .slice none 0 0, .slice iP g8 iQ, .int .i64 (0 : Int), .map (some B4), .slice jg ia jh, .slice iR g9 iT, .slice je gR jf]) 8 hO rfl rfl rfl rfl
  obtain ⟨VR, lm, Jx⟩ := hobt
  dsimp only [sS, sZ] at lm
  refine zg (Jx Try.underlying31 rfl ti31 (by exact rfl) (by exact rfl)) ?_
  replace hO := lm.own
  refine zn (zq (zr (zm rfl (zm rfl (zo (op_nilCheck rfl) ?_)))))
  refine zo (op_fieldAddr Try.underlying156 rfl ti30 rfl (by decide)) (zs (oblk (i := 10) 8 hO rfl rfl Try.underlying30 rfl rfl) (zm rfl ?_))
  have hobt := obuild (r := Rp.str) (n := 1) (parts := [(0, .string (gstr (chr (IntKind.i32.wrap ((97 : Int) + (k3_548 : Int))))))]) (vs := [.string (gstr (chr (IntKind.i32.wrap ((97 : Int) + (k3_548 : Int)))))]) (xs := [chr (IntKind.i32.wrap ((97 : Int) + (k3_548 : Int)))]) rfl Try.underlying30 ti9 hO (by decide) (by kernel_rfl) (Els.cons rfl ⟨rfl, (chr_le _)⟩ (Els.nil _ _ _) (by simp [mx])) rfl
  obtain ⟨VS, VU, me, NO, S9, Jy⟩ := hobt
  refine zg (Jy rfl) ?_
  replace hO := me.own
  have hobt := freeze 0 hO rfl NO
  obtain ⟨hO1, rC, jU, NP⟩ := hobt
  dsimp only [eS, eZ] at hO1 rC jU
  replace hB := (((hB.trans mc.fr).trans lm.fr).trans me.fr).trans (Owns.dropFr _ _ 0)
  dsimp only [eS, eZ] at hB
  replace hO := hO1; clear hO1
  obtain ⟨Rs, H⟩ := H
  have Z42 := (((Z41.trans mc.ch).trans lm.ch).trans me.ch).trans rC
  replace cp := cp.ch Z42
  have hobt := oapp Try.underlying30 ti9 rfl 3 hO rfl cp jU NP Rs (by decide)
  obtain ⟨VV, Cx, Cy, NQ, lp, kY, Jz⟩ := hobt
  dsimp only [sS, sZ] at lp kY
  refine zg (Jz (by exact rfl) (by exact rfl)) ?_
  replace hO := lp.own
  refine zo (op_nilCheck rfl) (zo (op_fieldAddr Try.underlying156 rfl ti30 rfl (by decide)) ?_)
  have hobt := oblkSt2 (v := .slice Cx (ia + 1) Cy) (i := 10) (cs' := #[.int .i64 ((ix a0 (0 : Int)).length : Int), .bool true, .slice p35 n37 c36, .slice xY (ig + 1) x4, .slice y9 (ie + 1) zc, .slice AH (ic + 1) AI, .slice none 0 0, .slice iP g8 iQ, .int .i64 (0 : Int), .map (some B4), .slice Cx (ia + 1) Cy, .slice iR g9 iT, .slice je gR jf]) 8 hO rfl rfl rfl rfl
  obtain ⟨VW, kA, JA⟩ := hobt
  dsimp only [sS, sZ] at kA
  refine zg (JA Try.underlying30 rfl ti30 (by exact rfl) (by exact rfl)) ?_
  replace hO := kA.own
  refine zn (zq ?_)
  refine Go1.cut [(0, .pointer (some ⟨B10, 0, none⟩)), (5, .int .i64 (0 : Int)), (13, .int .i64 (d_585.length : Int))] ⟨rfl, rfl, rfl, trivial⟩ ?_
  intro σ _
  refine zr (zm rfl (zm rfl (zo (op_nilCheck rfl) (zo (op_fieldAddr Try.underlying156 rfl ti31 rfl (by decide)) (zs (oblk (i := 11) 8 hO rfl rfl Try.underlying31 rfl rfl) ?_)))))
  refine zm rfl ?_
  have hobt := obuild (r := Rp.int .i64) (n := 1) (parts := [(0, .int .i64 (0 : Int))]) (vs := [.int .i64 (0 : Int)]) (xs := [(0 : Int)]) rfl Try.underlying31 ti3 hO (by decide) (by kernel_rfl) (Els.cons rfl rfl (Els.nil _ _ _) (by simp [mx])) rfl
  obtain ⟨VX, VY, lr, NR, Ta, JB⟩ := hobt
  refine zg (JB rfl) ?_
  replace hO := lr.own
  have hobt := freeze 0 hO rfl NR
  obtain ⟨hO1, pT, rD, NS⟩ := hobt
  dsimp only [eS, eZ] at hO1 pT rD
  replace hB := (((hB.trans lp.fr).trans kA.fr).trans lr.fr).trans (Owns.dropFr _ _ 0)
  dsimp only [eS, eZ] at hB
  replace hO := hO1; clear hO1
  obtain ⟨Rt, H⟩ := H
  have Z43 := (((Z42.trans lp.ch).trans kA.ch).trans lr.ch).trans pT
  replace ci := ci.ch Z43
  have hobt := oapp Try.underlying31 ti3 rfl 2 hO rfl ci rD NS Rt (by decide)
  obtain ⟨V0, Ee, Ef, NT, kB, sV, JC⟩ := hobt
  dsimp only [sS, sZ] at kB sV
  refine zg (JC (by exact rfl) (by exact rfl)) ?_
  replace hO := kB.own
  refine zo (op_nilCheck rfl) (zo (op_fieldAddr Try.underlying156 rfl ti31 rfl (by decide)) ?_)
  have hobt := oblkSt2 (v := .slice Ee (g9 + 1) Ef) (i := 11) (cs' := #[.int .i64 ((ix a0 (0 : Int)).length : Int), .bool true, .slice p35 n37 c36, .slice xY (ig + 1) x4, .slice y9 (ie + 1) zc, .slice AH (ic + 1) AI, .slice none 0 0, .slice iP g8 iQ, .int .i64 (0 : Int), .map (some B4), .slice Cx (ia + 1) Cy, .slice Ee (g9 + 1) Ef, .slice je gR jf]) 8 hO rfl rfl rfl rfl
  obtain ⟨V1, j3, JD⟩ := hobt
  dsimp only [sS, sZ] at j3
  refine zg (JD Try.underlying31 rfl ti31 (by exact rfl) (by exact rfl)) ?_
  replace hO := j3.own
  refine zn (zq (zr (zm rfl (za rfl (zn ?_)))))
  refine Go1.ret1V Try.func155 rfl (show _ = .int .i64 (d_585.length : Int) from rfl) ?_
  refine hR670 _ _ ?_
  refine za rfl (zn (zr (zm rfl (zm rfl (zo (op_nilCheck rfl) ?_)))))
  refine zo (op_fieldAddr Try.underlying156 rfl ti31 rfl (by decide)) (zs (oblk (i := 12) 8 hO rfl rfl Try.underlying31 rfl rfl) (zm rfl ?_))
  have hobt := obuild (r := Rp.int .i64) (n := 1) (parts := [(0, .int .i64 (d_585.length : Int))]) (vs := [.int .i64 (d_585.length : Int)]) (xs := [(d_585.length : Int)]) rfl Try.underlying31 ti3 hO (by decide) (by kernel_rfl) (Els.cons rfl rfl (Els.nil _ _ _) (by simp [mx])) rfl
  obtain ⟨V2, V3, kC, NU, Tc, JE⟩ := hobt
  refine zg (JE rfl) ?_
  replace hO := kC.own
  have hobt := freeze 0 hO rfl NU
  obtain ⟨hO1, oe, ym, NV⟩ := hobt
  dsimp only [eS, eZ] at hO1 oe ym
  replace hB := (((hB.trans kB.fr).trans j3.fr).trans kC.fr).trans (Owns.dropFr _ _ 0)
  dsimp only [eS, eZ] at hB
  replace hO := hO1; clear hO1
  obtain ⟨Ru, H⟩ := H
  have Z44 := (((Z43.trans kB.ch).trans j3.ch).trans kC.ch).trans oe
  replace cb := cb.ch Z44
  have hobt := oapp Try.underlying31 ti3 rfl 0 hO rfl cb ym NV Ru (by decide)
  obtain ⟨V4, FO, FP, NW, j4, By, JF⟩ := hobt
  dsimp only [sS, sZ] at j4 By
  refine zg (JF (by exact rfl) (by exact rfl)) ?_
  replace hO := j4.own
  refine zo (op_nilCheck rfl) (zo (op_fieldAddr Try.underlying156 rfl ti31 rfl (by decide)) ?_)
  have hobt := oblkSt2 (v := .slice FO (gR + 1) FP) (i := 12) (cs' := #[.int .i64 ((ix a0 (0 : Int)).length : Int), .bool true, .slice p35 n37 c36, .slice xY (ig + 1) x4, .slice y9 (ie + 1) zc, .slice AH (ic + 1) AI, .slice none 0 0, .slice iP g8 iQ, .int .i64 (0 : Int), .map (some B4), .slice Cx (ia + 1) Cy, .slice Ee (g9 + 1) Ef, .slice FO (gR + 1) FP]) 8 hO rfl rfl rfl rfl
  obtain ⟨V5, jA, JG⟩ := hobt
  dsimp only [sS, sZ] at jA
  refine zg (JG Try.underlying31 rfl ti31 (by exact rfl) (by exact rfl)) ?_
  replace hO := jA.own
  refine zn ?_
  refine Go1.inBlock ?_
  refine Go1.cut [(6, .pointer (some ⟨B10, 0, none⟩)), (9, .int .i64 (0 : Int)), (85, .slice p35 n37 c36), (86, .int .i64 (d_32.length : Int)), (87, .int .i64 (k3_548 : Int))] ⟨rfl, rfl, rfl, rfl, rfl, trivial⟩ ?_
  intro σ _
  refine zr ?_
  replace au := ((au.ch Z44).ch j4.ch).ch jA.ch
  refine zo (op_add rfl rfl (wrap_i64 (natbd AG au.bd))) (zm rfl (zn ?_))
  replace By := By.ch jA.ch
  replace hB := (hB.trans j4.fr).trans jA.fr
  have Z45 := (((j3.ch.trans kC.ch).trans oe).trans j4.ch).trans jA.ch
  replace sV := sV.ch Z45
  have Z46 := (((((((kA.ch.trans lr.ch).trans pT).trans kB.ch).trans j3.ch).trans kC.ch).trans oe).trans j4.ch).trans jA.ch
  replace kY := kY.ch Z46
  have Z47 := (((((((((((lm.ch.trans me.ch).trans rC).trans lp.ch).trans kA.ch).trans lr.ch).trans pT).trans kB.ch).trans j3.ch).trans kC.ch).trans oe).trans j4.ch).trans jA.ch
  replace gV := gV.ch Z47
  have Z48 := (((((((((((((((mb.ch.trans m3.ch).trans sf).trans mc.ch).trans lm.ch).trans me.ch).trans rC).trans lp.ch).trans kA.ch).trans lr.ch).trans pT).trans kB.ch).trans j3.ch).trans kC.ch).trans oe).trans j4.ch).trans jA.ch
  replace fI := fI.ch Z48
  have Z49 := (((((((((((((((((((mX.ch.trans oK.ch).trans sU).trans mY.ch).trans mb.ch).trans m3.ch).trans sf).trans mc.ch).trans lm.ch).trans me.ch).trans rC).trans lp.ch).trans kA.ch).trans lr.ch).trans pT).trans kB.ch).trans j3.ch).trans kC.ch).trans oe).trans j4.ch).trans jA.ch
  replace er := er.ch Z49
  replace cg := ((cg.ch Z44).ch j4.ch).ch jA.ch
  exact hX3 _ H _ _ ⟨gR + 1, FO, FP, NW, g8, iP, iQ, pM, g9 + 1, Ee, Ef, NT, ia + 1, Cx, Cy, NQ, ic + 1, AH, AI, NN, ie + 1, y9, zc, NK, ig + 1, xY, x4, NH, ⟨rfl, rfl, rfl, rfl, rfl, trivial⟩, hO, By, cg, sV, kY, gV, fI, er, au, hB⟩
 replace H := ifn AG H
 refine zo (fun w => opB (op_lss rfl rfl w) (decide_eq_false AG)) (zn (zq (zf rfl rfl ?_)))
 refine Go1.exit rfl ?_
 refine zq (zr (zm rfl (za rfl (za rfl (zn ?_)))))
 have sJ := Stp.nil (e := 31) (r := 1) hO
 replace hO := sJ.own
 have jB := Els.nil (Rp.sl (Rp.int .i64)) (bl (.row 31 1 none 0 0 [] :: [.row 3 1 je gR jf rv, .row 185 2 iP g8 iQ pM, .row 3 1 iR g9 iT pN, .row 9 1 jg ia jh pO, .row 3 1 jy ic jz pP, .row 3 1 jQ ie jR pQ, .row 31 1 kg ig kh pS, .row 31 1 p35 n37 c36 fB, .blk B10 (.cells #[.int .i64 ((ix a0 (0 : Int)).length : Int), .bool true, .slice p35 n37 c36, .slice kg ig kh, .slice jQ ie jR, .slice jy ic jz, .slice none 0 0, .slice iP g8 iQ, .int .i64 (0 : Int), .map (some B4), .slice jg ia jh, .slice iR g9 iT, .slice je gR jf] 156 (0, 0)), .any (mapE (fun a : List UInt8 => Value.string (gstr a)) (fun a : Int => Value.int .i64 a) B4 m3_591)]) ++ A) Rh
 have qD := Stp.front 10 hO rfl
 dsimp only [eS, eZ] at qD
 replace hO := qD.own
 have qE := Stp.front 2 hO rfl
 dsimp only [eS, eZ] at qE
 replace hO := qE.own
 have qF := Stp.front 4 hO rfl
 dsimp only [eS, eZ] at qF
 replace hO := qF.own
 have qG := Stp.front 5 hO rfl
 dsimp only [eS, eZ] at qG
 replace hO := qG.own
 have qH := Stp.front 5 hO rfl
 dsimp only [eS, eZ] at qH
 replace hO := qH.own
 have qI := Stp.front 5 hO rfl
 dsimp only [eS, eZ] at qI
 replace hO := qI.own
 have qJ := Stp.front 6 hO rfl
 dsimp only [eS, eZ] at qJ
 replace hO := qJ.own
 have qK := Stp.front 7 hO rfl
 dsimp only [eS, eZ] at qK
 replace hO := qK.own
 have qL := Stp.front 8 hO rfl
 dsimp only [eS, eZ] at qL
 replace hO := qL.own
 have qM := Stp.front 9 hO rfl
 dsimp only [eS, eZ] at qM
 replace hO := qM.own
 have qN := Stp.front 10 hO rfl
 dsimp only [eS, eZ] at qN
 replace hO := qN.own
 refine Go1.ret2 Try.func131 rfl ?_
 have Z50 := (((((((((qD.ch.trans qE.ch).trans qF.ch).trans qG.ch).trans qH.ch).trans qI.ch).trans qJ.ch).trans qK.ch).trans qL.ch).trans qM.ch).trans qN.ch
 replace jB := jB.ch Z50
 have Z51 := ((((((((((sJ.ch.trans qD.ch).trans qE.ch).trans qF.ch).trans qG.ch).trans qH.ch).trans qI.ch).trans qJ.ch).trans qK.ch).trans qL.ch).trans qM.ch).trans qN.ch
 replace cb := cb.ch Z51
 replace cg := cg.ch Z51
 replace ci := ci.ch Z51
 replace cp := cp.ch Z51
 replace cV := cV.ch Z51
 replace dj := dj.ch Z51
 replace dz := dz.ch Z51
 replace au := au.ch Z51
 replace hB := (((((((((((hB.trans sJ.fr).trans qD.fr).trans qE.fr).trans qF.fr).trans qG.fr).trans qH.fr).trans qI.fr).trans qJ.fr).trans qK.fr).trans qL.fr).trans qM.fr).trans qN.fr
 exact Or.inr ⟨(⟨(⟨((ix a0 (0 : Int)).length : Int), true, d_32, d_585, d_579, d_573, ([] : List (List Int)), d_555, (0 : Int)⟩ : Enum), m3_591, d_567, d_561, d_549⟩ : run), ((0 : Int)), B10, n37, p35, c36, fB, ig, kg, kh, pS, ie, jQ, jR, pQ, ic, jy, jz, pP, 0, none, 0, ([]), g8, iP, iQ, pM, B4, ia, jg, jh, pO, g9, iR, iT, pN, gR, je, jf, rv, rfl, hB.same, hO, au, dz, dj, cV, jB, cg, cp, ci, cb, H⟩
theorem body158 : Body Try.prog 158 := ⟨Try.f158, Try.func158, rfl, by kernel_rfl⟩
theorem walk_trans_Compose {A : List Nat} {w0 : World} {p_f : Option Addr} {c_f : Nat} {p_g : Option Addr} {c_g : Nat} {f : List Int} {g : List Int} (hA : ∀ b ∈ A, b < w0.heap.size) (h_f : ISl (Rp.int .i64) A w0 p_f c_f f) (h_g : ISl (Rp.int .i64) A w0 p_g c_g g) {K : List Int → Prop} (H : trans_Compose f g K) :
    CallsV Try.prog 158 #[.slice p_f f.length c_f, .slice p_g g.length c_g] w0 (fun v w' => ∃ (r0 : List Int), ∃ (u4 : Option Addr), ∃ (u5 : Nat), v = .slice u4 r0.length u5 ∧ Same w0 w' ∧ ISl (Rp.int .i64) A w' u4 u5 r0 ∧ K r0) := by
 refine CallsV.of (l := [.slice p_f f.length c_f, .slice p_g g.length c_g]) Try.func158 rfl Try.ntmps158 rfl ?_
 have hO := Owns.start hA
 have hB := Fr.refl (bl []) w0
 unfold trans_Compose at H
 refine zq (zr (za rfl (zn (zq (zq ?_)))))
 refine zr (zm rfl (zo (op_len Try.underlying31 rfl) ?_))
 replace h_f := h_f.ch (Ch.start A w0)
 replace H := H h_f.bd
 refine zm rfl (zo (op_len Try.underlying31 rfl) ?_)
 replace h_g := h_g.ch (Ch.start A w0)
 replace H := H h_g.bd
 by_cases h1 : (f.length : Int) = (g.length : Int)
 ·replace H := ifp h1 H
  refine zo (fun w => opB (op_neq rfl rfl w) (ndT h1)) (zm rfl (zm rfl ?_))
  refine GoR.call (op_call body154 rfl (walk_trans_Valid hO.lt h_f H)) rfl rfl ?_
  rintro v6 w3 ⟨r2, rfl, hs4, H⟩
  have lT := Stp.same hO hs4
  replace hO := lT.own
  cases r2
  ·replace H := ifn Bool.false_ne_true H
   refine zo (op_not rfl) (zo (op_pickF rfl rfl rfl) (zm rfl (zp (zp (zp ?_)))))
   refine zo (op_pickT rfl rfl rfl) (zn (zt rfl rfl (zq (zr (za rfl ?_)))))
   refine zn ?_
   refine Go1.ret1 Try.func158 rfl ?_
   replace hB := hB.trans lT.fr
   exact ⟨([] : List Int), none, 0, rfl, hB.same, (ISl.null _ _ _), H⟩
  replace H := ifp rfl H
  refine zo (op_not rfl) (zo (op_pickF rfl rfl rfl) (zm rfl (zm rfl ?_)))
  replace h_g := h_g.ch lT.ch
  refine GoR.call (op_call body154 rfl (walk_trans_Valid hO.lt h_g H)) rfl rfl ?_
  rintro v12 w9 ⟨r8, rfl, xa, H⟩
  have vc := Stp.same hO xa
  replace hO := vc.own
  cases r8
  ·replace H := ifn Bool.false_ne_true H
   refine zo (op_not rfl) (zo (op_pickF rfl rfl rfl) (zn (zt rfl rfl (zq ?_))))
   refine Go1.cut [] trivial ?_
   intro σ _
   refine zr (za rfl (zn ?_))
   refine Go1.ret1 Try.func158 rfl ?_
   replace hB := (hB.trans lT.fr).trans vc.fr
   exact ⟨([] : List Int), none, 0, rfl, hB.same, (ISl.null _ _ _), H⟩
  replace H := ifp rfl H
  refine zo (op_not rfl) (zo (op_pickF rfl rfl rfl) (zn (zf rfl rfl (zk (zq ?_)))))
  refine zr (zm rfl (zo (op_len Try.underlying31 rfl) ?_))
  obtain ⟨h21, H⟩ := H
  obtain ⟨h22, H⟩ := H
  have hobt := omake (n := (f.length : Int)) (r := Rp.int .i64) (d := (0 : Int)) Try.underlying31 ti3 (fun _ _ => rfl) rfl hO h21 h22 (by decide)
  obtain ⟨w14, p15, xi, vb, c9, Qp, zK⟩ := hobt
  refine zg (zK rfl rfl) ?_
  replace hO := vb.own
  refine za rfl (zn (zq (zq (zr (zm rfl ?_)))))
  refine zo (op_len Try.underlying31 rfl) (zm rfl (zn (zb ?_)))
  replace h_g := (h_g.ch vc.ch).ch vb.ch
  have Z1 := (lT.ch.trans vc.ch).trans vb.ch
  replace h_f := h_f.ch Z1
  replace hB := ((hB.trans lT.fr).trans vc.fr).trans vb.fr
  refine Go1.loopW (S := Nat × List Int) (fun s σ w => match s with | (k1_25, h1_26) => ∃ (zd : List Value), agrees σ [(1, .slice p_g g.length c_g), (5, .slice p15 f.length f.length), (26, .slice p_f f.length c_f), (27, .int .i64 (f.length : Int)), (28, .int .i64 (k1_25 : Int))] ∧ (fun Z0 => Owns w0.heap.size w Z0 A ∧ Els (Rp.int .i64) (bl Z0 ++ A) w zd h1_26 ∧ ISl (Rp.int .i64) (bl Z0 ++ A) w p_f c_f f ∧ ISl (Rp.int .i64) (bl Z0 ++ A) w p_g c_g g ∧ Fr (bl []) w0 (bl Z0) w) [.row 3 1 p15 f.length f.length zd]) H ⟨xi, ⟨rfl, rfl, rfl, rfl, rfl, trivial⟩, hO, c9, h_f, h_g, hB⟩ ?_
  intro X1
  refine prE fun k1_25 => fun h1_26 => ?_
  intro H hX1 σ w24
  refine exE fun zd => andE fun hag => andE fun hO => andE fun Eg => andE fun h_f => andE fun h_g => fun hB => ?_
  dsimp only at H
  refine Go1.keep [(1, .slice p_g g.length c_g), (5, .slice p15 f.length f.length), (26, .slice p_f f.length c_f), (27, .int .i64 (f.length : Int)), (28, .int .i64 (k1_25 : Int))] hag ?_
  refine zq (zr ?_)
  by_cases h29 : (k1_25 : Int) < (f.length : Int)
  ·replace H := ifp h29 H
   refine zo (fun w => opB (op_lss rfl rfl w) (decide_eq_true h29)) (zn (zq (zt rfl rfl (zk (zq ?_)))))
   refine zb (zq (zr (zm rfl ?_)))
   obtain ⟨h30, H⟩ := H
   obtain ⟨h31, H⟩ := H
   refine zo (op_index Try.underlying31 ti3 rfl rfl h30 h31 (h_f.some_ h30 h31)) (zs (ldInt h_f h30 h31 Try.underlying3 rfl rfl) (za rfl (za rfl (zn (zr ?_)))))
   refine zm rfl (zm rfl (zm rfl (zm rfl ?_)))
   obtain ⟨h32, H⟩ := H
   obtain ⟨h33, H⟩ := H
   refine zo (op_index Try.underlying31 ti3 rfl rfl h32 h33 (h_g.some_ h32 h33)) (zs (ldInt h_g h32 h33 Try.underlying3 rfl rfl) ?_)
   obtain ⟨h34, H⟩ := H
   obtain ⟨h35, H⟩ := H
   refine zo (op_index Try.underlying31 ti3 rfl rfl h34 (ltn (Eg.neq hO 0 rfl) h35) (Eg.psome hO 0 rfl h34 h35)) ?_
   have hobt := ost (r := Rp.int .i64) rfl 0 hO rfl Eg h34 h35 (v := .int .i64 (ix g (ix f (k1_25 : Int)))) (u := (ix g (ix f (k1_25 : Int)))) rfl rfl
   obtain ⟨w36, Rv, Bz, Rw, NX⟩ := hobt
   refine zg (NX Try.underlying3 rfl ti3 (by exact rfl) (by exact rfl)) ?_
   replace hO := Bz.own
   refine zn ?_
   refine Go1.inBlock ?_
   refine zr ?_
   replace h_f := h_f.ch Bz.ch
   refine zo (op_add rfl rfl (wrap_i64 (natbd h29 h_f.bd))) (zm rfl (zn ?_))
   replace h_g := h_g.ch Bz.ch
   replace hB := hB.trans Bz.fr
   exact hX1 _ H _ _ ⟨Rv, ⟨rfl, rfl, rfl, rfl, rfl, trivial⟩, hO, Rw, h_f, h_g, hB⟩
  replace H := ifn h29 H
  refine zo (fun w => opB (op_lss rfl rfl w) (decide_eq_false h29)) (zn (zq (zf rfl rfl ?_)))
  refine Go1.exit rfl ?_
  refine zq (zr (zm rfl (za rfl (zn ?_))))
  have hobt := freeze 0 hO rfl Eg
  obtain ⟨hO1, yP, uW, EL⟩ := hobt
  replace hO := hO1; clear hO1
  refine Go1.ret1 Try.func158 rfl ?_
  replace hB := hB.trans (Owns.dropFr _ _ 0)
  exact ⟨h1_26, p15, f.length, (congrArg (fun nn => Value.slice p15 nn f.length) EL), hB.same, (uW.ch (Ch.weak _ _ _)), H⟩
 replace H := ifn h1 H
 refine zo (fun w => opB (op_neq rfl rfl w) (ndF h1)) (zm rfl (zp (zp (zp (zo (op_pickT rfl rfl rfl) ?_)))))
 refine zm rfl (zp (zp (zp (zo (op_pickT rfl rfl rfl) (zn ?_)))))
 refine zt rfl rfl (zq ?_)
 refine Go1.cut [] trivial ?_
 intro σ _
 refine zr (za rfl (zn ?_))
 refine Go1.ret1 Try.func158 rfl ?_
 exact ⟨([] : List Int), none, 0, rfl, hB.same, (ISl.null _ _ _), H⟩
end Sg
