/- -/
import Derived.Test.YtlneebpmblkllaaTi
import Derived.Test.YtlneebpmblkllaaWSyntacticMonoidsb
import Derived.Test.YtlneebpmblkllaaAl
namespace Sg
open Go Go.RowKit Go.Proofs
set_option linter.unusedVariables false
set_option linter.unusedSimpArgs false
set_option maxRecDepth 100000
set_option maxHeartbeats 4000000
theorem body155 : Body Try.prog 155 := ⟨Try.f155, Try.func155, rfl, by kernel_rfl⟩
theorem body131 : Body Try.prog 131 := ⟨Try.f131, Try.func131, rfl, by kernel_rfl⟩
theorem J33 {A : List Nat} {w0 : World} {yo : Option Addr} {yp : Nat} {a0 : List (List Int)} {a1 : Bool} (hA : ∀ b ∈ A, b < w0.heap.size) (cS : ISl (Rp.sl (Rp.int .i64)) A w0 yo yp a0) {K : Option run → Int → Prop} (H : J12 a0 a1 K) :
    CallsV Try.prog 131 #[.slice yo a0.length yp, .bool a1] w0 (fun v w' => (∃ (r1 : Int), v = .tuple #[.pointer none, .int .i64 r1] ∧ Same w0 w' ∧ K none r1) ∨ (∃ (q : run) (r1 : Int) (b_q : Nat) (cr : Nat) (cv : Option Addr) (cw : Nat) (d4 : List Value) (bY : Nat) (b7 : Option Addr) (b8 : Nat) (dP : List Value) (bK : Nat) (bM : Option Addr) (bN : Nat) (dD : List Value) (cx : Nat) (cy : Option Addr) (cz : Nat) (d5 : List Value) (b9 : Nat) (ca : Option Addr) (cb : Nat) (dQ : List Value) (cd : Nat) (ce : Option Addr) (cf : Nat) (dR : List Value) (f5 : Nat) (dF : Nat) (dG : Option Addr) (dH : Nat) (fA : List Value) (c6 : Nat) (c7 : Option Addr) (c8 : Nat) (e9 : List Value) (c9 : Nat) (db : Option Addr) (de : Nat) (fd : List Value), v = .tuple #[.pointer (some ⟨b_q, 0, none⟩), .int .i64 r1] ∧ Same w0 w' ∧ (fun Z0 => Owns w0.heap.size w' Z0 A ∧ Els (Rp.sl (Rp.int .i64)) (bl Z0 ++ A) w' d4 q.Enum.Gens ∧ Els (Rp.sl (Rp.int .i64)) (bl Z0 ++ A) w' dP q.Enum.Elems ∧ Els (Rp.int .i64) (bl Z0 ++ A) w' dD q.Enum.Prefix ∧ Els (Rp.int .i64) (bl Z0 ++ A) w' d5 q.Enum.Last ∧ Els (Rp.sl (Rp.int .i64)) (bl Z0 ++ A) w' dQ q.Enum.Right ∧ Els (rpRule) (bl Z0 ++ A) w' dR q.Enum.Rules ∧ Els (Rp.str) (bl Z0 ++ A) w' fA q.words ∧ Els (Rp.int .i64) (bl Z0 ++ A) w' e9 q.behind ∧ Els (Rp.int .i64) (bl Z0 ++ A) w' fd q.single ∧ K (some q) r1) [.blk b_q (.cells #[.int .i64 q.Enum.Points, .bool q.Enum.Monoid, .slice cv cr cw, .slice b7 bY b8, .slice bM bK bN, .slice cy cx cz, .slice ca b9 cb, .slice ce cd cf, .int .i64 q.Enum.Done, .map (some f5), .slice dG dF dH, .slice c7 c6 c8, .slice db c9 de] 156 (0, 0)), .row 31 1 cv cr cw d4, .row 31 1 b7 bY b8 dP, .row 3 1 bM bK bN dD, .row 3 1 cy cx cz d5, .row 31 1 ca b9 cb dQ, .row 185 2 ce cd cf dR, .row 9 1 dG dF dH fA, .row 3 1 c7 c6 c8 e9, .row 3 1 db c9 de fd, .any (mapE (fun a : List UInt8 => Value.string (gstr a)) (fun a : Int => Value.int .i64 a) f5 q.number)])) := by
 refine CallsV.of (l := [.slice yo a0.length yp, .bool a1]) Try.func131 rfl Try.ntmps131 rfl ?_
 have hO := Owns.start hA
 have hB := Fr.refl (bl []) w0
 unfold J12 at H
 refine zq (zr (za rfl (za rfl (zn (zq ?_)))))
 refine zq (zr (zm rfl (zo (J0c Try.underlying23 rfl) ?_)))
 replace cS := cS.ch (Ch.start A w0)
 replace H := H cS.bd
 by_cases h1 : (a0.length : Int) = (0 : Int)
 ·replace H := ifp h1 H
  refine zo (fun w => opB (J0D rfl rfl w) (decide_eq_true h1)) (zm rfl (zp (zp (zp (zo (J04 rfl rfl rfl) ?_)))))
  refine zn (zt rfl rfl (zq (zr (za rfl (za rfl ?_)))))
  refine zn ?_
  refine Go1.ret2 Try.func131 rfl ?_
  exact Or.inl ⟨((1 : Int)), rfl, hB.same, H⟩
 replace H := ifn h1 H
 refine zo (fun w => opB (J0D rfl rfl w) (decide_eq_false h1)) (zm rfl (zm rfl (zo (J0c Try.underlying23 rfl) ?_)))
 by_cases h2 : (6 : Int) < (a0.length : Int)
 ·replace H := ifp h2 H
  refine zo (fun w => opB (J17 rfl rfl w) (decide_eq_true h2)) (zo (J05 rfl rfl rfl) (zn (zt rfl rfl (zq (zr ?_)))))
  refine za rfl (za rfl (zn ?_))
  refine Go1.ret2 Try.func131 rfl ?_
  exact Or.inl ⟨((1 : Int)), rfl, hB.same, H⟩
 replace H := ifn h2 H
 refine zo (fun w => opB (J17 rfl rfl w) (decide_eq_false h2)) (zo (J05 rfl rfl rfl) (zn (zf rfl rfl (zk (zq ?_)))))
 refine Go1.cut [(0, .slice yo a0.length yp), (1, .bool a1)] ⟨rfl, rfl, trivial⟩ ?_
 intro σ _
 refine zr ?_
 have zz := omakeMap (fun a : List UInt8 => Value.string (gstr a)) (fun a : Int => Value.int .i64 a) hO
 obtain ⟨w3, B4, GX, hs6, DK⟩ := zz
 refine GoR.op DK rfl rfl ?_
 replace hO := GX.own
 refine zo (J0w Try.underlying156 ti156 (pl := [(0, 9), (9, 1), (10, 1), (11, 1), (12, 1)]) (vs := [(1, .map (some B4))]) (cs := #[.int .i64 0, .bool false, .slice none 0 0, .slice none 0 0, .slice none 0 0, .slice none 0 0, .slice none 0 0, .slice none 0 0, .int .i64 0, .map (some B4), .slice none 0 0, .slice none 0 0, .slice none 0 0]) (by kernel_rfl) rfl (by kernel_rfl)) ?_
 have zz := obox (t := 156) (v := .agg #[.int .i64 0, .bool false, .slice none 0 0, .slice none 0 0, .slice none 0 0, .slice none 0 0, .slice none 0 0, .slice none 0 0, .int .i64 0, .map (some B4), .slice none 0 0, .slice none 0 0, .slice none 0 0]) (cs := #[.int .i64 0, .bool false, .slice none 0 0, .slice none 0 0, .slice none 0 0, .slice none 0 0, .slice none 0 0, .slice none 0 0, .int .i64 0, .map (some B4), .slice none 0 0, .slice none 0 0, .slice none 0 0]) hO rfl
 obtain ⟨w9, B10, Fc, W6, Ou⟩ := zz
 refine zg (Ou rfl) ?_
 replace hO := Fc.own
 refine za rfl (zn (zq (zr (zm rfl (zm rfl ?_)))))
 refine zm rfl ?_
 obtain ⟨h15, H⟩ := H
 obtain ⟨h16, H⟩ := H
 replace cS := (cS.ch GX.ch).ch Fc.ch
 refine zo (J02 Try.underlying23 ti31 rfl rfl h15 h16 (cS.some_ h15 h16)) ?_
 have zz := ldSl cS h15 h16
 obtain ⟨p17, c18, Au, Tj⟩ := zz
 refine zs (Tj Try.underlying31 rfl rfl) (zo (J0c Try.underlying31 rfl) ?_)
 replace H := H Au.bd
 refine zm rfl (zo (J01 rfl) (zo (J00 Try.underlying156 rfl ti123 rfl (by decide)) (zo (J00 Try.underlying123 rfl ti3 rfl (by decide)) ?_)))
 have zz := J0h (v := .int .i64 ((ix a0 (0 : Int)).length : Int)) (i := 0) (cs' := #[.int .i64 ((ix a0 (0 : Int)).length : Int), .bool false, .slice none 0 0, .slice none 0 0, .slice none 0 0, .slice none 0 0, .slice none 0 0, .slice none 0 0, .int .i64 0, .map (some B4), .slice none 0 0, .slice none 0 0, .slice none 0 0]) 0 hO rfl rfl rfl rfl
 obtain ⟨w21, jG, Ov⟩ := zz
 refine zg (Ov Try.underlying3 rfl ti3 (by exact rfl) (by exact rfl)) ?_
 replace hO := jG.own
 refine zo (J01 rfl) (zo (J00 Try.underlying156 rfl ti123 rfl (by decide)) (zo (J00 Try.underlying123 rfl ti4 rfl (by decide)) ?_))
 have zz := J0h (v := .bool a1) (i := 1) (cs' := #[.int .i64 ((ix a0 (0 : Int)).length : Int), .bool a1, .slice none 0 0, .slice none 0 0, .slice none 0 0, .slice none 0 0, .slice none 0 0, .slice none 0 0, .int .i64 0, .map (some B4), .slice none 0 0, .slice none 0 0, .slice none 0 0]) 0 hO rfl rfl rfl rfl
 obtain ⟨w24, m7, EM⟩ := zz
 refine zg (EM Try.underlying4 rfl ti4 (by exact rfl) (by exact rfl)) ?_
 replace hO := m7.own
 refine zn (zq (zq ?_))
 refine Go1.cut [(0, .slice yo a0.length yp), (1, .bool a1), (6, .pointer (some ⟨B10, 0, none⟩))] ⟨rfl, rfl, rfl, trivial⟩ ?_
 intro σ _
 refine zr (zm rfl (zo (J0c Try.underlying23 rfl) (zm rfl (zn (zb ?_)))))
 have gt := Stp.nil (e := 31) (r := 1) hO
 replace hO := gt.own
 have wM := Els.nil (Rp.sl (Rp.int .i64)) (bl (.row 31 1 none 0 0 [] :: [.blk B10 (.cells #[.int .i64 ((ix a0 (0 : Int)).length : Int), .bool a1, .slice none 0 0, .slice none 0 0, .slice none 0 0, .slice none 0 0, .slice none 0 0, .slice none 0 0, .int .i64 0, .map (some B4), .slice none 0 0, .slice none 0 0, .slice none 0 0] 156 (0, 0)), .any (mapE (fun a : List UInt8 => Value.string (gstr a)) (fun a : Int => Value.int .i64 a) B4 (([] : List (Str × Int))))]) ++ A) w24
 have Z1 := (jG.ch.trans m7.ch).trans gt.ch
 replace cS := cS.ch Z1
 replace hB := ((((hB.trans GX.fr).trans Fc.fr).trans jG.fr).trans m7.fr).trans gt.fr
 refine Go1.loopW (S := Nat × List (List Int)) (fun s σ w => match s with | (k1_31, d_32) => ∃ (n37 : Nat) (p35 : Option Addr) (c36 : Nat) (gD : List Value), agrees σ [(1, .bool a1), (6, .pointer (some ⟨B10, 0, none⟩)), (39, .slice yo a0.length yp), (40, .int .i64 (a0.length : Int)), (41, .int .i64 (k1_31 : Int))] ∧ (fun Z0 => Owns w0.heap.size w Z0 A ∧ Els (Rp.sl (Rp.int .i64)) (bl Z0 ++ A) w gD d_32 ∧ ISl (Rp.sl (Rp.int .i64)) (bl Z0 ++ A) w yo yp a0 ∧ Fr (bl []) w0 (bl Z0) w) [.row 31 1 p35 n37 c36 gD, .blk B10 (.cells #[.int .i64 ((ix a0 (0 : Int)).length : Int), .bool a1, .slice p35 n37 c36, .slice none 0 0, .slice none 0 0, .slice none 0 0, .slice none 0 0, .slice none 0 0, .int .i64 0, .map (some B4), .slice none 0 0, .slice none 0 0, .slice none 0 0] 156 (0, 0)), .any (mapE (fun a : List UInt8 => Value.string (gstr a)) (fun a : Int => Value.int .i64 a) B4 (([] : List (Str × Int))))]) H ⟨0, none, 0, [], ⟨rfl, rfl, rfl, rfl, rfl, trivial⟩, hO, wM, cS, hB⟩ ?_
 intro X1
 refine prE fun k1_31 => fun d_32 => ?_
 intro H hX1 σ w30
 refine exE fun n37 => exE fun p35 => exE fun c36 => exE fun gD => andE fun hag => andE fun hO => andE fun ax => andE fun cS => fun hB => ?_
 dsimp only at H
 refine Go1.keep [(1, .bool a1), (6, .pointer (some ⟨B10, 0, none⟩)), (39, .slice yo a0.length yp), (40, .int .i64 (a0.length : Int)), (41, .int .i64 (k1_31 : Int))] hag ?_
 refine zq (zr ?_)
 by_cases h38 : (k1_31 : Int) < (a0.length : Int)
 ·replace H := ifp h38 H
  refine zo (fun w => opB (J08 rfl rfl w) (decide_eq_true h38)) (zn (zq (zt rfl rfl (zk (zq ?_)))))
  refine zb (zq (zr ?_))
  obtain ⟨h39, H⟩ := H
  obtain ⟨h40, H⟩ := H
  refine zo (J02 Try.underlying23 ti31 rfl rfl h39 h40 (cS.some_ h39 h40)) ?_
  have zz := ldSl cS h39 h40
  obtain ⟨p41, c42, qX, Tk⟩ := zz
  refine zs (Tk Try.underlying31 rfl rfl) (za rfl (zn (zq (zq (zr ?_)))))
  refine zm rfl (zo (J0c Try.underlying31 rfl) ?_)
  replace H := H qX.bd
  refine zm rfl (zo (J01 rfl) (zo (J00 Try.underlying156 rfl ti123 rfl (by decide)) (zo (J00 Try.underlying123 rfl ti3 rfl (by decide)) (zs (oblk (i := 0) 1 hO rfl rfl Try.underlying3 rfl rfl) ?_))))
  by_cases h45 : ((ix a0 (k1_31 : Int)).length : Int) = ((ix a0 (0 : Int)).length : Int)
  ·replace H := ifp h45 H
   refine zo (fun w => opB (J0j rfl rfl w) (ndT h45)) (zm rfl (zm rfl ?_))
   refine GoR.call (J0a body154 rfl (J1H hO.lt qX H)) rfl rfl ?_
   rintro v50 w47 ⟨r46, rfl, JJ, H⟩
   have vp := Stp.same hO JJ
   replace hO := vp.own
   cases r46
   ·replace H := ifn Bool.false_ne_true H
    refine zo (J0g rfl) (zo (J05 rfl rfl rfl) (zn (zt rfl rfl (zq (zr ?_)))))
    refine za rfl (za rfl (zn ?_))
    refine Go1.ret2 Try.func131 rfl ?_
    replace hB := hB.trans vp.fr
    exact Or.inl ⟨((4 : Int)), rfl, hB.same, H⟩
   replace H := ifp rfl H
   refine zo (J0g rfl) (zo (J05 rfl rfl rfl) (zn (zf rfl rfl (zk ?_))))
   refine Go1.cut [(1, .bool a1), (6, .pointer (some ⟨B10, 0, none⟩)), (8, .slice p41 ((ix a0 (k1_31 : Int)).length) c42), (39, .slice yo a0.length yp), (40, .int .i64 (a0.length : Int)), (41, .int .i64 (k1_31 : Int))] ⟨rfl, rfl, rfl, rfl, rfl, rfl, trivial⟩ ?_
   intro σ _
   refine Go1.drawS 1 [(0, .pure), (1, .pure), (2, .pure), (3, .pure), (4, .pure), (5, .stable), (6, .pure), (7, .loud), (8, .loud), (9, .last), (10, .pure), (11, .pure), (12, .pure), (13, .last)] mixed (by kernel_rfl) ?_
   intro w52 Tl
   have Bd := Stp.same hO Tl
   replace hO := Bd.own
   refine GoQ.pure rfl (J03 rfl) rfl rfl ?_
   refine GoQ.pure rfl (J03 rfl) rfl rfl ?_
   refine GoQ.pure rfl (J01 rfl) rfl rfl ?_
   refine GoQ.pure rfl (J00 Try.underlying156 rfl ti123 rfl (by decide)) rfl rfl ?_
   refine GoQ.pure rfl (J00 Try.underlying123 rfl ti23 rfl (by decide)) rfl rfl ?_
   refine GoQ.stable rfl (oblk (i := 2) 1 hO rfl rfl Try.underlying23 rfl rfl) rfl rfl ?_
   refine GoQ.pure rfl (J03 rfl) rfl rfl ?_
   replace qX := (qX.ch vp.ch).ch Bd.ch
   refine GoQ.call rfl (J0a body86 rfl (J0I hO.lt qX H)) (fun v w hr => by obtain ⟨_, _, _, _, _, _, hs, _, _, _⟩ := hr; assumption) rfl rfl ?_
   rintro v60 w57 ⟨r55, Jm, CO, CP, Vh, rfl, Tm, hN59, GY, H⟩
   have Be := Stp.more hO Tm hN59
   replace hO := Be.own
   replace GY := GY.ch (Ch.assoc _ _ _ _)
   have zz := freeze 0 hO rfl GY
   obtain ⟨hO1, G0, yq, Tn⟩ := zz
   replace hO := hO1; clear hO1
   have zz := J0n (r := Rp.sl (Rp.int .i64)) (n := 1) (parts := [(0, .slice CO Jm CP)]) (vs := [.slice CO Jm CP]) (xs := [r55]) rfl Try.underlying23 ti31 hO (by decide) (by kernel_rfl) (Els.cons rfl ⟨CO, CP, congrArg some (congrArg (fun nn => Value.slice CO nn CP) Tn), yq⟩ (Els.nil _ _ _) (by simp [mx])) rfl
   obtain ⟨w66, p67, zG, tW, To, Ow⟩ := zz
   refine GoQ.loud rfl (Ow rfl) To rfl rfl ?_
   replace hO := zG.own
   have zz := freeze 0 hO rfl tW
   obtain ⟨hO1, Fd, DL, Tp⟩ := zz
   replace hO := hO1; clear hO1
   obtain ⟨h76, H⟩ := H
   have Z2 := ((((vp.ch.trans Bd.ch).trans Be.ch).trans G0).trans zG.ch).trans Fd
   replace ax := ax.ch Z2
   have zz := oapp Try.underlying23 ti31 rfl 0 hO rfl ax DL Tp h76 (by decide)
   obtain ⟨w77, p78, c79, pX, jF, Ao, Fe⟩ := zz
   refine GoQ.last rfl (Fe (by exact rfl) (by exact rfl)) rfl rfl ?_
   replace hO := jF.own
   refine GoQ.pure rfl (J01 rfl) rfl rfl ?_
   refine GoQ.pure rfl (J00 Try.underlying156 rfl ti123 rfl (by decide)) rfl rfl ?_
   refine GoQ.pure rfl (J00 Try.underlying123 rfl ti23 rfl (by decide)) rfl rfl ?_
   have zz := J0h (v := .slice p78 (n37 + 1) c79) (i := 2) (cs' := #[.int .i64 ((ix a0 (0 : Int)).length : Int), .bool a1, .slice p78 (n37 + 1) c79, .slice none 0 0, .slice none 0 0, .slice none 0 0, .slice none 0 0, .slice none 0 0, .int .i64 0, .map (some B4), .slice none 0 0, .slice none 0 0, .slice none 0 0]) 1 hO rfl rfl rfl rfl
   obtain ⟨w85, nQ, Ff⟩ := zz
   refine GoQ.last rfl (Ff Try.underlying23 rfl ti23 (by exact rfl) (by exact rfl)) rfl rfl ?_
   replace hO := nQ.own
   refine GoQ.nil ?_
   refine Go1.inBlock ?_
   refine zr ?_
   replace cS := ((cS.ch Z2).ch jF.ch).ch nQ.ch
   refine zo (J0e rfl rfl (wrap_i64 (natbd h38 cS.bd))) (zm rfl (zn ?_))
   replace Ao := Ao.ch nQ.ch
   replace hB := (((((((hB.trans vp.fr).trans Bd.fr).trans Be.fr).trans (Owns.J09 _ _ 0)).trans zG.fr).trans (Owns.J09 _ _ 0)).trans jF.fr).trans nQ.fr
   exact hX1 _ H _ _ ⟨n37 + 1, p78, c79, pX, ⟨rfl, rfl, rfl, rfl, rfl, trivial⟩, hO, Ao, cS, hB⟩
  replace H := ifn h45 H
  refine zo (fun w => opB (J0j rfl rfl w) (ndF h45)) (zm rfl (zp (zp (zp (zo (J04 rfl rfl rfl) ?_)))))
  refine zn (zt rfl rfl (zq ?_))
  refine Go1.cut [] trivial ?_
  intro σ _
  refine zr (za rfl (za rfl (zn ?_)))
  refine Go1.ret2 Try.func131 rfl ?_
  exact Or.inl ⟨((4 : Int)), rfl, hB.same, H⟩
 replace H := ifn h38 H
 refine zo (fun w => opB (J08 rfl rfl w) (decide_eq_false h38)) (zn (zq (zf rfl rfl ?_)))
 refine Go1.exit rfl ?_
 refine zq (zr (za rfl (zn (zq (zq ?_)))))
 refine zr (zm rfl (zn ?_))
 cases a1
 ·replace H := ifn Bool.false_ne_true H
  refine zf rfl rfl (zk (zq (zq (zr (zm rfl ?_)))))
  refine zo (J01 rfl) (zo (J00 Try.underlying156 rfl ti123 rfl (by decide)) (zo (J00 Try.underlying123 rfl ti23 rfl (by decide)) (zs (oblk (i := 2) 1 hO rfl rfl Try.underlying23 rfl rfl) (zo (J0A Try.underlying23 rfl (ax.neq hO 0 rfl)) (zm rfl ?_)))))
  refine zn (zb ?_)
  have ka := Stp.nil (e := 31) (r := 1) hO
  replace hO := ka.own
  have cG := Els.nil (Rp.sl (Rp.int .i64)) (bl (.row 31 1 none 0 0 [] :: [.row 31 1 p35 n37 c36 gD, .blk B10 (.cells #[.int .i64 ((ix a0 (0 : Int)).length : Int), .bool false, .slice p35 n37 c36, .slice none 0 0, .slice none 0 0, .slice none 0 0, .slice none 0 0, .slice none 0 0, .int .i64 0, .map (some B4), .slice none 0 0, .slice none 0 0, .slice none 0 0] 156 (0, 0)), .any (mapE (fun a : List UInt8 => Value.string (gstr a)) (fun a : Int => Value.int .i64 a) B4 (([] : List (Str × Int))))]) ++ A) w30
  have jH := Stp.nil (e := 3) (r := 1) hO
  replace hO := jH.own
  have kt := Els.nil (Rp.int .i64) (bl (.row 3 1 none 0 0 [] :: [.row 31 1 none 0 0 [], .row 31 1 p35 n37 c36 gD, .blk B10 (.cells #[.int .i64 ((ix a0 (0 : Int)).length : Int), .bool false, .slice p35 n37 c36, .slice none 0 0, .slice none 0 0, .slice none 0 0, .slice none 0 0, .slice none 0 0, .int .i64 0, .map (some B4), .slice none 0 0, .slice none 0 0, .slice none 0 0] 156 (0, 0)), .any (mapE (fun a : List UInt8 => Value.string (gstr a)) (fun a : Int => Value.int .i64 a) B4 (([] : List (Str × Int))))]) ++ A) w30
  have oe := Stp.nil (e := 3) (r := 1) hO
  replace hO := oe.own
  have cC := Els.nil (Rp.int .i64) (bl (.row 3 1 none 0 0 [] :: [.row 3 1 none 0 0 [], .row 31 1 none 0 0 [], .row 31 1 p35 n37 c36 gD, .blk B10 (.cells #[.int .i64 ((ix a0 (0 : Int)).length : Int), .bool false, .slice p35 n37 c36, .slice none 0 0, .slice none 0 0, .slice none 0 0, .slice none 0 0, .slice none 0 0, .int .i64 0, .map (some B4), .slice none 0 0, .slice none 0 0, .slice none 0 0] 156 (0, 0)), .any (mapE (fun a : List UInt8 => Value.string (gstr a)) (fun a : Int => Value.int .i64 a) B4 (([] : List (Str × Int))))]) ++ A) w30
  have mq := Stp.nil (e := 185) (r := 2) hO
  replace hO := mq.own
  have xH := Els.nil (rpRule) (bl (.row 185 2 none 0 0 [] :: [.row 3 1 none 0 0 [], .row 3 1 none 0 0 [], .row 31 1 none 0 0 [], .row 31 1 p35 n37 c36 gD, .blk B10 (.cells #[.int .i64 ((ix a0 (0 : Int)).length : Int), .bool false, .slice p35 n37 c36, .slice none 0 0, .slice none 0 0, .slice none 0 0, .slice none 0 0, .slice none 0 0, .int .i64 0, .map (some B4), .slice none 0 0, .slice none 0 0, .slice none 0 0] 156 (0, 0)), .any (mapE (fun a : List UInt8 => Value.string (gstr a)) (fun a : Int => Value.int .i64 a) B4 (([] : List (Str × Int))))]) ++ A) w30
  have gX := Stp.nil (e := 9) (r := 1) hO
  replace hO := gX.own
  have cD := Els.nil (Rp.str) (bl (.row 9 1 none 0 0 [] :: [.row 185 2 none 0 0 [], .row 3 1 none 0 0 [], .row 3 1 none 0 0 [], .row 31 1 none 0 0 [], .row 31 1 p35 n37 c36 gD, .blk B10 (.cells #[.int .i64 ((ix a0 (0 : Int)).length : Int), .bool false, .slice p35 n37 c36, .slice none 0 0, .slice none 0 0, .slice none 0 0, .slice none 0 0, .slice none 0 0, .int .i64 0, .map (some B4), .slice none 0 0, .slice none 0 0, .slice none 0 0] 156 (0, 0)), .any (mapE (fun a : List UInt8 => Value.string (gstr a)) (fun a : Int => Value.int .i64 a) B4 (([] : List (Str × Int))))]) ++ A) w30
  have jy := Stp.nil (e := 3) (r := 1) hO
  replace hO := jy.own
  have Fg := Els.nil (Rp.int .i64) (bl (.row 3 1 none 0 0 [] :: [.row 9 1 none 0 0 [], .row 185 2 none 0 0 [], .row 3 1 none 0 0 [], .row 3 1 none 0 0 [], .row 31 1 none 0 0 [], .row 31 1 p35 n37 c36 gD, .blk B10 (.cells #[.int .i64 ((ix a0 (0 : Int)).length : Int), .bool false, .slice p35 n37 c36, .slice none 0 0, .slice none 0 0, .slice none 0 0, .slice none 0 0, .slice none 0 0, .int .i64 0, .map (some B4), .slice none 0 0, .slice none 0 0, .slice none 0 0] 156 (0, 0)), .any (mapE (fun a : List UInt8 => Value.string (gstr a)) (fun a : Int => Value.int .i64 a) B4 (([] : List (Str × Int))))]) ++ A) w30
  have ud := Stp.nil (e := 3) (r := 1) hO
  replace hO := ud.own
  have Ox := Els.nil (Rp.int .i64) (bl (.row 3 1 none 0 0 [] :: [.row 3 1 none 0 0 [], .row 9 1 none 0 0 [], .row 185 2 none 0 0 [], .row 3 1 none 0 0 [], .row 3 1 none 0 0 [], .row 31 1 none 0 0 [], .row 31 1 p35 n37 c36 gD, .blk B10 (.cells #[.int .i64 ((ix a0 (0 : Int)).length : Int), .bool false, .slice p35 n37 c36, .slice none 0 0, .slice none 0 0, .slice none 0 0, .slice none 0 0, .slice none 0 0, .int .i64 0, .map (some B4), .slice none 0 0, .slice none 0 0, .slice none 0 0] 156 (0, 0)), .any (mapE (fun a : List UInt8 => Value.string (gstr a)) (fun a : Int => Value.int .i64 a) B4 (([] : List (Str × Int))))]) ++ A) w30
  replace Fg := Fg.ch ud.ch
  replace cD := (cD.ch jy.ch).ch ud.ch
  have Z3 := (gX.ch.trans jy.ch).trans ud.ch
  replace xH := xH.ch Z3
  have Z4 := ((mq.ch.trans gX.ch).trans jy.ch).trans ud.ch
  replace cC := cC.ch Z4
  have Z5 := (((oe.ch.trans mq.ch).trans gX.ch).trans jy.ch).trans ud.ch
  replace kt := kt.ch Z5
  have Z6 := ((((jH.ch.trans oe.ch).trans mq.ch).trans gX.ch).trans jy.ch).trans ud.ch
  replace cG := cG.ch Z6
  have Z7 := (((((ka.ch.trans jH.ch).trans oe.ch).trans mq.ch).trans gX.ch).trans jy.ch).trans ud.ch
  replace ax := ax.ch Z7
  replace hB := ((((((hB.trans ka.fr).trans jH.fr).trans oe.fr).trans mq.fr).trans gX.fr).trans jy.fr).trans ud.fr
  refine Go1.loopW (S := Nat × List Int × List Int × List Str × List Rule × List Int × List Int × List (List Int) × (List (Str × Int))) (fun s σ w => match s with | (k2_110, d_111, d_117, d_123, d_129, d_135, d_141, d_147, m2_153) => ∃ (i6 : Nat) (kg : Option Addr) (kh : Nat) (pD : List Value) (jd : Nat) (jB : Option Addr) (jK : Nat) (qY : List Value) (je : Nat) (ki : Option Addr) (kj : Nat) (ob : List Value) (jf : Nat) (ju : Option Addr) (jC : Nat) (q8 : List Value) (jg : Nat) (ku : Option Addr) (kw : Nat) (q9 : List Value) (jh : Nat) (kV : Option Addr) (kW : Nat) (rf : List Value) (ji : Nat) (lI : Option Addr) (lJ : Nat) (rh : List Value), agrees σ [(6, .pointer (some ⟨B10, 0, none⟩)), (9, .int .i64 (-1)), (85, .slice p35 n37 c36), (86, .int .i64 (d_32.length : Int)), (87, .int .i64 (k2_110 : Int))] ∧ (fun Z0 => Owns w0.heap.size w Z0 A ∧ Els (Rp.int .i64) (bl Z0 ++ A) w pD d_111 ∧ Els (Rp.int .i64) (bl Z0 ++ A) w qY d_117 ∧ Els (Rp.str) (bl Z0 ++ A) w ob d_123 ∧ Els (rpRule) (bl Z0 ++ A) w q8 d_129 ∧ Els (Rp.int .i64) (bl Z0 ++ A) w q9 d_135 ∧ Els (Rp.int .i64) (bl Z0 ++ A) w rf d_141 ∧ Els (Rp.sl (Rp.int .i64)) (bl Z0 ++ A) w rh d_147 ∧ Els (Rp.sl (Rp.int .i64)) (bl Z0 ++ A) w gD d_32 ∧ Fr (bl []) w0 (bl Z0) w) [.row 3 1 kg i6 kh pD, .row 3 1 jB jd jK qY, .row 9 1 ki je kj ob, .row 185 2 ju jf jC q8, .row 3 1 ku jg kw q9, .row 3 1 kV jh kW rf, .row 31 1 lI ji lJ rh, .row 31 1 p35 n37 c36 gD, .blk B10 (.cells #[.int .i64 ((ix a0 (0 : Int)).length : Int), .bool false, .slice p35 n37 c36, .slice lI ji lJ, .slice kV jh kW, .slice ku jg kw, .slice none 0 0, .slice ju jf jC, .int .i64 0, .map (some B4), .slice ki je kj, .slice jB jd jK, .slice kg i6 kh] 156 (0, 0)), .any (mapE (fun a : List UInt8 => Value.string (gstr a)) (fun a : Int => Value.int .i64 a) B4 m2_153)]) H ⟨0, none, 0, [], 0, none, 0, [], 0, none, 0, [], 0, none, 0, [], 0, none, 0, [], 0, none, 0, [], 0, none, 0, [], ⟨rfl, rfl, rfl, rfl, rfl, trivial⟩, hO, Ox, Fg, cD, xH, cC, kt, cG, ax, hB⟩ ?_
  intro X2
  refine prE fun k2_110 => prE fun d_111 => prE fun d_117 => prE fun d_123 => prE fun d_129 => prE fun d_135 => prE fun d_141 => prE fun d_147 => fun m2_153 => ?_
  intro H hX2 σ Ks
  refine exE fun i6 => exE fun kg => exE fun kh => exE fun pD => exE fun jd => exE fun jB => exE fun jK => exE fun qY => exE fun je => exE fun ki => exE fun kj => exE fun ob => exE fun jf => exE fun ju => exE fun jC => exE fun q8 => exE fun jg => exE fun ku => exE fun kw => exE fun q9 => exE fun jh => exE fun kV => exE fun kW => exE fun rf => exE fun ji => exE fun lI => exE fun lJ => exE fun rh => andE fun hag => andE fun hO => andE fun cH => andE fun cK => andE fun cQ => andE fun cL => andE fun dh => andE fun dU => andE fun dY => andE fun ax => fun hB => ?_
  dsimp only at H
  refine Go1.keep [(6, .pointer (some ⟨B10, 0, none⟩)), (9, .int .i64 (-1)), (85, .slice p35 n37 c36), (86, .int .i64 (d_32.length : Int)), (87, .int .i64 (k2_110 : Int))] hag ?_
  refine zq (zr ?_)
  by_cases BV : (k2_110 : Int) < (d_32.length : Int)
  ·replace H := ifp BV H
   refine zo (fun w => opB (J08 rfl rfl w) (decide_eq_true BV)) (zn (zq (zt rfl rfl (zk (zq ?_)))))
   refine zb (zq (zr (zm rfl ?_)))
   obtain ⟨yr, H⟩ := H
   obtain ⟨Aw, H⟩ := H
   refine zo (J02 Try.underlying23 ti31 rfl rfl yr (ltn (ax.neq hO 7 rfl) Aw) (ax.psome hO 7 rfl yr Aw)) ?_
   have zz := oldSl 7 hO rfl ax yr Aw
   obtain ⟨Fh, Fi, du, Oy⟩ := zz
   refine zs (Oy Try.underlying31 rfl rfl) (za rfl (za rfl (zn (zq (zr ?_)))))
   refine zm rfl ?_
   obtain ⟨Tq, H⟩ := H
   refine zo (J0e rfl rfl (wrap_i64 Tq)) (zo (J3O Try.underlying3 Try.underlying21 rfl rfl) ?_)
   obtain ⟨DN, H⟩ := H
   obtain ⟨DO, H⟩ := H
   refine zo (J3p Try.underlying21 Try.underlying9 rfl DN DO) (za rfl (zn (zq ?_)))
   refine Go1.drawS 0 [(0, .pure), (1, .pure), (2, .pure), (3, .stable), (4, .pure), (5, .loud), (6, .stable), (7, .pure), (8, .pure), (9, .pure), (10, .pure), (11, .pure)] mixed (by kernel_rfl) ?_
   intro Ts Fj
   have gz := Stp.same hO Fj
   replace hO := gz.own
   refine GoQ.pure rfl (J03 rfl) rfl rfl ?_
   refine GoQ.pure rfl (J01 rfl) rfl rfl ?_
   refine GoQ.pure rfl (J00 Try.underlying156 rfl ti154 rfl (by decide)) rfl rfl ?_
   refine GoQ.stable rfl (oblk (i := 9) 8 hO rfl rfl Try.underlying154 rfl rfl) rfl rfl ?_
   refine GoQ.pure rfl (J03 rfl) rfl rfl ?_
   replace du := du.ch gz.ch
   refine GoQ.call rfl (J0a body157 rfl (J0p hO.lt du H)) (fun v w hr => by obtain ⟨_, _, hs, _, _⟩ := hr; assumption) rfl rfl ?_
   rintro W7 Tt ⟨r167, rfl, Jk, U8, H⟩
   have tx := Stp.same hO Jk
   replace hO := tx.own
   by_cases ws : mhas m2_153 r167 = true
   ·replace H := ifp ws H
    refine GoQ.stable rfl (olookT (a := r167) (MK.str Try.underlying9) 9 hO rfl Try.underlying154 rfl rfl ws) rfl rfl ?_
    refine GoQ.pure rfl (J03 rfl) rfl rfl ?_
    refine GoQ.pure rfl (J07 rfl rfl) rfl rfl ?_
    refine GoQ.pure rfl (J07 rfl rfl) rfl rfl ?_
    refine GoQ.pure rfl (J0s rfl) rfl rfl ?_
    refine GoQ.pure rfl (J0s rfl) rfl rfl ?_
    refine GoQ.nil ?_
    refine zq (zq ?_)
    refine Go1.cut [(6, .pointer (some ⟨B10, 0, none⟩)), (9, .int .i64 (-1)), (10, .int .i64 (k2_110 : Int)), (11, .slice Fh ((ix d_32 (k2_110 : Int)).length) Fi), (12, .string (gstr (chr (IntKind.i32.wrap ((97 : Int) + (k2_110 : Int)))))), (13, .int .i64 (mgt m2_153 r167)), (14, .bool true), (85, .slice p35 n37 c36), (86, .int .i64 (d_32.length : Int)), (87, .int .i64 (k2_110 : Int))] ⟨rfl, rfl, rfl, rfl, rfl, rfl, rfl, rfl, rfl, rfl, trivial⟩ ?_
    intro σ _
    refine zr (zm rfl (zn (zt rfl rfl ?_)))
    refine Go1.drawS 5 [(0, .pure), (1, .pure), (2, .pure), (3, .pure), (4, .pure), (5, .stable), (6, .pure), (7, .pure), (8, .pure), (9, .pure), (10, .stable), (11, .pure), (12, .pure), (13, .stable), (14, .pure), (15, .loud), (16, .last), (17, .pure), (18, .pure), (19, .pure), (20, .last)] mixed (by kernel_rfl) ?_
    intro SA Oz
    have tz := Stp.same hO Oz
    replace hO := tz.own
    refine GoQ.pure rfl (J03 rfl) rfl rfl ?_
    refine GoQ.pure rfl (J03 rfl) rfl rfl ?_
    refine GoQ.pure rfl (J01 rfl) rfl rfl ?_
    refine GoQ.pure rfl (J00 Try.underlying156 rfl ti123 rfl (by decide)) rfl rfl ?_
    refine GoQ.pure rfl (J00 Try.underlying123 rfl ti121 rfl (by decide)) rfl rfl ?_
    refine GoQ.stable rfl (oblk (i := 7) 8 hO rfl rfl Try.underlying121 rfl rfl) rfl rfl ?_
    refine GoQ.pure rfl (J03 rfl) rfl rfl ?_
    refine GoQ.pure rfl (J03 rfl) rfl rfl ?_
    refine GoQ.pure rfl (J01 rfl) rfl rfl ?_
    refine GoQ.pure rfl (J00 Try.underlying156 rfl ti30 rfl (by decide)) rfl rfl ?_
    refine GoQ.stable rfl (oblk (i := 10) 8 hO rfl rfl Try.underlying30 rfl rfl) rfl rfl ?_
    refine GoQ.pure rfl (J03 rfl) rfl rfl ?_
    obtain ⟨yI, H⟩ := H
    obtain ⟨yJ, H⟩ := H
    have Z8 := (gz.ch.trans tx.ch).trans tz.ch
    replace cQ := cQ.ch Z8
    refine GoQ.pure rfl (J02 Try.underlying30 ti9 rfl rfl yI (ltn (cQ.neq hO 2 rfl) yJ) (cQ.psome hO 2 rfl yI yJ)) rfl rfl ?_
    refine GoQ.stable rfl (oldStr 2 hO rfl cQ yI yJ Try.underlying9 rfl rfl) rfl rfl ?_
    have hle179 := Els.J2m cQ yI yJ
    refine GoQ.pure rfl (J0w Try.underlying185 ti185 (pl := [(0, 1), (1, 1)]) (vs := [(0, .string (gstr (chr (IntKind.i32.wrap ((97 : Int) + (k2_110 : Int)))))), (1, .string (gstr (ix d_123 (mgt m2_153 r167))))]) (cs := #[.string (gstr (chr (IntKind.i32.wrap ((97 : Int) + (k2_110 : Int))))), .string (gstr (ix d_123 (mgt m2_153 r167)))]) (by kernel_rfl) rfl (by kernel_rfl)) rfl rfl ?_
    have zz := obuildN (r := rpRule) (n := 1) (parts := [(0, .agg #[.string (gstr (chr (IntKind.i32.wrap ((97 : Int) + (k2_110 : Int))))), .string (gstr (ix d_123 (mgt m2_153 r167)))])]) (vs := [.string (gstr (chr (IntKind.i32.wrap ((97 : Int) + (k2_110 : Int))))), .string (gstr (ix d_123 (mgt m2_153 r167)))]) (xs := [(⟨(chr (IntKind.i32.wrap ((97 : Int) + (k2_110 : Int)))), ix d_123 (mgt m2_153 r167)⟩ : Rule)]) Try.underlying121 ti185 hO (by decide) (by decide) (by kernel_rfl) (Els.flat1 (⟨(chr (IntKind.i32.wrap ((97 : Int) + (k2_110 : Int)))), ix d_123 (mgt m2_153 r167)⟩ : Rule) ⟨(J5Y _), hle179⟩) rfl
    obtain ⟨W8, W9, tA, OA, OB, Kt⟩ := zz
    refine GoQ.loud rfl (Kt rfl) OB rfl rfl ?_
    replace hO := tA.own
    have zz := freeze 0 hO rfl OA
    obtain ⟨hO1, vu, sY, OC⟩ := zz
    dsimp only [eS, eZ] at hO1 vu sY
    replace hB := ((((hB.trans gz.fr).trans tx.fr).trans tz.fr).trans tA.fr).trans (Owns.J09 _ _ 0)
    dsimp only [eS, eZ] at hB
    replace hO := hO1; clear hO1
    obtain ⟨wr, H⟩ := H
    replace cL := ((cL.ch Z8).ch tA.ch).ch vu
    have zz := oapp Try.underlying121 ti185 rfl 3 hO rfl cL sY OC wr (by decide)
    obtain ⟨Xa, Fk, Fm, OD, rM, ur, Dg⟩ := zz
    dsimp only [sS, sZ] at rM ur
    refine GoQ.last rfl (Dg (by exact rfl) (by exact rfl)) rfl rfl ?_
    replace hO := rM.own
    refine GoQ.pure rfl (J01 rfl) rfl rfl ?_
    refine GoQ.pure rfl (J00 Try.underlying156 rfl ti123 rfl (by decide)) rfl rfl ?_
    refine GoQ.pure rfl (J00 Try.underlying123 rfl ti121 rfl (by decide)) rfl rfl ?_
    have zz := J0h (v := .slice Fk (jf + 1) Fm) (i := 7) (cs' := #[.int .i64 ((ix a0 (0 : Int)).length : Int), .bool false, .slice p35 n37 c36, .slice lI ji lJ, .slice kV jh kW, .slice ku jg kw, .slice none 0 0, .slice Fk (jf + 1) Fm, .int .i64 0, .map (some B4), .slice ki je kj, .slice jB jd jK, .slice kg i6 kh]) 8 hO rfl rfl rfl rfl
    obtain ⟨Xb, pY, Ku⟩ := zz
    dsimp only [sS, sZ] at pY
    refine GoQ.last rfl (Ku Try.underlying121 rfl ti121 (by exact rfl) (by exact rfl)) rfl rfl ?_
    replace hO := pY.own
    refine GoQ.nil ?_
    refine Go1.cut [(6, .pointer (some ⟨B10, 0, none⟩)), (9, .int .i64 (-1)), (13, .int .i64 (mgt m2_153 r167)), (85, .slice p35 n37 c36), (86, .int .i64 (d_32.length : Int)), (87, .int .i64 (k2_110 : Int))] ⟨rfl, rfl, rfl, rfl, rfl, rfl, trivial⟩ ?_
    intro σ _
    refine zr (zm rfl (zm rfl (zo (J01 rfl) (zo (J00 Try.underlying156 rfl ti31 rfl (by decide)) (zs (oblk (i := 12) 8 hO rfl rfl Try.underlying31 rfl rfl) ?_)))))
    refine zm rfl ?_
    have zz := J0n (r := Rp.int .i64) (n := 1) (parts := [(0, .int .i64 (mgt m2_153 r167))]) (vs := [.int .i64 (mgt m2_153 r167)]) (xs := [(mgt m2_153 r167)]) rfl Try.underlying31 ti3 hO (by decide) (by kernel_rfl) (Els.cons rfl rfl (Els.nil _ _ _) (by simp [mx])) rfl
    obtain ⟨Tu, Xc, rN, OE, Vv, Kv⟩ := zz
    refine zg (Kv rfl) ?_
    replace hO := rN.own
    have zz := freeze 0 hO rfl OE
    obtain ⟨hO1, uV, zH, OF⟩ := zz
    dsimp only [eS, eZ] at hO1 uV zH
    replace hB := (((hB.trans rM.fr).trans pY.fr).trans rN.fr).trans (Owns.J09 _ _ 0)
    dsimp only [eS, eZ] at hB
    replace hO := hO1; clear hO1
    obtain ⟨xI, H⟩ := H
    have Z9 := (((((Z8.trans tA.ch).trans vu).trans rM.ch).trans pY.ch).trans rN.ch).trans uV
    replace cH := cH.ch Z9
    have zz := oapp Try.underlying31 ti3 rfl 0 hO rfl cH zH OF xI (by decide)
    obtain ⟨Tv, G1, G3, OG, p6, CQ, Kw⟩ := zz
    dsimp only [sS, sZ] at p6 CQ
    refine zg (Kw (by exact rfl) (by exact rfl)) ?_
    replace hO := p6.own
    refine zo (J01 rfl) (zo (J00 Try.underlying156 rfl ti31 rfl (by decide)) ?_)
    have zz := J0h (v := .slice G1 (i6 + 1) G3) (i := 12) (cs' := #[.int .i64 ((ix a0 (0 : Int)).length : Int), .bool false, .slice p35 n37 c36, .slice lI ji lJ, .slice kV jh kW, .slice ku jg kw, .slice none 0 0, .slice Fk (jf + 1) Fm, .int .i64 0, .map (some B4), .slice ki je kj, .slice jB jd jK, .slice G1 (i6 + 1) G3]) 8 hO rfl rfl rfl rfl
    obtain ⟨Xd, eV, Kx⟩ := zz
    dsimp only [sS, sZ] at eV
    refine zg (Kx Try.underlying31 rfl ti31 (by exact rfl) (by exact rfl)) ?_
    replace hO := eV.own
    refine zn ?_
    refine Go1.inBlock ?_
    refine zr ?_
    replace ax := ((ax.ch Z9).ch p6.ch).ch eV.ch
    refine zo (J0e rfl rfl (wrap_i64 (natbd BV ax.bd))) (zm rfl (zn ?_))
    replace CQ := CQ.ch eV.ch
    replace hB := (hB.trans p6.fr).trans eV.fr
    have Z10 := (((pY.ch.trans rN.ch).trans uV).trans p6.ch).trans eV.ch
    replace ur := ur.ch Z10
    have Z11 := ((((((tA.ch.trans vu).trans rM.ch).trans pY.ch).trans rN.ch).trans uV).trans p6.ch).trans eV.ch
    replace cQ := cQ.ch Z11
    have Z12 := (Z9.trans p6.ch).trans eV.ch
    replace cK := cK.ch Z12
    replace dh := dh.ch Z12
    replace dU := dU.ch Z12
    replace dY := dY.ch Z12
    exact hX2 _ H _ _ ⟨i6 + 1, G1, G3, OG, jd, jB, jK, qY, je, ki, kj, ob, jf + 1, Fk, Fm, OD, jg, ku, kw, q9, jh, kV, kW, rf, ji, lI, lJ, rh, ⟨rfl, rfl, rfl, rfl, rfl, trivial⟩, hO, CQ, cK, cQ, ur, dh, dU, dY, ax, hB⟩
   replace H := ifn ws H
   refine GoQ.stable rfl (olookF (a := r167) (MK.str Try.underlying9) 9 hO rfl Try.underlying154 ti3 rfl rfl ws) rfl rfl ?_
   refine GoQ.pure rfl (J03 rfl) rfl rfl ?_
   refine GoQ.pure rfl (J07 rfl rfl) rfl rfl ?_
   refine GoQ.pure rfl (J07 rfl rfl) rfl rfl ?_
   refine GoQ.pure rfl (J0s rfl) rfl rfl ?_
   refine GoQ.pure rfl (J0s rfl) rfl rfl ?_
   refine GoQ.nil ?_
   refine zq (zq (zr (zm rfl (zn (zf rfl rfl ?_)))))
   refine Go1.cut [(6, .pointer (some ⟨B10, 0, none⟩)), (9, .int .i64 (-1)), (10, .int .i64 (k2_110 : Int)), (11, .slice Fh ((ix d_32 (k2_110 : Int)).length) Fi), (12, .string (gstr (chr (IntKind.i32.wrap ((97 : Int) + (k2_110 : Int)))))), (85, .slice p35 n37 c36), (86, .int .i64 (d_32.length : Int)), (87, .int .i64 (k2_110 : Int))] ⟨rfl, rfl, rfl, rfl, rfl, rfl, rfl, rfl, trivial⟩ ?_
   intro σ _
   refine zr (zm rfl (zm rfl ?_))
   replace du := du.ch tx.ch
   refine GoR.call (J0a body86 rfl (J0I hO.lt du H)) rfl rfl ?_
   rintro Xe Xf ⟨r224, yU, vY, v7, U9, rfl, OH, hN228, vw, H⟩
   have rO := Stp.more hO OH hN228
   dsimp only [List.cons_append, List.nil_append] at rO
   replace hO := rO.own
   refine zm rfl (zm rfl (zm rfl (zm rfl ?_)))
   refine GoR.inl (vs := [.pointer (some ⟨B10, 0, none⟩), .slice vY yU v7, .int .i64 (-1), .int .i64 (k2_110 : Int), .string (gstr (chr (IntKind.i32.wrap ((97 : Int) + (k2_110 : Int))))), .int .i64 (-1)]) (caps := []) rfl rfl body155 Try.func155 rfl Try.ntmps155 rfl rfl rfl ?_
   intro RhR232 hR232
   refine zq (zr (za rfl (zn (zq (zr ?_)))))
   refine zm rfl (zo (J01 rfl) (zo (J00 Try.underlying156 rfl ti123 rfl (by decide)) (zo (J00 Try.underlying123 rfl ti23 rfl (by decide)) (zs (oblk (i := 3) 9 hO rfl rfl Try.underlying23 rfl rfl) ?_))))
   have Z13 := (gz.ch.trans tx.ch).trans rO.ch
   replace dY := dY.ch Z13
   refine zo (J0A Try.underlying23 rfl (dY.neq hO 7 rfl)) (za rfl (zn (zq ?_)))
   refine Go1.drawS 1 [(0, .pure), (1, .pure), (2, .pure), (3, .stable), (4, .pure), (6, .pure), (5, .loud), (7, .last)] mixed (by kernel_rfl) ?_
   intro Tw OI
   have jj := Stp.same hO OI
   replace hO := jj.own
   refine GoQ.pure rfl (J03 rfl) rfl rfl ?_
   refine GoQ.pure rfl (J01 rfl) rfl rfl ?_
   refine GoQ.pure rfl (J00 Try.underlying156 rfl ti154 rfl (by decide)) rfl rfl ?_
   refine GoQ.stable rfl (oblk (i := 9) 9 hO rfl rfl Try.underlying154 rfl rfl) rfl rfl ?_
   refine GoQ.pure rfl (J03 rfl) rfl rfl ?_
   refine GoQ.pure rfl (J03 rfl) rfl rfl ?_
   replace vw := vw.ch (Ch.assoc _ _ _ _)
   replace vw := vw.ch jj.ch
   have zz := rowlend 0 hO rfl vw
   obtain ⟨OJ, OK⟩ := zz
   have hOc238 := hO.drop 0
   refine GoQ.call rfl (J0a body157 (show ([.slice vY yU v7] : List Value) = [.slice vY r224.length v7] from by rw [← OK]) (J0p hOc238.lt OJ H)) (fun v w hr => by obtain ⟨_, _, hs, _, _⟩ := hr; assumption) rfl rfl ?_
   rintro Xg Tx ⟨r239, rfl, Fo, Va, H⟩
   have rP := Stp.same hO Fo
   replace hO := rP.own
   have zz := omapUpd (MK.str Try.underlying9) 10 hO rfl Try.underlying154 r239 (d_147.length : Int)
   obtain ⟨Ty, g5, DP⟩ := zz
   dsimp only [sS, sZ] at g5
   refine GoQ.last rfl (DP (by exact rfl) (by exact rfl) (by exact rfl)) rfl rfl ?_
   replace hO := g5.own
   refine GoQ.nil ?_
   refine zq ?_
   refine Go1.cut [(0, .pointer (some ⟨B10, 0, none⟩)), (1, .slice vY yU v7), (2, .int .i64 (-1)), (3, .int .i64 (k2_110 : Int)), (4, .string (gstr (chr (IntKind.i32.wrap ((97 : Int) + (k2_110 : Int)))))), (5, .int .i64 (-1)), (13, .int .i64 (d_147.length : Int))] ⟨rfl, rfl, rfl, rfl, rfl, rfl, rfl, trivial⟩ ?_
   intro σ _
   refine zr (zm rfl (zm rfl (zo (J01 rfl) (zo (J00 Try.underlying156 rfl ti123 rfl (by decide)) (zo (J00 Try.underlying123 rfl ti23 rfl (by decide)) ?_)))))
   refine zs (oblk (i := 3) 9 hO rfl rfl Try.underlying23 rfl rfl) (zm rfl ?_)
   replace vw := (vw.ch rP.ch).ch g5.ch
   have zz := freeze 0 hO rfl vw
   obtain ⟨hO1, vy, fw, OL⟩ := zz
   dsimp only [eS, eZ] at hO1 vy fw
   replace hB := ((((((hB.trans gz.fr).trans tx.fr).trans rO.fr).trans jj.fr).trans rP.fr).trans g5.fr).trans (Owns.J09 _ _ 0)
   dsimp only [eS, eZ] at hB
   replace hO := hO1; clear hO1
   have zz := J0n (r := Rp.sl (Rp.int .i64)) (n := 1) (parts := [(0, .slice vY yU v7)]) (vs := [.slice vY yU v7]) (xs := [r224]) rfl Try.underlying23 ti31 hO (by decide) (by kernel_rfl) (Els.cons rfl ⟨vY, v7, congrArg some (congrArg (fun nn => Value.slice vY nn v7) OL), fw⟩ (Els.nil _ _ _) (by simp [mx])) rfl
   obtain ⟨Xh, Xi, rQ, OM, Vw, Ky⟩ := zz
   refine zg (Ky rfl) ?_
   replace hO := rQ.own
   have zz := freeze 0 hO rfl OM
   obtain ⟨hO1, uW, fJ, ON⟩ := zz
   dsimp only [eS, eZ] at hO1 uW fJ
   replace hB := (hB.trans rQ.fr).trans (Owns.J09 _ _ 0)
   dsimp only [eS, eZ] at hB
   replace hO := hO1; clear hO1
   obtain ⟨DR, H⟩ := H
   have Z14 := ((((jj.ch.trans rP.ch).trans g5.ch).trans vy).trans rQ.ch).trans uW
   replace dY := dY.ch Z14
   have zz := oapp Try.underlying23 ti31 rfl 6 hO rfl dY fJ ON DR (by decide)
   obtain ⟨Xj, yt, yu, OO, p9, fO, Kz⟩ := zz
   dsimp only [sS, sZ] at p9 fO
   refine zg (Kz (by exact rfl) (by exact rfl)) ?_
   replace hO := p9.own
   refine zo (J01 rfl) (zo (J00 Try.underlying156 rfl ti123 rfl (by decide)) (zo (J00 Try.underlying123 rfl ti23 rfl (by decide)) ?_))
   have zz := J0h (v := .slice yt (ji + 1) yu) (i := 3) (cs' := #[.int .i64 ((ix a0 (0 : Int)).length : Int), .bool false, .slice p35 n37 c36, .slice yt (ji + 1) yu, .slice kV jh kW, .slice ku jg kw, .slice none 0 0, .slice ju jf jC, .int .i64 0, .map (some B4), .slice ki je kj, .slice jB jd jK, .slice kg i6 kh]) 8 hO rfl rfl rfl rfl
   obtain ⟨Xk, og, KA⟩ := zz
   dsimp only [sS, sZ] at og
   refine zg (KA Try.underlying23 rfl ti23 (by exact rfl) (by exact rfl)) ?_
   replace hO := og.own
   refine zn (zq (zr (zm rfl (zm rfl (zo (J01 rfl) ?_)))))
   refine zo (J00 Try.underlying156 rfl ti123 rfl (by decide)) (zo (J00 Try.underlying123 rfl ti31 rfl (by decide)) (zs (oblk (i := 4) 8 hO rfl rfl Try.underlying31 rfl rfl) (zm rfl ?_)))
   have zz := J0n (r := Rp.int .i64) (n := 1) (parts := [(0, .int .i64 (-1))]) (vs := [.int .i64 (-1)]) (xs := [(-1 : Int)]) rfl Try.underlying31 ti3 hO (by decide) (by kernel_rfl) (Els.cons rfl rfl (Els.nil _ _ _) (by simp [mx])) rfl
   obtain ⟨Xl, Xm, qa, OP, Vx, KB⟩ := zz
   refine zg (KB rfl) ?_
   replace hO := qa.own
   have zz := freeze 0 hO rfl OP
   obtain ⟨hO1, jI, gu, OQ⟩ := zz
   dsimp only [eS, eZ] at hO1 jI gu
   replace hB := (((hB.trans p9.fr).trans og.fr).trans qa.fr).trans (Owns.J09 _ _ 0)
   dsimp only [eS, eZ] at hB
   replace hO := hO1; clear hO1
   obtain ⟨BW, H⟩ := H
   have Z15 := (((((((((Z13.trans jj.ch).trans rP.ch).trans g5.ch).trans vy).trans rQ.ch).trans uW).trans p9.ch).trans og.ch).trans qa.ch).trans jI
   replace dU := dU.ch Z15
   have zz := oapp Try.underlying31 ti3 rfl 5 hO rfl dU gu OQ BW (by decide)
   obtain ⟨G4, Ax, Ay, OR, oh, gK, KC⟩ := zz
   dsimp only [sS, sZ] at oh gK
   refine zg (KC (by exact rfl) (by exact rfl)) ?_
   replace hO := oh.own
   refine zo (J01 rfl) (zo (J00 Try.underlying156 rfl ti123 rfl (by decide)) (zo (J00 Try.underlying123 rfl ti31 rfl (by decide)) ?_))
   have zz := J0h (v := .slice Ax (jh + 1) Ay) (i := 4) (cs' := #[.int .i64 ((ix a0 (0 : Int)).length : Int), .bool false, .slice p35 n37 c36, .slice yt (ji + 1) yu, .slice Ax (jh + 1) Ay, .slice ku jg kw, .slice none 0 0, .slice ju jf jC, .int .i64 0, .map (some B4), .slice ki je kj, .slice jB jd jK, .slice kg i6 kh]) 8 hO rfl rfl rfl rfl
   obtain ⟨SK, iY, Dn⟩ := zz
   dsimp only [sS, sZ] at iY
   refine zg (Dn Try.underlying31 rfl ti31 (by exact rfl) (by exact rfl)) ?_
   replace hO := iY.own
   refine zn (zq ?_)
   refine Go1.cut [(0, .pointer (some ⟨B10, 0, none⟩)), (3, .int .i64 (k2_110 : Int)), (4, .string (gstr (chr (IntKind.i32.wrap ((97 : Int) + (k2_110 : Int)))))), (5, .int .i64 (-1)), (13, .int .i64 (d_147.length : Int))] ⟨rfl, rfl, rfl, rfl, rfl, trivial⟩ ?_
   intro σ _
   refine zr (zm rfl (zm rfl (zo (J01 rfl) (zo (J00 Try.underlying156 rfl ti123 rfl (by decide)) (zo (J00 Try.underlying123 rfl ti31 rfl (by decide)) ?_)))))
   refine zs (oblk (i := 5) 8 hO rfl rfl Try.underlying31 rfl rfl) (zm rfl ?_)
   have zz := J0n (r := Rp.int .i64) (n := 1) (parts := [(0, .int .i64 (k2_110 : Int))]) (vs := [.int .i64 (k2_110 : Int)]) (xs := [(k2_110 : Int)]) rfl Try.underlying31 ti3 hO (by decide) (by kernel_rfl) (Els.cons rfl rfl (Els.nil _ _ _) (by simp [mx])) rfl
   obtain ⟨SM, Xn, jw, Fp, Vy, KD⟩ := zz
   refine zg (KD rfl) ?_
   replace hO := jw.own
   have zz := freeze 0 hO rfl Fp
   obtain ⟨hO1, tN, iQ, OS⟩ := zz
   dsimp only [eS, eZ] at hO1 tN iQ
   replace hB := (((hB.trans oh.fr).trans iY.fr).trans jw.fr).trans (Owns.J09 _ _ 0)
   dsimp only [eS, eZ] at hB
   replace hO := hO1; clear hO1
   obtain ⟨Tz, H⟩ := H
   have Z16 := (((Z15.trans oh.ch).trans iY.ch).trans jw.ch).trans tN
   replace dh := dh.ch Z16
   have zz := oapp Try.underlying31 ti3 rfl 4 hO rfl dh iQ OS Tz (by decide)
   obtain ⟨Xo, BX, BY, OT, ni, i9, KE⟩ := zz
   dsimp only [sS, sZ] at ni i9
   refine zg (KE (by exact rfl) (by exact rfl)) ?_
   replace hO := ni.own
   refine zo (J01 rfl) (zo (J00 Try.underlying156 rfl ti123 rfl (by decide)) (zo (J00 Try.underlying123 rfl ti31 rfl (by decide)) ?_))
   have zz := J0h (v := .slice BX (jg + 1) BY) (i := 5) (cs' := #[.int .i64 ((ix a0 (0 : Int)).length : Int), .bool false, .slice p35 n37 c36, .slice yt (ji + 1) yu, .slice Ax (jh + 1) Ay, .slice BX (jg + 1) BY, .slice none 0 0, .slice ju jf jC, .int .i64 0, .map (some B4), .slice ki je kj, .slice jB jd jK, .slice kg i6 kh]) 8 hO rfl rfl rfl rfl
   obtain ⟨SO, mA, KF⟩ := zz
   dsimp only [sS, sZ] at mA
   refine zg (KF Try.underlying31 rfl ti31 (by exact rfl) (by exact rfl)) ?_
   replace hO := mA.own
   refine zn (zq (zr (zm rfl (zm rfl (zo (J01 rfl) ?_)))))
   refine zo (J00 Try.underlying156 rfl ti30 rfl (by decide)) (zs (oblk (i := 10) 8 hO rfl rfl Try.underlying30 rfl rfl) (zm rfl ?_))
   have zz := J0n (r := Rp.str) (n := 1) (parts := [(0, .string (gstr (chr (IntKind.i32.wrap ((97 : Int) + (k2_110 : Int))))))]) (vs := [.string (gstr (chr (IntKind.i32.wrap ((97 : Int) + (k2_110 : Int)))))]) (xs := [chr (IntKind.i32.wrap ((97 : Int) + (k2_110 : Int)))]) rfl Try.underlying30 ti9 hO (by decide) (by kernel_rfl) (Els.cons rfl ⟨rfl, (J5Y _)⟩ (Els.nil _ _ _) (by simp [mx])) rfl
   obtain ⟨Xp, Xq, nj, OU, Vz, KG⟩ := zz
   refine zg (KG rfl) ?_
   replace hO := nj.own
   have zz := freeze 0 hO rfl OU
   obtain ⟨hO1, ta, k9, OV⟩ := zz
   dsimp only [eS, eZ] at hO1 ta k9
   replace hB := (((hB.trans ni.fr).trans mA.fr).trans nj.fr).trans (Owns.J09 _ _ 0)
   dsimp only [eS, eZ] at hB
   replace hO := hO1; clear hO1
   obtain ⟨Gz, H⟩ := H
   have Z17 := (((Z16.trans ni.ch).trans mA.ch).trans nj.ch).trans ta
   replace cQ := cQ.ch Z17
   have zz := oapp Try.underlying30 ti9 rfl 2 hO rfl cQ k9 OV Gz (by decide)
   obtain ⟨J7, DS, DT, vm, fR, ms, KH⟩ := zz
   dsimp only [sS, sZ] at fR ms
   refine zg (KH (by exact rfl) (by exact rfl)) ?_
   replace hO := fR.own
   refine zo (J01 rfl) (zo (J00 Try.underlying156 rfl ti30 rfl (by decide)) ?_)
   have zz := J0h (v := .slice DS (je + 1) DT) (i := 10) (cs' := #[.int .i64 ((ix a0 (0 : Int)).length : Int), .bool false, .slice p35 n37 c36, .slice yt (ji + 1) yu, .slice Ax (jh + 1) Ay, .slice BX (jg + 1) BY, .slice none 0 0, .slice ju jf jC, .int .i64 0, .map (some B4), .slice DS (je + 1) DT, .slice jB jd jK, .slice kg i6 kh]) 8 hO rfl rfl rfl rfl
   obtain ⟨Xr, lT, KI⟩ := zz
   dsimp only [sS, sZ] at lT
   refine zg (KI Try.underlying30 rfl ti30 (by exact rfl) (by exact rfl)) ?_
   replace hO := lT.own
   refine zn (zq ?_)
   refine Go1.cut [(0, .pointer (some ⟨B10, 0, none⟩)), (5, .int .i64 (-1)), (13, .int .i64 (d_147.length : Int))] ⟨rfl, rfl, rfl, trivial⟩ ?_
   intro σ _
   refine zr (zm rfl (zm rfl (zo (J01 rfl) (zo (J00 Try.underlying156 rfl ti31 rfl (by decide)) (zs (oblk (i := 11) 8 hO rfl rfl Try.underlying31 rfl rfl) ?_)))))
   refine zm rfl ?_
   have zz := J0n (r := Rp.int .i64) (n := 1) (parts := [(0, .int .i64 (-1))]) (vs := [.int .i64 (-1)]) (xs := [(-1 : Int)]) rfl Try.underlying31 ti3 hO (by decide) (by kernel_rfl) (Els.cons rfl rfl (Els.nil _ _ _) (by simp [mx])) rfl
   obtain ⟨Xs, Xt, mB, ut, VA, KJ⟩ := zz
   refine zg (KJ rfl) ?_
   replace hO := mB.own
   have zz := freeze 0 hO rfl ut
   obtain ⟨hO1, mp, lP, EY⟩ := zz
   dsimp only [eS, eZ] at hO1 mp lP
   replace hB := (((hB.trans fR.fr).trans lT.fr).trans mB.fr).trans (Owns.J09 _ _ 0)
   dsimp only [eS, eZ] at hB
   replace hO := hO1; clear hO1
   obtain ⟨TA, H⟩ := H
   have Z18 := (((Z17.trans fR.ch).trans lT.ch).trans mB.ch).trans mp
   replace cK := cK.ch Z18
   have zz := oapp Try.underlying31 ti3 rfl 1 hO rfl cK lP EY TA (by decide)
   obtain ⟨Xu, Fq, Fs, OW, lU, uu, KK⟩ := zz
   dsimp only [sS, sZ] at lU uu
   refine zg (KK (by exact rfl) (by exact rfl)) ?_
   replace hO := lU.own
   refine zo (J01 rfl) (zo (J00 Try.underlying156 rfl ti31 rfl (by decide)) ?_)
   have zz := J0h (v := .slice Fq (jd + 1) Fs) (i := 11) (cs' := #[.int .i64 ((ix a0 (0 : Int)).length : Int), .bool false, .slice p35 n37 c36, .slice yt (ji + 1) yu, .slice Ax (jh + 1) Ay, .slice BX (jg + 1) BY, .slice none 0 0, .slice ju jf jC, .int .i64 0, .map (some B4), .slice DS (je + 1) DT, .slice Fq (jd + 1) Fs, .slice kg i6 kh]) 8 hO rfl rfl rfl rfl
   obtain ⟨J9, lp, KL⟩ := zz
   dsimp only [sS, sZ] at lp
   refine zg (KL Try.underlying31 rfl ti31 (by exact rfl) (by exact rfl)) ?_
   replace hO := lp.own
   refine zn (zq (zr (zm rfl (za rfl (zn ?_)))))
   refine Go1.ret1V Try.func155 rfl (show _ = .int .i64 (d_147.length : Int) from rfl) ?_
   refine hR232 _ _ ?_
   refine za rfl (zn (zr (zm rfl (zm rfl (zo (J01 rfl) ?_)))))
   refine zo (J00 Try.underlying156 rfl ti31 rfl (by decide)) (zs (oblk (i := 12) 8 hO rfl rfl Try.underlying31 rfl rfl) (zm rfl ?_))
   have zz := J0n (r := Rp.int .i64) (n := 1) (parts := [(0, .int .i64 (d_147.length : Int))]) (vs := [.int .i64 (d_147.length : Int)]) (xs := [(d_147.length : Int)]) rfl Try.underlying31 ti3 hO (by decide) (by kernel_rfl) (Els.cons rfl rfl (Els.nil _ _ _) (by simp [mx])) rfl
   obtain ⟨TB, Xv, lV, OX, VB, Dq⟩ := zz
   refine zg (Dq rfl) ?_
   replace hO := lV.own
   have zz := freeze 0 hO rfl OX
   obtain ⟨hO1, pK, zI, OY⟩ := zz
   dsimp only [eS, eZ] at hO1 pK zI
   replace hB := (((hB.trans lU.fr).trans lp.fr).trans lV.fr).trans (Owns.J09 _ _ 0)
   dsimp only [eS, eZ] at hB
   replace hO := hO1; clear hO1
   obtain ⟨TC, H⟩ := H
   have Z19 := (((Z18.trans lU.ch).trans lp.ch).trans lV.ch).trans pK
   replace cH := cH.ch Z19
   have zz := oapp Try.underlying31 ti3 rfl 0 hO rfl cH zI OY TC (by decide)
   obtain ⟨Xw, G5, G6, O0, lr, CR, KM⟩ := zz
   dsimp only [sS, sZ] at lr CR
   refine zg (KM (by exact rfl) (by exact rfl)) ?_
   replace hO := lr.own
   refine zo (J01 rfl) (zo (J00 Try.underlying156 rfl ti31 rfl (by decide)) ?_)
   have zz := J0h (v := .slice G5 (i6 + 1) G6) (i := 12) (cs' := #[.int .i64 ((ix a0 (0 : Int)).length : Int), .bool false, .slice p35 n37 c36, .slice yt (ji + 1) yu, .slice Ax (jh + 1) Ay, .slice BX (jg + 1) BY, .slice none 0 0, .slice ju jf jC, .int .i64 0, .map (some B4), .slice DS (je + 1) DT, .slice Fq (jd + 1) Fs, .slice G5 (i6 + 1) G6]) 8 hO rfl rfl rfl rfl
   obtain ⟨Xx, kx, KN⟩ := zz
   dsimp only [sS, sZ] at kx
   refine zg (KN Try.underlying31 rfl ti31 (by exact rfl) (by exact rfl)) ?_
   replace hO := kx.own
   refine zn ?_
   refine Go1.inBlock ?_
   refine Go1.cut [(6, .pointer (some ⟨B10, 0, none⟩)), (9, .int .i64 (-1)), (85, .slice p35 n37 c36), (86, .int .i64 (d_32.length : Int)), (87, .int .i64 (k2_110 : Int))] ⟨rfl, rfl, rfl, rfl, rfl, trivial⟩ ?_
   intro σ _
   refine zr ?_
   replace ax := ((ax.ch Z19).ch lr.ch).ch kx.ch
   refine zo (J0e rfl rfl (wrap_i64 (natbd BV ax.bd))) (zm rfl (zn ?_))
   replace CR := CR.ch kx.ch
   replace hB := (hB.trans lr.fr).trans kx.fr
   have Z20 := (((lp.ch.trans lV.ch).trans pK).trans lr.ch).trans kx.ch
   replace uu := uu.ch Z20
   have Z21 := (((((((lT.ch.trans mB.ch).trans mp).trans lU.ch).trans lp.ch).trans lV.ch).trans pK).trans lr.ch).trans kx.ch
   replace ms := ms.ch Z21
   have Z22 := (((((((((((mA.ch.trans nj.ch).trans ta).trans fR.ch).trans lT.ch).trans mB.ch).trans mp).trans lU.ch).trans lp.ch).trans lV.ch).trans pK).trans lr.ch).trans kx.ch
   replace i9 := i9.ch Z22
   have Z23 := (((((((((((((((iY.ch.trans jw.ch).trans tN).trans ni.ch).trans mA.ch).trans nj.ch).trans ta).trans fR.ch).trans lT.ch).trans mB.ch).trans mp).trans lU.ch).trans lp.ch).trans lV.ch).trans pK).trans lr.ch).trans kx.ch
   replace gK := gK.ch Z23
   have Z24 := (((((((((((((((((((og.ch.trans qa.ch).trans jI).trans oh.ch).trans iY.ch).trans jw.ch).trans tN).trans ni.ch).trans mA.ch).trans nj.ch).trans ta).trans fR.ch).trans lT.ch).trans mB.ch).trans mp).trans lU.ch).trans lp.ch).trans lV.ch).trans pK).trans lr.ch).trans kx.ch
   replace fO := fO.ch Z24
   replace cL := ((cL.ch Z19).ch lr.ch).ch kx.ch
   exact hX2 _ H _ _ ⟨i6 + 1, G5, G6, O0, jd + 1, Fq, Fs, OW, je + 1, DS, DT, vm, jf, ju, jC, q8, jg + 1, BX, BY, OT, jh + 1, Ax, Ay, OR, ji + 1, yt, yu, OO, ⟨rfl, rfl, rfl, rfl, rfl, trivial⟩, hO, CR, uu, ms, cL, i9, gK, fO, ax, hB⟩
  replace H := ifn BV H
  refine zo (fun w => opB (J08 rfl rfl w) (decide_eq_false BV)) (zn (zq (zf rfl rfl ?_)))
  refine Go1.exit rfl ?_
  refine zq (zr (zm rfl (za rfl (za rfl (zn ?_)))))
  have ue := Stp.nil (e := 31) (r := 1) hO
  replace hO := ue.own
  have cU := Els.nil (Rp.sl (Rp.int .i64)) (bl (.row 31 1 none 0 0 [] :: [.row 3 1 kg i6 kh pD, .row 3 1 jB jd jK qY, .row 9 1 ki je kj ob, .row 185 2 ju jf jC q8, .row 3 1 ku jg kw q9, .row 3 1 kV jh kW rf, .row 31 1 lI ji lJ rh, .row 31 1 p35 n37 c36 gD, .blk B10 (.cells #[.int .i64 ((ix a0 (0 : Int)).length : Int), .bool false, .slice p35 n37 c36, .slice lI ji lJ, .slice kV jh kW, .slice ku jg kw, .slice none 0 0, .slice ju jf jC, .int .i64 0, .map (some B4), .slice ki je kj, .slice jB jd jK, .slice kg i6 kh] 156 (0, 0)), .any (mapE (fun a : List UInt8 => Value.string (gstr a)) (fun a : Int => Value.int .i64 a) B4 m2_153)]) ++ A) Ks
  have gO := Stp.front 10 hO rfl
  dsimp only [eS, eZ] at gO
  replace hO := gO.own
  have kr := Stp.front 2 hO rfl
  dsimp only [eS, eZ] at kr
  replace hO := kr.own
  have gH := Stp.front 3 hO rfl
  dsimp only [eS, eZ] at gH
  replace hO := gH.own
  have rR := Stp.front 4 hO rfl
  dsimp only [eS, eZ] at rR
  replace hO := rR.own
  have rS := Stp.front 5 hO rfl
  dsimp only [eS, eZ] at rS
  replace hO := rS.own
  have rT := Stp.front 5 hO rfl
  dsimp only [eS, eZ] at rT
  replace hO := rT.own
  have gP := Stp.front 6 hO rfl
  dsimp only [eS, eZ] at gP
  replace hO := gP.own
  have rU := Stp.front 7 hO rfl
  dsimp only [eS, eZ] at rU
  replace hO := rU.own
  have rV := Stp.front 8 hO rfl
  dsimp only [eS, eZ] at rV
  replace hO := rV.own
  have rW := Stp.front 9 hO rfl
  dsimp only [eS, eZ] at rW
  replace hO := rW.own
  have rX := Stp.front 10 hO rfl
  dsimp only [eS, eZ] at rX
  replace hO := rX.own
  refine Go1.ret2 Try.func131 rfl ?_
  have Z25 := (((((((((gO.ch.trans kr.ch).trans gH.ch).trans rR.ch).trans rS.ch).trans rT.ch).trans gP.ch).trans rU.ch).trans rV.ch).trans rW.ch).trans rX.ch
  replace cU := cU.ch Z25
  have Z26 := ((((((((((ue.ch.trans gO.ch).trans kr.ch).trans gH.ch).trans rR.ch).trans rS.ch).trans rT.ch).trans gP.ch).trans rU.ch).trans rV.ch).trans rW.ch).trans rX.ch
  replace cH := cH.ch Z26
  replace cK := cK.ch Z26
  replace cQ := cQ.ch Z26
  replace cL := cL.ch Z26
  replace dh := dh.ch Z26
  replace dU := dU.ch Z26
  replace dY := dY.ch Z26
  replace ax := ax.ch Z26
  replace hB := (((((((((((hB.trans ue.fr).trans gO.fr).trans kr.fr).trans gH.fr).trans rR.fr).trans rS.fr).trans rT.fr).trans gP.fr).trans rU.fr).trans rV.fr).trans rW.fr).trans rX.fr
  exact Or.inr ⟨(⟨(⟨((ix a0 (0 : Int)).length : Int), false, d_32, d_147, d_141, d_135, ([] : List (List Int)), d_129, (0 : Int)⟩ : Enum), m2_153, d_123, d_117, d_111⟩ : run), ((0 : Int)), B10, n37, p35, c36, gD, ji, lI, lJ, rh, jh, kV, kW, rf, jg, ku, kw, q9, 0, none, 0, ([]), jf, ju, jC, q8, B4, je, ki, kj, ob, jd, jB, jK, qY, i6, kg, kh, pD, rfl, hB.same, hO, ax, dY, dU, dh, cU, cL, cQ, cK, cH, H⟩
 replace H := ifp rfl H
 refine zt rfl rfl (zr (zm rfl (zm rfl (zo (J01 rfl) (zo (J00 Try.underlying156 rfl ti123 rfl (by decide)) ?_)))))
 refine zo (J00 Try.underlying123 rfl ti3 rfl (by decide)) (zs (oblk (i := 0) 1 hO rfl rfl Try.underlying3 rfl rfl) ?_)
 refine GoR.call (J0a body156 rfl (J3o hO.lt H)) rfl rfl ?_
 rintro Xy Xz ⟨r397, yV, yW, rfl, O1, dO, H⟩
 have Bf := Stp.same hO O1
 replace hO := Bf.own
 refine GoR.inl (vs := [.pointer (some ⟨B10, 0, none⟩), .slice yV r397.length yW, .int .i64 (-1), .int .i64 (-1), .string (gstr (([] : Str))), .int .i64 (-1)]) (caps := []) rfl rfl body155 Try.func155 rfl Try.ntmps155 rfl rfl rfl ?_
 intro RhR403 hR403
 refine zq (zr (za rfl (zn (zq (zr ?_)))))
 refine zm rfl (zo (J01 rfl) (zo (J00 Try.underlying156 rfl ti123 rfl (by decide)) (zo (J00 Try.underlying123 rfl ti23 rfl (by decide)) (zs (oblk (i := 3) 1 hO rfl rfl Try.underlying23 rfl rfl) (zo (J0c Try.underlying23 rfl) ?_)))))
 refine za rfl (zn (zq ?_))
 refine Go1.cut [(0, .pointer (some ⟨B10, 0, none⟩)), (1, .slice yV r397.length yW), (2, .int .i64 (-1)), (3, .int .i64 (-1)), (4, .string (gstr (([] : Str)))), (5, .int .i64 (-1)), (13, .int .i64 0)] ⟨rfl, rfl, rfl, rfl, rfl, rfl, rfl, trivial⟩ ?_
 intro σ _
 refine Go1.drawS 1 [(0, .pure), (1, .pure), (2, .pure), (3, .stable), (4, .pure), (6, .pure), (5, .loud), (7, .last)] mixed (by kernel_rfl) ?_
 intro XA O2
 have yX := Stp.same hO O2
 replace hO := yX.own
 refine GoQ.pure rfl (J03 rfl) rfl rfl ?_
 refine GoQ.pure rfl (J01 rfl) rfl rfl ?_
 refine GoQ.pure rfl (J00 Try.underlying156 rfl ti154 rfl (by decide)) rfl rfl ?_
 refine GoQ.stable rfl (oblk (i := 9) 1 hO rfl rfl Try.underlying154 rfl rfl) rfl rfl ?_
 refine GoQ.pure rfl (J03 rfl) rfl rfl ?_
 refine GoQ.pure rfl (J03 rfl) rfl rfl ?_
 replace dO := dO.ch yX.ch
 refine GoQ.call rfl (J0a body157 rfl (J0p hO.lt dO H)) (fun v w hr => by obtain ⟨_, _, hs, _, _⟩ := hr; assumption) rfl rfl ?_
 rintro XB TD ⟨r407, rfl, Ft, Vb, H⟩
 have yY := Stp.same hO Ft
 replace hO := yY.own
 have zz := omapUpd (MK.str Try.underlying9) 2 hO rfl Try.underlying154 r407 (0 : Int)
 obtain ⟨XC, fL, KO⟩ := zz
 refine GoQ.last rfl (KO (by exact rfl) (by exact rfl) (by exact rfl)) rfl rfl ?_
 replace hO := fL.own
 refine GoQ.nil ?_
 refine zq (zr (zm rfl (zm rfl (zo (J01 rfl) (zo (J00 Try.underlying156 rfl ti123 rfl (by decide)) ?_)))))
 refine zo (J00 Try.underlying123 rfl ti23 rfl (by decide)) (zs (oblk (i := 3) 1 hO rfl rfl Try.underlying23 rfl rfl) (zm rfl ?_))
 replace dO := (dO.ch yY.ch).ch fL.ch
 have zz := J0n (r := Rp.sl (Rp.int .i64)) (n := 1) (parts := [(0, .slice yV r397.length yW)]) (vs := [.slice yV r397.length yW]) (xs := [r397]) rfl Try.underlying23 ti31 hO (by decide) (by kernel_rfl) (Els.cons rfl ⟨yV, yW, rfl, dO⟩ (Els.nil _ _ _) (by simp [mx])) rfl
 obtain ⟨TE, XD, y3, O3, VC, KP⟩ := zz
 refine zg (KP rfl) ?_
 replace hO := y3.own
 have zz := freeze 0 hO rfl O3
 obtain ⟨hO1, Fu, fq, O4⟩ := zz
 replace hO := hO1; clear hO1
 have iO := Stp.nil (e := 31) (r := 1) hO
 replace hO := iO.own
 have ir := Els.nil (Rp.sl (Rp.int .i64)) (bl (.row 31 1 none 0 0 [] :: [.row 31 1 p35 n37 c36 gD, .blk B10 (.cells #[.int .i64 ((ix a0 (0 : Int)).length : Int), .bool true, .slice p35 n37 c36, .slice none 0 0, .slice none 0 0, .slice none 0 0, .slice none 0 0, .slice none 0 0, .int .i64 0, .map (some B4), .slice none 0 0, .slice none 0 0, .slice none 0 0] 156 (0, 0)), .any (mapE (fun a : List UInt8 => Value.string (gstr a)) (fun a : Int => Value.int .i64 a) B4 (mput (([] : List (Str × Int))) r407 ((0 : Int))))]) ++ A) TE
 obtain ⟨Az, H⟩ := H
 replace fq := fq.ch iO.ch
 have zz := oapp Try.underlying23 ti31 rfl 0 hO rfl ir fq O4 Az (by decide)
 obtain ⟨XE, rk, ro, yv, xV, fF, KQ⟩ := zz
 refine zg (KQ (by exact rfl) (by exact rfl)) ?_
 replace hO := xV.own
 refine zo (J01 rfl) (zo (J00 Try.underlying156 rfl ti123 rfl (by decide)) (zo (J00 Try.underlying123 rfl ti23 rfl (by decide)) ?_))
 have zz := J0h (v := .slice rk (0 + 1) ro) (i := 3) (cs' := #[.int .i64 ((ix a0 (0 : Int)).length : Int), .bool true, .slice p35 n37 c36, .slice rk (0 + 1) ro, .slice none 0 0, .slice none 0 0, .slice none 0 0, .slice none 0 0, .int .i64 0, .map (some B4), .slice none 0 0, .slice none 0 0, .slice none 0 0]) 2 hO rfl rfl rfl rfl
 obtain ⟨XF, wS, KR⟩ := zz
 refine zg (KR Try.underlying23 rfl ti23 (by exact rfl) (by exact rfl)) ?_
 replace hO := wS.own
 refine zn (zq ?_)
 refine Go1.cut [(0, .pointer (some ⟨B10, 0, none⟩)), (2, .int .i64 (-1)), (3, .int .i64 (-1)), (4, .string (gstr (([] : Str)))), (5, .int .i64 (-1)), (13, .int .i64 0)] ⟨rfl, rfl, rfl, rfl, rfl, rfl, trivial⟩ ?_
 intro σ _
 refine zr (zm rfl (zm rfl (zo (J01 rfl) (zo (J00 Try.underlying156 rfl ti123 rfl (by decide)) (zo (J00 Try.underlying123 rfl ti31 rfl (by decide)) ?_)))))
 refine zs (oblk (i := 4) 2 hO rfl rfl Try.underlying31 rfl rfl) (zm rfl ?_)
 have zz := J0n (r := Rp.int .i64) (n := 1) (parts := [(0, .int .i64 (-1))]) (vs := [.int .i64 (-1)]) (xs := [(-1 : Int)]) rfl Try.underlying31 ti3 hO (by decide) (by kernel_rfl) (Els.cons rfl rfl (Els.nil _ _ _) (by simp [mx])) rfl
 obtain ⟨TF, XG, wT, O5, VD, KS⟩ := zz
 refine zg (KS rfl) ?_
 replace hO := wT.own
 have zz := freeze 0 hO rfl O5
 obtain ⟨hO1, zJ, fV, O6⟩ := zz
 dsimp only [eS, eZ] at hO1 zJ fV
 replace hB := ((((((((((hB.trans Bf.fr).trans yX.fr).trans yY.fr).trans fL.fr).trans y3.fr).trans (Owns.J09 _ _ 0)).trans iO.fr).trans xV.fr).trans wS.fr).trans wT.fr).trans (Owns.J09 _ _ 0)
 dsimp only [eS, eZ] at hB
 replace hO := hO1; clear hO1
 have v8 := Stp.nil (e := 3) (r := 1) hO
 replace hO := v8.own
 have O7 := Els.nil (Rp.int .i64) (bl (.row 3 1 none 0 0 [] :: [.row 31 1 rk (0 + 1) ro yv, .row 31 1 p35 n37 c36 gD, .blk B10 (.cells #[.int .i64 ((ix a0 (0 : Int)).length : Int), .bool true, .slice p35 n37 c36, .slice rk (0 + 1) ro, .slice none 0 0, .slice none 0 0, .slice none 0 0, .slice none 0 0, .int .i64 0, .map (some B4), .slice none 0 0, .slice none 0 0, .slice none 0 0] 156 (0, 0)), .any (mapE (fun a : List UInt8 => Value.string (gstr a)) (fun a : Int => Value.int .i64 a) B4 (mput (([] : List (Str × Int))) r407 ((0 : Int))))]) ++ A) TF
 obtain ⟨TG, H⟩ := H
 replace fV := fV.ch v8.ch
 have zz := oapp Try.underlying31 ti3 rfl 0 hO rfl O7 fV O6 TG (by decide)
 obtain ⟨XH, tX, tY, zK, uX, gv, DU⟩ := zz
 dsimp only [sS, sZ] at uX gv
 refine zg (DU (by exact rfl) (by exact rfl)) ?_
 replace hO := uX.own
 refine zo (J01 rfl) (zo (J00 Try.underlying156 rfl ti123 rfl (by decide)) (zo (J00 Try.underlying123 rfl ti31 rfl (by decide)) ?_))
 have zz := J0h (v := .slice tX (0 + 1) tY) (i := 4) (cs' := #[.int .i64 ((ix a0 (0 : Int)).length : Int), .bool true, .slice p35 n37 c36, .slice rk (0 + 1) ro, .slice tX (0 + 1) tY, .slice none 0 0, .slice none 0 0, .slice none 0 0, .int .i64 0, .map (some B4), .slice none 0 0, .slice none 0 0, .slice none 0 0]) 3 hO rfl rfl rfl rfl
 obtain ⟨XJ, uf, KT⟩ := zz
 dsimp only [sS, sZ] at uf
 refine zg (KT Try.underlying31 rfl ti31 (by exact rfl) (by exact rfl)) ?_
 replace hO := uf.own
 refine zn (zq (zr (zm rfl (zm rfl (zo (J01 rfl) ?_)))))
 refine zo (J00 Try.underlying156 rfl ti123 rfl (by decide)) (zo (J00 Try.underlying123 rfl ti31 rfl (by decide)) (zs (oblk (i := 5) 3 hO rfl rfl Try.underlying31 rfl rfl) (zm rfl ?_)))
 have zz := J0n (r := Rp.int .i64) (n := 1) (parts := [(0, .int .i64 (-1))]) (vs := [.int .i64 (-1)]) (xs := [(-1 : Int)]) rfl Try.underlying31 ti3 hO (by decide) (by kernel_rfl) (Els.cons rfl rfl (Els.nil _ _ _) (by simp [mx])) rfl
 obtain ⟨TH, XK, i4, O8, VE, KU⟩ := zz
 refine zg (KU rfl) ?_
 replace hO := i4.own
 have zz := freeze 0 hO rfl O8
 obtain ⟨hO1, xl, iu, O9⟩ := zz
 dsimp only [eS, eZ] at hO1 xl iu
 replace hB := ((((hB.trans v8.fr).trans uX.fr).trans uf.fr).trans i4.fr).trans (Owns.J09 _ _ 0)
 dsimp only [eS, eZ] at hB
 replace hO := hO1; clear hO1
 have ug := Stp.nil (e := 3) (r := 1) hO
 replace hO := ug.own
 have Pa := Els.nil (Rp.int .i64) (bl (.row 3 1 none 0 0 [] :: [.row 3 1 tX (0 + 1) tY zK, .row 31 1 rk (0 + 1) ro yv, .row 31 1 p35 n37 c36 gD, .blk B10 (.cells #[.int .i64 ((ix a0 (0 : Int)).length : Int), .bool true, .slice p35 n37 c36, .slice rk (0 + 1) ro, .slice tX (0 + 1) tY, .slice none 0 0, .slice none 0 0, .slice none 0 0, .int .i64 0, .map (some B4), .slice none 0 0, .slice none 0 0, .slice none 0 0] 156 (0, 0)), .any (mapE (fun a : List UInt8 => Value.string (gstr a)) (fun a : Int => Value.int .i64 a) B4 (mput (([] : List (Str × Int))) r407 ((0 : Int))))]) ++ A) TH
 obtain ⟨TI, H⟩ := H
 replace iu := iu.ch ug.ch
 have zz := oapp Try.underlying31 ti3 rfl 0 hO rfl Pa iu O9 TI (by decide)
 obtain ⟨XL, vi, vj, Bg, tB, ja, KV⟩ := zz
 dsimp only [sS, sZ] at tB ja
 refine zg (KV (by exact rfl) (by exact rfl)) ?_
 replace hO := tB.own
 refine zo (J01 rfl) (zo (J00 Try.underlying156 rfl ti123 rfl (by decide)) (zo (J00 Try.underlying123 rfl ti31 rfl (by decide)) ?_))
 have zz := J0h (v := .slice vi (0 + 1) vj) (i := 5) (cs' := #[.int .i64 ((ix a0 (0 : Int)).length : Int), .bool true, .slice p35 n37 c36, .slice rk (0 + 1) ro, .slice tX (0 + 1) tY, .slice vi (0 + 1) vj, .slice none 0 0, .slice none 0 0, .int .i64 0, .map (some B4), .slice none 0 0, .slice none 0 0, .slice none 0 0]) 4 hO rfl rfl rfl rfl
 obtain ⟨TJ, rY, KW⟩ := zz
 dsimp only [sS, sZ] at rY
 refine zg (KW Try.underlying31 rfl ti31 (by exact rfl) (by exact rfl)) ?_
 replace hO := rY.own
 refine zn (zq ?_)
 refine Go1.cut [(0, .pointer (some ⟨B10, 0, none⟩)), (4, .string (gstr (([] : Str)))), (5, .int .i64 (-1)), (13, .int .i64 0)] ⟨rfl, rfl, rfl, rfl, trivial⟩ ?_
 intro σ _
 refine zr (zm rfl (zm rfl (zo (J01 rfl) (zo (J00 Try.underlying156 rfl ti30 rfl (by decide)) (zs (oblk (i := 10) 4 hO rfl rfl Try.underlying30 rfl rfl) ?_)))))
 refine zm rfl ?_
 have zz := J0n (r := Rp.str) (n := 1) (parts := [(0, .string (gstr (([] : Str))))]) (vs := [.string (gstr (([] : Str)))]) (xs := [([] : Str)]) rfl Try.underlying30 ti9 hO (by decide) (by kernel_rfl) (Els.cons rfl ⟨rfl, (by decide)⟩ (Els.nil _ _ _) (by simp [mx])) rfl
 obtain ⟨KX, uG, gk, xm, VG, KY⟩ := zz
 refine zg (KY rfl) ?_
 replace hO := gk.own
 have zz := freeze 0 hO rfl xm
 obtain ⟨hO1, vz, ld, Pb⟩ := zz
 dsimp only [eS, eZ] at hO1 vz ld
 replace hB := ((((hB.trans ug.fr).trans tB.fr).trans rY.fr).trans gk.fr).trans (Owns.J09 _ _ 0)
 dsimp only [eS, eZ] at hB
 replace hO := hO1; clear hO1
 have sa := Stp.nil (e := 9) (r := 1) hO
 replace hO := sa.own
 have Pc := Els.nil (Rp.str) (bl (.row 9 1 none 0 0 [] :: [.row 3 1 vi (0 + 1) vj Bg, .row 3 1 tX (0 + 1) tY zK, .row 31 1 rk (0 + 1) ro yv, .row 31 1 p35 n37 c36 gD, .blk B10 (.cells #[.int .i64 ((ix a0 (0 : Int)).length : Int), .bool true, .slice p35 n37 c36, .slice rk (0 + 1) ro, .slice tX (0 + 1) tY, .slice vi (0 + 1) vj, .slice none 0 0, .slice none 0 0, .int .i64 0, .map (some B4), .slice none 0 0, .slice none 0 0, .slice none 0 0] 156 (0, 0)), .any (mapE (fun a : List UInt8 => Value.string (gstr a)) (fun a : Int => Value.int .i64 a) B4 (mput (([] : List (Str × Int))) r407 ((0 : Int))))]) ++ A) KX
 obtain ⟨TK, H⟩ := H
 replace ld := ld.ch sa.ch
 have zz := oapp Try.underlying30 ti9 rfl 0 hO rfl Pc ld Pb TK (by decide)
 obtain ⟨TL, xJ, xK, CT, qb, nS, K1⟩ := zz
 dsimp only [sS, sZ] at qb nS
 refine zg (K1 (by exact rfl) (by exact rfl)) ?_
 replace hO := qb.own
 refine zo (J01 rfl) (zo (J00 Try.underlying156 rfl ti30 rfl (by decide)) ?_)
 have zz := J0h (v := .slice xJ (0 + 1) xK) (i := 10) (cs' := #[.int .i64 ((ix a0 (0 : Int)).length : Int), .bool true, .slice p35 n37 c36, .slice rk (0 + 1) ro, .slice tX (0 + 1) tY, .slice vi (0 + 1) vj, .slice none 0 0, .slice none 0 0, .int .i64 0, .map (some B4), .slice xJ (0 + 1) xK, .slice none 0 0, .slice none 0 0]) 5 hO rfl rfl rfl rfl
 obtain ⟨XM, ol, DW⟩ := zz
 dsimp only [sS, sZ] at ol
 refine zg (DW Try.underlying30 rfl ti30 (by exact rfl) (by exact rfl)) ?_
 replace hO := ol.own
 refine zn (zq (zr (zm rfl (zm rfl (zo (J01 rfl) ?_)))))
 refine zo (J00 Try.underlying156 rfl ti31 rfl (by decide)) (zs (oblk (i := 11) 5 hO rfl rfl Try.underlying31 rfl rfl) (zm rfl ?_))
 have zz := J0n (r := Rp.int .i64) (n := 1) (parts := [(0, .int .i64 (-1))]) (vs := [.int .i64 (-1)]) (xs := [(-1 : Int)]) rfl Try.underlying31 ti3 hO (by decide) (by kernel_rfl) (Els.cons rfl rfl (Els.nil _ _ _) (by simp [mx])) rfl
 obtain ⟨TM, XN, qc, Pd, Jo, K2⟩ := zz
 refine zg (K2 rfl) ?_
 replace hO := qc.own
 have zz := freeze 0 hO rfl Pd
 obtain ⟨hO1, uv, uw, Pe⟩ := zz
 dsimp only [eS, eZ] at hO1 uv uw
 replace hB := ((((hB.trans sa.fr).trans qb.fr).trans ol.fr).trans qc.fr).trans (Owns.J09 _ _ 0)
 dsimp only [eS, eZ] at hB
 replace hO := hO1; clear hO1
 have om := Stp.nil (e := 3) (r := 1) hO
 replace hO := om.own
 have Pg := Els.nil (Rp.int .i64) (bl (.row 3 1 none 0 0 [] :: [.row 9 1 xJ (0 + 1) xK CT, .row 3 1 vi (0 + 1) vj Bg, .row 3 1 tX (0 + 1) tY zK, .row 31 1 rk (0 + 1) ro yv, .row 31 1 p35 n37 c36 gD, .blk B10 (.cells #[.int .i64 ((ix a0 (0 : Int)).length : Int), .bool true, .slice p35 n37 c36, .slice rk (0 + 1) ro, .slice tX (0 + 1) tY, .slice vi (0 + 1) vj, .slice none 0 0, .slice none 0 0, .int .i64 0, .map (some B4), .slice xJ (0 + 1) xK, .slice none 0 0, .slice none 0 0] 156 (0, 0)), .any (mapE (fun a : List UInt8 => Value.string (gstr a)) (fun a : Int => Value.int .i64 a) B4 (mput (([] : List (Str × Int))) r407 ((0 : Int))))]) ++ A) TM
 obtain ⟨DX, H⟩ := H
 replace uw := uw.ch om.ch
 have zz := oapp Try.underlying31 ti3 rfl 0 hO rfl Pg uw Pe DX (by decide)
 obtain ⟨XO, AA, AB, Fv, gI, xn, K3⟩ := zz
 dsimp only [sS, sZ] at gI xn
 refine zg (K3 (by exact rfl) (by exact rfl)) ?_
 replace hO := gI.own
 refine zo (J01 rfl) (zo (J00 Try.underlying156 rfl ti31 rfl (by decide)) ?_)
 have zz := J0h (v := .slice AA (0 + 1) AB) (i := 11) (cs' := #[.int .i64 ((ix a0 (0 : Int)).length : Int), .bool true, .slice p35 n37 c36, .slice rk (0 + 1) ro, .slice tX (0 + 1) tY, .slice vi (0 + 1) vj, .slice none 0 0, .slice none 0 0, .int .i64 0, .map (some B4), .slice xJ (0 + 1) xK, .slice AA (0 + 1) AB, .slice none 0 0]) 6 hO rfl rfl rfl rfl
 obtain ⟨K4, mC, K5⟩ := zz
 dsimp only [sS, sZ] at mC
 refine zg (K5 Try.underlying31 rfl ti31 (by exact rfl) (by exact rfl)) ?_
 replace hO := mC.own
 refine zn (zq ?_)
 refine Go1.cut [(13, .int .i64 0)] ⟨rfl, trivial⟩ ?_
 intro σ _
 refine zr (zm rfl (za rfl (zn ?_)))
 refine Go1.ret1V Try.func155 rfl (show _ = .int .i64 0 from rfl) ?_
 refine hR403 _ _ ?_
 refine za rfl (zn (zq (zq (zr (zm rfl ?_)))))
 refine zo (J01 rfl) (zo (J00 Try.underlying156 rfl ti123 rfl (by decide)) (zo (J00 Try.underlying123 rfl ti23 rfl (by decide)) (zs (oblk (i := 2) 6 hO rfl rfl Try.underlying23 rfl rfl) ?_)))
 have Z27 := (((((((((((((((((((((((((((Bf.ch.trans yX.ch).trans yY.ch).trans fL.ch).trans y3.ch).trans Fu).trans iO.ch).trans xV.ch).trans wS.ch).trans wT.ch).trans zJ).trans v8.ch).trans uX.ch).trans uf.ch).trans i4.ch).trans xl).trans ug.ch).trans tB.ch).trans rY.ch).trans gk.ch).trans vz).trans sa.ch).trans qb.ch).trans ol.ch).trans qc.ch).trans uv).trans om.ch).trans gI.ch).trans mC.ch
 replace ax := ax.ch Z27
 refine zo (J0A Try.underlying23 rfl (ax.neq hO 5 rfl)) (zm rfl (zn (zb ?_)))
 have nk := Stp.nil (e := 185) (r := 2) hO
 replace hO := nk.own
 have Fw := Els.nil (rpRule) (bl (.row 185 2 none 0 0 [] :: [.row 3 1 AA (0 + 1) AB Fv, .row 9 1 xJ (0 + 1) xK CT, .row 3 1 vi (0 + 1) vj Bg, .row 3 1 tX (0 + 1) tY zK, .row 31 1 rk (0 + 1) ro yv, .row 31 1 p35 n37 c36 gD, .blk B10 (.cells #[.int .i64 ((ix a0 (0 : Int)).length : Int), .bool true, .slice p35 n37 c36, .slice rk (0 + 1) ro, .slice tX (0 + 1) tY, .slice vi (0 + 1) vj, .slice none 0 0, .slice none 0 0, .int .i64 0, .map (some B4), .slice xJ (0 + 1) xK, .slice AA (0 + 1) AB, .slice none 0 0] 156 (0, 0)), .any (mapE (fun a : List UInt8 => Value.string (gstr a)) (fun a : Int => Value.int .i64 a) B4 (mput (([] : List (Str × Int))) r407 ((0 : Int))))]) ++ A) K4
 have gA := Stp.nil (e := 3) (r := 1) hO
 replace hO := gA.own
 have Ph := Els.nil (Rp.int .i64) (bl (.row 3 1 none 0 0 [] :: [.row 185 2 none 0 0 [], .row 3 1 AA (0 + 1) AB Fv, .row 9 1 xJ (0 + 1) xK CT, .row 3 1 vi (0 + 1) vj Bg, .row 3 1 tX (0 + 1) tY zK, .row 31 1 rk (0 + 1) ro yv, .row 31 1 p35 n37 c36 gD, .blk B10 (.cells #[.int .i64 ((ix a0 (0 : Int)).length : Int), .bool true, .slice p35 n37 c36, .slice rk (0 + 1) ro, .slice tX (0 + 1) tY, .slice vi (0 + 1) vj, .slice none 0 0, .slice none 0 0, .int .i64 0, .map (some B4), .slice xJ (0 + 1) xK, .slice AA (0 + 1) AB, .slice none 0 0] 156 (0, 0)), .any (mapE (fun a : List UInt8 => Value.string (gstr a)) (fun a : Int => Value.int .i64 a) B4 (mput (([] : List (Str × Int))) r407 ((0 : Int))))]) ++ A) K4
 replace Fw := Fw.ch gA.ch
 replace ax := (ax.ch nk.ch).ch gA.ch
 have Z28 := (mC.ch.trans nk.ch).trans gA.ch
 replace xn := xn.ch Z28
 replace hB := ((((hB.trans om.fr).trans gI.fr).trans mC.fr).trans nk.fr).trans gA.fr
 have Z29 := ((((((ol.ch.trans qc.ch).trans uv).trans om.ch).trans gI.ch).trans mC.ch).trans nk.ch).trans gA.ch
 replace nS := nS.ch Z29
 have Z30 := (((((((((((rY.ch.trans gk.ch).trans vz).trans sa.ch).trans qb.ch).trans ol.ch).trans qc.ch).trans uv).trans om.ch).trans gI.ch).trans mC.ch).trans nk.ch).trans gA.ch
 replace ja := ja.ch Z30
 have Z31 := ((((((((((((((((uf.ch.trans i4.ch).trans xl).trans ug.ch).trans tB.ch).trans rY.ch).trans gk.ch).trans vz).trans sa.ch).trans qb.ch).trans ol.ch).trans qc.ch).trans uv).trans om.ch).trans gI.ch).trans mC.ch).trans nk.ch).trans gA.ch
 replace gv := gv.ch Z31
 have Z32 := (((((((((((((((((((((wS.ch.trans wT.ch).trans zJ).trans v8.ch).trans uX.ch).trans uf.ch).trans i4.ch).trans xl).trans ug.ch).trans tB.ch).trans rY.ch).trans gk.ch).trans vz).trans sa.ch).trans qb.ch).trans ol.ch).trans qc.ch).trans uv).trans om.ch).trans gI.ch).trans mC.ch).trans nk.ch).trans gA.ch
 replace fF := fF.ch Z32
 refine Go1.loopW (S := Nat × List Int × List Rule × List Int × List Str × List Int × List Int × List (List Int) × (List (Str × Int))) (fun s σ w => match s with | (k3_548, d_549, d_555, d_561, d_567, d_573, d_579, d_585, m3_591) => ∃ (i7 : Nat) (kl : Option Addr) (km : Nat) (tc : List Value) (jk : Nat) (jV : Option Addr) (jW : Nat) (rp : List Value) (jl : Nat) (jX : Option Addr) (jY : Nat) (rq : List Value) (jm : Nat) (kn : Option Addr) (ko : Nat) (rs : List Value) (jo : Nat) (kz : Option Addr) (kA : Nat) (ru : List Value) (jp : Nat) (kX : Option Addr) (kY : Nat) (rv : List Value) (jq : Nat) (lK : Option Addr) (lL : Nat) (rB : List Value), agrees σ [(6, .pointer (some ⟨B10, 0, none⟩)), (9, .int .i64 0), (85, .slice p35 n37 c36), (86, .int .i64 (d_32.length : Int)), (87, .int .i64 (k3_548 : Int))] ∧ (fun Z0 => Owns w0.heap.size w Z0 A ∧ Els (Rp.int .i64) (bl Z0 ++ A) w tc d_549 ∧ Els (rpRule) (bl Z0 ++ A) w rp d_555 ∧ Els (Rp.int .i64) (bl Z0 ++ A) w rq d_561 ∧ Els (Rp.str) (bl Z0 ++ A) w rs d_567 ∧ Els (Rp.int .i64) (bl Z0 ++ A) w ru d_573 ∧ Els (Rp.int .i64) (bl Z0 ++ A) w rv d_579 ∧ Els (Rp.sl (Rp.int .i64)) (bl Z0 ++ A) w rB d_585 ∧ Els (Rp.sl (Rp.int .i64)) (bl Z0 ++ A) w gD d_32 ∧ Fr (bl []) w0 (bl Z0) w) [.row 3 1 kl i7 km tc, .row 185 2 jV jk jW rp, .row 3 1 jX jl jY rq, .row 9 1 kn jm ko rs, .row 3 1 kz jo kA ru, .row 3 1 kX jp kY rv, .row 31 1 lK jq lL rB, .row 31 1 p35 n37 c36 gD, .blk B10 (.cells #[.int .i64 ((ix a0 (0 : Int)).length : Int), .bool true, .slice p35 n37 c36, .slice lK jq lL, .slice kX jp kY, .slice kz jo kA, .slice none 0 0, .slice jV jk jW, .int .i64 0, .map (some B4), .slice kn jm ko, .slice jX jl jY, .slice kl i7 km] 156 (0, 0)), .any (mapE (fun a : List UInt8 => Value.string (gstr a)) (fun a : Int => Value.int .i64 a) B4 m3_591)]) H ⟨0, none, 0, [], 0, none, 0, [], 0 + 1, AA, AB, Fv, 0 + 1, xJ, xK, CT, 0 + 1, vi, vj, Bg, 0 + 1, tX, tY, zK, 0 + 1, rk, ro, yv, ⟨rfl, rfl, rfl, rfl, rfl, trivial⟩, hO, Ph, Fw, xn, nS, ja, gv, fF, ax, hB⟩ ?_
 intro X3
 refine prE fun k3_548 => prE fun d_549 => prE fun d_555 => prE fun d_561 => prE fun d_567 => prE fun d_573 => prE fun d_579 => prE fun d_585 => fun m3_591 => ?_
 intro H hX3 σ TN
 refine exE fun i7 => exE fun kl => exE fun km => exE fun tc => exE fun jk => exE fun jV => exE fun jW => exE fun rp => exE fun jl => exE fun jX => exE fun jY => exE fun rq => exE fun jm => exE fun kn => exE fun ko => exE fun rs => exE fun jo => exE fun kz => exE fun kA => exE fun ru => exE fun jp => exE fun kX => exE fun kY => exE fun rv => exE fun jq => exE fun lK => exE fun lL => exE fun rB => andE fun hag => andE fun hO => andE fun cI => andE fun cM => andE fun cN => andE fun cR => andE fun dE => andE fun dV => andE fun eB => andE fun ax => fun hB => ?_
 dsimp only at H
 refine Go1.keep [(6, .pointer (some ⟨B10, 0, none⟩)), (9, .int .i64 0), (85, .slice p35 n37 c36), (86, .int .i64 (d_32.length : Int)), (87, .int .i64 (k3_548 : Int))] hag ?_
 refine zq (zr ?_)
 by_cases B1 : (k3_548 : Int) < (d_32.length : Int)
 ·replace H := ifp B1 H
  refine zo (fun w => opB (J08 rfl rfl w) (decide_eq_true B1)) (zn (zq (zt rfl rfl (zk (zq ?_)))))
  refine zb (zq (zr (zm rfl ?_)))
  obtain ⟨G7, H⟩ := H
  obtain ⟨G8, H⟩ := H
  refine zo (J02 Try.underlying23 ti31 rfl rfl G7 (ltn (ax.neq hO 7 rfl) G8) (ax.psome hO 7 rfl G7 G8)) ?_
  have zz := oldSl 7 hO rfl ax G7 G8
  obtain ⟨K6, K7, dw, Pi⟩ := zz
  refine zs (Pi Try.underlying31 rfl rfl) (za rfl (za rfl (zn (zq (zr ?_)))))
  refine zm rfl ?_
  obtain ⟨G9, H⟩ := H
  refine zo (J0e rfl rfl (wrap_i64 G9)) (zo (J3O Try.underlying3 Try.underlying21 rfl rfl) ?_)
  obtain ⟨TO, H⟩ := H
  obtain ⟨DY, H⟩ := H
  refine zo (J3p Try.underlying21 Try.underlying9 rfl TO DY) (za rfl (zn (zq ?_)))
  refine Go1.drawS 0 [(0, .pure), (1, .pure), (2, .pure), (3, .stable), (4, .pure), (5, .loud), (6, .stable), (7, .pure), (8, .pure), (9, .pure), (10, .pure), (11, .pure)] mixed (by kernel_rfl) ?_
  intro XP Pj
  have iq := Stp.same hO Pj
  replace hO := iq.own
  refine GoQ.pure rfl (J03 rfl) rfl rfl ?_
  refine GoQ.pure rfl (J01 rfl) rfl rfl ?_
  refine GoQ.pure rfl (J00 Try.underlying156 rfl ti154 rfl (by decide)) rfl rfl ?_
  refine GoQ.stable rfl (oblk (i := 9) 8 hO rfl rfl Try.underlying154 rfl rfl) rfl rfl ?_
  refine GoQ.pure rfl (J03 rfl) rfl rfl ?_
  replace dw := dw.ch iq.ch
  refine GoQ.call rfl (J0a body157 rfl (J0p hO.lt dw H)) (fun v w hr => by obtain ⟨_, _, hs, _, _⟩ := hr; assumption) rfl rfl ?_
  rintro XQ XR ⟨r605, rfl, Pk, Vc, H⟩
  have tC := Stp.same hO Pk
  replace hO := tC.own
  by_cases xL : mhas m3_591 r605 = true
  ·replace H := ifp xL H
   refine GoQ.stable rfl (olookT (a := r605) (MK.str Try.underlying9) 9 hO rfl Try.underlying154 rfl rfl xL) rfl rfl ?_
   refine GoQ.pure rfl (J03 rfl) rfl rfl ?_
   refine GoQ.pure rfl (J07 rfl rfl) rfl rfl ?_
   refine GoQ.pure rfl (J07 rfl rfl) rfl rfl ?_
   refine GoQ.pure rfl (J0s rfl) rfl rfl ?_
   refine GoQ.pure rfl (J0s rfl) rfl rfl ?_
   refine GoQ.nil ?_
   refine zq (zq ?_)
   refine Go1.cut [(6, .pointer (some ⟨B10, 0, none⟩)), (9, .int .i64 0), (10, .int .i64 (k3_548 : Int)), (11, .slice K6 ((ix d_32 (k3_548 : Int)).length) K7), (12, .string (gstr (chr (IntKind.i32.wrap ((97 : Int) + (k3_548 : Int)))))), (13, .int .i64 (mgt m3_591 r605)), (14, .bool true), (85, .slice p35 n37 c36), (86, .int .i64 (d_32.length : Int)), (87, .int .i64 (k3_548 : Int))] ⟨rfl, rfl, rfl, rfl, rfl, rfl, rfl, rfl, rfl, rfl, trivial⟩ ?_
   intro σ _
   refine zr (zm rfl (zn (zt rfl rfl ?_)))
   refine Go1.drawS 5 [(0, .pure), (1, .pure), (2, .pure), (3, .pure), (4, .pure), (5, .stable), (6, .pure), (7, .pure), (8, .pure), (9, .pure), (10, .stable), (11, .pure), (12, .pure), (13, .stable), (14, .pure), (15, .loud), (16, .last), (17, .pure), (18, .pure), (19, .pure), (20, .last)] mixed (by kernel_rfl) ?_
   intro XS Pl
   have tD := Stp.same hO Pl
   replace hO := tD.own
   refine GoQ.pure rfl (J03 rfl) rfl rfl ?_
   refine GoQ.pure rfl (J03 rfl) rfl rfl ?_
   refine GoQ.pure rfl (J01 rfl) rfl rfl ?_
   refine GoQ.pure rfl (J00 Try.underlying156 rfl ti123 rfl (by decide)) rfl rfl ?_
   refine GoQ.pure rfl (J00 Try.underlying123 rfl ti121 rfl (by decide)) rfl rfl ?_
   refine GoQ.stable rfl (oblk (i := 7) 8 hO rfl rfl Try.underlying121 rfl rfl) rfl rfl ?_
   refine GoQ.pure rfl (J03 rfl) rfl rfl ?_
   refine GoQ.pure rfl (J03 rfl) rfl rfl ?_
   refine GoQ.pure rfl (J01 rfl) rfl rfl ?_
   refine GoQ.pure rfl (J00 Try.underlying156 rfl ti30 rfl (by decide)) rfl rfl ?_
   refine GoQ.stable rfl (oblk (i := 10) 8 hO rfl rfl Try.underlying30 rfl rfl) rfl rfl ?_
   refine GoQ.pure rfl (J03 rfl) rfl rfl ?_
   obtain ⟨Fx, H⟩ := H
   obtain ⟨Fy, H⟩ := H
   have Z33 := (iq.ch.trans tC.ch).trans tD.ch
   replace cR := cR.ch Z33
   refine GoQ.pure rfl (J02 Try.underlying30 ti9 rfl rfl Fx (ltn (cR.neq hO 3 rfl) Fy) (cR.psome hO 3 rfl Fx Fy)) rfl rfl ?_
   refine GoQ.stable rfl (oldStr 3 hO rfl cR Fx Fy Try.underlying9 rfl rfl) rfl rfl ?_
   have hle617 := Els.J2m cR Fx Fy
   refine GoQ.pure rfl (J0w Try.underlying185 ti185 (pl := [(0, 1), (1, 1)]) (vs := [(0, .string (gstr (chr (IntKind.i32.wrap ((97 : Int) + (k3_548 : Int)))))), (1, .string (gstr (ix d_567 (mgt m3_591 r605))))]) (cs := #[.string (gstr (chr (IntKind.i32.wrap ((97 : Int) + (k3_548 : Int))))), .string (gstr (ix d_567 (mgt m3_591 r605)))]) (by kernel_rfl) rfl (by kernel_rfl)) rfl rfl ?_
   have zz := obuildN (r := rpRule) (n := 1) (parts := [(0, .agg #[.string (gstr (chr (IntKind.i32.wrap ((97 : Int) + (k3_548 : Int))))), .string (gstr (ix d_567 (mgt m3_591 r605)))])]) (vs := [.string (gstr (chr (IntKind.i32.wrap ((97 : Int) + (k3_548 : Int))))), .string (gstr (ix d_567 (mgt m3_591 r605)))]) (xs := [(⟨(chr (IntKind.i32.wrap ((97 : Int) + (k3_548 : Int)))), ix d_567 (mgt m3_591 r605)⟩ : Rule)]) Try.underlying121 ti185 hO (by decide) (by decide) (by kernel_rfl) (Els.flat1 (⟨(chr (IntKind.i32.wrap ((97 : Int) + (k3_548 : Int)))), ix d_567 (mgt m3_591 r605)⟩ : Rule) ⟨(J5Y _), hle617⟩) rfl
   obtain ⟨TP, XT, iB, Pm, Pn, K8⟩ := zz
   refine GoQ.loud rfl (K8 rfl) Pn rfl rfl ?_
   replace hO := iB.own
   have zz := freeze 0 hO rfl Pm
   obtain ⟨hO1, vA, te, Po⟩ := zz
   dsimp only [eS, eZ] at hO1 vA te
   replace hB := ((((hB.trans iq.fr).trans tC.fr).trans tD.fr).trans iB.fr).trans (Owns.J09 _ _ 0)
   dsimp only [eS, eZ] at hB
   replace hO := hO1; clear hO1
   obtain ⟨TQ, H⟩ := H
   replace cM := ((cM.ch Z33).ch iB.ch).ch vA
   have zz := oapp Try.underlying121 ti185 rfl 1 hO rfl cM te Po TQ (by decide)
   obtain ⟨XU, Fz, FA, Pp, sb, ux, K9⟩ := zz
   dsimp only [sS, sZ] at sb ux
   refine GoQ.last rfl (K9 (by exact rfl) (by exact rfl)) rfl rfl ?_
   replace hO := sb.own
   refine GoQ.pure rfl (J01 rfl) rfl rfl ?_
   refine GoQ.pure rfl (J00 Try.underlying156 rfl ti123 rfl (by decide)) rfl rfl ?_
   refine GoQ.pure rfl (J00 Try.underlying123 rfl ti121 rfl (by decide)) rfl rfl ?_
   have zz := J0h (v := .slice Fz (jk + 1) FA) (i := 7) (cs' := #[.int .i64 ((ix a0 (0 : Int)).length : Int), .bool true, .slice p35 n37 c36, .slice lK jq lL, .slice kX jp kY, .slice kz jo kA, .slice none 0 0, .slice Fz (jk + 1) FA, .int .i64 0, .map (some B4), .slice kn jm ko, .slice jX jl jY, .slice kl i7 km]) 8 hO rfl rfl rfl rfl
   obtain ⟨TS, qd, La⟩ := zz
   dsimp only [sS, sZ] at qd
   refine GoQ.last rfl (La Try.underlying121 rfl ti121 (by exact rfl) (by exact rfl)) rfl rfl ?_
   replace hO := qd.own
   refine GoQ.nil ?_
   refine Go1.cut [(6, .pointer (some ⟨B10, 0, none⟩)), (9, .int .i64 0), (13, .int .i64 (mgt m3_591 r605)), (85, .slice p35 n37 c36), (86, .int .i64 (d_32.length : Int)), (87, .int .i64 (k3_548 : Int))] ⟨rfl, rfl, rfl, rfl, rfl, rfl, trivial⟩ ?_
   intro σ _
   refine zr (zm rfl (zm rfl (zo (J01 rfl) (zo (J00 Try.underlying156 rfl ti31 rfl (by decide)) (zs (oblk (i := 12) 8 hO rfl rfl Try.underlying31 rfl rfl) ?_)))))
   refine zm rfl ?_
   have zz := J0n (r := Rp.int .i64) (n := 1) (parts := [(0, .int .i64 (mgt m3_591 r605))]) (vs := [.int .i64 (mgt m3_591 r605)]) (xs := [(mgt m3_591 r605)]) rfl Try.underlying31 ti3 hO (by decide) (by kernel_rfl) (Els.cons rfl rfl (Els.nil _ _ _) (by simp [mx])) rfl
   obtain ⟨XV, XW, sc, Pq, VH, D0⟩ := zz
   refine zg (D0 rfl) ?_
   replace hO := sc.own
   have zz := freeze 0 hO rfl Pq
   obtain ⟨hO1, uY, zL, Pr⟩ := zz
   dsimp only [eS, eZ] at hO1 uY zL
   replace hB := (((hB.trans sb.fr).trans qd.fr).trans sc.fr).trans (Owns.J09 _ _ 0)
   dsimp only [eS, eZ] at hB
   replace hO := hO1; clear hO1
   obtain ⟨TT, H⟩ := H
   have Z34 := (((((Z33.trans iB.ch).trans vA).trans sb.ch).trans qd.ch).trans sc.ch).trans uY
   replace cI := cI.ch Z34
   have zz := oapp Try.underlying31 ti3 rfl 0 hO rfl cI zL Pr TT (by decide)
   obtain ⟨TU, Ha, Hb, Ps, qe, CU, Lb⟩ := zz
   dsimp only [sS, sZ] at qe CU
   refine zg (Lb (by exact rfl) (by exact rfl)) ?_
   replace hO := qe.own
   refine zo (J01 rfl) (zo (J00 Try.underlying156 rfl ti31 rfl (by decide)) ?_)
   have zz := J0h (v := .slice Ha (i7 + 1) Hb) (i := 12) (cs' := #[.int .i64 ((ix a0 (0 : Int)).length : Int), .bool true, .slice p35 n37 c36, .slice lK jq lL, .slice kX jp kY, .slice kz jo kA, .slice none 0 0, .slice Fz (jk + 1) FA, .int .i64 0, .map (some B4), .slice kn jm ko, .slice jX jl jY, .slice Ha (i7 + 1) Hb]) 8 hO rfl rfl rfl rfl
   obtain ⟨XX, oo, Lc⟩ := zz
   dsimp only [sS, sZ] at oo
   refine zg (Lc Try.underlying31 rfl ti31 (by exact rfl) (by exact rfl)) ?_
   replace hO := oo.own
   refine zn ?_
   refine Go1.inBlock ?_
   refine zr ?_
   replace ax := ((ax.ch Z34).ch qe.ch).ch oo.ch
   refine zo (J0e rfl rfl (wrap_i64 (natbd B1 ax.bd))) (zm rfl (zn ?_))
   replace CU := CU.ch oo.ch
   replace hB := (hB.trans qe.fr).trans oo.fr
   have Z35 := (((qd.ch.trans sc.ch).trans uY).trans qe.ch).trans oo.ch
   replace ux := ux.ch Z35
   have Z36 := ((((((iB.ch.trans vA).trans sb.ch).trans qd.ch).trans sc.ch).trans uY).trans qe.ch).trans oo.ch
   replace cR := cR.ch Z36
   have Z37 := (Z34.trans qe.ch).trans oo.ch
   replace cN := cN.ch Z37
   replace dE := dE.ch Z37
   replace dV := dV.ch Z37
   replace eB := eB.ch Z37
   exact hX3 _ H _ _ ⟨i7 + 1, Ha, Hb, Ps, jk + 1, Fz, FA, Pp, jl, jX, jY, rq, jm, kn, ko, rs, jo, kz, kA, ru, jp, kX, kY, rv, jq, lK, lL, rB, ⟨rfl, rfl, rfl, rfl, rfl, trivial⟩, hO, CU, ux, cN, cR, dE, dV, eB, ax, hB⟩
  replace H := ifn xL H
  refine GoQ.stable rfl (olookF (a := r605) (MK.str Try.underlying9) 9 hO rfl Try.underlying154 ti3 rfl rfl xL) rfl rfl ?_
  refine GoQ.pure rfl (J03 rfl) rfl rfl ?_
  refine GoQ.pure rfl (J07 rfl rfl) rfl rfl ?_
  refine GoQ.pure rfl (J07 rfl rfl) rfl rfl ?_
  refine GoQ.pure rfl (J0s rfl) rfl rfl ?_
  refine GoQ.pure rfl (J0s rfl) rfl rfl ?_
  refine GoQ.nil ?_
  refine zq (zq (zr (zm rfl (zn (zf rfl rfl ?_)))))
  refine Go1.cut [(6, .pointer (some ⟨B10, 0, none⟩)), (9, .int .i64 0), (10, .int .i64 (k3_548 : Int)), (11, .slice K6 ((ix d_32 (k3_548 : Int)).length) K7), (12, .string (gstr (chr (IntKind.i32.wrap ((97 : Int) + (k3_548 : Int)))))), (85, .slice p35 n37 c36), (86, .int .i64 (d_32.length : Int)), (87, .int .i64 (k3_548 : Int))] ⟨rfl, rfl, rfl, rfl, rfl, rfl, rfl, rfl, trivial⟩ ?_
  intro σ _
  refine zr (zm rfl (zm rfl ?_))
  replace dw := dw.ch tC.ch
  refine GoR.call (J0a body86 rfl (J0I hO.lt dw H)) rfl rfl ?_
  rintro XY X0 ⟨r662, y4, wa, wb, Vd, rfl, Pt, hN666, vB, H⟩
  have sd := Stp.more hO Pt hN666
  dsimp only [List.cons_append, List.nil_append] at sd
  replace hO := sd.own
  refine zm rfl (zm rfl (zm rfl (zm rfl ?_)))
  refine GoR.inl (vs := [.pointer (some ⟨B10, 0, none⟩), .slice wa y4 wb, .int .i64 0, .int .i64 (k3_548 : Int), .string (gstr (chr (IntKind.i32.wrap ((97 : Int) + (k3_548 : Int))))), .int .i64 0]) (caps := []) rfl rfl body155 Try.func155 rfl Try.ntmps155 rfl rfl rfl ?_
  intro RhR670 hR670
  refine zq (zr (za rfl (zn (zq (zr ?_)))))
  refine zm rfl (zo (J01 rfl) (zo (J00 Try.underlying156 rfl ti123 rfl (by decide)) (zo (J00 Try.underlying123 rfl ti23 rfl (by decide)) (zs (oblk (i := 3) 9 hO rfl rfl Try.underlying23 rfl rfl) ?_))))
  have Z38 := (iq.ch.trans tC.ch).trans sd.ch
  replace eB := eB.ch Z38
  refine zo (J0A Try.underlying23 rfl (eB.neq hO 7 rfl)) (za rfl (zn (zq ?_)))
  refine Go1.drawS 1 [(0, .pure), (1, .pure), (2, .pure), (3, .stable), (4, .pure), (6, .pure), (5, .loud), (7, .last)] mixed (by kernel_rfl) ?_
  intro Ya Pu
  have se := Stp.same hO Pu
  replace hO := se.own
  refine GoQ.pure rfl (J03 rfl) rfl rfl ?_
  refine GoQ.pure rfl (J01 rfl) rfl rfl ?_
  refine GoQ.pure rfl (J00 Try.underlying156 rfl ti154 rfl (by decide)) rfl rfl ?_
  refine GoQ.stable rfl (oblk (i := 9) 9 hO rfl rfl Try.underlying154 rfl rfl) rfl rfl ?_
  refine GoQ.pure rfl (J03 rfl) rfl rfl ?_
  refine GoQ.pure rfl (J03 rfl) rfl rfl ?_
  replace vB := vB.ch (Ch.assoc _ _ _ _)
  replace vB := vB.ch se.ch
  have zz := rowlend 0 hO rfl vB
  obtain ⟨Pv, Pw⟩ := zz
  have hOc676 := hO.drop 0
  refine GoQ.call rfl (J0a body157 (show ([.slice wa y4 wb] : List Value) = [.slice wa r662.length wb] from by rw [← Pw]) (J0p hOc676.lt Pv H)) (fun v w hr => by obtain ⟨_, _, hs, _, _⟩ := hr; assumption) rfl rfl ?_
  rintro Yb Yc ⟨r677, rfl, Px, Ve, H⟩
  have sf := Stp.same hO Px
  replace hO := sf.own
  have zz := omapUpd (MK.str Try.underlying9) 10 hO rfl Try.underlying154 r677 (d_585.length : Int)
  obtain ⟨Yd, qf, Ld⟩ := zz
  dsimp only [sS, sZ] at qf
  refine GoQ.last rfl (Ld (by exact rfl) (by exact rfl) (by exact rfl)) rfl rfl ?_
  replace hO := qf.own
  refine GoQ.nil ?_
  refine zq ?_
  refine Go1.cut [(0, .pointer (some ⟨B10, 0, none⟩)), (1, .slice wa y4 wb), (2, .int .i64 0), (3, .int .i64 (k3_548 : Int)), (4, .string (gstr (chr (IntKind.i32.wrap ((97 : Int) + (k3_548 : Int)))))), (5, .int .i64 0), (13, .int .i64 (d_585.length : Int))] ⟨rfl, rfl, rfl, rfl, rfl, rfl, rfl, trivial⟩ ?_
  intro σ _
  refine zr (zm rfl (zm rfl (zo (J01 rfl) (zo (J00 Try.underlying156 rfl ti123 rfl (by decide)) (zo (J00 Try.underlying123 rfl ti23 rfl (by decide)) ?_)))))
  refine zs (oblk (i := 3) 9 hO rfl rfl Try.underlying23 rfl rfl) (zm rfl ?_)
  replace vB := (vB.ch sf.ch).ch qf.ch
  have zz := freeze 0 hO rfl vB
  obtain ⟨hO1, vC, fx, Py⟩ := zz
  dsimp only [eS, eZ] at hO1 vC fx
  replace hB := ((((((hB.trans iq.fr).trans tC.fr).trans sd.fr).trans se.fr).trans sf.fr).trans qf.fr).trans (Owns.J09 _ _ 0)
  dsimp only [eS, eZ] at hB
  replace hO := hO1; clear hO1
  have zz := J0n (r := Rp.sl (Rp.int .i64)) (n := 1) (parts := [(0, .slice wa y4 wb)]) (vs := [.slice wa y4 wb]) (xs := [r662]) rfl Try.underlying23 ti31 hO (by decide) (by kernel_rfl) (Els.cons rfl ⟨wa, wb, congrArg some (congrArg (fun nn => Value.slice wa nn wb) Py), fx⟩ (Els.nil _ _ _) (by simp [mx])) rfl
  obtain ⟨Ye, Yf, sj, Pz, VI, Le⟩ := zz
  refine zg (Le rfl) ?_
  replace hO := sj.own
  have zz := freeze 0 hO rfl Pz
  obtain ⟨hO1, u0, fK, PA⟩ := zz
  dsimp only [eS, eZ] at hO1 u0 fK
  replace hB := (hB.trans sj.fr).trans (Owns.J09 _ _ 0)
  dsimp only [eS, eZ] at hB
  replace hO := hO1; clear hO1
  obtain ⟨TV, H⟩ := H
  have Z39 := ((((se.ch.trans sf.ch).trans qf.ch).trans vC).trans sj.ch).trans u0
  replace eB := eB.ch Z39
  have zz := oapp Try.underlying23 ti31 rfl 6 hO rfl eB fK PA TV (by decide)
  obtain ⟨Yg, y5, y6, PB, qg, fP, Lf⟩ := zz
  dsimp only [sS, sZ] at qg fP
  refine zg (Lf (by exact rfl) (by exact rfl)) ?_
  replace hO := qg.own
  refine zo (J01 rfl) (zo (J00 Try.underlying156 rfl ti123 rfl (by decide)) (zo (J00 Try.underlying123 rfl ti23 rfl (by decide)) ?_))
  have zz := J0h (v := .slice y5 (jq + 1) y6) (i := 3) (cs' := #[.int .i64 ((ix a0 (0 : Int)).length : Int), .bool true, .slice p35 n37 c36, .slice y5 (jq + 1) y6, .slice kX jp kY, .slice kz jo kA, .slice none 0 0, .slice jV jk jW, .int .i64 0, .map (some B4), .slice kn jm ko, .slice jX jl jY, .slice kl i7 km]) 8 hO rfl rfl rfl rfl
  obtain ⟨Yh, oq, Lg⟩ := zz
  dsimp only [sS, sZ] at oq
  refine zg (Lg Try.underlying23 rfl ti23 (by exact rfl) (by exact rfl)) ?_
  replace hO := oq.own
  refine zn (zq (zr (zm rfl (zm rfl (zo (J01 rfl) ?_)))))
  refine zo (J00 Try.underlying156 rfl ti123 rfl (by decide)) (zo (J00 Try.underlying123 rfl ti31 rfl (by decide)) (zs (oblk (i := 4) 8 hO rfl rfl Try.underlying31 rfl rfl) (zm rfl ?_)))
  have zz := J0n (r := Rp.int .i64) (n := 1) (parts := [(0, .int .i64 0)]) (vs := [.int .i64 0]) (xs := [(0 : Int)]) rfl Try.underlying31 ti3 hO (by decide) (by kernel_rfl) (Els.cons rfl rfl (Els.nil _ _ _) (by simp [mx])) rfl
  obtain ⟨Yi, Yj, qh, PC, VJ, Lh⟩ := zz
  refine zg (Lh rfl) ?_
  replace hO := qh.own
  have zz := freeze 0 hO rfl PC
  obtain ⟨hO1, uy, gw, PD⟩ := zz
  dsimp only [eS, eZ] at hO1 uy gw
  replace hB := (((hB.trans qg.fr).trans oq.fr).trans qh.fr).trans (Owns.J09 _ _ 0)
  dsimp only [eS, eZ] at hB
  replace hO := hO1; clear hO1
  obtain ⟨TW, H⟩ := H
  have Z40 := (((((((((Z38.trans se.ch).trans sf.ch).trans qf.ch).trans vC).trans sj.ch).trans u0).trans qg.ch).trans oq.ch).trans qh.ch).trans uy
  replace dV := dV.ch Z40
  have zz := oapp Try.underlying31 ti3 rfl 5 hO rfl dV gw PD TW (by decide)
  obtain ⟨Yk, AC, AD, PE, ot, gL, Li⟩ := zz
  dsimp only [sS, sZ] at ot gL
  refine zg (Li (by exact rfl) (by exact rfl)) ?_
  replace hO := ot.own
  refine zo (J01 rfl) (zo (J00 Try.underlying156 rfl ti123 rfl (by decide)) (zo (J00 Try.underlying123 rfl ti31 rfl (by decide)) ?_))
  have zz := J0h (v := .slice AC (jp + 1) AD) (i := 4) (cs' := #[.int .i64 ((ix a0 (0 : Int)).length : Int), .bool true, .slice p35 n37 c36, .slice y5 (jq + 1) y6, .slice AC (jp + 1) AD, .slice kz jo kA, .slice none 0 0, .slice jV jk jW, .int .i64 0, .map (some B4), .slice kn jm ko, .slice jX jl jY, .slice kl i7 km]) 8 hO rfl rfl rfl rfl
  obtain ⟨Yl, nm, Lj⟩ := zz
  dsimp only [sS, sZ] at nm
  refine zg (Lj Try.underlying31 rfl ti31 (by exact rfl) (by exact rfl)) ?_
  replace hO := nm.own
  refine zn (zq ?_)
  refine Go1.cut [(0, .pointer (some ⟨B10, 0, none⟩)), (3, .int .i64 (k3_548 : Int)), (4, .string (gstr (chr (IntKind.i32.wrap ((97 : Int) + (k3_548 : Int)))))), (5, .int .i64 0), (13, .int .i64 (d_585.length : Int))] ⟨rfl, rfl, rfl, rfl, rfl, trivial⟩ ?_
  intro σ _
  refine zr (zm rfl (zm rfl (zo (J01 rfl) (zo (J00 Try.underlying156 rfl ti123 rfl (by decide)) (zo (J00 Try.underlying123 rfl ti31 rfl (by decide)) ?_)))))
  refine zs (oblk (i := 5) 8 hO rfl rfl Try.underlying31 rfl rfl) (zm rfl ?_)
  have zz := J0n (r := Rp.int .i64) (n := 1) (parts := [(0, .int .i64 (k3_548 : Int))]) (vs := [.int .i64 (k3_548 : Int)]) (xs := [(k3_548 : Int)]) rfl Try.underlying31 ti3 hO (by decide) (by kernel_rfl) (Els.cons rfl rfl (Els.nil _ _ _) (by simp [mx])) rfl
  obtain ⟨Ym, Yn, ou, PF, VK, Lk⟩ := zz
  refine zg (Lk rfl) ?_
  replace hO := ou.own
  have zz := freeze 0 hO rfl PF
  obtain ⟨hO1, tO, iR, PG⟩ := zz
  dsimp only [eS, eZ] at hO1 tO iR
  replace hB := (((hB.trans ot.fr).trans nm.fr).trans ou.fr).trans (Owns.J09 _ _ 0)
  dsimp only [eS, eZ] at hB
  replace hO := hO1; clear hO1
  obtain ⟨TX, H⟩ := H
  have Z41 := (((Z40.trans ot.ch).trans nm.ch).trans ou.ch).trans tO
  replace dE := dE.ch Z41
  have zz := oapp Try.underlying31 ti3 rfl 4 hO rfl dE iR PG TX (by decide)
  obtain ⟨Yo, B3, B5, PH, np, jb, Ll⟩ := zz
  dsimp only [sS, sZ] at np jb
  refine zg (Ll (by exact rfl) (by exact rfl)) ?_
  replace hO := np.own
  refine zo (J01 rfl) (zo (J00 Try.underlying156 rfl ti123 rfl (by decide)) (zo (J00 Try.underlying123 rfl ti31 rfl (by decide)) ?_))
  have zz := J0h (v := .slice B3 (jo + 1) B5) (i := 5) (cs' := #[.int .i64 ((ix a0 (0 : Int)).length : Int), .bool true, .slice p35 n37 c36, .slice y5 (jq + 1) y6, .slice AC (jp + 1) AD, .slice B3 (jo + 1) B5, .slice none 0 0, .slice jV jk jW, .int .i64 0, .map (some B4), .slice kn jm ko, .slice jX jl jY, .slice kl i7 km]) 8 hO rfl rfl rfl rfl
  obtain ⟨Yp, mD, Lm⟩ := zz
  dsimp only [sS, sZ] at mD
  refine zg (Lm Try.underlying31 rfl ti31 (by exact rfl) (by exact rfl)) ?_
  replace hO := mD.own
  refine zn (zq (zr (zm rfl (zm rfl (zo (J01 rfl) ?_)))))
  refine zo (J00 Try.underlying156 rfl ti30 rfl (by decide)) (zs (oblk (i := 10) 8 hO rfl rfl Try.underlying30 rfl rfl) (zm rfl ?_))
  have zz := J0n (r := Rp.str) (n := 1) (parts := [(0, .string (gstr (chr (IntKind.i32.wrap ((97 : Int) + (k3_548 : Int))))))]) (vs := [.string (gstr (chr (IntKind.i32.wrap ((97 : Int) + (k3_548 : Int)))))]) (xs := [chr (IntKind.i32.wrap ((97 : Int) + (k3_548 : Int)))]) rfl Try.underlying30 ti9 hO (by decide) (by kernel_rfl) (Els.cons rfl ⟨rfl, (J5Y _)⟩ (Els.nil _ _ _) (by simp [mx])) rfl
  obtain ⟨Yq, Yr, nq, PJ, VL, Ln⟩ := zz
  refine zg (Ln rfl) ?_
  replace hO := nq.own
  have zz := freeze 0 hO rfl PJ
  obtain ⟨hO1, tf, lg, PK⟩ := zz
  dsimp only [eS, eZ] at hO1 tf lg
  replace hB := (((hB.trans np.fr).trans mD.fr).trans nq.fr).trans (Owns.J09 _ _ 0)
  dsimp only [eS, eZ] at hB
  replace hO := hO1; clear hO1
  obtain ⟨TY, H⟩ := H
  have Z42 := (((Z41.trans np.ch).trans mD.ch).trans nq.ch).trans tf
  replace cR := cR.ch Z42
  have zz := oapp Try.underlying30 ti9 rfl 3 hO rfl cR lg PK TY (by decide)
  obtain ⟨Ys, D1, D2, PM, mE, mt, Lo⟩ := zz
  dsimp only [sS, sZ] at mE mt
  refine zg (Lo (by exact rfl) (by exact rfl)) ?_
  replace hO := mE.own
  refine zo (J01 rfl) (zo (J00 Try.underlying156 rfl ti30 rfl (by decide)) ?_)
  have zz := J0h (v := .slice D1 (jm + 1) D2) (i := 10) (cs' := #[.int .i64 ((ix a0 (0 : Int)).length : Int), .bool true, .slice p35 n37 c36, .slice y5 (jq + 1) y6, .slice AC (jp + 1) AD, .slice B3 (jo + 1) B5, .slice none 0 0, .slice jV jk jW, .int .i64 0, .map (some B4), .slice D1 (jm + 1) D2, .slice jX jl jY, .slice kl i7 km]) 8 hO rfl rfl rfl rfl
  obtain ⟨Yt, lW, Lp⟩ := zz
  dsimp only [sS, sZ] at lW
  refine zg (Lp Try.underlying30 rfl ti30 (by exact rfl) (by exact rfl)) ?_
  replace hO := lW.own
  refine zn (zq ?_)
  refine Go1.cut [(0, .pointer (some ⟨B10, 0, none⟩)), (5, .int .i64 0), (13, .int .i64 (d_585.length : Int))] ⟨rfl, rfl, rfl, trivial⟩ ?_
  intro σ _
  refine zr (zm rfl (zm rfl (zo (J01 rfl) (zo (J00 Try.underlying156 rfl ti31 rfl (by decide)) (zs (oblk (i := 11) 8 hO rfl rfl Try.underlying31 rfl rfl) ?_)))))
  refine zm rfl ?_
  have zz := J0n (r := Rp.int .i64) (n := 1) (parts := [(0, .int .i64 0)]) (vs := [.int .i64 0]) (xs := [(0 : Int)]) rfl Try.underlying31 ti3 hO (by decide) (by kernel_rfl) (Els.cons rfl rfl (Els.nil _ _ _) (by simp [mx])) rfl
  obtain ⟨Yu, Yv, mF, PO, VM, Lr⟩ := zz
  refine zg (Lr rfl) ?_
  replace hO := mF.own
  have zz := freeze 0 hO rfl PO
  obtain ⟨hO1, rC, tg, PP⟩ := zz
  dsimp only [eS, eZ] at hO1 rC tg
  replace hB := (((hB.trans mE.fr).trans lW.fr).trans mF.fr).trans (Owns.J09 _ _ 0)
  dsimp only [eS, eZ] at hB
  replace hO := hO1; clear hO1
  obtain ⟨T0, H⟩ := H
  have Z43 := (((Z42.trans mE.ch).trans lW.ch).trans mF.ch).trans rC
  replace cN := cN.ch Z43
  have zz := oapp Try.underlying31 ti3 rfl 2 hO rfl cN tg PP T0 (by decide)
  obtain ⟨Yw, FB, FC, PQ, lX, uz, Lt⟩ := zz
  dsimp only [sS, sZ] at lX uz
  refine zg (Lt (by exact rfl) (by exact rfl)) ?_
  replace hO := lX.own
  refine zo (J01 rfl) (zo (J00 Try.underlying156 rfl ti31 rfl (by decide)) ?_)
  have zz := J0h (v := .slice FB (jl + 1) FC) (i := 11) (cs' := #[.int .i64 ((ix a0 (0 : Int)).length : Int), .bool true, .slice p35 n37 c36, .slice y5 (jq + 1) y6, .slice AC (jp + 1) AD, .slice B3 (jo + 1) B5, .slice none 0 0, .slice jV jk jW, .int .i64 0, .map (some B4), .slice D1 (jm + 1) D2, .slice FB (jl + 1) FC, .slice kl i7 km]) 8 hO rfl rfl rfl rfl
  obtain ⟨Yx, lv, Lu⟩ := zz
  dsimp only [sS, sZ] at lv
  refine zg (Lu Try.underlying31 rfl ti31 (by exact rfl) (by exact rfl)) ?_
  replace hO := lv.own
  refine zn (zq (zr (zm rfl (za rfl (zn ?_)))))
  refine Go1.ret1V Try.func155 rfl (show _ = .int .i64 (d_585.length : Int) from rfl) ?_
  refine hR670 _ _ ?_
  refine za rfl (zn (zr (zm rfl (zm rfl (zo (J01 rfl) ?_)))))
  refine zo (J00 Try.underlying156 rfl ti31 rfl (by decide)) (zs (oblk (i := 12) 8 hO rfl rfl Try.underlying31 rfl rfl) (zm rfl ?_))
  have zz := J0n (r := Rp.int .i64) (n := 1) (parts := [(0, .int .i64 (d_585.length : Int))]) (vs := [.int .i64 (d_585.length : Int)]) (xs := [(d_585.length : Int)]) rfl Try.underlying31 ti3 hO (by decide) (by kernel_rfl) (Els.cons rfl rfl (Els.nil _ _ _) (by simp [mx])) rfl
  obtain ⟨Yy, Yz, lY, PR, VN, Lv⟩ := zz
  refine zg (Lv rfl) ?_
  replace hO := lY.own
  have zz := freeze 0 hO rfl PR
  obtain ⟨hO1, pM, zM, PS⟩ := zz
  dsimp only [eS, eZ] at hO1 pM zM
  replace hB := (((hB.trans lX.fr).trans lv.fr).trans lY.fr).trans (Owns.J09 _ _ 0)
  dsimp only [eS, eZ] at hB
  replace hO := hO1; clear hO1
  obtain ⟨T1, H⟩ := H
  have Z44 := (((Z43.trans lX.ch).trans lv.ch).trans lY.ch).trans pM
  replace cI := cI.ch Z44
  have zz := oapp Try.underlying31 ti3 rfl 0 hO rfl cI zM PS T1 (by decide)
  obtain ⟨YA, Hc, He, PT, lA, CV, Lw⟩ := zz
  dsimp only [sS, sZ] at lA CV
  refine zg (Lw (by exact rfl) (by exact rfl)) ?_
  replace hO := lA.own
  refine zo (J01 rfl) (zo (J00 Try.underlying156 rfl ti31 rfl (by decide)) ?_)
  have zz := J0h (v := .slice Hc (i7 + 1) He) (i := 12) (cs' := #[.int .i64 ((ix a0 (0 : Int)).length : Int), .bool true, .slice p35 n37 c36, .slice y5 (jq + 1) y6, .slice AC (jp + 1) AD, .slice B3 (jo + 1) B5, .slice none 0 0, .slice jV jk jW, .int .i64 0, .map (some B4), .slice D1 (jm + 1) D2, .slice FB (jl + 1) FC, .slice Hc (i7 + 1) He]) 8 hO rfl rfl rfl rfl
  obtain ⟨YB, kB, Lx⟩ := zz
  dsimp only [sS, sZ] at kB
  refine zg (Lx Try.underlying31 rfl ti31 (by exact rfl) (by exact rfl)) ?_
  replace hO := kB.own
  refine zn ?_
  refine Go1.inBlock ?_
  refine Go1.cut [(6, .pointer (some ⟨B10, 0, none⟩)), (9, .int .i64 0), (85, .slice p35 n37 c36), (86, .int .i64 (d_32.length : Int)), (87, .int .i64 (k3_548 : Int))] ⟨rfl, rfl, rfl, rfl, rfl, trivial⟩ ?_
  intro σ _
  refine zr ?_
  replace ax := ((ax.ch Z44).ch lA.ch).ch kB.ch
  refine zo (J0e rfl rfl (wrap_i64 (natbd B1 ax.bd))) (zm rfl (zn ?_))
  replace CV := CV.ch kB.ch
  replace hB := (hB.trans lA.fr).trans kB.fr
  have Z45 := (((lv.ch.trans lY.ch).trans pM).trans lA.ch).trans kB.ch
  replace uz := uz.ch Z45
  have Z46 := (((((((lW.ch.trans mF.ch).trans rC).trans lX.ch).trans lv.ch).trans lY.ch).trans pM).trans lA.ch).trans kB.ch
  replace mt := mt.ch Z46
  have Z47 := (((((((((((mD.ch.trans nq.ch).trans tf).trans mE.ch).trans lW.ch).trans mF.ch).trans rC).trans lX.ch).trans lv.ch).trans lY.ch).trans pM).trans lA.ch).trans kB.ch
  replace jb := jb.ch Z47
  have Z48 := (((((((((((((((nm.ch.trans ou.ch).trans tO).trans np.ch).trans mD.ch).trans nq.ch).trans tf).trans mE.ch).trans lW.ch).trans mF.ch).trans rC).trans lX.ch).trans lv.ch).trans lY.ch).trans pM).trans lA.ch).trans kB.ch
  replace gL := gL.ch Z48
  have Z49 := (((((((((((((((((((oq.ch.trans qh.ch).trans uy).trans ot.ch).trans nm.ch).trans ou.ch).trans tO).trans np.ch).trans mD.ch).trans nq.ch).trans tf).trans mE.ch).trans lW.ch).trans mF.ch).trans rC).trans lX.ch).trans lv.ch).trans lY.ch).trans pM).trans lA.ch).trans kB.ch
  replace fP := fP.ch Z49
  replace cM := ((cM.ch Z44).ch lA.ch).ch kB.ch
  exact hX3 _ H _ _ ⟨i7 + 1, Hc, He, PT, jk, jV, jW, rp, jl + 1, FB, FC, PQ, jm + 1, D1, D2, PM, jo + 1, B3, B5, PH, jp + 1, AC, AD, PE, jq + 1, y5, y6, PB, ⟨rfl, rfl, rfl, rfl, rfl, trivial⟩, hO, CV, cM, uz, mt, jb, gL, fP, ax, hB⟩
 replace H := ifn B1 H
 refine zo (fun w => opB (J08 rfl rfl w) (decide_eq_false B1)) (zn (zq (zf rfl rfl ?_)))
 refine Go1.exit rfl ?_
 refine zq (zr (zm rfl (za rfl (za rfl (zn ?_)))))
 have uh := Stp.nil (e := 31) (r := 1) hO
 replace hO := uh.own
 have kC := Els.nil (Rp.sl (Rp.int .i64)) (bl (.row 31 1 none 0 0 [] :: [.row 3 1 kl i7 km tc, .row 185 2 jV jk jW rp, .row 3 1 jX jl jY rq, .row 9 1 kn jm ko rs, .row 3 1 kz jo kA ru, .row 3 1 kX jp kY rv, .row 31 1 lK jq lL rB, .row 31 1 p35 n37 c36 gD, .blk B10 (.cells #[.int .i64 ((ix a0 (0 : Int)).length : Int), .bool true, .slice p35 n37 c36, .slice lK jq lL, .slice kX jp kY, .slice kz jo kA, .slice none 0 0, .slice jV jk jW, .int .i64 0, .map (some B4), .slice kn jm ko, .slice jX jl jY, .slice kl i7 km] 156 (0, 0)), .any (mapE (fun a : List UInt8 => Value.string (gstr a)) (fun a : Int => Value.int .i64 a) B4 m3_591)]) ++ A) TN
 have sk := Stp.front 10 hO rfl
 dsimp only [eS, eZ] at sk
 replace hO := sk.own
 have sm := Stp.front 2 hO rfl
 dsimp only [eS, eZ] at sm
 replace hO := sm.own
 have sn := Stp.front 4 hO rfl
 dsimp only [eS, eZ] at sn
 replace hO := sn.own
 have sq := Stp.front 5 hO rfl
 dsimp only [eS, eZ] at sq
 replace hO := sq.own
 have sr := Stp.front 5 hO rfl
 dsimp only [eS, eZ] at sr
 replace hO := sr.own
 have ss := Stp.front 5 hO rfl
 dsimp only [eS, eZ] at ss
 replace hO := ss.own
 have su := Stp.front 6 hO rfl
 dsimp only [eS, eZ] at su
 replace hO := su.own
 have sv := Stp.front 7 hO rfl
 dsimp only [eS, eZ] at sv
 replace hO := sv.own
 have sw := Stp.front 8 hO rfl
 dsimp only [eS, eZ] at sw
 replace hO := sw.own
 have sx := Stp.front 9 hO rfl
 dsimp only [eS, eZ] at sx
 replace hO := sx.own
 have sy := Stp.front 10 hO rfl
 dsimp only [eS, eZ] at sy
 replace hO := sy.own
 refine Go1.ret2 Try.func131 rfl ?_
 have Z50 := (((((((((sk.ch.trans sm.ch).trans sn.ch).trans sq.ch).trans sr.ch).trans ss.ch).trans su.ch).trans sv.ch).trans sw.ch).trans sx.ch).trans sy.ch
 replace kC := kC.ch Z50
 have Z51 := ((((((((((uh.ch.trans sk.ch).trans sm.ch).trans sn.ch).trans sq.ch).trans sr.ch).trans ss.ch).trans su.ch).trans sv.ch).trans sw.ch).trans sx.ch).trans sy.ch
 replace cI := cI.ch Z51
 replace cM := cM.ch Z51
 replace cN := cN.ch Z51
 replace cR := cR.ch Z51
 replace dE := dE.ch Z51
 replace dV := dV.ch Z51
 replace eB := eB.ch Z51
 replace ax := ax.ch Z51
 replace hB := (((((((((((hB.trans uh.fr).trans sk.fr).trans sm.fr).trans sn.fr).trans sq.fr).trans sr.fr).trans ss.fr).trans su.fr).trans sv.fr).trans sw.fr).trans sx.fr).trans sy.fr
 exact Or.inr ⟨(⟨(⟨((ix a0 (0 : Int)).length : Int), true, d_32, d_585, d_579, d_573, ([] : List (List Int)), d_555, (0 : Int)⟩ : Enum), m3_591, d_567, d_561, d_549⟩ : run), ((0 : Int)), B10, n37, p35, c36, gD, jq, lK, lL, rB, jp, kX, kY, rv, jo, kz, kA, ru, 0, none, 0, ([]), jk, jV, jW, rp, B4, jm, kn, ko, rs, jl, jX, jY, rq, i7, kl, km, tc, rfl, hB.same, hO, ax, eB, dV, dE, kC, cM, cR, cN, cI, H⟩
theorem body158 : Body Try.prog 158 := ⟨Try.f158, Try.func158, rfl, by kernel_rfl⟩
theorem J3z {A : List Nat} {w0 : World} {p_f : Option Addr} {c_f : Nat} {p_g : Option Addr} {c_g : Nat} {f : List Int} {g : List Int} (hA : ∀ b ∈ A, b < w0.heap.size) (h_f : ISl (Rp.int .i64) A w0 p_f c_f f) (h_g : ISl (Rp.int .i64) A w0 p_g c_g g) {K : List Int → Prop} (H : J1s f g K) :
    CallsV Try.prog 158 #[.slice p_f f.length c_f, .slice p_g g.length c_g] w0 (fun v w' => ∃ (r0 : List Int) (tS : Option Addr) (tT : Nat), v = .slice tS r0.length tT ∧ Same w0 w' ∧ ISl (Rp.int .i64) A w' tS tT r0 ∧ K r0) := by
 refine CallsV.of (l := [.slice p_f f.length c_f, .slice p_g g.length c_g]) Try.func158 rfl Try.ntmps158 rfl ?_
 have hO := Owns.start hA
 have hB := Fr.refl (bl []) w0
 unfold J1s at H
 refine zq (zr (za rfl (zn (zq (zq ?_)))))
 refine zr (zm rfl (zo (J0c Try.underlying31 rfl) ?_))
 replace h_f := h_f.ch (Ch.start A w0)
 replace H := H h_f.bd
 refine zm rfl (zo (J0c Try.underlying31 rfl) ?_)
 replace h_g := h_g.ch (Ch.start A w0)
 replace H := H h_g.bd
 by_cases h1 : (f.length : Int) = (g.length : Int)
 ·replace H := ifp h1 H
  refine zo (fun w => opB (J0j rfl rfl w) (ndT h1)) (zm rfl (zm rfl ?_))
  refine GoR.call (J0a body154 rfl (J1H hO.lt h_f H)) rfl rfl ?_
  rintro v6 w3 ⟨r2, rfl, hs4, H⟩
  have m8 := Stp.same hO hs4
  replace hO := m8.own
  cases r2
  ·replace H := ifn Bool.false_ne_true H
   refine zo (J0g rfl) (zo (J05 rfl rfl rfl) (zm rfl (zp (zp (zp ?_)))))
   refine zo (J04 rfl rfl rfl) (zn (zt rfl rfl (zq (zr (za rfl ?_)))))
   refine zn ?_
   refine Go1.ret1 Try.func158 rfl ?_
   replace hB := hB.trans m8.fr
   exact ⟨([] : List Int), none, 0, rfl, hB.same, (ISl.null _ _ _), H⟩
  replace H := ifp rfl H
  refine zo (J0g rfl) (zo (J05 rfl rfl rfl) (zm rfl (zm rfl ?_)))
  replace h_g := h_g.ch m8.ch
  refine GoR.call (J0a body154 rfl (J1H hO.lt h_g H)) rfl rfl ?_
  rintro v12 w9 ⟨r8, rfl, xF, H⟩
  have wx := Stp.same hO xF
  replace hO := wx.own
  cases r8
  ·replace H := ifn Bool.false_ne_true H
   refine zo (J0g rfl) (zo (J05 rfl rfl rfl) (zn (zt rfl rfl (zq ?_))))
   refine Go1.cut [] trivial ?_
   intro σ _
   refine zr (za rfl (zn ?_))
   refine Go1.ret1 Try.func158 rfl ?_
   replace hB := (hB.trans m8.fr).trans wx.fr
   exact ⟨([] : List Int), none, 0, rfl, hB.same, (ISl.null _ _ _), H⟩
  replace H := ifp rfl H
  refine zo (J0g rfl) (zo (J05 rfl rfl rfl) (zn (zf rfl rfl (zk (zq ?_)))))
  refine zr (zm rfl (zo (J0c Try.underlying31 rfl) ?_))
  obtain ⟨h21, H⟩ := H
  obtain ⟨h22, H⟩ := H
  have zz := omake (n := (f.length : Int)) (r := Rp.int .i64) (d := (0 : Int)) Try.underlying31 ti3 (fun _ _ => rfl) rfl hO h21 h22 (by decide)
  obtain ⟨w14, p15, yg, oa, dN, GH, x6⟩ := zz
  refine zg (x6 rfl rfl) ?_
  replace hO := oa.own
  refine za rfl (zn (zq (zq (zr (zm rfl ?_)))))
  refine zo (J0c Try.underlying31 rfl) (zm rfl (zn (zb ?_)))
  replace h_g := (h_g.ch wx.ch).ch oa.ch
  have Z1 := (m8.ch.trans wx.ch).trans oa.ch
  replace h_f := h_f.ch Z1
  replace hB := ((hB.trans m8.fr).trans wx.fr).trans oa.fr
  refine Go1.loopW (S := Nat × List Int) (fun s σ w => match s with | (k1_25, h1_26) => ∃ (AE : List Value), agrees σ [(1, .slice p_g g.length c_g), (5, .slice p15 f.length f.length), (26, .slice p_f f.length c_f), (27, .int .i64 (f.length : Int)), (28, .int .i64 (k1_25 : Int))] ∧ (fun Z0 => Owns w0.heap.size w Z0 A ∧ Els (Rp.int .i64) (bl Z0 ++ A) w AE h1_26 ∧ ISl (Rp.int .i64) (bl Z0 ++ A) w p_f c_f f ∧ ISl (Rp.int .i64) (bl Z0 ++ A) w p_g c_g g ∧ Fr (bl []) w0 (bl Z0) w) [.row 3 1 p15 f.length f.length AE]) H ⟨yg, ⟨rfl, rfl, rfl, rfl, rfl, trivial⟩, hO, dN, h_f, h_g, hB⟩ ?_
  intro X1
  refine prE fun k1_25 => fun h1_26 => ?_
  intro H hX1 σ w24
  refine exE fun AE => andE fun hag => andE fun hO => andE fun FD => andE fun h_f => andE fun h_g => fun hB => ?_
  dsimp only at H
  refine Go1.keep [(1, .slice p_g g.length c_g), (5, .slice p15 f.length f.length), (26, .slice p_f f.length c_f), (27, .int .i64 (f.length : Int)), (28, .int .i64 (k1_25 : Int))] hag ?_
  refine zq (zr ?_)
  by_cases h29 : (k1_25 : Int) < (f.length : Int)
  ·replace H := ifp h29 H
   refine zo (fun w => opB (J08 rfl rfl w) (decide_eq_true h29)) (zn (zq (zt rfl rfl (zk (zq ?_)))))
   refine zb (zq (zr (zm rfl ?_)))
   obtain ⟨h30, H⟩ := H
   obtain ⟨h31, H⟩ := H
   refine zo (J02 Try.underlying31 ti3 rfl rfl h30 h31 (h_f.some_ h30 h31)) (zs (ldInt h_f h30 h31 Try.underlying3 rfl rfl) (za rfl (za rfl (zn (zr ?_)))))
   refine zm rfl (zm rfl (zm rfl (zm rfl ?_)))
   obtain ⟨h32, H⟩ := H
   obtain ⟨h33, H⟩ := H
   refine zo (J02 Try.underlying31 ti3 rfl rfl h32 h33 (h_g.some_ h32 h33)) (zs (ldInt h_g h32 h33 Try.underlying3 rfl rfl) ?_)
   obtain ⟨h34, H⟩ := H
   obtain ⟨h35, H⟩ := H
   refine zo (J02 Try.underlying31 ti3 rfl rfl h34 (ltn (FD.neq hO 0 rfl) h35) (FD.psome hO 0 rfl h34 h35)) ?_
   have zz := ost (r := Rp.int .i64) rfl 0 hO rfl FD h34 h35 (v := .int .i64 (ix g (ix f (k1_25 : Int)))) (u := (ix g (ix f (k1_25 : Int)))) rfl rfl
   obtain ⟨w36, T3, CW, T4, PU⟩ := zz
   refine zg (PU Try.underlying3 rfl ti3 (by exact rfl) (by exact rfl)) ?_
   replace hO := CW.own
   refine zn ?_
   refine Go1.inBlock ?_
   refine zr ?_
   replace h_f := h_f.ch CW.ch
   refine zo (J0e rfl rfl (wrap_i64 (natbd h29 h_f.bd))) (zm rfl (zn ?_))
   replace h_g := h_g.ch CW.ch
   replace hB := hB.trans CW.fr
   exact hX1 _ H _ _ ⟨T3, ⟨rfl, rfl, rfl, rfl, rfl, trivial⟩, hO, T4, h_f, h_g, hB⟩
  replace H := ifn h29 H
  refine zo (fun w => opB (J08 rfl rfl w) (decide_eq_false h29)) (zn (zq (zf rfl rfl ?_)))
  refine Go1.exit rfl ?_
  refine zq (zr (zm rfl (za rfl (zn ?_))))
  have zz := freeze 0 hO rfl FD
  obtain ⟨hO1, Ak, wk, Gi⟩ := zz
  replace hO := hO1; clear hO1
  refine Go1.ret1 Try.func158 rfl ?_
  replace hB := hB.trans (Owns.J09 _ _ 0)
  exact ⟨h1_26, p15, f.length, (congrArg (fun nn => Value.slice p15 nn f.length) Gi), hB.same, (wk.ch (Ch.weak _ _ _)), H⟩
 replace H := ifn h1 H
 refine zo (fun w => opB (J0j rfl rfl w) (ndF h1)) (zm rfl (zp (zp (zp (zo (J04 rfl rfl rfl) ?_)))))
 refine zm rfl (zp (zp (zp (zo (J04 rfl rfl rfl) (zn ?_)))))
 refine zt rfl rfl (zq ?_)
 refine Go1.cut [] trivial ?_
 intro σ _
 refine zr (za rfl (zn ?_))
 refine Go1.ret1 Try.func158 rfl ?_
 exact ⟨([] : List Int), none, 0, rfl, hB.same, (ISl.null _ _ _), H⟩
end Sg
