/- The walks: each call keeps to its plain transformer. Printed by walkgen.py. -/
import Derived.Test.YtjegjjdfgefkoaaTi
import Derived.Test.YtjegjjdfgefkoaaWEnumerateBuilds
import Derived.Test.YtjegjjdfgefkoaaAl
namespace Sg
open Go Go.RowKit Go.Proofs
set_option linter.unusedVariables false
set_option linter.unusedSimpArgs false
set_option maxRecDepth 100000
set_option maxHeartbeats 4000000
theorem body66 : Body Try.prog 66 := ⟨Try.f66, Try.func66, rfl, by kernel_rfl⟩
theorem body67 : Body Try.prog 67 := ⟨Try.f67, Try.func67, rfl, by kernel_rfl⟩
theorem body51 : Body Try.prog 51 := ⟨Try.f51, Try.func51, rfl, by kernel_rfl⟩
theorem walk_enumerate_run_process {A : List Nat} {n0 : Nat} {w0 : World} {fU : Nat} {aW : Nat} {aX : Option Addr} {aY : Nat} {dE : List Value} {dN : Nat} {dO : Option Addr} {dP : Nat} {f0 : List Value} {dG : Nat} {dH : Option Addr} {dI : Nat} {fQ : List Value} {d9 : Nat} {eg : Option Addr} {eh : Nat} {gn : List Value} {a7 : Nat} {bc : Option Addr} {bf : Nat} {dz : List Value} {dQ : Nat} {dR : Option Addr} {dS : Nat} {f5 : List Value} {bg : Nat} {fB : Nat} {fC : Option Addr} {fD : Nat} {jk : List Value} {fk : Nat} {fm : Option Addr} {fo : Nat} {iv : List Value} {bN : Nat} {bO : Option Addr} {bP : Nat} {eG : List Value} {a0 : run} (hO : Owns n0 w0 [.blk fU (.cells #[.int .i64 a0.Enum.Points, .bool a0.Enum.Monoid, .slice aX aW aY, .slice dO dN dP, .slice dH dG dI, .slice eg d9 eh, .slice bc a7 bf, .slice dR dQ dS, .int .i64 a0.Enum.Done, .map (some bg), .slice fC fB fD, .slice fm fk fo, .slice bO bN bP] 72 (0, 0)), .row 26 1 aX aW aY dE, .row 26 1 dO dN dP f0, .row 3 1 dH dG dI fQ, .row 3 1 eg d9 eh gn, .row 26 1 bc a7 bf dz, .row 39 2 dR dQ dS f5, .row 9 1 fC fB fD jk, .row 3 1 fm fk fo iv, .row 3 1 bO bN bP eG, .any (mapE (fun a : List UInt8 => Value.string (gstr a)) (fun a : Int => Value.int .i64 a) bg a0.number)] A) (ag : Els (Rp.sl (Rp.int .i64)) (bl [.blk fU (.cells #[.int .i64 a0.Enum.Points, .bool a0.Enum.Monoid, .slice aX aW aY, .slice dO dN dP, .slice dH dG dI, .slice eg d9 eh, .slice bc a7 bf, .slice dR dQ dS, .int .i64 a0.Enum.Done, .map (some bg), .slice fC fB fD, .slice fm fk fo, .slice bO bN bP] 72 (0, 0)), .row 26 1 aX aW aY dE, .row 26 1 dO dN dP f0, .row 3 1 dH dG dI fQ, .row 3 1 eg d9 eh gn, .row 26 1 bc a7 bf dz, .row 39 2 dR dQ dS f5, .row 9 1 fC fB fD jk, .row 3 1 fm fk fo iv, .row 3 1 bO bN bP eG, .any (mapE (fun a : List UInt8 => Value.string (gstr a)) (fun a : Int => Value.int .i64 a) bg a0.number)] ++ A) w0 dE a0.Enum.Gens) (yX : Els (Rp.sl (Rp.int .i64)) (bl [.blk fU (.cells #[.int .i64 a0.Enum.Points, .bool a0.Enum.Monoid, .slice aX aW aY, .slice dO dN dP, .slice dH dG dI, .slice eg d9 eh, .slice bc a7 bf, .slice dR dQ dS, .int .i64 a0.Enum.Done, .map (some bg), .slice fC fB fD, .slice fm fk fo, .slice bO bN bP] 72 (0, 0)), .row 26 1 aX aW aY dE, .row 26 1 dO dN dP f0, .row 3 1 dH dG dI fQ, .row 3 1 eg d9 eh gn, .row 26 1 bc a7 bf dz, .row 39 2 dR dQ dS f5, .row 9 1 fC fB fD jk, .row 3 1 fm fk fo iv, .row 3 1 bO bN bP eG, .any (mapE (fun a : List UInt8 => Value.string (gstr a)) (fun a : Int => Value.int .i64 a) bg a0.number)] ++ A) w0 f0 a0.Enum.Elems) (x4 : Els (Rp.int .i64) (bl [.blk fU (.cells #[.int .i64 a0.Enum.Points, .bool a0.Enum.Monoid, .slice aX aW aY, .slice dO dN dP, .slice dH dG dI, .slice eg d9 eh, .slice bc a7 bf, .slice dR dQ dS, .int .i64 a0.Enum.Done, .map (some bg), .slice fC fB fD, .slice fm fk fo, .slice bO bN bP] 72 (0, 0)), .row 26 1 aX aW aY dE, .row 26 1 dO dN dP f0, .row 3 1 dH dG dI fQ, .row 3 1 eg d9 eh gn, .row 26 1 bc a7 bf dz, .row 39 2 dR dQ dS f5, .row 9 1 fC fB fD jk, .row 3 1 fm fk fo iv, .row 3 1 bO bN bP eG, .any (mapE (fun a : List UInt8 => Value.string (gstr a)) (fun a : Int => Value.int .i64 a) bg a0.number)] ++ A) w0 fQ a0.Enum.Prefix) (y9 : Els (Rp.int .i64) (bl [.blk fU (.cells #[.int .i64 a0.Enum.Points, .bool a0.Enum.Monoid, .slice aX aW aY, .slice dO dN dP, .slice dH dG dI, .slice eg d9 eh, .slice bc a7 bf, .slice dR dQ dS, .int .i64 a0.Enum.Done, .map (some bg), .slice fC fB fD, .slice fm fk fo, .slice bO bN bP] 72 (0, 0)), .row 26 1 aX aW aY dE, .row 26 1 dO dN dP f0, .row 3 1 dH dG dI fQ, .row 3 1 eg d9 eh gn, .row 26 1 bc a7 bf dz, .row 39 2 dR dQ dS f5, .row 9 1 fC fB fD jk, .row 3 1 fm fk fo iv, .row 3 1 bO bN bP eG, .any (mapE (fun a : List UInt8 => Value.string (gstr a)) (fun a : Int => Value.int .i64 a) bg a0.number)] ++ A) w0 gn a0.Enum.Last) (ah : Els (Rp.sl (Rp.int .i64)) (bl [.blk fU (.cells #[.int .i64 a0.Enum.Points, .bool a0.Enum.Monoid, .slice aX aW aY, .slice dO dN dP, .slice dH dG dI, .slice eg d9 eh, .slice bc a7 bf, .slice dR dQ dS, .int .i64 a0.Enum.Done, .map (some bg), .slice fC fB fD, .slice fm fk fo, .slice bO bN bP] 72 (0, 0)), .row 26 1 aX aW aY dE, .row 26 1 dO dN dP f0, .row 3 1 dH dG dI fQ, .row 3 1 eg d9 eh gn, .row 26 1 bc a7 bf dz, .row 39 2 dR dQ dS f5, .row 9 1 fC fB fD jk, .row 3 1 fm fk fo iv, .row 3 1 bO bN bP eG, .any (mapE (fun a : List UInt8 => Value.string (gstr a)) (fun a : Int => Value.int .i64 a) bg a0.number)] ++ A) w0 dz a0.Enum.Right) (yY : Els (rpRule) (bl [.blk fU (.cells #[.int .i64 a0.Enum.Points, .bool a0.Enum.Monoid, .slice aX aW aY, .slice dO dN dP, .slice dH dG dI, .slice eg d9 eh, .slice bc a7 bf, .slice dR dQ dS, .int .i64 a0.Enum.Done, .map (some bg), .slice fC fB fD, .slice fm fk fo, .slice bO bN bP] 72 (0, 0)), .row 26 1 aX aW aY dE, .row 26 1 dO dN dP f0, .row 3 1 dH dG dI fQ, .row 3 1 eg d9 eh gn, .row 26 1 bc a7 bf dz, .row 39 2 dR dQ dS f5, .row 9 1 fC fB fD jk, .row 3 1 fm fk fo iv, .row 3 1 bO bN bP eG, .any (mapE (fun a : List UInt8 => Value.string (gstr a)) (fun a : Int => Value.int .i64 a) bg a0.number)] ++ A) w0 f5 a0.Enum.Rules) (Cq : Els (Rp.str) (bl [.blk fU (.cells #[.int .i64 a0.Enum.Points, .bool a0.Enum.Monoid, .slice aX aW aY, .slice dO dN dP, .slice dH dG dI, .slice eg d9 eh, .slice bc a7 bf, .slice dR dQ dS, .int .i64 a0.Enum.Done, .map (some bg), .slice fC fB fD, .slice fm fk fo, .slice bO bN bP] 72 (0, 0)), .row 26 1 aX aW aY dE, .row 26 1 dO dN dP f0, .row 3 1 dH dG dI fQ, .row 3 1 eg d9 eh gn, .row 26 1 bc a7 bf dz, .row 39 2 dR dQ dS f5, .row 9 1 fC fB fD jk, .row 3 1 fm fk fo iv, .row 3 1 bO bN bP eG, .any (mapE (fun a : List UInt8 => Value.string (gstr a)) (fun a : Int => Value.int .i64 a) bg a0.number)] ++ A) w0 jk a0.words) (Bu : Els (Rp.int .i64) (bl [.blk fU (.cells #[.int .i64 a0.Enum.Points, .bool a0.Enum.Monoid, .slice aX aW aY, .slice dO dN dP, .slice dH dG dI, .slice eg d9 eh, .slice bc a7 bf, .slice dR dQ dS, .int .i64 a0.Enum.Done, .map (some bg), .slice fC fB fD, .slice fm fk fo, .slice bO bN bP] 72 (0, 0)), .row 26 1 aX aW aY dE, .row 26 1 dO dN dP f0, .row 3 1 dH dG dI fQ, .row 3 1 eg d9 eh gn, .row 26 1 bc a7 bf dz, .row 39 2 dR dQ dS f5, .row 9 1 fC fB fD jk, .row 3 1 fm fk fo iv, .row 3 1 bO bN bP eG, .any (mapE (fun a : List UInt8 => Value.string (gstr a)) (fun a : Int => Value.int .i64 a) bg a0.number)] ++ A) w0 iv a0.behind) (ap : Els (Rp.int .i64) (bl [.blk fU (.cells #[.int .i64 a0.Enum.Points, .bool a0.Enum.Monoid, .slice aX aW aY, .slice dO dN dP, .slice dH dG dI, .slice eg d9 eh, .slice bc a7 bf, .slice dR dQ dS, .int .i64 a0.Enum.Done, .map (some bg), .slice fC fB fD, .slice fm fk fo, .slice bO bN bP] 72 (0, 0)), .row 26 1 aX aW aY dE, .row 26 1 dO dN dP f0, .row 3 1 dH dG dI fQ, .row 3 1 eg d9 eh gn, .row 26 1 bc a7 bf dz, .row 39 2 dR dQ dS f5, .row 9 1 fC fB fD jk, .row 3 1 fm fk fo iv, .row 3 1 bO bN bP eG, .any (mapE (fun a : List UInt8 => Value.string (gstr a)) (fun a : Int => Value.int .i64 a) bg a0.number)] ++ A) w0 eG a0.single) {K : Int → run → Prop} (H : enumerate_run_process a0 K) :
    CallsV Try.prog 51 #[.pointer (some ⟨fU, 0, none⟩)] w0 (fun v w' => ∃ (r0 : Int), ∃ (q : run), ∃ (bv : Nat), ∃ (bw : Option Addr), ∃ (bx : Nat), ∃ (dj : List Value), ∃ (bj : Nat), ∃ (bk : Option Addr), ∃ (bm : Nat), ∃ (cQ : List Value), ∃ (a8 : Nat), ∃ (a9 : Option Addr), ∃ (ba : Nat), ∃ (cA : List Value), ∃ (bz : Nat), ∃ (bA : Option Addr), ∃ (bB : Nat), ∃ (dk : List Value), ∃ (bn : Nat), ∃ (bo : Option Addr), ∃ (bp : Nat), ∃ (cR : List Value), ∃ (bq : Nat), ∃ (bt : Option Addr), ∃ (bu : Nat), ∃ (cS : List Value), ∃ (cJ : Nat), ∃ (cK : Option Addr), ∃ (cL : Nat), ∃ (eB : List Value), ∃ (cb : Nat), ∃ (cd : Option Addr), ∃ (ce : Nat), ∃ (dW : List Value), ∃ (cf : Nat), ∃ (cg : Option Addr), ∃ (ci : Nat), ∃ (dX : List Value), v = .int .i64 r0 ∧ (fun Z0 => Owns n0 w' Z0 A ∧ Els (Rp.sl (Rp.int .i64)) (bl Z0 ++ A) w' dj q.Enum.Gens ∧ Els (Rp.sl (Rp.int .i64)) (bl Z0 ++ A) w' cQ q.Enum.Elems ∧ Els (Rp.int .i64) (bl Z0 ++ A) w' cA q.Enum.Prefix ∧ Els (Rp.int .i64) (bl Z0 ++ A) w' dk q.Enum.Last ∧ Els (Rp.sl (Rp.int .i64)) (bl Z0 ++ A) w' cR q.Enum.Right ∧ Els (rpRule) (bl Z0 ++ A) w' cS q.Enum.Rules ∧ Els (Rp.str) (bl Z0 ++ A) w' eB q.words ∧ Els (Rp.int .i64) (bl Z0 ++ A) w' dW q.behind ∧ Els (Rp.int .i64) (bl Z0 ++ A) w' dX q.single ∧ Fr (bl [.blk fU (.cells #[.int .i64 a0.Enum.Points, .bool a0.Enum.Monoid, .slice aX aW aY, .slice dO dN dP, .slice dH dG dI, .slice eg d9 eh, .slice bc a7 bf, .slice dR dQ dS, .int .i64 a0.Enum.Done, .map (some bg), .slice fC fB fD, .slice fm fk fo, .slice bO bN bP] 72 (0, 0)), .row 26 1 aX aW aY dE, .row 26 1 dO dN dP f0, .row 3 1 dH dG dI fQ, .row 3 1 eg d9 eh gn, .row 26 1 bc a7 bf dz, .row 39 2 dR dQ dS f5, .row 9 1 fC fB fD jk, .row 3 1 fm fk fo iv, .row 3 1 bO bN bP eG, .any (mapE (fun a : List UInt8 => Value.string (gstr a)) (fun a : Int => Value.int .i64 a) bg a0.number)]) w0 (bl Z0) w' ∧ K r0 q) [.blk fU (.cells #[.int .i64 q.Enum.Points, .bool q.Enum.Monoid, .slice bw bv bx, .slice bk bj bm, .slice a9 a8 ba, .slice bA bz bB, .slice bo bn bp, .slice bt bq bu, .int .i64 q.Enum.Done, .map (some bg), .slice cK cJ cL, .slice cd cb ce, .slice cg cf ci] 72 (0, 0)), .row 26 1 bw bv bx dj, .row 26 1 bk bj bm cQ, .row 3 1 a9 a8 ba cA, .row 3 1 bA bz bB dk, .row 26 1 bo bn bp cR, .row 39 2 bt bq bu cS, .row 9 1 cK cJ cL eB, .row 3 1 cd cb ce dW, .row 3 1 cg cf ci dX, .any (mapE (fun a : List UInt8 => Value.string (gstr a)) (fun a : Int => Value.int .i64 a) bg q.number)]) := by
 refine CallsV.of (l := [.pointer (some ⟨fU, 0, none⟩)]) Try.func51 rfl Try.ntmps51 rfl ?_
 have hB := Fr.refl (bl [.blk fU (.cells #[.int .i64 a0.Enum.Points, .bool a0.Enum.Monoid, .slice aX aW aY, .slice dO dN dP, .slice dH dG dI, .slice eg d9 eh, .slice bc a7 bf, .slice dR dQ dS, .int .i64 a0.Enum.Done, .map (some bg), .slice fC fB fD, .slice fm fk fo, .slice bO bN bP] 72 (0, 0)), .row 26 1 aX aW aY dE, .row 26 1 dO dN dP f0, .row 3 1 dH dG dI fQ, .row 3 1 eg d9 eh gn, .row 26 1 bc a7 bf dz, .row 39 2 dR dQ dS f5, .row 9 1 fC fB fD jk, .row 3 1 fm fk fo iv, .row 3 1 bO bN bP eG, .any (mapE (fun a : List UInt8 => Value.string (gstr a)) (fun a : Int => Value.int .i64 a) bg a0.number)]) w0
 unfold enumerate_run_process at H
 refine zq (zr (za rfl (zn (zq (zr ?_)))))
 refine zm rfl (zo (op_nilCheck rfl) (zo (op_fieldAddr Try.underlying72 rfl ti29 rfl (by decide)) (zo (op_fieldAddr Try.underlying29 rfl ti3 rfl (by decide)) (zs (oblk (i := 8) 0 hO rfl rfl Try.underlying3 rfl rfl) (za rfl ?_)))))
 refine zn (zq (zr (zm rfl (zo (op_nilCheck rfl) (zo (op_fieldAddr Try.underlying72 rfl ti29 rfl (by decide)) ?_)))))
 refine zo (op_fieldAddr Try.underlying29 rfl ti22 rfl (by decide)) (zs (oblk (i := 2) 0 hO rfl rfl Try.underlying22 rfl rfl) (zo (op_lenN Try.underlying22 rfl (ag.neq hO 1 rfl)) ?_))
 obtain ⟨h8, H⟩ := H
 obtain ⟨h9, H⟩ := H
 have hobt := omake (n := (a0.Enum.Gens.length : Int)) (r := Rp.int .i64) (d := (0 : Int)) Try.underlying26 ti3 (fun _ _ => rfl) rfl hO h8 h9 (by decide)
 obtain ⟨w1, p2, vs3, o6, hE5, hs6, Br⟩ := hobt
 refine zg (Br rfl rfl) ?_
 replace hO := o6.own
 refine za rfl (zn (zq (zq (zr (zm rfl ?_)))))
 refine zo (op_nilCheck rfl) (zo (op_fieldAddr Try.underlying72 rfl ti29 rfl (by decide)) (zo (op_fieldAddr Try.underlying29 rfl ti22 rfl (by decide)) (zs (oblk (i := 2) 1 hO rfl rfl Try.underlying22 rfl rfl) ?_)))
 replace ag := ag.ch o6.ch
 refine zo (op_lenN Try.underlying22 rfl (ag.neq hO 2 rfl)) (zm rfl (zn (zb ?_)))
 replace yX := yX.ch o6.ch
 replace x4 := x4.ch o6.ch
 replace y9 := y9.ch o6.ch
 replace ah := ah.ch o6.ch
 replace yY := yY.ch o6.ch
 replace Cq := Cq.ch o6.ch
 replace Bu := Bu.ch o6.ch
 replace ap := ap.ch o6.ch
 replace hB := hB.trans o6.fr
 refine Go1.loopW (S := Nat × List Int × List (List Int) × List Int × List Int × List Rule × List Str × List Int × (List (Str × Int))) (fun s σ w => match s with | (k1_12, d_13, d_16, d_22, d_28, d_34, d_40, d_46, m1_52) => ∃ (li : List Value), ∃ (n21 : Nat), ∃ (p19 : Option Addr), ∃ (c20 : Nat), ∃ (sg : List Value), ∃ (n27 : Nat), ∃ (p25 : Option Addr), ∃ (c26 : Nat), ∃ (te : List Value), ∃ (n33 : Nat), ∃ (p31 : Option Addr), ∃ (c32 : Nat), ∃ (tf : List Value), ∃ (n39 : Nat), ∃ (p37 : Option Addr), ∃ (c38 : Nat), ∃ (tg : List Value), ∃ (n45 : Nat), ∃ (p43 : Option Addr), ∃ (c44 : Nat), ∃ (th : List Value), ∃ (n51 : Nat), ∃ (p49 : Option Addr), ∃ (c50 : Nat), ∃ (tj : List Value), agrees σ [(0, .pointer (some ⟨fU, 0, none⟩)), (3, .int .i64 a0.Enum.Done), (4, .slice p2 a0.Enum.Gens.length a0.Enum.Gens.length), (27, .slice aX aW aY), (28, .int .i64 (a0.Enum.Gens.length : Int)), (29, .int .i64 (k1_12 : Int))] ∧ (fun Z0 => Owns n0 w Z0 A ∧ Els (Rp.int .i64) (bl Z0 ++ A) w li d_13 ∧ Els (Rp.sl (Rp.int .i64)) (bl Z0 ++ A) w dE a0.Enum.Gens ∧ Els (Rp.sl (Rp.int .i64)) (bl Z0 ++ A) w sg d_16 ∧ Els (Rp.int .i64) (bl Z0 ++ A) w te d_22 ∧ Els (Rp.int .i64) (bl Z0 ++ A) w tf d_28 ∧ Els (Rp.sl (Rp.int .i64)) (bl Z0 ++ A) w dz a0.Enum.Right ∧ Els (rpRule) (bl Z0 ++ A) w tg d_34 ∧ Els (Rp.str) (bl Z0 ++ A) w th d_40 ∧ Els (Rp.int .i64) (bl Z0 ++ A) w tj d_46 ∧ Els (Rp.int .i64) (bl Z0 ++ A) w eG a0.single ∧ Fr (bl [.blk fU (.cells #[.int .i64 a0.Enum.Points, .bool a0.Enum.Monoid, .slice aX aW aY, .slice dO dN dP, .slice dH dG dI, .slice eg d9 eh, .slice bc a7 bf, .slice dR dQ dS, .int .i64 a0.Enum.Done, .map (some bg), .slice fC fB fD, .slice fm fk fo, .slice bO bN bP] 72 (0, 0)), .row 26 1 aX aW aY dE, .row 26 1 dO dN dP f0, .row 3 1 dH dG dI fQ, .row 3 1 eg d9 eh gn, .row 26 1 bc a7 bf dz, .row 39 2 dR dQ dS f5, .row 9 1 fC fB fD jk, .row 3 1 fm fk fo iv, .row 3 1 bO bN bP eG, .any (mapE (fun a : List UInt8 => Value.string (gstr a)) (fun a : Int => Value.int .i64 a) bg a0.number)]) w0 (bl Z0) w) [.row 3 1 p2 a0.Enum.Gens.length a0.Enum.Gens.length li, .blk fU (.cells #[.int .i64 a0.Enum.Points, .bool a0.Enum.Monoid, .slice aX aW aY, .slice p19 n21 c20, .slice p25 n27 c26, .slice p31 n33 c32, .slice bc a7 bf, .slice p37 n39 c38, .int .i64 a0.Enum.Done, .map (some bg), .slice p43 n45 c44, .slice p49 n51 c50, .slice bO bN bP] 72 (0, 0)), .row 26 1 aX aW aY dE, .row 26 1 p19 n21 c20 sg, .row 3 1 p25 n27 c26 te, .row 3 1 p31 n33 c32 tf, .row 26 1 bc a7 bf dz, .row 39 2 p37 n39 c38 tg, .row 9 1 p43 n45 c44 th, .row 3 1 p49 n51 c50 tj, .row 3 1 bO bN bP eG, .any (mapE (fun a : List UInt8 => Value.string (gstr a)) (fun a : Int => Value.int .i64 a) bg m1_52)]) H ⟨vs3, dN, dO, dP, f0, dG, dH, dI, fQ, d9, eg, eh, gn, dQ, dR, dS, f5, fB, fC, fD, jk, fk, fm, fo, iv, ⟨rfl, rfl, rfl, rfl, rfl, rfl, trivial⟩, hO, hE5, ag, yX, x4, y9, ah, yY, Cq, Bu, ap, hB⟩ ?_
 intro X1
 refine prE fun k1_12 => prE fun d_13 => prE fun d_16 => prE fun d_22 => prE fun d_28 => prE fun d_34 => prE fun d_40 => prE fun d_46 => fun m1_52 => ?_
 intro H hX1 σ w11
 refine exE fun li => exE fun n21 => exE fun p19 => exE fun c20 => exE fun sg => exE fun n27 => exE fun p25 => exE fun c26 => exE fun te => exE fun n33 => exE fun p31 => exE fun c32 => exE fun tf => exE fun n39 => exE fun p37 => exE fun c38 => exE fun tg => exE fun n45 => exE fun p43 => exE fun c44 => exE fun th => exE fun n51 => exE fun p49 => exE fun c50 => exE fun tj => andE fun hag => andE fun hO => andE fun ca => andE fun ag => andE fun et => andE fun dA => andE fun dm => andE fun ah => andE fun cy => andE fun cr => andE fun cq => andE fun ap => fun hB => ?_
 dsimp only at H
 refine Go1.keep [(0, .pointer (some ⟨fU, 0, none⟩)), (3, .int .i64 a0.Enum.Done), (4, .slice p2 a0.Enum.Gens.length a0.Enum.Gens.length), (27, .slice aX aW aY), (28, .int .i64 (a0.Enum.Gens.length : Int)), (29, .int .i64 (k1_12 : Int))] hag ?_
 refine zq (zr ?_)
 by_cases h53 : (k1_12 : Int) < (a0.Enum.Gens.length : Int)
 ·replace H := ifp h53 H
  refine zo (fun w => opB (op_lss rfl rfl w) (decide_eq_true h53)) (zn (zq (zt rfl rfl (zk (zq ?_)))))
  refine zb (zq (zr (zm rfl ?_)))
  obtain ⟨h54, H⟩ := H
  obtain ⟨h55, H⟩ := H
  refine zo (op_index Try.underlying22 ti26 rfl rfl h54 (ltn (ag.neq hO 2 rfl) h55) (ag.psome hO 2 rfl h54 h55)) ?_
  have hobt := oldSl 2 hO rfl ag h54 h55
  obtain ⟨p56, c57, cM, YT⟩ := hobt
  refine zs (YT Try.underlying26 rfl rfl) (za rfl (za rfl (zn (zq (zr ?_)))))
  refine zm rfl (zo (op_nilCheck rfl) (zo (op_fieldAddr Try.underlying72 rfl ti29 rfl (by decide)) (zo (op_fieldAddr Try.underlying29 rfl ti22 rfl (by decide)) (zs (oblk (i := 3) 1 hO rfl rfl Try.underlying22 rfl rfl) (zm rfl ?_)))))
  obtain ⟨h60, H⟩ := H
  obtain ⟨h61, H⟩ := H
  refine zo (op_index Try.underlying22 ti26 rfl rfl h60 (ltn (et.neq hO 3 rfl) h61) (et.psome hO 3 rfl h60 h61)) ?_
  have hobt := oldSl 3 hO rfl et h60 h61
  obtain ⟨p62, c63, cN, YU⟩ := hobt
  refine zs (YU Try.underlying26 rfl rfl) (zm rfl ?_)
  refine GoR.call (op_call body37 rfl (walk_trans_Compose hO.lt cN cM H)) rfl rfl ?_
  rintro v70 w67 ⟨r66, xH, xI, rfl, YV, bW, H⟩
  have sb := Stp.same hO YV
  replace hO := sb.own
  refine za rfl (zn (zq ?_))
  refine Go1.drawS 0 [(0, .pure), (1, .pure), (2, .pure), (3, .stable), (4, .pure), (5, .loud), (6, .stable), (7, .pure), (8, .pure), (9, .pure), (10, .pure), (11, .pure)] mixed (by kernel_rfl) ?_
  intro w72 YW
  have iC := Stp.same hO YW
  replace hO := iC.own
  refine GoQ.pure rfl (op_move rfl) rfl rfl ?_
  refine GoQ.pure rfl (op_nilCheck rfl) rfl rfl ?_
  refine GoQ.pure rfl (op_fieldAddr Try.underlying72 rfl ti69 rfl (by decide)) rfl rfl ?_
  refine GoQ.stable rfl (oblk (i := 9) 1 hO rfl rfl Try.underlying69 rfl rfl) rfl rfl ?_
  refine GoQ.pure rfl (op_move rfl) rfl rfl ?_
  replace bW := bW.ch iC.ch
  refine GoQ.call rfl (op_call body61 rfl (walk_enumerate_text hO.lt bW H)) (fun v w hr => by obtain ⟨_, _, hs, _, _⟩ := hr; assumption) rfl rfl ?_
  rintro v79 w76 ⟨r75, rfl, KH, acs, H⟩
  have kE := Stp.same hO KH
  replace hO := kE.own
  by_cases h81 : mhas m1_52 r75 = true
  ·replace H := ifp h81 H
   refine GoQ.stable rfl (olookT (a := r75) (MK.str Try.underlying9) 11 hO rfl Try.underlying69 rfl rfl h81) rfl rfl ?_
   refine GoQ.pure rfl (op_move rfl) rfl rfl ?_
   refine GoQ.pure rfl (op_extract rfl rfl) rfl rfl ?_
   refine GoQ.pure rfl (op_extract rfl rfl) rfl rfl ?_
   refine GoQ.pure rfl (op_assign rfl) rfl rfl ?_
   refine GoQ.pure rfl (op_assign rfl) rfl rfl ?_
   refine GoQ.nil ?_
   refine zq ?_
   refine Go1.cut [(0, .pointer (some ⟨fU, 0, none⟩)), (3, .int .i64 a0.Enum.Done), (4, .slice p2 a0.Enum.Gens.length a0.Enum.Gens.length), (5, .int .i64 (k1_12 : Int)), (7, .slice xH r66.length xI), (8, .int .i64 (mgt m1_52 r75)), (9, .bool true), (27, .slice aX aW aY), (28, .int .i64 (a0.Enum.Gens.length : Int)), (29, .int .i64 (k1_12 : Int))] ⟨rfl, rfl, rfl, rfl, rfl, rfl, rfl, rfl, rfl, rfl, trivial⟩ ?_
   intro σ _
   refine zr (zm rfl (zo (op_nilCheck rfl) (zo (op_fieldAddr Try.underlying72 rfl ti70 rfl (by decide)) (zs (oblk (i := 10) 1 hO rfl rfl Try.underlying70 rfl rfl) (zm rfl ?_)))))
   obtain ⟨h82, H⟩ := H
   obtain ⟨h83, H⟩ := H
   have Z1 := (sb.ch.trans iC.ch).trans kE.ch
   replace cr := cr.ch Z1
   refine zo (op_index Try.underlying70 ti9 rfl rfl h82 (ltn (cr.neq hO 8 rfl) h83) (cr.psome hO 8 rfl h82 h83)) (zs (oldStr 8 hO rfl cr h82 h83 Try.underlying9 rfl rfl) ?_)
   have hle84 := Els.str_le cr h82 h83
   refine zm rfl ?_
   obtain ⟨h85, H⟩ := H
   refine zo (op_add rfl rfl (wrap_i64 h85)) (zo (op_conv Try.underlying3 Try.underlying21 rfl rfl) ?_)
   obtain ⟨h86, H⟩ := H
   obtain ⟨h87, H⟩ := H
   refine zo (op_convRS Try.underlying21 Try.underlying9 rfl h86 h87) ?_
   obtain ⟨h88, H⟩ := H
   refine zo (op_addS rfl rfl h88) (za rfl (zn (zq (zb (zq ?_)))))
   refine zr (zm rfl (zo (op_not rfl) (zm rfl (zp (zp ?_)))))
   refine zp (zp (zp (zp (zp (zo (op_pickF rfl rfl rfl) ?_)))))
   refine za rfl (zn (zf rfl rfl (zq ?_)))
   refine Go1.cut [(0, .pointer (some ⟨fU, 0, none⟩)), (3, .int .i64 a0.Enum.Done), (4, .slice p2 a0.Enum.Gens.length a0.Enum.Gens.length), (5, .int .i64 (k1_12 : Int)), (7, .slice xH r66.length xI), (8, .int .i64 (mgt m1_52 r75)), (9, .bool true), (10, .string (gstr ((ix d_40 a0.Enum.Done) ++ (chr (IntKind.i32.wrap ((97 : Int) + (k1_12 : Int))))))), (27, .slice aX aW aY), (28, .int .i64 (a0.Enum.Gens.length : Int)), (29, .int .i64 (k1_12 : Int))] ⟨rfl, rfl, rfl, rfl, rfl, rfl, rfl, rfl, rfl, rfl, rfl, trivial⟩ ?_
   intro σ _
   refine zr (zm rfl (zo (op_not rfl) (za rfl (zn (zf rfl rfl ?_)))))
   refine zq (zr (zm rfl (zo (op_nilCheck rfl) (zo (op_fieldAddr Try.underlying72 rfl ti70 rfl (by decide)) (zs (oblk (i := 10) 1 hO rfl rfl Try.underlying70 rfl rfl) ?_)))))
   refine zm rfl ?_
   obtain ⟨h89, H⟩ := H
   obtain ⟨h90, H⟩ := H
   refine zo (op_index Try.underlying70 ti9 rfl rfl h89 (ltn (cr.neq hO 8 rfl) h90) (cr.psome hO 8 rfl h89 h90)) (zs (oldStr 8 hO rfl cr h89 h90 Try.underlying9 rfl rfl) ?_)
   have hle91 := Els.str_le cr h89 h90
   by_cases h92 : (ix d_40 a0.Enum.Done) = (([] : Str))
   ·replace H := ifp h92 H
    refine zo (fun w => opB (op_neqS rfl rfl w) (ndT h92)) (zm rfl (zp (zp (zp (zp ?_)))))
    refine zp (zp (zp (zp (zp (zp ?_)))))
    refine zo (op_pickF rfl rfl rfl) (za rfl (zn (zf rfl rfl (zk ?_))))
    refine Go1.inBlock ?_
    refine Go1.cut [(0, .pointer (some ⟨fU, 0, none⟩)), (3, .int .i64 a0.Enum.Done), (4, .slice p2 a0.Enum.Gens.length a0.Enum.Gens.length), (5, .int .i64 (k1_12 : Int)), (8, .int .i64 (mgt m1_52 r75)), (27, .slice aX aW aY), (28, .int .i64 (a0.Enum.Gens.length : Int)), (29, .int .i64 (k1_12 : Int))] ⟨rfl, rfl, rfl, rfl, rfl, rfl, rfl, rfl, trivial⟩ ?_
    intro σ _
    refine zr (zm rfl (zm rfl (zm rfl ?_)))
    obtain ⟨h93, H⟩ := H
    obtain ⟨h94, H⟩ := H
    replace ca := ca.ch Z1
    refine zo (op_index Try.underlying26 ti3 rfl rfl h93 (ltn (ca.neq hO 0 rfl) h94) (ca.psome hO 0 rfl h93 h94)) ?_
    have hobt := ost (r := Rp.int .i64) rfl 0 hO rfl ca h93 h94 (v := .int .i64 (mgt m1_52 r75)) (u := (mgt m1_52 r75)) rfl rfl
    obtain ⟨w95, YX, vI, N1, Sk⟩ := hobt
    dsimp only [sS, sZ] at vI N1
    refine zg (Sk Try.underlying3 rfl ti3 (by exact rfl) (by exact rfl)) ?_
    replace hO := vI.own
    refine zn ?_
    refine Go1.inBlock ?_
    refine zr ?_
    replace ag := (ag.ch Z1).ch vI.ch
    refine zo (op_add rfl rfl (wrap_i64 (natbd h53 ag.bd))) (zm rfl (zn ?_))
    replace cr := cr.ch vI.ch
    have Z2 := Z1.trans vI.ch
    replace et := et.ch Z2
    replace dA := dA.ch Z2
    replace dm := dm.ch Z2
    replace ah := ah.ch Z2
    replace cy := cy.ch Z2
    replace cq := cq.ch Z2
    replace ap := ap.ch Z2
    replace hB := (((hB.trans sb.fr).trans iC.fr).trans kE.fr).trans vI.fr
    exact hX1 _ H _ _ ⟨YX, n21, p19, c20, sg, n27, p25, c26, te, n33, p31, c32, tf, n39, p37, c38, tg, n45, p43, c44, th, n51, p49, c50, tj, ⟨rfl, rfl, rfl, rfl, rfl, rfl, trivial⟩, hO, N1, ag, et, dA, dm, ah, cy, cr, cq, ap, hB⟩
   replace H := ifn h92 H
   refine zo (fun w => opB (op_neqS rfl rfl w) (ndF h92)) (zm rfl (zm rfl (zm rfl (zo (op_nilCheck rfl) (zo (op_fieldAddr Try.underlying72 rfl ti26 rfl (by decide)) ?_)))))
   refine zs (oblk (i := 11) 1 hO rfl rfl Try.underlying26 rfl rfl) (zm rfl ?_)
   obtain ⟨Et, H⟩ := H
   obtain ⟨Eu, H⟩ := H
   replace cq := cq.ch Z1
   refine zo (op_index Try.underlying26 ti3 rfl rfl Et (ltn (cq.neq hO 9 rfl) Eu) (cq.psome hO 9 rfl Et Eu)) (zs (oldInt 9 hO rfl cq Et Eu Try.underlying3 rfl rfl) (zm rfl ?_))
   refine GoR.inl (vs := [.pointer (some ⟨fU, 0, none⟩), .int .i64 (ix d_46 a0.Enum.Done), .int .i64 (k1_12 : Int)]) (caps := []) rfl rfl body67 Try.func67 rfl Try.ntmps67 rfl rfl rfl ?_
   intro RhR102 hR102
   refine zq (zr (za rfl (zn (zq ?_))))
   refine Go1.cut [(0, .pointer (some ⟨fU, 0, none⟩)), (1, .int .i64 (ix d_46 a0.Enum.Done)), (2, .int .i64 (k1_12 : Int))] ⟨rfl, rfl, rfl, trivial⟩ ?_
   intro σ _
   refine zr (zm rfl (zm rfl (zm rfl ?_)))
   refine GoR.inl (vs := [.pointer (some ⟨fU, 0, none⟩), .int .i64 (ix d_46 a0.Enum.Done), .int .i64 (k1_12 : Int)]) (caps := []) rfl rfl body66 Try.func66 rfl Try.ntmps66 rfl rfl rfl ?_
   intro RhR103 hR103
   refine zq (zr (za rfl (zn (zq (zq ?_)))))
   refine zr (zm rfl ?_)
   by_cases Dj : (ix d_46 a0.Enum.Done) = (-1 : Int)
   ·replace H := ifp Dj H
    refine zo (fun w => opB (op_eql rfl rfl w) (decide_eq_true Dj)) (zn (zt rfl rfl (zq (zr (zm rfl ?_)))))
    refine zo (op_nilCheck rfl) (zo (op_fieldAddr Try.underlying72 rfl ti26 rfl (by decide)) (zs (oblk (i := 12) 1 hO rfl rfl Try.underlying26 rfl rfl) (zm rfl ?_)))
    obtain ⟨AU, H⟩ := H
    obtain ⟨AV, H⟩ := H
    replace ap := ap.ch Z1
    refine zo (op_index Try.underlying26 ti3 rfl rfl AU (ltn (ap.neq hO 10 rfl) AV) (ap.psome hO 10 rfl AU AV)) (zs (oldInt 10 hO rfl ap AU AV Try.underlying3 rfl rfl) (za rfl (zn ?_)))
    refine Go1.ret1V Try.func66 rfl (show _ = .int .i64 (ix a0.single (k1_12 : Int)) from rfl) ?_
    refine hR103 _ _ ?_
    refine za rfl (zn (zq (zr (zm rfl (zo (op_nilCheck rfl) ?_)))))
    refine zo (op_fieldAddr Try.underlying72 rfl ti29 rfl (by decide)) (zo (op_fieldAddr Try.underlying29 rfl ti26 rfl (by decide)) (zs (oblk (i := 4) 1 hO rfl rfl Try.underlying26 rfl rfl) (zm rfl ?_)))
    obtain ⟨FF, H⟩ := H
    obtain ⟨KI, H⟩ := H
    replace dA := dA.ch Z1
    refine zo (op_index Try.underlying26 ti3 rfl rfl FF (ltn (dA.neq hO 4 rfl) KI) (dA.psome hO 4 rfl FF KI)) (zs (oldInt 4 hO rfl dA FF KI Try.underlying3 rfl rfl) (zm rfl ?_))
    by_cases IJ : (ix d_22 (ix a0.single (k1_12 : Int))) = (ix d_46 a0.Enum.Done)
    ·replace H := ifp IJ H
     refine zo (fun w => opB (op_eql rfl rfl w) (decide_eq_true IJ)) (zm rfl (zm rfl (zo (op_nilCheck rfl) (zo (op_fieldAddr Try.underlying72 rfl ti29 rfl (by decide)) (zo (op_fieldAddr Try.underlying29 rfl ti26 rfl (by decide)) ?_)))))
     refine zs (oblk (i := 5) 1 hO rfl rfl Try.underlying26 rfl rfl) (zm rfl ?_)
     obtain ⟨KJ, H⟩ := H
     obtain ⟨KK, H⟩ := H
     replace dm := dm.ch Z1
     refine zo (op_index Try.underlying26 ti3 rfl rfl KJ (ltn (dm.neq hO 5 rfl) KK) (dm.psome hO 5 rfl KJ KK)) (zs (oldInt 5 hO rfl dm KJ KK Try.underlying3 rfl rfl) (zm rfl ?_))
     by_cases IK : (ix d_28 (ix a0.single (k1_12 : Int))) = (k1_12 : Int)
     ·replace H := ifp IK H
      refine zo (fun w => opB (op_eql rfl rfl w) (decide_eq_true IK)) (zo (op_pickT rfl rfl rfl) (za rfl (zn ?_)))
      refine Go1.ret1V Try.func67 rfl (show _ = .bool true from rfl) ?_
      refine hR102 _ _ ?_
      refine zo (op_pickT rfl rfl rfl) (za rfl (zn (zt rfl rfl ?_)))
      refine Go1.cut [(0, .pointer (some ⟨fU, 0, none⟩)), (3, .int .i64 a0.Enum.Done), (4, .slice p2 a0.Enum.Gens.length a0.Enum.Gens.length), (5, .int .i64 (k1_12 : Int)), (8, .int .i64 (mgt m1_52 r75)), (10, .string (gstr ((ix d_40 a0.Enum.Done) ++ (chr (IntKind.i32.wrap ((97 : Int) + (k1_12 : Int))))))), (27, .slice aX aW aY), (28, .int .i64 (a0.Enum.Gens.length : Int)), (29, .int .i64 (k1_12 : Int))] ⟨rfl, rfl, rfl, rfl, rfl, rfl, rfl, rfl, rfl, trivial⟩ ?_
      intro σ _
      refine Go1.drawS 5 [(0, .pure), (1, .pure), (2, .pure), (3, .pure), (4, .pure), (5, .stable), (6, .pure), (7, .pure), (8, .pure), (9, .pure), (10, .stable), (11, .pure), (12, .pure), (13, .stable), (14, .pure), (15, .loud), (16, .last), (17, .pure), (18, .pure), (19, .pure), (20, .last)] mixed (by kernel_rfl) ?_
      intro aeS Sl
      have tk := Stp.same hO Sl
      replace hO := tk.own
      refine GoQ.pure rfl (op_move rfl) rfl rfl ?_
      refine GoQ.pure rfl (op_move rfl) rfl rfl ?_
      refine GoQ.pure rfl (op_nilCheck rfl) rfl rfl ?_
      refine GoQ.pure rfl (op_fieldAddr Try.underlying72 rfl ti29 rfl (by decide)) rfl rfl ?_
      refine GoQ.pure rfl (op_fieldAddr Try.underlying29 rfl ti27 rfl (by decide)) rfl rfl ?_
      refine GoQ.stable rfl (oblk (i := 7) 1 hO rfl rfl Try.underlying27 rfl rfl) rfl rfl ?_
      refine GoQ.pure rfl (op_move rfl) rfl rfl ?_
      refine GoQ.pure rfl (op_move rfl) rfl rfl ?_
      refine GoQ.pure rfl (op_nilCheck rfl) rfl rfl ?_
      refine GoQ.pure rfl (op_fieldAddr Try.underlying72 rfl ti70 rfl (by decide)) rfl rfl ?_
      refine GoQ.stable rfl (oblk (i := 10) 1 hO rfl rfl Try.underlying70 rfl rfl) rfl rfl ?_
      refine GoQ.pure rfl (op_move rfl) rfl rfl ?_
      obtain ⟨IL, H⟩ := H
      obtain ⟨IM, H⟩ := H
      replace cr := cr.ch tk.ch
      refine GoQ.pure rfl (op_index Try.underlying70 ti9 rfl rfl IL (ltn (cr.neq hO 8 rfl) IM) (cr.psome hO 8 rfl IL IM)) rfl rfl ?_
      refine GoQ.stable rfl (oldStr 8 hO rfl cr IL IM Try.underlying9 rfl rfl) rfl rfl ?_
      have hle118 := Els.str_le cr IL IM
      refine GoQ.pure rfl (op_build Try.underlying39 ti39 (pl := [(0, 1), (1, 1)]) (vs := [(0, .string (gstr ((ix d_40 a0.Enum.Done) ++ (chr (IntKind.i32.wrap ((97 : Int) + (k1_12 : Int))))))), (1, .string (gstr (ix d_40 (mgt m1_52 r75))))]) (cs := #[.string (gstr ((ix d_40 a0.Enum.Done) ++ (chr (IntKind.i32.wrap ((97 : Int) + (k1_12 : Int)))))), .string (gstr (ix d_40 (mgt m1_52 r75)))]) (by kernel_rfl) rfl (by kernel_rfl)) rfl rfl ?_
      have hobt := obuildN (r := rpRule) (n := 1) (parts := [(0, .agg #[.string (gstr ((ix d_40 a0.Enum.Done) ++ (chr (IntKind.i32.wrap ((97 : Int) + (k1_12 : Int)))))), .string (gstr (ix d_40 (mgt m1_52 r75)))])]) (vs := [.string (gstr ((ix d_40 a0.Enum.Done) ++ (chr (IntKind.i32.wrap ((97 : Int) + (k1_12 : Int)))))), .string (gstr (ix d_40 (mgt m1_52 r75)))]) (xs := [(⟨(ix d_40 a0.Enum.Done) ++ (chr (IntKind.i32.wrap ((97 : Int) + (k1_12 : Int)))), ix d_40 (mgt m1_52 r75)⟩ : Rule)]) Try.underlying27 ti39 hO (by decide) (by decide) (by kernel_rfl) (Els.flat1 (⟨(ix d_40 a0.Enum.Done) ++ (chr (IntKind.i32.wrap ((97 : Int) + (k1_12 : Int)))), ix d_40 (mgt m1_52 r75)⟩ : Rule) ⟨(lenApp h88), hle118⟩) rfl
      obtain ⟨aeT, mE, gA, Sm, IN, N2⟩ := hobt
      refine GoQ.loud rfl (N2 rfl) IN rfl rfl ?_
      replace hO := gA.own
      have hobt := freeze 0 hO rfl Sm
      obtain ⟨hO1, wU, BU, Sn⟩ := hobt
      dsimp only [eS, eZ] at hO1 wU BU
      replace hB := (((((hB.trans sb.fr).trans iC.fr).trans kE.fr).trans tk.fr).trans gA.fr).trans (Owns.dropFr _ _ 0)
      dsimp only [eS, eZ] at hB
      replace hO := hO1; clear hO1
      obtain ⟨KL, H⟩ := H
      have Z3 := ((Z1.trans tk.ch).trans gA.ch).trans wU
      replace cy := cy.ch Z3
      have hobt := oapp Try.underlying27 ti39 rfl 7 hO rfl cy BU Sn KL (by decide)
      obtain ⟨YY, my, mz, vJ, gc, gU, HL⟩ := hobt
      dsimp only [sS, sZ] at gc gU
      refine GoQ.last rfl (HL (by exact rfl) (by exact rfl)) rfl rfl ?_
      replace hO := gc.own
      refine GoQ.pure rfl (op_nilCheck rfl) rfl rfl ?_
      refine GoQ.pure rfl (op_fieldAddr Try.underlying72 rfl ti29 rfl (by decide)) rfl rfl ?_
      refine GoQ.pure rfl (op_fieldAddr Try.underlying29 rfl ti27 rfl (by decide)) rfl rfl ?_
      have hobt := oblkSt2 (v := .slice my (n39 + 1) mz) (i := 7) (cs' := #[.int .i64 a0.Enum.Points, .bool a0.Enum.Monoid, .slice aX aW aY, .slice p19 n21 c20, .slice p25 n27 c26, .slice p31 n33 c32, .slice bc a7 bf, .slice my (n39 + 1) mz, .int .i64 a0.Enum.Done, .map (some bg), .slice p43 n45 c44, .slice p49 n51 c50, .slice bO bN bP]) 1 hO rfl rfl rfl rfl
      obtain ⟨aeU, rz, N3⟩ := hobt
      dsimp only [sS, sZ] at rz
      refine GoQ.last rfl (N3 Try.underlying27 rfl ti27 (by exact rfl) (by exact rfl)) rfl rfl ?_
      replace hO := rz.own
      refine GoQ.nil ?_
      refine Go1.inBlock ?_
      refine Go1.cut [(0, .pointer (some ⟨fU, 0, none⟩)), (3, .int .i64 a0.Enum.Done), (4, .slice p2 a0.Enum.Gens.length a0.Enum.Gens.length), (5, .int .i64 (k1_12 : Int)), (8, .int .i64 (mgt m1_52 r75)), (27, .slice aX aW aY), (28, .int .i64 (a0.Enum.Gens.length : Int)), (29, .int .i64 (k1_12 : Int))] ⟨rfl, rfl, rfl, rfl, rfl, rfl, rfl, rfl, trivial⟩ ?_
      intro σ _
      refine zr (zm rfl (zm rfl (zm rfl ?_)))
      obtain ⟨KM, H⟩ := H
      obtain ⟨KN, H⟩ := H
      replace ca := ((ca.ch Z3).ch gc.ch).ch rz.ch
      refine zo (op_index Try.underlying26 ti3 rfl rfl KM (ltn (ca.neq hO 0 rfl) KN) (ca.psome hO 0 rfl KM KN)) ?_
      have hobt := ost (r := Rp.int .i64) rfl 0 hO rfl ca KM KN (v := .int .i64 (mgt m1_52 r75)) (u := (mgt m1_52 r75)) rfl rfl
      obtain ⟨aeV, So, g7, Mb, N4⟩ := hobt
      dsimp only [sS, sZ] at g7 Mb
      refine zg (N4 Try.underlying3 rfl ti3 (by exact rfl) (by exact rfl)) ?_
      replace hO := g7.own
      refine zn ?_
      refine Go1.inBlock ?_
      refine zr ?_
      have Z4 := ((Z3.trans gc.ch).trans rz.ch).trans g7.ch
      replace ag := ag.ch Z4
      refine zo (op_add rfl rfl (wrap_i64 (natbd h53 ag.bd))) (zm rfl (zn ?_))
      replace gU := (gU.ch rz.ch).ch g7.ch
      replace hB := ((hB.trans gc.fr).trans rz.fr).trans g7.fr
      have Z5 := (((gA.ch.trans wU).trans gc.ch).trans rz.ch).trans g7.ch
      replace cr := cr.ch Z5
      have Z6 := ((((tk.ch.trans gA.ch).trans wU).trans gc.ch).trans rz.ch).trans g7.ch
      replace dA := dA.ch Z6
      replace dm := dm.ch Z6
      replace cq := cq.ch Z6
      replace ap := ap.ch Z6
      replace et := et.ch Z4
      replace ah := ah.ch Z4
      exact hX1 _ H _ _ ⟨So, n21, p19, c20, sg, n27, p25, c26, te, n33, p31, c32, tf, n39 + 1, my, mz, vJ, n45, p43, c44, th, n51, p49, c50, tj, ⟨rfl, rfl, rfl, rfl, rfl, rfl, trivial⟩, hO, Mb, ag, et, dA, dm, ah, gU, cr, cq, ap, hB⟩
     replace H := ifn IK H
     refine zo (fun w => opB (op_eql rfl rfl w) (decide_eq_false IK)) (zo (op_pickT rfl rfl rfl) (za rfl (zn ?_)))
     refine Go1.ret1V Try.func67 rfl (show _ = .bool false from rfl) ?_
     refine hR102 _ _ ?_
     refine zo (op_pickT rfl rfl rfl) (za rfl (zn (zf rfl rfl (zk ?_))))
     refine Go1.inBlock ?_
     refine zr (zm rfl (zm rfl (zm rfl ?_)))
     obtain ⟨KO, H⟩ := H
     obtain ⟨KP, H⟩ := H
     replace ca := ca.ch Z1
     refine zo (op_index Try.underlying26 ti3 rfl rfl KO (ltn (ca.neq hO 0 rfl) KP) (ca.psome hO 0 rfl KO KP)) ?_
     have hobt := ost (r := Rp.int .i64) rfl 0 hO rfl ca KO KP (v := .int .i64 (mgt m1_52 r75)) (u := (mgt m1_52 r75)) rfl rfl
     obtain ⟨Y0, Sp, tm, Mc, HM⟩ := hobt
     dsimp only [sS, sZ] at tm Mc
     refine zg (HM Try.underlying3 rfl ti3 (by exact rfl) (by exact rfl)) ?_
     replace hO := tm.own
     refine zn ?_
     refine Go1.inBlock ?_
     refine zr ?_
     replace ag := (ag.ch Z1).ch tm.ch
     refine zo (op_add rfl rfl (wrap_i64 (natbd h53 ag.bd))) (zm rfl (zn ?_))
     replace dA := dA.ch tm.ch
     replace dm := dm.ch tm.ch
     replace cr := cr.ch tm.ch
     replace cq := cq.ch tm.ch
     replace ap := ap.ch tm.ch
     have Z7 := Z1.trans tm.ch
     replace et := et.ch Z7
     replace ah := ah.ch Z7
     replace cy := cy.ch Z7
     replace hB := (((hB.trans sb.fr).trans iC.fr).trans kE.fr).trans tm.fr
     exact hX1 _ H _ _ ⟨Sp, n21, p19, c20, sg, n27, p25, c26, te, n33, p31, c32, tf, n39, p37, c38, tg, n45, p43, c44, th, n51, p49, c50, tj, ⟨rfl, rfl, rfl, rfl, rfl, rfl, trivial⟩, hO, Mc, ag, et, dA, dm, ah, cy, cr, cq, ap, hB⟩
    replace H := ifn IJ H
    refine zo (fun w => opB (op_eql rfl rfl w) (decide_eq_false IJ)) (zm rfl (zp (zp (zp (zp ?_)))))
    refine zp (zp (zp (zp (zp (zp ?_)))))
    refine zo (op_pickF rfl rfl rfl) (za rfl (zn ?_))
    refine Go1.ret1V Try.func67 rfl (show _ = .bool false from rfl) ?_
    refine hR102 _ _ ?_
    refine zo (op_pickT rfl rfl rfl) (za rfl (zn (zf rfl rfl (zk ?_))))
    refine Go1.inBlock ?_
    refine Go1.cut [(0, .pointer (some ⟨fU, 0, none⟩)), (3, .int .i64 a0.Enum.Done), (4, .slice p2 a0.Enum.Gens.length a0.Enum.Gens.length), (5, .int .i64 (k1_12 : Int)), (8, .int .i64 (mgt m1_52 r75)), (27, .slice aX aW aY), (28, .int .i64 (a0.Enum.Gens.length : Int)), (29, .int .i64 (k1_12 : Int))] ⟨rfl, rfl, rfl, rfl, rfl, rfl, rfl, rfl, trivial⟩ ?_
    intro σ _
    refine zr (zm rfl (zm rfl (zm rfl ?_)))
    obtain ⟨Fv, H⟩ := H
    obtain ⟨Fw, H⟩ := H
    replace ca := ca.ch Z1
    refine zo (op_index Try.underlying26 ti3 rfl rfl Fv (ltn (ca.neq hO 0 rfl) Fw) (ca.psome hO 0 rfl Fv Fw)) ?_
    have hobt := ost (r := Rp.int .i64) rfl 0 hO rfl ca Fv Fw (v := .int .i64 (mgt m1_52 r75)) (u := (mgt m1_52 r75)) rfl rfl
    obtain ⟨aeW, Sq, tn, Me, N5⟩ := hobt
    dsimp only [sS, sZ] at tn Me
    refine zg (N5 Try.underlying3 rfl ti3 (by exact rfl) (by exact rfl)) ?_
    replace hO := tn.own
    refine zn ?_
    refine Go1.inBlock ?_
    refine zr ?_
    replace ag := (ag.ch Z1).ch tn.ch
    refine zo (op_add rfl rfl (wrap_i64 (natbd h53 ag.bd))) (zm rfl (zn ?_))
    replace dA := dA.ch tn.ch
    replace cr := cr.ch tn.ch
    replace cq := cq.ch tn.ch
    replace ap := ap.ch tn.ch
    have Z8 := Z1.trans tn.ch
    replace et := et.ch Z8
    replace dm := dm.ch Z8
    replace ah := ah.ch Z8
    replace cy := cy.ch Z8
    replace hB := (((hB.trans sb.fr).trans iC.fr).trans kE.fr).trans tn.fr
    exact hX1 _ H _ _ ⟨Sq, n21, p19, c20, sg, n27, p25, c26, te, n33, p31, c32, tf, n39, p37, c38, tg, n45, p43, c44, th, n51, p49, c50, tj, ⟨rfl, rfl, rfl, rfl, rfl, rfl, trivial⟩, hO, Me, ag, et, dA, dm, ah, cy, cr, cq, ap, hB⟩
   replace H := ifn Dj H
   refine zo (fun w => opB (op_eql rfl rfl w) (decide_eq_false Dj)) (zn (zf rfl rfl (zk (zq (zr ?_)))))
   refine zm rfl (zo (op_nilCheck rfl) (zo (op_fieldAddr Try.underlying72 rfl ti29 rfl (by decide)) (zo (op_fieldAddr Try.underlying29 rfl ti22 rfl (by decide)) (zs (oblk (i := 6) 1 hO rfl rfl Try.underlying22 rfl rfl) (zm rfl ?_)))))
   obtain ⟨Fx, H⟩ := H
   obtain ⟨Hs, H⟩ := H
   replace ah := ah.ch Z1
   refine zo (op_index Try.underlying22 ti26 rfl rfl Fx (ltn (ah.neq hO 6 rfl) Hs) (ah.psome hO 6 rfl Fx Hs)) ?_
   have hobt := oldSl 6 hO rfl ah Fx Hs
   obtain ⟨IQ, IR, tK, Sr⟩ := hobt
   refine zs (Sr Try.underlying26 rfl rfl) (zm rfl ?_)
   obtain ⟨KQ, H⟩ := H
   obtain ⟨KR, H⟩ := H
   refine zo (op_index Try.underlying26 ti3 rfl rfl KQ KR (tK.some_ KQ KR)) (zs (ldInt tK KQ KR Try.underlying3 rfl rfl) (za rfl (zn ?_)))
   refine Go1.ret1V Try.func66 rfl (show _ = .int .i64 (ix (ix a0.Enum.Right (ix d_46 a0.Enum.Done)) (k1_12 : Int)) from rfl) ?_
   refine hR103 _ _ ?_
   refine za rfl (zn (zq ?_))
   refine Go1.cut [(0, .pointer (some ⟨fU, 0, none⟩)), (1, .int .i64 (ix d_46 a0.Enum.Done)), (2, .int .i64 (k1_12 : Int)), (7, .int .i64 (ix (ix a0.Enum.Right (ix d_46 a0.Enum.Done)) (k1_12 : Int)))] ⟨rfl, rfl, rfl, rfl, trivial⟩ ?_
   intro σ _
   refine zr (zm rfl (zo (op_nilCheck rfl) (zo (op_fieldAddr Try.underlying72 rfl ti29 rfl (by decide)) (zo (op_fieldAddr Try.underlying29 rfl ti26 rfl (by decide)) (zs (oblk (i := 4) 1 hO rfl rfl Try.underlying26 rfl rfl) ?_)))))
   refine zm rfl ?_
   obtain ⟨KS, H⟩ := H
   obtain ⟨KT, H⟩ := H
   replace dA := dA.ch Z1
   refine zo (op_index Try.underlying26 ti3 rfl rfl KS (ltn (dA.neq hO 4 rfl) KT) (dA.psome hO 4 rfl KS KT)) (zs (oldInt 4 hO rfl dA KS KT Try.underlying3 rfl rfl) (zm rfl ?_))
   by_cases IS : (ix d_22 (ix (ix a0.Enum.Right (ix d_46 a0.Enum.Done)) (k1_12 : Int))) = (ix d_46 a0.Enum.Done)
   ·replace H := ifp IS H
    refine zo (fun w => opB (op_eql rfl rfl w) (decide_eq_true IS)) (zm rfl (zm rfl (zo (op_nilCheck rfl) (zo (op_fieldAddr Try.underlying72 rfl ti29 rfl (by decide)) (zo (op_fieldAddr Try.underlying29 rfl ti26 rfl (by decide)) ?_)))))
    refine zs (oblk (i := 5) 1 hO rfl rfl Try.underlying26 rfl rfl) (zm rfl ?_)
    obtain ⟨Ec, H⟩ := H
    obtain ⟨KU, H⟩ := H
    replace dm := dm.ch Z1
    refine zo (op_index Try.underlying26 ti3 rfl rfl Ec (ltn (dm.neq hO 5 rfl) KU) (dm.psome hO 5 rfl Ec KU)) (zs (oldInt 5 hO rfl dm Ec KU Try.underlying3 rfl rfl) (zm rfl ?_))
    by_cases IT : (ix d_28 (ix (ix a0.Enum.Right (ix d_46 a0.Enum.Done)) (k1_12 : Int))) = (k1_12 : Int)
    ·replace H := ifp IT H
     refine zo (fun w => opB (op_eql rfl rfl w) (decide_eq_true IT)) (zo (op_pickT rfl rfl rfl) (za rfl (zn ?_)))
     refine Go1.ret1V Try.func67 rfl (show _ = .bool true from rfl) ?_
     refine hR102 _ _ ?_
     refine zo (op_pickT rfl rfl rfl) (za rfl (zn (zt rfl rfl ?_)))
     refine Go1.cut [(0, .pointer (some ⟨fU, 0, none⟩)), (3, .int .i64 a0.Enum.Done), (4, .slice p2 a0.Enum.Gens.length a0.Enum.Gens.length), (5, .int .i64 (k1_12 : Int)), (8, .int .i64 (mgt m1_52 r75)), (10, .string (gstr ((ix d_40 a0.Enum.Done) ++ (chr (IntKind.i32.wrap ((97 : Int) + (k1_12 : Int))))))), (27, .slice aX aW aY), (28, .int .i64 (a0.Enum.Gens.length : Int)), (29, .int .i64 (k1_12 : Int))] ⟨rfl, rfl, rfl, rfl, rfl, rfl, rfl, rfl, rfl, trivial⟩ ?_
     intro σ _
     refine Go1.drawS 5 [(0, .pure), (1, .pure), (2, .pure), (3, .pure), (4, .pure), (5, .stable), (6, .pure), (7, .pure), (8, .pure), (9, .pure), (10, .stable), (11, .pure), (12, .pure), (13, .stable), (14, .pure), (15, .loud), (16, .last), (17, .pure), (18, .pure), (19, .pure), (20, .last)] mixed (by kernel_rfl) ?_
     intro aeX Ss
     have kz := Stp.same hO Ss
     replace hO := kz.own
     refine GoQ.pure rfl (op_move rfl) rfl rfl ?_
     refine GoQ.pure rfl (op_move rfl) rfl rfl ?_
     refine GoQ.pure rfl (op_nilCheck rfl) rfl rfl ?_
     refine GoQ.pure rfl (op_fieldAddr Try.underlying72 rfl ti29 rfl (by decide)) rfl rfl ?_
     refine GoQ.pure rfl (op_fieldAddr Try.underlying29 rfl ti27 rfl (by decide)) rfl rfl ?_
     refine GoQ.stable rfl (oblk (i := 7) 1 hO rfl rfl Try.underlying27 rfl rfl) rfl rfl ?_
     refine GoQ.pure rfl (op_move rfl) rfl rfl ?_
     refine GoQ.pure rfl (op_move rfl) rfl rfl ?_
     refine GoQ.pure rfl (op_nilCheck rfl) rfl rfl ?_
     refine GoQ.pure rfl (op_fieldAddr Try.underlying72 rfl ti70 rfl (by decide)) rfl rfl ?_
     refine GoQ.stable rfl (oblk (i := 10) 1 hO rfl rfl Try.underlying70 rfl rfl) rfl rfl ?_
     refine GoQ.pure rfl (op_move rfl) rfl rfl ?_
     obtain ⟨IU, H⟩ := H
     obtain ⟨IV, H⟩ := H
     replace cr := cr.ch kz.ch
     refine GoQ.pure rfl (op_index Try.underlying70 ti9 rfl rfl IU (ltn (cr.neq hO 8 rfl) IV) (cr.psome hO 8 rfl IU IV)) rfl rfl ?_
     refine GoQ.stable rfl (oldStr 8 hO rfl cr IU IV Try.underlying9 rfl rfl) rfl rfl ?_
     have hle181 := Els.str_le cr IU IV
     refine GoQ.pure rfl (op_build Try.underlying39 ti39 (pl := [(0, 1), (1, 1)]) (vs := [(0, .string (gstr ((ix d_40 a0.Enum.Done) ++ (chr (IntKind.i32.wrap ((97 : Int) + (k1_12 : Int))))))), (1, .string (gstr (ix d_40 (mgt m1_52 r75))))]) (cs := #[.string (gstr ((ix d_40 a0.Enum.Done) ++ (chr (IntKind.i32.wrap ((97 : Int) + (k1_12 : Int)))))), .string (gstr (ix d_40 (mgt m1_52 r75)))]) (by kernel_rfl) rfl (by kernel_rfl)) rfl rfl ?_
     have hobt := obuildN (r := rpRule) (n := 1) (parts := [(0, .agg #[.string (gstr ((ix d_40 a0.Enum.Done) ++ (chr (IntKind.i32.wrap ((97 : Int) + (k1_12 : Int)))))), .string (gstr (ix d_40 (mgt m1_52 r75)))])]) (vs := [.string (gstr ((ix d_40 a0.Enum.Done) ++ (chr (IntKind.i32.wrap ((97 : Int) + (k1_12 : Int)))))), .string (gstr (ix d_40 (mgt m1_52 r75)))]) (xs := [(⟨(ix d_40 a0.Enum.Done) ++ (chr (IntKind.i32.wrap ((97 : Int) + (k1_12 : Int)))), ix d_40 (mgt m1_52 r75)⟩ : Rule)]) Try.underlying27 ti39 hO (by decide) (by decide) (by kernel_rfl) (Els.flat1 (⟨(ix d_40 a0.Enum.Done) ++ (chr (IntKind.i32.wrap ((97 : Int) + (k1_12 : Int)))), ix d_40 (mgt m1_52 r75)⟩ : Rule) ⟨(lenApp h88), hle181⟩) rfl
     obtain ⟨aeY, ae0, ss, St, Su, N6⟩ := hobt
     refine GoQ.loud rfl (N6 rfl) Su rfl rfl ?_
     replace hO := ss.own
     have hobt := freeze 0 hO rfl St
     obtain ⟨hO1, vK, BV, Sv⟩ := hobt
     dsimp only [eS, eZ] at hO1 vK BV
     replace hB := (((((hB.trans sb.fr).trans iC.fr).trans kE.fr).trans kz.fr).trans ss.fr).trans (Owns.dropFr _ _ 0)
     dsimp only [eS, eZ] at hB
     replace hO := hO1; clear hO1
     obtain ⟨Y1, H⟩ := H
     have Z9 := ((Z1.trans kz.ch).trans ss.ch).trans vK
     replace cy := cy.ch Z9
     have hobt := oapp Try.underlying27 ti39 rfl 7 hO rfl cy BV Sv Y1 (by decide)
     obtain ⟨ae1, KV, KW, Sw, rB, E6, N7⟩ := hobt
     dsimp only [sS, sZ] at rB E6
     refine GoQ.last rfl (N7 (by exact rfl) (by exact rfl)) rfl rfl ?_
     replace hO := rB.own
     refine GoQ.pure rfl (op_nilCheck rfl) rfl rfl ?_
     refine GoQ.pure rfl (op_fieldAddr Try.underlying72 rfl ti29 rfl (by decide)) rfl rfl ?_
     refine GoQ.pure rfl (op_fieldAddr Try.underlying29 rfl ti27 rfl (by decide)) rfl rfl ?_
     have hobt := oblkSt2 (v := .slice KV (n39 + 1) KW) (i := 7) (cs' := #[.int .i64 a0.Enum.Points, .bool a0.Enum.Monoid, .slice aX aW aY, .slice p19 n21 c20, .slice p25 n27 c26, .slice p31 n33 c32, .slice bc a7 bf, .slice KV (n39 + 1) KW, .int .i64 a0.Enum.Done, .map (some bg), .slice p43 n45 c44, .slice p49 n51 c50, .slice bO bN bP]) 1 hO rfl rfl rfl rfl
     obtain ⟨Y2, qK, N8⟩ := hobt
     dsimp only [sS, sZ] at qK
     refine GoQ.last rfl (N8 Try.underlying27 rfl ti27 (by exact rfl) (by exact rfl)) rfl rfl ?_
     replace hO := qK.own
     refine GoQ.nil ?_
     refine Go1.inBlock ?_
     refine Go1.cut [(0, .pointer (some ⟨fU, 0, none⟩)), (3, .int .i64 a0.Enum.Done), (4, .slice p2 a0.Enum.Gens.length a0.Enum.Gens.length), (5, .int .i64 (k1_12 : Int)), (8, .int .i64 (mgt m1_52 r75)), (27, .slice aX aW aY), (28, .int .i64 (a0.Enum.Gens.length : Int)), (29, .int .i64 (k1_12 : Int))] ⟨rfl, rfl, rfl, rfl, rfl, rfl, rfl, rfl, trivial⟩ ?_
     intro σ _
     refine zr (zm rfl (zm rfl (zm rfl ?_)))
     obtain ⟨KX, H⟩ := H
     obtain ⟨KY, H⟩ := H
     replace ca := ((ca.ch Z9).ch rB.ch).ch qK.ch
     refine zo (op_index Try.underlying26 ti3 rfl rfl KX (ltn (ca.neq hO 0 rfl) KY) (ca.psome hO 0 rfl KX KY)) ?_
     have hobt := ost (r := Rp.int .i64) rfl 0 hO rfl ca KX KY (v := .int .i64 (mgt m1_52 r75)) (u := (mgt m1_52 r75)) rfl rfl
     obtain ⟨ae2, Sx, rC, Mf, N9⟩ := hobt
     dsimp only [sS, sZ] at rC Mf
     refine zg (N9 Try.underlying3 rfl ti3 (by exact rfl) (by exact rfl)) ?_
     replace hO := rC.own
     refine zn ?_
     refine Go1.inBlock ?_
     refine zr ?_
     have Z10 := ((Z9.trans rB.ch).trans qK.ch).trans rC.ch
     replace ag := ag.ch Z10
     refine zo (op_add rfl rfl (wrap_i64 (natbd h53 ag.bd))) (zm rfl (zn ?_))
     replace E6 := (E6.ch qK.ch).ch rC.ch
     replace hB := ((hB.trans rB.fr).trans qK.fr).trans rC.fr
     have Z11 := (((ss.ch.trans vK).trans rB.ch).trans qK.ch).trans rC.ch
     replace cr := cr.ch Z11
     have Z12 := ((((kz.ch.trans ss.ch).trans vK).trans rB.ch).trans qK.ch).trans rC.ch
     replace dA := dA.ch Z12
     replace dm := dm.ch Z12
     replace ah := ah.ch Z12
     replace cq := cq.ch Z12
     replace et := et.ch Z10
     replace ap := ap.ch Z10
     exact hX1 _ H _ _ ⟨Sx, n21, p19, c20, sg, n27, p25, c26, te, n33, p31, c32, tf, n39 + 1, KV, KW, Sw, n45, p43, c44, th, n51, p49, c50, tj, ⟨rfl, rfl, rfl, rfl, rfl, rfl, trivial⟩, hO, Mf, ag, et, dA, dm, ah, E6, cr, cq, ap, hB⟩
    replace H := ifn IT H
    refine zo (fun w => opB (op_eql rfl rfl w) (decide_eq_false IT)) (zo (op_pickT rfl rfl rfl) (za rfl (zn ?_)))
    refine Go1.ret1V Try.func67 rfl (show _ = .bool false from rfl) ?_
    refine hR102 _ _ ?_
    refine zo (op_pickT rfl rfl rfl) (za rfl (zn (zf rfl rfl (zk ?_))))
    refine Go1.inBlock ?_
    refine zr (zm rfl (zm rfl (zm rfl ?_)))
    obtain ⟨K1, H⟩ := H
    obtain ⟨Hu, H⟩ := H
    replace ca := ca.ch Z1
    refine zo (op_index Try.underlying26 ti3 rfl rfl K1 (ltn (ca.neq hO 0 rfl) Hu) (ca.psome hO 0 rfl K1 Hu)) ?_
    have hobt := ost (r := Rp.int .i64) rfl 0 hO rfl ca K1 Hu (v := .int .i64 (mgt m1_52 r75)) (u := (mgt m1_52 r75)) rfl rfl
    obtain ⟨Yb, Sy, su, BW, Oa⟩ := hobt
    dsimp only [sS, sZ] at su BW
    refine zg (Oa Try.underlying3 rfl ti3 (by exact rfl) (by exact rfl)) ?_
    replace hO := su.own
    refine zn ?_
    refine Go1.inBlock ?_
    refine zr ?_
    replace ag := (ag.ch Z1).ch su.ch
    refine zo (op_add rfl rfl (wrap_i64 (natbd h53 ag.bd))) (zm rfl (zn ?_))
    replace dA := dA.ch su.ch
    replace dm := dm.ch su.ch
    replace ah := ah.ch su.ch
    replace cr := cr.ch su.ch
    replace cq := cq.ch su.ch
    have Z13 := Z1.trans su.ch
    replace et := et.ch Z13
    replace cy := cy.ch Z13
    replace ap := ap.ch Z13
    replace hB := (((hB.trans sb.fr).trans iC.fr).trans kE.fr).trans su.fr
    exact hX1 _ H _ _ ⟨Sy, n21, p19, c20, sg, n27, p25, c26, te, n33, p31, c32, tf, n39, p37, c38, tg, n45, p43, c44, th, n51, p49, c50, tj, ⟨rfl, rfl, rfl, rfl, rfl, rfl, trivial⟩, hO, BW, ag, et, dA, dm, ah, cy, cr, cq, ap, hB⟩
   replace H := ifn IS H
   refine zo (fun w => opB (op_eql rfl rfl w) (decide_eq_false IS)) (zm rfl (zp (zp (zp (zp ?_)))))
   refine zp (zp (zp (zp (zp (zp ?_)))))
   refine zo (op_pickF rfl rfl rfl) (za rfl (zn ?_))
   refine Go1.ret1V Try.func67 rfl (show _ = .bool false from rfl) ?_
   refine hR102 _ _ ?_
   refine zo (op_pickT rfl rfl rfl) (za rfl (zn (zf rfl rfl (zk ?_))))
   refine Go1.inBlock ?_
   refine Go1.cut [(0, .pointer (some ⟨fU, 0, none⟩)), (3, .int .i64 a0.Enum.Done), (4, .slice p2 a0.Enum.Gens.length a0.Enum.Gens.length), (5, .int .i64 (k1_12 : Int)), (8, .int .i64 (mgt m1_52 r75)), (27, .slice aX aW aY), (28, .int .i64 (a0.Enum.Gens.length : Int)), (29, .int .i64 (k1_12 : Int))] ⟨rfl, rfl, rfl, rfl, rfl, rfl, rfl, rfl, trivial⟩ ?_
   intro σ _
   refine zr (zm rfl (zm rfl (zm rfl ?_)))
   obtain ⟨Ev, H⟩ := H
   obtain ⟨Ew, H⟩ := H
   replace ca := ca.ch Z1
   refine zo (op_index Try.underlying26 ti3 rfl rfl Ev (ltn (ca.neq hO 0 rfl) Ew) (ca.psome hO 0 rfl Ev Ew)) ?_
   have hobt := ost (r := Rp.int .i64) rfl 0 hO rfl ca Ev Ew (v := .int .i64 (mgt m1_52 r75)) (u := (mgt m1_52 r75)) rfl rfl
   obtain ⟨ae3, Sz, fT, Mg, Ob⟩ := hobt
   dsimp only [sS, sZ] at fT Mg
   refine zg (Ob Try.underlying3 rfl ti3 (by exact rfl) (by exact rfl)) ?_
   replace hO := fT.own
   refine zn ?_
   refine Go1.inBlock ?_
   refine zr ?_
   replace ag := (ag.ch Z1).ch fT.ch
   refine zo (op_add rfl rfl (wrap_i64 (natbd h53 ag.bd))) (zm rfl (zn ?_))
   replace dA := dA.ch fT.ch
   replace ah := ah.ch fT.ch
   replace cr := cr.ch fT.ch
   replace cq := cq.ch fT.ch
   have Z14 := Z1.trans fT.ch
   replace et := et.ch Z14
   replace dm := dm.ch Z14
   replace cy := cy.ch Z14
   replace ap := ap.ch Z14
   replace hB := (((hB.trans sb.fr).trans iC.fr).trans kE.fr).trans fT.fr
   exact hX1 _ H _ _ ⟨Sz, n21, p19, c20, sg, n27, p25, c26, te, n33, p31, c32, tf, n39, p37, c38, tg, n45, p43, c44, th, n51, p49, c50, tj, ⟨rfl, rfl, rfl, rfl, rfl, rfl, trivial⟩, hO, Mg, ag, et, dA, dm, ah, cy, cr, cq, ap, hB⟩
  replace H := ifn h81 H
  refine GoQ.stable rfl (olookF (a := r75) (MK.str Try.underlying9) 11 hO rfl Try.underlying69 ti3 rfl rfl h81) rfl rfl ?_
  refine GoQ.pure rfl (op_move rfl) rfl rfl ?_
  refine GoQ.pure rfl (op_extract rfl rfl) rfl rfl ?_
  refine GoQ.pure rfl (op_extract rfl rfl) rfl rfl ?_
  refine GoQ.pure rfl (op_assign rfl) rfl rfl ?_
  refine GoQ.pure rfl (op_assign rfl) rfl rfl ?_
  refine GoQ.nil ?_
  refine zq (zr (zm rfl (zo (op_nilCheck rfl) (zo (op_fieldAddr Try.underlying72 rfl ti70 rfl (by decide)) (zs (oblk (i := 10) 1 hO rfl rfl Try.underlying70 rfl rfl) ?_)))))
  refine zm rfl ?_
  obtain ⟨IW, H⟩ := H
  obtain ⟨IX, H⟩ := H
  have Z15 := (sb.ch.trans iC.ch).trans kE.ch
  replace cr := cr.ch Z15
  refine zo (op_index Try.underlying70 ti9 rfl rfl IW (ltn (cr.neq hO 8 rfl) IX) (cr.psome hO 8 rfl IW IX)) (zs (oldStr 8 hO rfl cr IW IX Try.underlying9 rfl rfl) ?_)
  have hle227 := Els.str_le cr IW IX
  refine zm rfl ?_
  obtain ⟨Y3, H⟩ := H
  refine zo (op_add rfl rfl (wrap_i64 Y3)) (zo (op_conv Try.underlying3 Try.underlying21 rfl rfl) ?_)
  obtain ⟨Y4, H⟩ := H
  obtain ⟨Y5, H⟩ := H
  refine zo (op_convRS Try.underlying21 Try.underlying9 rfl Y4 Y5) ?_
  obtain ⟨K2, H⟩ := H
  refine zo (op_addS rfl rfl K2) (za rfl (zn (zq (zb (zq ?_)))))
  refine Go1.cut [(0, .pointer (some ⟨fU, 0, none⟩)), (3, .int .i64 a0.Enum.Done), (4, .slice p2 a0.Enum.Gens.length a0.Enum.Gens.length), (5, .int .i64 (k1_12 : Int)), (7, .slice xH r66.length xI), (8, .int .i64 (0 : Int)), (9, .bool false), (10, .string (gstr ((ix d_40 a0.Enum.Done) ++ (chr (IntKind.i32.wrap ((97 : Int) + (k1_12 : Int))))))), (27, .slice aX aW aY), (28, .int .i64 (a0.Enum.Gens.length : Int)), (29, .int .i64 (k1_12 : Int))] ⟨rfl, rfl, rfl, rfl, rfl, rfl, rfl, rfl, rfl, rfl, rfl, trivial⟩ ?_
  intro σ _
  refine zr (zm rfl (zo (op_not rfl) (zm rfl (zm rfl (zo (op_nilCheck rfl) ?_)))))
  refine zo (op_fieldAddr Try.underlying72 rfl ti29 rfl (by decide)) (zo (op_fieldAddr Try.underlying29 rfl ti22 rfl (by decide)) (zs (oblk (i := 3) 1 hO rfl rfl Try.underlying22 rfl rfl) ?_))
  replace et := et.ch Z15
  refine zo (op_lenN Try.underlying22 rfl (et.neq hO 3 rfl)) ?_
  by_cases IY : (d_16.length : Int) = (2000 : Int)
  ·replace H := ifp IY H
   refine zo (fun w => opB (op_eql rfl rfl w) (decide_eq_true IY)) (zo (op_pickT rfl rfl rfl) (za rfl (zn (zt rfl rfl (zq ?_)))))
   refine zr (za rfl (zn ?_))
   replace hO := hO.drop 0
   replace et := et.ch (Owns.dropCh _ _ 0)
   replace cr := cr.ch (Owns.dropCh _ _ 0)
   replace bW := (bW.ch kE.ch).ch (Owns.dropCh _ _ 0)
   have Z16 := Z15.trans (Owns.dropCh _ _ 0)
   replace ag := ag.ch Z16
   replace dA := dA.ch Z16
   replace dm := dm.ch Z16
   replace ah := ah.ch Z16
   replace cy := cy.ch Z16
   replace cq := cq.ch Z16
   replace ap := ap.ch Z16
   replace cM := cM.ch Z16
   replace cN := cN.ch Z16
   replace hB := (((hB.trans sb.fr).trans iC.fr).trans kE.fr).trans (Owns.dropFr _ _ 0)
   dsimp only [eS, eZ] at hB hO cM cN bW ag et dA dm ah cy cr cq ap
   refine Go1.ret1 Try.func51 rfl ?_
   exact ⟨((3 : Int)), (⟨(⟨a0.Enum.Points, a0.Enum.Monoid, a0.Enum.Gens, d_16, d_22, d_28, a0.Enum.Right, d_34, a0.Enum.Done⟩ : Enum), m1_52, d_40, d_46, a0.single⟩ : run), aW, aX, aY, dE, n21, p19, c20, sg, n27, p25, c26, te, n33, p31, c32, tf, a7, bc, bf, dz, n39, p37, c38, tg, n45, p43, c44, th, n51, p49, c50, tj, bN, bO, bP, eG, rfl, hO, ag, et, dA, dm, ah, cy, cr, cq, ap, hB, H⟩
  replace H := ifn IY H
  refine zo (fun w => opB (op_eql rfl rfl w) (decide_eq_false IY)) (zo (op_pickT rfl rfl rfl) (za rfl (zn (zf rfl rfl (zq ?_)))))
  refine zr (zm rfl (zo (op_not rfl) (za rfl (zn (zt rfl rfl ?_)))))
  refine zr (zm rfl (zm rfl (zm rfl (zm rfl (zm rfl ?_)))))
  refine zm rfl (zm rfl (zo (op_nilCheck rfl) (zo (op_fieldAddr Try.underlying72 rfl ti26 rfl (by decide)) (zs (oblk (i := 11) 1 hO rfl rfl Try.underlying26 rfl rfl) (zm rfl ?_)))))
  obtain ⟨K3, H⟩ := H
  obtain ⟨K4, H⟩ := H
  replace cq := cq.ch Z15
  refine zo (op_index Try.underlying26 ti3 rfl rfl K3 (ltn (cq.neq hO 9 rfl) K4) (cq.psome hO 9 rfl K3 K4)) (zs (oldInt 9 hO rfl cq K3 K4 Try.underlying3 rfl rfl) (zm rfl ?_))
  refine GoR.inl (vs := [.pointer (some ⟨fU, 0, none⟩), .int .i64 (ix d_46 a0.Enum.Done), .int .i64 (k1_12 : Int)]) (caps := []) rfl rfl body66 Try.func66 rfl Try.ntmps66 rfl rfl rfl ?_
  intro RhR235 hR235
  refine zq ?_
  refine Go1.cut [(0, .pointer (some ⟨fU, 0, none⟩)), (1, .int .i64 (ix d_46 a0.Enum.Done)), (2, .int .i64 (k1_12 : Int))] ⟨rfl, rfl, rfl, trivial⟩ ?_
  intro σ _
  refine zr (za rfl (zn (zq (zq (zr ?_)))))
  refine zm rfl ?_
  by_cases I0 : (ix d_46 a0.Enum.Done) = (-1 : Int)
  ·replace H := ifp I0 H
   refine zo (fun w => opB (op_eql rfl rfl w) (decide_eq_true I0)) (zn (zt rfl rfl (zq (zr (zm rfl ?_)))))
   refine zo (op_nilCheck rfl) (zo (op_fieldAddr Try.underlying72 rfl ti26 rfl (by decide)) (zs (oblk (i := 12) 1 hO rfl rfl Try.underlying26 rfl rfl) (zm rfl ?_)))
   obtain ⟨K5, H⟩ := H
   obtain ⟨K6, H⟩ := H
   replace ap := ap.ch Z15
   refine zo (op_index Try.underlying26 ti3 rfl rfl K5 (ltn (ap.neq hO 10 rfl) K6) (ap.psome hO 10 rfl K5 K6)) (zs (oldInt 10 hO rfl ap K5 K6 Try.underlying3 rfl rfl) (za rfl (zn ?_)))
   refine Go1.ret1V Try.func66 rfl (show _ = .int .i64 (ix a0.single (k1_12 : Int)) from rfl) ?_
   refine hR235 _ _ ?_
   refine GoR.inl (vs := [.pointer (some ⟨fU, 0, none⟩), .slice xH r66.length xI, .int .i64 a0.Enum.Done, .int .i64 (k1_12 : Int), .string (gstr ((ix d_40 a0.Enum.Done) ++ (chr (IntKind.i32.wrap ((97 : Int) + (k1_12 : Int)))))), .int .i64 (ix a0.single (k1_12 : Int))]) (caps := []) rfl rfl body65 Try.func65 rfl Try.ntmps65 rfl rfl rfl ?_
   intro RhR239 hR239
   refine zq (zr (za rfl (zn (zq (zr ?_)))))
   refine zm rfl (zo (op_nilCheck rfl) (zo (op_fieldAddr Try.underlying72 rfl ti29 rfl (by decide)) (zo (op_fieldAddr Try.underlying29 rfl ti22 rfl (by decide)) (zs (oblk (i := 3) 1 hO rfl rfl Try.underlying22 rfl rfl) (zo (op_lenN Try.underlying22 rfl (et.neq hO 3 rfl)) ?_)))))
   refine za rfl (zn (zq ?_))
   refine Go1.cut [(0, .pointer (some ⟨fU, 0, none⟩)), (1, .slice xH r66.length xI), (2, .int .i64 a0.Enum.Done), (3, .int .i64 (k1_12 : Int)), (4, .string (gstr ((ix d_40 a0.Enum.Done) ++ (chr (IntKind.i32.wrap ((97 : Int) + (k1_12 : Int))))))), (5, .int .i64 (ix a0.single (k1_12 : Int))), (13, .int .i64 (d_16.length : Int))] ⟨rfl, rfl, rfl, rfl, rfl, rfl, rfl, trivial⟩ ?_
   intro σ _
   refine Go1.drawS 1 [(0, .pure), (1, .pure), (2, .pure), (3, .stable), (4, .pure), (6, .pure), (5, .loud), (7, .last)] mixed (by kernel_rfl) ?_
   intro Yd Io
   have tp := Stp.same hO Io
   replace hO := tp.own
   refine GoQ.pure rfl (op_move rfl) rfl rfl ?_
   refine GoQ.pure rfl (op_nilCheck rfl) rfl rfl ?_
   refine GoQ.pure rfl (op_fieldAddr Try.underlying72 rfl ti69 rfl (by decide)) rfl rfl ?_
   refine GoQ.stable rfl (oblk (i := 9) 1 hO rfl rfl Try.underlying69 rfl rfl) rfl rfl ?_
   refine GoQ.pure rfl (op_move rfl) rfl rfl ?_
   refine GoQ.pure rfl (op_move rfl) rfl rfl ?_
   replace bW := (bW.ch kE.ch).ch tp.ch
   refine GoQ.call rfl (op_call body61 rfl (walk_enumerate_text hO.lt bW H)) (fun v w hr => by obtain ⟨_, _, hs, _, _⟩ := hr; assumption) rfl rfl ?_
   rintro ae4 ae5 ⟨r243, rfl, SA, acm, H⟩
   have tq := Stp.same hO SA
   replace hO := tq.own
   have hobt := omapUpd (MK.str Try.underlying9) 11 hO rfl Try.underlying69 r243 (d_16.length : Int)
   obtain ⟨ae6, sv, Oc⟩ := hobt
   dsimp only [sS, sZ] at sv
   refine GoQ.last rfl (Oc (by exact rfl) (by exact rfl) (by exact rfl)) rfl rfl ?_
   replace hO := sv.own
   refine GoQ.nil ?_
   refine zq (zr (zm rfl (zm rfl (zo (op_nilCheck rfl) (zo (op_fieldAddr Try.underlying72 rfl ti29 rfl (by decide)) ?_)))))
   refine zo (op_fieldAddr Try.underlying29 rfl ti22 rfl (by decide)) (zs (oblk (i := 3) 1 hO rfl rfl Try.underlying22 rfl rfl) (zm rfl ?_))
   replace bW := (bW.ch tq.ch).ch sv.ch
   have hobt := obuild (r := Rp.sl (Rp.int .i64)) (n := 1) (parts := [(0, .slice xH r66.length xI)]) (vs := [.slice xH r66.length xI]) (xs := [r66]) rfl Try.underlying22 ti26 hO (by decide) (by kernel_rfl) (Els.cons rfl ⟨xH, xI, rfl, bW⟩ (Els.nil _ _ _) (by simp [mx])) rfl
   obtain ⟨Y6, FG, gw, SB, acK, Od⟩ := hobt
   refine zg (Od rfl) ?_
   replace hO := gw.own
   have hobt := freeze 0 hO rfl SB
   obtain ⟨hO1, wV, g8, SC⟩ := hobt
   dsimp only [eS, eZ] at hO1 wV g8
   replace hB := (((((((hB.trans sb.fr).trans iC.fr).trans kE.fr).trans tp.fr).trans tq.fr).trans sv.fr).trans gw.fr).trans (Owns.dropFr _ _ 0)
   dsimp only [eS, eZ] at hB
   replace hO := hO1; clear hO1
   obtain ⟨Y7, H⟩ := H
   have Z17 := (((tp.ch.trans tq.ch).trans sv.ch).trans gw.ch).trans wV
   replace et := et.ch Z17
   have hobt := oapp Try.underlying22 ti26 rfl 3 hO rfl et g8 SC Y7 (by decide)
   obtain ⟨ae7, FH, FI, SD, sw, ip, Oe⟩ := hobt
   dsimp only [sS, sZ] at sw ip
   refine zg (Oe (by exact rfl) (by exact rfl)) ?_
   replace hO := sw.own
   refine zo (op_nilCheck rfl) (zo (op_fieldAddr Try.underlying72 rfl ti29 rfl (by decide)) (zo (op_fieldAddr Try.underlying29 rfl ti22 rfl (by decide)) ?_))
   have hobt := oblkSt2 (v := .slice FH (n21 + 1) FI) (i := 3) (cs' := #[.int .i64 a0.Enum.Points, .bool a0.Enum.Monoid, .slice aX aW aY, .slice FH (n21 + 1) FI, .slice p25 n27 c26, .slice p31 n33 c32, .slice bc a7 bf, .slice p37 n39 c38, .int .i64 a0.Enum.Done, .map (some bg), .slice p43 n45 c44, .slice p49 n51 c50, .slice bO bN bP]) 1 hO rfl rfl rfl rfl
   obtain ⟨ae8, rD, Og⟩ := hobt
   dsimp only [sS, sZ] at rD
   refine zg (Og Try.underlying22 rfl ti22 (by exact rfl) (by exact rfl)) ?_
   replace hO := rD.own
   refine zn (zq ?_)
   refine Go1.cut [(0, .pointer (some ⟨fU, 0, none⟩)), (2, .int .i64 a0.Enum.Done), (3, .int .i64 (k1_12 : Int)), (4, .string (gstr ((ix d_40 a0.Enum.Done) ++ (chr (IntKind.i32.wrap ((97 : Int) + (k1_12 : Int))))))), (5, .int .i64 (ix a0.single (k1_12 : Int))), (13, .int .i64 (d_16.length : Int))] ⟨rfl, rfl, rfl, rfl, rfl, rfl, trivial⟩ ?_
   intro σ _
   refine zr (zm rfl (zm rfl (zo (op_nilCheck rfl) (zo (op_fieldAddr Try.underlying72 rfl ti29 rfl (by decide)) (zo (op_fieldAddr Try.underlying29 rfl ti26 rfl (by decide)) ?_)))))
   refine zs (oblk (i := 4) 1 hO rfl rfl Try.underlying26 rfl rfl) (zm rfl ?_)
   have hobt := obuild (r := Rp.int .i64) (n := 1) (parts := [(0, .int .i64 a0.Enum.Done)]) (vs := [.int .i64 a0.Enum.Done]) (xs := [a0.Enum.Done]) rfl Try.underlying26 ti3 hO (by decide) (by kernel_rfl) (Els.cons rfl rfl (Els.nil _ _ _) (by simp [mx])) rfl
   obtain ⟨ae9, afa, sx, SE, acL, Oh⟩ := hobt
   refine zg (Oh rfl) ?_
   replace hO := sx.own
   have hobt := freeze 0 hO rfl SE
   obtain ⟨hO1, vL, jW, SF⟩ := hobt
   dsimp only [eS, eZ] at hO1 vL jW
   replace hB := (((hB.trans sw.fr).trans rD.fr).trans sx.fr).trans (Owns.dropFr _ _ 0)
   dsimp only [eS, eZ] at hB
   replace hO := hO1; clear hO1
   obtain ⟨Y8, H⟩ := H
   have Z18 := ((((((((Z15.trans tp.ch).trans tq.ch).trans sv.ch).trans gw.ch).trans wV).trans sw.ch).trans rD.ch).trans sx.ch).trans vL
   replace dA := dA.ch Z18
   have hobt := oapp Try.underlying26 ti3 rfl 4 hO rfl dA jW SF Y8 (by decide)
   obtain ⟨afb, Gw, Gx, ob, rE, kF, Oi⟩ := hobt
   dsimp only [sS, sZ] at rE kF
   refine zg (Oi (by exact rfl) (by exact rfl)) ?_
   replace hO := rE.own
   refine zo (op_nilCheck rfl) (zo (op_fieldAddr Try.underlying72 rfl ti29 rfl (by decide)) (zo (op_fieldAddr Try.underlying29 rfl ti26 rfl (by decide)) ?_))
   have hobt := oblkSt2 (v := .slice Gw (n27 + 1) Gx) (i := 4) (cs' := #[.int .i64 a0.Enum.Points, .bool a0.Enum.Monoid, .slice aX aW aY, .slice FH (n21 + 1) FI, .slice Gw (n27 + 1) Gx, .slice p31 n33 c32, .slice bc a7 bf, .slice p37 n39 c38, .int .i64 a0.Enum.Done, .map (some bg), .slice p43 n45 c44, .slice p49 n51 c50, .slice bO bN bP]) 1 hO rfl rfl rfl rfl
   obtain ⟨Y9, qL, Oj⟩ := hobt
   dsimp only [sS, sZ] at qL
   refine zg (Oj Try.underlying26 rfl ti26 (by exact rfl) (by exact rfl)) ?_
   replace hO := qL.own
   refine zn (zq (zr (zm rfl (zm rfl (zo (op_nilCheck rfl) ?_)))))
   refine zo (op_fieldAddr Try.underlying72 rfl ti29 rfl (by decide)) (zo (op_fieldAddr Try.underlying29 rfl ti26 rfl (by decide)) (zs (oblk (i := 5) 1 hO rfl rfl Try.underlying26 rfl rfl) (zm rfl ?_)))
   have hobt := obuild (r := Rp.int .i64) (n := 1) (parts := [(0, .int .i64 (k1_12 : Int))]) (vs := [.int .i64 (k1_12 : Int)]) (xs := [(k1_12 : Int)]) rfl Try.underlying26 ti3 hO (by decide) (by kernel_rfl) (Els.cons rfl rfl (Els.nil _ _ _) (by simp [mx])) rfl
   obtain ⟨aaa, afc, rF, SG, acM, Ok⟩ := hobt
   refine zg (Ok rfl) ?_
   replace hO := rF.own
   have hobt := freeze 0 hO rfl SG
   obtain ⟨hO1, uC, oV, SJ⟩ := hobt
   dsimp only [eS, eZ] at hO1 uC oV
   replace hB := (((hB.trans rE.fr).trans qL.fr).trans rF.fr).trans (Owns.dropFr _ _ 0)
   dsimp only [eS, eZ] at hB
   replace hO := hO1; clear hO1
   obtain ⟨aab, H⟩ := H
   have Z19 := (((Z18.trans rE.ch).trans qL.ch).trans rF.ch).trans uC
   replace dm := dm.ch Z19
   have hobt := oapp Try.underlying26 ti3 rfl 5 hO rfl dm oV SJ aab (by decide)
   obtain ⟨aac, iR, iT, SK, gf, qy, Ol⟩ := hobt
   dsimp only [sS, sZ] at gf qy
   refine zg (Ol (by exact rfl) (by exact rfl)) ?_
   replace hO := gf.own
   refine zo (op_nilCheck rfl) (zo (op_fieldAddr Try.underlying72 rfl ti29 rfl (by decide)) (zo (op_fieldAddr Try.underlying29 rfl ti26 rfl (by decide)) ?_))
   have hobt := oblkSt2 (v := .slice iR (n33 + 1) iT) (i := 5) (cs' := #[.int .i64 a0.Enum.Points, .bool a0.Enum.Monoid, .slice aX aW aY, .slice FH (n21 + 1) FI, .slice Gw (n27 + 1) Gx, .slice iR (n33 + 1) iT, .slice bc a7 bf, .slice p37 n39 c38, .int .i64 a0.Enum.Done, .map (some bg), .slice p43 n45 c44, .slice p49 n51 c50, .slice bO bN bP]) 1 hO rfl rfl rfl rfl
   obtain ⟨afd, pM, Om⟩ := hobt
   dsimp only [sS, sZ] at pM
   refine zg (Om Try.underlying26 rfl ti26 (by exact rfl) (by exact rfl)) ?_
   replace hO := pM.own
   refine zn (zq ?_)
   refine Go1.cut [(0, .pointer (some ⟨fU, 0, none⟩)), (4, .string (gstr ((ix d_40 a0.Enum.Done) ++ (chr (IntKind.i32.wrap ((97 : Int) + (k1_12 : Int))))))), (5, .int .i64 (ix a0.single (k1_12 : Int))), (13, .int .i64 (d_16.length : Int))] ⟨rfl, rfl, rfl, rfl, trivial⟩ ?_
   intro σ _
   refine zr (zm rfl (zm rfl (zo (op_nilCheck rfl) (zo (op_fieldAddr Try.underlying72 rfl ti70 rfl (by decide)) (zs (oblk (i := 10) 1 hO rfl rfl Try.underlying70 rfl rfl) ?_)))))
   refine zm rfl ?_
   have hobt := obuild (r := Rp.str) (n := 1) (parts := [(0, .string (gstr ((ix d_40 a0.Enum.Done) ++ (chr (IntKind.i32.wrap ((97 : Int) + (k1_12 : Int)))))))]) (vs := [.string (gstr ((ix d_40 a0.Enum.Done) ++ (chr (IntKind.i32.wrap ((97 : Int) + (k1_12 : Int))))))]) (xs := [(ix d_40 a0.Enum.Done) ++ (chr (IntKind.i32.wrap ((97 : Int) + (k1_12 : Int))))]) rfl Try.underlying70 ti9 hO (by decide) (by kernel_rfl) (Els.cons rfl ⟨rfl, (lenApp K2)⟩ (Els.nil _ _ _) (by simp [mx])) rfl
   obtain ⟨afe, aff, qM, SM, acN, On⟩ := hobt
   refine zg (On rfl) ?_
   replace hO := qM.own
   have hobt := freeze 0 hO rfl SM
   obtain ⟨hO1, t4, cw, SN⟩ := hobt
   dsimp only [eS, eZ] at hO1 t4 cw
   replace hB := (((hB.trans gf.fr).trans pM.fr).trans qM.fr).trans (Owns.dropFr _ _ 0)
   dsimp only [eS, eZ] at hB
   replace hO := hO1; clear hO1
   obtain ⟨aad, H⟩ := H
   have Z20 := (((((((((((Z17.trans sw.ch).trans rD.ch).trans sx.ch).trans vL).trans rE.ch).trans qL.ch).trans rF.ch).trans uC).trans gf.ch).trans pM.ch).trans qM.ch).trans t4
   replace cr := cr.ch Z20
   have hobt := oapp Try.underlying70 ti9 rfl 8 hO rfl cr cw SN aad (by decide)
   obtain ⟨afg, I1, I2, SO, pN, wW, Oo⟩ := hobt
   dsimp only [sS, sZ] at pN wW
   refine zg (Oo (by exact rfl) (by exact rfl)) ?_
   replace hO := pN.own
   refine zo (op_nilCheck rfl) (zo (op_fieldAddr Try.underlying72 rfl ti70 rfl (by decide)) ?_)
   have hobt := oblkSt2 (v := .slice I1 (n45 + 1) I2) (i := 10) (cs' := #[.int .i64 a0.Enum.Points, .bool a0.Enum.Monoid, .slice aX aW aY, .slice FH (n21 + 1) FI, .slice Gw (n27 + 1) Gx, .slice iR (n33 + 1) iT, .slice bc a7 bf, .slice p37 n39 c38, .int .i64 a0.Enum.Done, .map (some bg), .slice I1 (n45 + 1) I2, .slice p49 n51 c50, .slice bO bN bP]) 1 hO rfl rfl rfl rfl
   obtain ⟨aae, fY, Oq⟩ := hobt
   dsimp only [sS, sZ] at fY
   refine zg (Oq Try.underlying70 rfl ti70 (by exact rfl) (by exact rfl)) ?_
   replace hO := fY.own
   refine zn (zq (zr (zm rfl (zm rfl (zo (op_nilCheck rfl) ?_)))))
   refine zo (op_fieldAddr Try.underlying72 rfl ti26 rfl (by decide)) (zs (oblk (i := 11) 1 hO rfl rfl Try.underlying26 rfl rfl) (zm rfl ?_))
   have hobt := obuild (r := Rp.int .i64) (n := 1) (parts := [(0, .int .i64 (ix a0.single (k1_12 : Int)))]) (vs := [.int .i64 (ix a0.single (k1_12 : Int))]) (xs := [(ix a0.single (k1_12 : Int))]) rfl Try.underlying26 ti3 hO (by decide) (by kernel_rfl) (Els.cons rfl rfl (Els.nil _ _ _) (by simp [mx])) rfl
   obtain ⟨aaf, FJ, ka, xJ, I3, HN⟩ := hobt
   refine zg (HN rfl) ?_
   replace hO := ka.own
   have hobt := freeze 0 hO rfl xJ
   obtain ⟨hO1, tL, BX, SP⟩ := hobt
   dsimp only [eS, eZ] at hO1 tL BX
   replace hB := (((hB.trans pN.fr).trans fY.fr).trans ka.fr).trans (Owns.dropFr _ _ 0)
   dsimp only [eS, eZ] at hB
   replace hO := hO1; clear hO1
   obtain ⟨Gy, H⟩ := H
   have Z21 := (((Z20.trans pN.ch).trans fY.ch).trans ka.ch).trans tL
   replace cq := cq.ch Z21
   have hobt := oapp Try.underlying26 ti3 rfl 9 hO rfl cq BX SP Gy (by decide)
   obtain ⟨aag, K7, K8, SQ, iL, E7, Os⟩ := hobt
   dsimp only [sS, sZ] at iL E7
   refine zg (Os (by exact rfl) (by exact rfl)) ?_
   replace hO := iL.own
   refine zo (op_nilCheck rfl) (zo (op_fieldAddr Try.underlying72 rfl ti26 rfl (by decide)) ?_)
   have hobt := oblkSt2 (v := .slice K7 (n51 + 1) K8) (i := 11) (cs' := #[.int .i64 a0.Enum.Points, .bool a0.Enum.Monoid, .slice aX aW aY, .slice FH (n21 + 1) FI, .slice Gw (n27 + 1) Gx, .slice iR (n33 + 1) iT, .slice bc a7 bf, .slice p37 n39 c38, .int .i64 a0.Enum.Done, .map (some bg), .slice I1 (n45 + 1) I2, .slice K7 (n51 + 1) K8, .slice bO bN bP]) 1 hO rfl rfl rfl rfl
   obtain ⟨afh, mF, Ot⟩ := hobt
   dsimp only [sS, sZ] at mF
   refine zg (Ot Try.underlying26 rfl ti26 (by exact rfl) (by exact rfl)) ?_
   replace hO := mF.own
   refine zn (zq ?_)
   refine Go1.cut [(13, .int .i64 (d_16.length : Int))] ⟨rfl, trivial⟩ ?_
   intro σ _
   refine zr (zm rfl (za rfl (zn ?_)))
   refine Go1.ret1V Try.func65 rfl (show _ = .int .i64 (d_16.length : Int) from rfl) ?_
   refine hR239 _ _ ?_
   refine za rfl (zn ?_)
   refine Go1.inBlock ?_
   refine zr (zm rfl (zm rfl (zm rfl ?_)))
   obtain ⟨K9, H⟩ := H
   obtain ⟨La, H⟩ := H
   have Z22 := (((((((((Z19.trans gf.ch).trans pM.ch).trans qM.ch).trans t4).trans pN.ch).trans fY.ch).trans ka.ch).trans tL).trans iL.ch).trans mF.ch
   replace ca := ca.ch Z22
   refine zo (op_index Try.underlying26 ti3 rfl rfl K9 (ltn (ca.neq hO 0 rfl) La) (ca.psome hO 0 rfl K9 La)) ?_
   have hobt := ost (r := Rp.int .i64) rfl 0 hO rfl ca K9 La (v := .int .i64 (d_16.length : Int)) (u := (d_16.length : Int)) rfl rfl
   obtain ⟨aah, SR, fR, Mh, Ou⟩ := hobt
   dsimp only [sS, sZ] at fR Mh
   refine zg (Ou Try.underlying3 rfl ti3 (by exact rfl) (by exact rfl)) ?_
   replace hO := fR.own
   refine zn ?_
   refine Go1.inBlock ?_
   refine zr ?_
   replace ag := (ag.ch Z22).ch fR.ch
   refine zo (op_add rfl rfl (wrap_i64 (natbd h53 ag.bd))) (zm rfl (zn ?_))
   replace E7 := (E7.ch mF.ch).ch fR.ch
   replace hB := ((hB.trans iL.fr).trans mF.fr).trans fR.fr
   have Z23 := ((((fY.ch.trans ka.ch).trans tL).trans iL.ch).trans mF.ch).trans fR.ch
   replace wW := wW.ch Z23
   have Z24 := ((((((((pM.ch.trans qM.ch).trans t4).trans pN.ch).trans fY.ch).trans ka.ch).trans tL).trans iL.ch).trans mF.ch).trans fR.ch
   replace qy := qy.ch Z24
   have Z25 := ((((((((((((qL.ch.trans rF.ch).trans uC).trans gf.ch).trans pM.ch).trans qM.ch).trans t4).trans pN.ch).trans fY.ch).trans ka.ch).trans tL).trans iL.ch).trans mF.ch).trans fR.ch
   replace kF := kF.ch Z25
   have Z26 := ((((((((((((((((rD.ch.trans sx.ch).trans vL).trans rE.ch).trans qL.ch).trans rF.ch).trans uC).trans gf.ch).trans pM.ch).trans qM.ch).trans t4).trans pN.ch).trans fY.ch).trans ka.ch).trans tL).trans iL.ch).trans mF.ch).trans fR.ch
   replace ip := ip.ch Z26
   have Z27 := ((Z21.trans iL.ch).trans mF.ch).trans fR.ch
   replace ap := ap.ch Z27
   have Z28 := Z22.trans fR.ch
   replace ah := ah.ch Z28
   replace cy := cy.ch Z28
   exact hX1 _ H _ _ ⟨SR, n21 + 1, FH, FI, SD, n27 + 1, Gw, Gx, ob, n33 + 1, iR, iT, SK, n39, p37, c38, tg, n45 + 1, I1, I2, SO, n51 + 1, K7, K8, SQ, ⟨rfl, rfl, rfl, rfl, rfl, rfl, trivial⟩, hO, Mh, ag, ip, kF, qy, ah, cy, wW, E7, ap, hB⟩
  replace H := ifn I0 H
  refine zo (fun w => opB (op_eql rfl rfl w) (decide_eq_false I0)) (zn (zf rfl rfl (zk (zq (zr ?_)))))
  refine zm rfl (zo (op_nilCheck rfl) (zo (op_fieldAddr Try.underlying72 rfl ti29 rfl (by decide)) (zo (op_fieldAddr Try.underlying29 rfl ti22 rfl (by decide)) (zs (oblk (i := 6) 1 hO rfl rfl Try.underlying22 rfl rfl) (zm rfl ?_)))))
  obtain ⟨Lb, H⟩ := H
  obtain ⟨Lc, H⟩ := H
  replace ah := ah.ch Z15
  refine zo (op_index Try.underlying22 ti26 rfl rfl Lb (ltn (ah.neq hO 6 rfl) Lc) (ah.psome hO 6 rfl Lb Lc)) ?_
  have hobt := oldSl 6 hO rfl ah Lb Lc
  obtain ⟨iU, iV, f7, SS⟩ := hobt
  refine zs (SS Try.underlying26 rfl rfl) (zm rfl ?_)
  obtain ⟨Ld, H⟩ := H
  obtain ⟨Le, H⟩ := H
  refine zo (op_index Try.underlying26 ti3 rfl rfl Ld Le (f7.some_ Ld Le)) (zs (ldInt f7 Ld Le Try.underlying3 rfl rfl) (za rfl (zn ?_)))
  refine Go1.ret1V Try.func66 rfl (show _ = .int .i64 (ix (ix a0.Enum.Right (ix d_46 a0.Enum.Done)) (k1_12 : Int)) from rfl) ?_
  refine hR235 _ _ ?_
  refine GoR.inl (vs := [.pointer (some ⟨fU, 0, none⟩), .slice xH r66.length xI, .int .i64 a0.Enum.Done, .int .i64 (k1_12 : Int), .string (gstr ((ix d_40 a0.Enum.Done) ++ (chr (IntKind.i32.wrap ((97 : Int) + (k1_12 : Int)))))), .int .i64 (ix (ix a0.Enum.Right (ix d_46 a0.Enum.Done)) (k1_12 : Int))]) (caps := []) rfl rfl body65 Try.func65 rfl Try.ntmps65 rfl rfl rfl ?_
  intro RhR377 hR377
  refine zq ?_
  refine Go1.cut [(0, .pointer (some ⟨fU, 0, none⟩)), (1, .slice xH r66.length xI), (2, .int .i64 a0.Enum.Done), (3, .int .i64 (k1_12 : Int)), (4, .string (gstr ((ix d_40 a0.Enum.Done) ++ (chr (IntKind.i32.wrap ((97 : Int) + (k1_12 : Int))))))), (5, .int .i64 (ix (ix a0.Enum.Right (ix d_46 a0.Enum.Done)) (k1_12 : Int)))] ⟨rfl, rfl, rfl, rfl, rfl, rfl, trivial⟩ ?_
  intro σ _
  refine zr (za rfl (zn (zq (zr (zm rfl ?_)))))
  refine zo (op_nilCheck rfl) (zo (op_fieldAddr Try.underlying72 rfl ti29 rfl (by decide)) (zo (op_fieldAddr Try.underlying29 rfl ti22 rfl (by decide)) (zs (oblk (i := 3) 1 hO rfl rfl Try.underlying22 rfl rfl) (zo (op_lenN Try.underlying22 rfl (et.neq hO 3 rfl)) (za rfl ?_)))))
  refine zn (zq ?_)
  refine Go1.drawS 1 [(0, .pure), (1, .pure), (2, .pure), (3, .stable), (4, .pure), (6, .pure), (5, .loud), (7, .last)] mixed (by kernel_rfl) ?_
  intro aai ST
  have sy := Stp.same hO ST
  replace hO := sy.own
  refine GoQ.pure rfl (op_move rfl) rfl rfl ?_
  refine GoQ.pure rfl (op_nilCheck rfl) rfl rfl ?_
  refine GoQ.pure rfl (op_fieldAddr Try.underlying72 rfl ti69 rfl (by decide)) rfl rfl ?_
  refine GoQ.stable rfl (oblk (i := 9) 1 hO rfl rfl Try.underlying69 rfl rfl) rfl rfl ?_
  refine GoQ.pure rfl (op_move rfl) rfl rfl ?_
  refine GoQ.pure rfl (op_move rfl) rfl rfl ?_
  replace bW := (bW.ch kE.ch).ch sy.ch
  refine GoQ.call rfl (op_call body61 rfl (walk_enumerate_text hO.lt bW H)) (fun v w hr => by obtain ⟨_, _, hs, _, _⟩ := hr; assumption) rfl rfl ?_
  rintro afi afj ⟨r381, rfl, SU, acn, H⟩
  have i5 := Stp.same hO SU
  replace hO := i5.own
  have hobt := omapUpd (MK.str Try.underlying9) 11 hO rfl Try.underlying69 r381 (d_16.length : Int)
  obtain ⟨I4, iJ, Ov⟩ := hobt
  dsimp only [sS, sZ] at iJ
  refine GoQ.last rfl (Ov (by exact rfl) (by exact rfl) (by exact rfl)) rfl rfl ?_
  replace hO := iJ.own
  refine GoQ.nil ?_
  refine zq (zr (zm rfl (zm rfl (zo (op_nilCheck rfl) (zo (op_fieldAddr Try.underlying72 rfl ti29 rfl (by decide)) ?_)))))
  refine zo (op_fieldAddr Try.underlying29 rfl ti22 rfl (by decide)) (zs (oblk (i := 3) 1 hO rfl rfl Try.underlying22 rfl rfl) (zm rfl ?_))
  replace bW := (bW.ch i5.ch).ch iJ.ch
  have hobt := obuild (r := Rp.sl (Rp.int .i64)) (n := 1) (parts := [(0, .slice xH r66.length xI)]) (vs := [.slice xH r66.length xI]) (xs := [r66]) rfl Try.underlying22 ti26 hO (by decide) (by kernel_rfl) (Els.cons rfl ⟨xH, xI, rfl, bW⟩ (Els.nil _ _ _) (by simp [mx])) rfl
  obtain ⟨afk, afl, i6, SV, acO, HO⟩ := hobt
  refine zg (HO rfl) ?_
  replace hO := i6.own
  have hobt := freeze 0 hO rfl SV
  obtain ⟨hO1, vM, cB, SW⟩ := hobt
  dsimp only [eS, eZ] at hO1 vM cB
  replace hB := (((((((hB.trans sb.fr).trans iC.fr).trans kE.fr).trans sy.fr).trans i5.fr).trans iJ.fr).trans i6.fr).trans (Owns.dropFr _ _ 0)
  dsimp only [eS, eZ] at hB
  replace hO := hO1; clear hO1
  obtain ⟨aaj, H⟩ := H
  have Z29 := (((sy.ch.trans i5.ch).trans iJ.ch).trans i6.ch).trans vM
  replace et := et.ch Z29
  have hobt := oapp Try.underlying22 ti26 rfl 3 hO rfl et cB SW aaj (by decide)
  obtain ⟨afm, FK, FL, SX, rG, iq, Ow⟩ := hobt
  dsimp only [sS, sZ] at rG iq
  refine zg (Ow (by exact rfl) (by exact rfl)) ?_
  replace hO := rG.own
  refine zo (op_nilCheck rfl) (zo (op_fieldAddr Try.underlying72 rfl ti29 rfl (by decide)) (zo (op_fieldAddr Try.underlying29 rfl ti22 rfl (by decide)) ?_))
  have hobt := oblkSt2 (v := .slice FK (n21 + 1) FL) (i := 3) (cs' := #[.int .i64 a0.Enum.Points, .bool a0.Enum.Monoid, .slice aX aW aY, .slice FK (n21 + 1) FL, .slice p25 n27 c26, .slice p31 n33 c32, .slice bc a7 bf, .slice p37 n39 c38, .int .i64 a0.Enum.Done, .map (some bg), .slice p43 n45 c44, .slice p49 n51 c50, .slice bO bN bP]) 1 hO rfl rfl rfl rfl
  obtain ⟨aak, gh, HP⟩ := hobt
  dsimp only [sS, sZ] at gh
  refine zg (HP Try.underlying22 rfl ti22 (by exact rfl) (by exact rfl)) ?_
  replace hO := gh.own
  refine zn (zq ?_)
  refine Go1.cut [(0, .pointer (some ⟨fU, 0, none⟩)), (2, .int .i64 a0.Enum.Done), (3, .int .i64 (k1_12 : Int)), (4, .string (gstr ((ix d_40 a0.Enum.Done) ++ (chr (IntKind.i32.wrap ((97 : Int) + (k1_12 : Int))))))), (5, .int .i64 (ix (ix a0.Enum.Right (ix d_46 a0.Enum.Done)) (k1_12 : Int))), (13, .int .i64 (d_16.length : Int))] ⟨rfl, rfl, rfl, rfl, rfl, rfl, trivial⟩ ?_
  intro σ _
  refine zr (zm rfl (zm rfl (zo (op_nilCheck rfl) (zo (op_fieldAddr Try.underlying72 rfl ti29 rfl (by decide)) (zo (op_fieldAddr Try.underlying29 rfl ti26 rfl (by decide)) ?_)))))
  refine zs (oblk (i := 4) 1 hO rfl rfl Try.underlying26 rfl rfl) (zm rfl ?_)
  have hobt := obuild (r := Rp.int .i64) (n := 1) (parts := [(0, .int .i64 a0.Enum.Done)]) (vs := [.int .i64 a0.Enum.Done]) (xs := [a0.Enum.Done]) rfl Try.underlying26 ti3 hO (by decide) (by kernel_rfl) (Els.cons rfl rfl (Els.nil _ _ _) (by simp [mx])) rfl
  obtain ⟨afn, afo, lv, SY, acP, Ox⟩ := hobt
  refine zg (Ox rfl) ?_
  replace hO := lv.own
  have hobt := freeze 0 hO rfl SY
  obtain ⟨hO1, uD, jX, G4⟩ := hobt
  dsimp only [eS, eZ] at hO1 uD jX
  replace hB := (((hB.trans rG.fr).trans gh.fr).trans lv.fr).trans (Owns.dropFr _ _ 0)
  dsimp only [eS, eZ] at hB
  replace hO := hO1; clear hO1
  obtain ⟨aal, H⟩ := H
  have Z30 := ((((((((Z15.trans sy.ch).trans i5.ch).trans iJ.ch).trans i6.ch).trans vM).trans rG.ch).trans gh.ch).trans lv.ch).trans uD
  replace dA := dA.ch Z30
  have hobt := oapp Try.underlying26 ti3 rfl 4 hO rfl dA jX G4 aal (by decide)
  obtain ⟨afp, Gz, GA, S0, kw, jU, Oy⟩ := hobt
  dsimp only [sS, sZ] at kw jU
  refine zg (Oy (by exact rfl) (by exact rfl)) ?_
  replace hO := kw.own
  refine zo (op_nilCheck rfl) (zo (op_fieldAddr Try.underlying72 rfl ti29 rfl (by decide)) (zo (op_fieldAddr Try.underlying29 rfl ti26 rfl (by decide)) ?_))
  have hobt := oblkSt2 (v := .slice Gz (n27 + 1) GA) (i := 4) (cs' := #[.int .i64 a0.Enum.Points, .bool a0.Enum.Monoid, .slice aX aW aY, .slice FK (n21 + 1) FL, .slice Gz (n27 + 1) GA, .slice p31 n33 c32, .slice bc a7 bf, .slice p37 n39 c38, .int .i64 a0.Enum.Done, .map (some bg), .slice p43 n45 c44, .slice p49 n51 c50, .slice bO bN bP]) 1 hO rfl rfl rfl rfl
  obtain ⟨afq, pO, Oz⟩ := hobt
  dsimp only [sS, sZ] at pO
  refine zg (Oz Try.underlying26 rfl ti26 (by exact rfl) (by exact rfl)) ?_
  replace hO := pO.own
  refine zn (zq (zr (zm rfl (zm rfl (zo (op_nilCheck rfl) ?_)))))
  refine zo (op_fieldAddr Try.underlying72 rfl ti29 rfl (by decide)) (zo (op_fieldAddr Try.underlying29 rfl ti26 rfl (by decide)) (zs (oblk (i := 5) 1 hO rfl rfl Try.underlying26 rfl rfl) (zm rfl ?_)))
  have hobt := obuild (r := Rp.int .i64) (n := 1) (parts := [(0, .int .i64 (k1_12 : Int))]) (vs := [.int .i64 (k1_12 : Int)]) (xs := [(k1_12 : Int)]) rfl Try.underlying26 ti3 hO (by decide) (by kernel_rfl) (Els.cons rfl rfl (Els.nil _ _ _) (by simp [mx])) rfl
  obtain ⟨aam, afr, gi, jp, acQ, OA⟩ := hobt
  refine zg (OA rfl) ?_
  replace hO := gi.own
  have hobt := freeze 0 hO rfl jp
  obtain ⟨hO1, t5, oW, S1⟩ := hobt
  dsimp only [eS, eZ] at hO1 t5 oW
  replace hB := (((hB.trans kw.fr).trans pO.fr).trans gi.fr).trans (Owns.dropFr _ _ 0)
  dsimp only [eS, eZ] at hB
  replace hO := hO1; clear hO1
  obtain ⟨Lf, H⟩ := H
  have Z31 := (((Z30.trans kw.ch).trans pO.ch).trans gi.ch).trans t5
  replace dm := dm.ch Z31
  have hobt := oapp Try.underlying26 ti3 rfl 5 hO rfl dm oW S1 Lf (by decide)
  obtain ⟨aan, Ex, Ey, G5, fM, jY, Ez⟩ := hobt
  dsimp only [sS, sZ] at fM jY
  refine zg (Ez (by exact rfl) (by exact rfl)) ?_
  replace hO := fM.own
  refine zo (op_nilCheck rfl) (zo (op_fieldAddr Try.underlying72 rfl ti29 rfl (by decide)) (zo (op_fieldAddr Try.underlying29 rfl ti26 rfl (by decide)) ?_))
  have hobt := oblkSt2 (v := .slice Ex (n33 + 1) Ey) (i := 5) (cs' := #[.int .i64 a0.Enum.Points, .bool a0.Enum.Monoid, .slice aX aW aY, .slice FK (n21 + 1) FL, .slice Gz (n27 + 1) GA, .slice Ex (n33 + 1) Ey, .slice bc a7 bf, .slice p37 n39 c38, .int .i64 a0.Enum.Done, .map (some bg), .slice p43 n45 c44, .slice p49 n51 c50, .slice bO bN bP]) 1 hO rfl rfl rfl rfl
  obtain ⟨afs, iM, OB⟩ := hobt
  dsimp only [sS, sZ] at iM
  refine zg (OB Try.underlying26 rfl ti26 (by exact rfl) (by exact rfl)) ?_
  replace hO := iM.own
  refine zn (zq ?_)
  refine Go1.cut [(0, .pointer (some ⟨fU, 0, none⟩)), (4, .string (gstr ((ix d_40 a0.Enum.Done) ++ (chr (IntKind.i32.wrap ((97 : Int) + (k1_12 : Int))))))), (5, .int .i64 (ix (ix a0.Enum.Right (ix d_46 a0.Enum.Done)) (k1_12 : Int))), (13, .int .i64 (d_16.length : Int))] ⟨rfl, rfl, rfl, rfl, trivial⟩ ?_
  intro σ _
  refine zr (zm rfl (zm rfl (zo (op_nilCheck rfl) (zo (op_fieldAddr Try.underlying72 rfl ti70 rfl (by decide)) (zs (oblk (i := 10) 1 hO rfl rfl Try.underlying70 rfl rfl) ?_)))))
  refine zm rfl ?_
  have hobt := obuild (r := Rp.str) (n := 1) (parts := [(0, .string (gstr ((ix d_40 a0.Enum.Done) ++ (chr (IntKind.i32.wrap ((97 : Int) + (k1_12 : Int)))))))]) (vs := [.string (gstr ((ix d_40 a0.Enum.Done) ++ (chr (IntKind.i32.wrap ((97 : Int) + (k1_12 : Int))))))]) (xs := [(ix d_40 a0.Enum.Done) ++ (chr (IntKind.i32.wrap ((97 : Int) + (k1_12 : Int))))]) rfl Try.underlying70 ti9 hO (by decide) (by kernel_rfl) (Els.cons rfl ⟨rfl, (lenApp K2)⟩ (Els.nil _ _ _) (by simp [mx])) rfl
  obtain ⟨afu, afv, pP, S2, acR, HB⟩ := hobt
  refine zg (HB rfl) ?_
  replace hO := pP.own
  have hobt := freeze 0 hO rfl S2
  obtain ⟨hO1, tM, uE, S3⟩ := hobt
  dsimp only [eS, eZ] at hO1 tM uE
  replace hB := (((hB.trans fM.fr).trans iM.fr).trans pP.fr).trans (Owns.dropFr _ _ 0)
  dsimp only [eS, eZ] at hB
  replace hO := hO1; clear hO1
  obtain ⟨aao, H⟩ := H
  have Z32 := (((((((((((Z29.trans rG.ch).trans gh.ch).trans lv.ch).trans uD).trans kw.ch).trans pO.ch).trans gi.ch).trans t5).trans fM.ch).trans iM.ch).trans pP.ch).trans tM
  replace cr := cr.ch Z32
  have hobt := oapp Try.underlying70 ti9 rfl 8 hO rfl cr uE S3 aao (by decide)
  obtain ⟨Lg, I5, I6, S4, oS, wX, OC⟩ := hobt
  dsimp only [sS, sZ] at oS wX
  refine zg (OC (by exact rfl) (by exact rfl)) ?_
  replace hO := oS.own
  refine zo (op_nilCheck rfl) (zo (op_fieldAddr Try.underlying72 rfl ti70 rfl (by decide)) ?_)
  have hobt := oblkSt2 (v := .slice I5 (n45 + 1) I6) (i := 10) (cs' := #[.int .i64 a0.Enum.Points, .bool a0.Enum.Monoid, .slice aX aW aY, .slice FK (n21 + 1) FL, .slice Gz (n27 + 1) GA, .slice Ex (n33 + 1) Ey, .slice bc a7 bf, .slice p37 n39 c38, .int .i64 a0.Enum.Done, .map (some bg), .slice I5 (n45 + 1) I6, .slice p49 n51 c50, .slice bO bN bP]) 1 hO rfl rfl rfl rfl
  obtain ⟨afw, fv, OD⟩ := hobt
  dsimp only [sS, sZ] at fv
  refine zg (OD Try.underlying70 rfl ti70 (by exact rfl) (by exact rfl)) ?_
  replace hO := fv.own
  refine zn (zq (zr (zm rfl (zm rfl (zo (op_nilCheck rfl) ?_)))))
  refine zo (op_fieldAddr Try.underlying72 rfl ti26 rfl (by decide)) (zs (oblk (i := 11) 1 hO rfl rfl Try.underlying26 rfl rfl) (zm rfl ?_))
  have hobt := obuild (r := Rp.int .i64) (n := 1) (parts := [(0, .int .i64 (ix (ix a0.Enum.Right (ix d_46 a0.Enum.Done)) (k1_12 : Int)))]) (vs := [.int .i64 (ix (ix a0.Enum.Right (ix d_46 a0.Enum.Done)) (k1_12 : Int))]) (xs := [(ix (ix a0.Enum.Right (ix d_46 a0.Enum.Done)) (k1_12 : Int))]) rfl Try.underlying26 ti3 hO (by decide) (by kernel_rfl) (Els.cons rfl rfl (Els.nil _ _ _) (by simp [mx])) rfl
  obtain ⟨aap, afx, oT, S5, acS, HQ⟩ := hobt
  refine zg (HQ rfl) ?_
  replace hO := oT.own
  have hobt := freeze 0 hO rfl S5
  obtain ⟨hO1, sL, BY, S6⟩ := hobt
  dsimp only [eS, eZ] at hO1 sL BY
  replace hB := (((hB.trans oS.fr).trans fv.fr).trans oT.fr).trans (Owns.dropFr _ _ 0)
  dsimp only [eS, eZ] at hB
  replace hO := hO1; clear hO1
  obtain ⟨aaq, H⟩ := H
  have Z33 := (((Z32.trans oS.ch).trans fv.ch).trans oT.ch).trans sL
  replace cq := cq.ch Z33
  have hobt := oapp Try.underlying26 ti3 rfl 9 hO rfl cq BY S6 aaq (by decide)
  obtain ⟨afy, Lh, Li, S7, ia, BR, OE⟩ := hobt
  dsimp only [sS, sZ] at ia BR
  refine zg (OE (by exact rfl) (by exact rfl)) ?_
  replace hO := ia.own
  refine zo (op_nilCheck rfl) (zo (op_fieldAddr Try.underlying72 rfl ti26 rfl (by decide)) ?_)
  have hobt := oblkSt2 (v := .slice Lh (n51 + 1) Li) (i := 11) (cs' := #[.int .i64 a0.Enum.Points, .bool a0.Enum.Monoid, .slice aX aW aY, .slice FK (n21 + 1) FL, .slice Gz (n27 + 1) GA, .slice Ex (n33 + 1) Ey, .slice bc a7 bf, .slice p37 n39 c38, .int .i64 a0.Enum.Done, .map (some bg), .slice I5 (n45 + 1) I6, .slice Lh (n51 + 1) Li, .slice bO bN bP]) 1 hO rfl rfl rfl rfl
  obtain ⟨aar, l5, OF⟩ := hobt
  dsimp only [sS, sZ] at l5
  refine zg (OF Try.underlying26 rfl ti26 (by exact rfl) (by exact rfl)) ?_
  replace hO := l5.own
  refine zn (zq ?_)
  refine Go1.cut [(13, .int .i64 (d_16.length : Int))] ⟨rfl, trivial⟩ ?_
  intro σ _
  refine zr (zm rfl (za rfl (zn ?_)))
  refine Go1.ret1V Try.func65 rfl (show _ = .int .i64 (d_16.length : Int) from rfl) ?_
  refine hR377 _ _ ?_
  refine za rfl (zn ?_)
  refine Go1.inBlock ?_
  refine zr (zm rfl (zm rfl (zm rfl ?_)))
  obtain ⟨Lj, H⟩ := H
  obtain ⟨Lk, H⟩ := H
  have Z34 := (((((((((Z31.trans fM.ch).trans iM.ch).trans pP.ch).trans tM).trans oS.ch).trans fv.ch).trans oT.ch).trans sL).trans ia.ch).trans l5.ch
  replace ca := ca.ch Z34
  refine zo (op_index Try.underlying26 ti3 rfl rfl Lj (ltn (ca.neq hO 0 rfl) Lk) (ca.psome hO 0 rfl Lj Lk)) ?_
  have hobt := ost (r := Rp.int .i64) rfl 0 hO rfl ca Lj Lk (v := .int .i64 (d_16.length : Int)) (u := (d_16.length : Int)) rfl rfl
  obtain ⟨afz, S8, mG, Mi, OG⟩ := hobt
  dsimp only [sS, sZ] at mG Mi
  refine zg (OG Try.underlying3 rfl ti3 (by exact rfl) (by exact rfl)) ?_
  replace hO := mG.own
  refine zn ?_
  refine Go1.inBlock ?_
  refine zr ?_
  replace ag := (ag.ch Z34).ch mG.ch
  refine zo (op_add rfl rfl (wrap_i64 (natbd h53 ag.bd))) (zm rfl (zn ?_))
  replace BR := (BR.ch l5.ch).ch mG.ch
  replace hB := ((hB.trans ia.fr).trans l5.fr).trans mG.fr
  have Z35 := ((((fv.ch.trans oT.ch).trans sL).trans ia.ch).trans l5.ch).trans mG.ch
  replace wX := wX.ch Z35
  have Z36 := ((((((((iM.ch.trans pP.ch).trans tM).trans oS.ch).trans fv.ch).trans oT.ch).trans sL).trans ia.ch).trans l5.ch).trans mG.ch
  replace jY := jY.ch Z36
  have Z37 := ((((((((((((pO.ch.trans gi.ch).trans t5).trans fM.ch).trans iM.ch).trans pP.ch).trans tM).trans oS.ch).trans fv.ch).trans oT.ch).trans sL).trans ia.ch).trans l5.ch).trans mG.ch
  replace jU := jU.ch Z37
  have Z38 := ((((((((((((((((gh.ch.trans lv.ch).trans uD).trans kw.ch).trans pO.ch).trans gi.ch).trans t5).trans fM.ch).trans iM.ch).trans pP.ch).trans tM).trans oS.ch).trans fv.ch).trans oT.ch).trans sL).trans ia.ch).trans l5.ch).trans mG.ch
  replace iq := iq.ch Z38
  have Z39 := ((Z33.trans ia.ch).trans l5.ch).trans mG.ch
  replace ah := ah.ch Z39
  have Z40 := Z34.trans mG.ch
  replace cy := cy.ch Z40
  replace ap := ap.ch Z40
  exact hX1 _ H _ _ ⟨S8, n21 + 1, FK, FL, SX, n27 + 1, Gz, GA, S0, n33 + 1, Ex, Ey, G5, n39, p37, c38, tg, n45 + 1, I5, I6, S4, n51 + 1, Lh, Li, S7, ⟨rfl, rfl, rfl, rfl, rfl, rfl, trivial⟩, hO, Mi, ag, iq, jU, jY, ah, cy, wX, BR, ap, hB⟩
 replace H := ifn h53 H
 refine zo (fun w => opB (op_lss rfl rfl w) (decide_eq_false h53)) (zn (zq (zf rfl rfl ?_)))
 refine Go1.exit rfl ?_
 refine zq (zr (zm rfl (zm rfl (zo (op_nilCheck rfl) (zo (op_fieldAddr Try.underlying72 rfl ti29 rfl (by decide)) ?_)))))
 refine zo (op_fieldAddr Try.underlying29 rfl ti22 rfl (by decide)) (zs (oblk (i := 6) 1 hO rfl rfl Try.underlying22 rfl rfl) (zm rfl ?_))
 have hobt := freeze 0 hO rfl ca
 obtain ⟨hO1, z6, yy, S9⟩ := hobt
 dsimp only [eS, eZ] at hO1 z6 yy
 replace hB := hB.trans (Owns.dropFr _ _ 0)
 dsimp only [eS, eZ] at hB
 replace hO := hO1; clear hO1
 have hobt := obuild (r := Rp.sl (Rp.int .i64)) (n := 1) (parts := [(0, .slice p2 a0.Enum.Gens.length a0.Enum.Gens.length)]) (vs := [.slice p2 a0.Enum.Gens.length a0.Enum.Gens.length]) (xs := [d_13]) rfl Try.underlying22 ti26 hO (by decide) (by kernel_rfl) (Els.cons rfl ⟨p2, a0.Enum.Gens.length, congrArg some (congrArg (fun nn => Value.slice p2 nn a0.Enum.Gens.length) S9), yy⟩ (Els.nil _ _ _) (by simp [mx])) rfl
 obtain ⟨afA, afB, wy, Ta, Mj, HC⟩ := hobt
 refine zg (HC rfl) ?_
 replace hO := wy.own
 have hobt := freeze 0 hO rfl Ta
 obtain ⟨hO1, zc, B1, Tc⟩ := hobt
 dsimp only [eS, eZ] at hO1 zc B1
 replace hB := (hB.trans wy.fr).trans (Owns.dropFr _ _ 0)
 dsimp only [eS, eZ] at hB
 replace hO := hO1; clear hO1
 obtain ⟨aas, H⟩ := H
 have Z41 := (z6.trans wy.ch).trans zc
 replace ah := ah.ch Z41
 have hobt := oapp Try.underlying22 ti26 rfl 5 hO rfl ah B1 Tc aas (by decide)
 obtain ⟨Ll, I7, I8, Td, uV, E8, OH⟩ := hobt
 dsimp only [sS, sZ] at uV E8
 refine zg (OH (by exact rfl) (by exact rfl)) ?_
 replace hO := uV.own
 refine zo (op_nilCheck rfl) (zo (op_fieldAddr Try.underlying72 rfl ti29 rfl (by decide)) (zo (op_fieldAddr Try.underlying29 rfl ti22 rfl (by decide)) ?_))
 have hobt := oblkSt2 (v := .slice I7 (a7 + 1) I8) (i := 6) (cs' := #[.int .i64 a0.Enum.Points, .bool a0.Enum.Monoid, .slice aX aW aY, .slice p19 n21 c20, .slice p25 n27 c26, .slice p31 n33 c32, .slice I7 (a7 + 1) I8, .slice p37 n39 c38, .int .i64 a0.Enum.Done, .map (some bg), .slice p43 n45 c44, .slice p49 n51 c50, .slice bO bN bP]) 0 hO rfl rfl rfl rfl
 obtain ⟨afC, t6, OI⟩ := hobt
 dsimp only [sS, sZ] at t6
 refine zg (OI Try.underlying22 rfl ti22 (by exact rfl) (by exact rfl)) ?_
 replace hO := t6.own
 refine zn (zq ?_)
 refine Go1.cut [(0, .pointer (some ⟨fU, 0, none⟩))] ⟨rfl, trivial⟩ ?_
 intro σ _
 refine zr (zm rfl (zo (op_nilCheck rfl) (zo (op_fieldAddr Try.underlying72 rfl ti29 rfl (by decide)) (zo (op_fieldAddr Try.underlying29 rfl ti3 rfl (by decide)) (zs (oblk (i := 8) 0 hO rfl rfl Try.underlying3 rfl rfl) ?_)))))
 obtain ⟨aat, H⟩ := H
 refine zo (op_add rfl rfl (wrap_i64 aat)) (zo (op_nilCheck rfl) (zo (op_fieldAddr Try.underlying72 rfl ti29 rfl (by decide)) (zo (op_fieldAddr Try.underlying29 rfl ti3 rfl (by decide)) ?_)))
 have hobt := oblkSt2 (v := .int .i64 (a0.Enum.Done + (1 : Int))) (i := 8) (cs' := #[.int .i64 a0.Enum.Points, .bool a0.Enum.Monoid, .slice aX aW aY, .slice p19 n21 c20, .slice p25 n27 c26, .slice p31 n33 c32, .slice I7 (a7 + 1) I8, .slice p37 n39 c38, .int .i64 (a0.Enum.Done + (1 : Int)), .map (some bg), .slice p43 n45 c44, .slice p49 n51 c50, .slice bO bN bP]) 0 hO rfl rfl rfl rfl
 obtain ⟨afD, iK, OJ⟩ := hobt
 dsimp only [sS, sZ] at iK
 refine zg (OJ Try.underlying3 rfl ti3 (by exact rfl) (by exact rfl)) ?_
 replace hO := iK.own
 refine zn (zq (zr (za rfl (zn ?_))))
 refine Go1.ret1 Try.func51 rfl ?_
 replace E8 := (E8.ch t6.ch).ch iK.ch
 replace hB := ((hB.trans uV.fr).trans t6.fr).trans iK.fr
 have Z42 := ((Z41.trans uV.ch).trans t6.ch).trans iK.ch
 replace ag := ag.ch Z42
 replace et := et.ch Z42
 replace dA := dA.ch Z42
 replace dm := dm.ch Z42
 replace cy := cy.ch Z42
 replace cr := cr.ch Z42
 replace cq := cq.ch Z42
 replace ap := ap.ch Z42
 exact ⟨((0 : Int)), (⟨(⟨a0.Enum.Points, a0.Enum.Monoid, a0.Enum.Gens, d_16, d_22, d_28, a0.Enum.Right ++ ([d_13]), d_34, (a0.Enum.Done + (1 : Int))⟩ : Enum), m1_52, d_40, d_46, a0.single⟩ : run), aW, aX, aY, dE, n21, p19, c20, sg, n27, p25, c26, te, n33, p31, c32, tf, (a7 + 1), I7, I8, Td, n39, p37, c38, tg, n45, p43, c44, th, n51, p49, c50, tj, bN, bO, bP, eG, rfl, hO, ag, et, dA, dm, E8, cy, cr, cq, ap, hB, H⟩
theorem body50 : Body Try.prog 50 := ⟨Try.f50, Try.func50, rfl, by kernel_rfl⟩
theorem body17 : Body Try.prog 17 := ⟨Try.f17, Try.func17, rfl, by kernel_rfl⟩
theorem walk_enumerate_Build {A : List Nat} {w0 : World} {qE : Option Addr} {qF : Nat} {gens : List (List Int)} {monoid : Bool} (hA : ∀ b ∈ A, b < w0.heap.size) (gK : ISl (Rp.sl (Rp.int .i64)) A w0 qE qF gens) {K : Enum → Int → Prop} (H : enumerate_Build gens monoid K) :
    CallsV Try.prog 17 #[.slice qE gens.length qF, .bool monoid] w0 (fun v w' => ∃ (r0 : Enum), ∃ (r1 : Int), ∃ (rH : Option Addr), ∃ (rI : Nat), ∃ (pQ : Option Addr), ∃ (pS : Nat), ∃ (mH : Option Addr), ∃ (mI : Nat), ∃ (rJ : Option Addr), ∃ (rK : Nat), ∃ (pT : Option Addr), ∃ (pU : Nat), ∃ (pV : Option Addr), ∃ (pW : Nat), v = .tuple #[.agg #[.int .i64 r0.Points, .bool r0.Monoid, .slice rH r0.Gens.length rI, .slice pQ r0.Elems.length pS, .slice mH r0.Prefix.length mI, .slice rJ r0.Last.length rK, .slice pT r0.Right.length pU, .slice pV r0.Rules.length pW, .int .i64 r0.Done], .int .i64 r1] ∧ Same w0 w' ∧ ISl (Rp.sl (Rp.int .i64)) A w' rH rI r0.Gens ∧ ISl (Rp.sl (Rp.int .i64)) A w' pQ pS r0.Elems ∧ ISl (Rp.int .i64) A w' mH mI r0.Prefix ∧ ISl (Rp.int .i64) A w' rJ rK r0.Last ∧ ISl (Rp.sl (Rp.int .i64)) A w' pT pU r0.Right ∧ ISl (rpRule) A w' pV pW r0.Rules ∧ K r0 r1) := by
 refine CallsV.of (l := [.slice qE gens.length qF, .bool monoid]) Try.func17 rfl Try.ntmps17 rfl ?_
 have hO := Owns.start hA
 have hB := Fr.refl (bl []) w0
 unfold enumerate_Build at H
 refine zq (zr ?_)
 have hobt := oalloc (t := 29) (cs := #[.int .i64 (0 : Int), .bool false, .slice none 0 0, .slice none 0 0, .slice none 0 0, .slice none 0 0, .slice none 0 0, .slice none 0 0, .int .i64 (0 : Int)]) ti29 hO rfl
 obtain ⟨w1, B2, d5, hs4, uu⟩ := hobt
 refine GoR.op uu rfl rfl ?_
 replace hO := d5.own
 refine za rfl (zn (zq (zr (zm rfl (zm rfl ?_)))))
 replace gK := (gK.ch (Ch.start A w0)).ch d5.ch
 refine GoR.call (op_call body49 rfl (walk_enumerate_begin hO.lt gK H)) rfl rfl ?_
 intro v9 w10 hcase13
 refine Or.elim hcase13 ?_ ?_
 ·refine exE fun r8 => andE fun hv14 => andE fun y3 => fun H => ?_
  subst hv14
  clear hcase13
  replace H := oElimN H
  have iQ := Stp.same hO y3
  replace hO := iQ.own
  refine zm rfl (zo (op_extract rfl rfl) (zo (op_extract rfl rfl) (za rfl (za rfl (zn ?_)))))
  refine zq (zq (zr (zm rfl ?_)))
  by_cases h16 : r8 = (0 : Int)
  ·replace H := ifp h16 H
   refine zo (fun w => opB (op_neq rfl rfl w) (ndT h16)) (zn (zf rfl rfl (zk (zq (zb ?_)))))
   replace hB := (hB.trans d5.fr).trans iQ.fr
   refine Go1.loopW (S := Unit) (fun s σ w => agrees σ [(4, .pointer (some ⟨B2, 0, none⟩)), (6, .pointer none)] ∧ Owns w0.heap.size w [.blk B2 (.cells #[.int .i64 (0 : Int), .bool false, .slice none 0 0, .slice none 0 0, .slice none 0 0, .slice none 0 0, .slice none 0 0, .slice none 0 0, .int .i64 (0 : Int)] 29 (0, 0))] A ∧ Fr (bl []) w0 (bl [.blk B2 (.cells #[.int .i64 (0 : Int), .bool false, .slice none 0 0, .slice none 0 0, .slice none 0 0, .slice none 0 0, .slice none 0 0, .slice none 0 0, .int .i64 (0 : Int)] 29 (0, 0))]) w) H ⟨⟨rfl, rfl, trivial⟩, hO, hB⟩ ?_
   intro X1 _
   intro H hX1 σ w17
   refine andE fun hag => andE fun hO => fun hB => ?_
   refine Go1.keep [(4, .pointer (some ⟨B2, 0, none⟩)), (6, .pointer none)] hag ?_
   refine zq (zq (zr (zm rfl ?_)))
   refine GoR.inl (vs := [.pointer none]) (caps := []) rfl rfl body50 Try.func50 rfl Try.ntmps50 rfl rfl rfl ?_
   intro RhR18 hR18
   refine zq (zr (za rfl (zn (zq ?_))))
   refine Go1.drawS 0 [(0, .pure), (1, .pure), (2, .pure), (3, .pure), (4, .stable), (5, .pure), (6, .pure), (7, .pure), (8, .pure), (9, .stable), (10, .pure), (11, .pure), (12, .pure)] mixed (by kernel_rfl) ?_
   intro w19 OK
   have wY := Stp.same hO OK
   replace hO := wY.own
   refine GoQ.pure rfl (op_move rfl) rfl rfl ?_
   exact H.elim
  replace H := ifn h16 H
  refine zo (fun w => opB (op_neq rfl rfl w) (ndF h16)) (zn (zt rfl rfl (zq (zr (zo (op_build Try.underlying29 ti29 (pl := [(0, 1), (1, 1), (2, 1), (3, 1), (4, 1), (5, 1), (6, 1), (7, 1), (8, 1)]) (vs := []) (cs := #[.int .i64 (0 : Int), .bool false, .slice none 0 0, .slice none 0 0, .slice none 0 0, .slice none 0 0, .slice none 0 0, .slice none 0 0, .int .i64 (0 : Int)]) (by kernel_rfl) rfl (by kernel_rfl)) ?_)))))
  refine zm rfl ?_
  have hobt := oblkStAgg (us := [.int .i64 (0 : Int), .bool false, .slice none 0 0, .slice none 0 0, .slice none 0 0, .slice none 0 0, .slice none 0 0, .slice none 0 0, .int .i64 (0 : Int)]) (o := 0) (cs' := #[.int .i64 (0 : Int), .bool false, .slice none 0 0, .slice none 0 0, .slice none 0 0, .slice none 0 0, .slice none 0 0, .slice none 0 0, .int .i64 (0 : Int)]) 0 hO rfl rfl (Nat.le_of_ble_eq_true rfl) rfl
  obtain ⟨w22, vm, Te⟩ := hobt
  refine zg (Te ti29 (by exact rfl) (by exact rfl) rfl) ?_
  replace hO := vm.own
  refine za rfl (zn ?_)
  refine Go1.retC2 Try.func17 rfl rfl (run_loadBlk (vs := [.int .i64 (0 : Int), .bool false, .slice none 0 0, .slice none 0 0, .slice none 0 0, .slice none 0 0, .slice none 0 0, .slice none 0 0, .int .i64 (0 : Int)]) 0 hO rfl rfl Try.underlying29 rfl ti29) ?_
  replace hB := ((hB.trans d5.fr).trans iQ.fr).trans vm.fr
  exact ⟨(⟨(0 : Int), false, ([] : List (List Int)), ([] : List (List Int)), ([] : List Int), ([] : List Int), ([] : List (List Int)), ([] : List Rule), (0 : Int)⟩ : Enum), r8, none, 0, none, 0, none, 0, none, 0, none, 0, none, 0, rfl, hB.same, (ISl.null _ _ _), (ISl.null _ _ _), (ISl.null _ _ _), (ISl.null _ _ _), (ISl.null _ _ _), (ISl.null _ _ _), H⟩
 ·refine exE fun r7 => exE fun r8 => exE fun fV => exE fun uW => exE fun uX => exE fun uY => exE fun t7 => exE fun t8 => exE fun t9 => exE fun ua => exE fun tt => exE fun tu => exE fun tv => exE fun tw => exE fun sA => exE fun u0 => exE fun u3 => exE fun u4 => exE fun ub => exE fun uc => exE fun ud => exE fun ue => exE fun tx => exE fun uf => exE fun ug => exE fun uh => exE fun tz => exE fun aV => exE fun zd => exE fun zh => exE fun zi => exE fun ya => exE fun yb => exE fun yc => exE fun yd => exE fun xv => exE fun ye => exE fun yf => exE fun yg => exE fun xw => andE fun hv25 => andE fun y3 => andE fun hN12 => andE fun ft => andE fun eW => andE fun eV => andE fun fu => andE fun ff => andE fun fh => andE fun fW => andE fun gp => andE fun gq => fun H => ?_
  subst hv25
  clear hcase13
  replace H := oElimS H
  have G6 := Stp.more hO y3 hN12
  dsimp only [List.cons_append, List.nil_append] at G6
  replace hO := G6.own
  replace ft := ft.ch (Ch.assoc _ _ _ _)
  dsimp only [List.cons_append, List.nil_append] at ft
  replace eW := eW.ch (Ch.assoc _ _ _ _)
  dsimp only [List.cons_append, List.nil_append] at eW
  replace eV := eV.ch (Ch.assoc _ _ _ _)
  dsimp only [List.cons_append, List.nil_append] at eV
  replace fu := fu.ch (Ch.assoc _ _ _ _)
  dsimp only [List.cons_append, List.nil_append] at fu
  replace ff := ff.ch (Ch.assoc _ _ _ _)
  dsimp only [List.cons_append, List.nil_append] at ff
  replace fh := fh.ch (Ch.assoc _ _ _ _)
  dsimp only [List.cons_append, List.nil_append] at fh
  replace fW := fW.ch (Ch.assoc _ _ _ _)
  dsimp only [List.cons_append, List.nil_append] at fW
  replace gp := gp.ch (Ch.assoc _ _ _ _)
  dsimp only [List.cons_append, List.nil_append] at gp
  replace gq := gq.ch (Ch.assoc _ _ _ _)
  dsimp only [List.cons_append, List.nil_append] at gq
  refine zm rfl (zo (op_extract rfl rfl) (zo (op_extract rfl rfl) (za rfl (za rfl (zn ?_)))))
  refine zq (zq (zr (zm rfl ?_)))
  by_cases h38 : r8 = (0 : Int)
  ·replace H := ifp h38 H
   refine zo (fun w => opB (op_neq rfl rfl w) (ndT h38)) (zn (zf rfl rfl (zk (zq (zb ?_)))))
   replace hB := (hB.trans d5.fr).trans G6.fr
   refine Go1.loopW (S := Int × Bool × Int × List (List Int) × List (List Int) × List Int × List Int × List (List Int) × List Rule × List Str × List Int × List Int × (List (Str × Int))) (fun s σ w => match s with | (k2_40, b2_41, k2_42, d_43, d_49, d_55, d_61, d_67, d_73, d_79, d_85, d_91, m2_97) => ∃ (n48 : Nat), ∃ (p46 : Option Addr), ∃ (c47 : Nat), ∃ (wF : List Value), ∃ (n54 : Nat), ∃ (p52 : Option Addr), ∃ (c53 : Nat), ∃ (wG : List Value), ∃ (n60 : Nat), ∃ (p58 : Option Addr), ∃ (c59 : Nat), ∃ (wH : List Value), ∃ (n66 : Nat), ∃ (p64 : Option Addr), ∃ (c65 : Nat), ∃ (wI : List Value), ∃ (n72 : Nat), ∃ (p70 : Option Addr), ∃ (c71 : Nat), ∃ (wJ : List Value), ∃ (n78 : Nat), ∃ (p76 : Option Addr), ∃ (c77 : Nat), ∃ (wK : List Value), ∃ (n84 : Nat), ∃ (p82 : Option Addr), ∃ (c83 : Nat), ∃ (uL : List Value), ∃ (n90 : Nat), ∃ (p88 : Option Addr), ∃ (c89 : Nat), ∃ (wL : List Value), ∃ (n96 : Nat), ∃ (p94 : Option Addr), ∃ (c95 : Nat), ∃ (wM : List Value), agrees σ [(4, .pointer (some ⟨B2, 0, none⟩)), (6, .pointer (some ⟨fV, 0, none⟩))] ∧ (fun Z0 => Owns w0.heap.size w Z0 A ∧ Els (Rp.sl (Rp.int .i64)) (bl Z0 ++ A) w wF d_43 ∧ Els (Rp.sl (Rp.int .i64)) (bl Z0 ++ A) w wG d_49 ∧ Els (Rp.int .i64) (bl Z0 ++ A) w wH d_55 ∧ Els (Rp.int .i64) (bl Z0 ++ A) w wI d_61 ∧ Els (Rp.sl (Rp.int .i64)) (bl Z0 ++ A) w wJ d_67 ∧ Els (rpRule) (bl Z0 ++ A) w wK d_73 ∧ Els (Rp.str) (bl Z0 ++ A) w uL d_79 ∧ Els (Rp.int .i64) (bl Z0 ++ A) w wL d_85 ∧ Els (Rp.int .i64) (bl Z0 ++ A) w wM d_91 ∧ Fr (bl []) w0 (bl Z0) w) [.blk fV (.cells #[.int .i64 k2_40, .bool b2_41, .slice p46 n48 c47, .slice p52 n54 c53, .slice p58 n60 c59, .slice p64 n66 c65, .slice p70 n72 c71, .slice p76 n78 c77, .int .i64 k2_42, .map (some aV), .slice p82 n84 c83, .slice p88 n90 c89, .slice p94 n96 c95] 72 (0, 0)), .row 26 1 p46 n48 c47 wF, .row 26 1 p52 n54 c53 wG, .row 3 1 p58 n60 c59 wH, .row 3 1 p64 n66 c65 wI, .row 26 1 p70 n72 c71 wJ, .row 39 2 p76 n78 c77 wK, .row 9 1 p82 n84 c83 uL, .row 3 1 p88 n90 c89 wL, .row 3 1 p94 n96 c95 wM, .any (mapE (fun a : List UInt8 => Value.string (gstr a)) (fun a : Int => Value.int .i64 a) aV m2_97), .blk B2 (.cells #[.int .i64 (0 : Int), .bool false, .slice none 0 0, .slice none 0 0, .slice none 0 0, .slice none 0 0, .slice none 0 0, .slice none 0 0, .int .i64 (0 : Int)] 29 (0, 0))]) H ⟨uW, uX, uY, t7, t8, t9, ua, tt, tu, tv, tw, sA, u0, u3, u4, ub, uc, ud, ue, tx, uf, ug, uh, tz, zd, zh, zi, ya, yb, yc, yd, xv, ye, yf, yg, xw, ⟨rfl, rfl, trivial⟩, hO, ft, eW, eV, fu, ff, fh, fW, gp, gq, hB⟩ ?_
   intro X2
   refine prE fun k2_40 => prE fun b2_41 => prE fun k2_42 => prE fun d_43 => prE fun d_49 => prE fun d_55 => prE fun d_61 => prE fun d_67 => prE fun d_73 => prE fun d_79 => prE fun d_85 => prE fun d_91 => fun m2_97 => ?_
   intro H hX2 σ w39
   refine exE fun n48 => exE fun p46 => exE fun c47 => exE fun wF => exE fun n54 => exE fun p52 => exE fun c53 => exE fun wG => exE fun n60 => exE fun p58 => exE fun c59 => exE fun wH => exE fun n66 => exE fun p64 => exE fun c65 => exE fun wI => exE fun n72 => exE fun p70 => exE fun c71 => exE fun wJ => exE fun n78 => exE fun p76 => exE fun c77 => exE fun wK => exE fun n84 => exE fun p82 => exE fun c83 => exE fun uL => exE fun n90 => exE fun p88 => exE fun c89 => exE fun wL => exE fun n96 => exE fun p94 => exE fun c95 => exE fun wM => andE fun hag => andE fun hO => andE fun GB => andE fun Dk => andE fun Cr => andE fun fw => andE fun sI => andE fun u5 => andE fun xx => andE fun fE => andE fun pv => fun hB => ?_
   dsimp only at H
   refine Go1.keep [(4, .pointer (some ⟨B2, 0, none⟩)), (6, .pointer (some ⟨fV, 0, none⟩))] hag ?_
   refine zq (zq (zr (zm rfl ?_)))
   refine GoR.inl (vs := [.pointer (some ⟨fV, 0, none⟩)]) (caps := []) rfl rfl body50 Try.func50 rfl Try.ntmps50 rfl rfl rfl ?_
   intro RhR98 hR98
   refine zq (zr (za rfl (zn (zq ?_))))
   refine Go1.drawS 0 [(0, .pure), (1, .pure), (2, .pure), (3, .pure), (4, .stable), (5, .pure), (6, .pure), (7, .pure), (8, .pure), (9, .stable), (10, .pure), (11, .pure), (12, .pure)] mixed (by kernel_rfl) ?_
   intro w99 I9
   have gv := Stp.same hO I9
   replace hO := gv.own
   refine GoQ.pure rfl (op_move rfl) rfl rfl ?_
   refine GoQ.pure rfl (op_nilCheck rfl) rfl rfl ?_
   refine GoQ.pure rfl (op_fieldAddr Try.underlying72 rfl ti29 rfl (by decide)) rfl rfl ?_
   refine GoQ.pure rfl (op_fieldAddr Try.underlying29 rfl ti3 rfl (by decide)) rfl rfl ?_
   refine GoQ.stable rfl (oblk (i := 8) 0 hO rfl rfl Try.underlying3 rfl rfl) rfl rfl ?_
   refine GoQ.pure rfl (op_move rfl) rfl rfl ?_
   refine GoQ.pure rfl (op_nilCheck rfl) rfl rfl ?_
   refine GoQ.pure rfl (op_fieldAddr Try.underlying72 rfl ti29 rfl (by decide)) rfl rfl ?_
   refine GoQ.pure rfl (op_fieldAddr Try.underlying29 rfl ti22 rfl (by decide)) rfl rfl ?_
   refine GoQ.stable rfl (oblk (i := 3) 0 hO rfl rfl Try.underlying22 rfl rfl) rfl rfl ?_
   replace Dk := Dk.ch gv.ch
   refine GoQ.pure rfl (op_lenN Try.underlying22 rfl (Dk.neq hO 2 rfl)) rfl rfl ?_
   by_cases Dl : k2_42 = (d_49.length : Int)
   ·replace H := ifp Dl H
    refine GoQ.pure rfl (fun w => opB (op_eql rfl rfl w) (decide_eq_true Dl)) rfl rfl ?_
    refine GoQ.pure rfl (op_assign rfl) rfl rfl ?_
    refine GoQ.nil ?_
    refine Go1.ret1V Try.func50 rfl (show _ = .bool true from rfl) ?_
    refine hR98 _ _ ?_
    refine zo (op_not rfl) (zn (zf rfl rfl ?_))
    refine Go1.exit rfl ?_
    refine zq (zr (zm rfl (zo (op_nilCheck rfl) (zo (op_fieldAddr Try.underlying72 rfl ti29 rfl (by decide)) (zs (oblkAgg (vs := [.int .i64 k2_40, .bool b2_41, .slice p46 n48 c47, .slice p52 n54 c53, .slice p58 n60 c59, .slice p64 n66 c65, .slice p70 n72 c71, .slice p76 n78 c77, .int .i64 k2_42]) (i := 0) 0 hO rfl rfl Try.underlying29 rfl ti29 rfl) ?_)))))
    have hobt := oblkStAgg (us := [.int .i64 k2_40, .bool b2_41, .slice p46 n48 c47, .slice p52 n54 c53, .slice p58 n60 c59, .slice p64 n66 c65, .slice p70 n72 c71, .slice p76 n78 c77, .int .i64 k2_42]) (o := 0) (cs' := #[.int .i64 k2_40, .bool b2_41, .slice p46 n48 c47, .slice p52 n54 c53, .slice p58 n60 c59, .slice p64 n66 c65, .slice p70 n72 c71, .slice p76 n78 c77, .int .i64 k2_42]) 11 hO rfl rfl (Nat.le_of_ble_eq_true rfl) rfl
    obtain ⟨afE, lX, OL⟩ := hobt
    dsimp only [sS, sZ] at lX
    refine zg (OL ti29 (by exact rfl) (by exact rfl) rfl) ?_
    replace hO := lX.own
    refine za rfl (zn ?_)
    replace GB := (GB.ch gv.ch).ch lX.ch
    have hobt := freeze 1 hO rfl GB
    obtain ⟨hO1, A4, yz, Tf⟩ := hobt
    dsimp only [eS, eZ] at hO1 A4 yz
    replace hB := ((hB.trans gv.fr).trans lX.fr).trans (Owns.dropFr _ _ 1)
    dsimp only [eS, eZ] at hB
    replace hO := hO1; clear hO1
    replace Dk := (Dk.ch lX.ch).ch A4
    have hobt := freeze 1 hO rfl Dk
    obtain ⟨hO1, A5, z7, Tg⟩ := hobt
    dsimp only [eS, eZ] at hO1 A5 z7
    replace hB := hB.trans (Owns.dropFr _ _ 1)
    dsimp only [eS, eZ] at hB
    replace hO := hO1; clear hO1
    have Z1 := ((gv.ch.trans lX.ch).trans A4).trans A5
    replace Cr := Cr.ch Z1
    have hobt := freeze 1 hO rfl Cr
    obtain ⟨hO1, A6, B3, Ja⟩ := hobt
    dsimp only [eS, eZ] at hO1 A6 B3
    replace hB := hB.trans (Owns.dropFr _ _ 1)
    dsimp only [eS, eZ] at hB
    replace hO := hO1; clear hO1
    replace fw := (fw.ch Z1).ch A6
    have hobt := freeze 1 hO rfl fw
    obtain ⟨hO1, A7, E9, Th⟩ := hobt
    dsimp only [eS, eZ] at hO1 A7 E9
    replace hB := hB.trans (Owns.dropFr _ _ 1)
    dsimp only [eS, eZ] at hB
    replace hO := hO1; clear hO1
    replace sI := ((sI.ch Z1).ch A6).ch A7
    have hobt := freeze 1 hO rfl sI
    obtain ⟨hO1, A8, G7, Tj⟩ := hobt
    dsimp only [eS, eZ] at hO1 A8 G7
    replace hB := hB.trans (Owns.dropFr _ _ 1)
    dsimp only [eS, eZ] at hB
    replace hO := hO1; clear hO1
    have Z2 := ((Z1.trans A6).trans A7).trans A8
    replace u5 := u5.ch Z2
    have hobt := freeze 1 hO rfl u5
    obtain ⟨hO1, A9, Mk, Tk⟩ := hobt
    dsimp only [eS, eZ] at hO1 A9 Mk
    replace hB := hB.trans (Owns.dropFr _ _ 1)
    dsimp only [eS, eZ] at hB
    replace hO := hO1; clear hO1
    refine Go1.retC2 Try.func17 rfl rfl (run_loadBlk (vs := [.int .i64 k2_40, .bool b2_41, .slice p46 n48 c47, .slice p52 n54 c53, .slice p58 n60 c59, .slice p64 n66 c65, .slice p70 n72 c71, .slice p76 n78 c77, .int .i64 k2_42]) 5 hO rfl rfl Try.underlying29 rfl ti29) ?_
    replace G7 := G7.ch A9
    replace E9 := (E9.ch A8).ch A9
    have Z3 := (A7.trans A8).trans A9
    replace B3 := B3.ch Z3
    have Z4 := ((A6.trans A7).trans A8).trans A9
    replace z7 := z7.ch Z4
    have Z5 := (((A5.trans A6).trans A7).trans A8).trans A9
    replace yz := yz.ch Z5
    exact ⟨(⟨k2_40, b2_41, d_43, d_49, d_55, d_61, d_67, d_73, k2_42⟩ : Enum), (0 : Int), p46, c47, p52, c53, p58, c59, p64, c65, p70, c71, p76, c77, (congrArg (fun l => Value.tuple (List.toArray l)) (cons_eq (congrArg (fun l => Value.agg (List.toArray l)) (cons_eq rfl (cons_eq rfl (cons_eq (congrArg (fun nn => Value.slice p46 nn c47) Tf) (cons_eq (congrArg (fun nn => Value.slice p52 nn c53) Tg) (cons_eq (congrArg (fun nn => Value.slice p58 nn c59) Ja) (cons_eq (congrArg (fun nn => Value.slice p64 nn c65) Th) (cons_eq (congrArg (fun nn => Value.slice p70 nn c71) Tj) (cons_eq (congrArg (fun nn => Value.slice p76 nn c77) Tk) (cons_eq rfl rfl)))))))))) (cons_eq rfl rfl))), hB.same, (yz.ch (Ch.weak _ _ _)), (z7.ch (Ch.weak _ _ _)), (B3.ch (Ch.weak _ _ _)), (E9.ch (Ch.weak _ _ _)), (G7.ch (Ch.weak _ _ _)), (Mk.ch (Ch.weak _ _ _)), H⟩
   replace H := ifn Dl H
   refine GoQ.pure rfl (fun w => opB (op_eql rfl rfl w) (decide_eq_false Dl)) rfl rfl ?_
   refine GoQ.pure rfl (op_assign rfl) rfl rfl ?_
   refine GoQ.nil ?_
   refine Go1.ret1V Try.func50 rfl (show _ = .bool false from rfl) ?_
   refine hR98 _ _ ?_
   refine zo (op_not rfl) (zn (zt rfl rfl (zk (zb (zq ?_)))))
   refine Go1.cut [(4, .pointer (some ⟨B2, 0, none⟩)), (6, .pointer (some ⟨fV, 0, none⟩))] ⟨rfl, rfl, trivial⟩ ?_
   intro σ _
   refine zr (zm rfl ?_)
   have Ml : Owns w0.heap.size w99 ([.blk fV (.cells #[.int .i64 k2_40, .bool b2_41, .slice p46 n48 c47, .slice p52 n54 c53, .slice p58 n60 c59, .slice p64 n66 c65, .slice p70 n72 c71, .slice p76 n78 c77, .int .i64 k2_42, .map (some aV), .slice p82 n84 c83, .slice p88 n90 c89, .slice p94 n96 c95] 72 (0, 0)), .row 26 1 p46 n48 c47 wF, .row 26 1 p52 n54 c53 wG, .row 3 1 p58 n60 c59 wH, .row 3 1 p64 n66 c65 wI, .row 26 1 p70 n72 c71 wJ, .row 39 2 p76 n78 c77 wK, .row 9 1 p82 n84 c83 uL, .row 3 1 p88 n90 c89 wL, .row 3 1 p94 n96 c95 wM, .any (mapE (fun a : List UInt8 => Value.string (gstr a)) (fun a : Int => Value.int .i64 a) aV m2_97)] ++ [.blk B2 (.cells #[.int .i64 (0 : Int), .bool false, .slice none 0 0, .slice none 0 0, .slice none 0 0, .slice none 0 0, .slice none 0 0, .slice none 0 0, .int .i64 (0 : Int)] 29 (0, 0))]) A := hO
   have Tl := Owns.split Ml
   have hca126 : Ch (bl [.blk fV (.cells #[.int .i64 k2_40, .bool b2_41, .slice p46 n48 c47, .slice p52 n54 c53, .slice p58 n60 c59, .slice p64 n66 c65, .slice p70 n72 c71, .slice p76 n78 c77, .int .i64 k2_42, .map (some aV), .slice p82 n84 c83, .slice p88 n90 c89, .slice p94 n96 c95] 72 (0, 0)), .row 26 1 p46 n48 c47 wF, .row 26 1 p52 n54 c53 wG, .row 3 1 p58 n60 c59 wH, .row 3 1 p64 n66 c65 wI, .row 26 1 p70 n72 c71 wJ, .row 39 2 p76 n78 c77 wK, .row 9 1 p82 n84 c83 uL, .row 3 1 p88 n90 c89 wL, .row 3 1 p94 n96 c95 wM, .any (mapE (fun a : List UInt8 => Value.string (gstr a)) (fun a : Int => Value.int .i64 a) aV m2_97), .blk B2 (.cells #[.int .i64 (0 : Int), .bool false, .slice none 0 0, .slice none 0 0, .slice none 0 0, .slice none 0 0, .slice none 0 0, .slice none 0 0, .int .i64 (0 : Int)] 29 (0, 0))] ++ A) w99 (bl [.blk fV (.cells #[.int .i64 k2_40, .bool b2_41, .slice p46 n48 c47, .slice p52 n54 c53, .slice p58 n60 c59, .slice p64 n66 c65, .slice p70 n72 c71, .slice p76 n78 c77, .int .i64 k2_42, .map (some aV), .slice p82 n84 c83, .slice p88 n90 c89, .slice p94 n96 c95] 72 (0, 0)), .row 26 1 p46 n48 c47 wF, .row 26 1 p52 n54 c53 wG, .row 3 1 p58 n60 c59 wH, .row 3 1 p64 n66 c65 wI, .row 26 1 p70 n72 c71 wJ, .row 39 2 p76 n78 c77 wK, .row 9 1 p82 n84 c83 uL, .row 3 1 p88 n90 c89 wL, .row 3 1 p94 n96 c95 wM, .any (mapE (fun a : List UInt8 => Value.string (gstr a)) (fun a : Int => Value.int .i64 a) aV m2_97)] ++ (bl [.blk B2 (.cells #[.int .i64 (0 : Int), .bool false, .slice none 0 0, .slice none 0 0, .slice none 0 0, .slice none 0 0, .slice none 0 0, .slice none 0 0, .int .i64 (0 : Int)] 29 (0, 0))] ++ A)) w99 := Ch.assoc' [.blk fV (.cells #[.int .i64 k2_40, .bool b2_41, .slice p46 n48 c47, .slice p52 n54 c53, .slice p58 n60 c59, .slice p64 n66 c65, .slice p70 n72 c71, .slice p76 n78 c77, .int .i64 k2_42, .map (some aV), .slice p82 n84 c83, .slice p88 n90 c89, .slice p94 n96 c95] 72 (0, 0)), .row 26 1 p46 n48 c47 wF, .row 26 1 p52 n54 c53 wG, .row 3 1 p58 n60 c59 wH, .row 3 1 p64 n66 c65 wI, .row 26 1 p70 n72 c71 wJ, .row 39 2 p76 n78 c77 wK, .row 9 1 p82 n84 c83 uL, .row 3 1 p88 n90 c89 wL, .row 3 1 p94 n96 c95 wM, .any (mapE (fun a : List UInt8 => Value.string (gstr a)) (fun a : Int => Value.int .i64 a) aV m2_97)] [.blk B2 (.cells #[.int .i64 (0 : Int), .bool false, .slice none 0 0, .slice none 0 0, .slice none 0 0, .slice none 0 0, .slice none 0 0, .slice none 0 0, .int .i64 (0 : Int)] 29 (0, 0))] A w99
   replace GB := GB.ch gv.ch
   replace Cr := Cr.ch gv.ch
   replace fw := fw.ch gv.ch
   replace sI := sI.ch gv.ch
   replace u5 := u5.ch gv.ch
   replace xx := xx.ch gv.ch
   replace fE := fE.ch gv.ch
   replace pv := pv.ch gv.ch
   refine GoR.call (op_call body51 rfl (walk_enumerate_run_process (a0 := (⟨(⟨k2_40, b2_41, d_43, d_49, d_55, d_61, d_67, d_73, k2_42⟩ : Enum), m2_97, d_79, d_85, d_91⟩ : run)) Tl (GB.ch hca126) (Dk.ch hca126) (Cr.ch hca126) (fw.ch hca126) (sI.ch hca126) (u5.ch hca126) (xx.ch hca126) (fE.ch hca126) (pv.ch hca126) H)) rfl rfl ?_
   intro aau Jb
   refine exE fun r127 => exE fun q128 => exE fun ke => exE fun kg => exE fun kh => exE fun sB => exE fun jx => exE fun jy => exE fun jz => exE fun rL => exE fun i7 => exE fun i8 => exE fun i9 => exE fun qN => exE fun ki => exE fun kj => exE fun kl => exE fun sC => exE fun jA => exE fun jB => exE fun jC => exE fun rM => exE fun jD => exE fun jE => exE fun jF => exE fun rN => exE fun pX => exE fun pY => exE fun p5 => exE fun wz => exE fun oc => exE fun od => exE fun oe => exE fun u6 => exE fun og => exE fun oh => exE fun ol => exE fun u7 => andE fun hv134 => andE fun hN131 => andE fun sD => andE fun rO => andE fun qO => andE fun sE => andE fun rP => andE fun rQ => andE fun wA => andE fun u9 => andE fun va => andE fun hF132 => fun H => ?_
   subst hv134
   have Kl : Stp w0.heap.size A w99 [.blk fV (.cells #[.int .i64 k2_40, .bool b2_41, .slice p46 n48 c47, .slice p52 n54 c53, .slice p58 n60 c59, .slice p64 n66 c65, .slice p70 n72 c71, .slice p76 n78 c77, .int .i64 k2_42, .map (some aV), .slice p82 n84 c83, .slice p88 n90 c89, .slice p94 n96 c95] 72 (0, 0)), .row 26 1 p46 n48 c47 wF, .row 26 1 p52 n54 c53 wG, .row 3 1 p58 n60 c59 wH, .row 3 1 p64 n66 c65 wI, .row 26 1 p70 n72 c71 wJ, .row 39 2 p76 n78 c77 wK, .row 9 1 p82 n84 c83 uL, .row 3 1 p88 n90 c89 wL, .row 3 1 p94 n96 c95 wM, .any (mapE (fun a : List UInt8 => Value.string (gstr a)) (fun a : Int => Value.int .i64 a) aV m2_97), .blk B2 (.cells #[.int .i64 (0 : Int), .bool false, .slice none 0 0, .slice none 0 0, .slice none 0 0, .slice none 0 0, .slice none 0 0, .slice none 0 0, .int .i64 (0 : Int)] 29 (0, 0))] Jb [.blk fV (.cells #[.int .i64 q128.Enum.Points, .bool q128.Enum.Monoid, .slice kg ke kh, .slice jy jx jz, .slice i8 i7 i9, .slice kj ki kl, .slice jB jA jC, .slice jE jD jF, .int .i64 q128.Enum.Done, .map (some aV), .slice pY pX p5, .slice od oc oe, .slice oh og ol] 72 (0, 0)), .row 26 1 kg ke kh sB, .row 26 1 jy jx jz rL, .row 3 1 i8 i7 i9 qN, .row 3 1 kj ki kl sC, .row 26 1 jB jA jC rM, .row 39 2 jE jD jF rN, .row 9 1 pY pX p5 wz, .row 3 1 od oc oe u6, .row 3 1 oh og ol u7, .any (mapE (fun a : List UInt8 => Value.string (gstr a)) (fun a : Int => Value.int .i64 a) aV q128.number), .blk B2 (.cells #[.int .i64 (0 : Int), .bool false, .slice none 0 0, .slice none 0 0, .slice none 0 0, .slice none 0 0, .slice none 0 0, .slice none 0 0, .int .i64 (0 : Int)] 29 (0, 0))] := Stp.join Ml hN131 hF132
   replace hO := Kl.own
   have hca135 : Ch (bl [.blk fV (.cells #[.int .i64 q128.Enum.Points, .bool q128.Enum.Monoid, .slice kg ke kh, .slice jy jx jz, .slice i8 i7 i9, .slice kj ki kl, .slice jB jA jC, .slice jE jD jF, .int .i64 q128.Enum.Done, .map (some aV), .slice pY pX p5, .slice od oc oe, .slice oh og ol] 72 (0, 0)), .row 26 1 kg ke kh sB, .row 26 1 jy jx jz rL, .row 3 1 i8 i7 i9 qN, .row 3 1 kj ki kl sC, .row 26 1 jB jA jC rM, .row 39 2 jE jD jF rN, .row 9 1 pY pX p5 wz, .row 3 1 od oc oe u6, .row 3 1 oh og ol u7, .any (mapE (fun a : List UInt8 => Value.string (gstr a)) (fun a : Int => Value.int .i64 a) aV q128.number)] ++ (bl [.blk B2 (.cells #[.int .i64 (0 : Int), .bool false, .slice none 0 0, .slice none 0 0, .slice none 0 0, .slice none 0 0, .slice none 0 0, .slice none 0 0, .int .i64 (0 : Int)] 29 (0, 0))] ++ A)) Jb (bl [.blk fV (.cells #[.int .i64 q128.Enum.Points, .bool q128.Enum.Monoid, .slice kg ke kh, .slice jy jx jz, .slice i8 i7 i9, .slice kj ki kl, .slice jB jA jC, .slice jE jD jF, .int .i64 q128.Enum.Done, .map (some aV), .slice pY pX p5, .slice od oc oe, .slice oh og ol] 72 (0, 0)), .row 26 1 kg ke kh sB, .row 26 1 jy jx jz rL, .row 3 1 i8 i7 i9 qN, .row 3 1 kj ki kl sC, .row 26 1 jB jA jC rM, .row 39 2 jE jD jF rN, .row 9 1 pY pX p5 wz, .row 3 1 od oc oe u6, .row 3 1 oh og ol u7, .any (mapE (fun a : List UInt8 => Value.string (gstr a)) (fun a : Int => Value.int .i64 a) aV q128.number), .blk B2 (.cells #[.int .i64 (0 : Int), .bool false, .slice none 0 0, .slice none 0 0, .slice none 0 0, .slice none 0 0, .slice none 0 0, .slice none 0 0, .int .i64 (0 : Int)] 29 (0, 0))] ++ A) Jb := Ch.assoc [.blk fV (.cells #[.int .i64 q128.Enum.Points, .bool q128.Enum.Monoid, .slice kg ke kh, .slice jy jx jz, .slice i8 i7 i9, .slice kj ki kl, .slice jB jA jC, .slice jE jD jF, .int .i64 q128.Enum.Done, .map (some aV), .slice pY pX p5, .slice od oc oe, .slice oh og ol] 72 (0, 0)), .row 26 1 kg ke kh sB, .row 26 1 jy jx jz rL, .row 3 1 i8 i7 i9 qN, .row 3 1 kj ki kl sC, .row 26 1 jB jA jC rM, .row 39 2 jE jD jF rN, .row 9 1 pY pX p5 wz, .row 3 1 od oc oe u6, .row 3 1 oh og ol u7, .any (mapE (fun a : List UInt8 => Value.string (gstr a)) (fun a : Int => Value.int .i64 a) aV q128.number)] [.blk B2 (.cells #[.int .i64 (0 : Int), .bool false, .slice none 0 0, .slice none 0 0, .slice none 0 0, .slice none 0 0, .slice none 0 0, .slice none 0 0, .int .i64 (0 : Int)] 29 (0, 0))] A Jb
   refine za rfl (zn (zq (zr (zm rfl ?_))))
   by_cases Jc : r127 = (0 : Int)
   ·replace H := ifp Jc H
    refine zo (fun w => opB (op_neq rfl rfl w) (ndT Jc)) (zn (zf rfl rfl (zk ?_)))
    refine Go1.inBlock ?_
    replace sD := sD.ch hca135
    replace rO := rO.ch hca135
    replace qO := qO.ch hca135
    replace sE := sE.ch hca135
    replace rP := rP.ch hca135
    replace rQ := rQ.ch hca135
    replace wA := wA.ch hca135
    replace u9 := u9.ch hca135
    replace va := va.ch hca135
    replace hB := (hB.trans gv.fr).trans Kl.fr
    exact hX2 _ H _ _ ⟨ke, kg, kh, sB, jx, jy, jz, rL, i7, i8, i9, qN, ki, kj, kl, sC, jA, jB, jC, rM, jD, jE, jF, rN, pX, pY, p5, wz, oc, od, oe, u6, og, oh, ol, u7, ⟨rfl, rfl, trivial⟩, hO, sD, rO, qO, sE, rP, rQ, wA, u9, va, hB⟩
   replace H := ifn Jc H
   refine zo (fun w => opB (op_neq rfl rfl w) (ndF Jc)) (zn (zt rfl rfl (zq (zr (zo (op_build Try.underlying29 ti29 (pl := [(0, 1), (1, 1), (2, 1), (3, 1), (4, 1), (5, 1), (6, 1), (7, 1), (8, 1)]) (vs := []) (cs := #[.int .i64 (0 : Int), .bool false, .slice none 0 0, .slice none 0 0, .slice none 0 0, .slice none 0 0, .slice none 0 0, .slice none 0 0, .int .i64 (0 : Int)]) (by kernel_rfl) rfl (by kernel_rfl)) ?_)))))
   refine zm rfl ?_
   have hobt := oblkStAgg (us := [.int .i64 (0 : Int), .bool false, .slice none 0 0, .slice none 0 0, .slice none 0 0, .slice none 0 0, .slice none 0 0, .slice none 0 0, .int .i64 (0 : Int)]) (o := 0) (cs' := #[.int .i64 (0 : Int), .bool false, .slice none 0 0, .slice none 0 0, .slice none 0 0, .slice none 0 0, .slice none 0 0, .slice none 0 0, .int .i64 (0 : Int)]) 11 hO rfl rfl (Nat.le_of_ble_eq_true rfl) rfl
   obtain ⟨afF, wB, OM⟩ := hobt
   dsimp only [sS, sZ] at wB
   refine zg (OM ti29 (by exact rfl) (by exact rfl) rfl) ?_
   replace hO := wB.own
   refine za rfl (zn ?_)
   refine Go1.retC2 Try.func17 rfl rfl (run_loadBlk (vs := [.int .i64 (0 : Int), .bool false, .slice none 0 0, .slice none 0 0, .slice none 0 0, .slice none 0 0, .slice none 0 0, .slice none 0 0, .int .i64 (0 : Int)]) 11 hO rfl rfl Try.underlying29 rfl ti29) ?_
   replace hB := ((hB.trans gv.fr).trans Kl.fr).trans wB.fr
   exact ⟨(⟨(0 : Int), false, ([] : List (List Int)), ([] : List (List Int)), ([] : List Int), ([] : List Int), ([] : List (List Int)), ([] : List Rule), (0 : Int)⟩ : Enum), r127, none, 0, none, 0, none, 0, none, 0, none, 0, none, 0, rfl, hB.same, (ISl.null _ _ _), (ISl.null _ _ _), (ISl.null _ _ _), (ISl.null _ _ _), (ISl.null _ _ _), (ISl.null _ _ _), H⟩
  replace H := ifn h38 H
  refine zo (fun w => opB (op_neq rfl rfl w) (ndF h38)) (zn (zt rfl rfl (zq (zr (zo (op_build Try.underlying29 ti29 (pl := [(0, 1), (1, 1), (2, 1), (3, 1), (4, 1), (5, 1), (6, 1), (7, 1), (8, 1)]) (vs := []) (cs := #[.int .i64 (0 : Int), .bool false, .slice none 0 0, .slice none 0 0, .slice none 0 0, .slice none 0 0, .slice none 0 0, .slice none 0 0, .int .i64 (0 : Int)]) (by kernel_rfl) rfl (by kernel_rfl)) ?_)))))
  refine zm rfl ?_
  have hobt := oblkStAgg (us := [.int .i64 (0 : Int), .bool false, .slice none 0 0, .slice none 0 0, .slice none 0 0, .slice none 0 0, .slice none 0 0, .slice none 0 0, .int .i64 (0 : Int)]) (o := 0) (cs' := #[.int .i64 (0 : Int), .bool false, .slice none 0 0, .slice none 0 0, .slice none 0 0, .slice none 0 0, .slice none 0 0, .slice none 0 0, .int .i64 (0 : Int)]) 11 hO rfl rfl (Nat.le_of_ble_eq_true rfl) rfl
  obtain ⟨aav, vb, ON⟩ := hobt
  dsimp only [sS, sZ] at vb
  refine zg (ON ti29 (by exact rfl) (by exact rfl) rfl) ?_
  replace hO := vb.own
  refine za rfl (zn ?_)
  refine Go1.retC2 Try.func17 rfl rfl (run_loadBlk (vs := [.int .i64 (0 : Int), .bool false, .slice none 0 0, .slice none 0 0, .slice none 0 0, .slice none 0 0, .slice none 0 0, .slice none 0 0, .int .i64 (0 : Int)]) 11 hO rfl rfl Try.underlying29 rfl ti29) ?_
  replace hB := ((hB.trans d5.fr).trans G6.fr).trans vb.fr
  exact ⟨(⟨(0 : Int), false, ([] : List (List Int)), ([] : List (List Int)), ([] : List Int), ([] : List Int), ([] : List (List Int)), ([] : List Rule), (0 : Int)⟩ : Enum), r8, none, 0, none, 0, none, 0, none, 0, none, 0, none, 0, rfl, hB.same, (ISl.null _ _ _), (ISl.null _ _ _), (ISl.null _ _ _), (ISl.null _ _ _), (ISl.null _ _ _), (ISl.null _ _ _), H⟩
theorem body70 : Body Try.prog 70 := ⟨Try.f70, Try.func70, rfl, by kernel_rfl⟩
theorem walk_slices_Equal_int {A : List Nat} {w0 : World} {uv : Option Addr} {uw : Nat} {ux : Option Addr} {uy : Nat} {s1 : List Int} {s2 : List Int} (hA : ∀ b ∈ A, b < w0.heap.size) (kY : ISl (Rp.int .i64) A w0 uv uw s1) (mA : ISl (Rp.int .i64) A w0 ux uy s2) {K : Bool → Prop} (H : slices_Equal_int s1 s2 K) :
    CallsV Try.prog 70 #[.slice uv s1.length uw, .slice ux s2.length uy] w0 (fun v w' => ∃ (r0 : Bool), v = .bool r0 ∧ Same w0 w' ∧ K r0) := by
 refine CallsV.of (l := [.slice uv s1.length uw, .slice ux s2.length uy]) Try.func70 rfl Try.ntmps70 rfl ?_
 have hO := Owns.start hA
 have hB := Fr.refl (bl []) w0
 unfold slices_Equal_int at H
 refine zq (zr (za rfl (zn (zq (zq ?_)))))
 refine zr (zm rfl (zo (op_len Try.underlying26 rfl) ?_))
 replace kY := kY.ch (Ch.start A w0)
 replace H := H kY.bd
 refine zm rfl (zo (op_len Try.underlying26 rfl) ?_)
 replace mA := mA.ch (Ch.start A w0)
 replace H := H mA.bd
 by_cases h1 : (s1.length : Int) = (s2.length : Int)
 ·replace H := ifp h1 H
  refine zo (fun w => opB (op_neq rfl rfl w) (ndT h1)) (zn (zf rfl rfl (zk (zq (zq ?_)))))
  refine zr (zm rfl (zo (op_len Try.underlying26 rfl) (zm rfl (zn (zb ?_)))))
  refine Go1.loopW (S := Nat) (fun s σ w => agrees σ [(0, .slice uv s1.length uw), (1, .slice ux s2.length uy), (12, .int .i64 (s1.length : Int)), (13, .int .i64 (s : Int))] ∧ Owns w0.heap.size w [] A ∧ ISl (Rp.int .i64) (bl [] ++ A) w uv uw s1 ∧ ISl (Rp.int .i64) (bl [] ++ A) w ux uy s2 ∧ Fr (bl []) w0 (bl []) w) H ⟨⟨rfl, rfl, rfl, rfl, trivial⟩, hO, kY, mA, hB⟩ ?_
  intro X1 k1_3
  intro H hX1 σ w2
  refine andE fun hag => andE fun hO => andE fun kY => andE fun mA => fun hB => ?_
  refine Go1.keep [(0, .slice uv s1.length uw), (1, .slice ux s2.length uy), (12, .int .i64 (s1.length : Int)), (13, .int .i64 (k1_3 : Int))] hag ?_
  refine zq (zr ?_)
  by_cases h4 : (k1_3 : Int) < (s1.length : Int)
  ·replace H := ifp h4 H
   refine zo (fun w => opB (op_lss rfl rfl w) (decide_eq_true h4)) (zn (zq (zt rfl rfl (zk (zq ?_)))))
   refine zb (zq (zr (zm rfl (za rfl (zn ?_)))))
   refine zq ?_
   refine Go1.drawS 0 [(0, .pure), (1, .pure), (2, .pure), (3, .stable), (4, .pure), (5, .pure), (6, .pure), (7, .stable), (8, .pure)] mixed (by kernel_rfl) ?_
   intro w5 hs6
   have sK := Stp.same hO hs6
   replace hO := sK.own
   refine GoQ.pure rfl (op_move rfl) rfl rfl ?_
   refine GoQ.pure rfl (op_move rfl) rfl rfl ?_
   obtain ⟨h8, H⟩ := H
   obtain ⟨h9, H⟩ := H
   replace kY := kY.ch sK.ch
   refine GoQ.pure rfl (op_index Try.underlying26 ti3 rfl rfl h8 h9 (kY.some_ h8 h9)) rfl rfl ?_
   refine GoQ.stable rfl (ldInt kY h8 h9 Try.underlying3 rfl rfl) rfl rfl ?_
   refine GoQ.pure rfl (op_move rfl) rfl rfl ?_
   refine GoQ.pure rfl (op_move rfl) rfl rfl ?_
   obtain ⟨h10, H⟩ := H
   obtain ⟨h11, H⟩ := H
   replace mA := mA.ch sK.ch
   refine GoQ.pure rfl (op_index Try.underlying26 ti3 rfl rfl h10 h11 (mA.some_ h10 h11)) rfl rfl ?_
   refine GoQ.stable rfl (ldInt mA h10 h11 Try.underlying3 rfl rfl) rfl rfl ?_
   by_cases h12 : (ix s1 (k1_3 : Int)) = (ix s2 (k1_3 : Int))
   ·replace H := ifp h12 H
    refine GoQ.pure rfl (fun w => opB (op_neq rfl rfl w) (ndT h12)) rfl rfl ?_
    refine GoQ.nil ?_
    refine zf rfl rfl (zk ?_)
    refine Go1.inBlock ?_
    refine zr (zo (op_add rfl rfl (wrap_i64 (natbd h4 kY.bd))) (zm rfl (zn ?_)))
    replace hB := hB.trans sK.fr
    exact hX1 _ H _ _ ⟨⟨rfl, rfl, rfl, rfl, trivial⟩, hO, kY, mA, hB⟩
   replace H := ifn h12 H
   refine GoQ.pure rfl (fun w => opB (op_neq rfl rfl w) (ndF h12)) rfl rfl ?_
   refine GoQ.nil ?_
   refine zt rfl rfl (zq (zr (za rfl (zn ?_))))
   refine Go1.ret1 Try.func70 rfl ?_
   replace hB := hB.trans sK.fr
   exact ⟨false, rfl, hB.same, H⟩
  replace H := ifn h4 H
  refine zo (fun w => opB (op_lss rfl rfl w) (decide_eq_false h4)) (zn (zq (zf rfl rfl ?_)))
  refine Go1.exit rfl ?_
  refine zq (zr (za rfl (zn ?_)))
  refine Go1.ret1 Try.func70 rfl ?_
  exact ⟨true, rfl, hB.same, H⟩
 replace H := ifn h1 H
 refine zo (fun w => opB (op_neq rfl rfl w) (ndF h1)) (zn (zt rfl rfl (zq (zr (za rfl ?_)))))
 refine zn ?_
 refine Go1.ret1 Try.func70 rfl ?_
 exact ⟨false, rfl, hB.same, H⟩
theorem body69 : Body Try.prog 69 := ⟨Try.f69, Try.func69, rfl, by kernel_rfl⟩
theorem walk_slices_EqualFunc_int {A : List Nat} {w0 : World} {uv : Option Addr} {uw : Nat} {ux : Option Addr} {uy : Nat} {s1 : List (List Int)} {s2 : List (List Int)} (hA : ∀ b ∈ A, b < w0.heap.size) (kY : ISl (Rp.sl (Rp.int .i64)) A w0 uv uw s1) (mA : ISl (Rp.sl (Rp.int .i64)) A w0 ux uy s2) {K : Bool → Prop} (H : slices_EqualFunc_int s1 s2 K) :
    CallsV Try.prog 69 #[.slice uv s1.length uw, .slice ux s2.length uy, .func (.func 70) #[] #[]] w0 (fun v w' => ∃ (r0 : Bool), v = .bool r0 ∧ Same w0 w' ∧ K r0) := by
 refine CallsV.of (l := [.slice uv s1.length uw, .slice ux s2.length uy, .func (.func 70) #[] #[]]) Try.func69 rfl Try.ntmps69 rfl ?_
 have hO := Owns.start hA
 have hB := Fr.refl (bl []) w0
 unfold slices_EqualFunc_int at H
 refine zq (zr (za rfl (zn (zq (zq ?_)))))
 refine zr (zm rfl (zo (op_len Try.underlying22 rfl) ?_))
 replace kY := kY.ch (Ch.start A w0)
 replace H := H kY.bd
 refine zm rfl (zo (op_len Try.underlying22 rfl) ?_)
 replace mA := mA.ch (Ch.start A w0)
 replace H := H mA.bd
 by_cases h1 : (s1.length : Int) = (s2.length : Int)
 ·replace H := ifp h1 H
  refine zo (fun w => opB (op_neq rfl rfl w) (ndT h1)) (zn (zf rfl rfl (zk (zq (zq ?_)))))
  refine zr (zm rfl (zo (op_len Try.underlying22 rfl) (zm rfl (zn (zb ?_)))))
  refine Go1.loopW (S := Nat) (fun s σ w => agrees σ [(1, .slice ux s2.length uy), (2, .func (.func 70) #[] #[]), (15, .slice uv s1.length uw), (16, .int .i64 (s1.length : Int)), (17, .int .i64 (s : Int))] ∧ Owns w0.heap.size w [] A ∧ ISl (Rp.sl (Rp.int .i64)) (bl [] ++ A) w uv uw s1 ∧ ISl (Rp.sl (Rp.int .i64)) (bl [] ++ A) w ux uy s2 ∧ Fr (bl []) w0 (bl []) w) H ⟨⟨rfl, rfl, rfl, rfl, rfl, trivial⟩, hO, kY, mA, hB⟩ ?_
  intro X1 k1_3
  intro H hX1 σ w2
  refine andE fun hag => andE fun hO => andE fun kY => andE fun mA => fun hB => ?_
  refine Go1.keep [(1, .slice ux s2.length uy), (2, .func (.func 70) #[] #[]), (15, .slice uv s1.length uw), (16, .int .i64 (s1.length : Int)), (17, .int .i64 (k1_3 : Int))] hag ?_
  refine zq (zr ?_)
  by_cases h4 : (k1_3 : Int) < (s1.length : Int)
  ·replace H := ifp h4 H
   refine zo (fun w => opB (op_lss rfl rfl w) (decide_eq_true h4)) (zn (zq (zt rfl rfl (zk (zq ?_)))))
   refine zb (zq (zr (zm rfl ?_)))
   obtain ⟨h5, H⟩ := H
   obtain ⟨h6, H⟩ := H
   refine zo (op_index Try.underlying22 ti26 rfl rfl h5 h6 (kY.some_ h5 h6)) ?_
   have hobt := ldSl kY h5 h6
   obtain ⟨p7, c8, hi9, aaw⟩ := hobt
   refine zs (aaw Try.underlying26 rfl rfl) (za rfl (za rfl (zn (zq (zr ?_)))))
   refine zm rfl (zm rfl ?_)
   obtain ⟨h11, H⟩ := H
   obtain ⟨h12, H⟩ := H
   refine zo (op_index Try.underlying22 ti26 rfl rfl h11 h12 (mA.some_ h11 h12)) ?_
   have hobt := ldSl mA h11 h12
   obtain ⟨p13, c14, mB, Lm⟩ := hobt
   refine zs (Lm Try.underlying26 rfl rfl) (za rfl (zn (zq (zr (zm rfl ?_)))))
   refine zm rfl (zm rfl ?_)
   refine GoR.call (op_callV (caps := []) body70 rfl rfl (walk_slices_Equal_int hO.lt hi9 mB H)) rfl rfl ?_
   rintro v21 w18 ⟨r17, rfl, Er, H⟩
   have fq := Stp.same hO Er
   replace hO := fq.own
   cases r17
   ·replace H := ifn Bool.false_ne_true H
    refine zo (op_not rfl) (zn (zt rfl rfl (zq (zr (za rfl ?_)))))
    refine zn ?_
    refine Go1.ret1 Try.func69 rfl ?_
    replace hB := hB.trans fq.fr
    exact ⟨false, rfl, hB.same, H⟩
   replace H := ifp rfl H
   refine zo (op_not rfl) (zn (zf rfl rfl (zk ?_)))
   refine Go1.inBlock ?_
   refine Go1.cut [(1, .slice ux s2.length uy), (2, .func (.func 70) #[] #[]), (15, .slice uv s1.length uw), (16, .int .i64 (s1.length : Int)), (17, .int .i64 (k1_3 : Int))] ⟨rfl, rfl, rfl, rfl, rfl, trivial⟩ ?_
   intro σ _
   refine zr ?_
   replace kY := kY.ch fq.ch
   refine zo (op_add rfl rfl (wrap_i64 (natbd h4 kY.bd))) (zm rfl (zn ?_))
   replace mA := mA.ch fq.ch
   replace hB := hB.trans fq.fr
   exact hX1 _ H _ _ ⟨⟨rfl, rfl, rfl, rfl, rfl, trivial⟩, hO, kY, mA, hB⟩
  replace H := ifn h4 H
  refine zo (fun w => opB (op_lss rfl rfl w) (decide_eq_false h4)) (zn (zq (zf rfl rfl ?_)))
  refine Go1.exit rfl ?_
  refine zq (zr (za rfl (zn ?_)))
  refine Go1.ret1 Try.func69 rfl ?_
  exact ⟨true, rfl, hB.same, H⟩
 replace H := ifn h1 H
 refine zo (fun w => opB (op_neq rfl rfl w) (ndF h1)) (zn (zt rfl rfl (zq (zr (za rfl ?_)))))
 refine zn ?_
 refine Go1.ret1 Try.func69 rfl ?_
 exact ⟨false, rfl, hB.same, H⟩
theorem body71 : Body Try.prog 71 := ⟨Try.f71, Try.func71, rfl, by kernel_rfl⟩
theorem walk_slices_Equal_api_Rule {A : List Nat} {w0 : World} {uv : Option Addr} {uw : Nat} {ux : Option Addr} {uy : Nat} {s1 : List Rule} {s2 : List Rule} (hA : ∀ b ∈ A, b < w0.heap.size) (kY : ISl (rpRule) A w0 uv uw s1) (mA : ISl (rpRule) A w0 ux uy s2) {K : Bool → Prop} (H : slices_Equal_api_Rule s1 s2 K) :
    CallsV Try.prog 71 #[.slice uv s1.length uw, .slice ux s2.length uy] w0 (fun v w' => ∃ (r0 : Bool), v = .bool r0 ∧ Same w0 w' ∧ K r0) := by
 refine CallsV.of (l := [.slice uv s1.length uw, .slice ux s2.length uy]) Try.func71 rfl Try.ntmps71 rfl ?_
 have hO := Owns.start hA
 have hB := Fr.refl (bl []) w0
 unfold slices_Equal_api_Rule at H
 refine zq (zr (za rfl (zn (zq (zq ?_)))))
 refine zr (zm rfl (zo (op_len Try.underlying27 rfl) ?_))
 replace kY := kY.ch (Ch.start A w0)
 replace H := H kY.bd
 refine zm rfl (zo (op_len Try.underlying27 rfl) ?_)
 replace mA := mA.ch (Ch.start A w0)
 replace H := H mA.bd
 by_cases h1 : (s1.length : Int) = (s2.length : Int)
 ·replace H := ifp h1 H
  refine zo (fun w => opB (op_neq rfl rfl w) (ndT h1)) (zn (zf rfl rfl (zk (zq (zq ?_)))))
  refine zr (zm rfl (zo (op_len Try.underlying27 rfl) (zm rfl (zn (zb ?_)))))
  refine Go1.loopW (S := Nat) (fun s σ w => agrees σ [(0, .slice uv s1.length uw), (1, .slice ux s2.length uy), (12, .int .i64 (s1.length : Int)), (13, .int .i64 (s : Int))] ∧ Owns w0.heap.size w [] A ∧ ISl (rpRule) (bl [] ++ A) w uv uw s1 ∧ ISl (rpRule) (bl [] ++ A) w ux uy s2 ∧ Fr (bl []) w0 (bl []) w) H ⟨⟨rfl, rfl, rfl, rfl, trivial⟩, hO, kY, mA, hB⟩ ?_
  intro X1 k1_3
  intro H hX1 σ w2
  refine andE fun hag => andE fun hO => andE fun kY => andE fun mA => fun hB => ?_
  refine Go1.keep [(0, .slice uv s1.length uw), (1, .slice ux s2.length uy), (12, .int .i64 (s1.length : Int)), (13, .int .i64 (k1_3 : Int))] hag ?_
  refine zq (zr ?_)
  by_cases h4 : (k1_3 : Int) < (s1.length : Int)
  ·replace H := ifp h4 H
   refine zo (fun w => opB (op_lss rfl rfl w) (decide_eq_true h4)) (zn (zq (zt rfl rfl (zk (zq ?_)))))
   refine zb (zq (zr (zm rfl (za rfl (zn ?_)))))
   refine zq ?_
   refine Go1.drawS 0 [(0, .pure), (1, .pure), (2, .pure), (3, .stable), (4, .pure), (5, .pure), (6, .pure), (7, .stable), (8, .pure)] mixed (by kernel_rfl) ?_
   intro w5 hs6
   have sK := Stp.same hO hs6
   replace hO := sK.own
   refine GoQ.pure rfl (op_move rfl) rfl rfl ?_
   refine GoQ.pure rfl (op_move rfl) rfl rfl ?_
   obtain ⟨h8, H⟩ := H
   obtain ⟨h9, H⟩ := H
   replace kY := kY.ch sK.ch
   refine GoQ.pure rfl (op_index Try.underlying27 ti39 rfl rfl h8 h9 (kY.some_ h8 h9)) rfl rfl ?_
   have hok10 := ldFlatOk kY h8 h9
   refine GoQ.stable rfl (ldFlat kY h8 h9 Try.underlying39 rfl ti39 rfl) rfl rfl ?_
   refine GoQ.pure rfl (op_move rfl) rfl rfl ?_
   refine GoQ.pure rfl (op_move rfl) rfl rfl ?_
   obtain ⟨h11, H⟩ := H
   obtain ⟨h12, H⟩ := H
   replace mA := mA.ch sK.ch
   refine GoQ.pure rfl (op_index Try.underlying27 ti39 rfl rfl h11 h12 (mA.some_ h11 h12)) rfl rfl ?_
   have hok13 := ldFlatOk mA h11 h12
   refine GoQ.stable rfl (ldFlat mA h11 h12 Try.underlying39 rfl ti39 rfl) rfl rfl ?_
   by_cases h14 : (((ix s1 (k1_3 : Int)).Left) = ((ix s2 (k1_3 : Int)).Left) ∧ ((ix s1 (k1_3 : Int)).Right) = ((ix s2 (k1_3 : Int)).Right))
   ·replace H := ifp h14 H
    refine GoQ.pure rfl (fun w => opB (op_neqSS Try.underlying39 eqh39 eqg39 (by decide) (by decide) rfl rfl Try.underlying9 Try.underlying9 rfl rfl w) (ndT h14)) rfl rfl ?_
    refine GoQ.nil ?_
    refine zf rfl rfl (zk ?_)
    refine Go1.inBlock ?_
    refine zr (zo (op_add rfl rfl (wrap_i64 (natbd h4 kY.bd))) (zm rfl (zn ?_)))
    replace hB := hB.trans sK.fr
    exact hX1 _ H _ _ ⟨⟨rfl, rfl, rfl, rfl, trivial⟩, hO, kY, mA, hB⟩
   replace H := ifn h14 H
   refine GoQ.pure rfl (fun w => opB (op_neqSS Try.underlying39 eqh39 eqg39 (by decide) (by decide) rfl rfl Try.underlying9 Try.underlying9 rfl rfl w) (ndF h14)) rfl rfl ?_
   refine GoQ.nil ?_
   refine zt rfl rfl (zq (zr (za rfl (zn ?_))))
   refine Go1.ret1 Try.func71 rfl ?_
   replace hB := hB.trans sK.fr
   exact ⟨false, rfl, hB.same, H⟩
  replace H := ifn h4 H
  refine zo (fun w => opB (op_lss rfl rfl w) (decide_eq_false h4)) (zn (zq (zf rfl rfl ?_)))
  refine Go1.exit rfl ?_
  refine zq (zr (za rfl (zn ?_)))
  refine Go1.ret1 Try.func71 rfl ?_
  exact ⟨true, rfl, hB.same, H⟩
 replace H := ifn h1 H
 refine zo (fun w => opB (op_neq rfl rfl w) (ndF h1)) (zn (zt rfl rfl (zq (zr (za rfl ?_)))))
 refine zn ?_
 refine Go1.ret1 Try.func71 rfl ?_
 exact ⟨false, rfl, hB.same, H⟩
end Sg
