/- The walks: each call keeps to its plain transformer. Printed by walkgen.py. -/
import Derived.Test.YtjegjjdfgefkoaaTi
import Derived.Test.YtjegjjdfgefkoaaWEnumerateBuilds
import Derived.Test.YtjegjjdfgefkoaaAl
namespace Sg
open Go Go.RowKit Go.Proofs
set_option linter.unusedVariables false
set_option linter.unusedSimpArgs false
set_option maxRecDepth 100000
set_option maxHeartbeats 4000000
theorem body66 : Body Try.prog 66 := ⟨Try.f66, Try.func66, rfl, by kernel_rfl⟩
theorem body67 : Body Try.prog 67 := ⟨Try.f67, Try.func67, rfl, by kernel_rfl⟩
theorem body51 : Body Try.prog 51 := ⟨Try.f51, Try.func51, rfl, by kernel_rfl⟩
theorem walk_enumerate_run_process {A : List Nat} {n0 : Nat} {w0 : World} {gP : Nat} {aJ : Nat} {aK : Option Addr} {aL : Nat} {er : List Value} {eP : Nat} {eQ : Option Addr} {eU : Nat} {gR : List Value} {eC : Nat} {eF : Option Addr} {eG : Nat} {gM : List Value} {fx : Nat} {fy : Option Addr} {fA : Nat} {g7 : List Value} {aM : Nat} {aT : Option Addr} {aU : Nat} {d8 : List Value} {eV : Nat} {eW : Option Addr} {eX : Nat} {gS : List Value} {aV : Nat} {gy : Nat} {gz : Option Addr} {gA : Nat} {jH : List Value} {gn : Nat} {gp : Option Addr} {gq : Nat} {iV : List Value} {bT : Nat} {bU : Option Addr} {bV : Nat} {fL : List Value} {a0 : run} (hO : Owns n0 w0 [.blk gP (.cells #[.int .i64 a0.Enum.Points, .bool a0.Enum.Monoid, .slice aK aJ aL, .slice eQ eP eU, .slice eF eC eG, .slice fy fx fA, .slice aT aM aU, .slice eW eV eX, .int .i64 a0.Enum.Done, .map (some aV), .slice gz gy gA, .slice gp gn gq, .slice bU bT bV] 72 (0, 0)), .row 26 1 aK aJ aL er, .row 26 1 eQ eP eU gR, .row 3 1 eF eC eG gM, .row 3 1 fy fx fA g7, .row 26 1 aT aM aU d8, .row 39 2 eW eV eX gS, .row 9 1 gz gy gA jH, .row 3 1 gp gn gq iV, .row 3 1 bU bT bV fL, .any (mapE (fun a : List UInt8 => Value.string (gstr a)) (fun a : Int => Value.int .i64 a) aV a0.number)] A) (ab : Els (Rp.sl (Rp.int .i64)) (bl [.blk gP (.cells #[.int .i64 a0.Enum.Points, .bool a0.Enum.Monoid, .slice aK aJ aL, .slice eQ eP eU, .slice eF eC eG, .slice fy fx fA, .slice aT aM aU, .slice eW eV eX, .int .i64 a0.Enum.Done, .map (some aV), .slice gz gy gA, .slice gp gn gq, .slice bU bT bV] 72 (0, 0)), .row 26 1 aK aJ aL er, .row 26 1 eQ eP eU gR, .row 3 1 eF eC eG gM, .row 3 1 fy fx fA g7, .row 26 1 aT aM aU d8, .row 39 2 eW eV eX gS, .row 9 1 gz gy gA jH, .row 3 1 gp gn gq iV, .row 3 1 bU bT bV fL, .any (mapE (fun a : List UInt8 => Value.string (gstr a)) (fun a : Int => Value.int .i64 a) aV a0.number)] ++ A) w0 er a0.Enum.Gens) (xx : Els (Rp.sl (Rp.int .i64)) (bl [.blk gP (.cells #[.int .i64 a0.Enum.Points, .bool a0.Enum.Monoid, .slice aK aJ aL, .slice eQ eP eU, .slice eF eC eG, .slice fy fx fA, .slice aT aM aU, .slice eW eV eX, .int .i64 a0.Enum.Done, .map (some aV), .slice gz gy gA, .slice gp gn gq, .slice bU bT bV] 72 (0, 0)), .row 26 1 aK aJ aL er, .row 26 1 eQ eP eU gR, .row 3 1 eF eC eG gM, .row 3 1 fy fx fA g7, .row 26 1 aT aM aU d8, .row 39 2 eW eV eX gS, .row 9 1 gz gy gA jH, .row 3 1 gp gn gq iV, .row 3 1 bU bT bV fL, .any (mapE (fun a : List UInt8 => Value.string (gstr a)) (fun a : Int => Value.int .i64 a) aV a0.number)] ++ A) w0 gR a0.Enum.Elems) (wB : Els (Rp.int .i64) (bl [.blk gP (.cells #[.int .i64 a0.Enum.Points, .bool a0.Enum.Monoid, .slice aK aJ aL, .slice eQ eP eU, .slice eF eC eG, .slice fy fx fA, .slice aT aM aU, .slice eW eV eX, .int .i64 a0.Enum.Done, .map (some aV), .slice gz gy gA, .slice gp gn gq, .slice bU bT bV] 72 (0, 0)), .row 26 1 aK aJ aL er, .row 26 1 eQ eP eU gR, .row 3 1 eF eC eG gM, .row 3 1 fy fx fA g7, .row 26 1 aT aM aU d8, .row 39 2 eW eV eX gS, .row 9 1 gz gy gA jH, .row 3 1 gp gn gq iV, .row 3 1 bU bT bV fL, .any (mapE (fun a : List UInt8 => Value.string (gstr a)) (fun a : Int => Value.int .i64 a) aV a0.number)] ++ A) w0 gM a0.Enum.Prefix) (xK : Els (Rp.int .i64) (bl [.blk gP (.cells #[.int .i64 a0.Enum.Points, .bool a0.Enum.Monoid, .slice aK aJ aL, .slice eQ eP eU, .slice eF eC eG, .slice fy fx fA, .slice aT aM aU, .slice eW eV eX, .int .i64 a0.Enum.Done, .map (some aV), .slice gz gy gA, .slice gp gn gq, .slice bU bT bV] 72 (0, 0)), .row 26 1 aK aJ aL er, .row 26 1 eQ eP eU gR, .row 3 1 eF eC eG gM, .row 3 1 fy fx fA g7, .row 26 1 aT aM aU d8, .row 39 2 eW eV eX gS, .row 9 1 gz gy gA jH, .row 3 1 gp gn gq iV, .row 3 1 bU bT bV fL, .any (mapE (fun a : List UInt8 => Value.string (gstr a)) (fun a : Int => Value.int .i64 a) aV a0.number)] ++ A) w0 g7 a0.Enum.Last) (ac : Els (Rp.sl (Rp.int .i64)) (bl [.blk gP (.cells #[.int .i64 a0.Enum.Points, .bool a0.Enum.Monoid, .slice aK aJ aL, .slice eQ eP eU, .slice eF eC eG, .slice fy fx fA, .slice aT aM aU, .slice eW eV eX, .int .i64 a0.Enum.Done, .map (some aV), .slice gz gy gA, .slice gp gn gq, .slice bU bT bV] 72 (0, 0)), .row 26 1 aK aJ aL er, .row 26 1 eQ eP eU gR, .row 3 1 eF eC eG gM, .row 3 1 fy fx fA g7, .row 26 1 aT aM aU d8, .row 39 2 eW eV eX gS, .row 9 1 gz gy gA jH, .row 3 1 gp gn gq iV, .row 3 1 bU bT bV fL, .any (mapE (fun a : List UInt8 => Value.string (gstr a)) (fun a : Int => Value.int .i64 a) aV a0.number)] ++ A) w0 d8 a0.Enum.Right) (xz : Els (rpRule) (bl [.blk gP (.cells #[.int .i64 a0.Enum.Points, .bool a0.Enum.Monoid, .slice aK aJ aL, .slice eQ eP eU, .slice eF eC eG, .slice fy fx fA, .slice aT aM aU, .slice eW eV eX, .int .i64 a0.Enum.Done, .map (some aV), .slice gz gy gA, .slice gp gn gq, .slice bU bT bV] 72 (0, 0)), .row 26 1 aK aJ aL er, .row 26 1 eQ eP eU gR, .row 3 1 eF eC eG gM, .row 3 1 fy fx fA g7, .row 26 1 aT aM aU d8, .row 39 2 eW eV eX gS, .row 9 1 gz gy gA jH, .row 3 1 gp gn gq iV, .row 3 1 bU bT bV fL, .any (mapE (fun a : List UInt8 => Value.string (gstr a)) (fun a : Int => Value.int .i64 a) aV a0.number)] ++ A) w0 gS a0.Enum.Rules) (AW : Els (Rp.str) (bl [.blk gP (.cells #[.int .i64 a0.Enum.Points, .bool a0.Enum.Monoid, .slice aK aJ aL, .slice eQ eP eU, .slice eF eC eG, .slice fy fx fA, .slice aT aM aU, .slice eW eV eX, .int .i64 a0.Enum.Done, .map (some aV), .slice gz gy gA, .slice gp gn gq, .slice bU bT bV] 72 (0, 0)), .row 26 1 aK aJ aL er, .row 26 1 eQ eP eU gR, .row 3 1 eF eC eG gM, .row 3 1 fy fx fA g7, .row 26 1 aT aM aU d8, .row 39 2 eW eV eX gS, .row 9 1 gz gy gA jH, .row 3 1 gp gn gq iV, .row 3 1 bU bT bV fL, .any (mapE (fun a : List UInt8 => Value.string (gstr a)) (fun a : Int => Value.int .i64 a) aV a0.number)] ++ A) w0 jH a0.words) (z6 : Els (Rp.int .i64) (bl [.blk gP (.cells #[.int .i64 a0.Enum.Points, .bool a0.Enum.Monoid, .slice aK aJ aL, .slice eQ eP eU, .slice eF eC eG, .slice fy fx fA, .slice aT aM aU, .slice eW eV eX, .int .i64 a0.Enum.Done, .map (some aV), .slice gz gy gA, .slice gp gn gq, .slice bU bT bV] 72 (0, 0)), .row 26 1 aK aJ aL er, .row 26 1 eQ eP eU gR, .row 3 1 eF eC eG gM, .row 3 1 fy fx fA g7, .row 26 1 aT aM aU d8, .row 39 2 eW eV eX gS, .row 9 1 gz gy gA jH, .row 3 1 gp gn gq iV, .row 3 1 bU bT bV fL, .any (mapE (fun a : List UInt8 => Value.string (gstr a)) (fun a : Int => Value.int .i64 a) aV a0.number)] ++ A) w0 iV a0.behind) (ae : Els (Rp.int .i64) (bl [.blk gP (.cells #[.int .i64 a0.Enum.Points, .bool a0.Enum.Monoid, .slice aK aJ aL, .slice eQ eP eU, .slice eF eC eG, .slice fy fx fA, .slice aT aM aU, .slice eW eV eX, .int .i64 a0.Enum.Done, .map (some aV), .slice gz gy gA, .slice gp gn gq, .slice bU bT bV] 72 (0, 0)), .row 26 1 aK aJ aL er, .row 26 1 eQ eP eU gR, .row 3 1 eF eC eG gM, .row 3 1 fy fx fA g7, .row 26 1 aT aM aU d8, .row 39 2 eW eV eX gS, .row 9 1 gz gy gA jH, .row 3 1 gp gn gq iV, .row 3 1 bU bT bV fL, .any (mapE (fun a : List UInt8 => Value.string (gstr a)) (fun a : Int => Value.int .i64 a) aV a0.number)] ++ A) w0 fL a0.single) {K : Int → run → Prop} (H : enumerate_run_process a0 K) :
    CallsV Try.prog 51 #[.pointer (some ⟨gP, 0, none⟩)] w0 (fun v w' => ∃ (r0 : Int), ∃ (q : run), ∃ (bm : Nat), ∃ (bn : Option Addr), ∃ (bo : Nat), ∃ (dG : List Value), ∃ (aX : Nat), ∃ (aY : Option Addr), ∃ (a7 : Nat), ∃ (dk : List Value), ∃ (aQ : Nat), ∃ (aR : Option Addr), ∃ (aS : Nat), ∃ (c5 : List Value), ∃ (bp : Nat), ∃ (bq : Option Addr), ∃ (bt : Nat), ∃ (dH : List Value), ∃ (a8 : Nat), ∃ (a9 : Option Addr), ∃ (ba : Nat), ∃ (dl : List Value), ∃ (bc : Nat), ∃ (bf : Option Addr), ∃ (bg : Nat), ∃ (dm : List Value), ∃ (db : Nat), ∃ (de : Option Addr), ∃ (dg : Nat), ∃ (fI : List Value), ∃ (cI : Nat), ∃ (cJ : Option Addr), ∃ (cK : Nat), ∃ (fe : List Value), ∃ (cL : Nat), ∃ (cM : Option Addr), ∃ (cN : Nat), ∃ (ff : List Value), v = .int .i64 r0 ∧ (fun Z0 => Owns n0 w' Z0 A ∧ Els (Rp.sl (Rp.int .i64)) (bl Z0 ++ A) w' dG q.Enum.Gens ∧ Els (Rp.sl (Rp.int .i64)) (bl Z0 ++ A) w' dk q.Enum.Elems ∧ Els (Rp.int .i64) (bl Z0 ++ A) w' c5 q.Enum.Prefix ∧ Els (Rp.int .i64) (bl Z0 ++ A) w' dH q.Enum.Last ∧ Els (Rp.sl (Rp.int .i64)) (bl Z0 ++ A) w' dl q.Enum.Right ∧ Els (rpRule) (bl Z0 ++ A) w' dm q.Enum.Rules ∧ Els (Rp.str) (bl Z0 ++ A) w' fI q.words ∧ Els (Rp.int .i64) (bl Z0 ++ A) w' fe q.behind ∧ Els (Rp.int .i64) (bl Z0 ++ A) w' ff q.single ∧ Fr (bl [.blk gP (.cells #[.int .i64 a0.Enum.Points, .bool a0.Enum.Monoid, .slice aK aJ aL, .slice eQ eP eU, .slice eF eC eG, .slice fy fx fA, .slice aT aM aU, .slice eW eV eX, .int .i64 a0.Enum.Done, .map (some aV), .slice gz gy gA, .slice gp gn gq, .slice bU bT bV] 72 (0, 0)), .row 26 1 aK aJ aL er, .row 26 1 eQ eP eU gR, .row 3 1 eF eC eG gM, .row 3 1 fy fx fA g7, .row 26 1 aT aM aU d8, .row 39 2 eW eV eX gS, .row 9 1 gz gy gA jH, .row 3 1 gp gn gq iV, .row 3 1 bU bT bV fL, .any (mapE (fun a : List UInt8 => Value.string (gstr a)) (fun a : Int => Value.int .i64 a) aV a0.number)]) w0 (bl Z0) w' ∧ K r0 q) [.blk gP (.cells #[.int .i64 q.Enum.Points, .bool q.Enum.Monoid, .slice bn bm bo, .slice aY aX a7, .slice aR aQ aS, .slice bq bp bt, .slice a9 a8 ba, .slice bf bc bg, .int .i64 q.Enum.Done, .map (some aV), .slice de db dg, .slice cJ cI cK, .slice cM cL cN] 72 (0, 0)), .row 26 1 bn bm bo dG, .row 26 1 aY aX a7 dk, .row 3 1 aR aQ aS c5, .row 3 1 bq bp bt dH, .row 26 1 a9 a8 ba dl, .row 39 2 bf bc bg dm, .row 9 1 de db dg fI, .row 3 1 cJ cI cK fe, .row 3 1 cM cL cN ff, .any (mapE (fun a : List UInt8 => Value.string (gstr a)) (fun a : Int => Value.int .i64 a) aV q.number)]) := by
 refine CallsV.of (l := [.pointer (some ⟨gP, 0, none⟩)]) Try.func51 rfl Try.ntmps51 rfl ?_
 have hB := Fr.refl (bl [.blk gP (.cells #[.int .i64 a0.Enum.Points, .bool a0.Enum.Monoid, .slice aK aJ aL, .slice eQ eP eU, .slice eF eC eG, .slice fy fx fA, .slice aT aM aU, .slice eW eV eX, .int .i64 a0.Enum.Done, .map (some aV), .slice gz gy gA, .slice gp gn gq, .slice bU bT bV] 72 (0, 0)), .row 26 1 aK aJ aL er, .row 26 1 eQ eP eU gR, .row 3 1 eF eC eG gM, .row 3 1 fy fx fA g7, .row 26 1 aT aM aU d8, .row 39 2 eW eV eX gS, .row 9 1 gz gy gA jH, .row 3 1 gp gn gq iV, .row 3 1 bU bT bV fL, .any (mapE (fun a : List UInt8 => Value.string (gstr a)) (fun a : Int => Value.int .i64 a) aV a0.number)]) w0
 unfold enumerate_run_process at H
 refine zq (zr (za rfl (zn (zq (zr ?_)))))
 refine zm rfl (zo (op_nilCheck rfl) (zo (op_fieldAddr Try.underlying72 rfl ti29 rfl (by decide)) (zo (op_fieldAddr Try.underlying29 rfl ti3 rfl (by decide)) (zs (oblk (i := 8) 0 hO rfl rfl Try.underlying3 rfl rfl) (za rfl ?_)))))
 refine zn (zq (zr (zm rfl (zo (op_nilCheck rfl) (zo (op_fieldAddr Try.underlying72 rfl ti29 rfl (by decide)) ?_)))))
 refine zo (op_fieldAddr Try.underlying29 rfl ti22 rfl (by decide)) (zs (oblk (i := 2) 0 hO rfl rfl Try.underlying22 rfl rfl) (zo (op_lenN Try.underlying22 rfl (ab.neq hO 1 rfl)) ?_))
 obtain ⟨h8, H⟩ := H
 obtain ⟨h9, H⟩ := H
 have hobt := omake (n := (a0.Enum.Gens.length : Int)) (r := Rp.int .i64) (d := (0 : Int)) Try.underlying26 ti3 (fun _ _ => rfl) rfl hO h8 h9 (by decide)
 obtain ⟨w1, p2, vs3, nv, hE5, hs6, zY⟩ := hobt
 refine zg (zY rfl rfl) ?_
 replace hO := nv.own
 refine za rfl (zn (zq (zq (zr (zm rfl ?_)))))
 refine zo (op_nilCheck rfl) (zo (op_fieldAddr Try.underlying72 rfl ti29 rfl (by decide)) (zo (op_fieldAddr Try.underlying29 rfl ti22 rfl (by decide)) (zs (oblk (i := 2) 1 hO rfl rfl Try.underlying22 rfl rfl) ?_)))
 replace ab := ab.ch nv.ch
 refine zo (op_lenN Try.underlying22 rfl (ab.neq hO 2 rfl)) (zm rfl (zn (zb ?_)))
 replace xx := xx.ch nv.ch
 replace wB := wB.ch nv.ch
 replace xK := xK.ch nv.ch
 replace ac := ac.ch nv.ch
 replace xz := xz.ch nv.ch
 replace AW := AW.ch nv.ch
 replace z6 := z6.ch nv.ch
 replace ae := ae.ch nv.ch
 replace hB := hB.trans nv.fr
 refine Go1.loopW (S := Nat × List Int × List (List Int) × List Int × List Int × List Rule × List Str × List Int × (List (Str × Int))) (fun s σ w => match s with | (k1_12, d_13, d_16, d_22, d_28, d_34, d_40, d_46, m1_52) => ∃ (lB : List Value), ∃ (n21 : Nat), ∃ (p19 : Option Addr), ∃ (c20 : Nat), ∃ (qF : List Value), ∃ (n27 : Nat), ∃ (p25 : Option Addr), ∃ (c26 : Nat), ∃ (ru : List Value), ∃ (n33 : Nat), ∃ (p31 : Option Addr), ∃ (c32 : Nat), ∃ (rv : List Value), ∃ (n39 : Nat), ∃ (p37 : Option Addr), ∃ (c38 : Nat), ∃ (ry : List Value), ∃ (n45 : Nat), ∃ (p43 : Option Addr), ∃ (c44 : Nat), ∃ (rz : List Value), ∃ (n51 : Nat), ∃ (p49 : Option Addr), ∃ (c50 : Nat), ∃ (rB : List Value), agrees σ [(0, .pointer (some ⟨gP, 0, none⟩)), (3, .int .i64 a0.Enum.Done), (4, .slice p2 a0.Enum.Gens.length a0.Enum.Gens.length), (27, .slice aK aJ aL), (28, .int .i64 (a0.Enum.Gens.length : Int)), (29, .int .i64 (k1_12 : Int))] ∧ (fun Z0 => Owns n0 w Z0 A ∧ Els (Rp.int .i64) (bl Z0 ++ A) w lB d_13 ∧ Els (Rp.sl (Rp.int .i64)) (bl Z0 ++ A) w er a0.Enum.Gens ∧ Els (Rp.sl (Rp.int .i64)) (bl Z0 ++ A) w qF d_16 ∧ Els (Rp.int .i64) (bl Z0 ++ A) w ru d_22 ∧ Els (Rp.int .i64) (bl Z0 ++ A) w rv d_28 ∧ Els (Rp.sl (Rp.int .i64)) (bl Z0 ++ A) w d8 a0.Enum.Right ∧ Els (rpRule) (bl Z0 ++ A) w ry d_34 ∧ Els (Rp.str) (bl Z0 ++ A) w rz d_40 ∧ Els (Rp.int .i64) (bl Z0 ++ A) w rB d_46 ∧ Els (Rp.int .i64) (bl Z0 ++ A) w fL a0.single ∧ Fr (bl [.blk gP (.cells #[.int .i64 a0.Enum.Points, .bool a0.Enum.Monoid, .slice aK aJ aL, .slice eQ eP eU, .slice eF eC eG, .slice fy fx fA, .slice aT aM aU, .slice eW eV eX, .int .i64 a0.Enum.Done, .map (some aV), .slice gz gy gA, .slice gp gn gq, .slice bU bT bV] 72 (0, 0)), .row 26 1 aK aJ aL er, .row 26 1 eQ eP eU gR, .row 3 1 eF eC eG gM, .row 3 1 fy fx fA g7, .row 26 1 aT aM aU d8, .row 39 2 eW eV eX gS, .row 9 1 gz gy gA jH, .row 3 1 gp gn gq iV, .row 3 1 bU bT bV fL, .any (mapE (fun a : List UInt8 => Value.string (gstr a)) (fun a : Int => Value.int .i64 a) aV a0.number)]) w0 (bl Z0) w) [.row 3 1 p2 a0.Enum.Gens.length a0.Enum.Gens.length lB, .blk gP (.cells #[.int .i64 a0.Enum.Points, .bool a0.Enum.Monoid, .slice aK aJ aL, .slice p19 n21 c20, .slice p25 n27 c26, .slice p31 n33 c32, .slice aT aM aU, .slice p37 n39 c38, .int .i64 a0.Enum.Done, .map (some aV), .slice p43 n45 c44, .slice p49 n51 c50, .slice bU bT bV] 72 (0, 0)), .row 26 1 aK aJ aL er, .row 26 1 p19 n21 c20 qF, .row 3 1 p25 n27 c26 ru, .row 3 1 p31 n33 c32 rv, .row 26 1 aT aM aU d8, .row 39 2 p37 n39 c38 ry, .row 9 1 p43 n45 c44 rz, .row 3 1 p49 n51 c50 rB, .row 3 1 bU bT bV fL, .any (mapE (fun a : List UInt8 => Value.string (gstr a)) (fun a : Int => Value.int .i64 a) aV m1_52)]) H ⟨vs3, eP, eQ, eU, gR, eC, eF, eG, gM, fx, fy, fA, g7, eV, eW, eX, gS, gy, gz, gA, jH, gn, gp, gq, iV, ⟨rfl, rfl, rfl, rfl, rfl, rfl, trivial⟩, hO, hE5, ab, xx, wB, xK, ac, xz, AW, z6, ae, hB⟩ ?_
 intro X1
 refine prE fun k1_12 => prE fun d_13 => prE fun d_16 => prE fun d_22 => prE fun d_28 => prE fun d_34 => prE fun d_40 => prE fun d_46 => fun m1_52 => ?_
 intro H hX1 σ w11
 refine exE fun lB => exE fun n21 => exE fun p19 => exE fun c20 => exE fun qF => exE fun n27 => exE fun p25 => exE fun c26 => exE fun ru => exE fun n33 => exE fun p31 => exE fun c32 => exE fun rv => exE fun n39 => exE fun p37 => exE fun c38 => exE fun ry => exE fun n45 => exE fun p43 => exE fun c44 => exE fun rz => exE fun n51 => exE fun p49 => exE fun c50 => exE fun rB => andE fun hag => andE fun hO => andE fun cH => andE fun ab => andE fun fG => andE fun d9 => andE fun dK => andE fun ac => andE fun cV => andE fun cS => andE fun cQ => andE fun ae => fun hB => ?_
 dsimp only at H
 refine Go1.keep [(0, .pointer (some ⟨gP, 0, none⟩)), (3, .int .i64 a0.Enum.Done), (4, .slice p2 a0.Enum.Gens.length a0.Enum.Gens.length), (27, .slice aK aJ aL), (28, .int .i64 (a0.Enum.Gens.length : Int)), (29, .int .i64 (k1_12 : Int))] hag ?_
 refine zq (zr ?_)
 by_cases h53 : (k1_12 : Int) < (a0.Enum.Gens.length : Int)
 ·replace H := ifp h53 H
  refine zo (fun w => opB (op_lss rfl rfl w) (decide_eq_true h53)) (zn (zq (zt rfl rfl (zk (zq ?_)))))
  refine zb (zq (zr (zm rfl ?_)))
  obtain ⟨h54, H⟩ := H
  obtain ⟨h55, H⟩ := H
  refine zo (op_index Try.underlying22 ti26 rfl rfl h54 (ltn (ab.neq hO 2 rfl) h55) (ab.psome hO 2 rfl h54 h55)) ?_
  have hobt := oldSl 2 hO rfl ab h54 h55
  obtain ⟨p56, c57, di, Tq⟩ := hobt
  refine zs (Tq Try.underlying26 rfl rfl) (za rfl (za rfl (zn (zq (zr ?_)))))
  refine zm rfl (zo (op_nilCheck rfl) (zo (op_fieldAddr Try.underlying72 rfl ti29 rfl (by decide)) (zo (op_fieldAddr Try.underlying29 rfl ti22 rfl (by decide)) (zs (oblk (i := 3) 1 hO rfl rfl Try.underlying22 rfl rfl) (zm rfl ?_)))))
  obtain ⟨h60, H⟩ := H
  obtain ⟨h61, H⟩ := H
  refine zo (op_index Try.underlying22 ti26 rfl rfl h60 (ltn (fG.neq hO 3 rfl) h61) (fG.psome hO 3 rfl h60 h61)) ?_
  have hobt := oldSl 3 hO rfl fG h60 h61
  obtain ⟨p62, c63, dj, Tr⟩ := hobt
  refine zs (Tr Try.underlying26 rfl rfl) (zm rfl ?_)
  refine GoR.call (op_call body37 rfl (walk_trans_Compose hO.lt dj di H)) rfl rfl ?_
  rintro v70 w67 ⟨r66, wc, we, rfl, FS, co, H⟩
  have iP := Stp.same hO FS
  replace hO := iP.own
  refine za rfl (zn (zq ?_))
  refine Go1.drawS 0 [(0, .pure), (1, .pure), (2, .pure), (3, .stable), (4, .pure), (5, .loud), (6, .stable), (7, .pure), (8, .pure), (9, .pure), (10, .pure), (11, .pure)] mixed (by kernel_rfl) ?_
  intro w72 Ts
  have i5 := Stp.same hO Ts
  replace hO := i5.own
  refine GoQ.pure rfl (op_move rfl) rfl rfl ?_
  refine GoQ.pure rfl (op_nilCheck rfl) rfl rfl ?_
  refine GoQ.pure rfl (op_fieldAddr Try.underlying72 rfl ti69 rfl (by decide)) rfl rfl ?_
  refine GoQ.stable rfl (oblk (i := 9) 1 hO rfl rfl Try.underlying69 rfl rfl) rfl rfl ?_
  refine GoQ.pure rfl (op_move rfl) rfl rfl ?_
  replace co := co.ch i5.ch
  refine GoQ.call rfl (op_call body61 rfl (walk_enumerate_text hO.lt co H)) (fun v w hr => by obtain ⟨_, _, hs, _, _⟩ := hr; assumption) rfl rfl ?_
  rintro v79 w76 ⟨r75, rfl, H2, VR, H⟩
  have k8 := Stp.same hO H2
  replace hO := k8.own
  by_cases h81 : mhas m1_52 r75 = true
  ·replace H := ifp h81 H
   refine GoQ.stable rfl (olookT (a := r75) (MK.str Try.underlying9) 11 hO rfl Try.underlying69 rfl rfl h81) rfl rfl ?_
   refine GoQ.pure rfl (op_move rfl) rfl rfl ?_
   refine GoQ.pure rfl (op_extract rfl rfl) rfl rfl ?_
   refine GoQ.pure rfl (op_extract rfl rfl) rfl rfl ?_
   refine GoQ.pure rfl (op_assign rfl) rfl rfl ?_
   refine GoQ.pure rfl (op_assign rfl) rfl rfl ?_
   refine GoQ.nil ?_
   refine zq ?_
   refine Go1.cut [(0, .pointer (some ⟨gP, 0, none⟩)), (3, .int .i64 a0.Enum.Done), (4, .slice p2 a0.Enum.Gens.length a0.Enum.Gens.length), (5, .int .i64 (k1_12 : Int)), (7, .slice wc r66.length we), (8, .int .i64 (mgt m1_52 r75)), (9, .bool true), (27, .slice aK aJ aL), (28, .int .i64 (a0.Enum.Gens.length : Int)), (29, .int .i64 (k1_12 : Int))] ⟨rfl, rfl, rfl, rfl, rfl, rfl, rfl, rfl, rfl, rfl, trivial⟩ ?_
   intro σ _
   refine zr (zm rfl (zo (op_nilCheck rfl) (zo (op_fieldAddr Try.underlying72 rfl ti70 rfl (by decide)) (zs (oblk (i := 10) 1 hO rfl rfl Try.underlying70 rfl rfl) (zm rfl ?_)))))
   obtain ⟨h82, H⟩ := H
   obtain ⟨h83, H⟩ := H
   have Z1 := (iP.ch.trans i5.ch).trans k8.ch
   replace cS := cS.ch Z1
   refine zo (op_index Try.underlying70 ti9 rfl rfl h82 (ltn (cS.neq hO 8 rfl) h83) (cS.psome hO 8 rfl h82 h83)) (zs (oldStr 8 hO rfl cS h82 h83 Try.underlying9 rfl rfl) ?_)
   have hle84 := Els.str_le cS h82 h83
   refine zm rfl ?_
   obtain ⟨h85, H⟩ := H
   refine zo (op_add rfl rfl (wrap_i64 h85)) (zo (op_conv Try.underlying3 Try.underlying21 rfl rfl) ?_)
   obtain ⟨h86, H⟩ := H
   obtain ⟨h87, H⟩ := H
   refine zo (op_convRS Try.underlying21 Try.underlying9 rfl h86 h87) ?_
   obtain ⟨h88, H⟩ := H
   refine zo (op_addS rfl rfl h88) (za rfl (zn (zq (zb (zq ?_)))))
   refine zr (zm rfl (zo (op_not rfl) (zm rfl (zp (zp ?_)))))
   refine zp (zp (zp (zp (zp (zo (op_pickF rfl rfl rfl) ?_)))))
   refine za rfl (zn (zf rfl rfl (zq ?_)))
   refine Go1.cut [(0, .pointer (some ⟨gP, 0, none⟩)), (3, .int .i64 a0.Enum.Done), (4, .slice p2 a0.Enum.Gens.length a0.Enum.Gens.length), (5, .int .i64 (k1_12 : Int)), (7, .slice wc r66.length we), (8, .int .i64 (mgt m1_52 r75)), (9, .bool true), (10, .string (gstr ((ix d_40 a0.Enum.Done) ++ (chr (IntKind.i32.wrap ((97 : Int) + (k1_12 : Int))))))), (27, .slice aK aJ aL), (28, .int .i64 (a0.Enum.Gens.length : Int)), (29, .int .i64 (k1_12 : Int))] ⟨rfl, rfl, rfl, rfl, rfl, rfl, rfl, rfl, rfl, rfl, rfl, trivial⟩ ?_
   intro σ _
   refine zr (zm rfl (zo (op_not rfl) (za rfl (zn (zf rfl rfl ?_)))))
   refine zq (zr (zm rfl (zo (op_nilCheck rfl) (zo (op_fieldAddr Try.underlying72 rfl ti70 rfl (by decide)) (zs (oblk (i := 10) 1 hO rfl rfl Try.underlying70 rfl rfl) ?_)))))
   refine zm rfl ?_
   obtain ⟨h89, H⟩ := H
   obtain ⟨h90, H⟩ := H
   refine zo (op_index Try.underlying70 ti9 rfl rfl h89 (ltn (cS.neq hO 8 rfl) h90) (cS.psome hO 8 rfl h89 h90)) (zs (oldStr 8 hO rfl cS h89 h90 Try.underlying9 rfl rfl) ?_)
   have hle91 := Els.str_le cS h89 h90
   by_cases h92 : (ix d_40 a0.Enum.Done) = (([] : Str))
   ·replace H := ifp h92 H
    refine zo (fun w => opB (op_neqS rfl rfl w) (ndT h92)) (zm rfl (zp (zp (zp (zp ?_)))))
    refine zp (zp (zp (zp (zp (zp ?_)))))
    refine zo (op_pickF rfl rfl rfl) (za rfl (zn (zf rfl rfl (zk ?_))))
    refine Go1.inBlock ?_
    refine Go1.cut [(0, .pointer (some ⟨gP, 0, none⟩)), (3, .int .i64 a0.Enum.Done), (4, .slice p2 a0.Enum.Gens.length a0.Enum.Gens.length), (5, .int .i64 (k1_12 : Int)), (8, .int .i64 (mgt m1_52 r75)), (27, .slice aK aJ aL), (28, .int .i64 (a0.Enum.Gens.length : Int)), (29, .int .i64 (k1_12 : Int))] ⟨rfl, rfl, rfl, rfl, rfl, rfl, rfl, rfl, trivial⟩ ?_
    intro σ _
    refine zr (zm rfl (zm rfl (zm rfl ?_)))
    obtain ⟨h93, H⟩ := H
    obtain ⟨h94, H⟩ := H
    replace cH := cH.ch Z1
    refine zo (op_index Try.underlying26 ti3 rfl rfl h93 (ltn (cH.neq hO 0 rfl) h94) (cH.psome hO 0 rfl h93 h94)) ?_
    have hobt := ost (r := Rp.int .i64) rfl 0 hO rfl cH h93 h94 (v := .int .i64 (mgt m1_52 r75)) (u := (mgt m1_52 r75)) rfl rfl
    obtain ⟨w95, Tt, uj, K5, OS⟩ := hobt
    dsimp only [sS, sZ] at uj K5
    refine zg (OS Try.underlying3 rfl ti3 (by exact rfl) (by exact rfl)) ?_
    replace hO := uj.own
    refine zn ?_
    refine Go1.inBlock ?_
    refine zr ?_
    replace ab := (ab.ch Z1).ch uj.ch
    refine zo (op_add rfl rfl (wrap_i64 (natbd h53 ab.bd))) (zm rfl (zn ?_))
    replace cS := cS.ch uj.ch
    have Z2 := Z1.trans uj.ch
    replace fG := fG.ch Z2
    replace d9 := d9.ch Z2
    replace dK := dK.ch Z2
    replace ac := ac.ch Z2
    replace cV := cV.ch Z2
    replace cQ := cQ.ch Z2
    replace ae := ae.ch Z2
    replace hB := (((hB.trans iP.fr).trans i5.fr).trans k8.fr).trans uj.fr
    exact hX1 _ H _ _ ⟨Tt, n21, p19, c20, qF, n27, p25, c26, ru, n33, p31, c32, rv, n39, p37, c38, ry, n45, p43, c44, rz, n51, p49, c50, rB, ⟨rfl, rfl, rfl, rfl, rfl, rfl, trivial⟩, hO, K5, ab, fG, d9, dK, ac, cV, cS, cQ, ae, hB⟩
   replace H := ifn h92 H
   refine zo (fun w => opB (op_neqS rfl rfl w) (ndF h92)) (zm rfl (zm rfl (zm rfl (zo (op_nilCheck rfl) (zo (op_fieldAddr Try.underlying72 rfl ti26 rfl (by decide)) ?_)))))
   refine zs (oblk (i := 11) 1 hO rfl rfl Try.underlying26 rfl rfl) (zm rfl ?_)
   obtain ⟨xL, H⟩ := H
   obtain ⟨tW, H⟩ := H
   replace cQ := cQ.ch Z1
   refine zo (op_index Try.underlying26 ti3 rfl rfl xL (ltn (cQ.neq hO 9 rfl) tW) (cQ.psome hO 9 rfl xL tW)) (zs (oldInt 9 hO rfl cQ xL tW Try.underlying3 rfl rfl) (zm rfl ?_))
   refine GoR.inl (vs := [.pointer (some ⟨gP, 0, none⟩), .int .i64 (ix d_46 a0.Enum.Done), .int .i64 (k1_12 : Int)]) (caps := []) rfl rfl body67 Try.func67 rfl Try.ntmps67 rfl rfl rfl ?_
   intro RhR102 hR102
   refine zq (zr (za rfl (zn (zq ?_))))
   refine Go1.cut [(0, .pointer (some ⟨gP, 0, none⟩)), (1, .int .i64 (ix d_46 a0.Enum.Done)), (2, .int .i64 (k1_12 : Int))] ⟨rfl, rfl, rfl, trivial⟩ ?_
   intro σ _
   refine zr (zm rfl (zm rfl (zm rfl ?_)))
   refine GoR.inl (vs := [.pointer (some ⟨gP, 0, none⟩), .int .i64 (ix d_46 a0.Enum.Done), .int .i64 (k1_12 : Int)]) (caps := []) rfl rfl body66 Try.func66 rfl Try.ntmps66 rfl rfl rfl ?_
   intro RhR103 hR103
   refine zq (zr (za rfl (zn (zq (zq ?_)))))
   refine zr (zm rfl ?_)
   by_cases BC : (ix d_46 a0.Enum.Done) = (-1 : Int)
   ·replace H := ifp BC H
    refine zo (fun w => opB (op_eql rfl rfl w) (decide_eq_true BC)) (zn (zt rfl rfl (zq (zr (zm rfl ?_)))))
    refine zo (op_nilCheck rfl) (zo (op_fieldAddr Try.underlying72 rfl ti26 rfl (by decide)) (zs (oblk (i := 12) 1 hO rfl rfl Try.underlying26 rfl rfl) (zm rfl ?_)))
    obtain ⟨vc, H⟩ := H
    obtain ⟨vd, H⟩ := H
    replace ae := ae.ch Z1
    refine zo (op_index Try.underlying26 ti3 rfl rfl vc (ltn (ae.neq hO 10 rfl) vd) (ae.psome hO 10 rfl vc vd)) (zs (oldInt 10 hO rfl ae vc vd Try.underlying3 rfl rfl) (za rfl (zn ?_)))
    refine Go1.ret1V Try.func66 rfl (show _ = .int .i64 (ix a0.single (k1_12 : Int)) from rfl) ?_
    refine hR103 _ _ ?_
    refine za rfl (zn (zq (zr (zm rfl (zo (op_nilCheck rfl) ?_)))))
    refine zo (op_fieldAddr Try.underlying72 rfl ti29 rfl (by decide)) (zo (op_fieldAddr Try.underlying29 rfl ti26 rfl (by decide)) (zs (oblk (i := 4) 1 hO rfl rfl Try.underlying26 rfl rfl) (zm rfl ?_)))
    obtain ⟨zW, H⟩ := H
    obtain ⟨zX, H⟩ := H
    replace d9 := d9.ch Z1
    refine zo (op_index Try.underlying26 ti3 rfl rfl zW (ltn (d9.neq hO 4 rfl) zX) (d9.psome hO 4 rfl zW zX)) (zs (oldInt 4 hO rfl d9 zW zX Try.underlying3 rfl rfl) (zm rfl ?_))
    by_cases CJ : (ix d_22 (ix a0.single (k1_12 : Int))) = (ix d_46 a0.Enum.Done)
    ·replace H := ifp CJ H
     refine zo (fun w => opB (op_eql rfl rfl w) (decide_eq_true CJ)) (zm rfl (zm rfl (zo (op_nilCheck rfl) (zo (op_fieldAddr Try.underlying72 rfl ti29 rfl (by decide)) (zo (op_fieldAddr Try.underlying29 rfl ti26 rfl (by decide)) ?_)))))
     refine zs (oblk (i := 5) 1 hO rfl rfl Try.underlying26 rfl rfl) (zm rfl ?_)
     obtain ⟨DG, H⟩ := H
     obtain ⟨DH, H⟩ := H
     replace dK := dK.ch Z1
     refine zo (op_index Try.underlying26 ti3 rfl rfl DG (ltn (dK.neq hO 5 rfl) DH) (dK.psome hO 5 rfl DG DH)) (zs (oldInt 5 hO rfl dK DG DH Try.underlying3 rfl rfl) (zm rfl ?_))
     by_cases Gt : (ix d_28 (ix a0.single (k1_12 : Int))) = (k1_12 : Int)
     ·replace H := ifp Gt H
      refine zo (fun w => opB (op_eql rfl rfl w) (decide_eq_true Gt)) (zo (op_pickT rfl rfl rfl) (za rfl (zn ?_)))
      refine Go1.ret1V Try.func67 rfl (show _ = .bool true from rfl) ?_
      refine hR102 _ _ ?_
      refine zo (op_pickT rfl rfl rfl) (za rfl (zn (zt rfl rfl ?_)))
      refine Go1.cut [(0, .pointer (some ⟨gP, 0, none⟩)), (3, .int .i64 a0.Enum.Done), (4, .slice p2 a0.Enum.Gens.length a0.Enum.Gens.length), (5, .int .i64 (k1_12 : Int)), (8, .int .i64 (mgt m1_52 r75)), (10, .string (gstr ((ix d_40 a0.Enum.Done) ++ (chr (IntKind.i32.wrap ((97 : Int) + (k1_12 : Int))))))), (27, .slice aK aJ aL), (28, .int .i64 (a0.Enum.Gens.length : Int)), (29, .int .i64 (k1_12 : Int))] ⟨rfl, rfl, rfl, rfl, rfl, rfl, rfl, rfl, rfl, trivial⟩ ?_
      intro σ _
      refine Go1.drawS 5 [(0, .pure), (1, .pure), (2, .pure), (3, .pure), (4, .pure), (5, .stable), (6, .pure), (7, .pure), (8, .pure), (9, .pure), (10, .stable), (11, .pure), (12, .pure), (13, .stable), (14, .pure), (15, .loud), (16, .last), (17, .pure), (18, .pure), (19, .pure), (20, .last)] mixed (by kernel_rfl) ?_
      intro Yk OT
      have rC := Stp.same hO OT
      replace hO := rC.own
      refine GoQ.pure rfl (op_move rfl) rfl rfl ?_
      refine GoQ.pure rfl (op_move rfl) rfl rfl ?_
      refine GoQ.pure rfl (op_nilCheck rfl) rfl rfl ?_
      refine GoQ.pure rfl (op_fieldAddr Try.underlying72 rfl ti29 rfl (by decide)) rfl rfl ?_
      refine GoQ.pure rfl (op_fieldAddr Try.underlying29 rfl ti27 rfl (by decide)) rfl rfl ?_
      refine GoQ.stable rfl (oblk (i := 7) 1 hO rfl rfl Try.underlying27 rfl rfl) rfl rfl ?_
      refine GoQ.pure rfl (op_move rfl) rfl rfl ?_
      refine GoQ.pure rfl (op_move rfl) rfl rfl ?_
      refine GoQ.pure rfl (op_nilCheck rfl) rfl rfl ?_
      refine GoQ.pure rfl (op_fieldAddr Try.underlying72 rfl ti70 rfl (by decide)) rfl rfl ?_
      refine GoQ.stable rfl (oblk (i := 10) 1 hO rfl rfl Try.underlying70 rfl rfl) rfl rfl ?_
      refine GoQ.pure rfl (op_move rfl) rfl rfl ?_
      obtain ⟨Cs, H⟩ := H
      obtain ⟨Gu, H⟩ := H
      replace cS := cS.ch rC.ch
      refine GoQ.pure rfl (op_index Try.underlying70 ti9 rfl rfl Cs (ltn (cS.neq hO 8 rfl) Gu) (cS.psome hO 8 rfl Cs Gu)) rfl rfl ?_
      refine GoQ.stable rfl (oldStr 8 hO rfl cS Cs Gu Try.underlying9 rfl rfl) rfl rfl ?_
      have hle118 := Els.str_le cS Cs Gu
      refine GoQ.pure rfl (op_build Try.underlying39 ti39 (pl := [(0, 1), (1, 1)]) (vs := [(0, .string (gstr ((ix d_40 a0.Enum.Done) ++ (chr (IntKind.i32.wrap ((97 : Int) + (k1_12 : Int))))))), (1, .string (gstr (ix d_40 (mgt m1_52 r75))))]) (cs := #[.string (gstr ((ix d_40 a0.Enum.Done) ++ (chr (IntKind.i32.wrap ((97 : Int) + (k1_12 : Int)))))), .string (gstr (ix d_40 (mgt m1_52 r75)))]) (by kernel_rfl) rfl (by kernel_rfl)) rfl rfl ?_
      have hobt := obuildN (r := rpRule) (n := 1) (parts := [(0, .agg #[.string (gstr ((ix d_40 a0.Enum.Done) ++ (chr (IntKind.i32.wrap ((97 : Int) + (k1_12 : Int)))))), .string (gstr (ix d_40 (mgt m1_52 r75)))])]) (vs := [.string (gstr ((ix d_40 a0.Enum.Done) ++ (chr (IntKind.i32.wrap ((97 : Int) + (k1_12 : Int)))))), .string (gstr (ix d_40 (mgt m1_52 r75)))]) (xs := [(⟨(ix d_40 a0.Enum.Done) ++ (chr (IntKind.i32.wrap ((97 : Int) + (k1_12 : Int)))), ix d_40 (mgt m1_52 r75)⟩ : Rule)]) Try.underlying27 ti39 hO (by decide) (by decide) (by kernel_rfl) (Els.flat1 (⟨(ix d_40 a0.Enum.Done) ++ (chr (IntKind.i32.wrap ((97 : Int) + (k1_12 : Int)))), ix d_40 (mgt m1_52 r75)⟩ : Rule) ⟨(lenApp h88), hle118⟩) rfl
      obtain ⟨Yl, mh, rD, OU, Gv, K6⟩ := hobt
      refine GoQ.loud rfl (K6 rfl) Gv rfl rfl ?_
      replace hO := rD.own
      have hobt := freeze 0 hO rfl OU
      obtain ⟨hO1, vw, Ao, OV⟩ := hobt
      dsimp only [eS, eZ] at hO1 vw Ao
      replace hB := (((((hB.trans iP.fr).trans i5.fr).trans k8.fr).trans rC.fr).trans rD.fr).trans (Owns.dropFr _ _ 0)
      dsimp only [eS, eZ] at hB
      replace hO := hO1; clear hO1
      obtain ⟨Dr, H⟩ := H
      have Z3 := ((Z1.trans rC.ch).trans rD.ch).trans vw
      replace cV := cV.ch Z3
      have hobt := oapp Try.underlying27 ti39 rfl 7 hO rfl cV Ao OV Dr (by decide)
      obtain ⟨Tu, lR, lT, uk, gX, iw, FA⟩ := hobt
      dsimp only [sS, sZ] at gX iw
      refine GoQ.last rfl (FA (by exact rfl) (by exact rfl)) rfl rfl ?_
      replace hO := gX.own
      refine GoQ.pure rfl (op_nilCheck rfl) rfl rfl ?_
      refine GoQ.pure rfl (op_fieldAddr Try.underlying72 rfl ti29 rfl (by decide)) rfl rfl ?_
      refine GoQ.pure rfl (op_fieldAddr Try.underlying29 rfl ti27 rfl (by decide)) rfl rfl ?_
      have hobt := oblkSt2 (v := .slice lR (n39 + 1) lT) (i := 7) (cs' := #[.int .i64 a0.Enum.Points, .bool a0.Enum.Monoid, .slice aK aJ aL, .slice p19 n21 c20, .slice p25 n27 c26, .slice p31 n33 c32, .slice aT aM aU, .slice lR (n39 + 1) lT, .int .i64 a0.Enum.Done, .map (some aV), .slice p43 n45 c44, .slice p49 n51 c50, .slice bU bT bV]) 1 hO rfl rfl rfl rfl
      obtain ⟨Ym, pY, K7⟩ := hobt
      dsimp only [sS, sZ] at pY
      refine GoQ.last rfl (K7 Try.underlying27 rfl ti27 (by exact rfl) (by exact rfl)) rfl rfl ?_
      replace hO := pY.own
      refine GoQ.nil ?_
      refine Go1.inBlock ?_
      refine Go1.cut [(0, .pointer (some ⟨gP, 0, none⟩)), (3, .int .i64 a0.Enum.Done), (4, .slice p2 a0.Enum.Gens.length a0.Enum.Gens.length), (5, .int .i64 (k1_12 : Int)), (8, .int .i64 (mgt m1_52 r75)), (27, .slice aK aJ aL), (28, .int .i64 (a0.Enum.Gens.length : Int)), (29, .int .i64 (k1_12 : Int))] ⟨rfl, rfl, rfl, rfl, rfl, rfl, rfl, rfl, trivial⟩ ?_
      intro σ _
      refine zr (zm rfl (zm rfl (zm rfl ?_)))
      obtain ⟨H3, H⟩ := H
      obtain ⟨Ff, H⟩ := H
      replace cH := ((cH.ch Z3).ch gX.ch).ch pY.ch
      refine zo (op_index Try.underlying26 ti3 rfl rfl H3 (ltn (cH.neq hO 0 rfl) Ff) (cH.psome hO 0 rfl H3 Ff)) ?_
      have hobt := ost (r := Rp.int .i64) rfl 0 hO rfl cH H3 Ff (v := .int .i64 (mgt m1_52 r75)) (u := (mgt m1_52 r75)) rfl rfl
      obtain ⟨Yn, OW, iE, Jf, K8⟩ := hobt
      dsimp only [sS, sZ] at iE Jf
      refine zg (K8 Try.underlying3 rfl ti3 (by exact rfl) (by exact rfl)) ?_
      replace hO := iE.own
      refine zn ?_
      refine Go1.inBlock ?_
      refine zr ?_
      have Z4 := ((Z3.trans gX.ch).trans pY.ch).trans iE.ch
      replace ab := ab.ch Z4
      refine zo (op_add rfl rfl (wrap_i64 (natbd h53 ab.bd))) (zm rfl (zn ?_))
      replace iw := (iw.ch pY.ch).ch iE.ch
      replace hB := ((hB.trans gX.fr).trans pY.fr).trans iE.fr
      have Z5 := (((rD.ch.trans vw).trans gX.ch).trans pY.ch).trans iE.ch
      replace cS := cS.ch Z5
      have Z6 := ((((rC.ch.trans rD.ch).trans vw).trans gX.ch).trans pY.ch).trans iE.ch
      replace d9 := d9.ch Z6
      replace dK := dK.ch Z6
      replace cQ := cQ.ch Z6
      replace ae := ae.ch Z6
      replace fG := fG.ch Z4
      replace ac := ac.ch Z4
      exact hX1 _ H _ _ ⟨OW, n21, p19, c20, qF, n27, p25, c26, ru, n33, p31, c32, rv, n39 + 1, lR, lT, uk, n45, p43, c44, rz, n51, p49, c50, rB, ⟨rfl, rfl, rfl, rfl, rfl, rfl, trivial⟩, hO, Jf, ab, fG, d9, dK, ac, iw, cS, cQ, ae, hB⟩
     replace H := ifn Gt H
     refine zo (fun w => opB (op_eql rfl rfl w) (decide_eq_false Gt)) (zo (op_pickT rfl rfl rfl) (za rfl (zn ?_)))
     refine Go1.ret1V Try.func67 rfl (show _ = .bool false from rfl) ?_
     refine hR102 _ _ ?_
     refine zo (op_pickT rfl rfl rfl) (za rfl (zn (zf rfl rfl (zk ?_))))
     refine Go1.inBlock ?_
     refine zr (zm rfl (zm rfl (zm rfl ?_)))
     obtain ⟨H4, H⟩ := H
     obtain ⟨H5, H⟩ := H
     replace cH := cH.ch Z1
     refine zo (op_index Try.underlying26 ti3 rfl rfl H4 (ltn (cH.neq hO 0 rfl) H5) (cH.psome hO 0 rfl H4 H5)) ?_
     have hobt := ost (r := Rp.int .i64) rfl 0 hO rfl cH H4 H5 (v := .int .i64 (mgt m1_52 r75)) (u := (mgt m1_52 r75)) rfl rfl
     obtain ⟨Tv, OX, rE, Jg, FB⟩ := hobt
     dsimp only [sS, sZ] at rE Jg
     refine zg (FB Try.underlying3 rfl ti3 (by exact rfl) (by exact rfl)) ?_
     replace hO := rE.own
     refine zn ?_
     refine Go1.inBlock ?_
     refine zr ?_
     replace ab := (ab.ch Z1).ch rE.ch
     refine zo (op_add rfl rfl (wrap_i64 (natbd h53 ab.bd))) (zm rfl (zn ?_))
     replace d9 := d9.ch rE.ch
     replace dK := dK.ch rE.ch
     replace cS := cS.ch rE.ch
     replace cQ := cQ.ch rE.ch
     replace ae := ae.ch rE.ch
     have Z7 := Z1.trans rE.ch
     replace fG := fG.ch Z7
     replace ac := ac.ch Z7
     replace cV := cV.ch Z7
     replace hB := (((hB.trans iP.fr).trans i5.fr).trans k8.fr).trans rE.fr
     exact hX1 _ H _ _ ⟨OX, n21, p19, c20, qF, n27, p25, c26, ru, n33, p31, c32, rv, n39, p37, c38, ry, n45, p43, c44, rz, n51, p49, c50, rB, ⟨rfl, rfl, rfl, rfl, rfl, rfl, trivial⟩, hO, Jg, ab, fG, d9, dK, ac, cV, cS, cQ, ae, hB⟩
    replace H := ifn CJ H
    refine zo (fun w => opB (op_eql rfl rfl w) (decide_eq_false CJ)) (zm rfl (zp (zp (zp (zp ?_)))))
    refine zp (zp (zp (zp (zp (zp ?_)))))
    refine zo (op_pickF rfl rfl rfl) (za rfl (zn ?_))
    refine Go1.ret1V Try.func67 rfl (show _ = .bool false from rfl) ?_
    refine hR102 _ _ ?_
    refine zo (op_pickT rfl rfl rfl) (za rfl (zn (zf rfl rfl (zk ?_))))
    refine Go1.inBlock ?_
    refine Go1.cut [(0, .pointer (some ⟨gP, 0, none⟩)), (3, .int .i64 a0.Enum.Done), (4, .slice p2 a0.Enum.Gens.length a0.Enum.Gens.length), (5, .int .i64 (k1_12 : Int)), (8, .int .i64 (mgt m1_52 r75)), (27, .slice aK aJ aL), (28, .int .i64 (a0.Enum.Gens.length : Int)), (29, .int .i64 (k1_12 : Int))] ⟨rfl, rfl, rfl, rfl, rfl, rfl, rfl, rfl, trivial⟩ ?_
    intro σ _
    refine zr (zm rfl (zm rfl (zm rfl ?_)))
    obtain ⟨Dv, H⟩ := H
    obtain ⟨Dw, H⟩ := H
    replace cH := cH.ch Z1
    refine zo (op_index Try.underlying26 ti3 rfl rfl Dv (ltn (cH.neq hO 0 rfl) Dw) (cH.psome hO 0 rfl Dv Dw)) ?_
    have hobt := ost (r := Rp.int .i64) rfl 0 hO rfl cH Dv Dw (v := .int .i64 (mgt m1_52 r75)) (u := (mgt m1_52 r75)) rfl rfl
    obtain ⟨Yo, OY, rF, Jh, K9⟩ := hobt
    dsimp only [sS, sZ] at rF Jh
    refine zg (K9 Try.underlying3 rfl ti3 (by exact rfl) (by exact rfl)) ?_
    replace hO := rF.own
    refine zn ?_
    refine Go1.inBlock ?_
    refine zr ?_
    replace ab := (ab.ch Z1).ch rF.ch
    refine zo (op_add rfl rfl (wrap_i64 (natbd h53 ab.bd))) (zm rfl (zn ?_))
    replace d9 := d9.ch rF.ch
    replace cS := cS.ch rF.ch
    replace cQ := cQ.ch rF.ch
    replace ae := ae.ch rF.ch
    have Z8 := Z1.trans rF.ch
    replace fG := fG.ch Z8
    replace dK := dK.ch Z8
    replace ac := ac.ch Z8
    replace cV := cV.ch Z8
    replace hB := (((hB.trans iP.fr).trans i5.fr).trans k8.fr).trans rF.fr
    exact hX1 _ H _ _ ⟨OY, n21, p19, c20, qF, n27, p25, c26, ru, n33, p31, c32, rv, n39, p37, c38, ry, n45, p43, c44, rz, n51, p49, c50, rB, ⟨rfl, rfl, rfl, rfl, rfl, rfl, trivial⟩, hO, Jh, ab, fG, d9, dK, ac, cV, cS, cQ, ae, hB⟩
   replace H := ifn BC H
   refine zo (fun w => opB (op_eql rfl rfl w) (decide_eq_false BC)) (zn (zf rfl rfl (zk (zq (zr ?_)))))
   refine zm rfl (zo (op_nilCheck rfl) (zo (op_fieldAddr Try.underlying72 rfl ti29 rfl (by decide)) (zo (op_fieldAddr Try.underlying29 rfl ti22 rfl (by decide)) (zs (oblk (i := 6) 1 hO rfl rfl Try.underlying22 rfl rfl) (zm rfl ?_)))))
   obtain ⟨Dx, H⟩ := H
   obtain ⟨Fi, H⟩ := H
   replace ac := ac.ch Z1
   refine zo (op_index Try.underlying22 ti26 rfl rfl Dx (ltn (ac.neq hO 6 rfl) Fi) (ac.psome hO 6 rfl Dx Fi)) ?_
   have hobt := oldSl 6 hO rfl ac Dx Fi
   obtain ⟨Gw, Gx, rW, O0⟩ := hobt
   refine zs (O0 Try.underlying26 rfl rfl) (zm rfl ?_)
   obtain ⟨H6, H⟩ := H
   obtain ⟨H7, H⟩ := H
   refine zo (op_index Try.underlying26 ti3 rfl rfl H6 H7 (rW.some_ H6 H7)) (zs (ldInt rW H6 H7 Try.underlying3 rfl rfl) (za rfl (zn ?_)))
   refine Go1.ret1V Try.func66 rfl (show _ = .int .i64 (ix (ix a0.Enum.Right (ix d_46 a0.Enum.Done)) (k1_12 : Int)) from rfl) ?_
   refine hR103 _ _ ?_
   refine za rfl (zn (zq ?_))
   refine Go1.cut [(0, .pointer (some ⟨gP, 0, none⟩)), (1, .int .i64 (ix d_46 a0.Enum.Done)), (2, .int .i64 (k1_12 : Int)), (7, .int .i64 (ix (ix a0.Enum.Right (ix d_46 a0.Enum.Done)) (k1_12 : Int)))] ⟨rfl, rfl, rfl, rfl, trivial⟩ ?_
   intro σ _
   refine zr (zm rfl (zo (op_nilCheck rfl) (zo (op_fieldAddr Try.underlying72 rfl ti29 rfl (by decide)) (zo (op_fieldAddr Try.underlying29 rfl ti26 rfl (by decide)) (zs (oblk (i := 4) 1 hO rfl rfl Try.underlying26 rfl rfl) ?_)))))
   refine zm rfl ?_
   obtain ⟨H8, H⟩ := H
   obtain ⟨H9, H⟩ := H
   replace d9 := d9.ch Z1
   refine zo (op_index Try.underlying26 ti3 rfl rfl H8 (ltn (d9.neq hO 4 rfl) H9) (d9.psome hO 4 rfl H8 H9)) (zs (oldInt 4 hO rfl d9 H8 H9 Try.underlying3 rfl rfl) (zm rfl ?_))
   by_cases Gy : (ix d_22 (ix (ix a0.Enum.Right (ix d_46 a0.Enum.Done)) (k1_12 : Int))) = (ix d_46 a0.Enum.Done)
   ·replace H := ifp Gy H
    refine zo (fun w => opB (op_eql rfl rfl w) (decide_eq_true Gy)) (zm rfl (zm rfl (zo (op_nilCheck rfl) (zo (op_fieldAddr Try.underlying72 rfl ti29 rfl (by decide)) (zo (op_fieldAddr Try.underlying29 rfl ti26 rfl (by decide)) ?_)))))
    refine zs (oblk (i := 5) 1 hO rfl rfl Try.underlying26 rfl rfl) (zm rfl ?_)
    obtain ⟨Cw, H⟩ := H
    obtain ⟨Ia, H⟩ := H
    replace dK := dK.ch Z1
    refine zo (op_index Try.underlying26 ti3 rfl rfl Cw (ltn (dK.neq hO 5 rfl) Ia) (dK.psome hO 5 rfl Cw Ia)) (zs (oldInt 5 hO rfl dK Cw Ia Try.underlying3 rfl rfl) (zm rfl ?_))
    by_cases Gz : (ix d_28 (ix (ix a0.Enum.Right (ix d_46 a0.Enum.Done)) (k1_12 : Int))) = (k1_12 : Int)
    ·replace H := ifp Gz H
     refine zo (fun w => opB (op_eql rfl rfl w) (decide_eq_true Gz)) (zo (op_pickT rfl rfl rfl) (za rfl (zn ?_)))
     refine Go1.ret1V Try.func67 rfl (show _ = .bool true from rfl) ?_
     refine hR102 _ _ ?_
     refine zo (op_pickT rfl rfl rfl) (za rfl (zn (zt rfl rfl ?_)))
     refine Go1.cut [(0, .pointer (some ⟨gP, 0, none⟩)), (3, .int .i64 a0.Enum.Done), (4, .slice p2 a0.Enum.Gens.length a0.Enum.Gens.length), (5, .int .i64 (k1_12 : Int)), (8, .int .i64 (mgt m1_52 r75)), (10, .string (gstr ((ix d_40 a0.Enum.Done) ++ (chr (IntKind.i32.wrap ((97 : Int) + (k1_12 : Int))))))), (27, .slice aK aJ aL), (28, .int .i64 (a0.Enum.Gens.length : Int)), (29, .int .i64 (k1_12 : Int))] ⟨rfl, rfl, rfl, rfl, rfl, rfl, rfl, rfl, rfl, trivial⟩ ?_
     intro σ _
     refine Go1.drawS 5 [(0, .pure), (1, .pure), (2, .pure), (3, .pure), (4, .pure), (5, .stable), (6, .pure), (7, .pure), (8, .pure), (9, .pure), (10, .stable), (11, .pure), (12, .pure), (13, .stable), (14, .pure), (15, .loud), (16, .last), (17, .pure), (18, .pure), (19, .pure), (20, .last)] mixed (by kernel_rfl) ?_
     intro Yp O1
     have kW := Stp.same hO O1
     replace hO := kW.own
     refine GoQ.pure rfl (op_move rfl) rfl rfl ?_
     refine GoQ.pure rfl (op_move rfl) rfl rfl ?_
     refine GoQ.pure rfl (op_nilCheck rfl) rfl rfl ?_
     refine GoQ.pure rfl (op_fieldAddr Try.underlying72 rfl ti29 rfl (by decide)) rfl rfl ?_
     refine GoQ.pure rfl (op_fieldAddr Try.underlying29 rfl ti27 rfl (by decide)) rfl rfl ?_
     refine GoQ.stable rfl (oblk (i := 7) 1 hO rfl rfl Try.underlying27 rfl rfl) rfl rfl ?_
     refine GoQ.pure rfl (op_move rfl) rfl rfl ?_
     refine GoQ.pure rfl (op_move rfl) rfl rfl ?_
     refine GoQ.pure rfl (op_nilCheck rfl) rfl rfl ?_
     refine GoQ.pure rfl (op_fieldAddr Try.underlying72 rfl ti70 rfl (by decide)) rfl rfl ?_
     refine GoQ.stable rfl (oblk (i := 10) 1 hO rfl rfl Try.underlying70 rfl rfl) rfl rfl ?_
     refine GoQ.pure rfl (op_move rfl) rfl rfl ?_
     obtain ⟨GA, H⟩ := H
     obtain ⟨GB, H⟩ := H
     replace cS := cS.ch kW.ch
     refine GoQ.pure rfl (op_index Try.underlying70 ti9 rfl rfl GA (ltn (cS.neq hO 8 rfl) GB) (cS.psome hO 8 rfl GA GB)) rfl rfl ?_
     refine GoQ.stable rfl (oldStr 8 hO rfl cS GA GB Try.underlying9 rfl rfl) rfl rfl ?_
     have hle181 := Els.str_le cS GA GB
     refine GoQ.pure rfl (op_build Try.underlying39 ti39 (pl := [(0, 1), (1, 1)]) (vs := [(0, .string (gstr ((ix d_40 a0.Enum.Done) ++ (chr (IntKind.i32.wrap ((97 : Int) + (k1_12 : Int))))))), (1, .string (gstr (ix d_40 (mgt m1_52 r75))))]) (cs := #[.string (gstr ((ix d_40 a0.Enum.Done) ++ (chr (IntKind.i32.wrap ((97 : Int) + (k1_12 : Int)))))), .string (gstr (ix d_40 (mgt m1_52 r75)))]) (by kernel_rfl) rfl (by kernel_rfl)) rfl rfl ?_
     have hobt := obuildN (r := rpRule) (n := 1) (parts := [(0, .agg #[.string (gstr ((ix d_40 a0.Enum.Done) ++ (chr (IntKind.i32.wrap ((97 : Int) + (k1_12 : Int)))))), .string (gstr (ix d_40 (mgt m1_52 r75)))])]) (vs := [.string (gstr ((ix d_40 a0.Enum.Done) ++ (chr (IntKind.i32.wrap ((97 : Int) + (k1_12 : Int)))))), .string (gstr (ix d_40 (mgt m1_52 r75)))]) (xs := [(⟨(ix d_40 a0.Enum.Done) ++ (chr (IntKind.i32.wrap ((97 : Int) + (k1_12 : Int)))), ix d_40 (mgt m1_52 r75)⟩ : Rule)]) Try.underlying27 ti39 hO (by decide) (by decide) (by kernel_rfl) (Els.flat1 (⟨(ix d_40 a0.Enum.Done) ++ (chr (IntKind.i32.wrap ((97 : Int) + (k1_12 : Int)))), ix d_40 (mgt m1_52 r75)⟩ : Rule) ⟨(lenApp h88), hle181⟩) rfl
     obtain ⟨Yq, Yr, qM, O2, O3, La⟩ := hobt
     refine GoQ.loud rfl (La rfl) O3 rfl rfl ?_
     replace hO := qM.own
     have hobt := freeze 0 hO rfl O2
     obtain ⟨hO1, ul, Ap, O4⟩ := hobt
     dsimp only [eS, eZ] at hO1 ul Ap
     replace hB := (((((hB.trans iP.fr).trans i5.fr).trans k8.fr).trans kW.fr).trans qM.fr).trans (Owns.dropFr _ _ 0)
     dsimp only [eS, eZ] at hB
     replace hO := hO1; clear hO1
     obtain ⟨Tw, H⟩ := H
     have Z9 := ((Z1.trans kW.ch).trans qM.ch).trans ul
     replace cV := cV.ch Z9
     have hobt := oapp Try.underlying27 ti39 rfl 7 hO rfl cV Ap O4 Tw (by decide)
     obtain ⟨Ys, Ib, Ic, O5, p5, C6, Lb⟩ := hobt
     dsimp only [sS, sZ] at p5 C6
     refine GoQ.last rfl (Lb (by exact rfl) (by exact rfl)) rfl rfl ?_
     replace hO := p5.own
     refine GoQ.pure rfl (op_nilCheck rfl) rfl rfl ?_
     refine GoQ.pure rfl (op_fieldAddr Try.underlying72 rfl ti29 rfl (by decide)) rfl rfl ?_
     refine GoQ.pure rfl (op_fieldAddr Try.underlying29 rfl ti27 rfl (by decide)) rfl rfl ?_
     have hobt := oblkSt2 (v := .slice Ib (n39 + 1) Ic) (i := 7) (cs' := #[.int .i64 a0.Enum.Points, .bool a0.Enum.Monoid, .slice aK aJ aL, .slice p19 n21 c20, .slice p25 n27 c26, .slice p31 n33 c32, .slice aT aM aU, .slice Ib (n39 + 1) Ic, .int .i64 a0.Enum.Done, .map (some aV), .slice p43 n45 c44, .slice p49 n51 c50, .slice bU bT bV]) 1 hO rfl rfl rfl rfl
     obtain ⟨Yt, ph, Lc⟩ := hobt
     dsimp only [sS, sZ] at ph
     refine GoQ.last rfl (Lc Try.underlying27 rfl ti27 (by exact rfl) (by exact rfl)) rfl rfl ?_
     replace hO := ph.own
     refine GoQ.nil ?_
     refine Go1.inBlock ?_
     refine Go1.cut [(0, .pointer (some ⟨gP, 0, none⟩)), (3, .int .i64 a0.Enum.Done), (4, .slice p2 a0.Enum.Gens.length a0.Enum.Gens.length), (5, .int .i64 (k1_12 : Int)), (8, .int .i64 (mgt m1_52 r75)), (27, .slice aK aJ aL), (28, .int .i64 (a0.Enum.Gens.length : Int)), (29, .int .i64 (k1_12 : Int))] ⟨rfl, rfl, rfl, rfl, rfl, rfl, rfl, rfl, trivial⟩ ?_
     intro σ _
     refine zr (zm rfl (zm rfl (zm rfl ?_)))
     obtain ⟨Id, H⟩ := H
     obtain ⟨Ie, H⟩ := H
     replace cH := ((cH.ch Z9).ch p5.ch).ch ph.ch
     refine zo (op_index Try.underlying26 ti3 rfl rfl Id (ltn (cH.neq hO 0 rfl) Ie) (cH.psome hO 0 rfl Id Ie)) ?_
     have hobt := ost (r := Rp.int .i64) rfl 0 hO rfl cH Id Ie (v := .int .i64 (mgt m1_52 r75)) (u := (mgt m1_52 r75)) rfl rfl
     obtain ⟨Yu, O6, qa, Ji, Ld⟩ := hobt
     dsimp only [sS, sZ] at qa Ji
     refine zg (Ld Try.underlying3 rfl ti3 (by exact rfl) (by exact rfl)) ?_
     replace hO := qa.own
     refine zn ?_
     refine Go1.inBlock ?_
     refine zr ?_
     have Z10 := ((Z9.trans p5.ch).trans ph.ch).trans qa.ch
     replace ab := ab.ch Z10
     refine zo (op_add rfl rfl (wrap_i64 (natbd h53 ab.bd))) (zm rfl (zn ?_))
     replace C6 := (C6.ch ph.ch).ch qa.ch
     replace hB := ((hB.trans p5.fr).trans ph.fr).trans qa.fr
     have Z11 := (((qM.ch.trans ul).trans p5.ch).trans ph.ch).trans qa.ch
     replace cS := cS.ch Z11
     have Z12 := ((((kW.ch.trans qM.ch).trans ul).trans p5.ch).trans ph.ch).trans qa.ch
     replace d9 := d9.ch Z12
     replace dK := dK.ch Z12
     replace ac := ac.ch Z12
     replace cQ := cQ.ch Z12
     replace fG := fG.ch Z10
     replace ae := ae.ch Z10
     exact hX1 _ H _ _ ⟨O6, n21, p19, c20, qF, n27, p25, c26, ru, n33, p31, c32, rv, n39 + 1, Ib, Ic, O5, n45, p43, c44, rz, n51, p49, c50, rB, ⟨rfl, rfl, rfl, rfl, rfl, rfl, trivial⟩, hO, Ji, ab, fG, d9, dK, ac, C6, cS, cQ, ae, hB⟩
    replace H := ifn Gz H
    refine zo (fun w => opB (op_eql rfl rfl w) (decide_eq_false Gz)) (zo (op_pickT rfl rfl rfl) (za rfl (zn ?_)))
    refine Go1.ret1V Try.func67 rfl (show _ = .bool false from rfl) ?_
    refine hR102 _ _ ?_
    refine zo (op_pickT rfl rfl rfl) (za rfl (zn (zf rfl rfl (zk ?_))))
    refine Go1.inBlock ?_
    refine zr (zm rfl (zm rfl (zm rfl ?_)))
    obtain ⟨Ig, H⟩ := H
    obtain ⟨Fk, H⟩ := H
    replace cH := cH.ch Z1
    refine zo (op_index Try.underlying26 ti3 rfl rfl Ig (ltn (cH.neq hO 0 rfl) Fk) (cH.psome hO 0 rfl Ig Fk)) ?_
    have hobt := ost (r := Rp.int .i64) rfl 0 hO rfl cH Ig Fk (v := .int .i64 (mgt m1_52 r75)) (u := (mgt m1_52 r75)) rfl rfl
    obtain ⟨SK, O7, qN, Aq, Le⟩ := hobt
    dsimp only [sS, sZ] at qN Aq
    refine zg (Le Try.underlying3 rfl ti3 (by exact rfl) (by exact rfl)) ?_
    replace hO := qN.own
    refine zn ?_
    refine Go1.inBlock ?_
    refine zr ?_
    replace ab := (ab.ch Z1).ch qN.ch
    refine zo (op_add rfl rfl (wrap_i64 (natbd h53 ab.bd))) (zm rfl (zn ?_))
    replace d9 := d9.ch qN.ch
    replace dK := dK.ch qN.ch
    replace ac := ac.ch qN.ch
    replace cS := cS.ch qN.ch
    replace cQ := cQ.ch qN.ch
    have Z13 := Z1.trans qN.ch
    replace fG := fG.ch Z13
    replace cV := cV.ch Z13
    replace ae := ae.ch Z13
    replace hB := (((hB.trans iP.fr).trans i5.fr).trans k8.fr).trans qN.fr
    exact hX1 _ H _ _ ⟨O7, n21, p19, c20, qF, n27, p25, c26, ru, n33, p31, c32, rv, n39, p37, c38, ry, n45, p43, c44, rz, n51, p49, c50, rB, ⟨rfl, rfl, rfl, rfl, rfl, rfl, trivial⟩, hO, Aq, ab, fG, d9, dK, ac, cV, cS, cQ, ae, hB⟩
   replace H := ifn Gy H
   refine zo (fun w => opB (op_eql rfl rfl w) (decide_eq_false Gy)) (zm rfl (zp (zp (zp (zp ?_)))))
   refine zp (zp (zp (zp (zp (zp ?_)))))
   refine zo (op_pickF rfl rfl rfl) (za rfl (zn ?_))
   refine Go1.ret1V Try.func67 rfl (show _ = .bool false from rfl) ?_
   refine hR102 _ _ ?_
   refine zo (op_pickT rfl rfl rfl) (za rfl (zn (zf rfl rfl (zk ?_))))
   refine Go1.inBlock ?_
   refine Go1.cut [(0, .pointer (some ⟨gP, 0, none⟩)), (3, .int .i64 a0.Enum.Done), (4, .slice p2 a0.Enum.Gens.length a0.Enum.Gens.length), (5, .int .i64 (k1_12 : Int)), (8, .int .i64 (mgt m1_52 r75)), (27, .slice aK aJ aL), (28, .int .i64 (a0.Enum.Gens.length : Int)), (29, .int .i64 (k1_12 : Int))] ⟨rfl, rfl, rfl, rfl, rfl, rfl, rfl, rfl, trivial⟩ ?_
   intro σ _
   refine zr (zm rfl (zm rfl (zm rfl ?_)))
   obtain ⟨CK, H⟩ := H
   obtain ⟨CM, H⟩ := H
   replace cH := cH.ch Z1
   refine zo (op_index Try.underlying26 ti3 rfl rfl CK (ltn (cH.neq hO 0 rfl) CM) (cH.psome hO 0 rfl CK CM)) ?_
   have hobt := ost (r := Rp.int .i64) rfl 0 hO rfl cH CK CM (v := .int .i64 (mgt m1_52 r75)) (u := (mgt m1_52 r75)) rfl rfl
   obtain ⟨Yv, O8, gO, Jj, Lf⟩ := hobt
   dsimp only [sS, sZ] at gO Jj
   refine zg (Lf Try.underlying3 rfl ti3 (by exact rfl) (by exact rfl)) ?_
   replace hO := gO.own
   refine zn ?_
   refine Go1.inBlock ?_
   refine zr ?_
   replace ab := (ab.ch Z1).ch gO.ch
   refine zo (op_add rfl rfl (wrap_i64 (natbd h53 ab.bd))) (zm rfl (zn ?_))
   replace d9 := d9.ch gO.ch
   replace ac := ac.ch gO.ch
   replace cS := cS.ch gO.ch
   replace cQ := cQ.ch gO.ch
   have Z14 := Z1.trans gO.ch
   replace fG := fG.ch Z14
   replace dK := dK.ch Z14
   replace cV := cV.ch Z14
   replace ae := ae.ch Z14
   replace hB := (((hB.trans iP.fr).trans i5.fr).trans k8.fr).trans gO.fr
   exact hX1 _ H _ _ ⟨O8, n21, p19, c20, qF, n27, p25, c26, ru, n33, p31, c32, rv, n39, p37, c38, ry, n45, p43, c44, rz, n51, p49, c50, rB, ⟨rfl, rfl, rfl, rfl, rfl, rfl, trivial⟩, hO, Jj, ab, fG, d9, dK, ac, cV, cS, cQ, ae, hB⟩
  replace H := ifn h81 H
  refine GoQ.stable rfl (olookF (a := r75) (MK.str Try.underlying9) 11 hO rfl Try.underlying69 ti3 rfl rfl h81) rfl rfl ?_
  refine GoQ.pure rfl (op_move rfl) rfl rfl ?_
  refine GoQ.pure rfl (op_extract rfl rfl) rfl rfl ?_
  refine GoQ.pure rfl (op_extract rfl rfl) rfl rfl ?_
  refine GoQ.pure rfl (op_assign rfl) rfl rfl ?_
  refine GoQ.pure rfl (op_assign rfl) rfl rfl ?_
  refine GoQ.nil ?_
  refine zq (zr (zm rfl (zo (op_nilCheck rfl) (zo (op_fieldAddr Try.underlying72 rfl ti70 rfl (by decide)) (zs (oblk (i := 10) 1 hO rfl rfl Try.underlying70 rfl rfl) ?_)))))
  refine zm rfl ?_
  obtain ⟨GC, H⟩ := H
  obtain ⟨GD, H⟩ := H
  have Z15 := (iP.ch.trans i5.ch).trans k8.ch
  replace cS := cS.ch Z15
  refine zo (op_index Try.underlying70 ti9 rfl rfl GC (ltn (cS.neq hO 8 rfl) GD) (cS.psome hO 8 rfl GC GD)) (zs (oldStr 8 hO rfl cS GC GD Try.underlying9 rfl rfl) ?_)
  have hle227 := Els.str_le cS GC GD
  refine zm rfl ?_
  obtain ⟨Tx, H⟩ := H
  refine zo (op_add rfl rfl (wrap_i64 Tx)) (zo (op_conv Try.underlying3 Try.underlying21 rfl rfl) ?_)
  obtain ⟨Ty, H⟩ := H
  obtain ⟨Tz, H⟩ := H
  refine zo (op_convRS Try.underlying21 Try.underlying9 rfl Ty Tz) ?_
  obtain ⟨Ih, H⟩ := H
  refine zo (op_addS rfl rfl Ih) (za rfl (zn (zq (zb (zq ?_)))))
  refine Go1.cut [(0, .pointer (some ⟨gP, 0, none⟩)), (3, .int .i64 a0.Enum.Done), (4, .slice p2 a0.Enum.Gens.length a0.Enum.Gens.length), (5, .int .i64 (k1_12 : Int)), (7, .slice wc r66.length we), (8, .int .i64 (0 : Int)), (9, .bool false), (10, .string (gstr ((ix d_40 a0.Enum.Done) ++ (chr (IntKind.i32.wrap ((97 : Int) + (k1_12 : Int))))))), (27, .slice aK aJ aL), (28, .int .i64 (a0.Enum.Gens.length : Int)), (29, .int .i64 (k1_12 : Int))] ⟨rfl, rfl, rfl, rfl, rfl, rfl, rfl, rfl, rfl, rfl, rfl, trivial⟩ ?_
  intro σ _
  refine zr (zm rfl (zo (op_not rfl) (zm rfl (zm rfl (zo (op_nilCheck rfl) ?_)))))
  refine zo (op_fieldAddr Try.underlying72 rfl ti29 rfl (by decide)) (zo (op_fieldAddr Try.underlying29 rfl ti22 rfl (by decide)) (zs (oblk (i := 3) 1 hO rfl rfl Try.underlying22 rfl rfl) ?_))
  replace fG := fG.ch Z15
  refine zo (op_lenN Try.underlying22 rfl (fG.neq hO 3 rfl)) ?_
  by_cases GE : (d_16.length : Int) = (2000 : Int)
  ·replace H := ifp GE H
   refine zo (fun w => opB (op_eql rfl rfl w) (decide_eq_true GE)) (zo (op_pickT rfl rfl rfl) (za rfl (zn (zt rfl rfl (zq ?_)))))
   refine zr (za rfl (zn ?_))
   replace hO := hO.drop 0
   replace fG := fG.ch (Owns.dropCh _ _ 0)
   replace cS := cS.ch (Owns.dropCh _ _ 0)
   replace co := (co.ch k8.ch).ch (Owns.dropCh _ _ 0)
   have Z16 := Z15.trans (Owns.dropCh _ _ 0)
   replace ab := ab.ch Z16
   replace d9 := d9.ch Z16
   replace dK := dK.ch Z16
   replace ac := ac.ch Z16
   replace cV := cV.ch Z16
   replace cQ := cQ.ch Z16
   replace ae := ae.ch Z16
   replace di := di.ch Z16
   replace dj := dj.ch Z16
   replace hB := (((hB.trans iP.fr).trans i5.fr).trans k8.fr).trans (Owns.dropFr _ _ 0)
   dsimp only [eS, eZ] at hB hO di dj co ab fG d9 dK ac cV cS cQ ae
   refine Go1.ret1 Try.func51 rfl ?_
   exact ⟨((3 : Int)), (⟨(⟨a0.Enum.Points, a0.Enum.Monoid, a0.Enum.Gens, d_16, d_22, d_28, a0.Enum.Right, d_34, a0.Enum.Done⟩ : Enum), m1_52, d_40, d_46, a0.single⟩ : run), aJ, aK, aL, er, n21, p19, c20, qF, n27, p25, c26, ru, n33, p31, c32, rv, aM, aT, aU, d8, n39, p37, c38, ry, n45, p43, c44, rz, n51, p49, c50, rB, bT, bU, bV, fL, rfl, hO, ab, fG, d9, dK, ac, cV, cS, cQ, ae, hB, H⟩
  replace H := ifn GE H
  refine zo (fun w => opB (op_eql rfl rfl w) (decide_eq_false GE)) (zo (op_pickT rfl rfl rfl) (za rfl (zn (zf rfl rfl (zq ?_)))))
  refine zr (zm rfl (zo (op_not rfl) (za rfl (zn (zt rfl rfl ?_)))))
  refine zr (zm rfl (zm rfl (zm rfl (zm rfl (zm rfl ?_)))))
  refine zm rfl (zm rfl (zo (op_nilCheck rfl) (zo (op_fieldAddr Try.underlying72 rfl ti26 rfl (by decide)) (zs (oblk (i := 11) 1 hO rfl rfl Try.underlying26 rfl rfl) (zm rfl ?_)))))
  obtain ⟨Ii, H⟩ := H
  obtain ⟨Ij, H⟩ := H
  replace cQ := cQ.ch Z15
  refine zo (op_index Try.underlying26 ti3 rfl rfl Ii (ltn (cQ.neq hO 9 rfl) Ij) (cQ.psome hO 9 rfl Ii Ij)) (zs (oldInt 9 hO rfl cQ Ii Ij Try.underlying3 rfl rfl) (zm rfl ?_))
  refine GoR.inl (vs := [.pointer (some ⟨gP, 0, none⟩), .int .i64 (ix d_46 a0.Enum.Done), .int .i64 (k1_12 : Int)]) (caps := []) rfl rfl body66 Try.func66 rfl Try.ntmps66 rfl rfl rfl ?_
  intro RhR235 hR235
  refine zq ?_
  refine Go1.cut [(0, .pointer (some ⟨gP, 0, none⟩)), (1, .int .i64 (ix d_46 a0.Enum.Done)), (2, .int .i64 (k1_12 : Int))] ⟨rfl, rfl, rfl, trivial⟩ ?_
  intro σ _
  refine zr (za rfl (zn (zq (zq (zr ?_)))))
  refine zm rfl ?_
  by_cases GF : (ix d_46 a0.Enum.Done) = (-1 : Int)
  ·replace H := ifp GF H
   refine zo (fun w => opB (op_eql rfl rfl w) (decide_eq_true GF)) (zn (zt rfl rfl (zq (zr (zm rfl ?_)))))
   refine zo (op_nilCheck rfl) (zo (op_fieldAddr Try.underlying72 rfl ti26 rfl (by decide)) (zs (oblk (i := 12) 1 hO rfl rfl Try.underlying26 rfl rfl) (zm rfl ?_)))
   obtain ⟨Ik, H⟩ := H
   obtain ⟨Il, H⟩ := H
   replace ae := ae.ch Z15
   refine zo (op_index Try.underlying26 ti3 rfl rfl Ik (ltn (ae.neq hO 10 rfl) Il) (ae.psome hO 10 rfl Ik Il)) (zs (oldInt 10 hO rfl ae Ik Il Try.underlying3 rfl rfl) (za rfl (zn ?_)))
   refine Go1.ret1V Try.func66 rfl (show _ = .int .i64 (ix a0.single (k1_12 : Int)) from rfl) ?_
   refine hR235 _ _ ?_
   refine GoR.inl (vs := [.pointer (some ⟨gP, 0, none⟩), .slice wc r66.length we, .int .i64 a0.Enum.Done, .int .i64 (k1_12 : Int), .string (gstr ((ix d_40 a0.Enum.Done) ++ (chr (IntKind.i32.wrap ((97 : Int) + (k1_12 : Int)))))), .int .i64 (ix a0.single (k1_12 : Int))]) (caps := []) rfl rfl body65 Try.func65 rfl Try.ntmps65 rfl rfl rfl ?_
   intro RhR239 hR239
   refine zq (zr (za rfl (zn (zq (zr ?_)))))
   refine zm rfl (zo (op_nilCheck rfl) (zo (op_fieldAddr Try.underlying72 rfl ti29 rfl (by decide)) (zo (op_fieldAddr Try.underlying29 rfl ti22 rfl (by decide)) (zs (oblk (i := 3) 1 hO rfl rfl Try.underlying22 rfl rfl) (zo (op_lenN Try.underlying22 rfl (fG.neq hO 3 rfl)) ?_)))))
   refine za rfl (zn (zq ?_))
   refine Go1.cut [(0, .pointer (some ⟨gP, 0, none⟩)), (1, .slice wc r66.length we), (2, .int .i64 a0.Enum.Done), (3, .int .i64 (k1_12 : Int)), (4, .string (gstr ((ix d_40 a0.Enum.Done) ++ (chr (IntKind.i32.wrap ((97 : Int) + (k1_12 : Int))))))), (5, .int .i64 (ix a0.single (k1_12 : Int))), (13, .int .i64 (d_16.length : Int))] ⟨rfl, rfl, rfl, rfl, rfl, rfl, rfl, trivial⟩ ?_
   intro σ _
   refine Go1.drawS 1 [(0, .pure), (1, .pure), (2, .pure), (3, .stable), (4, .pure), (6, .pure), (5, .loud), (7, .last)] mixed (by kernel_rfl) ?_
   intro SN Gc
   have rG := Stp.same hO Gc
   replace hO := rG.own
   refine GoQ.pure rfl (op_move rfl) rfl rfl ?_
   refine GoQ.pure rfl (op_nilCheck rfl) rfl rfl ?_
   refine GoQ.pure rfl (op_fieldAddr Try.underlying72 rfl ti69 rfl (by decide)) rfl rfl ?_
   refine GoQ.stable rfl (oblk (i := 9) 1 hO rfl rfl Try.underlying69 rfl rfl) rfl rfl ?_
   refine GoQ.pure rfl (op_move rfl) rfl rfl ?_
   refine GoQ.pure rfl (op_move rfl) rfl rfl ?_
   replace co := (co.ch k8.ch).ch rG.ch
   refine GoQ.call rfl (op_call body61 rfl (walk_enumerate_text hO.lt co H)) (fun v w hr => by obtain ⟨_, _, hs, _, _⟩ := hr; assumption) rfl rfl ?_
   rintro Yw Yx ⟨r243, rfl, O9, VN, H⟩
   have rH := Stp.same hO O9
   replace hO := rH.own
   have hobt := omapUpd (MK.str Try.underlying9) 11 hO rfl Try.underlying69 r243 (d_16.length : Int)
   obtain ⟨Yy, qO, Lg⟩ := hobt
   dsimp only [sS, sZ] at qO
   refine GoQ.last rfl (Lg (by exact rfl) (by exact rfl) (by exact rfl)) rfl rfl ?_
   replace hO := qO.own
   refine GoQ.nil ?_
   refine zq (zr (zm rfl (zm rfl (zo (op_nilCheck rfl) (zo (op_fieldAddr Try.underlying72 rfl ti29 rfl (by decide)) ?_)))))
   refine zo (op_fieldAddr Try.underlying29 rfl ti22 rfl (by decide)) (zs (oblk (i := 3) 1 hO rfl rfl Try.underlying22 rfl rfl) (zm rfl ?_))
   replace co := (co.ch rH.ch).ch qO.ch
   have hobt := obuild (r := Rp.sl (Rp.int .i64)) (n := 1) (parts := [(0, .slice wc r66.length we)]) (vs := [.slice wc r66.length we]) (xs := [r66]) rfl Try.underlying22 ti26 hO (by decide) (by kernel_rfl) (Els.cons rfl ⟨wc, we, rfl, co⟩ (Els.nil _ _ _) (by simp [mx])) rfl
   obtain ⟨TA, DJ, rI, Pa, Wf, Lh⟩ := hobt
   refine zg (Lh rfl) ?_
   replace hO := rI.own
   have hobt := freeze 0 hO rfl Pa
   obtain ⟨hO1, vy, iF, Pb⟩ := hobt
   dsimp only [eS, eZ] at hO1 vy iF
   replace hB := (((((((hB.trans iP.fr).trans i5.fr).trans k8.fr).trans rG.fr).trans rH.fr).trans qO.fr).trans rI.fr).trans (Owns.dropFr _ _ 0)
   dsimp only [eS, eZ] at hB
   replace hO := hO1; clear hO1
   obtain ⟨TB, H⟩ := H
   have Z17 := (((rG.ch.trans rH.ch).trans qO.ch).trans rI.ch).trans vy
   replace fG := fG.ch Z17
   have hobt := oapp Try.underlying22 ti26 rfl 3 hO rfl fG iF Pb TB (by decide)
   obtain ⟨Yz, DK, DL, Pc, qP, iQ, Li⟩ := hobt
   dsimp only [sS, sZ] at qP iQ
   refine zg (Li (by exact rfl) (by exact rfl)) ?_
   replace hO := qP.own
   refine zo (op_nilCheck rfl) (zo (op_fieldAddr Try.underlying72 rfl ti29 rfl (by decide)) (zo (op_fieldAddr Try.underlying29 rfl ti22 rfl (by decide)) ?_))
   have hobt := oblkSt2 (v := .slice DK (n21 + 1) DL) (i := 3) (cs' := #[.int .i64 a0.Enum.Points, .bool a0.Enum.Monoid, .slice aK aJ aL, .slice DK (n21 + 1) DL, .slice p25 n27 c26, .slice p31 n33 c32, .slice aT aM aU, .slice p37 n39 c38, .int .i64 a0.Enum.Done, .map (some aV), .slice p43 n45 c44, .slice p49 n51 c50, .slice bU bT bV]) 1 hO rfl rfl rfl rfl
   obtain ⟨YA, qb, Lj⟩ := hobt
   dsimp only [sS, sZ] at qb
   refine zg (Lj Try.underlying22 rfl ti22 (by exact rfl) (by exact rfl)) ?_
   replace hO := qb.own
   refine zn (zq ?_)
   refine Go1.cut [(0, .pointer (some ⟨gP, 0, none⟩)), (2, .int .i64 a0.Enum.Done), (3, .int .i64 (k1_12 : Int)), (4, .string (gstr ((ix d_40 a0.Enum.Done) ++ (chr (IntKind.i32.wrap ((97 : Int) + (k1_12 : Int))))))), (5, .int .i64 (ix a0.single (k1_12 : Int))), (13, .int .i64 (d_16.length : Int))] ⟨rfl, rfl, rfl, rfl, rfl, rfl, trivial⟩ ?_
   intro σ _
   refine zr (zm rfl (zm rfl (zo (op_nilCheck rfl) (zo (op_fieldAddr Try.underlying72 rfl ti29 rfl (by decide)) (zo (op_fieldAddr Try.underlying29 rfl ti26 rfl (by decide)) ?_)))))
   refine zs (oblk (i := 4) 1 hO rfl rfl Try.underlying26 rfl rfl) (zm rfl ?_)
   have hobt := obuild (r := Rp.int .i64) (n := 1) (parts := [(0, .int .i64 a0.Enum.Done)]) (vs := [.int .i64 a0.Enum.Done]) (xs := [a0.Enum.Done]) rfl Try.underlying26 ti3 hO (by decide) (by kernel_rfl) (Els.cons rfl rfl (Els.nil _ _ _) (by simp [mx])) rfl
   obtain ⟨YB, YC, qQ, Pd, Wg, Lk⟩ := hobt
   refine zg (Lk rfl) ?_
   replace hO := qQ.own
   have hobt := freeze 0 hO rfl Pd
   obtain ⟨hO1, um, km, Pe⟩ := hobt
   dsimp only [eS, eZ] at hO1 um km
   replace hB := (((hB.trans qP.fr).trans qb.fr).trans qQ.fr).trans (Owns.dropFr _ _ 0)
   dsimp only [eS, eZ] at hB
   replace hO := hO1; clear hO1
   obtain ⟨TC, H⟩ := H
   have Z18 := ((((((((Z15.trans rG.ch).trans rH.ch).trans qO.ch).trans rI.ch).trans vy).trans qP.ch).trans qb.ch).trans qQ.ch).trans um
   replace d9 := d9.ch Z18
   have hobt := oapp Try.underlying26 ti3 rfl 4 hO rfl d9 km Pe TC (by decide)
   obtain ⟨YE, Et, Eu, mz, qc, k9, Ll⟩ := hobt
   dsimp only [sS, sZ] at qc k9
   refine zg (Ll (by exact rfl) (by exact rfl)) ?_
   replace hO := qc.own
   refine zo (op_nilCheck rfl) (zo (op_fieldAddr Try.underlying72 rfl ti29 rfl (by decide)) (zo (op_fieldAddr Try.underlying29 rfl ti26 rfl (by decide)) ?_))
   have hobt := oblkSt2 (v := .slice Et (n27 + 1) Eu) (i := 4) (cs' := #[.int .i64 a0.Enum.Points, .bool a0.Enum.Monoid, .slice aK aJ aL, .slice DK (n21 + 1) DL, .slice Et (n27 + 1) Eu, .slice p31 n33 c32, .slice aT aM aU, .slice p37 n39 c38, .int .i64 a0.Enum.Done, .map (some aV), .slice p43 n45 c44, .slice p49 n51 c50, .slice bU bT bV]) 1 hO rfl rfl rfl rfl
   obtain ⟨TD, pi, Lm⟩ := hobt
   dsimp only [sS, sZ] at pi
   refine zg (Lm Try.underlying26 rfl ti26 (by exact rfl) (by exact rfl)) ?_
   replace hO := pi.own
   refine zn (zq (zr (zm rfl (zm rfl (zo (op_nilCheck rfl) ?_)))))
   refine zo (op_fieldAddr Try.underlying72 rfl ti29 rfl (by decide)) (zo (op_fieldAddr Try.underlying29 rfl ti26 rfl (by decide)) (zs (oblk (i := 5) 1 hO rfl rfl Try.underlying26 rfl rfl) (zm rfl ?_)))
   have hobt := obuild (r := Rp.int .i64) (n := 1) (parts := [(0, .int .i64 (k1_12 : Int))]) (vs := [.int .i64 (k1_12 : Int)]) (xs := [(k1_12 : Int)]) rfl Try.underlying26 ti3 hO (by decide) (by kernel_rfl) (Els.cons rfl rfl (Els.nil _ _ _) (by simp [mx])) rfl
   obtain ⟨TE, YF, qd, Pf, Wh, Ln⟩ := hobt
   refine zg (Ln rfl) ?_
   replace hO := qd.own
   have hobt := freeze 0 hO rfl Pf
   obtain ⟨hO1, sW, nm, Pg⟩ := hobt
   dsimp only [eS, eZ] at hO1 sW nm
   replace hB := (((hB.trans qc.fr).trans pi.fr).trans qd.fr).trans (Owns.dropFr _ _ 0)
   dsimp only [eS, eZ] at hB
   replace hO := hO1; clear hO1
   obtain ⟨TF, H⟩ := H
   have Z19 := (((Z18.trans qc.ch).trans pi.ch).trans qd.ch).trans sW
   replace dK := dK.ch Z19
   have hobt := oapp Try.underlying26 ti3 rfl 5 hO rfl dK nm Pg TF (by decide)
   obtain ⟨YG, jj, jk, Ph, pk, o3, Lo⟩ := hobt
   dsimp only [sS, sZ] at pk o3
   refine zg (Lo (by exact rfl) (by exact rfl)) ?_
   replace hO := pk.own
   refine zo (op_nilCheck rfl) (zo (op_fieldAddr Try.underlying72 rfl ti29 rfl (by decide)) (zo (op_fieldAddr Try.underlying29 rfl ti26 rfl (by decide)) ?_))
   have hobt := oblkSt2 (v := .slice jj (n33 + 1) jk) (i := 5) (cs' := #[.int .i64 a0.Enum.Points, .bool a0.Enum.Monoid, .slice aK aJ aL, .slice DK (n21 + 1) DL, .slice Et (n27 + 1) Eu, .slice jj (n33 + 1) jk, .slice aT aM aU, .slice p37 n39 c38, .int .i64 a0.Enum.Done, .map (some aV), .slice p43 n45 c44, .slice p49 n51 c50, .slice bU bT bV]) 1 hO rfl rfl rfl rfl
   obtain ⟨YH, og, Lp⟩ := hobt
   dsimp only [sS, sZ] at og
   refine zg (Lp Try.underlying26 rfl ti26 (by exact rfl) (by exact rfl)) ?_
   replace hO := og.own
   refine zn (zq ?_)
   refine Go1.cut [(0, .pointer (some ⟨gP, 0, none⟩)), (4, .string (gstr ((ix d_40 a0.Enum.Done) ++ (chr (IntKind.i32.wrap ((97 : Int) + (k1_12 : Int))))))), (5, .int .i64 (ix a0.single (k1_12 : Int))), (13, .int .i64 (d_16.length : Int))] ⟨rfl, rfl, rfl, rfl, trivial⟩ ?_
   intro σ _
   refine zr (zm rfl (zm rfl (zo (op_nilCheck rfl) (zo (op_fieldAddr Try.underlying72 rfl ti70 rfl (by decide)) (zs (oblk (i := 10) 1 hO rfl rfl Try.underlying70 rfl rfl) ?_)))))
   refine zm rfl ?_
   have hobt := obuild (r := Rp.str) (n := 1) (parts := [(0, .string (gstr ((ix d_40 a0.Enum.Done) ++ (chr (IntKind.i32.wrap ((97 : Int) + (k1_12 : Int)))))))]) (vs := [.string (gstr ((ix d_40 a0.Enum.Done) ++ (chr (IntKind.i32.wrap ((97 : Int) + (k1_12 : Int))))))]) (xs := [(ix d_40 a0.Enum.Done) ++ (chr (IntKind.i32.wrap ((97 : Int) + (k1_12 : Int))))]) rfl Try.underlying70 ti9 hO (by decide) (by kernel_rfl) (Els.cons rfl ⟨rfl, (lenApp Ih)⟩ (Els.nil _ _ _) (by simp [mx])) rfl
   obtain ⟨YI, YJ, pm, Pi, Wi, Lr⟩ := hobt
   refine zg (Lr rfl) ?_
   replace hO := pm.own
   have hobt := freeze 0 hO rfl Pi
   obtain ⟨hO1, su, cT, Pj⟩ := hobt
   dsimp only [eS, eZ] at hO1 su cT
   replace hB := (((hB.trans pk.fr).trans og.fr).trans pm.fr).trans (Owns.dropFr _ _ 0)
   dsimp only [eS, eZ] at hB
   replace hO := hO1; clear hO1
   obtain ⟨TG, H⟩ := H
   have Z20 := (((((((((((Z17.trans qP.ch).trans qb.ch).trans qQ.ch).trans um).trans qc.ch).trans pi.ch).trans qd.ch).trans sW).trans pk.ch).trans og.ch).trans pm.ch).trans su
   replace cS := cS.ch Z20
   have hobt := oapp Try.underlying70 ti9 rfl 8 hO rfl cS cT Pj TG (by decide)
   obtain ⟨YK, GG, GH, Pk, oh, vz, Ls⟩ := hobt
   dsimp only [sS, sZ] at oh vz
   refine zg (Ls (by exact rfl) (by exact rfl)) ?_
   replace hO := oh.own
   refine zo (op_nilCheck rfl) (zo (op_fieldAddr Try.underlying72 rfl ti70 rfl (by decide)) ?_)
   have hobt := oblkSt2 (v := .slice GG (n45 + 1) GH) (i := 10) (cs' := #[.int .i64 a0.Enum.Points, .bool a0.Enum.Monoid, .slice aK aJ aL, .slice DK (n21 + 1) DL, .slice Et (n27 + 1) Eu, .slice jj (n33 + 1) jk, .slice aT aM aU, .slice p37 n39 c38, .int .i64 a0.Enum.Done, .map (some aV), .slice GG (n45 + 1) GH, .slice p49 n51 c50, .slice bU bT bV]) 1 hO rfl rfl rfl rfl
   obtain ⟨TH, nf, Lt⟩ := hobt
   dsimp only [sS, sZ] at nf
   refine zg (Lt Try.underlying70 rfl ti70 (by exact rfl) (by exact rfl)) ?_
   replace hO := nf.own
   refine zn (zq (zr (zm rfl (zm rfl (zo (op_nilCheck rfl) ?_)))))
   refine zo (op_fieldAddr Try.underlying72 rfl ti26 rfl (by decide)) (zs (oblk (i := 11) 1 hO rfl rfl Try.underlying26 rfl rfl) (zm rfl ?_))
   have hobt := obuild (r := Rp.int .i64) (n := 1) (parts := [(0, .int .i64 (ix a0.single (k1_12 : Int)))]) (vs := [.int .i64 (ix a0.single (k1_12 : Int))]) (xs := [(ix a0.single (k1_12 : Int))]) rfl Try.underlying26 ti3 hO (by decide) (by kernel_rfl) (Els.cons rfl rfl (Els.nil _ _ _) (by simp [mx])) rfl
   obtain ⟨TI, DM, kz, wg, GJ, FC⟩ := hobt
   refine zg (FC rfl) ?_
   replace hO := kz.own
   have hobt := freeze 0 hO rfl wg
   obtain ⟨hO1, rX, Ar, Pl⟩ := hobt
   dsimp only [eS, eZ] at hO1 rX Ar
   replace hB := (((hB.trans oh.fr).trans nf.fr).trans kz.fr).trans (Owns.dropFr _ _ 0)
   dsimp only [eS, eZ] at hB
   replace hO := hO1; clear hO1
   obtain ⟨Ev, H⟩ := H
   have Z21 := (((Z20.trans oh.ch).trans nf.ch).trans kz.ch).trans rX
   replace cQ := cQ.ch Z21
   have hobt := oapp Try.underlying26 ti3 rfl 9 hO rfl cQ Ar Pl Ev (by decide)
   obtain ⟨TJ, Im, Io, Pm, jf, C7, Lu⟩ := hobt
   dsimp only [sS, sZ] at jf C7
   refine zg (Lu (by exact rfl) (by exact rfl)) ?_
   replace hO := jf.own
   refine zo (op_nilCheck rfl) (zo (op_fieldAddr Try.underlying72 rfl ti26 rfl (by decide)) ?_)
   have hobt := oblkSt2 (v := .slice Im (n51 + 1) Io) (i := 11) (cs' := #[.int .i64 a0.Enum.Points, .bool a0.Enum.Monoid, .slice aK aJ aL, .slice DK (n21 + 1) DL, .slice Et (n27 + 1) Eu, .slice jj (n33 + 1) jk, .slice aT aM aU, .slice p37 n39 c38, .int .i64 a0.Enum.Done, .map (some aV), .slice GG (n45 + 1) GH, .slice Im (n51 + 1) Io, .slice bU bT bV]) 1 hO rfl rfl rfl rfl
   obtain ⟨YL, mj, Lv⟩ := hobt
   dsimp only [sS, sZ] at mj
   refine zg (Lv Try.underlying26 rfl ti26 (by exact rfl) (by exact rfl)) ?_
   replace hO := mj.own
   refine zn (zq ?_)
   refine Go1.cut [(13, .int .i64 (d_16.length : Int))] ⟨rfl, trivial⟩ ?_
   intro σ _
   refine zr (zm rfl (za rfl (zn ?_)))
   refine Go1.ret1V Try.func65 rfl (show _ = .int .i64 (d_16.length : Int) from rfl) ?_
   refine hR239 _ _ ?_
   refine za rfl (zn ?_)
   refine Go1.inBlock ?_
   refine zr (zm rfl (zm rfl (zm rfl ?_)))
   obtain ⟨Ip, H⟩ := H
   obtain ⟨Iq, H⟩ := H
   have Z22 := (((((((((Z19.trans pk.ch).trans og.ch).trans pm.ch).trans su).trans oh.ch).trans nf.ch).trans kz.ch).trans rX).trans jf.ch).trans mj.ch
   replace cH := cH.ch Z22
   refine zo (op_index Try.underlying26 ti3 rfl rfl Ip (ltn (cH.neq hO 0 rfl) Iq) (cH.psome hO 0 rfl Ip Iq)) ?_
   have hobt := ost (r := Rp.int .i64) rfl 0 hO rfl cH Ip Iq (v := .int .i64 (d_16.length : Int)) (u := (d_16.length : Int)) rfl rfl
   obtain ⟨YM, Pn, ng, Jk, Lw⟩ := hobt
   dsimp only [sS, sZ] at ng Jk
   refine zg (Lw Try.underlying3 rfl ti3 (by exact rfl) (by exact rfl)) ?_
   replace hO := ng.own
   refine zn ?_
   refine Go1.inBlock ?_
   refine zr ?_
   replace ab := (ab.ch Z22).ch ng.ch
   refine zo (op_add rfl rfl (wrap_i64 (natbd h53 ab.bd))) (zm rfl (zn ?_))
   replace C7 := (C7.ch mj.ch).ch ng.ch
   replace hB := ((hB.trans jf.fr).trans mj.fr).trans ng.fr
   have Z23 := ((((nf.ch.trans kz.ch).trans rX).trans jf.ch).trans mj.ch).trans ng.ch
   replace vz := vz.ch Z23
   have Z24 := ((((((((og.ch.trans pm.ch).trans su).trans oh.ch).trans nf.ch).trans kz.ch).trans rX).trans jf.ch).trans mj.ch).trans ng.ch
   replace o3 := o3.ch Z24
   have Z25 := ((((((((((((pi.ch.trans qd.ch).trans sW).trans pk.ch).trans og.ch).trans pm.ch).trans su).trans oh.ch).trans nf.ch).trans kz.ch).trans rX).trans jf.ch).trans mj.ch).trans ng.ch
   replace k9 := k9.ch Z25
   have Z26 := ((((((((((((((((qb.ch.trans qQ.ch).trans um).trans qc.ch).trans pi.ch).trans qd.ch).trans sW).trans pk.ch).trans og.ch).trans pm.ch).trans su).trans oh.ch).trans nf.ch).trans kz.ch).trans rX).trans jf.ch).trans mj.ch).trans ng.ch
   replace iQ := iQ.ch Z26
   have Z27 := ((Z21.trans jf.ch).trans mj.ch).trans ng.ch
   replace ae := ae.ch Z27
   have Z28 := Z22.trans ng.ch
   replace ac := ac.ch Z28
   replace cV := cV.ch Z28
   exact hX1 _ H _ _ ⟨Pn, n21 + 1, DK, DL, Pc, n27 + 1, Et, Eu, mz, n33 + 1, jj, jk, Ph, n39, p37, c38, ry, n45 + 1, GG, GH, Pk, n51 + 1, Im, Io, Pm, ⟨rfl, rfl, rfl, rfl, rfl, rfl, trivial⟩, hO, Jk, ab, iQ, k9, o3, ac, cV, vz, C7, ae, hB⟩
  replace H := ifn GF H
  refine zo (fun w => opB (op_eql rfl rfl w) (decide_eq_false GF)) (zn (zf rfl rfl (zk (zq (zr ?_)))))
  refine zm rfl (zo (op_nilCheck rfl) (zo (op_fieldAddr Try.underlying72 rfl ti29 rfl (by decide)) (zo (op_fieldAddr Try.underlying29 rfl ti22 rfl (by decide)) (zs (oblk (i := 6) 1 hO rfl rfl Try.underlying22 rfl rfl) (zm rfl ?_)))))
  obtain ⟨Ir, H⟩ := H
  obtain ⟨Iu, H⟩ := H
  replace ac := ac.ch Z15
  refine zo (op_index Try.underlying22 ti26 rfl rfl Ir (ltn (ac.neq hO 6 rfl) Iu) (ac.psome hO 6 rfl Ir Iu)) ?_
  have hobt := oldSl 6 hO rfl ac Ir Iu
  obtain ⟨jl, jm, gU, Po⟩ := hobt
  refine zs (Po Try.underlying26 rfl rfl) (zm rfl ?_)
  obtain ⟨Iv, H⟩ := H
  obtain ⟨Iw, H⟩ := H
  refine zo (op_index Try.underlying26 ti3 rfl rfl Iv Iw (gU.some_ Iv Iw)) (zs (ldInt gU Iv Iw Try.underlying3 rfl rfl) (za rfl (zn ?_)))
  refine Go1.ret1V Try.func66 rfl (show _ = .int .i64 (ix (ix a0.Enum.Right (ix d_46 a0.Enum.Done)) (k1_12 : Int)) from rfl) ?_
  refine hR235 _ _ ?_
  refine GoR.inl (vs := [.pointer (some ⟨gP, 0, none⟩), .slice wc r66.length we, .int .i64 a0.Enum.Done, .int .i64 (k1_12 : Int), .string (gstr ((ix d_40 a0.Enum.Done) ++ (chr (IntKind.i32.wrap ((97 : Int) + (k1_12 : Int)))))), .int .i64 (ix (ix a0.Enum.Right (ix d_46 a0.Enum.Done)) (k1_12 : Int))]) (caps := []) rfl rfl body65 Try.func65 rfl Try.ntmps65 rfl rfl rfl ?_
  intro RhR377 hR377
  refine zq ?_
  refine Go1.cut [(0, .pointer (some ⟨gP, 0, none⟩)), (1, .slice wc r66.length we), (2, .int .i64 a0.Enum.Done), (3, .int .i64 (k1_12 : Int)), (4, .string (gstr ((ix d_40 a0.Enum.Done) ++ (chr (IntKind.i32.wrap ((97 : Int) + (k1_12 : Int))))))), (5, .int .i64 (ix (ix a0.Enum.Right (ix d_46 a0.Enum.Done)) (k1_12 : Int)))] ⟨rfl, rfl, rfl, rfl, rfl, rfl, trivial⟩ ?_
  intro σ _
  refine zr (za rfl (zn (zq (zr (zm rfl ?_)))))
  refine zo (op_nilCheck rfl) (zo (op_fieldAddr Try.underlying72 rfl ti29 rfl (by decide)) (zo (op_fieldAddr Try.underlying29 rfl ti22 rfl (by decide)) (zs (oblk (i := 3) 1 hO rfl rfl Try.underlying22 rfl rfl) (zo (op_lenN Try.underlying22 rfl (fG.neq hO 3 rfl)) (za rfl ?_)))))
  refine zn (zq ?_)
  refine Go1.drawS 1 [(0, .pure), (1, .pure), (2, .pure), (3, .stable), (4, .pure), (6, .pure), (5, .loud), (7, .last)] mixed (by kernel_rfl) ?_
  intro TK Pp
  have qR := Stp.same hO Pp
  replace hO := qR.own
  refine GoQ.pure rfl (op_move rfl) rfl rfl ?_
  refine GoQ.pure rfl (op_nilCheck rfl) rfl rfl ?_
  refine GoQ.pure rfl (op_fieldAddr Try.underlying72 rfl ti69 rfl (by decide)) rfl rfl ?_
  refine GoQ.stable rfl (oblk (i := 9) 1 hO rfl rfl Try.underlying69 rfl rfl) rfl rfl ?_
  refine GoQ.pure rfl (op_move rfl) rfl rfl ?_
  refine GoQ.pure rfl (op_move rfl) rfl rfl ?_
  replace co := (co.ch k8.ch).ch qR.ch
  refine GoQ.call rfl (op_call body61 rfl (walk_enumerate_text hO.lt co H)) (fun v w hr => by obtain ⟨_, _, hs, _, _⟩ := hr; assumption) rfl rfl ?_
  rintro YN YO ⟨r381, rfl, Pq, VO, H⟩
  have ju := Stp.same hO Pq
  replace hO := ju.own
  have hobt := omapUpd (MK.str Try.underlying9) 11 hO rfl Try.underlying69 r381 (d_16.length : Int)
  obtain ⟨Ix, jc, Lx⟩ := hobt
  dsimp only [sS, sZ] at jc
  refine GoQ.last rfl (Lx (by exact rfl) (by exact rfl) (by exact rfl)) rfl rfl ?_
  replace hO := jc.own
  refine GoQ.nil ?_
  refine zq (zr (zm rfl (zm rfl (zo (op_nilCheck rfl) (zo (op_fieldAddr Try.underlying72 rfl ti29 rfl (by decide)) ?_)))))
  refine zo (op_fieldAddr Try.underlying29 rfl ti22 rfl (by decide)) (zs (oblk (i := 3) 1 hO rfl rfl Try.underlying22 rfl rfl) (zm rfl ?_))
  replace co := (co.ch ju.ch).ch jc.ch
  have hobt := obuild (r := Rp.sl (Rp.int .i64)) (n := 1) (parts := [(0, .slice wc r66.length we)]) (vs := [.slice wc r66.length we]) (xs := [r66]) rfl Try.underlying22 ti26 hO (by decide) (by kernel_rfl) (Els.cons rfl ⟨wc, we, rfl, co⟩ (Els.nil _ _ _) (by simp [mx])) rfl
  obtain ⟨YP, YQ, jv, Pr, Wj, Ly⟩ := hobt
  refine zg (Ly rfl) ?_
  replace hO := jv.own
  have hobt := freeze 0 hO rfl Pr
  obtain ⟨hO1, un, c6, Ps⟩ := hobt
  dsimp only [eS, eZ] at hO1 un c6
  replace hB := (((((((hB.trans iP.fr).trans i5.fr).trans k8.fr).trans qR.fr).trans ju.fr).trans jc.fr).trans jv.fr).trans (Owns.dropFr _ _ 0)
  dsimp only [eS, eZ] at hB
  replace hO := hO1; clear hO1
  obtain ⟨TL, H⟩ := H
  have Z29 := (((qR.ch.trans ju.ch).trans jc.ch).trans jv.ch).trans un
  replace fG := fG.ch Z29
  have hobt := oapp Try.underlying22 ti26 rfl 3 hO rfl fG c6 Ps TL (by decide)
  obtain ⟨YR, DN, DO, Pt, qe, iR, Lz⟩ := hobt
  dsimp only [sS, sZ] at qe iR
  refine zg (Lz (by exact rfl) (by exact rfl)) ?_
  replace hO := qe.own
  refine zo (op_nilCheck rfl) (zo (op_fieldAddr Try.underlying72 rfl ti29 rfl (by decide)) (zo (op_fieldAddr Try.underlying29 rfl ti22 rfl (by decide)) ?_))
  have hobt := oblkSt2 (v := .slice DN (n21 + 1) DO) (i := 3) (cs' := #[.int .i64 a0.Enum.Points, .bool a0.Enum.Monoid, .slice aK aJ aL, .slice DN (n21 + 1) DO, .slice p25 n27 c26, .slice p31 n33 c32, .slice aT aM aU, .slice p37 n39 c38, .int .i64 a0.Enum.Done, .map (some aV), .slice p43 n45 c44, .slice p49 n51 c50, .slice bU bT bV]) 1 hO rfl rfl rfl rfl
  obtain ⟨TM, po, FD⟩ := hobt
  dsimp only [sS, sZ] at po
  refine zg (FD Try.underlying22 rfl ti22 (by exact rfl) (by exact rfl)) ?_
  replace hO := po.own
  refine zn (zq ?_)
  refine Go1.cut [(0, .pointer (some ⟨gP, 0, none⟩)), (2, .int .i64 a0.Enum.Done), (3, .int .i64 (k1_12 : Int)), (4, .string (gstr ((ix d_40 a0.Enum.Done) ++ (chr (IntKind.i32.wrap ((97 : Int) + (k1_12 : Int))))))), (5, .int .i64 (ix (ix a0.Enum.Right (ix d_46 a0.Enum.Done)) (k1_12 : Int))), (13, .int .i64 (d_16.length : Int))] ⟨rfl, rfl, rfl, rfl, rfl, rfl, trivial⟩ ?_
  intro σ _
  refine zr (zm rfl (zm rfl (zo (op_nilCheck rfl) (zo (op_fieldAddr Try.underlying72 rfl ti29 rfl (by decide)) (zo (op_fieldAddr Try.underlying29 rfl ti26 rfl (by decide)) ?_)))))
  refine zs (oblk (i := 4) 1 hO rfl rfl Try.underlying26 rfl rfl) (zm rfl ?_)
  have hobt := obuild (r := Rp.int .i64) (n := 1) (parts := [(0, .int .i64 a0.Enum.Done)]) (vs := [.int .i64 a0.Enum.Done]) (xs := [a0.Enum.Done]) rfl Try.underlying26 ti3 hO (by decide) (by kernel_rfl) (Els.cons rfl rfl (Els.nil _ _ _) (by simp [mx])) rfl
  obtain ⟨YS, YT, lI, Pu, Wk, LA⟩ := hobt
  refine zg (LA rfl) ?_
  replace hO := lI.own
  have hobt := freeze 0 hO rfl Pu
  obtain ⟨hO1, sX, kn, Pv⟩ := hobt
  dsimp only [eS, eZ] at hO1 sX kn
  replace hB := (((hB.trans qe.fr).trans po.fr).trans lI.fr).trans (Owns.dropFr _ _ 0)
  dsimp only [eS, eZ] at hB
  replace hO := hO1; clear hO1
  obtain ⟨TN, H⟩ := H
  have Z30 := ((((((((Z15.trans qR.ch).trans ju.ch).trans jc.ch).trans jv.ch).trans un).trans qe.ch).trans po.ch).trans lI.ch).trans sX
  replace d9 := d9.ch Z30
  have hobt := oapp Try.underlying26 ti3 rfl 4 hO rfl d9 kn Pv TN (by decide)
  obtain ⟨YU, Ew, Ex, Pw, kU, kj, LB⟩ := hobt
  dsimp only [sS, sZ] at kU kj
  refine zg (LB (by exact rfl) (by exact rfl)) ?_
  replace hO := kU.own
  refine zo (op_nilCheck rfl) (zo (op_fieldAddr Try.underlying72 rfl ti29 rfl (by decide)) (zo (op_fieldAddr Try.underlying29 rfl ti26 rfl (by decide)) ?_))
  have hobt := oblkSt2 (v := .slice Ew (n27 + 1) Ex) (i := 4) (cs' := #[.int .i64 a0.Enum.Points, .bool a0.Enum.Monoid, .slice aK aJ aL, .slice DN (n21 + 1) DO, .slice Ew (n27 + 1) Ex, .slice p31 n33 c32, .slice aT aM aU, .slice p37 n39 c38, .int .i64 a0.Enum.Done, .map (some aV), .slice p43 n45 c44, .slice p49 n51 c50, .slice bU bT bV]) 1 hO rfl rfl rfl rfl
  obtain ⟨YV, ol, LD⟩ := hobt
  dsimp only [sS, sZ] at ol
  refine zg (LD Try.underlying26 rfl ti26 (by exact rfl) (by exact rfl)) ?_
  replace hO := ol.own
  refine zn (zq (zr (zm rfl (zm rfl (zo (op_nilCheck rfl) ?_)))))
  refine zo (op_fieldAddr Try.underlying72 rfl ti29 rfl (by decide)) (zo (op_fieldAddr Try.underlying29 rfl ti26 rfl (by decide)) (zs (oblk (i := 5) 1 hO rfl rfl Try.underlying26 rfl rfl) (zm rfl ?_)))
  have hobt := obuild (r := Rp.int .i64) (n := 1) (parts := [(0, .int .i64 (k1_12 : Int))]) (vs := [.int .i64 (k1_12 : Int)]) (xs := [(k1_12 : Int)]) rfl Try.underlying26 ti3 hO (by decide) (by kernel_rfl) (Els.cons rfl rfl (Els.nil _ _ _) (by simp [mx])) rfl
  obtain ⟨TO, YW, gY, jL, Wl, LE⟩ := hobt
  refine zg (LE rfl) ?_
  replace hO := gY.own
  have hobt := freeze 0 hO rfl jL
  obtain ⟨hO1, sv, np, Px⟩ := hobt
  dsimp only [eS, eZ] at hO1 sv np
  replace hB := (((hB.trans kU.fr).trans ol.fr).trans gY.fr).trans (Owns.dropFr _ _ 0)
  dsimp only [eS, eZ] at hB
  replace hO := hO1; clear hO1
  obtain ⟨TP, H⟩ := H
  have Z31 := (((Z30.trans kU.ch).trans ol.ch).trans gY.ch).trans sv
  replace dK := dK.ch Z31
  have hobt := oapp Try.underlying26 ti3 rfl 5 hO rfl dK np Px TP (by decide)
  obtain ⟨YX, FE, FF, Py, om, o4, FG⟩ := hobt
  dsimp only [sS, sZ] at om o4
  refine zg (FG (by exact rfl) (by exact rfl)) ?_
  replace hO := om.own
  refine zo (op_nilCheck rfl) (zo (op_fieldAddr Try.underlying72 rfl ti29 rfl (by decide)) (zo (op_fieldAddr Try.underlying29 rfl ti26 rfl (by decide)) ?_))
  have hobt := oblkSt2 (v := .slice FE (n33 + 1) FF) (i := 5) (cs' := #[.int .i64 a0.Enum.Points, .bool a0.Enum.Monoid, .slice aK aJ aL, .slice DN (n21 + 1) DO, .slice Ew (n27 + 1) Ex, .slice FE (n33 + 1) FF, .slice aT aM aU, .slice p37 n39 c38, .int .i64 a0.Enum.Done, .map (some aV), .slice p43 n45 c44, .slice p49 n51 c50, .slice bU bT bV]) 1 hO rfl rfl rfl rfl
  obtain ⟨YY, jg, LF⟩ := hobt
  dsimp only [sS, sZ] at jg
  refine zg (LF Try.underlying26 rfl ti26 (by exact rfl) (by exact rfl)) ?_
  replace hO := jg.own
  refine zn (zq ?_)
  refine Go1.cut [(0, .pointer (some ⟨gP, 0, none⟩)), (4, .string (gstr ((ix d_40 a0.Enum.Done) ++ (chr (IntKind.i32.wrap ((97 : Int) + (k1_12 : Int))))))), (5, .int .i64 (ix (ix a0.Enum.Right (ix d_46 a0.Enum.Done)) (k1_12 : Int))), (13, .int .i64 (d_16.length : Int))] ⟨rfl, rfl, rfl, rfl, trivial⟩ ?_
  intro σ _
  refine zr (zm rfl (zm rfl (zo (op_nilCheck rfl) (zo (op_fieldAddr Try.underlying72 rfl ti70 rfl (by decide)) (zs (oblk (i := 10) 1 hO rfl rfl Try.underlying70 rfl rfl) ?_)))))
  refine zm rfl ?_
  have hobt := obuild (r := Rp.str) (n := 1) (parts := [(0, .string (gstr ((ix d_40 a0.Enum.Done) ++ (chr (IntKind.i32.wrap ((97 : Int) + (k1_12 : Int)))))))]) (vs := [.string (gstr ((ix d_40 a0.Enum.Done) ++ (chr (IntKind.i32.wrap ((97 : Int) + (k1_12 : Int))))))]) (xs := [(ix d_40 a0.Enum.Done) ++ (chr (IntKind.i32.wrap ((97 : Int) + (k1_12 : Int))))]) rfl Try.underlying70 ti9 hO (by decide) (by kernel_rfl) (Els.cons rfl ⟨rfl, (lenApp Ih)⟩ (Els.nil _ _ _) (by simp [mx])) rfl
  obtain ⟨Y0, Y1, oo, Pz, Wm, Fs⟩ := hobt
  refine zg (Fs rfl) ?_
  replace hO := oo.own
  have hobt := freeze 0 hO rfl Pz
  obtain ⟨hO1, rY, sY, PA⟩ := hobt
  dsimp only [eS, eZ] at hO1 rY sY
  replace hB := (((hB.trans om.fr).trans jg.fr).trans oo.fr).trans (Owns.dropFr _ _ 0)
  dsimp only [eS, eZ] at hB
  replace hO := hO1; clear hO1
  obtain ⟨TQ, H⟩ := H
  have Z32 := (((((((((((Z29.trans qe.ch).trans po.ch).trans lI.ch).trans sX).trans kU.ch).trans ol.ch).trans gY.ch).trans sv).trans om.ch).trans jg.ch).trans oo.ch).trans rY
  replace cS := cS.ch Z32
  have hobt := oapp Try.underlying70 ti9 rfl 8 hO rfl cS sY PA TQ (by decide)
  obtain ⟨Iy, GK, GL, PB, nh, vA, LG⟩ := hobt
  dsimp only [sS, sZ] at nh vA
  refine zg (LG (by exact rfl) (by exact rfl)) ?_
  replace hO := nh.own
  refine zo (op_nilCheck rfl) (zo (op_fieldAddr Try.underlying72 rfl ti70 rfl (by decide)) ?_)
  have hobt := oblkSt2 (v := .slice GK (n45 + 1) GL) (i := 10) (cs' := #[.int .i64 a0.Enum.Points, .bool a0.Enum.Monoid, .slice aK aJ aL, .slice DN (n21 + 1) DO, .slice Ew (n27 + 1) Ex, .slice FE (n33 + 1) FF, .slice aT aM aU, .slice p37 n39 c38, .int .i64 a0.Enum.Done, .map (some aV), .slice GK (n45 + 1) GL, .slice p49 n51 c50, .slice bU bT bV]) 1 hO rfl rfl rfl rfl
  obtain ⟨Y2, ml, LH⟩ := hobt
  dsimp only [sS, sZ] at ml
  refine zg (LH Try.underlying70 rfl ti70 (by exact rfl) (by exact rfl)) ?_
  replace hO := ml.own
  refine zn (zq (zr (zm rfl (zm rfl (zo (op_nilCheck rfl) ?_)))))
  refine zo (op_fieldAddr Try.underlying72 rfl ti26 rfl (by decide)) (zs (oblk (i := 11) 1 hO rfl rfl Try.underlying26 rfl rfl) (zm rfl ?_))
  have hobt := obuild (r := Rp.int .i64) (n := 1) (parts := [(0, .int .i64 (ix (ix a0.Enum.Right (ix d_46 a0.Enum.Done)) (k1_12 : Int)))]) (vs := [.int .i64 (ix (ix a0.Enum.Right (ix d_46 a0.Enum.Done)) (k1_12 : Int))]) (xs := [(ix (ix a0.Enum.Right (ix d_46 a0.Enum.Done)) (k1_12 : Int))]) rfl Try.underlying26 ti3 hO (by decide) (by kernel_rfl) (Els.cons rfl rfl (Els.nil _ _ _) (by simp [mx])) rfl
  obtain ⟨TS, Y3, ni, PC, Wn, FH⟩ := hobt
  refine zg (FH rfl) ?_
  replace hO := ni.own
  have hobt := freeze 0 hO rfl PC
  obtain ⟨hO1, rb, At, PD⟩ := hobt
  dsimp only [eS, eZ] at hO1 rb At
  replace hB := (((hB.trans nh.fr).trans ml.fr).trans ni.fr).trans (Owns.dropFr _ _ 0)
  dsimp only [eS, eZ] at hB
  replace hO := hO1; clear hO1
  obtain ⟨TT, H⟩ := H
  have Z33 := (((Z32.trans nh.ch).trans ml.ch).trans ni.ch).trans rb
  replace cQ := cQ.ch Z33
  have hobt := oapp Try.underlying26 ti3 rfl 9 hO rfl cQ At PD TT (by decide)
  obtain ⟨Y4, Iz, IA, PE, iI, Ak, LI⟩ := hobt
  dsimp only [sS, sZ] at iI Ak
  refine zg (LI (by exact rfl) (by exact rfl)) ?_
  replace hO := iI.own
  refine zo (op_nilCheck rfl) (zo (op_fieldAddr Try.underlying72 rfl ti26 rfl (by decide)) ?_)
  have hobt := oblkSt2 (v := .slice Iz (n51 + 1) IA) (i := 11) (cs' := #[.int .i64 a0.Enum.Points, .bool a0.Enum.Monoid, .slice aK aJ aL, .slice DN (n21 + 1) DO, .slice Ew (n27 + 1) Ex, .slice FE (n33 + 1) FF, .slice aT aM aU, .slice p37 n39 c38, .int .i64 a0.Enum.Done, .map (some aV), .slice GK (n45 + 1) GL, .slice Iz (n51 + 1) IA, .slice bU bT bV]) 1 hO rfl rfl rfl rfl
  obtain ⟨Y5, ma, LJ⟩ := hobt
  dsimp only [sS, sZ] at ma
  refine zg (LJ Try.underlying26 rfl ti26 (by exact rfl) (by exact rfl)) ?_
  replace hO := ma.own
  refine zn (zq ?_)
  refine Go1.cut [(13, .int .i64 (d_16.length : Int))] ⟨rfl, trivial⟩ ?_
  intro σ _
  refine zr (zm rfl (za rfl (zn ?_)))
  refine Go1.ret1V Try.func65 rfl (show _ = .int .i64 (d_16.length : Int) from rfl) ?_
  refine hR377 _ _ ?_
  refine za rfl (zn ?_)
  refine Go1.inBlock ?_
  refine zr (zm rfl (zm rfl (zm rfl ?_)))
  obtain ⟨IB, H⟩ := H
  obtain ⟨IC, H⟩ := H
  have Z34 := (((((((((Z31.trans om.ch).trans jg.ch).trans oo.ch).trans rY).trans nh.ch).trans ml.ch).trans ni.ch).trans rb).trans iI.ch).trans ma.ch
  replace cH := cH.ch Z34
  refine zo (op_index Try.underlying26 ti3 rfl rfl IB (ltn (cH.neq hO 0 rfl) IC) (cH.psome hO 0 rfl IB IC)) ?_
  have hobt := ost (r := Rp.int .i64) rfl 0 hO rfl cH IB IC (v := .int .i64 (d_16.length : Int)) (u := (d_16.length : Int)) rfl rfl
  obtain ⟨Y6, PF, mm, Jl, LK⟩ := hobt
  dsimp only [sS, sZ] at mm Jl
  refine zg (LK Try.underlying3 rfl ti3 (by exact rfl) (by exact rfl)) ?_
  replace hO := mm.own
  refine zn ?_
  refine Go1.inBlock ?_
  refine zr ?_
  replace ab := (ab.ch Z34).ch mm.ch
  refine zo (op_add rfl rfl (wrap_i64 (natbd h53 ab.bd))) (zm rfl (zn ?_))
  replace Ak := (Ak.ch ma.ch).ch mm.ch
  replace hB := ((hB.trans iI.fr).trans ma.fr).trans mm.fr
  have Z35 := ((((ml.ch.trans ni.ch).trans rb).trans iI.ch).trans ma.ch).trans mm.ch
  replace vA := vA.ch Z35
  have Z36 := ((((((((jg.ch.trans oo.ch).trans rY).trans nh.ch).trans ml.ch).trans ni.ch).trans rb).trans iI.ch).trans ma.ch).trans mm.ch
  replace o4 := o4.ch Z36
  have Z37 := ((((((((((((ol.ch.trans gY.ch).trans sv).trans om.ch).trans jg.ch).trans oo.ch).trans rY).trans nh.ch).trans ml.ch).trans ni.ch).trans rb).trans iI.ch).trans ma.ch).trans mm.ch
  replace kj := kj.ch Z37
  have Z38 := ((((((((((((((((po.ch.trans lI.ch).trans sX).trans kU.ch).trans ol.ch).trans gY.ch).trans sv).trans om.ch).trans jg.ch).trans oo.ch).trans rY).trans nh.ch).trans ml.ch).trans ni.ch).trans rb).trans iI.ch).trans ma.ch).trans mm.ch
  replace iR := iR.ch Z38
  have Z39 := ((Z33.trans iI.ch).trans ma.ch).trans mm.ch
  replace ac := ac.ch Z39
  have Z40 := Z34.trans mm.ch
  replace cV := cV.ch Z40
  replace ae := ae.ch Z40
  exact hX1 _ H _ _ ⟨PF, n21 + 1, DN, DO, Pt, n27 + 1, Ew, Ex, Pw, n33 + 1, FE, FF, Py, n39, p37, c38, ry, n45 + 1, GK, GL, PB, n51 + 1, Iz, IA, PE, ⟨rfl, rfl, rfl, rfl, rfl, rfl, trivial⟩, hO, Jl, ab, iR, kj, o4, ac, cV, vA, Ak, ae, hB⟩
 replace H := ifn h53 H
 refine zo (fun w => opB (op_lss rfl rfl w) (decide_eq_false h53)) (zn (zq (zf rfl rfl ?_)))
 refine Go1.exit rfl ?_
 refine zq (zr (zm rfl (zm rfl (zo (op_nilCheck rfl) (zo (op_fieldAddr Try.underlying72 rfl ti29 rfl (by decide)) ?_)))))
 refine zo (op_fieldAddr Try.underlying29 rfl ti22 rfl (by decide)) (zs (oblk (i := 6) 1 hO rfl rfl Try.underlying22 rfl rfl) (zm rfl ?_))
 have hobt := freeze 0 hO rfl cH
 obtain ⟨hO1, yu, wX, PG⟩ := hobt
 dsimp only [eS, eZ] at hO1 yu wX
 replace hB := hB.trans (Owns.dropFr _ _ 0)
 dsimp only [eS, eZ] at hB
 replace hO := hO1; clear hO1
 have hobt := obuild (r := Rp.sl (Rp.int .i64)) (n := 1) (parts := [(0, .slice p2 a0.Enum.Gens.length a0.Enum.Gens.length)]) (vs := [.slice p2 a0.Enum.Gens.length a0.Enum.Gens.length]) (xs := [d_13]) rfl Try.underlying22 ti26 hO (by decide) (by kernel_rfl) (Els.cons rfl ⟨p2, a0.Enum.Gens.length, congrArg some (congrArg (fun nn => Value.slice p2 nn a0.Enum.Gens.length) PG), wX⟩ (Els.nil _ _ _) (by simp [mx])) rfl
 obtain ⟨Y7, Y8, u6, PH, Wo, Ft⟩ := hobt
 refine zg (Ft rfl) ?_
 replace hO := u6.own
 have hobt := freeze 0 hO rfl PH
 obtain ⟨hO1, xM, Au, PI⟩ := hobt
 dsimp only [eS, eZ] at hO1 xM Au
 replace hB := (hB.trans u6.fr).trans (Owns.dropFr _ _ 0)
 dsimp only [eS, eZ] at hB
 replace hO := hO1; clear hO1
 obtain ⟨TU, H⟩ := H
 have Z41 := (yu.trans u6.ch).trans xM
 replace ac := ac.ch Z41
 have hobt := oapp Try.underlying22 ti26 rfl 5 hO rfl ac Au PI TU (by decide)
 obtain ⟨ID, GM, GN, PJ, tC, C8, LM⟩ := hobt
 dsimp only [sS, sZ] at tC C8
 refine zg (LM (by exact rfl) (by exact rfl)) ?_
 replace hO := tC.own
 refine zo (op_nilCheck rfl) (zo (op_fieldAddr Try.underlying72 rfl ti29 rfl (by decide)) (zo (op_fieldAddr Try.underlying29 rfl ti22 rfl (by decide)) ?_))
 have hobt := oblkSt2 (v := .slice GM (aM + 1) GN) (i := 6) (cs' := #[.int .i64 a0.Enum.Points, .bool a0.Enum.Monoid, .slice aK aJ aL, .slice p19 n21 c20, .slice p25 n27 c26, .slice p31 n33 c32, .slice GM (aM + 1) GN, .slice p37 n39 c38, .int .i64 a0.Enum.Done, .map (some aV), .slice p43 n45 c44, .slice p49 n51 c50, .slice bU bT bV]) 0 hO rfl rfl rfl rfl
 obtain ⟨Y9, sw, LN⟩ := hobt
 dsimp only [sS, sZ] at sw
 refine zg (LN Try.underlying22 rfl ti22 (by exact rfl) (by exact rfl)) ?_
 replace hO := sw.own
 refine zn (zq ?_)
 refine Go1.cut [(0, .pointer (some ⟨gP, 0, none⟩))] ⟨rfl, trivial⟩ ?_
 intro σ _
 refine zr (zm rfl (zo (op_nilCheck rfl) (zo (op_fieldAddr Try.underlying72 rfl ti29 rfl (by decide)) (zo (op_fieldAddr Try.underlying29 rfl ti3 rfl (by decide)) (zs (oblk (i := 8) 0 hO rfl rfl Try.underlying3 rfl rfl) ?_)))))
 obtain ⟨TV, H⟩ := H
 refine zo (op_add rfl rfl (wrap_i64 TV)) (zo (op_nilCheck rfl) (zo (op_fieldAddr Try.underlying72 rfl ti29 rfl (by decide)) (zo (op_fieldAddr Try.underlying29 rfl ti3 rfl (by decide)) ?_)))
 have hobt := oblkSt2 (v := .int .i64 (a0.Enum.Done + (1 : Int))) (i := 8) (cs' := #[.int .i64 a0.Enum.Points, .bool a0.Enum.Monoid, .slice aK aJ aL, .slice p19 n21 c20, .slice p25 n27 c26, .slice p31 n33 c32, .slice GM (aM + 1) GN, .slice p37 n39 c38, .int .i64 (a0.Enum.Done + (1 : Int)), .map (some aV), .slice p43 n45 c44, .slice p49 n51 c50, .slice bU bT bV]) 0 hO rfl rfl rfl rfl
 obtain ⟨aaa, jd, LO⟩ := hobt
 dsimp only [sS, sZ] at jd
 refine zg (LO Try.underlying3 rfl ti3 (by exact rfl) (by exact rfl)) ?_
 replace hO := jd.own
 refine zn (zq (zr (za rfl (zn ?_))))
 refine Go1.ret1 Try.func51 rfl ?_
 replace C8 := (C8.ch sw.ch).ch jd.ch
 replace hB := ((hB.trans tC.fr).trans sw.fr).trans jd.fr
 have Z42 := ((Z41.trans tC.ch).trans sw.ch).trans jd.ch
 replace ab := ab.ch Z42
 replace fG := fG.ch Z42
 replace d9 := d9.ch Z42
 replace dK := dK.ch Z42
 replace cV := cV.ch Z42
 replace cS := cS.ch Z42
 replace cQ := cQ.ch Z42
 replace ae := ae.ch Z42
 exact ⟨((0 : Int)), (⟨(⟨a0.Enum.Points, a0.Enum.Monoid, a0.Enum.Gens, d_16, d_22, d_28, a0.Enum.Right ++ ([d_13]), d_34, (a0.Enum.Done + (1 : Int))⟩ : Enum), m1_52, d_40, d_46, a0.single⟩ : run), aJ, aK, aL, er, n21, p19, c20, qF, n27, p25, c26, ru, n33, p31, c32, rv, (aM + 1), GM, GN, PJ, n39, p37, c38, ry, n45, p43, c44, rz, n51, p49, c50, rB, bT, bU, bV, fL, rfl, hO, ab, fG, d9, dK, C8, cV, cS, cQ, ae, hB, H⟩
theorem body50 : Body Try.prog 50 := ⟨Try.f50, Try.func50, rfl, by kernel_rfl⟩
theorem body17 : Body Try.prog 17 := ⟨Try.f17, Try.func17, rfl, by kernel_rfl⟩
theorem walk_enumerate_Build {A : List Nat} {w0 : World} {o7 : Option Addr} {o8 : Nat} {gens : List (List Int)} {monoid : Bool} (hA : ∀ b ∈ A, b < w0.heap.size) (iq : ISl (Rp.sl (Rp.int .i64)) A w0 o7 o8 gens) {K : Enum → Int → Prop} (H : enumerate_Build gens monoid K) :
    CallsV Try.prog 17 #[.slice o7 gens.length o8, .bool monoid] w0 (fun v w' => ∃ (r0 : Enum), ∃ (r1 : Int), ∃ (qf : Option Addr), ∃ (qg : Nat), ∃ (oq : Option Addr), ∃ (ot : Nat), ∃ (mo : Option Addr), ∃ (mp : Nat), ∃ (qh : Option Addr), ∃ (qi : Nat), ∃ (ou : Option Addr), ∃ (ov : Nat), ∃ (ow : Option Addr), ∃ (oA : Nat), v = .tuple #[.agg #[.int .i64 r0.Points, .bool r0.Monoid, .slice qf r0.Gens.length qg, .slice oq r0.Elems.length ot, .slice mo r0.Prefix.length mp, .slice qh r0.Last.length qi, .slice ou r0.Right.length ov, .slice ow r0.Rules.length oA, .int .i64 r0.Done], .int .i64 r1] ∧ Same w0 w' ∧ ISl (Rp.sl (Rp.int .i64)) A w' qf qg r0.Gens ∧ ISl (Rp.sl (Rp.int .i64)) A w' oq ot r0.Elems ∧ ISl (Rp.int .i64) A w' mo mp r0.Prefix ∧ ISl (Rp.int .i64) A w' qh qi r0.Last ∧ ISl (Rp.sl (Rp.int .i64)) A w' ou ov r0.Right ∧ ISl (rpRule) A w' ow oA r0.Rules ∧ K r0 r1) := by
 refine CallsV.of (l := [.slice o7 gens.length o8, .bool monoid]) Try.func17 rfl Try.ntmps17 rfl ?_
 have hO := Owns.start hA
 have hB := Fr.refl (bl []) w0
 unfold enumerate_Build at H
 refine zq (zr ?_)
 have hobt := oalloc (t := 29) (cs := #[.int .i64 (0 : Int), .bool false, .slice none 0 0, .slice none 0 0, .slice none 0 0, .slice none 0 0, .slice none 0 0, .slice none 0 0, .int .i64 (0 : Int)]) ti29 hO rfl
 obtain ⟨w1, B2, d7, hs4, qE⟩ := hobt
 refine GoR.op qE rfl rfl ?_
 replace hO := d7.own
 refine za rfl (zn (zq (zr (zm rfl (zm rfl ?_)))))
 replace iq := (iq.ch (Ch.start A w0)).ch d7.ch
 refine GoR.call (op_call body49 rfl (walk_enumerate_begin hO.lt iq H)) rfl rfl ?_
 intro v9 w10 hcase13
 refine Or.elim hcase13 ?_ ?_
 ·refine exE fun r8 => andE fun hv14 => andE fun wy => fun H => ?_
  subst hv14
  clear hcase13
  replace H := oElimN H
  have ji := Stp.same hO wy
  replace hO := ji.own
  refine zm rfl (zo (op_extract rfl rfl) (zo (op_extract rfl rfl) (za rfl (za rfl (zn ?_)))))
  refine zq (zq (zr (zm rfl ?_)))
  by_cases h16 : r8 = (0 : Int)
  ·replace H := ifp h16 H
   refine zo (fun w => opB (op_neq rfl rfl w) (ndT h16)) (zn (zf rfl rfl (zk (zq (zb ?_)))))
   replace hB := (hB.trans d7.fr).trans ji.fr
   refine Go1.loopW (S := Unit) (fun s σ w => agrees σ [(4, .pointer (some ⟨B2, 0, none⟩)), (6, .pointer none)] ∧ Owns w0.heap.size w [.blk B2 (.cells #[.int .i64 (0 : Int), .bool false, .slice none 0 0, .slice none 0 0, .slice none 0 0, .slice none 0 0, .slice none 0 0, .slice none 0 0, .int .i64 (0 : Int)] 29 (0, 0))] A ∧ Fr (bl []) w0 (bl [.blk B2 (.cells #[.int .i64 (0 : Int), .bool false, .slice none 0 0, .slice none 0 0, .slice none 0 0, .slice none 0 0, .slice none 0 0, .slice none 0 0, .int .i64 (0 : Int)] 29 (0, 0))]) w) H ⟨⟨rfl, rfl, trivial⟩, hO, hB⟩ ?_
   intro X1 _
   intro H hX1 σ w17
   refine andE fun hag => andE fun hO => fun hB => ?_
   refine Go1.keep [(4, .pointer (some ⟨B2, 0, none⟩)), (6, .pointer none)] hag ?_
   refine zq (zq (zr (zm rfl ?_)))
   refine GoR.inl (vs := [.pointer none]) (caps := []) rfl rfl body50 Try.func50 rfl Try.ntmps50 rfl rfl rfl ?_
   intro RhR18 hR18
   refine zq (zr (za rfl (zn (zq ?_))))
   refine Go1.drawS 0 [(0, .pure), (1, .pure), (2, .pure), (3, .pure), (4, .stable), (5, .pure), (6, .pure), (7, .pure), (8, .pure), (9, .stable), (10, .pure), (11, .pure), (12, .pure)] mixed (by kernel_rfl) ?_
   intro w19 LP
   have nq := Stp.same hO LP
   replace hO := nq.own
   refine GoQ.pure rfl (op_move rfl) rfl rfl ?_
   exact H.elim
  replace H := ifn h16 H
  refine zo (fun w => opB (op_neq rfl rfl w) (ndF h16)) (zn (zt rfl rfl (zq (zr (zo (op_build Try.underlying29 ti29 (pl := [(0, 1), (1, 1), (2, 1), (3, 1), (4, 1), (5, 1), (6, 1), (7, 1), (8, 1)]) (vs := []) (cs := #[.int .i64 (0 : Int), .bool false, .slice none 0 0, .slice none 0 0, .slice none 0 0, .slice none 0 0, .slice none 0 0, .slice none 0 0, .int .i64 (0 : Int)]) (by kernel_rfl) rfl (by kernel_rfl)) ?_)))))
  refine zm rfl ?_
  have hobt := oblkStAgg (us := [.int .i64 (0 : Int), .bool false, .slice none 0 0, .slice none 0 0, .slice none 0 0, .slice none 0 0, .slice none 0 0, .slice none 0 0, .int .i64 (0 : Int)]) (o := 0) (cs' := #[.int .i64 (0 : Int), .bool false, .slice none 0 0, .slice none 0 0, .slice none 0 0, .slice none 0 0, .slice none 0 0, .slice none 0 0, .int .i64 (0 : Int)]) 0 hO rfl rfl (Nat.le_of_ble_eq_true rfl) rfl
  obtain ⟨w22, tX, GO⟩ := hobt
  refine zg (GO ti29 (by exact rfl) (by exact rfl) rfl) ?_
  replace hO := tX.own
  refine za rfl (zn ?_)
  refine Go1.retC2 Try.func17 rfl rfl (run_loadBlk (vs := [.int .i64 (0 : Int), .bool false, .slice none 0 0, .slice none 0 0, .slice none 0 0, .slice none 0 0, .slice none 0 0, .slice none 0 0, .int .i64 (0 : Int)]) 0 hO rfl rfl Try.underlying29 rfl ti29) ?_
  replace hB := ((hB.trans d7.fr).trans ji.fr).trans tX.fr
  exact ⟨(⟨(0 : Int), false, ([] : List (List Int)), ([] : List (List Int)), ([] : List Int), ([] : List Int), ([] : List (List Int)), ([] : List Rule), (0 : Int)⟩ : Enum), r8, none, 0, none, 0, none, 0, none, 0, none, 0, none, 0, rfl, hB.same, (ISl.null _ _ _), (ISl.null _ _ _), (ISl.null _ _ _), (ISl.null _ _ _), (ISl.null _ _ _), (ISl.null _ _ _), H⟩
 ·refine exE fun r7 => exE fun r8 => exE fun fB => exE fun cq => exE fun cr => exE fun ct => exE fun et => exE fun bG => exE fun bH => exE fun bI => exE fun dY => exE fun bu => exE fun bv => exE fun bw => exE fun dJ => exE fun cu => exE fun cv => exE fun cw => exE fun eA => exE fun bK => exE fun bM => exE fun bN => exE fun d4 => exE fun bO => exE fun bP => exE fun bQ => exE fun d5 => exE fun al => exE fun dO => exE fun dP => exE fun dQ => exE fun f6 => exE fun dp => exE fun dq => exE fun dr => exE fun fM => exE fun dt => exE fun du => exE fun dw => exE fun fN => andE fun hv25 => andE fun wy => andE fun hN12 => andE fun bi => andE fun aP => andE fun aN => andE fun bh => andE fun aO => andE fun aW => andE fun cF => andE fun cx => andE fun cy => fun H => ?_
  subst hv25
  clear hcase13
  replace H := oElimS H
  have nk := Stp.more hO wy hN12
  dsimp only [List.cons_append, List.nil_append] at nk
  replace hO := nk.own
  replace bi := bi.ch (Ch.assoc _ _ _ _)
  dsimp only [List.cons_append, List.nil_append] at bi
  replace aP := aP.ch (Ch.assoc _ _ _ _)
  dsimp only [List.cons_append, List.nil_append] at aP
  replace aN := aN.ch (Ch.assoc _ _ _ _)
  dsimp only [List.cons_append, List.nil_append] at aN
  replace bh := bh.ch (Ch.assoc _ _ _ _)
  dsimp only [List.cons_append, List.nil_append] at bh
  replace aO := aO.ch (Ch.assoc _ _ _ _)
  dsimp only [List.cons_append, List.nil_append] at aO
  replace aW := aW.ch (Ch.assoc _ _ _ _)
  dsimp only [List.cons_append, List.nil_append] at aW
  replace cF := cF.ch (Ch.assoc _ _ _ _)
  dsimp only [List.cons_append, List.nil_append] at cF
  replace cx := cx.ch (Ch.assoc _ _ _ _)
  dsimp only [List.cons_append, List.nil_append] at cx
  replace cy := cy.ch (Ch.assoc _ _ _ _)
  dsimp only [List.cons_append, List.nil_append] at cy
  refine zm rfl (zo (op_extract rfl rfl) (zo (op_extract rfl rfl) (za rfl (za rfl (zn ?_)))))
  refine zq (zq (zr (zm rfl ?_)))
  by_cases h38 : r8 = (0 : Int)
  ·replace H := ifp h38 H
   refine zo (fun w => opB (op_neq rfl rfl w) (ndT h38)) (zn (zf rfl rfl (zk (zq (zb ?_)))))
   replace hB := (hB.trans d7.fr).trans nk.fr
   refine Go1.loopW (S := Int × Bool × Int × List (List Int) × List (List Int) × List Int × List Int × List (List Int) × List Rule × List Str × List Int × List Int × (List (Str × Int))) (fun s σ w => match s with | (k2_40, b2_41, k2_42, d_43, d_49, d_55, d_61, d_67, d_73, d_79, d_85, d_91, m2_97) => ∃ (n48 : Nat), ∃ (p46 : Option Addr), ∃ (c47 : Nat), ∃ (ve : List Value), ∃ (n54 : Nat), ∃ (p52 : Option Addr), ∃ (c53 : Nat), ∃ (vg : List Value), ∃ (n60 : Nat), ∃ (p58 : Option Addr), ∃ (c59 : Nat), ∃ (vh : List Value), ∃ (n66 : Nat), ∃ (p64 : Option Addr), ∃ (c65 : Nat), ∃ (vi : List Value), ∃ (n72 : Nat), ∃ (p70 : Option Addr), ∃ (c71 : Nat), ∃ (tD : List Value), ∃ (n78 : Nat), ∃ (p76 : Option Addr), ∃ (c77 : Nat), ∃ (vj : List Value), ∃ (n84 : Nat), ∃ (p82 : Option Addr), ∃ (c83 : Nat), ∃ (tm : List Value), ∃ (n90 : Nat), ∃ (p88 : Option Addr), ∃ (c89 : Nat), ∃ (vk : List Value), ∃ (n96 : Nat), ∃ (p94 : Option Addr), ∃ (c95 : Nat), ∃ (vl : List Value), agrees σ [(4, .pointer (some ⟨B2, 0, none⟩)), (6, .pointer (some ⟨fB, 0, none⟩))] ∧ (fun Z0 => Owns w0.heap.size w Z0 A ∧ Els (Rp.sl (Rp.int .i64)) (bl Z0 ++ A) w ve d_43 ∧ Els (Rp.sl (Rp.int .i64)) (bl Z0 ++ A) w vg d_49 ∧ Els (Rp.int .i64) (bl Z0 ++ A) w vh d_55 ∧ Els (Rp.int .i64) (bl Z0 ++ A) w vi d_61 ∧ Els (Rp.sl (Rp.int .i64)) (bl Z0 ++ A) w tD d_67 ∧ Els (rpRule) (bl Z0 ++ A) w vj d_73 ∧ Els (Rp.str) (bl Z0 ++ A) w tm d_79 ∧ Els (Rp.int .i64) (bl Z0 ++ A) w vk d_85 ∧ Els (Rp.int .i64) (bl Z0 ++ A) w vl d_91 ∧ Fr (bl []) w0 (bl Z0) w) [.blk fB (.cells #[.int .i64 k2_40, .bool b2_41, .slice p46 n48 c47, .slice p52 n54 c53, .slice p58 n60 c59, .slice p64 n66 c65, .slice p70 n72 c71, .slice p76 n78 c77, .int .i64 k2_42, .map (some al), .slice p82 n84 c83, .slice p88 n90 c89, .slice p94 n96 c95] 72 (0, 0)), .row 26 1 p46 n48 c47 ve, .row 26 1 p52 n54 c53 vg, .row 3 1 p58 n60 c59 vh, .row 3 1 p64 n66 c65 vi, .row 26 1 p70 n72 c71 tD, .row 39 2 p76 n78 c77 vj, .row 9 1 p82 n84 c83 tm, .row 3 1 p88 n90 c89 vk, .row 3 1 p94 n96 c95 vl, .any (mapE (fun a : List UInt8 => Value.string (gstr a)) (fun a : Int => Value.int .i64 a) al m2_97), .blk B2 (.cells #[.int .i64 (0 : Int), .bool false, .slice none 0 0, .slice none 0 0, .slice none 0 0, .slice none 0 0, .slice none 0 0, .slice none 0 0, .int .i64 (0 : Int)] 29 (0, 0))]) H ⟨cq, cr, ct, et, bG, bH, bI, dY, bu, bv, bw, dJ, cu, cv, cw, eA, bK, bM, bN, d4, bO, bP, bQ, d5, dO, dP, dQ, f6, dp, dq, dr, fM, dt, du, dw, fN, ⟨rfl, rfl, trivial⟩, hO, bi, aP, aN, bh, aO, aW, cF, cx, cy, hB⟩ ?_
   intro X2
   refine prE fun k2_40 => prE fun b2_41 => prE fun k2_42 => prE fun d_43 => prE fun d_49 => prE fun d_55 => prE fun d_61 => prE fun d_67 => prE fun d_73 => prE fun d_79 => prE fun d_85 => prE fun d_91 => fun m2_97 => ?_
   intro H hX2 σ w39
   refine exE fun n48 => exE fun p46 => exE fun c47 => exE fun ve => exE fun n54 => exE fun p52 => exE fun c53 => exE fun vg => exE fun n60 => exE fun p58 => exE fun c59 => exE fun vh => exE fun n66 => exE fun p64 => exE fun c65 => exE fun vi => exE fun n72 => exE fun p70 => exE fun c71 => exE fun tD => exE fun n78 => exE fun p76 => exE fun c77 => exE fun vj => exE fun n84 => exE fun p82 => exE fun c83 => exE fun tm => exE fun n90 => exE fun p88 => exE fun c89 => exE fun vk => exE fun n96 => exE fun p94 => exE fun c95 => exE fun vl => andE fun hag => andE fun hO => andE fun Ey => andE fun BD => andE fun zl => andE fun gu => andE fun q8 => andE fun tE => andE fun vU => andE fun gB => andE fun nW => fun hB => ?_
   dsimp only at H
   refine Go1.keep [(4, .pointer (some ⟨B2, 0, none⟩)), (6, .pointer (some ⟨fB, 0, none⟩))] hag ?_
   refine zq (zq (zr (zm rfl ?_)))
   refine GoR.inl (vs := [.pointer (some ⟨fB, 0, none⟩)]) (caps := []) rfl rfl body50 Try.func50 rfl Try.ntmps50 rfl rfl rfl ?_
   intro RhR98 hR98
   refine zq (zr (za rfl (zn (zq ?_))))
   refine Go1.drawS 0 [(0, .pure), (1, .pure), (2, .pure), (3, .pure), (4, .stable), (5, .pure), (6, .pure), (7, .pure), (8, .pure), (9, .stable), (10, .pure), (11, .pure), (12, .pure)] mixed (by kernel_rfl) ?_
   intro w99 GP
   have ia := Stp.same hO GP
   replace hO := ia.own
   refine GoQ.pure rfl (op_move rfl) rfl rfl ?_
   refine GoQ.pure rfl (op_nilCheck rfl) rfl rfl ?_
   refine GoQ.pure rfl (op_fieldAddr Try.underlying72 rfl ti29 rfl (by decide)) rfl rfl ?_
   refine GoQ.pure rfl (op_fieldAddr Try.underlying29 rfl ti3 rfl (by decide)) rfl rfl ?_
   refine GoQ.stable rfl (oblk (i := 8) 0 hO rfl rfl Try.underlying3 rfl rfl) rfl rfl ?_
   refine GoQ.pure rfl (op_move rfl) rfl rfl ?_
   refine GoQ.pure rfl (op_nilCheck rfl) rfl rfl ?_
   refine GoQ.pure rfl (op_fieldAddr Try.underlying72 rfl ti29 rfl (by decide)) rfl rfl ?_
   refine GoQ.pure rfl (op_fieldAddr Try.underlying29 rfl ti22 rfl (by decide)) rfl rfl ?_
   refine GoQ.stable rfl (oblk (i := 3) 0 hO rfl rfl Try.underlying22 rfl rfl) rfl rfl ?_
   replace BD := BD.ch ia.ch
   refine GoQ.pure rfl (op_lenN Try.underlying22 rfl (BD.neq hO 2 rfl)) rfl rfl ?_
   by_cases yh : k2_42 = (d_49.length : Int)
   ·replace H := ifp yh H
    refine GoQ.pure rfl (fun w => opB (op_eql rfl rfl w) (decide_eq_true yh)) rfl rfl ?_
    refine GoQ.pure rfl (op_assign rfl) rfl rfl ?_
    refine GoQ.nil ?_
    refine Go1.ret1V Try.func50 rfl (show _ = .bool true from rfl) ?_
    refine hR98 _ _ ?_
    refine zo (op_not rfl) (zn (zf rfl rfl ?_))
    refine Go1.exit rfl ?_
    refine zq (zr (zm rfl (zo (op_nilCheck rfl) (zo (op_fieldAddr Try.underlying72 rfl ti29 rfl (by decide)) (zs (oblkAgg (vs := [.int .i64 k2_40, .bool b2_41, .slice p46 n48 c47, .slice p52 n54 c53, .slice p58 n60 c59, .slice p64 n66 c65, .slice p70 n72 c71, .slice p76 n78 c77, .int .i64 k2_42]) (i := 0) 0 hO rfl rfl Try.underlying29 rfl ti29 rfl) ?_)))))
    have hobt := oblkStAgg (us := [.int .i64 k2_40, .bool b2_41, .slice p46 n48 c47, .slice p52 n54 c53, .slice p58 n60 c59, .slice p64 n66 c65, .slice p70 n72 c71, .slice p76 n78 c77, .int .i64 k2_42]) (o := 0) (cs' := #[.int .i64 k2_40, .bool b2_41, .slice p46 n48 c47, .slice p52 n54 c53, .slice p58 n60 c59, .slice p64 n66 c65, .slice p70 n72 c71, .slice p76 n78 c77, .int .i64 k2_42]) 11 hO rfl rfl (Nat.le_of_ble_eq_true rfl) rfl
    obtain ⟨aab, iC, LQ⟩ := hobt
    dsimp only [sS, sZ] at iC
    refine zg (LQ ti29 (by exact rfl) (by exact rfl) rfl) ?_
    replace hO := iC.own
    refine za rfl (zn ?_)
    replace Ey := (Ey.ch ia.ch).ch iC.ch
    have hobt := freeze 1 hO rfl Ey
    obtain ⟨hO1, zx, sx, PK⟩ := hobt
    dsimp only [eS, eZ] at hO1 zx sx
    replace hB := ((hB.trans ia.fr).trans iC.fr).trans (Owns.dropFr _ _ 1)
    dsimp only [eS, eZ] at hB
    replace hO := hO1; clear hO1
    replace BD := (BD.ch iC.ch).ch zx
    have hobt := freeze 1 hO rfl BD
    obtain ⟨hO1, zy, yv, PM⟩ := hobt
    dsimp only [eS, eZ] at hO1 zy yv
    replace hB := hB.trans (Owns.dropFr _ _ 1)
    dsimp only [eS, eZ] at hB
    replace hO := hO1; clear hO1
    have Z1 := ((ia.ch.trans iC.ch).trans zx).trans zy
    replace zl := zl.ch Z1
    have hobt := freeze 1 hO rfl zl
    obtain ⟨hO1, zA, Aw, GQ⟩ := hobt
    dsimp only [eS, eZ] at hO1 zA Aw
    replace hB := hB.trans (Owns.dropFr _ _ 1)
    dsimp only [eS, eZ] at hB
    replace hO := hO1; clear hO1
    replace gu := (gu.ch Z1).ch zA
    have hobt := freeze 1 hO rfl gu
    obtain ⟨hO1, zB, C9, PN⟩ := hobt
    dsimp only [eS, eZ] at hO1 zB C9
    replace hB := hB.trans (Owns.dropFr _ _ 1)
    dsimp only [eS, eZ] at hB
    replace hO := hO1; clear hO1
    replace q8 := ((q8.ch Z1).ch zA).ch zB
    have hobt := freeze 1 hO rfl q8
    obtain ⟨hO1, zC, ES, PO⟩ := hobt
    dsimp only [eS, eZ] at hO1 zC ES
    replace hB := hB.trans (Owns.dropFr _ _ 1)
    dsimp only [eS, eZ] at hB
    replace hO := hO1; clear hO1
    have Z2 := ((Z1.trans zA).trans zB).trans zC
    replace tE := tE.ch Z2
    have hobt := freeze 1 hO rfl tE
    obtain ⟨hO1, zD, Jm, PP⟩ := hobt
    dsimp only [eS, eZ] at hO1 zD Jm
    replace hB := hB.trans (Owns.dropFr _ _ 1)
    dsimp only [eS, eZ] at hB
    replace hO := hO1; clear hO1
    refine Go1.retC2 Try.func17 rfl rfl (run_loadBlk (vs := [.int .i64 k2_40, .bool b2_41, .slice p46 n48 c47, .slice p52 n54 c53, .slice p58 n60 c59, .slice p64 n66 c65, .slice p70 n72 c71, .slice p76 n78 c77, .int .i64 k2_42]) 5 hO rfl rfl Try.underlying29 rfl ti29) ?_
    replace ES := ES.ch zD
    replace C9 := (C9.ch zC).ch zD
    have Z3 := (zB.trans zC).trans zD
    replace Aw := Aw.ch Z3
    have Z4 := ((zA.trans zB).trans zC).trans zD
    replace yv := yv.ch Z4
    have Z5 := (((zy.trans zA).trans zB).trans zC).trans zD
    replace sx := sx.ch Z5
    exact ⟨(⟨k2_40, b2_41, d_43, d_49, d_55, d_61, d_67, d_73, k2_42⟩ : Enum), (0 : Int), p46, c47, p52, c53, p58, c59, p64, c65, p70, c71, p76, c77, (congrArg (fun l => Value.tuple (List.toArray l)) (cons_eq (congrArg (fun l => Value.agg (List.toArray l)) (cons_eq rfl (cons_eq rfl (cons_eq (congrArg (fun nn => Value.slice p46 nn c47) PK) (cons_eq (congrArg (fun nn => Value.slice p52 nn c53) PM) (cons_eq (congrArg (fun nn => Value.slice p58 nn c59) GQ) (cons_eq (congrArg (fun nn => Value.slice p64 nn c65) PN) (cons_eq (congrArg (fun nn => Value.slice p70 nn c71) PO) (cons_eq (congrArg (fun nn => Value.slice p76 nn c77) PP) (cons_eq rfl rfl)))))))))) (cons_eq rfl rfl))), hB.same, (sx.ch (Ch.weak _ _ _)), (yv.ch (Ch.weak _ _ _)), (Aw.ch (Ch.weak _ _ _)), (C9.ch (Ch.weak _ _ _)), (ES.ch (Ch.weak _ _ _)), (Jm.ch (Ch.weak _ _ _)), H⟩
   replace H := ifn yh H
   refine GoQ.pure rfl (fun w => opB (op_eql rfl rfl w) (decide_eq_false yh)) rfl rfl ?_
   refine GoQ.pure rfl (op_assign rfl) rfl rfl ?_
   refine GoQ.nil ?_
   refine Go1.ret1V Try.func50 rfl (show _ = .bool false from rfl) ?_
   refine hR98 _ _ ?_
   refine zo (op_not rfl) (zn (zt rfl rfl (zk (zb (zq ?_)))))
   refine Go1.cut [(4, .pointer (some ⟨B2, 0, none⟩)), (6, .pointer (some ⟨fB, 0, none⟩))] ⟨rfl, rfl, trivial⟩ ?_
   intro σ _
   refine zr (zm rfl ?_)
   have Jo : Owns w0.heap.size w99 ([.blk fB (.cells #[.int .i64 k2_40, .bool b2_41, .slice p46 n48 c47, .slice p52 n54 c53, .slice p58 n60 c59, .slice p64 n66 c65, .slice p70 n72 c71, .slice p76 n78 c77, .int .i64 k2_42, .map (some al), .slice p82 n84 c83, .slice p88 n90 c89, .slice p94 n96 c95] 72 (0, 0)), .row 26 1 p46 n48 c47 ve, .row 26 1 p52 n54 c53 vg, .row 3 1 p58 n60 c59 vh, .row 3 1 p64 n66 c65 vi, .row 26 1 p70 n72 c71 tD, .row 39 2 p76 n78 c77 vj, .row 9 1 p82 n84 c83 tm, .row 3 1 p88 n90 c89 vk, .row 3 1 p94 n96 c95 vl, .any (mapE (fun a : List UInt8 => Value.string (gstr a)) (fun a : Int => Value.int .i64 a) al m2_97)] ++ [.blk B2 (.cells #[.int .i64 (0 : Int), .bool false, .slice none 0 0, .slice none 0 0, .slice none 0 0, .slice none 0 0, .slice none 0 0, .slice none 0 0, .int .i64 (0 : Int)] 29 (0, 0))]) A := hO
   have PQ := Owns.split Jo
   have hca126 : Ch (bl [.blk fB (.cells #[.int .i64 k2_40, .bool b2_41, .slice p46 n48 c47, .slice p52 n54 c53, .slice p58 n60 c59, .slice p64 n66 c65, .slice p70 n72 c71, .slice p76 n78 c77, .int .i64 k2_42, .map (some al), .slice p82 n84 c83, .slice p88 n90 c89, .slice p94 n96 c95] 72 (0, 0)), .row 26 1 p46 n48 c47 ve, .row 26 1 p52 n54 c53 vg, .row 3 1 p58 n60 c59 vh, .row 3 1 p64 n66 c65 vi, .row 26 1 p70 n72 c71 tD, .row 39 2 p76 n78 c77 vj, .row 9 1 p82 n84 c83 tm, .row 3 1 p88 n90 c89 vk, .row 3 1 p94 n96 c95 vl, .any (mapE (fun a : List UInt8 => Value.string (gstr a)) (fun a : Int => Value.int .i64 a) al m2_97), .blk B2 (.cells #[.int .i64 (0 : Int), .bool false, .slice none 0 0, .slice none 0 0, .slice none 0 0, .slice none 0 0, .slice none 0 0, .slice none 0 0, .int .i64 (0 : Int)] 29 (0, 0))] ++ A) w99 (bl [.blk fB (.cells #[.int .i64 k2_40, .bool b2_41, .slice p46 n48 c47, .slice p52 n54 c53, .slice p58 n60 c59, .slice p64 n66 c65, .slice p70 n72 c71, .slice p76 n78 c77, .int .i64 k2_42, .map (some al), .slice p82 n84 c83, .slice p88 n90 c89, .slice p94 n96 c95] 72 (0, 0)), .row 26 1 p46 n48 c47 ve, .row 26 1 p52 n54 c53 vg, .row 3 1 p58 n60 c59 vh, .row 3 1 p64 n66 c65 vi, .row 26 1 p70 n72 c71 tD, .row 39 2 p76 n78 c77 vj, .row 9 1 p82 n84 c83 tm, .row 3 1 p88 n90 c89 vk, .row 3 1 p94 n96 c95 vl, .any (mapE (fun a : List UInt8 => Value.string (gstr a)) (fun a : Int => Value.int .i64 a) al m2_97)] ++ (bl [.blk B2 (.cells #[.int .i64 (0 : Int), .bool false, .slice none 0 0, .slice none 0 0, .slice none 0 0, .slice none 0 0, .slice none 0 0, .slice none 0 0, .int .i64 (0 : Int)] 29 (0, 0))] ++ A)) w99 := Ch.assoc' [.blk fB (.cells #[.int .i64 k2_40, .bool b2_41, .slice p46 n48 c47, .slice p52 n54 c53, .slice p58 n60 c59, .slice p64 n66 c65, .slice p70 n72 c71, .slice p76 n78 c77, .int .i64 k2_42, .map (some al), .slice p82 n84 c83, .slice p88 n90 c89, .slice p94 n96 c95] 72 (0, 0)), .row 26 1 p46 n48 c47 ve, .row 26 1 p52 n54 c53 vg, .row 3 1 p58 n60 c59 vh, .row 3 1 p64 n66 c65 vi, .row 26 1 p70 n72 c71 tD, .row 39 2 p76 n78 c77 vj, .row 9 1 p82 n84 c83 tm, .row 3 1 p88 n90 c89 vk, .row 3 1 p94 n96 c95 vl, .any (mapE (fun a : List UInt8 => Value.string (gstr a)) (fun a : Int => Value.int .i64 a) al m2_97)] [.blk B2 (.cells #[.int .i64 (0 : Int), .bool false, .slice none 0 0, .slice none 0 0, .slice none 0 0, .slice none 0 0, .slice none 0 0, .slice none 0 0, .int .i64 (0 : Int)] 29 (0, 0))] A w99
   replace Ey := Ey.ch ia.ch
   replace zl := zl.ch ia.ch
   replace gu := gu.ch ia.ch
   replace q8 := q8.ch ia.ch
   replace tE := tE.ch ia.ch
   replace vU := vU.ch ia.ch
   replace gB := gB.ch ia.ch
   replace nW := nW.ch ia.ch
   refine GoR.call (op_call body51 rfl (walk_enumerate_run_process (a0 := (⟨(⟨k2_40, b2_41, d_43, d_49, d_55, d_61, d_67, d_73, k2_42⟩ : Enum), m2_97, d_79, d_85, d_91⟩ : run)) PQ (Ey.ch hca126) (BD.ch hca126) (zl.ch hca126) (gu.ch hca126) (q8.ch hca126) (tE.ch hca126) (vU.ch hca126) (gB.ch hca126) (nW.ch hca126) H)) rfl rfl ?_
   intro aac GR
   refine exE fun r127 => exE fun q128 => exE fun kB => exE fun kC => exE fun kD => exE fun qS => exE fun jQ => exE fun jR => exE fun jS => exE fun qj => exE fun jw => exE fun jx => exE fun jy => exE fun pp => exE fun kE => exE fun kF => exE fun kG => exE fun qT => exE fun jT => exE fun jU => exE fun jV => exE fun qk => exE fun jW => exE fun jX => exE fun jY => exE fun ql => exE fun oB => exE fun oC => exE fun oD => exE fun u7 => exE fun mA => exE fun mB => exE fun mC => exE fun tF => exE fun mD => exE fun mE => exE fun mF => exE fun tG => andE fun hv134 => andE fun hN131 => andE fun qU => andE fun qm => andE fun pq => andE fun qV => andE fun qn => andE fun qo => andE fun u9 => andE fun tH => andE fun tI => andE fun hF132 => fun H => ?_
   subst hv134
   have Hu : Stp w0.heap.size A w99 [.blk fB (.cells #[.int .i64 k2_40, .bool b2_41, .slice p46 n48 c47, .slice p52 n54 c53, .slice p58 n60 c59, .slice p64 n66 c65, .slice p70 n72 c71, .slice p76 n78 c77, .int .i64 k2_42, .map (some al), .slice p82 n84 c83, .slice p88 n90 c89, .slice p94 n96 c95] 72 (0, 0)), .row 26 1 p46 n48 c47 ve, .row 26 1 p52 n54 c53 vg, .row 3 1 p58 n60 c59 vh, .row 3 1 p64 n66 c65 vi, .row 26 1 p70 n72 c71 tD, .row 39 2 p76 n78 c77 vj, .row 9 1 p82 n84 c83 tm, .row 3 1 p88 n90 c89 vk, .row 3 1 p94 n96 c95 vl, .any (mapE (fun a : List UInt8 => Value.string (gstr a)) (fun a : Int => Value.int .i64 a) al m2_97), .blk B2 (.cells #[.int .i64 (0 : Int), .bool false, .slice none 0 0, .slice none 0 0, .slice none 0 0, .slice none 0 0, .slice none 0 0, .slice none 0 0, .int .i64 (0 : Int)] 29 (0, 0))] GR [.blk fB (.cells #[.int .i64 q128.Enum.Points, .bool q128.Enum.Monoid, .slice kC kB kD, .slice jR jQ jS, .slice jx jw jy, .slice kF kE kG, .slice jU jT jV, .slice jX jW jY, .int .i64 q128.Enum.Done, .map (some al), .slice oC oB oD, .slice mB mA mC, .slice mE mD mF] 72 (0, 0)), .row 26 1 kC kB kD qS, .row 26 1 jR jQ jS qj, .row 3 1 jx jw jy pp, .row 3 1 kF kE kG qT, .row 26 1 jU jT jV qk, .row 39 2 jX jW jY ql, .row 9 1 oC oB oD u7, .row 3 1 mB mA mC tF, .row 3 1 mE mD mF tG, .any (mapE (fun a : List UInt8 => Value.string (gstr a)) (fun a : Int => Value.int .i64 a) al q128.number), .blk B2 (.cells #[.int .i64 (0 : Int), .bool false, .slice none 0 0, .slice none 0 0, .slice none 0 0, .slice none 0 0, .slice none 0 0, .slice none 0 0, .int .i64 (0 : Int)] 29 (0, 0))] := Stp.join Jo hN131 hF132
   replace hO := Hu.own
   have hca135 : Ch (bl [.blk fB (.cells #[.int .i64 q128.Enum.Points, .bool q128.Enum.Monoid, .slice kC kB kD, .slice jR jQ jS, .slice jx jw jy, .slice kF kE kG, .slice jU jT jV, .slice jX jW jY, .int .i64 q128.Enum.Done, .map (some al), .slice oC oB oD, .slice mB mA mC, .slice mE mD mF] 72 (0, 0)), .row 26 1 kC kB kD qS, .row 26 1 jR jQ jS qj, .row 3 1 jx jw jy pp, .row 3 1 kF kE kG qT, .row 26 1 jU jT jV qk, .row 39 2 jX jW jY ql, .row 9 1 oC oB oD u7, .row 3 1 mB mA mC tF, .row 3 1 mE mD mF tG, .any (mapE (fun a : List UInt8 => Value.string (gstr a)) (fun a : Int => Value.int .i64 a) al q128.number)] ++ (bl [.blk B2 (.cells #[.int .i64 (0 : Int), .bool false, .slice none 0 0, .slice none 0 0, .slice none 0 0, .slice none 0 0, .slice none 0 0, .slice none 0 0, .int .i64 (0 : Int)] 29 (0, 0))] ++ A)) GR (bl [.blk fB (.cells #[.int .i64 q128.Enum.Points, .bool q128.Enum.Monoid, .slice kC kB kD, .slice jR jQ jS, .slice jx jw jy, .slice kF kE kG, .slice jU jT jV, .slice jX jW jY, .int .i64 q128.Enum.Done, .map (some al), .slice oC oB oD, .slice mB mA mC, .slice mE mD mF] 72 (0, 0)), .row 26 1 kC kB kD qS, .row 26 1 jR jQ jS qj, .row 3 1 jx jw jy pp, .row 3 1 kF kE kG qT, .row 26 1 jU jT jV qk, .row 39 2 jX jW jY ql, .row 9 1 oC oB oD u7, .row 3 1 mB mA mC tF, .row 3 1 mE mD mF tG, .any (mapE (fun a : List UInt8 => Value.string (gstr a)) (fun a : Int => Value.int .i64 a) al q128.number), .blk B2 (.cells #[.int .i64 (0 : Int), .bool false, .slice none 0 0, .slice none 0 0, .slice none 0 0, .slice none 0 0, .slice none 0 0, .slice none 0 0, .int .i64 (0 : Int)] 29 (0, 0))] ++ A) GR := Ch.assoc [.blk fB (.cells #[.int .i64 q128.Enum.Points, .bool q128.Enum.Monoid, .slice kC kB kD, .slice jR jQ jS, .slice jx jw jy, .slice kF kE kG, .slice jU jT jV, .slice jX jW jY, .int .i64 q128.Enum.Done, .map (some al), .slice oC oB oD, .slice mB mA mC, .slice mE mD mF] 72 (0, 0)), .row 26 1 kC kB kD qS, .row 26 1 jR jQ jS qj, .row 3 1 jx jw jy pp, .row 3 1 kF kE kG qT, .row 26 1 jU jT jV qk, .row 39 2 jX jW jY ql, .row 9 1 oC oB oD u7, .row 3 1 mB mA mC tF, .row 3 1 mE mD mF tG, .any (mapE (fun a : List UInt8 => Value.string (gstr a)) (fun a : Int => Value.int .i64 a) al q128.number)] [.blk B2 (.cells #[.int .i64 (0 : Int), .bool false, .slice none 0 0, .slice none 0 0, .slice none 0 0, .slice none 0 0, .slice none 0 0, .slice none 0 0, .int .i64 (0 : Int)] 29 (0, 0))] A GR
   refine za rfl (zn (zq (zr (zm rfl ?_))))
   by_cases Cu : r127 = (0 : Int)
   ·replace H := ifp Cu H
    refine zo (fun w => opB (op_neq rfl rfl w) (ndT Cu)) (zn (zf rfl rfl (zk ?_)))
    refine Go1.inBlock ?_
    replace qU := qU.ch hca135
    replace qm := qm.ch hca135
    replace pq := pq.ch hca135
    replace qV := qV.ch hca135
    replace qn := qn.ch hca135
    replace qo := qo.ch hca135
    replace u9 := u9.ch hca135
    replace tH := tH.ch hca135
    replace tI := tI.ch hca135
    replace hB := (hB.trans ia.fr).trans Hu.fr
    exact hX2 _ H _ _ ⟨kB, kC, kD, qS, jQ, jR, jS, qj, jw, jx, jy, pp, kE, kF, kG, qT, jT, jU, jV, qk, jW, jX, jY, ql, oB, oC, oD, u7, mA, mB, mC, tF, mD, mE, mF, tG, ⟨rfl, rfl, trivial⟩, hO, qU, qm, pq, qV, qn, qo, u9, tH, tI, hB⟩
   replace H := ifn Cu H
   refine zo (fun w => opB (op_neq rfl rfl w) (ndF Cu)) (zn (zt rfl rfl (zq (zr (zo (op_build Try.underlying29 ti29 (pl := [(0, 1), (1, 1), (2, 1), (3, 1), (4, 1), (5, 1), (6, 1), (7, 1), (8, 1)]) (vs := []) (cs := #[.int .i64 (0 : Int), .bool false, .slice none 0 0, .slice none 0 0, .slice none 0 0, .slice none 0 0, .slice none 0 0, .slice none 0 0, .int .i64 (0 : Int)]) (by kernel_rfl) rfl (by kernel_rfl)) ?_)))))
   refine zm rfl ?_
   have hobt := oblkStAgg (us := [.int .i64 (0 : Int), .bool false, .slice none 0 0, .slice none 0 0, .slice none 0 0, .slice none 0 0, .slice none 0 0, .slice none 0 0, .int .i64 (0 : Int)]) (o := 0) (cs' := #[.int .i64 (0 : Int), .bool false, .slice none 0 0, .slice none 0 0, .slice none 0 0, .slice none 0 0, .slice none 0 0, .slice none 0 0, .int .i64 (0 : Int)]) 11 hO rfl rfl (Nat.le_of_ble_eq_true rfl) rfl
   obtain ⟨aad, va, LS⟩ := hobt
   dsimp only [sS, sZ] at va
   refine zg (LS ti29 (by exact rfl) (by exact rfl) rfl) ?_
   replace hO := va.own
   refine za rfl (zn ?_)
   refine Go1.retC2 Try.func17 rfl rfl (run_loadBlk (vs := [.int .i64 (0 : Int), .bool false, .slice none 0 0, .slice none 0 0, .slice none 0 0, .slice none 0 0, .slice none 0 0, .slice none 0 0, .int .i64 (0 : Int)]) 11 hO rfl rfl Try.underlying29 rfl ti29) ?_
   replace hB := ((hB.trans ia.fr).trans Hu.fr).trans va.fr
   exact ⟨(⟨(0 : Int), false, ([] : List (List Int)), ([] : List (List Int)), ([] : List Int), ([] : List Int), ([] : List (List Int)), ([] : List Rule), (0 : Int)⟩ : Enum), r127, none, 0, none, 0, none, 0, none, 0, none, 0, none, 0, rfl, hB.same, (ISl.null _ _ _), (ISl.null _ _ _), (ISl.null _ _ _), (ISl.null _ _ _), (ISl.null _ _ _), (ISl.null _ _ _), H⟩
  replace H := ifn h38 H
  refine zo (fun w => opB (op_neq rfl rfl w) (ndF h38)) (zn (zt rfl rfl (zq (zr (zo (op_build Try.underlying29 ti29 (pl := [(0, 1), (1, 1), (2, 1), (3, 1), (4, 1), (5, 1), (6, 1), (7, 1), (8, 1)]) (vs := []) (cs := #[.int .i64 (0 : Int), .bool false, .slice none 0 0, .slice none 0 0, .slice none 0 0, .slice none 0 0, .slice none 0 0, .slice none 0 0, .int .i64 (0 : Int)]) (by kernel_rfl) rfl (by kernel_rfl)) ?_)))))
  refine zm rfl ?_
  have hobt := oblkStAgg (us := [.int .i64 (0 : Int), .bool false, .slice none 0 0, .slice none 0 0, .slice none 0 0, .slice none 0 0, .slice none 0 0, .slice none 0 0, .int .i64 (0 : Int)]) (o := 0) (cs' := #[.int .i64 (0 : Int), .bool false, .slice none 0 0, .slice none 0 0, .slice none 0 0, .slice none 0 0, .slice none 0 0, .slice none 0 0, .int .i64 (0 : Int)]) 11 hO rfl rfl (Nat.le_of_ble_eq_true rfl) rfl
  obtain ⟨aae, tJ, LT⟩ := hobt
  dsimp only [sS, sZ] at tJ
  refine zg (LT ti29 (by exact rfl) (by exact rfl) rfl) ?_
  replace hO := tJ.own
  refine za rfl (zn ?_)
  refine Go1.retC2 Try.func17 rfl rfl (run_loadBlk (vs := [.int .i64 (0 : Int), .bool false, .slice none 0 0, .slice none 0 0, .slice none 0 0, .slice none 0 0, .slice none 0 0, .slice none 0 0, .int .i64 (0 : Int)]) 11 hO rfl rfl Try.underlying29 rfl ti29) ?_
  replace hB := ((hB.trans d7.fr).trans nk.fr).trans tJ.fr
  exact ⟨(⟨(0 : Int), false, ([] : List (List Int)), ([] : List (List Int)), ([] : List Int), ([] : List Int), ([] : List (List Int)), ([] : List Rule), (0 : Int)⟩ : Enum), r8, none, 0, none, 0, none, 0, none, 0, none, 0, none, 0, rfl, hB.same, (ISl.null _ _ _), (ISl.null _ _ _), (ISl.null _ _ _), (ISl.null _ _ _), (ISl.null _ _ _), (ISl.null _ _ _), H⟩
theorem body70 : Body Try.prog 70 := ⟨Try.f70, Try.func70, rfl, by kernel_rfl⟩
theorem walk_slices_Equal_int {A : List Nat} {w0 : World} {sP : Option Addr} {sQ : Nat} {sR : Option Addr} {sT : Nat} {s1 : List Int} {s2 : List Int} (hA : ∀ b ∈ A, b < w0.heap.size) (ll : ISl (Rp.int .i64) A w0 sP sQ s1) (mc : ISl (Rp.int .i64) A w0 sR sT s2) {K : Bool → Prop} (H : slices_Equal_int s1 s2 K) :
    CallsV Try.prog 70 #[.slice sP s1.length sQ, .slice sR s2.length sT] w0 (fun v w' => ∃ (r0 : Bool), v = .bool r0 ∧ Same w0 w' ∧ K r0) := by
 refine CallsV.of (l := [.slice sP s1.length sQ, .slice sR s2.length sT]) Try.func70 rfl Try.ntmps70 rfl ?_
 have hO := Owns.start hA
 have hB := Fr.refl (bl []) w0
 unfold slices_Equal_int at H
 refine zq (zr (za rfl (zn (zq (zq ?_)))))
 refine zr (zm rfl (zo (op_len Try.underlying26 rfl) ?_))
 replace ll := ll.ch (Ch.start A w0)
 replace H := H ll.bd
 refine zm rfl (zo (op_len Try.underlying26 rfl) ?_)
 replace mc := mc.ch (Ch.start A w0)
 replace H := H mc.bd
 by_cases h1 : (s1.length : Int) = (s2.length : Int)
 ·replace H := ifp h1 H
  refine zo (fun w => opB (op_neq rfl rfl w) (ndT h1)) (zn (zf rfl rfl (zk (zq (zq ?_)))))
  refine zr (zm rfl (zo (op_len Try.underlying26 rfl) (zm rfl (zn (zb ?_)))))
  refine Go1.loopW (S := Nat) (fun s σ w => agrees σ [(0, .slice sP s1.length sQ), (1, .slice sR s2.length sT), (12, .int .i64 (s1.length : Int)), (13, .int .i64 (s : Int))] ∧ Owns w0.heap.size w [] A ∧ ISl (Rp.int .i64) (bl [] ++ A) w sP sQ s1 ∧ ISl (Rp.int .i64) (bl [] ++ A) w sR sT s2 ∧ Fr (bl []) w0 (bl []) w) H ⟨⟨rfl, rfl, rfl, rfl, trivial⟩, hO, ll, mc, hB⟩ ?_
  intro X1 k1_3
  intro H hX1 σ w2
  refine andE fun hag => andE fun hO => andE fun ll => andE fun mc => fun hB => ?_
  refine Go1.keep [(0, .slice sP s1.length sQ), (1, .slice sR s2.length sT), (12, .int .i64 (s1.length : Int)), (13, .int .i64 (k1_3 : Int))] hag ?_
  refine zq (zr ?_)
  by_cases h4 : (k1_3 : Int) < (s1.length : Int)
  ·replace H := ifp h4 H
   refine zo (fun w => opB (op_lss rfl rfl w) (decide_eq_true h4)) (zn (zq (zt rfl rfl (zk (zq ?_)))))
   refine zb (zq (zr (zm rfl (za rfl (zn ?_)))))
   refine zq ?_
   refine Go1.drawS 0 [(0, .pure), (1, .pure), (2, .pure), (3, .stable), (4, .pure), (5, .pure), (6, .pure), (7, .stable), (8, .pure)] mixed (by kernel_rfl) ?_
   intro w5 hs6
   have ra := Stp.same hO hs6
   replace hO := ra.own
   refine GoQ.pure rfl (op_move rfl) rfl rfl ?_
   refine GoQ.pure rfl (op_move rfl) rfl rfl ?_
   obtain ⟨h8, H⟩ := H
   obtain ⟨h9, H⟩ := H
   replace ll := ll.ch ra.ch
   refine GoQ.pure rfl (op_index Try.underlying26 ti3 rfl rfl h8 h9 (ll.some_ h8 h9)) rfl rfl ?_
   refine GoQ.stable rfl (ldInt ll h8 h9 Try.underlying3 rfl rfl) rfl rfl ?_
   refine GoQ.pure rfl (op_move rfl) rfl rfl ?_
   refine GoQ.pure rfl (op_move rfl) rfl rfl ?_
   obtain ⟨h10, H⟩ := H
   obtain ⟨h11, H⟩ := H
   replace mc := mc.ch ra.ch
   refine GoQ.pure rfl (op_index Try.underlying26 ti3 rfl rfl h10 h11 (mc.some_ h10 h11)) rfl rfl ?_
   refine GoQ.stable rfl (ldInt mc h10 h11 Try.underlying3 rfl rfl) rfl rfl ?_
   by_cases h12 : (ix s1 (k1_3 : Int)) = (ix s2 (k1_3 : Int))
   ·replace H := ifp h12 H
    refine GoQ.pure rfl (fun w => opB (op_neq rfl rfl w) (ndT h12)) rfl rfl ?_
    refine GoQ.nil ?_
    refine zf rfl rfl (zk ?_)
    refine Go1.inBlock ?_
    refine zr (zo (op_add rfl rfl (wrap_i64 (natbd h4 ll.bd))) (zm rfl (zn ?_)))
    replace hB := hB.trans ra.fr
    exact hX1 _ H _ _ ⟨⟨rfl, rfl, rfl, rfl, trivial⟩, hO, ll, mc, hB⟩
   replace H := ifn h12 H
   refine GoQ.pure rfl (fun w => opB (op_neq rfl rfl w) (ndF h12)) rfl rfl ?_
   refine GoQ.nil ?_
   refine zt rfl rfl (zq (zr (za rfl (zn ?_))))
   refine Go1.ret1 Try.func70 rfl ?_
   replace hB := hB.trans ra.fr
   exact ⟨false, rfl, hB.same, H⟩
  replace H := ifn h4 H
  refine zo (fun w => opB (op_lss rfl rfl w) (decide_eq_false h4)) (zn (zq (zf rfl rfl ?_)))
  refine Go1.exit rfl ?_
  refine zq (zr (za rfl (zn ?_)))
  refine Go1.ret1 Try.func70 rfl ?_
  exact ⟨true, rfl, hB.same, H⟩
 replace H := ifn h1 H
 refine zo (fun w => opB (op_neq rfl rfl w) (ndF h1)) (zn (zt rfl rfl (zq (zr (za rfl ?_)))))
 refine zn ?_
 refine Go1.ret1 Try.func70 rfl ?_
 exact ⟨false, rfl, hB.same, H⟩
theorem body69 : Body Try.prog 69 := ⟨Try.f69, Try.func69, rfl, by kernel_rfl⟩
theorem walk_slices_EqualFunc_int {A : List Nat} {w0 : World} {sP : Option Addr} {sQ : Nat} {sR : Option Addr} {sT : Nat} {s1 : List (List Int)} {s2 : List (List Int)} (hA : ∀ b ∈ A, b < w0.heap.size) (ll : ISl (Rp.sl (Rp.int .i64)) A w0 sP sQ s1) (mc : ISl (Rp.sl (Rp.int .i64)) A w0 sR sT s2) {K : Bool → Prop} (H : slices_EqualFunc_int s1 s2 K) :
    CallsV Try.prog 69 #[.slice sP s1.length sQ, .slice sR s2.length sT, .func (.func 70) #[] #[]] w0 (fun v w' => ∃ (r0 : Bool), v = .bool r0 ∧ Same w0 w' ∧ K r0) := by
 refine CallsV.of (l := [.slice sP s1.length sQ, .slice sR s2.length sT, .func (.func 70) #[] #[]]) Try.func69 rfl Try.ntmps69 rfl ?_
 have hO := Owns.start hA
 have hB := Fr.refl (bl []) w0
 unfold slices_EqualFunc_int at H
 refine zq (zr (za rfl (zn (zq (zq ?_)))))
 refine zr (zm rfl (zo (op_len Try.underlying22 rfl) ?_))
 replace ll := ll.ch (Ch.start A w0)
 replace H := H ll.bd
 refine zm rfl (zo (op_len Try.underlying22 rfl) ?_)
 replace mc := mc.ch (Ch.start A w0)
 replace H := H mc.bd
 by_cases h1 : (s1.length : Int) = (s2.length : Int)
 ·replace H := ifp h1 H
  refine zo (fun w => opB (op_neq rfl rfl w) (ndT h1)) (zn (zf rfl rfl (zk (zq (zq ?_)))))
  refine zr (zm rfl (zo (op_len Try.underlying22 rfl) (zm rfl (zn (zb ?_)))))
  refine Go1.loopW (S := Nat) (fun s σ w => agrees σ [(1, .slice sR s2.length sT), (2, .func (.func 70) #[] #[]), (15, .slice sP s1.length sQ), (16, .int .i64 (s1.length : Int)), (17, .int .i64 (s : Int))] ∧ Owns w0.heap.size w [] A ∧ ISl (Rp.sl (Rp.int .i64)) (bl [] ++ A) w sP sQ s1 ∧ ISl (Rp.sl (Rp.int .i64)) (bl [] ++ A) w sR sT s2 ∧ Fr (bl []) w0 (bl []) w) H ⟨⟨rfl, rfl, rfl, rfl, rfl, trivial⟩, hO, ll, mc, hB⟩ ?_
  intro X1 k1_3
  intro H hX1 σ w2
  refine andE fun hag => andE fun hO => andE fun ll => andE fun mc => fun hB => ?_
  refine Go1.keep [(1, .slice sR s2.length sT), (2, .func (.func 70) #[] #[]), (15, .slice sP s1.length sQ), (16, .int .i64 (s1.length : Int)), (17, .int .i64 (k1_3 : Int))] hag ?_
  refine zq (zr ?_)
  by_cases h4 : (k1_3 : Int) < (s1.length : Int)
  ·replace H := ifp h4 H
   refine zo (fun w => opB (op_lss rfl rfl w) (decide_eq_true h4)) (zn (zq (zt rfl rfl (zk (zq ?_)))))
   refine zb (zq (zr (zm rfl ?_)))
   obtain ⟨h5, H⟩ := H
   obtain ⟨h6, H⟩ := H
   refine zo (op_index Try.underlying22 ti26 rfl rfl h5 h6 (ll.some_ h5 h6)) ?_
   have hobt := ldSl ll h5 h6
   obtain ⟨p7, c8, hi9, TW⟩ := hobt
   refine zs (TW Try.underlying26 rfl rfl) (za rfl (za rfl (zn (zq (zr ?_)))))
   refine zm rfl (zm rfl ?_)
   obtain ⟨h11, H⟩ := H
   obtain ⟨h12, H⟩ := H
   refine zo (op_index Try.underlying22 ti26 rfl rfl h11 h12 (mc.some_ h11 h12)) ?_
   have hobt := ldSl mc h11 h12
   obtain ⟨p13, c14, me, IE⟩ := hobt
   refine zs (IE Try.underlying26 rfl rfl) (za rfl (zn (zq (zr (zm rfl ?_)))))
   refine zm rfl (zm rfl ?_)
   refine GoR.call (op_callV (caps := []) body70 rfl rfl (walk_slices_Equal_int hO.lt hi9 me H)) rfl rfl ?_
   rintro v21 w18 ⟨r17, rfl, Er, H⟩
   have f0 := Stp.same hO Er
   replace hO := f0.own
   cases r17
   ·replace H := ifn Bool.false_ne_true H
    refine zo (op_not rfl) (zn (zt rfl rfl (zq (zr (za rfl ?_)))))
    refine zn ?_
    refine Go1.ret1 Try.func69 rfl ?_
    replace hB := hB.trans f0.fr
    exact ⟨false, rfl, hB.same, H⟩
   replace H := ifp rfl H
   refine zo (op_not rfl) (zn (zf rfl rfl (zk ?_)))
   refine Go1.inBlock ?_
   refine Go1.cut [(1, .slice sR s2.length sT), (2, .func (.func 70) #[] #[]), (15, .slice sP s1.length sQ), (16, .int .i64 (s1.length : Int)), (17, .int .i64 (k1_3 : Int))] ⟨rfl, rfl, rfl, rfl, rfl, trivial⟩ ?_
   intro σ _
   refine zr ?_
   replace ll := ll.ch f0.ch
   refine zo (op_add rfl rfl (wrap_i64 (natbd h4 ll.bd))) (zm rfl (zn ?_))
   replace mc := mc.ch f0.ch
   replace hB := hB.trans f0.fr
   exact hX1 _ H _ _ ⟨⟨rfl, rfl, rfl, rfl, rfl, trivial⟩, hO, ll, mc, hB⟩
  replace H := ifn h4 H
  refine zo (fun w => opB (op_lss rfl rfl w) (decide_eq_false h4)) (zn (zq (zf rfl rfl ?_)))
  refine Go1.exit rfl ?_
  refine zq (zr (za rfl (zn ?_)))
  refine Go1.ret1 Try.func69 rfl ?_
  exact ⟨true, rfl, hB.same, H⟩
 replace H := ifn h1 H
 refine zo (fun w => opB (op_neq rfl rfl w) (ndF h1)) (zn (zt rfl rfl (zq (zr (za rfl ?_)))))
 refine zn ?_
 refine Go1.ret1 Try.func69 rfl ?_
 exact ⟨false, rfl, hB.same, H⟩
theorem body71 : Body Try.prog 71 := ⟨Try.f71, Try.func71, rfl, by kernel_rfl⟩
theorem walk_slices_Equal_api_Rule {A : List Nat} {w0 : World} {sP : Option Addr} {sQ : Nat} {sR : Option Addr} {sT : Nat} {s1 : List Rule} {s2 : List Rule} (hA : ∀ b ∈ A, b < w0.heap.size) (ll : ISl (rpRule) A w0 sP sQ s1) (mc : ISl (rpRule) A w0 sR sT s2) {K : Bool → Prop} (H : slices_Equal_api_Rule s1 s2 K) :
    CallsV Try.prog 71 #[.slice sP s1.length sQ, .slice sR s2.length sT] w0 (fun v w' => ∃ (r0 : Bool), v = .bool r0 ∧ Same w0 w' ∧ K r0) := by
 refine CallsV.of (l := [.slice sP s1.length sQ, .slice sR s2.length sT]) Try.func71 rfl Try.ntmps71 rfl ?_
 have hO := Owns.start hA
 have hB := Fr.refl (bl []) w0
 unfold slices_Equal_api_Rule at H
 refine zq (zr (za rfl (zn (zq (zq ?_)))))
 refine zr (zm rfl (zo (op_len Try.underlying27 rfl) ?_))
 replace ll := ll.ch (Ch.start A w0)
 replace H := H ll.bd
 refine zm rfl (zo (op_len Try.underlying27 rfl) ?_)
 replace mc := mc.ch (Ch.start A w0)
 replace H := H mc.bd
 by_cases h1 : (s1.length : Int) = (s2.length : Int)
 ·replace H := ifp h1 H
  refine zo (fun w => opB (op_neq rfl rfl w) (ndT h1)) (zn (zf rfl rfl (zk (zq (zq ?_)))))
  refine zr (zm rfl (zo (op_len Try.underlying27 rfl) (zm rfl (zn (zb ?_)))))
  refine Go1.loopW (S := Nat) (fun s σ w => agrees σ [(0, .slice sP s1.length sQ), (1, .slice sR s2.length sT), (12, .int .i64 (s1.length : Int)), (13, .int .i64 (s : Int))] ∧ Owns w0.heap.size w [] A ∧ ISl (rpRule) (bl [] ++ A) w sP sQ s1 ∧ ISl (rpRule) (bl [] ++ A) w sR sT s2 ∧ Fr (bl []) w0 (bl []) w) H ⟨⟨rfl, rfl, rfl, rfl, trivial⟩, hO, ll, mc, hB⟩ ?_
  intro X1 k1_3
  intro H hX1 σ w2
  refine andE fun hag => andE fun hO => andE fun ll => andE fun mc => fun hB => ?_
  refine Go1.keep [(0, .slice sP s1.length sQ), (1, .slice sR s2.length sT), (12, .int .i64 (s1.length : Int)), (13, .int .i64 (k1_3 : Int))] hag ?_
  refine zq (zr ?_)
  by_cases h4 : (k1_3 : Int) < (s1.length : Int)
  ·replace H := ifp h4 H
   refine zo (fun w => opB (op_lss rfl rfl w) (decide_eq_true h4)) (zn (zq (zt rfl rfl (zk (zq ?_)))))
   refine zb (zq (zr (zm rfl (za rfl (zn ?_)))))
   refine zq ?_
   refine Go1.drawS 0 [(0, .pure), (1, .pure), (2, .pure), (3, .stable), (4, .pure), (5, .pure), (6, .pure), (7, .stable), (8, .pure)] mixed (by kernel_rfl) ?_
   intro w5 hs6
   have ra := Stp.same hO hs6
   replace hO := ra.own
   refine GoQ.pure rfl (op_move rfl) rfl rfl ?_
   refine GoQ.pure rfl (op_move rfl) rfl rfl ?_
   obtain ⟨h8, H⟩ := H
   obtain ⟨h9, H⟩ := H
   replace ll := ll.ch ra.ch
   refine GoQ.pure rfl (op_index Try.underlying27 ti39 rfl rfl h8 h9 (ll.some_ h8 h9)) rfl rfl ?_
   have hok10 := ldFlatOk ll h8 h9
   refine GoQ.stable rfl (ldFlat ll h8 h9 Try.underlying39 rfl ti39 rfl) rfl rfl ?_
   refine GoQ.pure rfl (op_move rfl) rfl rfl ?_
   refine GoQ.pure rfl (op_move rfl) rfl rfl ?_
   obtain ⟨h11, H⟩ := H
   obtain ⟨h12, H⟩ := H
   replace mc := mc.ch ra.ch
   refine GoQ.pure rfl (op_index Try.underlying27 ti39 rfl rfl h11 h12 (mc.some_ h11 h12)) rfl rfl ?_
   have hok13 := ldFlatOk mc h11 h12
   refine GoQ.stable rfl (ldFlat mc h11 h12 Try.underlying39 rfl ti39 rfl) rfl rfl ?_
   by_cases h14 : (((ix s1 (k1_3 : Int)).Left) = ((ix s2 (k1_3 : Int)).Left) ∧ ((ix s1 (k1_3 : Int)).Right) = ((ix s2 (k1_3 : Int)).Right))
   ·replace H := ifp h14 H
    refine GoQ.pure rfl (fun w => opB (op_neqSS Try.underlying39 eqh39 eqg39 (by decide) (by decide) rfl rfl Try.underlying9 Try.underlying9 rfl rfl w) (ndT h14)) rfl rfl ?_
    refine GoQ.nil ?_
    refine zf rfl rfl (zk ?_)
    refine Go1.inBlock ?_
    refine zr (zo (op_add rfl rfl (wrap_i64 (natbd h4 ll.bd))) (zm rfl (zn ?_)))
    replace hB := hB.trans ra.fr
    exact hX1 _ H _ _ ⟨⟨rfl, rfl, rfl, rfl, trivial⟩, hO, ll, mc, hB⟩
   replace H := ifn h14 H
   refine GoQ.pure rfl (fun w => opB (op_neqSS Try.underlying39 eqh39 eqg39 (by decide) (by decide) rfl rfl Try.underlying9 Try.underlying9 rfl rfl w) (ndF h14)) rfl rfl ?_
   refine GoQ.nil ?_
   refine zt rfl rfl (zq (zr (za rfl (zn ?_))))
   refine Go1.ret1 Try.func71 rfl ?_
   replace hB := hB.trans ra.fr
   exact ⟨false, rfl, hB.same, H⟩
  replace H := ifn h4 H
  refine zo (fun w => opB (op_lss rfl rfl w) (decide_eq_false h4)) (zn (zq (zf rfl rfl ?_)))
  refine Go1.exit rfl ?_
  refine zq (zr (za rfl (zn ?_)))
  refine Go1.ret1 Try.func71 rfl ?_
  exact ⟨true, rfl, hB.same, H⟩
 replace H := ifn h1 H
 refine zo (fun w => opB (op_neq rfl rfl w) (ndF h1)) (zn (zt rfl rfl (zq (zr (za rfl ?_)))))
 refine zn ?_
 refine Go1.ret1 Try.func71 rfl ?_
 exact ⟨false, rfl, hB.same, H⟩
end Sg
