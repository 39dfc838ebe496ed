/- The walks: each call keeps to its plain transformer. Printed by walkgen.py. -/
import Derived.Test.YtjegjjdfgefkoaaTi
import Derived.Test.YtjegjjdfgefkoaaWEnumerateBuilds
namespace Sg
open Go Go.RowKit Go.Proofs
set_option linter.unusedVariables false
set_option linter.unusedSimpArgs false
set_option maxRecDepth 100000
set_option maxHeartbeats 4000000
theorem body66 : Body Try.prog 66 := ⟨Try.f66, Try.func66, rfl, by kernel_rfl⟩
theorem body67 : Body Try.prog 67 := ⟨Try.f67, Try.func67, rfl, by kernel_rfl⟩
theorem body51 : Body Try.prog 51 := ⟨Try.f51, Try.func51, rfl, by kernel_rfl⟩
theorem walk_enumerate_run_process {A : List Nat} {n0 : Nat} {w0 : World} {d8 : Nat} {aq : Nat} {ar : Option Addr} {au : Nat} {cP : List Value} {cV : Nat} {cW : Option Addr} {cX : Nat} {eg : List Value} {cQ : Nat} {cR : Option Addr} {cS : Nat} {d7 : List Value} {di : Nat} {dj : Option Addr} {dk : Nat} {eM : List Value} {aK : Nat} {aU : Option Addr} {aV : Nat} {cK : List Value} {cY : Nat} {cZ : Option Addr} {c5 : Nat} {eh : List Value} {aW : Nat} {dR : Nat} {dS : Option Addr} {dT : Nat} {gr : List Value} {dN : Nat} {dO : Option Addr} {dP : Nat} {fZ : List Value} {bI : Nat} {bK : Option Addr} {bM : Nat} {dr : List Value} {a0 : run} (hO : Owns n0 w0 [.blk d8 (.cells #[.int .i64 a0.Enum.Points, .bool a0.Enum.Monoid, .slice ar aq au, .slice cW cV cX, .slice cR cQ cS, .slice dj di dk, .slice aU aK aV, .slice cZ cY c5, .int .i64 a0.Enum.Done, .map (some aW), .slice dS dR dT, .slice dO dN dP, .slice bK bI bM] 72 (0, 0)), .row 26 1 ar aq au cP, .row 26 1 cW cV cX eg, .row 3 1 cR cQ cS d7, .row 3 1 dj di dk eM, .row 26 1 aU aK aV cK, .row 39 2 cZ cY c5 eh, .row 9 1 dS dR dT gr, .row 3 1 dO dN dP fZ, .row 3 1 bK bI bM dr, .any (mapE (fun a : List UInt8 => Value.string (gstr a)) (fun a : Int => Value.int .i64 a) aW a0.number)] A) (aa : Els (Rp.sl (Rp.int .i64)) (bl [.blk d8 (.cells #[.int .i64 a0.Enum.Points, .bool a0.Enum.Monoid, .slice ar aq au, .slice cW cV cX, .slice cR cQ cS, .slice dj di dk, .slice aU aK aV, .slice cZ cY c5, .int .i64 a0.Enum.Done, .map (some aW), .slice dS dR dT, .slice dO dN dP, .slice bK bI bM] 72 (0, 0)), .row 26 1 ar aq au cP, .row 26 1 cW cV cX eg, .row 3 1 cR cQ cS d7, .row 3 1 dj di dk eM, .row 26 1 aU aK aV cK, .row 39 2 cZ cY c5 eh, .row 9 1 dS dR dT gr, .row 3 1 dO dN dP fZ, .row 3 1 bK bI bM dr, .any (mapE (fun a : List UInt8 => Value.string (gstr a)) (fun a : Int => Value.int .i64 a) aW a0.number)] ++ A) w0 cP a0.Enum.Gens) (rR : Els (Rp.sl (Rp.int .i64)) (bl [.blk d8 (.cells #[.int .i64 a0.Enum.Points, .bool a0.Enum.Monoid, .slice ar aq au, .slice cW cV cX, .slice cR cQ cS, .slice dj di dk, .slice aU aK aV, .slice cZ cY c5, .int .i64 a0.Enum.Done, .map (some aW), .slice dS dR dT, .slice dO dN dP, .slice bK bI bM] 72 (0, 0)), .row 26 1 ar aq au cP, .row 26 1 cW cV cX eg, .row 3 1 cR cQ cS d7, .row 3 1 dj di dk eM, .row 26 1 aU aK aV cK, .row 39 2 cZ cY c5 eh, .row 9 1 dS dR dT gr, .row 3 1 dO dN dP fZ, .row 3 1 bK bI bM dr, .any (mapE (fun a : List UInt8 => Value.string (gstr a)) (fun a : Int => Value.int .i64 a) aW a0.number)] ++ A) w0 eg a0.Enum.Elems) (rh : Els (Rp.int .i64) (bl [.blk d8 (.cells #[.int .i64 a0.Enum.Points, .bool a0.Enum.Monoid, .slice ar aq au, .slice cW cV cX, .slice cR cQ cS, .slice dj di dk, .slice aU aK aV, .slice cZ cY c5, .int .i64 a0.Enum.Done, .map (some aW), .slice dS dR dT, .slice dO dN dP, .slice bK bI bM] 72 (0, 0)), .row 26 1 ar aq au cP, .row 26 1 cW cV cX eg, .row 3 1 cR cQ cS d7, .row 3 1 dj di dk eM, .row 26 1 aU aK aV cK, .row 39 2 cZ cY c5 eh, .row 9 1 dS dR dT gr, .row 3 1 dO dN dP fZ, .row 3 1 bK bI bM dr, .any (mapE (fun a : List UInt8 => Value.string (gstr a)) (fun a : Int => Value.int .i64 a) aW a0.number)] ++ A) w0 d7 a0.Enum.Prefix) (sf : Els (Rp.int .i64) (bl [.blk d8 (.cells #[.int .i64 a0.Enum.Points, .bool a0.Enum.Monoid, .slice ar aq au, .slice cW cV cX, .slice cR cQ cS, .slice dj di dk, .slice aU aK aV, .slice cZ cY c5, .int .i64 a0.Enum.Done, .map (some aW), .slice dS dR dT, .slice dO dN dP, .slice bK bI bM] 72 (0, 0)), .row 26 1 ar aq au cP, .row 26 1 cW cV cX eg, .row 3 1 cR cQ cS d7, .row 3 1 dj di dk eM, .row 26 1 aU aK aV cK, .row 39 2 cZ cY c5 eh, .row 9 1 dS dR dT gr, .row 3 1 dO dN dP fZ, .row 3 1 bK bI bM dr, .any (mapE (fun a : List UInt8 => Value.string (gstr a)) (fun a : Int => Value.int .i64 a) aW a0.number)] ++ A) w0 eM a0.Enum.Last) (ab : Els (Rp.sl (Rp.int .i64)) (bl [.blk d8 (.cells #[.int .i64 a0.Enum.Points, .bool a0.Enum.Monoid, .slice ar aq au, .slice cW cV cX, .slice cR cQ cS, .slice dj di dk, .slice aU aK aV, .slice cZ cY c5, .int .i64 a0.Enum.Done, .map (some aW), .slice dS dR dT, .slice dO dN dP, .slice bK bI bM] 72 (0, 0)), .row 26 1 ar aq au cP, .row 26 1 cW cV cX eg, .row 3 1 cR cQ cS d7, .row 3 1 dj di dk eM, .row 26 1 aU aK aV cK, .row 39 2 cZ cY c5 eh, .row 9 1 dS dR dT gr, .row 3 1 dO dN dP fZ, .row 3 1 bK bI bM dr, .any (mapE (fun a : List UInt8 => Value.string (gstr a)) (fun a : Int => Value.int .i64 a) aW a0.number)] ++ A) w0 cK a0.Enum.Right) (rS : Els (rpRule) (bl [.blk d8 (.cells #[.int .i64 a0.Enum.Points, .bool a0.Enum.Monoid, .slice ar aq au, .slice cW cV cX, .slice cR cQ cS, .slice dj di dk, .slice aU aK aV, .slice cZ cY c5, .int .i64 a0.Enum.Done, .map (some aW), .slice dS dR dT, .slice dO dN dP, .slice bK bI bM] 72 (0, 0)), .row 26 1 ar aq au cP, .row 26 1 cW cV cX eg, .row 3 1 cR cQ cS d7, .row 3 1 dj di dk eM, .row 26 1 aU aK aV cK, .row 39 2 cZ cY c5 eh, .row 9 1 dS dR dT gr, .row 3 1 dO dN dP fZ, .row 3 1 bK bI bM dr, .any (mapE (fun a : List UInt8 => Value.string (gstr a)) (fun a : Int => Value.int .i64 a) aW a0.number)] ++ A) w0 eh a0.Enum.Rules) (ui : Els (Rp.str) (bl [.blk d8 (.cells #[.int .i64 a0.Enum.Points, .bool a0.Enum.Monoid, .slice ar aq au, .slice cW cV cX, .slice cR cQ cS, .slice dj di dk, .slice aU aK aV, .slice cZ cY c5, .int .i64 a0.Enum.Done, .map (some aW), .slice dS dR dT, .slice dO dN dP, .slice bK bI bM] 72 (0, 0)), .row 26 1 ar aq au cP, .row 26 1 cW cV cX eg, .row 3 1 cR cQ cS d7, .row 3 1 dj di dk eM, .row 26 1 aU aK aV cK, .row 39 2 cZ cY c5 eh, .row 9 1 dS dR dT gr, .row 3 1 dO dN dP fZ, .row 3 1 bK bI bM dr, .any (mapE (fun a : List UInt8 => Value.string (gstr a)) (fun a : Int => Value.int .i64 a) aW a0.number)] ++ A) w0 gr a0.words) (tZ : Els (Rp.int .i64) (bl [.blk d8 (.cells #[.int .i64 a0.Enum.Points, .bool a0.Enum.Monoid, .slice ar aq au, .slice cW cV cX, .slice cR cQ cS, .slice dj di dk, .slice aU aK aV, .slice cZ cY c5, .int .i64 a0.Enum.Done, .map (some aW), .slice dS dR dT, .slice dO dN dP, .slice bK bI bM] 72 (0, 0)), .row 26 1 ar aq au cP, .row 26 1 cW cV cX eg, .row 3 1 cR cQ cS d7, .row 3 1 dj di dk eM, .row 26 1 aU aK aV cK, .row 39 2 cZ cY c5 eh, .row 9 1 dS dR dT gr, .row 3 1 dO dN dP fZ, .row 3 1 bK bI bM dr, .any (mapE (fun a : List UInt8 => Value.string (gstr a)) (fun a : Int => Value.int .i64 a) aW a0.number)] ++ A) w0 fZ a0.behind) (ad : Els (Rp.int .i64) (bl [.blk d8 (.cells #[.int .i64 a0.Enum.Points, .bool a0.Enum.Monoid, .slice ar aq au, .slice cW cV cX, .slice cR cQ cS, .slice dj di dk, .slice aU aK aV, .slice cZ cY c5, .int .i64 a0.Enum.Done, .map (some aW), .slice dS dR dT, .slice dO dN dP, .slice bK bI bM] 72 (0, 0)), .row 26 1 ar aq au cP, .row 26 1 cW cV cX eg, .row 3 1 cR cQ cS d7, .row 3 1 dj di dk eM, .row 26 1 aU aK aV cK, .row 39 2 cZ cY c5 eh, .row 9 1 dS dR dT gr, .row 3 1 dO dN dP fZ, .row 3 1 bK bI bM dr, .any (mapE (fun a : List UInt8 => Value.string (gstr a)) (fun a : Int => Value.int .i64 a) aW a0.number)] ++ A) w0 dr a0.single) {K : Int → run → Prop} (H : enumerate_run_process a0 K) :
    CallsV Try.prog 51 #[.pointer (some ⟨d8, 0, none⟩)] w0 (fun v w' => ∃ (r0 : Int), ∃ (q : run), ∃ (bk : Nat), ∃ (bm : Option Addr), ∃ (bn : Nat), ∃ (cx : List Value), ∃ (a5 : Nat), ∃ (a6 : Option Addr), ∃ (a7 : Nat), ∃ (cu : List Value), ∃ (aR : Nat), ∃ (aS : Option Addr), ∃ (aT : Nat), ∃ (cj : List Value), ∃ (bo : Nat), ∃ (bp : Option Addr), ∃ (bq : Nat), ∃ (cy : List Value), ∃ (a8 : Nat), ∃ (a9 : Option Addr), ∃ (ba : Nat), ∃ (cv : List Value), ∃ (bc : Nat), ∃ (bf : Option Addr), ∃ (bg : Nat), ∃ (cw : List Value), ∃ (co : Nat), ∃ (cp : Option Addr), ∃ (cq : Nat), ∃ (dn : List Value), ∃ (bY : Nat), ∃ (bZ : Option Addr), ∃ (b4 : Nat), ∃ (db : List Value), ∃ (b5 : Nat), ∃ (b6 : Option Addr), ∃ (b7 : Nat), ∃ (de : List Value), v = .int .i64 r0 ∧ Owns n0 w' [.blk d8 (.cells #[.int .i64 q.Enum.Points, .bool q.Enum.Monoid, .slice bm bk bn, .slice a6 a5 a7, .slice aS aR aT, .slice bp bo bq, .slice a9 a8 ba, .slice bf bc bg, .int .i64 q.Enum.Done, .map (some aW), .slice cp co cq, .slice bZ bY b4, .slice b6 b5 b7] 72 (0, 0)), .row 26 1 bm bk bn cx, .row 26 1 a6 a5 a7 cu, .row 3 1 aS aR aT cj, .row 3 1 bp bo bq cy, .row 26 1 a9 a8 ba cv, .row 39 2 bf bc bg cw, .row 9 1 cp co cq dn, .row 3 1 bZ bY b4 db, .row 3 1 b6 b5 b7 de, .any (mapE (fun a : List UInt8 => Value.string (gstr a)) (fun a : Int => Value.int .i64 a) aW q.number)] A ∧ Els (Rp.sl (Rp.int .i64)) (bl [.blk d8 (.cells #[.int .i64 q.Enum.Points, .bool q.Enum.Monoid, .slice bm bk bn, .slice a6 a5 a7, .slice aS aR aT, .slice bp bo bq, .slice a9 a8 ba, .slice bf bc bg, .int .i64 q.Enum.Done, .map (some aW), .slice cp co cq, .slice bZ bY b4, .slice b6 b5 b7] 72 (0, 0)), .row 26 1 bm bk bn cx, .row 26 1 a6 a5 a7 cu, .row 3 1 aS aR aT cj, .row 3 1 bp bo bq cy, .row 26 1 a9 a8 ba cv, .row 39 2 bf bc bg cw, .row 9 1 cp co cq dn, .row 3 1 bZ bY b4 db, .row 3 1 b6 b5 b7 de, .any (mapE (fun a : List UInt8 => Value.string (gstr a)) (fun a : Int => Value.int .i64 a) aW q.number)] ++ A) w' cx q.Enum.Gens ∧ Els (Rp.sl (Rp.int .i64)) (bl [.blk d8 (.cells #[.int .i64 q.Enum.Points, .bool q.Enum.Monoid, .slice bm bk bn, .slice a6 a5 a7, .slice aS aR aT, .slice bp bo bq, .slice a9 a8 ba, .slice bf bc bg, .int .i64 q.Enum.Done, .map (some aW), .slice cp co cq, .slice bZ bY b4, .slice b6 b5 b7] 72 (0, 0)), .row 26 1 bm bk bn cx, .row 26 1 a6 a5 a7 cu, .row 3 1 aS aR aT cj, .row 3 1 bp bo bq cy, .row 26 1 a9 a8 ba cv, .row 39 2 bf bc bg cw, .row 9 1 cp co cq dn, .row 3 1 bZ bY b4 db, .row 3 1 b6 b5 b7 de, .any (mapE (fun a : List UInt8 => Value.string (gstr a)) (fun a : Int => Value.int .i64 a) aW q.number)] ++ A) w' cu q.Enum.Elems ∧ Els (Rp.int .i64) (bl [.blk d8 (.cells #[.int .i64 q.Enum.Points, .bool q.Enum.Monoid, .slice bm bk bn, .slice a6 a5 a7, .slice aS aR aT, .slice bp bo bq, .slice a9 a8 ba, .slice bf bc bg, .int .i64 q.Enum.Done, .map (some aW), .slice cp co cq, .slice bZ bY b4, .slice b6 b5 b7] 72 (0, 0)), .row 26 1 bm bk bn cx, .row 26 1 a6 a5 a7 cu, .row 3 1 aS aR aT cj, .row 3 1 bp bo bq cy, .row 26 1 a9 a8 ba cv, .row 39 2 bf bc bg cw, .row 9 1 cp co cq dn, .row 3 1 bZ bY b4 db, .row 3 1 b6 b5 b7 de, .any (mapE (fun a : List UInt8 => Value.string (gstr a)) (fun a : Int => Value.int .i64 a) aW q.number)] ++ A) w' cj q.Enum.Prefix ∧ Els (Rp.int .i64) (bl [.blk d8 (.cells #[.int .i64 q.Enum.Points, .bool q.Enum.Monoid, .slice bm bk bn, .slice a6 a5 a7, .slice aS aR aT, .slice bp bo bq, .slice a9 a8 ba, .slice bf bc bg, .int .i64 q.Enum.Done, .map (some aW), .slice cp co cq, .slice bZ bY b4, .slice b6 b5 b7] 72 (0, 0)), .row 26 1 bm bk bn cx, .row 26 1 a6 a5 a7 cu, .row 3 1 aS aR aT cj, .row 3 1 bp bo bq cy, .row 26 1 a9 a8 ba cv, .row 39 2 bf bc bg cw, .row 9 1 cp co cq dn, .row 3 1 bZ bY b4 db, .row 3 1 b6 b5 b7 de, .any (mapE (fun a : List UInt8 => Value.string (gstr a)) (fun a : Int => Value.int .i64 a) aW q.number)] ++ A) w' cy q.Enum.Last ∧ Els (Rp.sl (Rp.int .i64)) (bl [.blk d8 (.cells #[.int .i64 q.Enum.Points, .bool q.Enum.Monoid, .slice bm bk bn, .slice a6 a5 a7, .slice aS aR aT, .slice bp bo bq, .slice a9 a8 ba, .slice bf bc bg, .int .i64 q.Enum.Done, .map (some aW), .slice cp co cq, .slice bZ bY b4, .slice b6 b5 b7] 72 (0, 0)), .row 26 1 bm bk bn cx, .row 26 1 a6 a5 a7 cu, .row 3 1 aS aR aT cj, .row 3 1 bp bo bq cy, .row 26 1 a9 a8 ba cv, .row 39 2 bf bc bg cw, .row 9 1 cp co cq dn, .row 3 1 bZ bY b4 db, .row 3 1 b6 b5 b7 de, .any (mapE (fun a : List UInt8 => Value.string (gstr a)) (fun a : Int => Value.int .i64 a) aW q.number)] ++ A) w' cv q.Enum.Right ∧ Els (rpRule) (bl [.blk d8 (.cells #[.int .i64 q.Enum.Points, .bool q.Enum.Monoid, .slice bm bk bn, .slice a6 a5 a7, .slice aS aR aT, .slice bp bo bq, .slice a9 a8 ba, .slice bf bc bg, .int .i64 q.Enum.Done, .map (some aW), .slice cp co cq, .slice bZ bY b4, .slice b6 b5 b7] 72 (0, 0)), .row 26 1 bm bk bn cx, .row 26 1 a6 a5 a7 cu, .row 3 1 aS aR aT cj, .row 3 1 bp bo bq cy, .row 26 1 a9 a8 ba cv, .row 39 2 bf bc bg cw, .row 9 1 cp co cq dn, .row 3 1 bZ bY b4 db, .row 3 1 b6 b5 b7 de, .any (mapE (fun a : List UInt8 => Value.string (gstr a)) (fun a : Int => Value.int .i64 a) aW q.number)] ++ A) w' cw q.Enum.Rules ∧ Els (Rp.str) (bl [.blk d8 (.cells #[.int .i64 q.Enum.Points, .bool q.Enum.Monoid, .slice bm bk bn, .slice a6 a5 a7, .slice aS aR aT, .slice bp bo bq, .slice a9 a8 ba, .slice bf bc bg, .int .i64 q.Enum.Done, .map (some aW), .slice cp co cq, .slice bZ bY b4, .slice b6 b5 b7] 72 (0, 0)), .row 26 1 bm bk bn cx, .row 26 1 a6 a5 a7 cu, .row 3 1 aS aR aT cj, .row 3 1 bp bo bq cy, .row 26 1 a9 a8 ba cv, .row 39 2 bf bc bg cw, .row 9 1 cp co cq dn, .row 3 1 bZ bY b4 db, .row 3 1 b6 b5 b7 de, .any (mapE (fun a : List UInt8 => Value.string (gstr a)) (fun a : Int => Value.int .i64 a) aW q.number)] ++ A) w' dn q.words ∧ Els (Rp.int .i64) (bl [.blk d8 (.cells #[.int .i64 q.Enum.Points, .bool q.Enum.Monoid, .slice bm bk bn, .slice a6 a5 a7, .slice aS aR aT, .slice bp bo bq, .slice a9 a8 ba, .slice bf bc bg, .int .i64 q.Enum.Done, .map (some aW), .slice cp co cq, .slice bZ bY b4, .slice b6 b5 b7] 72 (0, 0)), .row 26 1 bm bk bn cx, .row 26 1 a6 a5 a7 cu, .row 3 1 aS aR aT cj, .row 3 1 bp bo bq cy, .row 26 1 a9 a8 ba cv, .row 39 2 bf bc bg cw, .row 9 1 cp co cq dn, .row 3 1 bZ bY b4 db, .row 3 1 b6 b5 b7 de, .any (mapE (fun a : List UInt8 => Value.string (gstr a)) (fun a : Int => Value.int .i64 a) aW q.number)] ++ A) w' db q.behind ∧ Els (Rp.int .i64) (bl [.blk d8 (.cells #[.int .i64 q.Enum.Points, .bool q.Enum.Monoid, .slice bm bk bn, .slice a6 a5 a7, .slice aS aR aT, .slice bp bo bq, .slice a9 a8 ba, .slice bf bc bg, .int .i64 q.Enum.Done, .map (some aW), .slice cp co cq, .slice bZ bY b4, .slice b6 b5 b7] 72 (0, 0)), .row 26 1 bm bk bn cx, .row 26 1 a6 a5 a7 cu, .row 3 1 aS aR aT cj, .row 3 1 bp bo bq cy, .row 26 1 a9 a8 ba cv, .row 39 2 bf bc bg cw, .row 9 1 cp co cq dn, .row 3 1 bZ bY b4 db, .row 3 1 b6 b5 b7 de, .any (mapE (fun a : List UInt8 => Value.string (gstr a)) (fun a : Int => Value.int .i64 a) aW q.number)] ++ A) w' de q.single ∧ Fr (bl [.blk d8 (.cells #[.int .i64 a0.Enum.Points, .bool a0.Enum.Monoid, .slice ar aq au, .slice cW cV cX, .slice cR cQ cS, .slice dj di dk, .slice aU aK aV, .slice cZ cY c5, .int .i64 a0.Enum.Done, .map (some aW), .slice dS dR dT, .slice dO dN dP, .slice bK bI bM] 72 (0, 0)), .row 26 1 ar aq au cP, .row 26 1 cW cV cX eg, .row 3 1 cR cQ cS d7, .row 3 1 dj di dk eM, .row 26 1 aU aK aV cK, .row 39 2 cZ cY c5 eh, .row 9 1 dS dR dT gr, .row 3 1 dO dN dP fZ, .row 3 1 bK bI bM dr, .any (mapE (fun a : List UInt8 => Value.string (gstr a)) (fun a : Int => Value.int .i64 a) aW a0.number)]) w0 (bl [.blk d8 (.cells #[.int .i64 q.Enum.Points, .bool q.Enum.Monoid, .slice bm bk bn, .slice a6 a5 a7, .slice aS aR aT, .slice bp bo bq, .slice a9 a8 ba, .slice bf bc bg, .int .i64 q.Enum.Done, .map (some aW), .slice cp co cq, .slice bZ bY b4, .slice b6 b5 b7] 72 (0, 0)), .row 26 1 bm bk bn cx, .row 26 1 a6 a5 a7 cu, .row 3 1 aS aR aT cj, .row 3 1 bp bo bq cy, .row 26 1 a9 a8 ba cv, .row 39 2 bf bc bg cw, .row 9 1 cp co cq dn, .row 3 1 bZ bY b4 db, .row 3 1 b6 b5 b7 de, .any (mapE (fun a : List UInt8 => Value.string (gstr a)) (fun a : Int => Value.int .i64 a) aW q.number)]) w' ∧ K r0 q) := by
 refine CallsV.of (l := [.pointer (some ⟨d8, 0, none⟩)]) Try.func51 rfl Try.ntmps51 rfl ?_
 have hB := Fr.refl (bl [.blk d8 (.cells #[.int .i64 a0.Enum.Points, .bool a0.Enum.Monoid, .slice ar aq au, .slice cW cV cX, .slice cR cQ cS, .slice dj di dk, .slice aU aK aV, .slice cZ cY c5, .int .i64 a0.Enum.Done, .map (some aW), .slice dS dR dT, .slice dO dN dP, .slice bK bI bM] 72 (0, 0)), .row 26 1 ar aq au cP, .row 26 1 cW cV cX eg, .row 3 1 cR cQ cS d7, .row 3 1 dj di dk eM, .row 26 1 aU aK aV cK, .row 39 2 cZ cY c5 eh, .row 9 1 dS dR dT gr, .row 3 1 dO dN dP fZ, .row 3 1 bK bI bM dr, .any (mapE (fun a : List UInt8 => Value.string (gstr a)) (fun a : Int => Value.int .i64 a) aW a0.number)]) w0
 unfold enumerate_run_process at H
 refine Go1.seq ?_
 refine Go1.region ?_
 refine GoR.op ((op_assign rfl) _) rfl rfl ?_
 refine GoR.nil ?_
 refine Go1.seq ?_
 refine Go1.region ?_
 refine GoR.op ((op_move rfl) _) rfl rfl ?_
 refine GoR.op ((op_nilCheck rfl) _) rfl rfl ?_
 refine GoR.op ((op_fieldAddr Try.underlying72 rfl ti29 rfl (by decide)) _) rfl rfl ?_
 refine GoR.op ((op_fieldAddr Try.underlying29 rfl ti3 rfl (by decide)) _) rfl rfl ?_
 refine GoR.op ((oblk (i := 8) 0 hO rfl rfl Try.underlying3 rfl rfl) _ (Same.refl _)) rfl rfl ?_
 refine GoR.op ((op_assign rfl) _) rfl rfl ?_
 refine GoR.nil ?_
 refine Go1.seq ?_
 refine Go1.region ?_
 refine GoR.op ((op_move rfl) _) rfl rfl ?_
 refine GoR.op ((op_nilCheck rfl) _) rfl rfl ?_
 refine GoR.op ((op_fieldAddr Try.underlying72 rfl ti29 rfl (by decide)) _) rfl rfl ?_
 refine GoR.op ((op_fieldAddr Try.underlying29 rfl ti22 rfl (by decide)) _) rfl rfl ?_
 refine GoR.op ((oblk (i := 2) 0 hO rfl rfl Try.underlying22 rfl rfl) _ (Same.refl _)) rfl rfl ?_
 refine GoR.op ((op_lenN Try.underlying22 rfl (aa.neq hO 1 rfl)) _) rfl rfl ?_
 obtain ⟨h8, H⟩ := H
 obtain ⟨h9, H⟩ := H
 have hobt := omake (n := (a0.Enum.Gens.length : Int)) (r := Rp.int .i64) (d := (0 : Int)) Try.underlying26 ti3 (fun _ _ => rfl) rfl hO h8 h9 (by decide)
 obtain ⟨w1, p2, vs3, oN, hE5, hs6, xQ⟩ := hobt
 refine GoR.op (xQ rfl rfl) rfl rfl ?_
 replace aa := aa.ch oN.ch
 replace rR := rR.ch oN.ch
 replace rh := rh.ch oN.ch
 replace sf := sf.ch oN.ch
 replace ab := ab.ch oN.ch
 replace rS := rS.ch oN.ch
 replace ui := ui.ch oN.ch
 replace tZ := tZ.ch oN.ch
 replace ad := ad.ch oN.ch
 replace hO := oN.own
 replace hB := hB.trans oN.fr
 refine GoR.op ((op_assign rfl) _) rfl rfl ?_
 refine GoR.nil ?_
 refine Go1.seq ?_
 refine Go1.seq ?_
 refine Go1.region ?_
 refine GoR.op ((op_move rfl) _) rfl rfl ?_
 refine GoR.op ((op_nilCheck rfl) _) rfl rfl ?_
 refine GoR.op ((op_fieldAddr Try.underlying72 rfl ti29 rfl (by decide)) _) rfl rfl ?_
 refine GoR.op ((op_fieldAddr Try.underlying29 rfl ti22 rfl (by decide)) _) rfl rfl ?_
 refine GoR.op ((oblk (i := 2) 1 hO rfl rfl Try.underlying22 rfl rfl) _ (Same.refl _)) rfl rfl ?_
 refine GoR.op ((op_lenN Try.underlying22 rfl (aa.neq hO 2 rfl)) _) rfl rfl ?_
 refine GoR.op ((op_move rfl) _) rfl rfl ?_
 refine GoR.nil ?_
 refine Go1.block ?_
 refine Go1.loopW (S := Nat × List Int × List (List Int) × List Int × List Int × List Rule × List Str × List Int × (List (Str × Int))) (fun s σ w => match s with | (k1_12, d_13, d_16, d_22, d_28, d_34, d_40, d_46, m1_52) => ∃ (nS : List Value), ∃ (n21 : Nat), ∃ (p19 : Option Addr), ∃ (c20 : Nat), ∃ (mt : List Value), ∃ (n27 : Nat), ∃ (p25 : Option Addr), ∃ (c26 : Nat), ∃ (ne : List Value), ∃ (n33 : Nat), ∃ (p31 : Option Addr), ∃ (c32 : Nat), ∃ (nf : List Value), ∃ (n39 : Nat), ∃ (p37 : Option Addr), ∃ (c38 : Nat), ∃ (ng : List Value), ∃ (n45 : Nat), ∃ (p43 : Option Addr), ∃ (c44 : Nat), ∃ (e8 : List Value), ∃ (n51 : Nat), ∃ (p49 : Option Addr), ∃ (c50 : Nat), ∃ (e9 : List Value), agrees σ [(0, .pointer (some ⟨d8, 0, none⟩)), (3, .int .i64 a0.Enum.Done), (4, .slice p2 a0.Enum.Gens.length a0.Enum.Gens.length), (27, .slice ar aq au), (28, .int .i64 (a0.Enum.Gens.length : Int)), (29, .int .i64 (k1_12 : Int))] ∧ Owns n0 w [.row 3 1 p2 a0.Enum.Gens.length a0.Enum.Gens.length nS, .blk d8 (.cells #[.int .i64 a0.Enum.Points, .bool a0.Enum.Monoid, .slice ar aq au, .slice p19 n21 c20, .slice p25 n27 c26, .slice p31 n33 c32, .slice aU aK aV, .slice p37 n39 c38, .int .i64 a0.Enum.Done, .map (some aW), .slice p43 n45 c44, .slice p49 n51 c50, .slice bK bI bM] 72 (0, 0)), .row 26 1 ar aq au cP, .row 26 1 p19 n21 c20 mt, .row 3 1 p25 n27 c26 ne, .row 3 1 p31 n33 c32 nf, .row 26 1 aU aK aV cK, .row 39 2 p37 n39 c38 ng, .row 9 1 p43 n45 c44 e8, .row 3 1 p49 n51 c50 e9, .row 3 1 bK bI bM dr, .any (mapE (fun a : List UInt8 => Value.string (gstr a)) (fun a : Int => Value.int .i64 a) aW m1_52)] A ∧ Els (Rp.int .i64) (bl [.row 3 1 p2 a0.Enum.Gens.length a0.Enum.Gens.length nS, .blk d8 (.cells #[.int .i64 a0.Enum.Points, .bool a0.Enum.Monoid, .slice ar aq au, .slice p19 n21 c20, .slice p25 n27 c26, .slice p31 n33 c32, .slice aU aK aV, .slice p37 n39 c38, .int .i64 a0.Enum.Done, .map (some aW), .slice p43 n45 c44, .slice p49 n51 c50, .slice bK bI bM] 72 (0, 0)), .row 26 1 ar aq au cP, .row 26 1 p19 n21 c20 mt, .row 3 1 p25 n27 c26 ne, .row 3 1 p31 n33 c32 nf, .row 26 1 aU aK aV cK, .row 39 2 p37 n39 c38 ng, .row 9 1 p43 n45 c44 e8, .row 3 1 p49 n51 c50 e9, .row 3 1 bK bI bM dr, .any (mapE (fun a : List UInt8 => Value.string (gstr a)) (fun a : Int => Value.int .i64 a) aW m1_52)] ++ A) w nS d_13 ∧ Els (Rp.sl (Rp.int .i64)) (bl [.row 3 1 p2 a0.Enum.Gens.length a0.Enum.Gens.length nS, .blk d8 (.cells #[.int .i64 a0.Enum.Points, .bool a0.Enum.Monoid, .slice ar aq au, .slice p19 n21 c20, .slice p25 n27 c26, .slice p31 n33 c32, .slice aU aK aV, .slice p37 n39 c38, .int .i64 a0.Enum.Done, .map (some aW), .slice p43 n45 c44, .slice p49 n51 c50, .slice bK bI bM] 72 (0, 0)), .row 26 1 ar aq au cP, .row 26 1 p19 n21 c20 mt, .row 3 1 p25 n27 c26 ne, .row 3 1 p31 n33 c32 nf, .row 26 1 aU aK aV cK, .row 39 2 p37 n39 c38 ng, .row 9 1 p43 n45 c44 e8, .row 3 1 p49 n51 c50 e9, .row 3 1 bK bI bM dr, .any (mapE (fun a : List UInt8 => Value.string (gstr a)) (fun a : Int => Value.int .i64 a) aW m1_52)] ++ A) w cP a0.Enum.Gens ∧ Els (Rp.sl (Rp.int .i64)) (bl [.row 3 1 p2 a0.Enum.Gens.length a0.Enum.Gens.length nS, .blk d8 (.cells #[.int .i64 a0.Enum.Points, .bool a0.Enum.Monoid, .slice ar aq au, .slice p19 n21 c20, .slice p25 n27 c26, .slice p31 n33 c32, .slice aU aK aV, .slice p37 n39 c38, .int .i64 a0.Enum.Done, .map (some aW), .slice p43 n45 c44, .slice p49 n51 c50, .slice bK bI bM] 72 (0, 0)), .row 26 1 ar aq au cP, .row 26 1 p19 n21 c20 mt, .row 3 1 p25 n27 c26 ne, .row 3 1 p31 n33 c32 nf, .row 26 1 aU aK aV cK, .row 39 2 p37 n39 c38 ng, .row 9 1 p43 n45 c44 e8, .row 3 1 p49 n51 c50 e9, .row 3 1 bK bI bM dr, .any (mapE (fun a : List UInt8 => Value.string (gstr a)) (fun a : Int => Value.int .i64 a) aW m1_52)] ++ A) w mt d_16 ∧ Els (Rp.int .i64) (bl [.row 3 1 p2 a0.Enum.Gens.length a0.Enum.Gens.length nS, .blk d8 (.cells #[.int .i64 a0.Enum.Points, .bool a0.Enum.Monoid, .slice ar aq au, .slice p19 n21 c20, .slice p25 n27 c26, .slice p31 n33 c32, .slice aU aK aV, .slice p37 n39 c38, .int .i64 a0.Enum.Done, .map (some aW), .slice p43 n45 c44, .slice p49 n51 c50, .slice bK bI bM] 72 (0, 0)), .row 26 1 ar aq au cP, .row 26 1 p19 n21 c20 mt, .row 3 1 p25 n27 c26 ne, .row 3 1 p31 n33 c32 nf, .row 26 1 aU aK aV cK, .row 39 2 p37 n39 c38 ng, .row 9 1 p43 n45 c44 e8, .row 3 1 p49 n51 c50 e9, .row 3 1 bK bI bM dr, .any (mapE (fun a : List UInt8 => Value.string (gstr a)) (fun a : Int => Value.int .i64 a) aW m1_52)] ++ A) w ne d_22 ∧ Els (Rp.int .i64) (bl [.row 3 1 p2 a0.Enum.Gens.length a0.Enum.Gens.length nS, .blk d8 (.cells #[.int .i64 a0.Enum.Points, .bool a0.Enum.Monoid, .slice ar aq au, .slice p19 n21 c20, .slice p25 n27 c26, .slice p31 n33 c32, .slice aU aK aV, .slice p37 n39 c38, .int .i64 a0.Enum.Done, .map (some aW), .slice p43 n45 c44, .slice p49 n51 c50, .slice bK bI bM] 72 (0, 0)), .row 26 1 ar aq au cP, .row 26 1 p19 n21 c20 mt, .row 3 1 p25 n27 c26 ne, .row 3 1 p31 n33 c32 nf, .row 26 1 aU aK aV cK, .row 39 2 p37 n39 c38 ng, .row 9 1 p43 n45 c44 e8, .row 3 1 p49 n51 c50 e9, .row 3 1 bK bI bM dr, .any (mapE (fun a : List UInt8 => Value.string (gstr a)) (fun a : Int => Value.int .i64 a) aW m1_52)] ++ A) w nf d_28 ∧ Els (Rp.sl (Rp.int .i64)) (bl [.row 3 1 p2 a0.Enum.Gens.length a0.Enum.Gens.length nS, .blk d8 (.cells #[.int .i64 a0.Enum.Points, .bool a0.Enum.Monoid, .slice ar aq au, .slice p19 n21 c20, .slice p25 n27 c26, .slice p31 n33 c32, .slice aU aK aV, .slice p37 n39 c38, .int .i64 a0.Enum.Done, .map (some aW), .slice p43 n45 c44, .slice p49 n51 c50, .slice bK bI bM] 72 (0, 0)), .row 26 1 ar aq au cP, .row 26 1 p19 n21 c20 mt, .row 3 1 p25 n27 c26 ne, .row 3 1 p31 n33 c32 nf, .row 26 1 aU aK aV cK, .row 39 2 p37 n39 c38 ng, .row 9 1 p43 n45 c44 e8, .row 3 1 p49 n51 c50 e9, .row 3 1 bK bI bM dr, .any (mapE (fun a : List UInt8 => Value.string (gstr a)) (fun a : Int => Value.int .i64 a) aW m1_52)] ++ A) w cK a0.Enum.Right ∧ Els (rpRule) (bl [.row 3 1 p2 a0.Enum.Gens.length a0.Enum.Gens.length nS, .blk d8 (.cells #[.int .i64 a0.Enum.Points, .bool a0.Enum.Monoid, .slice ar aq au, .slice p19 n21 c20, .slice p25 n27 c26, .slice p31 n33 c32, .slice aU aK aV, .slice p37 n39 c38, .int .i64 a0.Enum.Done, .map (some aW), .slice p43 n45 c44, .slice p49 n51 c50, .slice bK bI bM] 72 (0, 0)), .row 26 1 ar aq au cP, .row 26 1 p19 n21 c20 mt, .row 3 1 p25 n27 c26 ne, .row 3 1 p31 n33 c32 nf, .row 26 1 aU aK aV cK, .row 39 2 p37 n39 c38 ng, .row 9 1 p43 n45 c44 e8, .row 3 1 p49 n51 c50 e9, .row 3 1 bK bI bM dr, .any (mapE (fun a : List UInt8 => Value.string (gstr a)) (fun a : Int => Value.int .i64 a) aW m1_52)] ++ A) w ng d_34 ∧ Els (Rp.str) (bl [.row 3 1 p2 a0.Enum.Gens.length a0.Enum.Gens.length nS, .blk d8 (.cells #[.int .i64 a0.Enum.Points, .bool a0.Enum.Monoid, .slice ar aq au, .slice p19 n21 c20, .slice p25 n27 c26, .slice p31 n33 c32, .slice aU aK aV, .slice p37 n39 c38, .int .i64 a0.Enum.Done, .map (some aW), .slice p43 n45 c44, .slice p49 n51 c50, .slice bK bI bM] 72 (0, 0)), .row 26 1 ar aq au cP, .row 26 1 p19 n21 c20 mt, .row 3 1 p25 n27 c26 ne, .row 3 1 p31 n33 c32 nf, .row 26 1 aU aK aV cK, .row 39 2 p37 n39 c38 ng, .row 9 1 p43 n45 c44 e8, .row 3 1 p49 n51 c50 e9, .row 3 1 bK bI bM dr, .any (mapE (fun a : List UInt8 => Value.string (gstr a)) (fun a : Int => Value.int .i64 a) aW m1_52)] ++ A) w e8 d_40 ∧ Els (Rp.int .i64) (bl [.row 3 1 p2 a0.Enum.Gens.length a0.Enum.Gens.length nS, .blk d8 (.cells #[.int .i64 a0.Enum.Points, .bool a0.Enum.Monoid, .slice ar aq au, .slice p19 n21 c20, .slice p25 n27 c26, .slice p31 n33 c32, .slice aU aK aV, .slice p37 n39 c38, .int .i64 a0.Enum.Done, .map (some aW), .slice p43 n45 c44, .slice p49 n51 c50, .slice bK bI bM] 72 (0, 0)), .row 26 1 ar aq au cP, .row 26 1 p19 n21 c20 mt, .row 3 1 p25 n27 c26 ne, .row 3 1 p31 n33 c32 nf, .row 26 1 aU aK aV cK, .row 39 2 p37 n39 c38 ng, .row 9 1 p43 n45 c44 e8, .row 3 1 p49 n51 c50 e9, .row 3 1 bK bI bM dr, .any (mapE (fun a : List UInt8 => Value.string (gstr a)) (fun a : Int => Value.int .i64 a) aW m1_52)] ++ A) w e9 d_46 ∧ Els (Rp.int .i64) (bl [.row 3 1 p2 a0.Enum.Gens.length a0.Enum.Gens.length nS, .blk d8 (.cells #[.int .i64 a0.Enum.Points, .bool a0.Enum.Monoid, .slice ar aq au, .slice p19 n21 c20, .slice p25 n27 c26, .slice p31 n33 c32, .slice aU aK aV, .slice p37 n39 c38, .int .i64 a0.Enum.Done, .map (some aW), .slice p43 n45 c44, .slice p49 n51 c50, .slice bK bI bM] 72 (0, 0)), .row 26 1 ar aq au cP, .row 26 1 p19 n21 c20 mt, .row 3 1 p25 n27 c26 ne, .row 3 1 p31 n33 c32 nf, .row 26 1 aU aK aV cK, .row 39 2 p37 n39 c38 ng, .row 9 1 p43 n45 c44 e8, .row 3 1 p49 n51 c50 e9, .row 3 1 bK bI bM dr, .any (mapE (fun a : List UInt8 => Value.string (gstr a)) (fun a : Int => Value.int .i64 a) aW m1_52)] ++ A) w dr a0.single ∧ Fr (bl [.blk d8 (.cells #[.int .i64 a0.Enum.Points, .bool a0.Enum.Monoid, .slice ar aq au, .slice cW cV cX, .slice cR cQ cS, .slice dj di dk, .slice aU aK aV, .slice cZ cY c5, .int .i64 a0.Enum.Done, .map (some aW), .slice dS dR dT, .slice dO dN dP, .slice bK bI bM] 72 (0, 0)), .row 26 1 ar aq au cP, .row 26 1 cW cV cX eg, .row 3 1 cR cQ cS d7, .row 3 1 dj di dk eM, .row 26 1 aU aK aV cK, .row 39 2 cZ cY c5 eh, .row 9 1 dS dR dT gr, .row 3 1 dO dN dP fZ, .row 3 1 bK bI bM dr, .any (mapE (fun a : List UInt8 => Value.string (gstr a)) (fun a : Int => Value.int .i64 a) aW a0.number)]) w0 (bl [.row 3 1 p2 a0.Enum.Gens.length a0.Enum.Gens.length nS, .blk d8 (.cells #[.int .i64 a0.Enum.Points, .bool a0.Enum.Monoid, .slice ar aq au, .slice p19 n21 c20, .slice p25 n27 c26, .slice p31 n33 c32, .slice aU aK aV, .slice p37 n39 c38, .int .i64 a0.Enum.Done, .map (some aW), .slice p43 n45 c44, .slice p49 n51 c50, .slice bK bI bM] 72 (0, 0)), .row 26 1 ar aq au cP, .row 26 1 p19 n21 c20 mt, .row 3 1 p25 n27 c26 ne, .row 3 1 p31 n33 c32 nf, .row 26 1 aU aK aV cK, .row 39 2 p37 n39 c38 ng, .row 9 1 p43 n45 c44 e8, .row 3 1 p49 n51 c50 e9, .row 3 1 bK bI bM dr, .any (mapE (fun a : List UInt8 => Value.string (gstr a)) (fun a : Int => Value.int .i64 a) aW m1_52)]) w) H ⟨vs3, cV, cW, cX, eg, cQ, cR, cS, d7, di, dj, dk, eM, cY, cZ, c5, eh, dR, dS, dT, gr, dN, dO, dP, fZ, ⟨rfl, rfl, rfl, rfl, rfl, rfl, trivial⟩, hO, hE5, aa, rR, rh, sf, ab, rS, ui, tZ, ad, hB⟩ ?_
 intro X1
 refine prE fun k1_12 => prE fun d_13 => prE fun d_16 => prE fun d_22 => prE fun d_28 => prE fun d_34 => prE fun d_40 => prE fun d_46 => fun m1_52 => ?_
 intro H hX1 σ w11
 refine exE fun nS => exE fun n21 => exE fun p19 => exE fun c20 => exE fun mt => exE fun n27 => exE fun p25 => exE fun c26 => exE fun ne => exE fun n33 => exE fun p31 => exE fun c32 => exE fun nf => exE fun n39 => exE fun p37 => exE fun c38 => exE fun ng => exE fun n45 => exE fun p43 => exE fun c44 => exE fun e8 => exE fun n51 => exE fun p49 => exE fun c50 => exE fun e9 => andE fun hag => andE fun hO => andE fun ce => andE fun aa => andE fun dl => andE fun cL => andE fun cB => andE fun ab => andE fun ci => andE fun bh => andE fun aZ => andE fun ad => fun hB => ?_
 dsimp only at H
 refine Go1.keep [(0, .pointer (some ⟨d8, 0, none⟩)), (3, .int .i64 a0.Enum.Done), (4, .slice p2 a0.Enum.Gens.length a0.Enum.Gens.length), (27, .slice ar aq au), (28, .int .i64 (a0.Enum.Gens.length : Int)), (29, .int .i64 (k1_12 : Int))] hag ?_
 refine Go1.seq ?_
 refine Go1.region ?_
 by_cases h53 : (k1_12 : Int) < (a0.Enum.Gens.length : Int)
 ·replace H := ifp h53 H
  refine GoR.op ((fun w => opB (op_lss rfl rfl w) (decide_eq_true h53)) _) rfl rfl ?_
  refine GoR.nil ?_
  refine Go1.seq ?_
  refine Go1.condT rfl rfl ?_
  refine Go1.skip ?_
  refine Go1.seq ?_
  refine Go1.block ?_
  refine Go1.seq ?_
  refine Go1.region ?_
  refine GoR.op ((op_move rfl) _) rfl rfl ?_
  obtain ⟨h54, H⟩ := H
  obtain ⟨h55, H⟩ := H
  refine GoR.op ((op_index Try.underlying22 ti26 rfl rfl h54 (ltn (aa.neq hO 2 rfl) h55) (aa.psome hO 2 rfl h54 h55)) _) rfl rfl ?_
  have hobt := oldSl 2 hO rfl aa h54 h55
  obtain ⟨p56, c57, cr, Ig⟩ := hobt
  refine GoR.op ((Ig Try.underlying26 rfl rfl) _ (Same.refl _)) rfl rfl ?_
  refine GoR.op ((op_assign rfl) _) rfl rfl ?_
  refine GoR.op ((op_assign rfl) _) rfl rfl ?_
  refine GoR.nil ?_
  refine Go1.seq ?_
  refine Go1.region ?_
  refine GoR.op ((op_move rfl) _) rfl rfl ?_
  refine GoR.op ((op_nilCheck rfl) _) rfl rfl ?_
  refine GoR.op ((op_fieldAddr Try.underlying72 rfl ti29 rfl (by decide)) _) rfl rfl ?_
  refine GoR.op ((op_fieldAddr Try.underlying29 rfl ti22 rfl (by decide)) _) rfl rfl ?_
  refine GoR.op ((oblk (i := 3) 1 hO rfl rfl Try.underlying22 rfl rfl) _ (Same.refl _)) rfl rfl ?_
  refine GoR.op ((op_move rfl) _) rfl rfl ?_
  obtain ⟨h60, H⟩ := H
  obtain ⟨h61, H⟩ := H
  refine GoR.op ((op_index Try.underlying22 ti26 rfl rfl h60 (ltn (dl.neq hO 3 rfl) h61) (dl.psome hO 3 rfl h60 h61)) _) rfl rfl ?_
  have hobt := oldSl 3 hO rfl dl h60 h61
  obtain ⟨p62, c63, ct, Ih⟩ := hobt
  refine GoR.op ((Ih Try.underlying26 rfl rfl) _ (Same.refl _)) rfl rfl ?_
  refine GoR.op ((op_move rfl) _) rfl rfl ?_
  refine GoR.call (op_call body37 rfl (walk_trans_Compose hO.lt ct cr H)) rfl rfl ?_
  rintro v70 w67 ⟨r66, q8, q9, rfl, Ii, bQ, H⟩
  have qB := Stp.same hO Ii
  replace ce := ce.ch qB.ch
  replace aa := aa.ch qB.ch
  replace dl := dl.ch qB.ch
  replace cL := cL.ch qB.ch
  replace cB := cB.ch qB.ch
  replace ab := ab.ch qB.ch
  replace ci := ci.ch qB.ch
  replace bh := bh.ch qB.ch
  replace aZ := aZ.ch qB.ch
  replace ad := ad.ch qB.ch
  replace hO := qB.own
  replace cr := cr.ch qB.ch
  replace ct := ct.ch qB.ch
  replace hB := hB.trans qB.fr
  refine GoR.op ((op_assign rfl) _) rfl rfl ?_
  refine GoR.nil ?_
  refine Go1.seq ?_
  refine Go1.drawS 0 [(0, .pure), (1, .pure), (2, .pure), (3, .stable), (4, .pure), (5, .loud), (6, .stable), (7, .pure), (8, .pure), (9, .pure), (10, .pure), (11, .pure)] mixed (by kernel_rfl) ?_
  intro w72 Ij
  have jb := Stp.same hO Ij
  replace ce := ce.ch jb.ch
  replace aa := aa.ch jb.ch
  replace dl := dl.ch jb.ch
  replace cL := cL.ch jb.ch
  replace cB := cB.ch jb.ch
  replace ab := ab.ch jb.ch
  replace ci := ci.ch jb.ch
  replace bh := bh.ch jb.ch
  replace aZ := aZ.ch jb.ch
  replace ad := ad.ch jb.ch
  replace hO := jb.own
  replace cr := cr.ch jb.ch
  replace ct := ct.ch jb.ch
  replace bQ := bQ.ch jb.ch
  replace hB := hB.trans jb.fr
  refine GoQ.pure rfl (op_move rfl) rfl rfl ?_
  refine GoQ.pure rfl (op_nilCheck rfl) rfl rfl ?_
  refine GoQ.pure rfl (op_fieldAddr Try.underlying72 rfl ti69 rfl (by decide)) rfl rfl ?_
  refine GoQ.stable rfl (oblk (i := 9) 1 hO rfl rfl Try.underlying69 rfl rfl) rfl rfl ?_
  refine GoQ.pure rfl (op_move rfl) rfl rfl ?_
  refine GoQ.call rfl (op_call body61 rfl (walk_enumerate_text hO.lt bQ H)) (fun v w hr => by obtain ⟨_, _, hs, _, _⟩ := hr; assumption) rfl rfl ?_
  rintro v79 w76 ⟨r75, rfl, z7, Jr, H⟩
  have jc := Stp.same hO z7
  replace ce := ce.ch jc.ch
  replace aa := aa.ch jc.ch
  replace dl := dl.ch jc.ch
  replace cL := cL.ch jc.ch
  replace cB := cB.ch jc.ch
  replace ab := ab.ch jc.ch
  replace ci := ci.ch jc.ch
  replace bh := bh.ch jc.ch
  replace aZ := aZ.ch jc.ch
  replace ad := ad.ch jc.ch
  replace hO := jc.own
  replace cr := cr.ch jc.ch
  replace ct := ct.ch jc.ch
  replace bQ := bQ.ch jc.ch
  replace hB := hB.trans jc.fr
  by_cases h81 : mhas m1_52 r75 = true
  ·replace H := ifp h81 H
   refine GoQ.stable rfl (olookT (a := r75) (MK.str Try.underlying9) 11 hO rfl Try.underlying69 rfl rfl h81) rfl rfl ?_
   refine GoQ.pure rfl (op_move rfl) rfl rfl ?_
   refine GoQ.pure rfl (op_extract rfl rfl) rfl rfl ?_
   refine GoQ.pure rfl (op_extract rfl rfl) rfl rfl ?_
   refine GoQ.pure rfl (op_assign rfl) rfl rfl ?_
   refine GoQ.pure rfl (op_assign rfl) rfl rfl ?_
   refine GoQ.nil ?_
   refine Go1.seq ?_
   refine Go1.cut [(0, .pointer (some ⟨d8, 0, none⟩)), (3, .int .i64 a0.Enum.Done), (4, .slice p2 a0.Enum.Gens.length a0.Enum.Gens.length), (5, .int .i64 (k1_12 : Int)), (7, .slice q8 r66.length q9), (8, .int .i64 (mgt m1_52 r75)), (9, .bool true), (27, .slice ar aq au), (28, .int .i64 (a0.Enum.Gens.length : Int)), (29, .int .i64 (k1_12 : Int))] ⟨rfl, rfl, rfl, rfl, rfl, rfl, rfl, rfl, rfl, rfl, trivial⟩ ?_
   intro σ _
   refine Go1.region ?_
   refine GoR.op ((op_move rfl) _) rfl rfl ?_
   refine GoR.op ((op_nilCheck rfl) _) rfl rfl ?_
   refine GoR.op ((op_fieldAddr Try.underlying72 rfl ti70 rfl (by decide)) _) rfl rfl ?_
   refine GoR.op ((oblk (i := 10) 1 hO rfl rfl Try.underlying70 rfl rfl) _ (Same.refl _)) rfl rfl ?_
   refine GoR.op ((op_move rfl) _) rfl rfl ?_
   obtain ⟨h82, H⟩ := H
   obtain ⟨h83, H⟩ := H
   refine GoR.op ((op_index Try.underlying70 ti9 rfl rfl h82 (ltn (bh.neq hO 8 rfl) h83) (bh.psome hO 8 rfl h82 h83)) _) rfl rfl ?_
   refine GoR.op ((oldStr 8 hO rfl bh h82 h83 Try.underlying9 rfl rfl) _ (Same.refl _)) rfl rfl ?_
   have hle84 := Els.str_le bh h82 h83
   refine GoR.op ((op_move rfl) _) rfl rfl ?_
   obtain ⟨h85, H⟩ := H
   refine GoR.op ((op_add rfl rfl (wrap_i64 h85)) _) rfl rfl ?_
   refine GoR.op ((op_conv Try.underlying3 Try.underlying21 rfl rfl) _) rfl rfl ?_
   obtain ⟨h86, H⟩ := H
   obtain ⟨h87, H⟩ := H
   refine GoR.op ((op_convRS Try.underlying21 Try.underlying9 rfl h86 h87) _) rfl rfl ?_
   obtain ⟨h88, H⟩ := H
   refine GoR.op ((op_addS rfl rfl h88) _) rfl rfl ?_
   refine GoR.op ((op_assign rfl) _) rfl rfl ?_
   refine GoR.nil ?_
   refine Go1.seq ?_
   refine Go1.block ?_
   refine Go1.seq ?_
   refine Go1.region ?_
   refine GoR.op ((op_move rfl) _) rfl rfl ?_
   refine GoR.op ((op_not rfl) _) rfl rfl ?_
   refine GoR.op ((op_move rfl) _) rfl rfl ?_
   refine GoR.pass rfl rfl ?_
   refine GoR.pass rfl rfl ?_
   refine GoR.pass rfl rfl ?_
   refine GoR.pass rfl rfl ?_
   refine GoR.pass rfl rfl ?_
   refine GoR.pass rfl rfl ?_
   refine GoR.pass rfl rfl ?_
   refine GoR.op ((op_pickF rfl rfl rfl) _) rfl rfl ?_
   refine GoR.op ((op_assign rfl) _) rfl rfl ?_
   refine GoR.nil ?_
   refine Go1.condF rfl rfl ?_
   refine Go1.seq ?_
   refine Go1.cut [(0, .pointer (some ⟨d8, 0, none⟩)), (3, .int .i64 a0.Enum.Done), (4, .slice p2 a0.Enum.Gens.length a0.Enum.Gens.length), (5, .int .i64 (k1_12 : Int)), (7, .slice q8 r66.length q9), (8, .int .i64 (mgt m1_52 r75)), (9, .bool true), (10, .string (gstr ((ix d_40 a0.Enum.Done) ++ (chr (IntKind.i32.wrap ((97 : Int) + (k1_12 : Int))))))), (27, .slice ar aq au), (28, .int .i64 (a0.Enum.Gens.length : Int)), (29, .int .i64 (k1_12 : Int))] ⟨rfl, rfl, rfl, rfl, rfl, rfl, rfl, rfl, rfl, rfl, rfl, trivial⟩ ?_
   intro σ _
   refine Go1.region ?_
   refine GoR.op ((op_move rfl) _) rfl rfl ?_
   refine GoR.op ((op_not rfl) _) rfl rfl ?_
   refine GoR.op ((op_assign rfl) _) rfl rfl ?_
   refine GoR.nil ?_
   refine Go1.condF rfl rfl ?_
   refine Go1.seq ?_
   refine Go1.region ?_
   refine GoR.op ((op_move rfl) _) rfl rfl ?_
   refine GoR.op ((op_nilCheck rfl) _) rfl rfl ?_
   refine GoR.op ((op_fieldAddr Try.underlying72 rfl ti70 rfl (by decide)) _) rfl rfl ?_
   refine GoR.op ((oblk (i := 10) 1 hO rfl rfl Try.underlying70 rfl rfl) _ (Same.refl _)) rfl rfl ?_
   refine GoR.op ((op_move rfl) _) rfl rfl ?_
   obtain ⟨h89, H⟩ := H
   obtain ⟨h90, H⟩ := H
   refine GoR.op ((op_index Try.underlying70 ti9 rfl rfl h89 (ltn (bh.neq hO 8 rfl) h90) (bh.psome hO 8 rfl h89 h90)) _) rfl rfl ?_
   refine GoR.op ((oldStr 8 hO rfl bh h89 h90 Try.underlying9 rfl rfl) _ (Same.refl _)) rfl rfl ?_
   have hle91 := Els.str_le bh h89 h90
   by_cases h92 : (ix d_40 a0.Enum.Done) = (([] : Str))
   ·replace H := ifp h92 H
    refine GoR.op ((fun w => opB (op_neqS rfl rfl w) (ndT h92)) _) rfl rfl ?_
    refine GoR.op ((op_move rfl) _) rfl rfl ?_
    refine GoR.pass rfl rfl ?_
    refine GoR.pass rfl rfl ?_
    refine GoR.pass rfl rfl ?_
    refine GoR.pass rfl rfl ?_
    refine GoR.pass rfl rfl ?_
    refine GoR.pass rfl rfl ?_
    refine GoR.pass rfl rfl ?_
    refine GoR.pass rfl rfl ?_
    refine GoR.pass rfl rfl ?_
    refine GoR.pass rfl rfl ?_
    refine GoR.op ((op_pickF rfl rfl rfl) _) rfl rfl ?_
    refine GoR.op ((op_assign rfl) _) rfl rfl ?_
    refine GoR.nil ?_
    refine Go1.condF rfl rfl ?_
    refine Go1.skip ?_
    refine Go1.inBlock ?_
    refine Go1.cut [(0, .pointer (some ⟨d8, 0, none⟩)), (3, .int .i64 a0.Enum.Done), (4, .slice p2 a0.Enum.Gens.length a0.Enum.Gens.length), (5, .int .i64 (k1_12 : Int)), (8, .int .i64 (mgt m1_52 r75)), (27, .slice ar aq au), (28, .int .i64 (a0.Enum.Gens.length : Int)), (29, .int .i64 (k1_12 : Int))] ⟨rfl, rfl, rfl, rfl, rfl, rfl, rfl, rfl, trivial⟩ ?_
    intro σ _
    refine Go1.region ?_
    refine GoR.op ((op_move rfl) _) rfl rfl ?_
    refine GoR.op ((op_move rfl) _) rfl rfl ?_
    refine GoR.op ((op_move rfl) _) rfl rfl ?_
    obtain ⟨h93, H⟩ := H
    obtain ⟨h94, H⟩ := H
    refine GoR.op ((op_index Try.underlying26 ti3 rfl rfl h93 (ltn (ce.neq hO 0 rfl) h94) (ce.psome hO 0 rfl h93 h94)) _) rfl rfl ?_
    have hobt := ost (r := Rp.int .i64) rfl 0 hO rfl ce h93 h94 (v := .int .i64 (mgt m1_52 r75)) (u := (mgt m1_52 r75)) rfl rfl
    obtain ⟨w95, Ik, gu, Cw, Fb⟩ := hobt
    dsimp only [sS, sZ] at gu Cw
    refine GoR.op (Fb Try.underlying3 rfl ti3 (by exact rfl) (by exact rfl)) rfl rfl ?_
    replace aa := aa.ch gu.ch
    replace dl := dl.ch gu.ch
    replace cL := cL.ch gu.ch
    replace cB := cB.ch gu.ch
    replace ab := ab.ch gu.ch
    replace ci := ci.ch gu.ch
    replace bh := bh.ch gu.ch
    replace aZ := aZ.ch gu.ch
    replace ad := ad.ch gu.ch
    replace hO := gu.own
    replace cr := cr.ch gu.ch
    replace ct := ct.ch gu.ch
    replace bQ := bQ.ch gu.ch
    replace hB := hB.trans gu.fr
    refine GoR.nil ?_
    refine Go1.inBlock ?_
    refine Go1.region ?_
    refine GoR.op ((op_add rfl rfl (wrap_i64 (natbd h53 aa.bd))) _) rfl rfl ?_
    refine GoR.op ((op_move rfl) _) rfl rfl ?_
    refine GoR.nil ?_
    exact hX1 _ H _ _ ⟨Ik, n21, p19, c20, mt, n27, p25, c26, ne, n33, p31, c32, nf, n39, p37, c38, ng, n45, p43, c44, e8, n51, p49, c50, e9, ⟨rfl, rfl, rfl, rfl, rfl, rfl, trivial⟩, hO, Cw, aa, dl, cL, cB, ab, ci, bh, aZ, ad, hB⟩
   replace H := ifn h92 H
   refine GoR.op ((fun w => opB (op_neqS rfl rfl w) (ndF h92)) _) rfl rfl ?_
   refine GoR.op ((op_move rfl) _) rfl rfl ?_
   refine GoR.op ((op_move rfl) _) rfl rfl ?_
   refine GoR.op ((op_move rfl) _) rfl rfl ?_
   refine GoR.op ((op_nilCheck rfl) _) rfl rfl ?_
   refine GoR.op ((op_fieldAddr Try.underlying72 rfl ti26 rfl (by decide)) _) rfl rfl ?_
   refine GoR.op ((oblk (i := 11) 1 hO rfl rfl Try.underlying26 rfl rfl) _ (Same.refl _)) rfl rfl ?_
   refine GoR.op ((op_move rfl) _) rfl rfl ?_
   obtain ⟨u6, H⟩ := H
   obtain ⟨tG, H⟩ := H
   refine GoR.op ((op_index Try.underlying26 ti3 rfl rfl u6 (ltn (aZ.neq hO 9 rfl) tG) (aZ.psome hO 9 rfl u6 tG)) _) rfl rfl ?_
   refine GoR.op ((oldInt 9 hO rfl aZ u6 tG Try.underlying3 rfl rfl) _ (Same.refl _)) rfl rfl ?_
   refine GoR.op ((op_move rfl) _) rfl rfl ?_
   refine GoR.inl (vs := [.pointer (some ⟨d8, 0, none⟩), .int .i64 (ix d_46 a0.Enum.Done), .int .i64 (k1_12 : Int)]) (caps := []) rfl rfl body67 Try.func67 rfl Try.ntmps67 rfl rfl rfl ?_
   intro RhR102 hR102
   refine Go1.seq ?_
   refine Go1.region ?_
   refine GoR.op ((op_assign rfl) _) rfl rfl ?_
   refine GoR.nil ?_
   refine Go1.seq ?_
   refine Go1.cut [(0, .pointer (some ⟨d8, 0, none⟩)), (1, .int .i64 (ix d_46 a0.Enum.Done)), (2, .int .i64 (k1_12 : Int))] ⟨rfl, rfl, rfl, trivial⟩ ?_
   intro σ _
   refine Go1.region ?_
   refine GoR.op ((op_move rfl) _) rfl rfl ?_
   refine GoR.op ((op_move rfl) _) rfl rfl ?_
   refine GoR.op ((op_move rfl) _) rfl rfl ?_
   refine GoR.inl (vs := [.pointer (some ⟨d8, 0, none⟩), .int .i64 (ix d_46 a0.Enum.Done), .int .i64 (k1_12 : Int)]) (caps := []) rfl rfl body66 Try.func66 rfl Try.ntmps66 rfl rfl rfl ?_
   intro RhR103 hR103
   refine Go1.seq ?_
   refine Go1.region ?_
   refine GoR.op ((op_assign rfl) _) rfl rfl ?_
   refine GoR.nil ?_
   refine Go1.seq ?_
   refine Go1.seq ?_
   refine Go1.region ?_
   refine GoR.op ((op_move rfl) _) rfl rfl ?_
   by_cases u7 : (ix d_46 a0.Enum.Done) = (-1 : Int)
   ·replace H := ifp u7 H
    refine GoR.op ((fun w => opB (op_eql rfl rfl w) (decide_eq_true u7)) _) rfl rfl ?_
    refine GoR.nil ?_
    refine Go1.condT rfl rfl ?_
    refine Go1.seq ?_
    refine Go1.region ?_
    refine GoR.op ((op_move rfl) _) rfl rfl ?_
    refine GoR.op ((op_nilCheck rfl) _) rfl rfl ?_
    refine GoR.op ((op_fieldAddr Try.underlying72 rfl ti26 rfl (by decide)) _) rfl rfl ?_
    refine GoR.op ((oblk (i := 12) 1 hO rfl rfl Try.underlying26 rfl rfl) _ (Same.refl _)) rfl rfl ?_
    refine GoR.op ((op_move rfl) _) rfl rfl ?_
    obtain ⟨z8, H⟩ := H
    obtain ⟨z9, H⟩ := H
    refine GoR.op ((op_index Try.underlying26 ti3 rfl rfl z8 (ltn (ad.neq hO 10 rfl) z9) (ad.psome hO 10 rfl z8 z9)) _) rfl rfl ?_
    refine GoR.op ((oldInt 10 hO rfl ad z8 z9 Try.underlying3 rfl rfl) _ (Same.refl _)) rfl rfl ?_
    refine GoR.op ((op_assign rfl) _) rfl rfl ?_
    refine GoR.nil ?_
    refine Go1.ret1V Try.func66 rfl (show _ = .int .i64 (ix a0.single (k1_12 : Int)) from rfl) ?_
    refine hR103 _ _ ?_
    refine GoR.op ((op_assign rfl) _) rfl rfl ?_
    refine GoR.nil ?_
    refine Go1.seq ?_
    refine Go1.region ?_
    refine GoR.op ((op_move rfl) _) rfl rfl ?_
    refine GoR.op ((op_nilCheck rfl) _) rfl rfl ?_
    refine GoR.op ((op_fieldAddr Try.underlying72 rfl ti29 rfl (by decide)) _) rfl rfl ?_
    refine GoR.op ((op_fieldAddr Try.underlying29 rfl ti26 rfl (by decide)) _) rfl rfl ?_
    refine GoR.op ((oblk (i := 4) 1 hO rfl rfl Try.underlying26 rfl rfl) _ (Same.refl _)) rfl rfl ?_
    refine GoR.op ((op_move rfl) _) rfl rfl ?_
    obtain ⟨Aa, H⟩ := H
    obtain ⟨u9, H⟩ := H
    refine GoR.op ((op_index Try.underlying26 ti3 rfl rfl Aa (ltn (cL.neq hO 4 rfl) u9) (cL.psome hO 4 rfl Aa u9)) _) rfl rfl ?_
    refine GoR.op ((oldInt 4 hO rfl cL Aa u9 Try.underlying3 rfl rfl) _ (Same.refl _)) rfl rfl ?_
    refine GoR.op ((op_move rfl) _) rfl rfl ?_
    by_cases va : (ix d_22 (ix a0.single (k1_12 : Int))) = (ix d_46 a0.Enum.Done)
    ·replace H := ifp va H
     refine GoR.op ((fun w => opB (op_eql rfl rfl w) (decide_eq_true va)) _) rfl rfl ?_
     refine GoR.op ((op_move rfl) _) rfl rfl ?_
     refine GoR.op ((op_move rfl) _) rfl rfl ?_
     refine GoR.op ((op_nilCheck rfl) _) rfl rfl ?_
     refine GoR.op ((op_fieldAddr Try.underlying72 rfl ti29 rfl (by decide)) _) rfl rfl ?_
     refine GoR.op ((op_fieldAddr Try.underlying29 rfl ti26 rfl (by decide)) _) rfl rfl ?_
     refine GoR.op ((oblk (i := 5) 1 hO rfl rfl Try.underlying26 rfl rfl) _ (Same.refl _)) rfl rfl ?_
     refine GoR.op ((op_move rfl) _) rfl rfl ?_
     obtain ⟨v7, H⟩ := H
     obtain ⟨Ab, H⟩ := H
     refine GoR.op ((op_index Try.underlying26 ti3 rfl rfl v7 (ltn (cB.neq hO 5 rfl) Ab) (cB.psome hO 5 rfl v7 Ab)) _) rfl rfl ?_
     refine GoR.op ((oldInt 5 hO rfl cB v7 Ab Try.underlying3 rfl rfl) _ (Same.refl _)) rfl rfl ?_
     refine GoR.op ((op_move rfl) _) rfl rfl ?_
     by_cases yU : (ix d_28 (ix a0.single (k1_12 : Int))) = (k1_12 : Int)
     ·replace H := ifp yU H
      refine GoR.op ((fun w => opB (op_eql rfl rfl w) (decide_eq_true yU)) _) rfl rfl ?_
      refine GoR.op ((op_pickT rfl rfl rfl) _) rfl rfl ?_
      refine GoR.op ((op_assign rfl) _) rfl rfl ?_
      refine GoR.nil ?_
      refine Go1.ret1V Try.func67 rfl (show _ = .bool true from rfl) ?_
      refine hR102 _ _ ?_
      refine GoR.op ((op_pickT rfl rfl rfl) _) rfl rfl ?_
      refine GoR.op ((op_assign rfl) _) rfl rfl ?_
      refine GoR.nil ?_
      refine Go1.condT rfl rfl ?_
      refine Go1.cut [(0, .pointer (some ⟨d8, 0, none⟩)), (3, .int .i64 a0.Enum.Done), (4, .slice p2 a0.Enum.Gens.length a0.Enum.Gens.length), (5, .int .i64 (k1_12 : Int)), (8, .int .i64 (mgt m1_52 r75)), (10, .string (gstr ((ix d_40 a0.Enum.Done) ++ (chr (IntKind.i32.wrap ((97 : Int) + (k1_12 : Int))))))), (27, .slice ar aq au), (28, .int .i64 (a0.Enum.Gens.length : Int)), (29, .int .i64 (k1_12 : Int))] ⟨rfl, rfl, rfl, rfl, rfl, rfl, rfl, rfl, rfl, trivial⟩ ?_
      intro σ _
      refine Go1.drawS 5 [(0, .pure), (1, .pure), (2, .pure), (3, .pure), (4, .pure), (5, .stable), (6, .pure), (7, .pure), (8, .pure), (9, .pure), (10, .stable), (11, .pure), (12, .pure), (13, .stable), (14, .pure), (15, .loud), (16, .last), (17, .pure), (18, .pure), (19, .pure), (20, .last)] mixed (by kernel_rfl) ?_
      intro LI Fc
      have nh := Stp.same hO Fc
      replace ce := ce.ch nh.ch
      replace aa := aa.ch nh.ch
      replace dl := dl.ch nh.ch
      replace cL := cL.ch nh.ch
      replace cB := cB.ch nh.ch
      replace ab := ab.ch nh.ch
      replace ci := ci.ch nh.ch
      replace bh := bh.ch nh.ch
      replace aZ := aZ.ch nh.ch
      replace ad := ad.ch nh.ch
      replace hO := nh.own
      replace cr := cr.ch nh.ch
      replace ct := ct.ch nh.ch
      replace bQ := bQ.ch nh.ch
      replace hB := hB.trans nh.fr
      refine GoQ.pure rfl (op_move rfl) rfl rfl ?_
      refine GoQ.pure rfl (op_move rfl) rfl rfl ?_
      refine GoQ.pure rfl (op_nilCheck rfl) rfl rfl ?_
      refine GoQ.pure rfl (op_fieldAddr Try.underlying72 rfl ti29 rfl (by decide)) rfl rfl ?_
      refine GoQ.pure rfl (op_fieldAddr Try.underlying29 rfl ti27 rfl (by decide)) rfl rfl ?_
      refine GoQ.stable rfl (oblk (i := 7) 1 hO rfl rfl Try.underlying27 rfl rfl) rfl rfl ?_
      refine GoQ.pure rfl (op_move rfl) rfl rfl ?_
      refine GoQ.pure rfl (op_move rfl) rfl rfl ?_
      refine GoQ.pure rfl (op_nilCheck rfl) rfl rfl ?_
      refine GoQ.pure rfl (op_fieldAddr Try.underlying72 rfl ti70 rfl (by decide)) rfl rfl ?_
      refine GoQ.stable rfl (oblk (i := 10) 1 hO rfl rfl Try.underlying70 rfl rfl) rfl rfl ?_
      refine GoQ.pure rfl (op_move rfl) rfl rfl ?_
      obtain ⟨uE, H⟩ := H
      obtain ⟨yV, H⟩ := H
      refine GoQ.pure rfl (op_index Try.underlying70 ti9 rfl rfl uE (ltn (bh.neq hO 8 rfl) yV) (bh.psome hO 8 rfl uE yV)) rfl rfl ?_
      refine GoQ.stable rfl (oldStr 8 hO rfl bh uE yV Try.underlying9 rfl rfl) rfl rfl ?_
      have hle118 := Els.str_le bh uE yV
      refine GoQ.pure rfl (op_build Try.underlying39 ti39 (pl := [(0, 1), (1, 1)]) (vs := [(0, .string (gstr ((ix d_40 a0.Enum.Done) ++ (chr (IntKind.i32.wrap ((97 : Int) + (k1_12 : Int))))))), (1, .string (gstr (ix d_40 (mgt m1_52 r75))))]) (cs := #[.string (gstr ((ix d_40 a0.Enum.Done) ++ (chr (IntKind.i32.wrap ((97 : Int) + (k1_12 : Int)))))), .string (gstr (ix d_40 (mgt m1_52 r75)))]) (by kernel_rfl) rfl (by kernel_rfl)) rfl rfl ?_
      have hobt := obuildN (r := rpRule) (n := 1) (parts := [(0, .agg #[.string (gstr ((ix d_40 a0.Enum.Done) ++ (chr (IntKind.i32.wrap ((97 : Int) + (k1_12 : Int)))))), .string (gstr (ix d_40 (mgt m1_52 r75)))])]) (vs := [.string (gstr ((ix d_40 a0.Enum.Done) ++ (chr (IntKind.i32.wrap ((97 : Int) + (k1_12 : Int)))))), .string (gstr (ix d_40 (mgt m1_52 r75)))]) (xs := [(⟨(ix d_40 a0.Enum.Done) ++ (chr (IntKind.i32.wrap ((97 : Int) + (k1_12 : Int)))), ix d_40 (mgt m1_52 r75)⟩ : Rule)]) Try.underlying27 ti39 hO (by decide) (by decide) (by kernel_rfl) (Els.flat1 (⟨(ix d_40 a0.Enum.Done) ++ (chr (IntKind.i32.wrap ((97 : Int) + (k1_12 : Int)))), ix d_40 (mgt m1_52 r75)⟩ : Rule) ⟨(lenApp h88), hle118⟩) rfl
      obtain ⟨LJ, jg, ni, Fd, Fe, Cx⟩ := hobt
      refine GoQ.loud rfl (Cx rfl) Fe rfl rfl ?_
      replace ce := ce.ch ni.ch
      replace aa := aa.ch ni.ch
      replace dl := dl.ch ni.ch
      replace cL := cL.ch ni.ch
      replace cB := cB.ch ni.ch
      replace ab := ab.ch ni.ch
      replace ci := ci.ch ni.ch
      replace bh := bh.ch ni.ch
      replace aZ := aZ.ch ni.ch
      replace ad := ad.ch ni.ch
      replace hO := ni.own
      replace cr := cr.ch ni.ch
      replace ct := ct.ch ni.ch
      replace bQ := bQ.ch ni.ch
      replace hB := hB.trans ni.fr
      have hobt := freeze 0 hO rfl Fd
      obtain ⟨hO1, qC, t9, Ff⟩ := hobt
      dsimp only [eS, eZ] at hO1 qC t9
      replace cr := cr.ch qC
      replace ct := ct.ch qC
      replace bQ := bQ.ch qC
      replace ce := ce.ch qC
      replace aa := aa.ch qC
      replace dl := dl.ch qC
      replace cL := cL.ch qC
      replace cB := cB.ch qC
      replace ab := ab.ch qC
      replace ci := ci.ch qC
      replace bh := bh.ch qC
      replace aZ := aZ.ch qC
      replace ad := ad.ch qC
      replace hB := hB.trans (Owns.dropFr _ _ 0)
      dsimp only [eS, eZ] at hB
      replace hO := hO1; clear hO1
      obtain ⟨Il, H⟩ := H
      have hobt := oapp Try.underlying27 ti39 rfl 7 hO rfl ci t9 Ff Il (by decide)
      obtain ⟨LK, Ac, Ad, Fg, mE, vw, Cy⟩ := hobt
      dsimp only [sS, sZ] at mE vw
      refine GoQ.last rfl (Cy (by exact rfl) (by exact rfl)) rfl rfl ?_
      replace ce := ce.ch mE.ch
      replace aa := aa.ch mE.ch
      replace dl := dl.ch mE.ch
      replace cL := cL.ch mE.ch
      replace cB := cB.ch mE.ch
      replace ab := ab.ch mE.ch
      replace bh := bh.ch mE.ch
      replace aZ := aZ.ch mE.ch
      replace ad := ad.ch mE.ch
      replace hO := mE.own
      replace cr := cr.ch mE.ch
      replace ct := ct.ch mE.ch
      replace bQ := bQ.ch mE.ch
      replace t9 := t9.ch mE.ch
      replace hB := hB.trans mE.fr
      refine GoQ.pure rfl (op_nilCheck rfl) rfl rfl ?_
      refine GoQ.pure rfl (op_fieldAddr Try.underlying72 rfl ti29 rfl (by decide)) rfl rfl ?_
      refine GoQ.pure rfl (op_fieldAddr Try.underlying29 rfl ti27 rfl (by decide)) rfl rfl ?_
      have hobt := oblkSt2 (v := .slice Ac (n39 + 1) Ad) (i := 7) (cs' := #[.int .i64 a0.Enum.Points, .bool a0.Enum.Monoid, .slice ar aq au, .slice p19 n21 c20, .slice p25 n27 c26, .slice p31 n33 c32, .slice aU aK aV, .slice Ac (n39 + 1) Ad, .int .i64 a0.Enum.Done, .map (some aW), .slice p43 n45 c44, .slice p49 n51 c50, .slice bK bI bM]) 1 hO rfl rfl rfl rfl
      obtain ⟨LM, lH, Cz⟩ := hobt
      dsimp only [sS, sZ] at lH
      refine GoQ.last rfl (Cz Try.underlying27 rfl ti27 (by exact rfl) (by exact rfl)) rfl rfl ?_
      replace ce := ce.ch lH.ch
      replace aa := aa.ch lH.ch
      replace dl := dl.ch lH.ch
      replace cL := cL.ch lH.ch
      replace cB := cB.ch lH.ch
      replace ab := ab.ch lH.ch
      replace vw := vw.ch lH.ch
      replace bh := bh.ch lH.ch
      replace aZ := aZ.ch lH.ch
      replace ad := ad.ch lH.ch
      replace hO := lH.own
      replace cr := cr.ch lH.ch
      replace ct := ct.ch lH.ch
      replace bQ := bQ.ch lH.ch
      replace t9 := t9.ch lH.ch
      replace hB := hB.trans lH.fr
      refine GoQ.nil ?_
      refine Go1.inBlock ?_
      refine Go1.cut [(0, .pointer (some ⟨d8, 0, none⟩)), (3, .int .i64 a0.Enum.Done), (4, .slice p2 a0.Enum.Gens.length a0.Enum.Gens.length), (5, .int .i64 (k1_12 : Int)), (8, .int .i64 (mgt m1_52 r75)), (27, .slice ar aq au), (28, .int .i64 (a0.Enum.Gens.length : Int)), (29, .int .i64 (k1_12 : Int))] ⟨rfl, rfl, rfl, rfl, rfl, rfl, rfl, rfl, trivial⟩ ?_
      intro σ _
      refine Go1.region ?_
      refine GoR.op ((op_move rfl) _) rfl rfl ?_
      refine GoR.op ((op_move rfl) _) rfl rfl ?_
      refine GoR.op ((op_move rfl) _) rfl rfl ?_
      obtain ⟨Ae, H⟩ := H
      obtain ⟨Af, H⟩ := H
      refine GoR.op ((op_index Try.underlying26 ti3 rfl rfl Ae (ltn (ce.neq hO 0 rfl) Af) (ce.psome hO 0 rfl Ae Af)) _) rfl rfl ?_
      have hobt := ost (r := Rp.int .i64) rfl 0 hO rfl ce Ae Af (v := .int .i64 (mgt m1_52 r75)) (u := (mgt m1_52 r75)) rfl rfl
      obtain ⟨LN, Fh, mF, AX, CA⟩ := hobt
      dsimp only [sS, sZ] at mF AX
      refine GoR.op (CA Try.underlying3 rfl ti3 (by exact rfl) (by exact rfl)) rfl rfl ?_
      replace aa := aa.ch mF.ch
      replace dl := dl.ch mF.ch
      replace cL := cL.ch mF.ch
      replace cB := cB.ch mF.ch
      replace ab := ab.ch mF.ch
      replace vw := vw.ch mF.ch
      replace bh := bh.ch mF.ch
      replace aZ := aZ.ch mF.ch
      replace ad := ad.ch mF.ch
      replace hO := mF.own
      replace cr := cr.ch mF.ch
      replace ct := ct.ch mF.ch
      replace bQ := bQ.ch mF.ch
      replace t9 := t9.ch mF.ch
      replace hB := hB.trans mF.fr
      refine GoR.nil ?_
      refine Go1.inBlock ?_
      refine Go1.region ?_
      refine GoR.op ((op_add rfl rfl (wrap_i64 (natbd h53 aa.bd))) _) rfl rfl ?_
      refine GoR.op ((op_move rfl) _) rfl rfl ?_
      refine GoR.nil ?_
      exact hX1 _ H _ _ ⟨Fh, n21, p19, c20, mt, n27, p25, c26, ne, n33, p31, c32, nf, n39 + 1, Ac, Ad, Fg, n45, p43, c44, e8, n51, p49, c50, e9, ⟨rfl, rfl, rfl, rfl, rfl, rfl, trivial⟩, hO, AX, aa, dl, cL, cB, ab, vw, bh, aZ, ad, hB⟩
     replace H := ifn yU H
     refine GoR.op ((fun w => opB (op_eql rfl rfl w) (decide_eq_false yU)) _) rfl rfl ?_
     refine GoR.op ((op_pickT rfl rfl rfl) _) rfl rfl ?_
     refine GoR.op ((op_assign rfl) _) rfl rfl ?_
     refine GoR.nil ?_
     refine Go1.ret1V Try.func67 rfl (show _ = .bool false from rfl) ?_
     refine hR102 _ _ ?_
     refine GoR.op ((op_pickT rfl rfl rfl) _) rfl rfl ?_
     refine GoR.op ((op_assign rfl) _) rfl rfl ?_
     refine GoR.nil ?_
     refine Go1.condF rfl rfl ?_
     refine Go1.skip ?_
     refine Go1.inBlock ?_
     refine Go1.region ?_
     refine GoR.op ((op_move rfl) _) rfl rfl ?_
     refine GoR.op ((op_move rfl) _) rfl rfl ?_
     refine GoR.op ((op_move rfl) _) rfl rfl ?_
     obtain ⟨Ag, H⟩ := H
     obtain ⟨Ah, H⟩ := H
     refine GoR.op ((op_index Try.underlying26 ti3 rfl rfl Ag (ltn (ce.neq hO 0 rfl) Ah) (ce.psome hO 0 rfl Ag Ah)) _) rfl rfl ?_
     have hobt := ost (r := Rp.int .i64) rfl 0 hO rfl ce Ag Ah (v := .int .i64 (mgt m1_52 r75)) (u := (mgt m1_52 r75)) rfl rfl
     obtain ⟨LO, Fi, nj, AY, CB⟩ := hobt
     dsimp only [sS, sZ] at nj AY
     refine GoR.op (CB Try.underlying3 rfl ti3 (by exact rfl) (by exact rfl)) rfl rfl ?_
     replace aa := aa.ch nj.ch
     replace dl := dl.ch nj.ch
     replace cL := cL.ch nj.ch
     replace cB := cB.ch nj.ch
     replace ab := ab.ch nj.ch
     replace ci := ci.ch nj.ch
     replace bh := bh.ch nj.ch
     replace aZ := aZ.ch nj.ch
     replace ad := ad.ch nj.ch
     replace hO := nj.own
     replace cr := cr.ch nj.ch
     replace ct := ct.ch nj.ch
     replace bQ := bQ.ch nj.ch
     replace hB := hB.trans nj.fr
     refine GoR.nil ?_
     refine Go1.inBlock ?_
     refine Go1.region ?_
     refine GoR.op ((op_add rfl rfl (wrap_i64 (natbd h53 aa.bd))) _) rfl rfl ?_
     refine GoR.op ((op_move rfl) _) rfl rfl ?_
     refine GoR.nil ?_
     exact hX1 _ H _ _ ⟨Fi, n21, p19, c20, mt, n27, p25, c26, ne, n33, p31, c32, nf, n39, p37, c38, ng, n45, p43, c44, e8, n51, p49, c50, e9, ⟨rfl, rfl, rfl, rfl, rfl, rfl, trivial⟩, hO, AY, aa, dl, cL, cB, ab, ci, bh, aZ, ad, hB⟩
    replace H := ifn va H
    refine GoR.op ((fun w => opB (op_eql rfl rfl w) (decide_eq_false va)) _) rfl rfl ?_
    refine GoR.op ((op_move rfl) _) rfl rfl ?_
    refine GoR.pass rfl rfl ?_
    refine GoR.pass rfl rfl ?_
    refine GoR.pass rfl rfl ?_
    refine GoR.pass rfl rfl ?_
    refine GoR.pass rfl rfl ?_
    refine GoR.pass rfl rfl ?_
    refine GoR.pass rfl rfl ?_
    refine GoR.pass rfl rfl ?_
    refine GoR.pass rfl rfl ?_
    refine GoR.pass rfl rfl ?_
    refine GoR.op ((op_pickF rfl rfl rfl) _) rfl rfl ?_
    refine GoR.op ((op_assign rfl) _) rfl rfl ?_
    refine GoR.nil ?_
    refine Go1.ret1V Try.func67 rfl (show _ = .bool false from rfl) ?_
    refine hR102 _ _ ?_
    refine GoR.op ((op_pickT rfl rfl rfl) _) rfl rfl ?_
    refine GoR.op ((op_assign rfl) _) rfl rfl ?_
    refine GoR.nil ?_
    refine Go1.condF rfl rfl ?_
    refine Go1.skip ?_
    refine Go1.inBlock ?_
    refine Go1.cut [(0, .pointer (some ⟨d8, 0, none⟩)), (3, .int .i64 a0.Enum.Done), (4, .slice p2 a0.Enum.Gens.length a0.Enum.Gens.length), (5, .int .i64 (k1_12 : Int)), (8, .int .i64 (mgt m1_52 r75)), (27, .slice ar aq au), (28, .int .i64 (a0.Enum.Gens.length : Int)), (29, .int .i64 (k1_12 : Int))] ⟨rfl, rfl, rfl, rfl, rfl, rfl, rfl, rfl, trivial⟩ ?_
    intro σ _
    refine Go1.region ?_
    refine GoR.op ((op_move rfl) _) rfl rfl ?_
    refine GoR.op ((op_move rfl) _) rfl rfl ?_
    refine GoR.op ((op_move rfl) _) rfl rfl ?_
    obtain ⟨vT, H⟩ := H
    obtain ⟨vU, H⟩ := H
    refine GoR.op ((op_index Try.underlying26 ti3 rfl rfl vT (ltn (ce.neq hO 0 rfl) vU) (ce.psome hO 0 rfl vT vU)) _) rfl rfl ?_
    have hobt := ost (r := Rp.int .i64) rfl 0 hO rfl ce vT vU (v := .int .i64 (mgt m1_52 r75)) (u := (mgt m1_52 r75)) rfl rfl
    obtain ⟨LP, Fj, nk, AZ, CC⟩ := hobt
    dsimp only [sS, sZ] at nk AZ
    refine GoR.op (CC Try.underlying3 rfl ti3 (by exact rfl) (by exact rfl)) rfl rfl ?_
    replace aa := aa.ch nk.ch
    replace dl := dl.ch nk.ch
    replace cL := cL.ch nk.ch
    replace cB := cB.ch nk.ch
    replace ab := ab.ch nk.ch
    replace ci := ci.ch nk.ch
    replace bh := bh.ch nk.ch
    replace aZ := aZ.ch nk.ch
    replace ad := ad.ch nk.ch
    replace hO := nk.own
    replace cr := cr.ch nk.ch
    replace ct := ct.ch nk.ch
    replace bQ := bQ.ch nk.ch
    replace hB := hB.trans nk.fr
    refine GoR.nil ?_
    refine Go1.inBlock ?_
    refine Go1.region ?_
    refine GoR.op ((op_add rfl rfl (wrap_i64 (natbd h53 aa.bd))) _) rfl rfl ?_
    refine GoR.op ((op_move rfl) _) rfl rfl ?_
    refine GoR.nil ?_
    exact hX1 _ H _ _ ⟨Fj, n21, p19, c20, mt, n27, p25, c26, ne, n33, p31, c32, nf, n39, p37, c38, ng, n45, p43, c44, e8, n51, p49, c50, e9, ⟨rfl, rfl, rfl, rfl, rfl, rfl, trivial⟩, hO, AZ, aa, dl, cL, cB, ab, ci, bh, aZ, ad, hB⟩
   replace H := ifn u7 H
   refine GoR.op ((fun w => opB (op_eql rfl rfl w) (decide_eq_false u7)) _) rfl rfl ?_
   refine GoR.nil ?_
   refine Go1.condF rfl rfl ?_
   refine Go1.skip ?_
   refine Go1.seq ?_
   refine Go1.region ?_
   refine GoR.op ((op_move rfl) _) rfl rfl ?_
   refine GoR.op ((op_nilCheck rfl) _) rfl rfl ?_
   refine GoR.op ((op_fieldAddr Try.underlying72 rfl ti29 rfl (by decide)) _) rfl rfl ?_
   refine GoR.op ((op_fieldAddr Try.underlying29 rfl ti22 rfl (by decide)) _) rfl rfl ?_
   refine GoR.op ((oblk (i := 6) 1 hO rfl rfl Try.underlying22 rfl rfl) _ (Same.refl _)) rfl rfl ?_
   refine GoR.op ((op_move rfl) _) rfl rfl ?_
   obtain ⟨xT, H⟩ := H
   obtain ⟨xU, H⟩ := H
   refine GoR.op ((op_index Try.underlying22 ti26 rfl rfl xT (ltn (ab.neq hO 6 rfl) xU) (ab.psome hO 6 rfl xT xU)) _) rfl rfl ?_
   have hobt := oldSl 6 hO rfl ab xT xU
   obtain ⟨LQ, LS, ns, Fk⟩ := hobt
   refine GoR.op ((Fk Try.underlying26 rfl rfl) _ (Same.refl _)) rfl rfl ?_
   refine GoR.op ((op_move rfl) _) rfl rfl ?_
   obtain ⟨vb, H⟩ := H
   obtain ⟨Ai, H⟩ := H
   refine GoR.op ((op_index Try.underlying26 ti3 rfl rfl vb Ai (ns.some_ vb Ai)) _) rfl rfl ?_
   refine GoR.op ((ldInt ns vb Ai Try.underlying3 rfl rfl) _ (Same.refl _)) rfl rfl ?_
   refine GoR.op ((op_assign rfl) _) rfl rfl ?_
   refine GoR.nil ?_
   refine Go1.ret1V Try.func66 rfl (show _ = .int .i64 (ix (ix a0.Enum.Right (ix d_46 a0.Enum.Done)) (k1_12 : Int)) from rfl) ?_
   refine hR103 _ _ ?_
   refine GoR.op ((op_assign rfl) _) rfl rfl ?_
   refine GoR.nil ?_
   refine Go1.seq ?_
   refine Go1.cut [(0, .pointer (some ⟨d8, 0, none⟩)), (1, .int .i64 (ix d_46 a0.Enum.Done)), (2, .int .i64 (k1_12 : Int)), (7, .int .i64 (ix (ix a0.Enum.Right (ix d_46 a0.Enum.Done)) (k1_12 : Int)))] ⟨rfl, rfl, rfl, rfl, trivial⟩ ?_
   intro σ _
   refine Go1.region ?_
   refine GoR.op ((op_move rfl) _) rfl rfl ?_
   refine GoR.op ((op_nilCheck rfl) _) rfl rfl ?_
   refine GoR.op ((op_fieldAddr Try.underlying72 rfl ti29 rfl (by decide)) _) rfl rfl ?_
   refine GoR.op ((op_fieldAddr Try.underlying29 rfl ti26 rfl (by decide)) _) rfl rfl ?_
   refine GoR.op ((oblk (i := 4) 1 hO rfl rfl Try.underlying26 rfl rfl) _ (Same.refl _)) rfl rfl ?_
   refine GoR.op ((op_move rfl) _) rfl rfl ?_
   obtain ⟨Aj, H⟩ := H
   obtain ⟨Ak, H⟩ := H
   refine GoR.op ((op_index Try.underlying26 ti3 rfl rfl Aj (ltn (cL.neq hO 4 rfl) Ak) (cL.psome hO 4 rfl Aj Ak)) _) rfl rfl ?_
   refine GoR.op ((oldInt 4 hO rfl cL Aj Ak Try.underlying3 rfl rfl) _ (Same.refl _)) rfl rfl ?_
   refine GoR.op ((op_move rfl) _) rfl rfl ?_
   by_cases yW : (ix d_22 (ix (ix a0.Enum.Right (ix d_46 a0.Enum.Done)) (k1_12 : Int))) = (ix d_46 a0.Enum.Done)
   ·replace H := ifp yW H
    refine GoR.op ((fun w => opB (op_eql rfl rfl w) (decide_eq_true yW)) _) rfl rfl ?_
    refine GoR.op ((op_move rfl) _) rfl rfl ?_
    refine GoR.op ((op_move rfl) _) rfl rfl ?_
    refine GoR.op ((op_nilCheck rfl) _) rfl rfl ?_
    refine GoR.op ((op_fieldAddr Try.underlying72 rfl ti29 rfl (by decide)) _) rfl rfl ?_
    refine GoR.op ((op_fieldAddr Try.underlying29 rfl ti26 rfl (by decide)) _) rfl rfl ?_
    refine GoR.op ((oblk (i := 5) 1 hO rfl rfl Try.underlying26 rfl rfl) _ (Same.refl _)) rfl rfl ?_
    refine GoR.op ((op_move rfl) _) rfl rfl ?_
    obtain ⟨uS, H⟩ := H
    obtain ⟨Al, H⟩ := H
    refine GoR.op ((op_index Try.underlying26 ti3 rfl rfl uS (ltn (cB.neq hO 5 rfl) Al) (cB.psome hO 5 rfl uS Al)) _) rfl rfl ?_
    refine GoR.op ((oldInt 5 hO rfl cB uS Al Try.underlying3 rfl rfl) _ (Same.refl _)) rfl rfl ?_
    refine GoR.op ((op_move rfl) _) rfl rfl ?_
    by_cases yX : (ix d_28 (ix (ix a0.Enum.Right (ix d_46 a0.Enum.Done)) (k1_12 : Int))) = (k1_12 : Int)
    ·replace H := ifp yX H
     refine GoR.op ((fun w => opB (op_eql rfl rfl w) (decide_eq_true yX)) _) rfl rfl ?_
     refine GoR.op ((op_pickT rfl rfl rfl) _) rfl rfl ?_
     refine GoR.op ((op_assign rfl) _) rfl rfl ?_
     refine GoR.nil ?_
     refine Go1.ret1V Try.func67 rfl (show _ = .bool true from rfl) ?_
     refine hR102 _ _ ?_
     refine GoR.op ((op_pickT rfl rfl rfl) _) rfl rfl ?_
     refine GoR.op ((op_assign rfl) _) rfl rfl ?_
     refine GoR.nil ?_
     refine Go1.condT rfl rfl ?_
     refine Go1.cut [(0, .pointer (some ⟨d8, 0, none⟩)), (3, .int .i64 a0.Enum.Done), (4, .slice p2 a0.Enum.Gens.length a0.Enum.Gens.length), (5, .int .i64 (k1_12 : Int)), (8, .int .i64 (mgt m1_52 r75)), (10, .string (gstr ((ix d_40 a0.Enum.Done) ++ (chr (IntKind.i32.wrap ((97 : Int) + (k1_12 : Int))))))), (27, .slice ar aq au), (28, .int .i64 (a0.Enum.Gens.length : Int)), (29, .int .i64 (k1_12 : Int))] ⟨rfl, rfl, rfl, rfl, rfl, rfl, rfl, rfl, rfl, trivial⟩ ?_
     intro σ _
     refine Go1.drawS 5 [(0, .pure), (1, .pure), (2, .pure), (3, .pure), (4, .pure), (5, .stable), (6, .pure), (7, .pure), (8, .pure), (9, .pure), (10, .stable), (11, .pure), (12, .pure), (13, .stable), (14, .pure), (15, .loud), (16, .last), (17, .pure), (18, .pure), (19, .pure), (20, .last)] mixed (by kernel_rfl) ?_
     intro Im yY
     have mG := Stp.same hO yY
     replace ce := ce.ch mG.ch
     replace aa := aa.ch mG.ch
     replace dl := dl.ch mG.ch
     replace cL := cL.ch mG.ch
     replace cB := cB.ch mG.ch
     replace ab := ab.ch mG.ch
     replace ci := ci.ch mG.ch
     replace bh := bh.ch mG.ch
     replace aZ := aZ.ch mG.ch
     replace ad := ad.ch mG.ch
     replace hO := mG.own
     replace cr := cr.ch mG.ch
     replace ct := ct.ch mG.ch
     replace bQ := bQ.ch mG.ch
     replace ns := ns.ch mG.ch
     replace hB := hB.trans mG.fr
     refine GoQ.pure rfl (op_move rfl) rfl rfl ?_
     refine GoQ.pure rfl (op_move rfl) rfl rfl ?_
     refine GoQ.pure rfl (op_nilCheck rfl) rfl rfl ?_
     refine GoQ.pure rfl (op_fieldAddr Try.underlying72 rfl ti29 rfl (by decide)) rfl rfl ?_
     refine GoQ.pure rfl (op_fieldAddr Try.underlying29 rfl ti27 rfl (by decide)) rfl rfl ?_
     refine GoQ.stable rfl (oblk (i := 7) 1 hO rfl rfl Try.underlying27 rfl rfl) rfl rfl ?_
     refine GoQ.pure rfl (op_move rfl) rfl rfl ?_
     refine GoQ.pure rfl (op_move rfl) rfl rfl ?_
     refine GoQ.pure rfl (op_nilCheck rfl) rfl rfl ?_
     refine GoQ.pure rfl (op_fieldAddr Try.underlying72 rfl ti70 rfl (by decide)) rfl rfl ?_
     refine GoQ.stable rfl (oblk (i := 10) 1 hO rfl rfl Try.underlying70 rfl rfl) rfl rfl ?_
     refine GoQ.pure rfl (op_move rfl) rfl rfl ?_
     obtain ⟨yZ, H⟩ := H
     obtain ⟨y3, H⟩ := H
     refine GoQ.pure rfl (op_index Try.underlying70 ti9 rfl rfl yZ (ltn (bh.neq hO 8 rfl) y3) (bh.psome hO 8 rfl yZ y3)) rfl rfl ?_
     refine GoQ.stable rfl (oldStr 8 hO rfl bh yZ y3 Try.underlying9 rfl rfl) rfl rfl ?_
     have hle181 := Els.str_le bh yZ y3
     refine GoQ.pure rfl (op_build Try.underlying39 ti39 (pl := [(0, 1), (1, 1)]) (vs := [(0, .string (gstr ((ix d_40 a0.Enum.Done) ++ (chr (IntKind.i32.wrap ((97 : Int) + (k1_12 : Int))))))), (1, .string (gstr (ix d_40 (mgt m1_52 r75))))]) (cs := #[.string (gstr ((ix d_40 a0.Enum.Done) ++ (chr (IntKind.i32.wrap ((97 : Int) + (k1_12 : Int)))))), .string (gstr (ix d_40 (mgt m1_52 r75)))]) (by kernel_rfl) rfl (by kernel_rfl)) rfl rfl ?_
     have hobt := obuildN (r := rpRule) (n := 1) (parts := [(0, .agg #[.string (gstr ((ix d_40 a0.Enum.Done) ++ (chr (IntKind.i32.wrap ((97 : Int) + (k1_12 : Int)))))), .string (gstr (ix d_40 (mgt m1_52 r75)))])]) (vs := [.string (gstr ((ix d_40 a0.Enum.Done) ++ (chr (IntKind.i32.wrap ((97 : Int) + (k1_12 : Int)))))), .string (gstr (ix d_40 (mgt m1_52 r75)))]) (xs := [(⟨(ix d_40 a0.Enum.Done) ++ (chr (IntKind.i32.wrap ((97 : Int) + (k1_12 : Int)))), ix d_40 (mgt m1_52 r75)⟩ : Rule)]) Try.underlying27 ti39 hO (by decide) (by decide) (by kernel_rfl) (Els.flat1 (⟨(ix d_40 a0.Enum.Done) ++ (chr (IntKind.i32.wrap ((97 : Int) + (k1_12 : Int)))), ix d_40 (mgt m1_52 r75)⟩ : Rule) ⟨(lenApp h88), hle181⟩) rfl
     obtain ⟨LT, LU, mH, Fm, y4, CD⟩ := hobt
     refine GoQ.loud rfl (CD rfl) y4 rfl rfl ?_
     replace ce := ce.ch mH.ch
     replace aa := aa.ch mH.ch
     replace dl := dl.ch mH.ch
     replace cL := cL.ch mH.ch
     replace cB := cB.ch mH.ch
     replace ab := ab.ch mH.ch
     replace ci := ci.ch mH.ch
     replace bh := bh.ch mH.ch
     replace aZ := aZ.ch mH.ch
     replace ad := ad.ch mH.ch
     replace hO := mH.own
     replace cr := cr.ch mH.ch
     replace ct := ct.ch mH.ch
     replace bQ := bQ.ch mH.ch
     replace ns := ns.ch mH.ch
     replace hB := hB.trans mH.fr
     have hobt := freeze 0 hO rfl Fm
     obtain ⟨hO1, o7, ua, Fn⟩ := hobt
     dsimp only [eS, eZ] at hO1 o7 ua
     replace cr := cr.ch o7
     replace ct := ct.ch o7
     replace bQ := bQ.ch o7
     replace ns := ns.ch o7
     replace ce := ce.ch o7
     replace aa := aa.ch o7
     replace dl := dl.ch o7
     replace cL := cL.ch o7
     replace cB := cB.ch o7
     replace ab := ab.ch o7
     replace ci := ci.ch o7
     replace bh := bh.ch o7
     replace aZ := aZ.ch o7
     replace ad := ad.ch o7
     replace hB := hB.trans (Owns.dropFr _ _ 0)
     dsimp only [eS, eZ] at hB
     replace hO := hO1; clear hO1
     obtain ⟨Io, H⟩ := H
     have hobt := oapp Try.underlying27 ti39 rfl 7 hO rfl ci ua Fn Io (by decide)
     obtain ⟨LV, Am, Ao, Fo, lI, vy, CE⟩ := hobt
     dsimp only [sS, sZ] at lI vy
     refine GoQ.last rfl (CE (by exact rfl) (by exact rfl)) rfl rfl ?_
     replace ce := ce.ch lI.ch
     replace aa := aa.ch lI.ch
     replace dl := dl.ch lI.ch
     replace cL := cL.ch lI.ch
     replace cB := cB.ch lI.ch
     replace ab := ab.ch lI.ch
     replace bh := bh.ch lI.ch
     replace aZ := aZ.ch lI.ch
     replace ad := ad.ch lI.ch
     replace hO := lI.own
     replace cr := cr.ch lI.ch
     replace ct := ct.ch lI.ch
     replace bQ := bQ.ch lI.ch
     replace ns := ns.ch lI.ch
     replace ua := ua.ch lI.ch
     replace hB := hB.trans lI.fr
     refine GoQ.pure rfl (op_nilCheck rfl) rfl rfl ?_
     refine GoQ.pure rfl (op_fieldAddr Try.underlying72 rfl ti29 rfl (by decide)) rfl rfl ?_
     refine GoQ.pure rfl (op_fieldAddr Try.underlying29 rfl ti27 rfl (by decide)) rfl rfl ?_
     have hobt := oblkSt2 (v := .slice Am (n39 + 1) Ao) (i := 7) (cs' := #[.int .i64 a0.Enum.Points, .bool a0.Enum.Monoid, .slice ar aq au, .slice p19 n21 c20, .slice p25 n27 c26, .slice p31 n33 c32, .slice aU aK aV, .slice Am (n39 + 1) Ao, .int .i64 a0.Enum.Done, .map (some aW), .slice p43 n45 c44, .slice p49 n51 c50, .slice bK bI bM]) 1 hO rfl rfl rfl rfl
     obtain ⟨LW, lb, CF⟩ := hobt
     dsimp only [sS, sZ] at lb
     refine GoQ.last rfl (CF Try.underlying27 rfl ti27 (by exact rfl) (by exact rfl)) rfl rfl ?_
     replace ce := ce.ch lb.ch
     replace aa := aa.ch lb.ch
     replace dl := dl.ch lb.ch
     replace cL := cL.ch lb.ch
     replace cB := cB.ch lb.ch
     replace ab := ab.ch lb.ch
     replace vy := vy.ch lb.ch
     replace bh := bh.ch lb.ch
     replace aZ := aZ.ch lb.ch
     replace ad := ad.ch lb.ch
     replace hO := lb.own
     replace cr := cr.ch lb.ch
     replace ct := ct.ch lb.ch
     replace bQ := bQ.ch lb.ch
     replace ns := ns.ch lb.ch
     replace ua := ua.ch lb.ch
     replace hB := hB.trans lb.fr
     refine GoQ.nil ?_
     refine Go1.inBlock ?_
     refine Go1.cut [(0, .pointer (some ⟨d8, 0, none⟩)), (3, .int .i64 a0.Enum.Done), (4, .slice p2 a0.Enum.Gens.length a0.Enum.Gens.length), (5, .int .i64 (k1_12 : Int)), (8, .int .i64 (mgt m1_52 r75)), (27, .slice ar aq au), (28, .int .i64 (a0.Enum.Gens.length : Int)), (29, .int .i64 (k1_12 : Int))] ⟨rfl, rfl, rfl, rfl, rfl, rfl, rfl, rfl, trivial⟩ ?_
     intro σ _
     refine Go1.region ?_
     refine GoR.op ((op_move rfl) _) rfl rfl ?_
     refine GoR.op ((op_move rfl) _) rfl rfl ?_
     refine GoR.op ((op_move rfl) _) rfl rfl ?_
     obtain ⟨Ap, H⟩ := H
     obtain ⟨Aq, H⟩ := H
     refine GoR.op ((op_index Try.underlying26 ti3 rfl rfl Ap (ltn (ce.neq hO 0 rfl) Aq) (ce.psome hO 0 rfl Ap Aq)) _) rfl rfl ?_
     have hobt := ost (r := Rp.int .i64) rfl 0 hO rfl ce Ap Aq (v := .int .i64 (mgt m1_52 r75)) (u := (mgt m1_52 r75)) rfl rfl
     obtain ⟨LX, gv, lJ, A4, CG⟩ := hobt
     dsimp only [sS, sZ] at lJ A4
     refine GoR.op (CG Try.underlying3 rfl ti3 (by exact rfl) (by exact rfl)) rfl rfl ?_
     replace aa := aa.ch lJ.ch
     replace dl := dl.ch lJ.ch
     replace cL := cL.ch lJ.ch
     replace cB := cB.ch lJ.ch
     replace ab := ab.ch lJ.ch
     replace vy := vy.ch lJ.ch
     replace bh := bh.ch lJ.ch
     replace aZ := aZ.ch lJ.ch
     replace ad := ad.ch lJ.ch
     replace hO := lJ.own
     replace cr := cr.ch lJ.ch
     replace ct := ct.ch lJ.ch
     replace bQ := bQ.ch lJ.ch
     replace ns := ns.ch lJ.ch
     replace ua := ua.ch lJ.ch
     replace hB := hB.trans lJ.fr
     refine GoR.nil ?_
     refine Go1.inBlock ?_
     refine Go1.region ?_
     refine GoR.op ((op_add rfl rfl (wrap_i64 (natbd h53 aa.bd))) _) rfl rfl ?_
     refine GoR.op ((op_move rfl) _) rfl rfl ?_
     refine GoR.nil ?_
     exact hX1 _ H _ _ ⟨gv, n21, p19, c20, mt, n27, p25, c26, ne, n33, p31, c32, nf, n39 + 1, Am, Ao, Fo, n45, p43, c44, e8, n51, p49, c50, e9, ⟨rfl, rfl, rfl, rfl, rfl, rfl, trivial⟩, hO, A4, aa, dl, cL, cB, ab, vy, bh, aZ, ad, hB⟩
    replace H := ifn yX H
    refine GoR.op ((fun w => opB (op_eql rfl rfl w) (decide_eq_false yX)) _) rfl rfl ?_
    refine GoR.op ((op_pickT rfl rfl rfl) _) rfl rfl ?_
    refine GoR.op ((op_assign rfl) _) rfl rfl ?_
    refine GoR.nil ?_
    refine Go1.ret1V Try.func67 rfl (show _ = .bool false from rfl) ?_
    refine hR102 _ _ ?_
    refine GoR.op ((op_pickT rfl rfl rfl) _) rfl rfl ?_
    refine GoR.op ((op_assign rfl) _) rfl rfl ?_
    refine GoR.nil ?_
    refine Go1.condF rfl rfl ?_
    refine Go1.skip ?_
    refine Go1.inBlock ?_
    refine Go1.region ?_
    refine GoR.op ((op_move rfl) _) rfl rfl ?_
    refine GoR.op ((op_move rfl) _) rfl rfl ?_
    refine GoR.op ((op_move rfl) _) rfl rfl ?_
    obtain ⟨Ar, H⟩ := H
    obtain ⟨xV, H⟩ := H
    refine GoR.op ((op_index Try.underlying26 ti3 rfl rfl Ar (ltn (ce.neq hO 0 rfl) xV) (ce.psome hO 0 rfl Ar xV)) _) rfl rfl ?_
    have hobt := ost (r := Rp.int .i64) rfl 0 hO rfl ce Ar xV (v := .int .i64 (mgt m1_52 r75)) (u := (mgt m1_52 r75)) rfl rfl
    obtain ⟨HF, Fp, mI, A5, CH⟩ := hobt
    dsimp only [sS, sZ] at mI A5
    refine GoR.op (CH Try.underlying3 rfl ti3 (by exact rfl) (by exact rfl)) rfl rfl ?_
    replace aa := aa.ch mI.ch
    replace dl := dl.ch mI.ch
    replace cL := cL.ch mI.ch
    replace cB := cB.ch mI.ch
    replace ab := ab.ch mI.ch
    replace ci := ci.ch mI.ch
    replace bh := bh.ch mI.ch
    replace aZ := aZ.ch mI.ch
    replace ad := ad.ch mI.ch
    replace hO := mI.own
    replace cr := cr.ch mI.ch
    replace ct := ct.ch mI.ch
    replace bQ := bQ.ch mI.ch
    replace ns := ns.ch mI.ch
    replace hB := hB.trans mI.fr
    refine GoR.nil ?_
    refine Go1.inBlock ?_
    refine Go1.region ?_
    refine GoR.op ((op_add rfl rfl (wrap_i64 (natbd h53 aa.bd))) _) rfl rfl ?_
    refine GoR.op ((op_move rfl) _) rfl rfl ?_
    refine GoR.nil ?_
    exact hX1 _ H _ _ ⟨Fp, n21, p19, c20, mt, n27, p25, c26, ne, n33, p31, c32, nf, n39, p37, c38, ng, n45, p43, c44, e8, n51, p49, c50, e9, ⟨rfl, rfl, rfl, rfl, rfl, rfl, trivial⟩, hO, A5, aa, dl, cL, cB, ab, ci, bh, aZ, ad, hB⟩
   replace H := ifn yW H
   refine GoR.op ((fun w => opB (op_eql rfl rfl w) (decide_eq_false yW)) _) rfl rfl ?_
   refine GoR.op ((op_move rfl) _) rfl rfl ?_
   refine GoR.pass rfl rfl ?_
   refine GoR.pass rfl rfl ?_
   refine GoR.pass rfl rfl ?_
   refine GoR.pass rfl rfl ?_
   refine GoR.pass rfl rfl ?_
   refine GoR.pass rfl rfl ?_
   refine GoR.pass rfl rfl ?_
   refine GoR.pass rfl rfl ?_
   refine GoR.pass rfl rfl ?_
   refine GoR.pass rfl rfl ?_
   refine GoR.op ((op_pickF rfl rfl rfl) _) rfl rfl ?_
   refine GoR.op ((op_assign rfl) _) rfl rfl ?_
   refine GoR.nil ?_
   refine Go1.ret1V Try.func67 rfl (show _ = .bool false from rfl) ?_
   refine hR102 _ _ ?_
   refine GoR.op ((op_pickT rfl rfl rfl) _) rfl rfl ?_
   refine GoR.op ((op_assign rfl) _) rfl rfl ?_
   refine GoR.nil ?_
   refine Go1.condF rfl rfl ?_
   refine Go1.skip ?_
   refine Go1.inBlock ?_
   refine Go1.cut [(0, .pointer (some ⟨d8, 0, none⟩)), (3, .int .i64 a0.Enum.Done), (4, .slice p2 a0.Enum.Gens.length a0.Enum.Gens.length), (5, .int .i64 (k1_12 : Int)), (8, .int .i64 (mgt m1_52 r75)), (27, .slice ar aq au), (28, .int .i64 (a0.Enum.Gens.length : Int)), (29, .int .i64 (k1_12 : Int))] ⟨rfl, rfl, rfl, rfl, rfl, rfl, rfl, rfl, trivial⟩ ?_
   intro σ _
   refine Go1.region ?_
   refine GoR.op ((op_move rfl) _) rfl rfl ?_
   refine GoR.op ((op_move rfl) _) rfl rfl ?_
   refine GoR.op ((op_move rfl) _) rfl rfl ?_
   obtain ⟨At, H⟩ := H
   obtain ⟨Au, H⟩ := H
   refine GoR.op ((op_index Try.underlying26 ti3 rfl rfl At (ltn (ce.neq hO 0 rfl) Au) (ce.psome hO 0 rfl At Au)) _) rfl rfl ?_
   have hobt := ost (r := Rp.int .i64) rfl 0 hO rfl ce At Au (v := .int .i64 (mgt m1_52 r75)) (u := (mgt m1_52 r75)) rfl rfl
   obtain ⟨LY, Fq, fY, A6, CJ⟩ := hobt
   dsimp only [sS, sZ] at fY A6
   refine GoR.op (CJ Try.underlying3 rfl ti3 (by exact rfl) (by exact rfl)) rfl rfl ?_
   replace aa := aa.ch fY.ch
   replace dl := dl.ch fY.ch
   replace cL := cL.ch fY.ch
   replace cB := cB.ch fY.ch
   replace ab := ab.ch fY.ch
   replace ci := ci.ch fY.ch
   replace bh := bh.ch fY.ch
   replace aZ := aZ.ch fY.ch
   replace ad := ad.ch fY.ch
   replace hO := fY.own
   replace cr := cr.ch fY.ch
   replace ct := ct.ch fY.ch
   replace bQ := bQ.ch fY.ch
   replace ns := ns.ch fY.ch
   replace hB := hB.trans fY.fr
   refine GoR.nil ?_
   refine Go1.inBlock ?_
   refine Go1.region ?_
   refine GoR.op ((op_add rfl rfl (wrap_i64 (natbd h53 aa.bd))) _) rfl rfl ?_
   refine GoR.op ((op_move rfl) _) rfl rfl ?_
   refine GoR.nil ?_
   exact hX1 _ H _ _ ⟨Fq, n21, p19, c20, mt, n27, p25, c26, ne, n33, p31, c32, nf, n39, p37, c38, ng, n45, p43, c44, e8, n51, p49, c50, e9, ⟨rfl, rfl, rfl, rfl, rfl, rfl, trivial⟩, hO, A6, aa, dl, cL, cB, ab, ci, bh, aZ, ad, hB⟩
  replace H := ifn h81 H
  refine GoQ.stable rfl (olookF (a := r75) (MK.str Try.underlying9) 11 hO rfl Try.underlying69 ti3 rfl rfl h81) rfl rfl ?_
  refine GoQ.pure rfl (op_move rfl) rfl rfl ?_
  refine GoQ.pure rfl (op_extract rfl rfl) rfl rfl ?_
  refine GoQ.pure rfl (op_extract rfl rfl) rfl rfl ?_
  refine GoQ.pure rfl (op_assign rfl) rfl rfl ?_
  refine GoQ.pure rfl (op_assign rfl) rfl rfl ?_
  refine GoQ.nil ?_
  refine Go1.seq ?_
  refine Go1.region ?_
  refine GoR.op ((op_move rfl) _) rfl rfl ?_
  refine GoR.op ((op_nilCheck rfl) _) rfl rfl ?_
  refine GoR.op ((op_fieldAddr Try.underlying72 rfl ti70 rfl (by decide)) _) rfl rfl ?_
  refine GoR.op ((oblk (i := 10) 1 hO rfl rfl Try.underlying70 rfl rfl) _ (Same.refl _)) rfl rfl ?_
  refine GoR.op ((op_move rfl) _) rfl rfl ?_
  obtain ⟨y5, H⟩ := H
  obtain ⟨y6, H⟩ := H
  refine GoR.op ((op_index Try.underlying70 ti9 rfl rfl y5 (ltn (bh.neq hO 8 rfl) y6) (bh.psome hO 8 rfl y5 y6)) _) rfl rfl ?_
  refine GoR.op ((oldStr 8 hO rfl bh y5 y6 Try.underlying9 rfl rfl) _ (Same.refl _)) rfl rfl ?_
  have hle227 := Els.str_le bh y5 y6
  refine GoR.op ((op_move rfl) _) rfl rfl ?_
  obtain ⟨Ip, H⟩ := H
  refine GoR.op ((op_add rfl rfl (wrap_i64 Ip)) _) rfl rfl ?_
  refine GoR.op ((op_conv Try.underlying3 Try.underlying21 rfl rfl) _) rfl rfl ?_
  obtain ⟨Iq, H⟩ := H
  obtain ⟨Ir, H⟩ := H
  refine GoR.op ((op_convRS Try.underlying21 Try.underlying9 rfl Iq Ir) _) rfl rfl ?_
  obtain ⟨Aw, H⟩ := H
  refine GoR.op ((op_addS rfl rfl Aw) _) rfl rfl ?_
  refine GoR.op ((op_assign rfl) _) rfl rfl ?_
  refine GoR.nil ?_
  refine Go1.seq ?_
  refine Go1.block ?_
  refine Go1.seq ?_
  refine Go1.cut [(0, .pointer (some ⟨d8, 0, none⟩)), (3, .int .i64 a0.Enum.Done), (4, .slice p2 a0.Enum.Gens.length a0.Enum.Gens.length), (5, .int .i64 (k1_12 : Int)), (7, .slice q8 r66.length q9), (8, .int .i64 (0 : Int)), (9, .bool false), (10, .string (gstr ((ix d_40 a0.Enum.Done) ++ (chr (IntKind.i32.wrap ((97 : Int) + (k1_12 : Int))))))), (27, .slice ar aq au), (28, .int .i64 (a0.Enum.Gens.length : Int)), (29, .int .i64 (k1_12 : Int))] ⟨rfl, rfl, rfl, rfl, rfl, rfl, rfl, rfl, rfl, rfl, rfl, trivial⟩ ?_
  intro σ _
  refine Go1.region ?_
  refine GoR.op ((op_move rfl) _) rfl rfl ?_
  refine GoR.op ((op_not rfl) _) rfl rfl ?_
  refine GoR.op ((op_move rfl) _) rfl rfl ?_
  refine GoR.op ((op_move rfl) _) rfl rfl ?_
  refine GoR.op ((op_nilCheck rfl) _) rfl rfl ?_
  refine GoR.op ((op_fieldAddr Try.underlying72 rfl ti29 rfl (by decide)) _) rfl rfl ?_
  refine GoR.op ((op_fieldAddr Try.underlying29 rfl ti22 rfl (by decide)) _) rfl rfl ?_
  refine GoR.op ((oblk (i := 3) 1 hO rfl rfl Try.underlying22 rfl rfl) _ (Same.refl _)) rfl rfl ?_
  refine GoR.op ((op_lenN Try.underlying22 rfl (dl.neq hO 3 rfl)) _) rfl rfl ?_
  by_cases y7 : (d_16.length : Int) = (2000 : Int)
  ·replace H := ifp y7 H
   refine GoR.op ((fun w => opB (op_eql rfl rfl w) (decide_eq_true y7)) _) rfl rfl ?_
   refine GoR.op ((op_pickT rfl rfl rfl) _) rfl rfl ?_
   refine GoR.op ((op_assign rfl) _) rfl rfl ?_
   refine GoR.nil ?_
   refine Go1.condT rfl rfl ?_
   refine Go1.seq ?_
   refine Go1.region ?_
   refine GoR.op ((op_assign rfl) _) rfl rfl ?_
   refine GoR.nil ?_
   replace cr := cr.ch (Owns.dropCh _ _ 0)
   replace ct := ct.ch (Owns.dropCh _ _ 0)
   replace bQ := bQ.ch (Owns.dropCh _ _ 0)
   replace aa := aa.ch (Owns.dropCh _ _ 0)
   replace dl := dl.ch (Owns.dropCh _ _ 0)
   replace cL := cL.ch (Owns.dropCh _ _ 0)
   replace cB := cB.ch (Owns.dropCh _ _ 0)
   replace ab := ab.ch (Owns.dropCh _ _ 0)
   replace ci := ci.ch (Owns.dropCh _ _ 0)
   replace bh := bh.ch (Owns.dropCh _ _ 0)
   replace aZ := aZ.ch (Owns.dropCh _ _ 0)
   replace ad := ad.ch (Owns.dropCh _ _ 0)
   replace hB := hB.trans (Owns.dropFr _ _ 0)
   replace hO := hO.drop 0
   dsimp only [eS, eZ] at hB hO cr ct bQ aa dl cL cB ab ci bh aZ ad
   refine Go1.ret1 Try.func51 rfl ?_
   exact ⟨((3 : Int)), (⟨(⟨a0.Enum.Points, a0.Enum.Monoid, a0.Enum.Gens, d_16, d_22, d_28, a0.Enum.Right, d_34, a0.Enum.Done⟩ : Enum), m1_52, d_40, d_46, a0.single⟩ : run), aq, ar, au, cP, n21, p19, c20, mt, n27, p25, c26, ne, n33, p31, c32, nf, aK, aU, aV, cK, n39, p37, c38, ng, n45, p43, c44, e8, n51, p49, c50, e9, bI, bK, bM, dr, rfl, hO, aa, dl, cL, cB, ab, ci, bh, aZ, ad, hB, H⟩
  replace H := ifn y7 H
  refine GoR.op ((fun w => opB (op_eql rfl rfl w) (decide_eq_false y7)) _) rfl rfl ?_
  refine GoR.op ((op_pickT rfl rfl rfl) _) rfl rfl ?_
  refine GoR.op ((op_assign rfl) _) rfl rfl ?_
  refine GoR.nil ?_
  refine Go1.condF rfl rfl ?_
  refine Go1.seq ?_
  refine Go1.region ?_
  refine GoR.op ((op_move rfl) _) rfl rfl ?_
  refine GoR.op ((op_not rfl) _) rfl rfl ?_
  refine GoR.op ((op_assign rfl) _) rfl rfl ?_
  refine GoR.nil ?_
  refine Go1.condT rfl rfl ?_
  refine Go1.region ?_
  refine GoR.op ((op_move rfl) _) rfl rfl ?_
  refine GoR.op ((op_move rfl) _) rfl rfl ?_
  refine GoR.op ((op_move rfl) _) rfl rfl ?_
  refine GoR.op ((op_move rfl) _) rfl rfl ?_
  refine GoR.op ((op_move rfl) _) rfl rfl ?_
  refine GoR.op ((op_move rfl) _) rfl rfl ?_
  refine GoR.op ((op_move rfl) _) rfl rfl ?_
  refine GoR.op ((op_nilCheck rfl) _) rfl rfl ?_
  refine GoR.op ((op_fieldAddr Try.underlying72 rfl ti26 rfl (by decide)) _) rfl rfl ?_
  refine GoR.op ((oblk (i := 11) 1 hO rfl rfl Try.underlying26 rfl rfl) _ (Same.refl _)) rfl rfl ?_
  refine GoR.op ((op_move rfl) _) rfl rfl ?_
  obtain ⟨Ax, H⟩ := H
  obtain ⟨Ay, H⟩ := H
  refine GoR.op ((op_index Try.underlying26 ti3 rfl rfl Ax (ltn (aZ.neq hO 9 rfl) Ay) (aZ.psome hO 9 rfl Ax Ay)) _) rfl rfl ?_
  refine GoR.op ((oldInt 9 hO rfl aZ Ax Ay Try.underlying3 rfl rfl) _ (Same.refl _)) rfl rfl ?_
  refine GoR.op ((op_move rfl) _) rfl rfl ?_
  refine GoR.inl (vs := [.pointer (some ⟨d8, 0, none⟩), .int .i64 (ix d_46 a0.Enum.Done), .int .i64 (k1_12 : Int)]) (caps := []) rfl rfl body66 Try.func66 rfl Try.ntmps66 rfl rfl rfl ?_
  intro RhR235 hR235
  refine Go1.seq ?_
  refine Go1.cut [(0, .pointer (some ⟨d8, 0, none⟩)), (1, .int .i64 (ix d_46 a0.Enum.Done)), (2, .int .i64 (k1_12 : Int))] ⟨rfl, rfl, rfl, trivial⟩ ?_
  intro σ _
  refine Go1.region ?_
  refine GoR.op ((op_assign rfl) _) rfl rfl ?_
  refine GoR.nil ?_
  refine Go1.seq ?_
  refine Go1.seq ?_
  refine Go1.region ?_
  refine GoR.op ((op_move rfl) _) rfl rfl ?_
  by_cases y8 : (ix d_46 a0.Enum.Done) = (-1 : Int)
  ·replace H := ifp y8 H
   refine GoR.op ((fun w => opB (op_eql rfl rfl w) (decide_eq_true y8)) _) rfl rfl ?_
   refine GoR.nil ?_
   refine Go1.condT rfl rfl ?_
   refine Go1.seq ?_
   refine Go1.region ?_
   refine GoR.op ((op_move rfl) _) rfl rfl ?_
   refine GoR.op ((op_nilCheck rfl) _) rfl rfl ?_
   refine GoR.op ((op_fieldAddr Try.underlying72 rfl ti26 rfl (by decide)) _) rfl rfl ?_
   refine GoR.op ((oblk (i := 12) 1 hO rfl rfl Try.underlying26 rfl rfl) _ (Same.refl _)) rfl rfl ?_
   refine GoR.op ((op_move rfl) _) rfl rfl ?_
   obtain ⟨Az, H⟩ := H
   obtain ⟨AA, H⟩ := H
   refine GoR.op ((op_index Try.underlying26 ti3 rfl rfl Az (ltn (ad.neq hO 10 rfl) AA) (ad.psome hO 10 rfl Az AA)) _) rfl rfl ?_
   refine GoR.op ((oldInt 10 hO rfl ad Az AA Try.underlying3 rfl rfl) _ (Same.refl _)) rfl rfl ?_
   refine GoR.op ((op_assign rfl) _) rfl rfl ?_
   refine GoR.nil ?_
   refine Go1.ret1V Try.func66 rfl (show _ = .int .i64 (ix a0.single (k1_12 : Int)) from rfl) ?_
   refine hR235 _ _ ?_
   refine GoR.inl (vs := [.pointer (some ⟨d8, 0, none⟩), .slice q8 r66.length q9, .int .i64 a0.Enum.Done, .int .i64 (k1_12 : Int), .string (gstr ((ix d_40 a0.Enum.Done) ++ (chr (IntKind.i32.wrap ((97 : Int) + (k1_12 : Int)))))), .int .i64 (ix a0.single (k1_12 : Int))]) (caps := []) rfl rfl body65 Try.func65 rfl Try.ntmps65 rfl rfl rfl ?_
   intro RhR239 hR239
   refine Go1.seq ?_
   refine Go1.region ?_
   refine GoR.op ((op_assign rfl) _) rfl rfl ?_
   refine GoR.nil ?_
   refine Go1.seq ?_
   refine Go1.region ?_
   refine GoR.op ((op_move rfl) _) rfl rfl ?_
   refine GoR.op ((op_nilCheck rfl) _) rfl rfl ?_
   refine GoR.op ((op_fieldAddr Try.underlying72 rfl ti29 rfl (by decide)) _) rfl rfl ?_
   refine GoR.op ((op_fieldAddr Try.underlying29 rfl ti22 rfl (by decide)) _) rfl rfl ?_
   refine GoR.op ((oblk (i := 3) 1 hO rfl rfl Try.underlying22 rfl rfl) _ (Same.refl _)) rfl rfl ?_
   refine GoR.op ((op_lenN Try.underlying22 rfl (dl.neq hO 3 rfl)) _) rfl rfl ?_
   refine GoR.op ((op_assign rfl) _) rfl rfl ?_
   refine GoR.nil ?_
   refine Go1.seq ?_
   refine Go1.cut [(0, .pointer (some ⟨d8, 0, none⟩)), (1, .slice q8 r66.length q9), (2, .int .i64 a0.Enum.Done), (3, .int .i64 (k1_12 : Int)), (4, .string (gstr ((ix d_40 a0.Enum.Done) ++ (chr (IntKind.i32.wrap ((97 : Int) + (k1_12 : Int))))))), (5, .int .i64 (ix a0.single (k1_12 : Int))), (13, .int .i64 (d_16.length : Int))] ⟨rfl, rfl, rfl, rfl, rfl, rfl, rfl, trivial⟩ ?_
   intro σ _
   refine Go1.drawS 1 [(0, .pure), (1, .pure), (2, .pure), (3, .stable), (4, .pure), (6, .pure), (5, .loud), (7, .last)] mixed (by kernel_rfl) ?_
   intro HG yG
   have nl := Stp.same hO yG
   replace ce := ce.ch nl.ch
   replace aa := aa.ch nl.ch
   replace dl := dl.ch nl.ch
   replace cL := cL.ch nl.ch
   replace cB := cB.ch nl.ch
   replace ab := ab.ch nl.ch
   replace ci := ci.ch nl.ch
   replace bh := bh.ch nl.ch
   replace aZ := aZ.ch nl.ch
   replace ad := ad.ch nl.ch
   replace hO := nl.own
   replace cr := cr.ch nl.ch
   replace ct := ct.ch nl.ch
   replace bQ := bQ.ch nl.ch
   replace hB := hB.trans nl.fr
   refine GoQ.pure rfl (op_move rfl) rfl rfl ?_
   refine GoQ.pure rfl (op_nilCheck rfl) rfl rfl ?_
   refine GoQ.pure rfl (op_fieldAddr Try.underlying72 rfl ti69 rfl (by decide)) rfl rfl ?_
   refine GoQ.stable rfl (oblk (i := 9) 1 hO rfl rfl Try.underlying69 rfl rfl) rfl rfl ?_
   refine GoQ.pure rfl (op_move rfl) rfl rfl ?_
   refine GoQ.pure rfl (op_move rfl) rfl rfl ?_
   refine GoQ.call rfl (op_call body61 rfl (walk_enumerate_text hO.lt bQ H)) (fun v w hr => by obtain ⟨_, _, hs, _, _⟩ := hr; assumption) rfl rfl ?_
   rintro LZ L1 ⟨r243, rfl, Fs, Jo, H⟩
   have nm := Stp.same hO Fs
   replace ce := ce.ch nm.ch
   replace aa := aa.ch nm.ch
   replace dl := dl.ch nm.ch
   replace cL := cL.ch nm.ch
   replace cB := cB.ch nm.ch
   replace ab := ab.ch nm.ch
   replace ci := ci.ch nm.ch
   replace bh := bh.ch nm.ch
   replace aZ := aZ.ch nm.ch
   replace ad := ad.ch nm.ch
   replace hO := nm.own
   replace cr := cr.ch nm.ch
   replace ct := ct.ch nm.ch
   replace bQ := bQ.ch nm.ch
   replace hB := hB.trans nm.fr
   have hobt := omapUpd (MK.str Try.underlying9) 11 hO rfl Try.underlying69 r243 (d_16.length : Int)
   obtain ⟨L5, mJ, CK⟩ := hobt
   dsimp only [sS, sZ] at mJ
   refine GoQ.last rfl (CK (by exact rfl) (by exact rfl) (by exact rfl)) rfl rfl ?_
   replace ce := ce.ch mJ.ch
   replace aa := aa.ch mJ.ch
   replace dl := dl.ch mJ.ch
   replace cL := cL.ch mJ.ch
   replace cB := cB.ch mJ.ch
   replace ab := ab.ch mJ.ch
   replace ci := ci.ch mJ.ch
   replace bh := bh.ch mJ.ch
   replace aZ := aZ.ch mJ.ch
   replace ad := ad.ch mJ.ch
   replace hO := mJ.own
   replace cr := cr.ch mJ.ch
   replace ct := ct.ch mJ.ch
   replace bQ := bQ.ch mJ.ch
   replace hB := hB.trans mJ.fr
   refine GoQ.nil ?_
   refine Go1.seq ?_
   refine Go1.region ?_
   refine GoR.op ((op_move rfl) _) rfl rfl ?_
   refine GoR.op ((op_move rfl) _) rfl rfl ?_
   refine GoR.op ((op_nilCheck rfl) _) rfl rfl ?_
   refine GoR.op ((op_fieldAddr Try.underlying72 rfl ti29 rfl (by decide)) _) rfl rfl ?_
   refine GoR.op ((op_fieldAddr Try.underlying29 rfl ti22 rfl (by decide)) _) rfl rfl ?_
   refine GoR.op ((oblk (i := 3) 1 hO rfl rfl Try.underlying22 rfl rfl) _ (Same.refl _)) rfl rfl ?_
   refine GoR.op ((op_move rfl) _) rfl rfl ?_
   have hobt := obuild (r := Rp.sl (Rp.int .i64)) (n := 1) (parts := [(0, .slice q8 r66.length q9)]) (vs := [.slice q8 r66.length q9]) (xs := [r66]) rfl Try.underlying22 ti26 hO (by decide) (by kernel_rfl) (Els.cons rfl ⟨q8, q9, rfl, bQ⟩ (Els.nil _ _ _) (by simp [mx])) rfl
   obtain ⟨L6, L7, np, Ft, JR, CM⟩ := hobt
   refine GoR.op (CM rfl) rfl rfl ?_
   replace ce := ce.ch np.ch
   replace aa := aa.ch np.ch
   replace dl := dl.ch np.ch
   replace cL := cL.ch np.ch
   replace cB := cB.ch np.ch
   replace ab := ab.ch np.ch
   replace ci := ci.ch np.ch
   replace bh := bh.ch np.ch
   replace aZ := aZ.ch np.ch
   replace ad := ad.ch np.ch
   replace hO := np.own
   replace cr := cr.ch np.ch
   replace ct := ct.ch np.ch
   replace bQ := bQ.ch np.ch
   replace hB := hB.trans np.fr
   have hobt := freeze 0 hO rfl Ft
   obtain ⟨hO1, qD, fO, Fu⟩ := hobt
   dsimp only [eS, eZ] at hO1 qD fO
   replace cr := cr.ch qD
   replace ct := ct.ch qD
   replace bQ := bQ.ch qD
   replace ce := ce.ch qD
   replace aa := aa.ch qD
   replace dl := dl.ch qD
   replace cL := cL.ch qD
   replace cB := cB.ch qD
   replace ab := ab.ch qD
   replace ci := ci.ch qD
   replace bh := bh.ch qD
   replace aZ := aZ.ch qD
   replace ad := ad.ch qD
   replace hB := hB.trans (Owns.dropFr _ _ 0)
   dsimp only [eS, eZ] at hB
   replace hO := hO1; clear hO1
   obtain ⟨It, H⟩ := H
   have hobt := oapp Try.underlying22 ti26 rfl 3 hO rfl dl fO Fu It (by decide)
   obtain ⟨L8, v8, wa, Fv, mK, fW, CO⟩ := hobt
   dsimp only [sS, sZ] at mK fW
   refine GoR.op (CO (by exact rfl) (by exact rfl)) rfl rfl ?_
   replace ce := ce.ch mK.ch
   replace aa := aa.ch mK.ch
   replace cL := cL.ch mK.ch
   replace cB := cB.ch mK.ch
   replace ab := ab.ch mK.ch
   replace ci := ci.ch mK.ch
   replace bh := bh.ch mK.ch
   replace aZ := aZ.ch mK.ch
   replace ad := ad.ch mK.ch
   replace hO := mK.own
   replace cr := cr.ch mK.ch
   replace ct := ct.ch mK.ch
   replace bQ := bQ.ch mK.ch
   replace fO := fO.ch mK.ch
   replace hB := hB.trans mK.fr
   refine GoR.op ((op_nilCheck rfl) _) rfl rfl ?_
   refine GoR.op ((op_fieldAddr Try.underlying72 rfl ti29 rfl (by decide)) _) rfl rfl ?_
   refine GoR.op ((op_fieldAddr Try.underlying29 rfl ti22 rfl (by decide)) _) rfl rfl ?_
   have hobt := oblkSt2 (v := .slice v8 (n21 + 1) wa) (i := 3) (cs' := #[.int .i64 a0.Enum.Points, .bool a0.Enum.Monoid, .slice ar aq au, .slice v8 (n21 + 1) wa, .slice p25 n27 c26, .slice p31 n33 c32, .slice aU aK aV, .slice p37 n39 c38, .int .i64 a0.Enum.Done, .map (some aW), .slice p43 n45 c44, .slice p49 n51 c50, .slice bK bI bM]) 1 hO rfl rfl rfl rfl
   obtain ⟨L9, lK, CP⟩ := hobt
   dsimp only [sS, sZ] at lK
   refine GoR.op (CP Try.underlying22 rfl ti22 (by exact rfl) (by exact rfl)) rfl rfl ?_
   replace ce := ce.ch lK.ch
   replace aa := aa.ch lK.ch
   replace fW := fW.ch lK.ch
   replace cL := cL.ch lK.ch
   replace cB := cB.ch lK.ch
   replace ab := ab.ch lK.ch
   replace ci := ci.ch lK.ch
   replace bh := bh.ch lK.ch
   replace aZ := aZ.ch lK.ch
   replace ad := ad.ch lK.ch
   replace hO := lK.own
   replace cr := cr.ch lK.ch
   replace ct := ct.ch lK.ch
   replace bQ := bQ.ch lK.ch
   replace fO := fO.ch lK.ch
   replace hB := hB.trans lK.fr
   refine GoR.nil ?_
   refine Go1.seq ?_
   refine Go1.cut [(0, .pointer (some ⟨d8, 0, none⟩)), (2, .int .i64 a0.Enum.Done), (3, .int .i64 (k1_12 : Int)), (4, .string (gstr ((ix d_40 a0.Enum.Done) ++ (chr (IntKind.i32.wrap ((97 : Int) + (k1_12 : Int))))))), (5, .int .i64 (ix a0.single (k1_12 : Int))), (13, .int .i64 (d_16.length : Int))] ⟨rfl, rfl, rfl, rfl, rfl, rfl, trivial⟩ ?_
   intro σ _
   refine Go1.region ?_
   refine GoR.op ((op_move rfl) _) rfl rfl ?_
   refine GoR.op ((op_move rfl) _) rfl rfl ?_
   refine GoR.op ((op_nilCheck rfl) _) rfl rfl ?_
   refine GoR.op ((op_fieldAddr Try.underlying72 rfl ti29 rfl (by decide)) _) rfl rfl ?_
   refine GoR.op ((op_fieldAddr Try.underlying29 rfl ti26 rfl (by decide)) _) rfl rfl ?_
   refine GoR.op ((oblk (i := 4) 1 hO rfl rfl Try.underlying26 rfl rfl) _ (Same.refl _)) rfl rfl ?_
   refine GoR.op ((op_move rfl) _) rfl rfl ?_
   have hobt := obuild (r := Rp.int .i64) (n := 1) (parts := [(0, .int .i64 a0.Enum.Done)]) (vs := [.int .i64 a0.Enum.Done]) (xs := [a0.Enum.Done]) rfl Try.underlying26 ti3 hO (by decide) (by kernel_rfl) (Els.cons rfl rfl (Els.nil _ _ _) (by simp [mx])) rfl
   obtain ⟨Ma, Mb, mM, Fw, JS, CQ⟩ := hobt
   refine GoR.op (CQ rfl) rfl rfl ?_
   replace ce := ce.ch mM.ch
   replace aa := aa.ch mM.ch
   replace fW := fW.ch mM.ch
   replace cL := cL.ch mM.ch
   replace cB := cB.ch mM.ch
   replace ab := ab.ch mM.ch
   replace ci := ci.ch mM.ch
   replace bh := bh.ch mM.ch
   replace aZ := aZ.ch mM.ch
   replace ad := ad.ch mM.ch
   replace hO := mM.own
   replace cr := cr.ch mM.ch
   replace ct := ct.ch mM.ch
   replace bQ := bQ.ch mM.ch
   replace fO := fO.ch mM.ch
   replace hB := hB.trans mM.fr
   have hobt := freeze 0 hO rfl Fw
   obtain ⟨hO1, o8, g0, Fx⟩ := hobt
   dsimp only [eS, eZ] at hO1 o8 g0
   replace cr := cr.ch o8
   replace ct := ct.ch o8
   replace bQ := bQ.ch o8
   replace fO := fO.ch o8
   replace ce := ce.ch o8
   replace aa := aa.ch o8
   replace fW := fW.ch o8
   replace cL := cL.ch o8
   replace cB := cB.ch o8
   replace ab := ab.ch o8
   replace ci := ci.ch o8
   replace bh := bh.ch o8
   replace aZ := aZ.ch o8
   replace ad := ad.ch o8
   replace hB := hB.trans (Owns.dropFr _ _ 0)
   dsimp only [eS, eZ] at hB
   replace hO := hO1; clear hO1
   obtain ⟨Iu, H⟩ := H
   have hobt := oapp Try.underlying26 ti3 rfl 4 hO rfl cL g0 Fx Iu (by decide)
   obtain ⟨Mc, xb, xc, Fy, lL, iJ, CR⟩ := hobt
   dsimp only [sS, sZ] at lL iJ
   refine GoR.op (CR (by exact rfl) (by exact rfl)) rfl rfl ?_
   replace ce := ce.ch lL.ch
   replace aa := aa.ch lL.ch
   replace fW := fW.ch lL.ch
   replace cB := cB.ch lL.ch
   replace ab := ab.ch lL.ch
   replace ci := ci.ch lL.ch
   replace bh := bh.ch lL.ch
   replace aZ := aZ.ch lL.ch
   replace ad := ad.ch lL.ch
   replace hO := lL.own
   replace cr := cr.ch lL.ch
   replace ct := ct.ch lL.ch
   replace bQ := bQ.ch lL.ch
   replace fO := fO.ch lL.ch
   replace g0 := g0.ch lL.ch
   replace hB := hB.trans lL.fr
   refine GoR.op ((op_nilCheck rfl) _) rfl rfl ?_
   refine GoR.op ((op_fieldAddr Try.underlying72 rfl ti29 rfl (by decide)) _) rfl rfl ?_
   refine GoR.op ((op_fieldAddr Try.underlying29 rfl ti26 rfl (by decide)) _) rfl rfl ?_
   have hobt := oblkSt2 (v := .slice xb (n27 + 1) xc) (i := 4) (cs' := #[.int .i64 a0.Enum.Points, .bool a0.Enum.Monoid, .slice ar aq au, .slice v8 (n21 + 1) wa, .slice xb (n27 + 1) xc, .slice p31 n33 c32, .slice aU aK aV, .slice p37 n39 c38, .int .i64 a0.Enum.Done, .map (some aW), .slice p43 n45 c44, .slice p49 n51 c50, .slice bK bI bM]) 1 hO rfl rfl rfl rfl
   obtain ⟨Me, ld, CT⟩ := hobt
   dsimp only [sS, sZ] at ld
   refine GoR.op (CT Try.underlying26 rfl ti26 (by exact rfl) (by exact rfl)) rfl rfl ?_
   replace ce := ce.ch ld.ch
   replace aa := aa.ch ld.ch
   replace fW := fW.ch ld.ch
   replace iJ := iJ.ch ld.ch
   replace cB := cB.ch ld.ch
   replace ab := ab.ch ld.ch
   replace ci := ci.ch ld.ch
   replace bh := bh.ch ld.ch
   replace aZ := aZ.ch ld.ch
   replace ad := ad.ch ld.ch
   replace hO := ld.own
   replace cr := cr.ch ld.ch
   replace ct := ct.ch ld.ch
   replace bQ := bQ.ch ld.ch
   replace fO := fO.ch ld.ch
   replace g0 := g0.ch ld.ch
   replace hB := hB.trans ld.fr
   refine GoR.nil ?_
   refine Go1.seq ?_
   refine Go1.region ?_
   refine GoR.op ((op_move rfl) _) rfl rfl ?_
   refine GoR.op ((op_move rfl) _) rfl rfl ?_
   refine GoR.op ((op_nilCheck rfl) _) rfl rfl ?_
   refine GoR.op ((op_fieldAddr Try.underlying72 rfl ti29 rfl (by decide)) _) rfl rfl ?_
   refine GoR.op ((op_fieldAddr Try.underlying29 rfl ti26 rfl (by decide)) _) rfl rfl ?_
   refine GoR.op ((oblk (i := 5) 1 hO rfl rfl Try.underlying26 rfl rfl) _ (Same.refl _)) rfl rfl ?_
   refine GoR.op ((op_move rfl) _) rfl rfl ?_
   have hobt := obuild (r := Rp.int .i64) (n := 1) (parts := [(0, .int .i64 (k1_12 : Int))]) (vs := [.int .i64 (k1_12 : Int)]) (xs := [(k1_12 : Int)]) rfl Try.underlying26 ti3 hO (by decide) (by kernel_rfl) (Els.cons rfl rfl (Els.nil _ _ _) (by simp [mx])) rfl
   obtain ⟨Mf, Mg, lM, Fz, A7, CU⟩ := hobt
   refine GoR.op (CU rfl) rfl rfl ?_
   replace ce := ce.ch lM.ch
   replace aa := aa.ch lM.ch
   replace fW := fW.ch lM.ch
   replace iJ := iJ.ch lM.ch
   replace cB := cB.ch lM.ch
   replace ab := ab.ch lM.ch
   replace ci := ci.ch lM.ch
   replace bh := bh.ch lM.ch
   replace aZ := aZ.ch lM.ch
   replace ad := ad.ch lM.ch
   replace hO := lM.own
   replace cr := cr.ch lM.ch
   replace ct := ct.ch lM.ch
   replace bQ := bQ.ch lM.ch
   replace fO := fO.ch lM.ch
   replace g0 := g0.ch lM.ch
   replace hB := hB.trans lM.fr
   have hobt := freeze 0 hO rfl Fz
   obtain ⟨hO1, n7, j6, FA⟩ := hobt
   dsimp only [eS, eZ] at hO1 n7 j6
   replace cr := cr.ch n7
   replace ct := ct.ch n7
   replace bQ := bQ.ch n7
   replace fO := fO.ch n7
   replace g0 := g0.ch n7
   replace ce := ce.ch n7
   replace aa := aa.ch n7
   replace fW := fW.ch n7
   replace iJ := iJ.ch n7
   replace cB := cB.ch n7
   replace ab := ab.ch n7
   replace ci := ci.ch n7
   replace bh := bh.ch n7
   replace aZ := aZ.ch n7
   replace ad := ad.ch n7
   replace hB := hB.trans (Owns.dropFr _ _ 0)
   dsimp only [eS, eZ] at hB
   replace hO := hO1; clear hO1
   obtain ⟨Iv, H⟩ := H
   have hobt := oapp Try.underlying26 ti3 rfl 5 hO rfl cB j6 FA Iv (by decide)
   obtain ⟨Mh, x4, x5, FB, lg, kW, CV⟩ := hobt
   dsimp only [sS, sZ] at lg kW
   refine GoR.op (CV (by exact rfl) (by exact rfl)) rfl rfl ?_
   replace ce := ce.ch lg.ch
   replace aa := aa.ch lg.ch
   replace fW := fW.ch lg.ch
   replace iJ := iJ.ch lg.ch
   replace ab := ab.ch lg.ch
   replace ci := ci.ch lg.ch
   replace bh := bh.ch lg.ch
   replace aZ := aZ.ch lg.ch
   replace ad := ad.ch lg.ch
   replace hO := lg.own
   replace cr := cr.ch lg.ch
   replace ct := ct.ch lg.ch
   replace bQ := bQ.ch lg.ch
   replace fO := fO.ch lg.ch
   replace g0 := g0.ch lg.ch
   replace j6 := j6.ch lg.ch
   replace hB := hB.trans lg.fr
   refine GoR.op ((op_nilCheck rfl) _) rfl rfl ?_
   refine GoR.op ((op_fieldAddr Try.underlying72 rfl ti29 rfl (by decide)) _) rfl rfl ?_
   refine GoR.op ((op_fieldAddr Try.underlying29 rfl ti26 rfl (by decide)) _) rfl rfl ?_
   have hobt := oblkSt2 (v := .slice x4 (n33 + 1) x5) (i := 5) (cs' := #[.int .i64 a0.Enum.Points, .bool a0.Enum.Monoid, .slice ar aq au, .slice v8 (n21 + 1) wa, .slice xb (n27 + 1) xc, .slice x4 (n33 + 1) x5, .slice aU aK aV, .slice p37 n39 c38, .int .i64 a0.Enum.Done, .map (some aW), .slice p43 n45 c44, .slice p49 n51 c50, .slice bK bI bM]) 1 hO rfl rfl rfl rfl
   obtain ⟨Mi, kt, CW⟩ := hobt
   dsimp only [sS, sZ] at kt
   refine GoR.op (CW Try.underlying26 rfl ti26 (by exact rfl) (by exact rfl)) rfl rfl ?_
   replace ce := ce.ch kt.ch
   replace aa := aa.ch kt.ch
   replace fW := fW.ch kt.ch
   replace iJ := iJ.ch kt.ch
   replace kW := kW.ch kt.ch
   replace ab := ab.ch kt.ch
   replace ci := ci.ch kt.ch
   replace bh := bh.ch kt.ch
   replace aZ := aZ.ch kt.ch
   replace ad := ad.ch kt.ch
   replace hO := kt.own
   replace cr := cr.ch kt.ch
   replace ct := ct.ch kt.ch
   replace bQ := bQ.ch kt.ch
   replace fO := fO.ch kt.ch
   replace g0 := g0.ch kt.ch
   replace j6 := j6.ch kt.ch
   replace hB := hB.trans kt.fr
   refine GoR.nil ?_
   refine Go1.seq ?_
   refine Go1.cut [(0, .pointer (some ⟨d8, 0, none⟩)), (4, .string (gstr ((ix d_40 a0.Enum.Done) ++ (chr (IntKind.i32.wrap ((97 : Int) + (k1_12 : Int))))))), (5, .int .i64 (ix a0.single (k1_12 : Int))), (13, .int .i64 (d_16.length : Int))] ⟨rfl, rfl, rfl, rfl, trivial⟩ ?_
   intro σ _
   refine Go1.region ?_
   refine GoR.op ((op_move rfl) _) rfl rfl ?_
   refine GoR.op ((op_move rfl) _) rfl rfl ?_
   refine GoR.op ((op_nilCheck rfl) _) rfl rfl ?_
   refine GoR.op ((op_fieldAddr Try.underlying72 rfl ti70 rfl (by decide)) _) rfl rfl ?_
   refine GoR.op ((oblk (i := 10) 1 hO rfl rfl Try.underlying70 rfl rfl) _ (Same.refl _)) rfl rfl ?_
   refine GoR.op ((op_move rfl) _) rfl rfl ?_
   have hobt := obuild (r := Rp.str) (n := 1) (parts := [(0, .string (gstr ((ix d_40 a0.Enum.Done) ++ (chr (IntKind.i32.wrap ((97 : Int) + (k1_12 : Int)))))))]) (vs := [.string (gstr ((ix d_40 a0.Enum.Done) ++ (chr (IntKind.i32.wrap ((97 : Int) + (k1_12 : Int))))))]) (xs := [(ix d_40 a0.Enum.Done) ++ (chr (IntKind.i32.wrap ((97 : Int) + (k1_12 : Int))))]) rfl Try.underlying70 ti9 hO (by decide) (by kernel_rfl) (Els.cons rfl ⟨rfl, (lenApp Aw)⟩ (Els.nil _ _ _) (by simp [mx])) rfl
   obtain ⟨Mj, Mk, lh, FC, JT, CX⟩ := hobt
   refine GoR.op (CX rfl) rfl rfl ?_
   replace ce := ce.ch lh.ch
   replace aa := aa.ch lh.ch
   replace fW := fW.ch lh.ch
   replace iJ := iJ.ch lh.ch
   replace kW := kW.ch lh.ch
   replace ab := ab.ch lh.ch
   replace ci := ci.ch lh.ch
   replace bh := bh.ch lh.ch
   replace aZ := aZ.ch lh.ch
   replace ad := ad.ch lh.ch
   replace hO := lh.own
   replace cr := cr.ch lh.ch
   replace ct := ct.ch lh.ch
   replace bQ := bQ.ch lh.ch
   replace fO := fO.ch lh.ch
   replace g0 := g0.ch lh.ch
   replace j6 := j6.ch lh.ch
   replace hB := hB.trans lh.fr
   have hobt := freeze 0 hO rfl FC
   obtain ⟨hO1, nJ, n8, FD⟩ := hobt
   dsimp only [eS, eZ] at hO1 nJ n8
   replace cr := cr.ch nJ
   replace ct := ct.ch nJ
   replace bQ := bQ.ch nJ
   replace fO := fO.ch nJ
   replace g0 := g0.ch nJ
   replace j6 := j6.ch nJ
   replace ce := ce.ch nJ
   replace aa := aa.ch nJ
   replace fW := fW.ch nJ
   replace iJ := iJ.ch nJ
   replace kW := kW.ch nJ
   replace ab := ab.ch nJ
   replace ci := ci.ch nJ
   replace bh := bh.ch nJ
   replace aZ := aZ.ch nJ
   replace ad := ad.ch nJ
   replace hB := hB.trans (Owns.dropFr _ _ 0)
   dsimp only [eS, eZ] at hB
   replace hO := hO1; clear hO1
   obtain ⟨Iw, H⟩ := H
   have hobt := oapp Try.underlying70 ti9 rfl 8 hO rfl bh n8 FD Iw (by decide)
   obtain ⟨Ml, y9, za, FE, ku, qE, CZ⟩ := hobt
   dsimp only [sS, sZ] at ku qE
   refine GoR.op (CZ (by exact rfl) (by exact rfl)) rfl rfl ?_
   replace ce := ce.ch ku.ch
   replace aa := aa.ch ku.ch
   replace fW := fW.ch ku.ch
   replace iJ := iJ.ch ku.ch
   replace kW := kW.ch ku.ch
   replace ab := ab.ch ku.ch
   replace ci := ci.ch ku.ch
   replace aZ := aZ.ch ku.ch
   replace ad := ad.ch ku.ch
   replace hO := ku.own
   replace cr := cr.ch ku.ch
   replace ct := ct.ch ku.ch
   replace bQ := bQ.ch ku.ch
   replace fO := fO.ch ku.ch
   replace g0 := g0.ch ku.ch
   replace j6 := j6.ch ku.ch
   replace n8 := n8.ch ku.ch
   replace hB := hB.trans ku.fr
   refine GoR.op ((op_nilCheck rfl) _) rfl rfl ?_
   refine GoR.op ((op_fieldAddr Try.underlying72 rfl ti70 rfl (by decide)) _) rfl rfl ?_
   have hobt := oblkSt2 (v := .slice y9 (n45 + 1) za) (i := 10) (cs' := #[.int .i64 a0.Enum.Points, .bool a0.Enum.Monoid, .slice ar aq au, .slice v8 (n21 + 1) wa, .slice xb (n27 + 1) xc, .slice x4 (n33 + 1) x5, .slice aU aK aV, .slice p37 n39 c38, .int .i64 a0.Enum.Done, .map (some aW), .slice y9 (n45 + 1) za, .slice p49 n51 c50, .slice bK bI bM]) 1 hO rfl rfl rfl rfl
   obtain ⟨Mm, jX, C0⟩ := hobt
   dsimp only [sS, sZ] at jX
   refine GoR.op (C0 Try.underlying70 rfl ti70 (by exact rfl) (by exact rfl)) rfl rfl ?_
   replace ce := ce.ch jX.ch
   replace aa := aa.ch jX.ch
   replace fW := fW.ch jX.ch
   replace iJ := iJ.ch jX.ch
   replace kW := kW.ch jX.ch
   replace ab := ab.ch jX.ch
   replace ci := ci.ch jX.ch
   replace qE := qE.ch jX.ch
   replace aZ := aZ.ch jX.ch
   replace ad := ad.ch jX.ch
   replace hO := jX.own
   replace cr := cr.ch jX.ch
   replace ct := ct.ch jX.ch
   replace bQ := bQ.ch jX.ch
   replace fO := fO.ch jX.ch
   replace g0 := g0.ch jX.ch
   replace j6 := j6.ch jX.ch
   replace n8 := n8.ch jX.ch
   replace hB := hB.trans jX.fr
   refine GoR.nil ?_
   refine Go1.seq ?_
   refine Go1.region ?_
   refine GoR.op ((op_move rfl) _) rfl rfl ?_
   refine GoR.op ((op_move rfl) _) rfl rfl ?_
   refine GoR.op ((op_nilCheck rfl) _) rfl rfl ?_
   refine GoR.op ((op_fieldAddr Try.underlying72 rfl ti26 rfl (by decide)) _) rfl rfl ?_
   refine GoR.op ((oblk (i := 11) 1 hO rfl rfl Try.underlying26 rfl rfl) _ (Same.refl _)) rfl rfl ?_
   refine GoR.op ((op_move rfl) _) rfl rfl ?_
   have hobt := obuild (r := Rp.int .i64) (n := 1) (parts := [(0, .int .i64 (ix a0.single (k1_12 : Int)))]) (vs := [.int .i64 (ix a0.single (k1_12 : Int))]) (xs := [(ix a0.single (k1_12 : Int))]) rfl Try.underlying26 ti3 hO (by decide) (by kernel_rfl) (Els.cons rfl rfl (Els.nil _ _ _) (by simp [mx])) rfl
   obtain ⟨Mn, Mo, kw, FF, JU, C1⟩ := hobt
   refine GoR.op (C1 rfl) rfl rfl ?_
   replace ce := ce.ch kw.ch
   replace aa := aa.ch kw.ch
   replace fW := fW.ch kw.ch
   replace iJ := iJ.ch kw.ch
   replace kW := kW.ch kw.ch
   replace ab := ab.ch kw.ch
   replace ci := ci.ch kw.ch
   replace qE := qE.ch kw.ch
   replace aZ := aZ.ch kw.ch
   replace ad := ad.ch kw.ch
   replace hO := kw.own
   replace cr := cr.ch kw.ch
   replace ct := ct.ch kw.ch
   replace bQ := bQ.ch kw.ch
   replace fO := fO.ch kw.ch
   replace g0 := g0.ch kw.ch
   replace j6 := j6.ch kw.ch
   replace n8 := n8.ch kw.ch
   replace hB := hB.trans kw.fr
   have hobt := freeze 0 hO rfl FF
   obtain ⟨hO1, nt, ub, FG⟩ := hobt
   dsimp only [eS, eZ] at hO1 nt ub
   replace cr := cr.ch nt
   replace ct := ct.ch nt
   replace bQ := bQ.ch nt
   replace fO := fO.ch nt
   replace g0 := g0.ch nt
   replace j6 := j6.ch nt
   replace n8 := n8.ch nt
   replace ce := ce.ch nt
   replace aa := aa.ch nt
   replace fW := fW.ch nt
   replace iJ := iJ.ch nt
   replace kW := kW.ch nt
   replace ab := ab.ch nt
   replace ci := ci.ch nt
   replace qE := qE.ch nt
   replace aZ := aZ.ch nt
   replace ad := ad.ch nt
   replace hB := hB.trans (Owns.dropFr _ _ 0)
   dsimp only [eS, eZ] at hB
   replace hO := hO1; clear hO1
   obtain ⟨Ix, H⟩ := H
   have hobt := oapp Try.underlying26 ti3 rfl 9 hO rfl aZ ub FG Ix (by decide)
   obtain ⟨Mp, AB, AC, FH, jY, vz, C2⟩ := hobt
   dsimp only [sS, sZ] at jY vz
   refine GoR.op (C2 (by exact rfl) (by exact rfl)) rfl rfl ?_
   replace ce := ce.ch jY.ch
   replace aa := aa.ch jY.ch
   replace fW := fW.ch jY.ch
   replace iJ := iJ.ch jY.ch
   replace kW := kW.ch jY.ch
   replace ab := ab.ch jY.ch
   replace ci := ci.ch jY.ch
   replace qE := qE.ch jY.ch
   replace ad := ad.ch jY.ch
   replace hO := jY.own
   replace cr := cr.ch jY.ch
   replace ct := ct.ch jY.ch
   replace bQ := bQ.ch jY.ch
   replace fO := fO.ch jY.ch
   replace g0 := g0.ch jY.ch
   replace j6 := j6.ch jY.ch
   replace n8 := n8.ch jY.ch
   replace ub := ub.ch jY.ch
   replace hB := hB.trans jY.fr
   refine GoR.op ((op_nilCheck rfl) _) rfl rfl ?_
   refine GoR.op ((op_fieldAddr Try.underlying72 rfl ti26 rfl (by decide)) _) rfl rfl ?_
   have hobt := oblkSt2 (v := .slice AB (n51 + 1) AC) (i := 11) (cs' := #[.int .i64 a0.Enum.Points, .bool a0.Enum.Monoid, .slice ar aq au, .slice v8 (n21 + 1) wa, .slice xb (n27 + 1) xc, .slice x4 (n33 + 1) x5, .slice aU aK aV, .slice p37 n39 c38, .int .i64 a0.Enum.Done, .map (some aW), .slice y9 (n45 + 1) za, .slice AB (n51 + 1) AC, .slice bK bI bM]) 1 hO rfl rfl rfl rfl
   obtain ⟨Mq, ji, C3⟩ := hobt
   dsimp only [sS, sZ] at ji
   refine GoR.op (C3 Try.underlying26 rfl ti26 (by exact rfl) (by exact rfl)) rfl rfl ?_
   replace ce := ce.ch ji.ch
   replace aa := aa.ch ji.ch
   replace fW := fW.ch ji.ch
   replace iJ := iJ.ch ji.ch
   replace kW := kW.ch ji.ch
   replace ab := ab.ch ji.ch
   replace ci := ci.ch ji.ch
   replace qE := qE.ch ji.ch
   replace vz := vz.ch ji.ch
   replace ad := ad.ch ji.ch
   replace hO := ji.own
   replace cr := cr.ch ji.ch
   replace ct := ct.ch ji.ch
   replace bQ := bQ.ch ji.ch
   replace fO := fO.ch ji.ch
   replace g0 := g0.ch ji.ch
   replace j6 := j6.ch ji.ch
   replace n8 := n8.ch ji.ch
   replace ub := ub.ch ji.ch
   replace hB := hB.trans ji.fr
   refine GoR.nil ?_
   refine Go1.seq ?_
   refine Go1.cut [(13, .int .i64 (d_16.length : Int))] ⟨rfl, trivial⟩ ?_
   intro σ _
   refine Go1.region ?_
   refine GoR.op ((op_move rfl) _) rfl rfl ?_
   refine GoR.op ((op_assign rfl) _) rfl rfl ?_
   refine GoR.nil ?_
   refine Go1.ret1V Try.func65 rfl (show _ = .int .i64 (d_16.length : Int) from rfl) ?_
   refine hR239 _ _ ?_
   refine GoR.op ((op_assign rfl) _) rfl rfl ?_
   refine GoR.nil ?_
   refine Go1.inBlock ?_
   refine Go1.region ?_
   refine GoR.op ((op_move rfl) _) rfl rfl ?_
   refine GoR.op ((op_move rfl) _) rfl rfl ?_
   refine GoR.op ((op_move rfl) _) rfl rfl ?_
   obtain ⟨AD, H⟩ := H
   obtain ⟨AE, H⟩ := H
   refine GoR.op ((op_index Try.underlying26 ti3 rfl rfl AD (ltn (ce.neq hO 0 rfl) AE) (ce.psome hO 0 rfl AD AE)) _) rfl rfl ?_
   have hobt := ost (r := Rp.int .i64) rfl 0 hO rfl ce AD AE (v := .int .i64 (d_16.length : Int)) (u := (d_16.length : Int)) rfl rfl
   obtain ⟨Mr, FI, jZ, A8, C4⟩ := hobt
   dsimp only [sS, sZ] at jZ A8
   refine GoR.op (C4 Try.underlying3 rfl ti3 (by exact rfl) (by exact rfl)) rfl rfl ?_
   replace aa := aa.ch jZ.ch
   replace fW := fW.ch jZ.ch
   replace iJ := iJ.ch jZ.ch
   replace kW := kW.ch jZ.ch
   replace ab := ab.ch jZ.ch
   replace ci := ci.ch jZ.ch
   replace qE := qE.ch jZ.ch
   replace vz := vz.ch jZ.ch
   replace ad := ad.ch jZ.ch
   replace hO := jZ.own
   replace cr := cr.ch jZ.ch
   replace ct := ct.ch jZ.ch
   replace bQ := bQ.ch jZ.ch
   replace fO := fO.ch jZ.ch
   replace g0 := g0.ch jZ.ch
   replace j6 := j6.ch jZ.ch
   replace n8 := n8.ch jZ.ch
   replace ub := ub.ch jZ.ch
   replace hB := hB.trans jZ.fr
   refine GoR.nil ?_
   refine Go1.inBlock ?_
   refine Go1.region ?_
   refine GoR.op ((op_add rfl rfl (wrap_i64 (natbd h53 aa.bd))) _) rfl rfl ?_
   refine GoR.op ((op_move rfl) _) rfl rfl ?_
   refine GoR.nil ?_
   exact hX1 _ H _ _ ⟨FI, n21 + 1, v8, wa, Fv, n27 + 1, xb, xc, Fy, n33 + 1, x4, x5, FB, n39, p37, c38, ng, n45 + 1, y9, za, FE, n51 + 1, AB, AC, FH, ⟨rfl, rfl, rfl, rfl, rfl, rfl, trivial⟩, hO, A8, aa, fW, iJ, kW, ab, ci, qE, vz, ad, hB⟩
  replace H := ifn y8 H
  refine GoR.op ((fun w => opB (op_eql rfl rfl w) (decide_eq_false y8)) _) rfl rfl ?_
  refine GoR.nil ?_
  refine Go1.condF rfl rfl ?_
  refine Go1.skip ?_
  refine Go1.seq ?_
  refine Go1.region ?_
  refine GoR.op ((op_move rfl) _) rfl rfl ?_
  refine GoR.op ((op_nilCheck rfl) _) rfl rfl ?_
  refine GoR.op ((op_fieldAddr Try.underlying72 rfl ti29 rfl (by decide)) _) rfl rfl ?_
  refine GoR.op ((op_fieldAddr Try.underlying29 rfl ti22 rfl (by decide)) _) rfl rfl ?_
  refine GoR.op ((oblk (i := 6) 1 hO rfl rfl Try.underlying22 rfl rfl) _ (Same.refl _)) rfl rfl ?_
  refine GoR.op ((op_move rfl) _) rfl rfl ?_
  obtain ⟨AF, H⟩ := H
  obtain ⟨AG, H⟩ := H
  refine GoR.op ((op_index Try.underlying22 ti26 rfl rfl AF (ltn (ab.neq hO 6 rfl) AG) (ab.psome hO 6 rfl AF AG)) _) rfl rfl ?_
  have hobt := oldSl 6 hO rfl ab AF AG
  obtain ⟨Ms, Mt, er, FJ⟩ := hobt
  refine GoR.op ((FJ Try.underlying26 rfl rfl) _ (Same.refl _)) rfl rfl ?_
  refine GoR.op ((op_move rfl) _) rfl rfl ?_
  obtain ⟨AH, H⟩ := H
  obtain ⟨AI, H⟩ := H
  refine GoR.op ((op_index Try.underlying26 ti3 rfl rfl AH AI (er.some_ AH AI)) _) rfl rfl ?_
  refine GoR.op ((ldInt er AH AI Try.underlying3 rfl rfl) _ (Same.refl _)) rfl rfl ?_
  refine GoR.op ((op_assign rfl) _) rfl rfl ?_
  refine GoR.nil ?_
  refine Go1.ret1V Try.func66 rfl (show _ = .int .i64 (ix (ix a0.Enum.Right (ix d_46 a0.Enum.Done)) (k1_12 : Int)) from rfl) ?_
  refine hR235 _ _ ?_
  refine GoR.inl (vs := [.pointer (some ⟨d8, 0, none⟩), .slice q8 r66.length q9, .int .i64 a0.Enum.Done, .int .i64 (k1_12 : Int), .string (gstr ((ix d_40 a0.Enum.Done) ++ (chr (IntKind.i32.wrap ((97 : Int) + (k1_12 : Int)))))), .int .i64 (ix (ix a0.Enum.Right (ix d_46 a0.Enum.Done)) (k1_12 : Int))]) (caps := []) rfl rfl body65 Try.func65 rfl Try.ntmps65 rfl rfl rfl ?_
  intro RhR377 hR377
  refine Go1.seq ?_
  refine Go1.cut [(0, .pointer (some ⟨d8, 0, none⟩)), (1, .slice q8 r66.length q9), (2, .int .i64 a0.Enum.Done), (3, .int .i64 (k1_12 : Int)), (4, .string (gstr ((ix d_40 a0.Enum.Done) ++ (chr (IntKind.i32.wrap ((97 : Int) + (k1_12 : Int))))))), (5, .int .i64 (ix (ix a0.Enum.Right (ix d_46 a0.Enum.Done)) (k1_12 : Int)))] ⟨rfl, rfl, rfl, rfl, rfl, rfl, trivial⟩ ?_
  intro σ _
  refine Go1.region ?_
  refine GoR.op ((op_assign rfl) _) rfl rfl ?_
  refine GoR.nil ?_
  refine Go1.seq ?_
  refine Go1.region ?_
  refine GoR.op ((op_move rfl) _) rfl rfl ?_
  refine GoR.op ((op_nilCheck rfl) _) rfl rfl ?_
  refine GoR.op ((op_fieldAddr Try.underlying72 rfl ti29 rfl (by decide)) _) rfl rfl ?_
  refine GoR.op ((op_fieldAddr Try.underlying29 rfl ti22 rfl (by decide)) _) rfl rfl ?_
  refine GoR.op ((oblk (i := 3) 1 hO rfl rfl Try.underlying22 rfl rfl) _ (Same.refl _)) rfl rfl ?_
  refine GoR.op ((op_lenN Try.underlying22 rfl (dl.neq hO 3 rfl)) _) rfl rfl ?_
  refine GoR.op ((op_assign rfl) _) rfl rfl ?_
  refine GoR.nil ?_
  refine Go1.seq ?_
  refine Go1.drawS 1 [(0, .pure), (1, .pure), (2, .pure), (3, .stable), (4, .pure), (6, .pure), (5, .loud), (7, .last)] mixed (by kernel_rfl) ?_
  intro Mu FK
  have mO := Stp.same hO FK
  replace ce := ce.ch mO.ch
  replace aa := aa.ch mO.ch
  replace dl := dl.ch mO.ch
  replace cL := cL.ch mO.ch
  replace cB := cB.ch mO.ch
  replace ab := ab.ch mO.ch
  replace ci := ci.ch mO.ch
  replace bh := bh.ch mO.ch
  replace aZ := aZ.ch mO.ch
  replace ad := ad.ch mO.ch
  replace hO := mO.own
  replace cr := cr.ch mO.ch
  replace ct := ct.ch mO.ch
  replace bQ := bQ.ch mO.ch
  replace er := er.ch mO.ch
  replace hB := hB.trans mO.fr
  refine GoQ.pure rfl (op_move rfl) rfl rfl ?_
  refine GoQ.pure rfl (op_nilCheck rfl) rfl rfl ?_
  refine GoQ.pure rfl (op_fieldAddr Try.underlying72 rfl ti69 rfl (by decide)) rfl rfl ?_
  refine GoQ.stable rfl (oblk (i := 9) 1 hO rfl rfl Try.underlying69 rfl rfl) rfl rfl ?_
  refine GoQ.pure rfl (op_move rfl) rfl rfl ?_
  refine GoQ.pure rfl (op_move rfl) rfl rfl ?_
  refine GoQ.call rfl (op_call body61 rfl (walk_enumerate_text hO.lt bQ H)) (fun v w hr => by obtain ⟨_, _, hs, _, _⟩ := hr; assumption) rfl rfl ?_
  rintro Mv Mw ⟨r381, rfl, FL, Jp, H⟩
  have gc := Stp.same hO FL
  replace ce := ce.ch gc.ch
  replace aa := aa.ch gc.ch
  replace dl := dl.ch gc.ch
  replace cL := cL.ch gc.ch
  replace cB := cB.ch gc.ch
  replace ab := ab.ch gc.ch
  replace ci := ci.ch gc.ch
  replace bh := bh.ch gc.ch
  replace aZ := aZ.ch gc.ch
  replace ad := ad.ch gc.ch
  replace hO := gc.own
  replace cr := cr.ch gc.ch
  replace ct := ct.ch gc.ch
  replace bQ := bQ.ch gc.ch
  replace er := er.ch gc.ch
  replace hB := hB.trans gc.fr
  have hobt := omapUpd (MK.str Try.underlying9) 11 hO rfl Try.underlying69 r381 (d_16.length : Int)
  obtain ⟨Mx, f5, C5⟩ := hobt
  dsimp only [sS, sZ] at f5
  refine GoQ.last rfl (C5 (by exact rfl) (by exact rfl) (by exact rfl)) rfl rfl ?_
  replace ce := ce.ch f5.ch
  replace aa := aa.ch f5.ch
  replace dl := dl.ch f5.ch
  replace cL := cL.ch f5.ch
  replace cB := cB.ch f5.ch
  replace ab := ab.ch f5.ch
  replace ci := ci.ch f5.ch
  replace bh := bh.ch f5.ch
  replace aZ := aZ.ch f5.ch
  replace ad := ad.ch f5.ch
  replace hO := f5.own
  replace cr := cr.ch f5.ch
  replace ct := ct.ch f5.ch
  replace bQ := bQ.ch f5.ch
  replace er := er.ch f5.ch
  replace hB := hB.trans f5.fr
  refine GoQ.nil ?_
  refine Go1.seq ?_
  refine Go1.region ?_
  refine GoR.op ((op_move rfl) _) rfl rfl ?_
  refine GoR.op ((op_move rfl) _) rfl rfl ?_
  refine GoR.op ((op_nilCheck rfl) _) rfl rfl ?_
  refine GoR.op ((op_fieldAddr Try.underlying72 rfl ti29 rfl (by decide)) _) rfl rfl ?_
  refine GoR.op ((op_fieldAddr Try.underlying29 rfl ti22 rfl (by decide)) _) rfl rfl ?_
  refine GoR.op ((oblk (i := 3) 1 hO rfl rfl Try.underlying22 rfl rfl) _ (Same.refl _)) rfl rfl ?_
  refine GoR.op ((op_move rfl) _) rfl rfl ?_
  have hobt := obuild (r := Rp.sl (Rp.int .i64)) (n := 1) (parts := [(0, .slice q8 r66.length q9)]) (vs := [.slice q8 r66.length q9]) (xs := [r66]) rfl Try.underlying22 ti26 hO (by decide) (by kernel_rfl) (Els.cons rfl ⟨q8, q9, rfl, bQ⟩ (Els.nil _ _ _) (by simp [mx])) rfl
  obtain ⟨My, Mz, gf, FM, JV, C6⟩ := hobt
  refine GoR.op (C6 rfl) rfl rfl ?_
  replace ce := ce.ch gf.ch
  replace aa := aa.ch gf.ch
  replace dl := dl.ch gf.ch
  replace cL := cL.ch gf.ch
  replace cB := cB.ch gf.ch
  replace ab := ab.ch gf.ch
  replace ci := ci.ch gf.ch
  replace bh := bh.ch gf.ch
  replace aZ := aZ.ch gf.ch
  replace ad := ad.ch gf.ch
  replace hO := gf.own
  replace cr := cr.ch gf.ch
  replace ct := ct.ch gf.ch
  replace bQ := bQ.ch gf.ch
  replace er := er.ch gf.ch
  replace hB := hB.trans gf.fr
  have hobt := freeze 0 hO rfl FM
  obtain ⟨hO1, o9, fP, FN⟩ := hobt
  dsimp only [eS, eZ] at hO1 o9 fP
  replace cr := cr.ch o9
  replace ct := ct.ch o9
  replace bQ := bQ.ch o9
  replace er := er.ch o9
  replace ce := ce.ch o9
  replace aa := aa.ch o9
  replace dl := dl.ch o9
  replace cL := cL.ch o9
  replace cB := cB.ch o9
  replace ab := ab.ch o9
  replace ci := ci.ch o9
  replace bh := bh.ch o9
  replace aZ := aZ.ch o9
  replace ad := ad.ch o9
  replace hB := hB.trans (Owns.dropFr _ _ 0)
  dsimp only [eS, eZ] at hB
  replace hO := hO1; clear hO1
  obtain ⟨Iy, H⟩ := H
  have hobt := oapp Try.underlying22 ti26 rfl 3 hO rfl dl fP FN Iy (by decide)
  obtain ⟨MA, wb, wc, FO, lN, fX, C7⟩ := hobt
  dsimp only [sS, sZ] at lN fX
  refine GoR.op (C7 (by exact rfl) (by exact rfl)) rfl rfl ?_
  replace ce := ce.ch lN.ch
  replace aa := aa.ch lN.ch
  replace cL := cL.ch lN.ch
  replace cB := cB.ch lN.ch
  replace ab := ab.ch lN.ch
  replace ci := ci.ch lN.ch
  replace bh := bh.ch lN.ch
  replace aZ := aZ.ch lN.ch
  replace ad := ad.ch lN.ch
  replace hO := lN.own
  replace cr := cr.ch lN.ch
  replace ct := ct.ch lN.ch
  replace bQ := bQ.ch lN.ch
  replace er := er.ch lN.ch
  replace fP := fP.ch lN.ch
  replace hB := hB.trans lN.fr
  refine GoR.op ((op_nilCheck rfl) _) rfl rfl ?_
  refine GoR.op ((op_fieldAddr Try.underlying72 rfl ti29 rfl (by decide)) _) rfl rfl ?_
  refine GoR.op ((op_fieldAddr Try.underlying29 rfl ti22 rfl (by decide)) _) rfl rfl ?_
  have hobt := oblkSt2 (v := .slice wb (n21 + 1) wc) (i := 3) (cs' := #[.int .i64 a0.Enum.Points, .bool a0.Enum.Monoid, .slice ar aq au, .slice wb (n21 + 1) wc, .slice p25 n27 c26, .slice p31 n33 c32, .slice aU aK aV, .slice p37 n39 c38, .int .i64 a0.Enum.Done, .map (some aW), .slice p43 n45 c44, .slice p49 n51 c50, .slice bK bI bM]) 1 hO rfl rfl rfl rfl
  obtain ⟨MB, li, C8⟩ := hobt
  dsimp only [sS, sZ] at li
  refine GoR.op (C8 Try.underlying22 rfl ti22 (by exact rfl) (by exact rfl)) rfl rfl ?_
  replace ce := ce.ch li.ch
  replace aa := aa.ch li.ch
  replace fX := fX.ch li.ch
  replace cL := cL.ch li.ch
  replace cB := cB.ch li.ch
  replace ab := ab.ch li.ch
  replace ci := ci.ch li.ch
  replace bh := bh.ch li.ch
  replace aZ := aZ.ch li.ch
  replace ad := ad.ch li.ch
  replace hO := li.own
  replace cr := cr.ch li.ch
  replace ct := ct.ch li.ch
  replace bQ := bQ.ch li.ch
  replace er := er.ch li.ch
  replace fP := fP.ch li.ch
  replace hB := hB.trans li.fr
  refine GoR.nil ?_
  refine Go1.seq ?_
  refine Go1.cut [(0, .pointer (some ⟨d8, 0, none⟩)), (2, .int .i64 a0.Enum.Done), (3, .int .i64 (k1_12 : Int)), (4, .string (gstr ((ix d_40 a0.Enum.Done) ++ (chr (IntKind.i32.wrap ((97 : Int) + (k1_12 : Int))))))), (5, .int .i64 (ix (ix a0.Enum.Right (ix d_46 a0.Enum.Done)) (k1_12 : Int))), (13, .int .i64 (d_16.length : Int))] ⟨rfl, rfl, rfl, rfl, rfl, rfl, trivial⟩ ?_
  intro σ _
  refine Go1.region ?_
  refine GoR.op ((op_move rfl) _) rfl rfl ?_
  refine GoR.op ((op_move rfl) _) rfl rfl ?_
  refine GoR.op ((op_nilCheck rfl) _) rfl rfl ?_
  refine GoR.op ((op_fieldAddr Try.underlying72 rfl ti29 rfl (by decide)) _) rfl rfl ?_
  refine GoR.op ((op_fieldAddr Try.underlying29 rfl ti26 rfl (by decide)) _) rfl rfl ?_
  refine GoR.op ((oblk (i := 4) 1 hO rfl rfl Try.underlying26 rfl rfl) _ (Same.refl _)) rfl rfl ?_
  refine GoR.op ((op_move rfl) _) rfl rfl ?_
  have hobt := obuild (r := Rp.int .i64) (n := 1) (parts := [(0, .int .i64 a0.Enum.Done)]) (vs := [.int .i64 a0.Enum.Done]) (xs := [a0.Enum.Done]) rfl Try.underlying26 ti3 hO (by decide) (by kernel_rfl) (Els.cons rfl rfl (Els.nil _ _ _) (by simp [mx])) rfl
  obtain ⟨MC, MD, i4, FP, JW, C9⟩ := hobt
  refine GoR.op (C9 rfl) rfl rfl ?_
  replace ce := ce.ch i4.ch
  replace aa := aa.ch i4.ch
  replace fX := fX.ch i4.ch
  replace cL := cL.ch i4.ch
  replace cB := cB.ch i4.ch
  replace ab := ab.ch i4.ch
  replace ci := ci.ch i4.ch
  replace bh := bh.ch i4.ch
  replace aZ := aZ.ch i4.ch
  replace ad := ad.ch i4.ch
  replace hO := i4.own
  replace cr := cr.ch i4.ch
  replace ct := ct.ch i4.ch
  replace bQ := bQ.ch i4.ch
  replace er := er.ch i4.ch
  replace fP := fP.ch i4.ch
  replace hB := hB.trans i4.fr
  have hobt := freeze 0 hO rfl FP
  obtain ⟨hO1, n9, g5, FQ⟩ := hobt
  dsimp only [eS, eZ] at hO1 n9 g5
  replace cr := cr.ch n9
  replace ct := ct.ch n9
  replace bQ := bQ.ch n9
  replace er := er.ch n9
  replace fP := fP.ch n9
  replace ce := ce.ch n9
  replace aa := aa.ch n9
  replace fX := fX.ch n9
  replace cL := cL.ch n9
  replace cB := cB.ch n9
  replace ab := ab.ch n9
  replace ci := ci.ch n9
  replace bh := bh.ch n9
  replace aZ := aZ.ch n9
  replace ad := ad.ch n9
  replace hB := hB.trans (Owns.dropFr _ _ 0)
  dsimp only [eS, eZ] at hB
  replace hO := hO1; clear hO1
  obtain ⟨Iz, H⟩ := H
  have hobt := oapp Try.underlying26 ti3 rfl 4 hO rfl cL g5 FQ Iz (by decide)
  obtain ⟨ME, xd, xe, FS, iG, gY, Db⟩ := hobt
  dsimp only [sS, sZ] at iG gY
  refine GoR.op (Db (by exact rfl) (by exact rfl)) rfl rfl ?_
  replace ce := ce.ch iG.ch
  replace aa := aa.ch iG.ch
  replace fX := fX.ch iG.ch
  replace cB := cB.ch iG.ch
  replace ab := ab.ch iG.ch
  replace ci := ci.ch iG.ch
  replace bh := bh.ch iG.ch
  replace aZ := aZ.ch iG.ch
  replace ad := ad.ch iG.ch
  replace hO := iG.own
  replace cr := cr.ch iG.ch
  replace ct := ct.ch iG.ch
  replace bQ := bQ.ch iG.ch
  replace er := er.ch iG.ch
  replace fP := fP.ch iG.ch
  replace g5 := g5.ch iG.ch
  replace hB := hB.trans iG.fr
  refine GoR.op ((op_nilCheck rfl) _) rfl rfl ?_
  refine GoR.op ((op_fieldAddr Try.underlying72 rfl ti29 rfl (by decide)) _) rfl rfl ?_
  refine GoR.op ((op_fieldAddr Try.underlying29 rfl ti26 rfl (by decide)) _) rfl rfl ?_
  have hobt := oblkSt2 (v := .slice xd (n27 + 1) xe) (i := 4) (cs' := #[.int .i64 a0.Enum.Points, .bool a0.Enum.Monoid, .slice ar aq au, .slice wb (n21 + 1) wc, .slice xd (n27 + 1) xe, .slice p31 n33 c32, .slice aU aK aV, .slice p37 n39 c38, .int .i64 a0.Enum.Done, .map (some aW), .slice p43 n45 c44, .slice p49 n51 c50, .slice bK bI bM]) 1 hO rfl rfl rfl rfl
  obtain ⟨MF, kx, Dc⟩ := hobt
  dsimp only [sS, sZ] at kx
  refine GoR.op (Dc Try.underlying26 rfl ti26 (by exact rfl) (by exact rfl)) rfl rfl ?_
  replace ce := ce.ch kx.ch
  replace aa := aa.ch kx.ch
  replace fX := fX.ch kx.ch
  replace gY := gY.ch kx.ch
  replace cB := cB.ch kx.ch
  replace ab := ab.ch kx.ch
  replace ci := ci.ch kx.ch
  replace bh := bh.ch kx.ch
  replace aZ := aZ.ch kx.ch
  replace ad := ad.ch kx.ch
  replace hO := kx.own
  replace cr := cr.ch kx.ch
  replace ct := ct.ch kx.ch
  replace bQ := bQ.ch kx.ch
  replace er := er.ch kx.ch
  replace fP := fP.ch kx.ch
  replace g5 := g5.ch kx.ch
  replace hB := hB.trans kx.fr
  refine GoR.nil ?_
  refine Go1.seq ?_
  refine Go1.region ?_
  refine GoR.op ((op_move rfl) _) rfl rfl ?_
  refine GoR.op ((op_move rfl) _) rfl rfl ?_
  refine GoR.op ((op_nilCheck rfl) _) rfl rfl ?_
  refine GoR.op ((op_fieldAddr Try.underlying72 rfl ti29 rfl (by decide)) _) rfl rfl ?_
  refine GoR.op ((op_fieldAddr Try.underlying29 rfl ti26 rfl (by decide)) _) rfl rfl ?_
  refine GoR.op ((oblk (i := 5) 1 hO rfl rfl Try.underlying26 rfl rfl) _ (Same.refl _)) rfl rfl ?_
  refine GoR.op ((op_move rfl) _) rfl rfl ?_
  have hobt := obuild (r := Rp.int .i64) (n := 1) (parts := [(0, .int .i64 (k1_12 : Int))]) (vs := [.int .i64 (k1_12 : Int)]) (xs := [(k1_12 : Int)]) rfl Try.underlying26 ti3 hO (by decide) (by kernel_rfl) (Els.cons rfl rfl (Els.nil _ _ _) (by simp [mx])) rfl
  obtain ⟨MG, MH, lj, FT, JX, Dd⟩ := hobt
  refine GoR.op (Dd rfl) rfl rfl ?_
  replace ce := ce.ch lj.ch
  replace aa := aa.ch lj.ch
  replace fX := fX.ch lj.ch
  replace gY := gY.ch lj.ch
  replace cB := cB.ch lj.ch
  replace ab := ab.ch lj.ch
  replace ci := ci.ch lj.ch
  replace bh := bh.ch lj.ch
  replace aZ := aZ.ch lj.ch
  replace ad := ad.ch lj.ch
  replace hO := lj.own
  replace cr := cr.ch lj.ch
  replace ct := ct.ch lj.ch
  replace bQ := bQ.ch lj.ch
  replace er := er.ch lj.ch
  replace fP := fP.ch lj.ch
  replace g5 := g5.ch lj.ch
  replace hB := hB.trans lj.fr
  have hobt := freeze 0 hO rfl FT
  obtain ⟨hO1, nK, j7, FU⟩ := hobt
  dsimp only [eS, eZ] at hO1 nK j7
  replace cr := cr.ch nK
  replace ct := ct.ch nK
  replace bQ := bQ.ch nK
  replace er := er.ch nK
  replace fP := fP.ch nK
  replace g5 := g5.ch nK
  replace ce := ce.ch nK
  replace aa := aa.ch nK
  replace fX := fX.ch nK
  replace gY := gY.ch nK
  replace cB := cB.ch nK
  replace ab := ab.ch nK
  replace ci := ci.ch nK
  replace bh := bh.ch nK
  replace aZ := aZ.ch nK
  replace ad := ad.ch nK
  replace hB := hB.trans (Owns.dropFr _ _ 0)
  dsimp only [eS, eZ] at hB
  replace hO := hO1; clear hO1
  obtain ⟨IA, H⟩ := H
  have hobt := oapp Try.underlying26 ti3 rfl 5 hO rfl cB j7 FU IA (by decide)
  obtain ⟨MJ, x6, x7, FV, kz, kX, De⟩ := hobt
  dsimp only [sS, sZ] at kz kX
  refine GoR.op (De (by exact rfl) (by exact rfl)) rfl rfl ?_
  replace ce := ce.ch kz.ch
  replace aa := aa.ch kz.ch
  replace fX := fX.ch kz.ch
  replace gY := gY.ch kz.ch
  replace ab := ab.ch kz.ch
  replace ci := ci.ch kz.ch
  replace bh := bh.ch kz.ch
  replace aZ := aZ.ch kz.ch
  replace ad := ad.ch kz.ch
  replace hO := kz.own
  replace cr := cr.ch kz.ch
  replace ct := ct.ch kz.ch
  replace bQ := bQ.ch kz.ch
  replace er := er.ch kz.ch
  replace fP := fP.ch kz.ch
  replace g5 := g5.ch kz.ch
  replace j7 := j7.ch kz.ch
  replace hB := hB.trans kz.fr
  refine GoR.op ((op_nilCheck rfl) _) rfl rfl ?_
  refine GoR.op ((op_fieldAddr Try.underlying72 rfl ti29 rfl (by decide)) _) rfl rfl ?_
  refine GoR.op ((op_fieldAddr Try.underlying29 rfl ti26 rfl (by decide)) _) rfl rfl ?_
  have hobt := oblkSt2 (v := .slice x6 (n33 + 1) x7) (i := 5) (cs' := #[.int .i64 a0.Enum.Points, .bool a0.Enum.Monoid, .slice ar aq au, .slice wb (n21 + 1) wc, .slice xd (n27 + 1) xe, .slice x6 (n33 + 1) x7, .slice aU aK aV, .slice p37 n39 c38, .int .i64 a0.Enum.Done, .map (some aW), .slice p43 n45 c44, .slice p49 n51 c50, .slice bK bI bM]) 1 hO rfl rfl rfl rfl
  obtain ⟨ML, j3, Df⟩ := hobt
  dsimp only [sS, sZ] at j3
  refine GoR.op (Df Try.underlying26 rfl ti26 (by exact rfl) (by exact rfl)) rfl rfl ?_
  replace ce := ce.ch j3.ch
  replace aa := aa.ch j3.ch
  replace fX := fX.ch j3.ch
  replace gY := gY.ch j3.ch
  replace kX := kX.ch j3.ch
  replace ab := ab.ch j3.ch
  replace ci := ci.ch j3.ch
  replace bh := bh.ch j3.ch
  replace aZ := aZ.ch j3.ch
  replace ad := ad.ch j3.ch
  replace hO := j3.own
  replace cr := cr.ch j3.ch
  replace ct := ct.ch j3.ch
  replace bQ := bQ.ch j3.ch
  replace er := er.ch j3.ch
  replace fP := fP.ch j3.ch
  replace g5 := g5.ch j3.ch
  replace j7 := j7.ch j3.ch
  replace hB := hB.trans j3.fr
  refine GoR.nil ?_
  refine Go1.seq ?_
  refine Go1.cut [(0, .pointer (some ⟨d8, 0, none⟩)), (4, .string (gstr ((ix d_40 a0.Enum.Done) ++ (chr (IntKind.i32.wrap ((97 : Int) + (k1_12 : Int))))))), (5, .int .i64 (ix (ix a0.Enum.Right (ix d_46 a0.Enum.Done)) (k1_12 : Int))), (13, .int .i64 (d_16.length : Int))] ⟨rfl, rfl, rfl, rfl, trivial⟩ ?_
  intro σ _
  refine Go1.region ?_
  refine GoR.op ((op_move rfl) _) rfl rfl ?_
  refine GoR.op ((op_move rfl) _) rfl rfl ?_
  refine GoR.op ((op_nilCheck rfl) _) rfl rfl ?_
  refine GoR.op ((op_fieldAddr Try.underlying72 rfl ti70 rfl (by decide)) _) rfl rfl ?_
  refine GoR.op ((oblk (i := 10) 1 hO rfl rfl Try.underlying70 rfl rfl) _ (Same.refl _)) rfl rfl ?_
  refine GoR.op ((op_move rfl) _) rfl rfl ?_
  have hobt := obuild (r := Rp.str) (n := 1) (parts := [(0, .string (gstr ((ix d_40 a0.Enum.Done) ++ (chr (IntKind.i32.wrap ((97 : Int) + (k1_12 : Int)))))))]) (vs := [.string (gstr ((ix d_40 a0.Enum.Done) ++ (chr (IntKind.i32.wrap ((97 : Int) + (k1_12 : Int))))))]) (xs := [(ix d_40 a0.Enum.Done) ++ (chr (IntKind.i32.wrap ((97 : Int) + (k1_12 : Int))))]) rfl Try.underlying70 ti9 hO (by decide) (by kernel_rfl) (Els.cons rfl ⟨rfl, (lenApp Aw)⟩ (Els.nil _ _ _) (by simp [mx])) rfl
  obtain ⟨MM, MN, kA, FW, JY, xY⟩ := hobt
  refine GoR.op (xY rfl) rfl rfl ?_
  replace ce := ce.ch kA.ch
  replace aa := aa.ch kA.ch
  replace fX := fX.ch kA.ch
  replace gY := gY.ch kA.ch
  replace kX := kX.ch kA.ch
  replace ab := ab.ch kA.ch
  replace ci := ci.ch kA.ch
  replace bh := bh.ch kA.ch
  replace aZ := aZ.ch kA.ch
  replace ad := ad.ch kA.ch
  replace hO := kA.own
  replace cr := cr.ch kA.ch
  replace ct := ct.ch kA.ch
  replace bQ := bQ.ch kA.ch
  replace er := er.ch kA.ch
  replace fP := fP.ch kA.ch
  replace g5 := g5.ch kA.ch
  replace j7 := j7.ch kA.ch
  replace hB := hB.trans kA.fr
  have hobt := freeze 0 hO rfl FW
  obtain ⟨hO1, nu, oa, FX⟩ := hobt
  dsimp only [eS, eZ] at hO1 nu oa
  replace cr := cr.ch nu
  replace ct := ct.ch nu
  replace bQ := bQ.ch nu
  replace er := er.ch nu
  replace fP := fP.ch nu
  replace g5 := g5.ch nu
  replace j7 := j7.ch nu
  replace ce := ce.ch nu
  replace aa := aa.ch nu
  replace fX := fX.ch nu
  replace gY := gY.ch nu
  replace kX := kX.ch nu
  replace ab := ab.ch nu
  replace ci := ci.ch nu
  replace bh := bh.ch nu
  replace aZ := aZ.ch nu
  replace ad := ad.ch nu
  replace hB := hB.trans (Owns.dropFr _ _ 0)
  dsimp only [eS, eZ] at hB
  replace hO := hO1; clear hO1
  obtain ⟨IB, H⟩ := H
  have hobt := oapp Try.underlying70 ti9 rfl 8 hO rfl bh oa FX IB (by decide)
  obtain ⟨MO, zb, zc, FY, j4, qF, Dg⟩ := hobt
  dsimp only [sS, sZ] at j4 qF
  refine GoR.op (Dg (by exact rfl) (by exact rfl)) rfl rfl ?_
  replace ce := ce.ch j4.ch
  replace aa := aa.ch j4.ch
  replace fX := fX.ch j4.ch
  replace gY := gY.ch j4.ch
  replace kX := kX.ch j4.ch
  replace ab := ab.ch j4.ch
  replace ci := ci.ch j4.ch
  replace aZ := aZ.ch j4.ch
  replace ad := ad.ch j4.ch
  replace hO := j4.own
  replace cr := cr.ch j4.ch
  replace ct := ct.ch j4.ch
  replace bQ := bQ.ch j4.ch
  replace er := er.ch j4.ch
  replace fP := fP.ch j4.ch
  replace g5 := g5.ch j4.ch
  replace j7 := j7.ch j4.ch
  replace oa := oa.ch j4.ch
  replace hB := hB.trans j4.fr
  refine GoR.op ((op_nilCheck rfl) _) rfl rfl ?_
  refine GoR.op ((op_fieldAddr Try.underlying72 rfl ti70 rfl (by decide)) _) rfl rfl ?_
  have hobt := oblkSt2 (v := .slice zb (n45 + 1) zc) (i := 10) (cs' := #[.int .i64 a0.Enum.Points, .bool a0.Enum.Monoid, .slice ar aq au, .slice wb (n21 + 1) wc, .slice xd (n27 + 1) xe, .slice x6 (n33 + 1) x7, .slice aU aK aV, .slice p37 n39 c38, .int .i64 a0.Enum.Done, .map (some aW), .slice zb (n45 + 1) zc, .slice p49 n51 c50, .slice bK bI bM]) 1 hO rfl rfl rfl rfl
  obtain ⟨MP, jj, Dh⟩ := hobt
  dsimp only [sS, sZ] at jj
  refine GoR.op (Dh Try.underlying70 rfl ti70 (by exact rfl) (by exact rfl)) rfl rfl ?_
  replace ce := ce.ch jj.ch
  replace aa := aa.ch jj.ch
  replace fX := fX.ch jj.ch
  replace gY := gY.ch jj.ch
  replace kX := kX.ch jj.ch
  replace ab := ab.ch jj.ch
  replace ci := ci.ch jj.ch
  replace qF := qF.ch jj.ch
  replace aZ := aZ.ch jj.ch
  replace ad := ad.ch jj.ch
  replace hO := jj.own
  replace cr := cr.ch jj.ch
  replace ct := ct.ch jj.ch
  replace bQ := bQ.ch jj.ch
  replace er := er.ch jj.ch
  replace fP := fP.ch jj.ch
  replace g5 := g5.ch jj.ch
  replace j7 := j7.ch jj.ch
  replace oa := oa.ch jj.ch
  replace hB := hB.trans jj.fr
  refine GoR.nil ?_
  refine Go1.seq ?_
  refine Go1.region ?_
  refine GoR.op ((op_move rfl) _) rfl rfl ?_
  refine GoR.op ((op_move rfl) _) rfl rfl ?_
  refine GoR.op ((op_nilCheck rfl) _) rfl rfl ?_
  refine GoR.op ((op_fieldAddr Try.underlying72 rfl ti26 rfl (by decide)) _) rfl rfl ?_
  refine GoR.op ((oblk (i := 11) 1 hO rfl rfl Try.underlying26 rfl rfl) _ (Same.refl _)) rfl rfl ?_
  refine GoR.op ((op_move rfl) _) rfl rfl ?_
  have hobt := obuild (r := Rp.int .i64) (n := 1) (parts := [(0, .int .i64 (ix (ix a0.Enum.Right (ix d_46 a0.Enum.Done)) (k1_12 : Int)))]) (vs := [.int .i64 (ix (ix a0.Enum.Right (ix d_46 a0.Enum.Done)) (k1_12 : Int))]) (xs := [(ix (ix a0.Enum.Right (ix d_46 a0.Enum.Done)) (k1_12 : Int))]) rfl Try.underlying26 ti3 hO (by decide) (by kernel_rfl) (Els.cons rfl rfl (Els.nil _ _ _) (by simp [mx])) rfl
  obtain ⟨MQ, MR, j5, FZ, JZ, Di⟩ := hobt
  refine GoR.op (Di rfl) rfl rfl ?_
  replace ce := ce.ch j5.ch
  replace aa := aa.ch j5.ch
  replace fX := fX.ch j5.ch
  replace gY := gY.ch j5.ch
  replace kX := kX.ch j5.ch
  replace ab := ab.ch j5.ch
  replace ci := ci.ch j5.ch
  replace qF := qF.ch j5.ch
  replace aZ := aZ.ch j5.ch
  replace ad := ad.ch j5.ch
  replace hO := j5.own
  replace cr := cr.ch j5.ch
  replace ct := ct.ch j5.ch
  replace bQ := bQ.ch j5.ch
  replace er := er.ch j5.ch
  replace fP := fP.ch j5.ch
  replace g5 := g5.ch j5.ch
  replace j7 := j7.ch j5.ch
  replace oa := oa.ch j5.ch
  replace hB := hB.trans j5.fr
  have hobt := freeze 0 hO rfl FZ
  obtain ⟨hO1, mY, uc, F0⟩ := hobt
  dsimp only [eS, eZ] at hO1 mY uc
  replace cr := cr.ch mY
  replace ct := ct.ch mY
  replace bQ := bQ.ch mY
  replace er := er.ch mY
  replace fP := fP.ch mY
  replace g5 := g5.ch mY
  replace j7 := j7.ch mY
  replace oa := oa.ch mY
  replace ce := ce.ch mY
  replace aa := aa.ch mY
  replace fX := fX.ch mY
  replace gY := gY.ch mY
  replace kX := kX.ch mY
  replace ab := ab.ch mY
  replace ci := ci.ch mY
  replace qF := qF.ch mY
  replace aZ := aZ.ch mY
  replace ad := ad.ch mY
  replace hB := hB.trans (Owns.dropFr _ _ 0)
  dsimp only [eS, eZ] at hB
  replace hO := hO1; clear hO1
  obtain ⟨IC, H⟩ := H
  have hobt := oapp Try.underlying26 ti3 rfl 9 hO rfl aZ uc F0 IC (by decide)
  obtain ⟨MS, AJ, AK, F1, fQ, t7, Dj⟩ := hobt
  dsimp only [sS, sZ] at fQ t7
  refine GoR.op (Dj (by exact rfl) (by exact rfl)) rfl rfl ?_
  replace ce := ce.ch fQ.ch
  replace aa := aa.ch fQ.ch
  replace fX := fX.ch fQ.ch
  replace gY := gY.ch fQ.ch
  replace kX := kX.ch fQ.ch
  replace ab := ab.ch fQ.ch
  replace ci := ci.ch fQ.ch
  replace qF := qF.ch fQ.ch
  replace ad := ad.ch fQ.ch
  replace hO := fQ.own
  replace cr := cr.ch fQ.ch
  replace ct := ct.ch fQ.ch
  replace bQ := bQ.ch fQ.ch
  replace er := er.ch fQ.ch
  replace fP := fP.ch fQ.ch
  replace g5 := g5.ch fQ.ch
  replace j7 := j7.ch fQ.ch
  replace oa := oa.ch fQ.ch
  replace uc := uc.ch fQ.ch
  replace hB := hB.trans fQ.fr
  refine GoR.op ((op_nilCheck rfl) _) rfl rfl ?_
  refine GoR.op ((op_fieldAddr Try.underlying72 rfl ti26 rfl (by decide)) _) rfl rfl ?_
  have hobt := oblkSt2 (v := .slice AJ (n51 + 1) AK) (i := 11) (cs' := #[.int .i64 a0.Enum.Points, .bool a0.Enum.Monoid, .slice ar aq au, .slice wb (n21 + 1) wc, .slice xd (n27 + 1) xe, .slice x6 (n33 + 1) x7, .slice aU aK aV, .slice p37 n39 c38, .int .i64 a0.Enum.Done, .map (some aW), .slice zb (n45 + 1) zc, .slice AJ (n51 + 1) AK, .slice bK bI bM]) 1 hO rfl rfl rfl rfl
  obtain ⟨MT, je, Dk⟩ := hobt
  dsimp only [sS, sZ] at je
  refine GoR.op (Dk Try.underlying26 rfl ti26 (by exact rfl) (by exact rfl)) rfl rfl ?_
  replace ce := ce.ch je.ch
  replace aa := aa.ch je.ch
  replace fX := fX.ch je.ch
  replace gY := gY.ch je.ch
  replace kX := kX.ch je.ch
  replace ab := ab.ch je.ch
  replace ci := ci.ch je.ch
  replace qF := qF.ch je.ch
  replace t7 := t7.ch je.ch
  replace ad := ad.ch je.ch
  replace hO := je.own
  replace cr := cr.ch je.ch
  replace ct := ct.ch je.ch
  replace bQ := bQ.ch je.ch
  replace er := er.ch je.ch
  replace fP := fP.ch je.ch
  replace g5 := g5.ch je.ch
  replace j7 := j7.ch je.ch
  replace oa := oa.ch je.ch
  replace uc := uc.ch je.ch
  replace hB := hB.trans je.fr
  refine GoR.nil ?_
  refine Go1.seq ?_
  refine Go1.cut [(13, .int .i64 (d_16.length : Int))] ⟨rfl, trivial⟩ ?_
  intro σ _
  refine Go1.region ?_
  refine GoR.op ((op_move rfl) _) rfl rfl ?_
  refine GoR.op ((op_assign rfl) _) rfl rfl ?_
  refine GoR.nil ?_
  refine Go1.ret1V Try.func65 rfl (show _ = .int .i64 (d_16.length : Int) from rfl) ?_
  refine hR377 _ _ ?_
  refine GoR.op ((op_assign rfl) _) rfl rfl ?_
  refine GoR.nil ?_
  refine Go1.inBlock ?_
  refine Go1.region ?_
  refine GoR.op ((op_move rfl) _) rfl rfl ?_
  refine GoR.op ((op_move rfl) _) rfl rfl ?_
  refine GoR.op ((op_move rfl) _) rfl rfl ?_
  obtain ⟨AM, H⟩ := H
  obtain ⟨AN, H⟩ := H
  refine GoR.op ((op_index Try.underlying26 ti3 rfl rfl AM (ltn (ce.neq hO 0 rfl) AN) (ce.psome hO 0 rfl AM AN)) _) rfl rfl ?_
  have hobt := ost (r := Rp.int .i64) rfl 0 hO rfl ce AM AN (v := .int .i64 (d_16.length : Int)) (u := (d_16.length : Int)) rfl rfl
  obtain ⟨MU, F2, jk, A9, Dl⟩ := hobt
  dsimp only [sS, sZ] at jk A9
  refine GoR.op (Dl Try.underlying3 rfl ti3 (by exact rfl) (by exact rfl)) rfl rfl ?_
  replace aa := aa.ch jk.ch
  replace fX := fX.ch jk.ch
  replace gY := gY.ch jk.ch
  replace kX := kX.ch jk.ch
  replace ab := ab.ch jk.ch
  replace ci := ci.ch jk.ch
  replace qF := qF.ch jk.ch
  replace t7 := t7.ch jk.ch
  replace ad := ad.ch jk.ch
  replace hO := jk.own
  replace cr := cr.ch jk.ch
  replace ct := ct.ch jk.ch
  replace bQ := bQ.ch jk.ch
  replace er := er.ch jk.ch
  replace fP := fP.ch jk.ch
  replace g5 := g5.ch jk.ch
  replace j7 := j7.ch jk.ch
  replace oa := oa.ch jk.ch
  replace uc := uc.ch jk.ch
  replace hB := hB.trans jk.fr
  refine GoR.nil ?_
  refine Go1.inBlock ?_
  refine Go1.region ?_
  refine GoR.op ((op_add rfl rfl (wrap_i64 (natbd h53 aa.bd))) _) rfl rfl ?_
  refine GoR.op ((op_move rfl) _) rfl rfl ?_
  refine GoR.nil ?_
  exact hX1 _ H _ _ ⟨F2, n21 + 1, wb, wc, FO, n27 + 1, xd, xe, FS, n33 + 1, x6, x7, FV, n39, p37, c38, ng, n45 + 1, zb, zc, FY, n51 + 1, AJ, AK, F1, ⟨rfl, rfl, rfl, rfl, rfl, rfl, trivial⟩, hO, A9, aa, fX, gY, kX, ab, ci, qF, t7, ad, hB⟩
 replace H := ifn h53 H
 refine GoR.op ((fun w => opB (op_lss rfl rfl w) (decide_eq_false h53)) _) rfl rfl ?_
 refine GoR.nil ?_
 refine Go1.seq ?_
 refine Go1.condF rfl rfl ?_
 refine Go1.exit rfl ?_
 refine Go1.seq ?_
 refine Go1.region ?_
 refine GoR.op ((op_move rfl) _) rfl rfl ?_
 refine GoR.op ((op_move rfl) _) rfl rfl ?_
 refine GoR.op ((op_nilCheck rfl) _) rfl rfl ?_
 refine GoR.op ((op_fieldAddr Try.underlying72 rfl ti29 rfl (by decide)) _) rfl rfl ?_
 refine GoR.op ((op_fieldAddr Try.underlying29 rfl ti22 rfl (by decide)) _) rfl rfl ?_
 refine GoR.op ((oblk (i := 6) 1 hO rfl rfl Try.underlying22 rfl rfl) _ (Same.refl _)) rfl rfl ?_
 refine GoR.op ((op_move rfl) _) rfl rfl ?_
 have hobt := freeze 0 hO rfl ce
 obtain ⟨hO1, tp, rN, F3⟩ := hobt
 dsimp only [eS, eZ] at hO1 tp rN
 replace aa := aa.ch tp
 replace dl := dl.ch tp
 replace cL := cL.ch tp
 replace cB := cB.ch tp
 replace ab := ab.ch tp
 replace ci := ci.ch tp
 replace bh := bh.ch tp
 replace aZ := aZ.ch tp
 replace ad := ad.ch tp
 replace hB := hB.trans (Owns.dropFr _ _ 0)
 dsimp only [eS, eZ] at hB
 replace hO := hO1; clear hO1
 have hobt := obuild (r := Rp.sl (Rp.int .i64)) (n := 1) (parts := [(0, .slice p2 a0.Enum.Gens.length a0.Enum.Gens.length)]) (vs := [.slice p2 a0.Enum.Gens.length a0.Enum.Gens.length]) (xs := [d_13]) rfl Try.underlying22 ti26 hO (by decide) (by kernel_rfl) (Els.cons rfl ⟨p2, a0.Enum.Gens.length, congrArg some (congrArg (fun nn => Value.slice p2 nn a0.Enum.Gens.length) F3), rN⟩ (Els.nil _ _ _) (by simp [mx])) rfl
 obtain ⟨MV, MW, qc, F4, J0, xZ⟩ := hobt
 refine GoR.op (xZ rfl) rfl rfl ?_
 replace aa := aa.ch qc.ch
 replace dl := dl.ch qc.ch
 replace cL := cL.ch qc.ch
 replace cB := cB.ch qc.ch
 replace ab := ab.ch qc.ch
 replace ci := ci.ch qc.ch
 replace bh := bh.ch qc.ch
 replace aZ := aZ.ch qc.ch
 replace ad := ad.ch qc.ch
 replace hO := qc.own
 replace rN := rN.ch qc.ch
 replace hB := hB.trans qc.fr
 have hobt := freeze 0 hO rfl F4
 obtain ⟨hO1, sg, ud, F5⟩ := hobt
 dsimp only [eS, eZ] at hO1 sg ud
 replace rN := rN.ch sg
 replace aa := aa.ch sg
 replace dl := dl.ch sg
 replace cL := cL.ch sg
 replace cB := cB.ch sg
 replace ab := ab.ch sg
 replace ci := ci.ch sg
 replace bh := bh.ch sg
 replace aZ := aZ.ch sg
 replace ad := ad.ch sg
 replace hB := hB.trans (Owns.dropFr _ _ 0)
 dsimp only [eS, eZ] at hB
 replace hO := hO1; clear hO1
 obtain ⟨ID, H⟩ := H
 have hobt := oapp Try.underlying22 ti26 rfl 5 hO rfl ab ud F5 ID (by decide)
 obtain ⟨MX, zd, zf, F6, oD, vA, Dm⟩ := hobt
 dsimp only [sS, sZ] at oD vA
 refine GoR.op (Dm (by exact rfl) (by exact rfl)) rfl rfl ?_
 replace aa := aa.ch oD.ch
 replace dl := dl.ch oD.ch
 replace cL := cL.ch oD.ch
 replace cB := cB.ch oD.ch
 replace ci := ci.ch oD.ch
 replace bh := bh.ch oD.ch
 replace aZ := aZ.ch oD.ch
 replace ad := ad.ch oD.ch
 replace hO := oD.own
 replace rN := rN.ch oD.ch
 replace ud := ud.ch oD.ch
 replace hB := hB.trans oD.fr
 refine GoR.op ((op_nilCheck rfl) _) rfl rfl ?_
 refine GoR.op ((op_fieldAddr Try.underlying72 rfl ti29 rfl (by decide)) _) rfl rfl ?_
 refine GoR.op ((op_fieldAddr Try.underlying29 rfl ti22 rfl (by decide)) _) rfl rfl ?_
 have hobt := oblkSt2 (v := .slice zd (aK + 1) zf) (i := 6) (cs' := #[.int .i64 a0.Enum.Points, .bool a0.Enum.Monoid, .slice ar aq au, .slice p19 n21 c20, .slice p25 n27 c26, .slice p31 n33 c32, .slice zd (aK + 1) zf, .slice p37 n39 c38, .int .i64 a0.Enum.Done, .map (some aW), .slice p43 n45 c44, .slice p49 n51 c50, .slice bK bI bM]) 0 hO rfl rfl rfl rfl
 obtain ⟨MY, nM, Dn⟩ := hobt
 dsimp only [sS, sZ] at nM
 refine GoR.op (Dn Try.underlying22 rfl ti22 (by exact rfl) (by exact rfl)) rfl rfl ?_
 replace aa := aa.ch nM.ch
 replace dl := dl.ch nM.ch
 replace cL := cL.ch nM.ch
 replace cB := cB.ch nM.ch
 replace vA := vA.ch nM.ch
 replace ci := ci.ch nM.ch
 replace bh := bh.ch nM.ch
 replace aZ := aZ.ch nM.ch
 replace ad := ad.ch nM.ch
 replace hO := nM.own
 replace rN := rN.ch nM.ch
 replace ud := ud.ch nM.ch
 replace hB := hB.trans nM.fr
 refine GoR.nil ?_
 refine Go1.seq ?_
 refine Go1.cut [(0, .pointer (some ⟨d8, 0, none⟩))] ⟨rfl, trivial⟩ ?_
 intro σ _
 refine Go1.region ?_
 refine GoR.op ((op_move rfl) _) rfl rfl ?_
 refine GoR.op ((op_nilCheck rfl) _) rfl rfl ?_
 refine GoR.op ((op_fieldAddr Try.underlying72 rfl ti29 rfl (by decide)) _) rfl rfl ?_
 refine GoR.op ((op_fieldAddr Try.underlying29 rfl ti3 rfl (by decide)) _) rfl rfl ?_
 refine GoR.op ((oblk (i := 8) 0 hO rfl rfl Try.underlying3 rfl rfl) _ (Same.refl _)) rfl rfl ?_
 obtain ⟨IE, H⟩ := H
 refine GoR.op ((op_add rfl rfl (wrap_i64 IE)) _) rfl rfl ?_
 refine GoR.op ((op_nilCheck rfl) _) rfl rfl ?_
 refine GoR.op ((op_fieldAddr Try.underlying72 rfl ti29 rfl (by decide)) _) rfl rfl ?_
 refine GoR.op ((op_fieldAddr Try.underlying29 rfl ti3 rfl (by decide)) _) rfl rfl ?_
 have hobt := oblkSt2 (v := .int .i64 (a0.Enum.Done + (1 : Int))) (i := 8) (cs' := #[.int .i64 a0.Enum.Points, .bool a0.Enum.Monoid, .slice ar aq au, .slice p19 n21 c20, .slice p25 n27 c26, .slice p31 n33 c32, .slice zd (aK + 1) zf, .slice p37 n39 c38, .int .i64 (a0.Enum.Done + (1 : Int)), .map (some aW), .slice p43 n45 c44, .slice p49 n51 c50, .slice bK bI bM]) 0 hO rfl rfl rfl rfl
 obtain ⟨MZ, f6, Do⟩ := hobt
 dsimp only [sS, sZ] at f6
 refine GoR.op (Do Try.underlying3 rfl ti3 (by exact rfl) (by exact rfl)) rfl rfl ?_
 replace aa := aa.ch f6.ch
 replace dl := dl.ch f6.ch
 replace cL := cL.ch f6.ch
 replace cB := cB.ch f6.ch
 replace vA := vA.ch f6.ch
 replace ci := ci.ch f6.ch
 replace bh := bh.ch f6.ch
 replace aZ := aZ.ch f6.ch
 replace ad := ad.ch f6.ch
 replace hO := f6.own
 replace rN := rN.ch f6.ch
 replace ud := ud.ch f6.ch
 replace hB := hB.trans f6.fr
 refine GoR.nil ?_
 refine Go1.seq ?_
 refine Go1.region ?_
 refine GoR.op ((op_assign rfl) _) rfl rfl ?_
 refine GoR.nil ?_
 refine Go1.ret1 Try.func51 rfl ?_
 exact ⟨((0 : Int)), (⟨(⟨a0.Enum.Points, a0.Enum.Monoid, a0.Enum.Gens, d_16, d_22, d_28, a0.Enum.Right ++ ([d_13]), d_34, (a0.Enum.Done + (1 : Int))⟩ : Enum), m1_52, d_40, d_46, a0.single⟩ : run), aq, ar, au, cP, n21, p19, c20, mt, n27, p25, c26, ne, n33, p31, c32, nf, (aK + 1), zd, zf, F6, n39, p37, c38, ng, n45, p43, c44, e8, n51, p49, c50, e9, bI, bK, bM, dr, rfl, hO, aa, dl, cL, cB, vA, ci, bh, aZ, ad, hB, H⟩
theorem body50 : Body Try.prog 50 := ⟨Try.f50, Try.func50, rfl, by kernel_rfl⟩
theorem body17 : Body Try.prog 17 := ⟨Try.f17, Try.func17, rfl, by kernel_rfl⟩
theorem walk_enumerate_Build {A : List Nat} {w0 : World} {fR : Option Addr} {fS : Nat} {gens : List (List Int)} {monoid : Bool} (hA : ∀ b ∈ A, b < w0.heap.size) (da : ISl (Rp.sl (Rp.int .i64)) A w0 fR fS gens) {K : Enum → Int → Prop} (H : enumerate_Build gens monoid K) :
    CallsV Try.prog 17 #[.slice fR gens.length fS, .bool monoid] w0 (fun v w' => ∃ (r0 : Enum), ∃ (r1 : Int), ∃ (xq : Option Addr), ∃ (xr : Nat), ∃ (wB : Option Addr), ∃ (wC : Nat), ∃ (vO : Option Addr), ∃ (vP : Nat), ∃ (xt : Option Addr), ∃ (xv : Nat), ∃ (wD : Option Addr), ∃ (wE : Nat), ∃ (wF : Option Addr), ∃ (wG : Nat), v = .tuple #[.agg #[.int .i64 r0.Points, .bool r0.Monoid, .slice xq r0.Gens.length xr, .slice wB r0.Elems.length wC, .slice vO r0.Prefix.length vP, .slice xt r0.Last.length xv, .slice wD r0.Right.length wE, .slice wF r0.Rules.length wG, .int .i64 r0.Done], .int .i64 r1] ∧ Same w0 w' ∧ ISl (Rp.sl (Rp.int .i64)) A w' xq xr r0.Gens ∧ ISl (Rp.sl (Rp.int .i64)) A w' wB wC r0.Elems ∧ ISl (Rp.int .i64) A w' vO vP r0.Prefix ∧ ISl (Rp.int .i64) A w' xt xv r0.Last ∧ ISl (Rp.sl (Rp.int .i64)) A w' wD wE r0.Right ∧ ISl (rpRule) A w' wF wG r0.Rules ∧ K r0 r1) := by
 refine CallsV.of (l := [.slice fR gens.length fS, .bool monoid]) Try.func17 rfl Try.ntmps17 rfl ?_
 have hO := Owns.start hA
 have hB := Fr.refl (bl []) w0
 unfold enumerate_Build at H
 replace da := da.ch (Ch.start A w0)
 refine Go1.seq ?_
 refine Go1.region ?_
 have hobt := oalloc (t := 29) (cs := #[.int .i64 (0 : Int), .bool false, .slice none 0 0, .slice none 0 0, .slice none 0 0, .slice none 0 0, .slice none 0 0, .slice none 0 0, .int .i64 (0 : Int)]) ti29 hO rfl
 obtain ⟨w1, B2, gs, hs4, uF⟩ := hobt
 refine GoR.op uF rfl rfl ?_
 replace hO := gs.own
 replace da := da.ch gs.ch
 replace hB := hB.trans gs.fr
 refine GoR.op ((op_assign rfl) _) rfl rfl ?_
 refine GoR.nil ?_
 refine Go1.seq ?_
 refine Go1.region ?_
 refine GoR.op ((op_move rfl) _) rfl rfl ?_
 refine GoR.op ((op_move rfl) _) rfl rfl ?_
 refine GoR.call (op_call body49 rfl (walk_enumerate_begin hO.lt da H)) rfl rfl ?_
 intro v9 w10 hcase13
 refine Or.elim hcase13 ?_ ?_
 ·refine exE fun r8 => andE fun hv14 => andE fun tH => fun H => ?_
  subst hv14
  clear hcase13
  replace H := oElimN H
  have kY := Stp.same hO tH
  replace hO := kY.own
  replace da := da.ch kY.ch
  replace hB := hB.trans kY.fr
  refine GoR.op ((op_move rfl) _) rfl rfl ?_
  refine GoR.op ((op_extract rfl rfl) _) rfl rfl ?_
  refine GoR.op ((op_extract rfl rfl) _) rfl rfl ?_
  refine GoR.op ((op_assign rfl) _) rfl rfl ?_
  refine GoR.op ((op_assign rfl) _) rfl rfl ?_
  refine GoR.nil ?_
  refine Go1.seq ?_
  refine Go1.seq ?_
  refine Go1.region ?_
  refine GoR.op ((op_move rfl) _) rfl rfl ?_
  by_cases h16 : r8 = (0 : Int)
  ·replace H := ifp h16 H
   refine GoR.op ((fun w => opB (op_neq rfl rfl w) (ndT h16)) _) rfl rfl ?_
   refine GoR.nil ?_
   refine Go1.condF rfl rfl ?_
   refine Go1.skip ?_
   refine Go1.seq ?_
   refine Go1.block ?_
   refine Go1.loopW (S := Unit) (fun s σ w => agrees σ [(4, .pointer (some ⟨B2, 0, none⟩)), (6, .pointer none)] ∧ Owns w0.heap.size w [.blk B2 (.cells #[.int .i64 (0 : Int), .bool false, .slice none 0 0, .slice none 0 0, .slice none 0 0, .slice none 0 0, .slice none 0 0, .slice none 0 0, .int .i64 (0 : Int)] 29 (0, 0))] A ∧ Fr (bl []) w0 (bl [.blk B2 (.cells #[.int .i64 (0 : Int), .bool false, .slice none 0 0, .slice none 0 0, .slice none 0 0, .slice none 0 0, .slice none 0 0, .slice none 0 0, .int .i64 (0 : Int)] 29 (0, 0))]) w) H ⟨⟨rfl, rfl, trivial⟩, hO, hB⟩ ?_
   intro X1 _
   intro H hX1 σ w17
   refine andE fun hag => andE fun hO => fun hB => ?_
   refine Go1.keep [(4, .pointer (some ⟨B2, 0, none⟩)), (6, .pointer none)] hag ?_
   refine Go1.seq ?_
   refine Go1.seq ?_
   refine Go1.region ?_
   refine GoR.op ((op_move rfl) _) rfl rfl ?_
   refine GoR.inl (vs := [.pointer none]) (caps := []) rfl rfl body50 Try.func50 rfl Try.ntmps50 rfl rfl rfl ?_
   intro RhR18 hR18
   refine Go1.seq ?_
   refine Go1.region ?_
   refine GoR.op ((op_assign rfl) _) rfl rfl ?_
   refine GoR.nil ?_
   refine Go1.seq ?_
   refine Go1.drawS 0 [(0, .pure), (1, .pure), (2, .pure), (3, .pure), (4, .stable), (5, .pure), (6, .pure), (7, .pure), (8, .pure), (9, .stable), (10, .pure), (11, .pure), (12, .pure)] mixed (by kernel_rfl) ?_
   intro w19 AO
   have lz := Stp.same hO AO
   replace hO := lz.own
   replace hB := hB.trans lz.fr
   refine GoQ.pure rfl (op_move rfl) rfl rfl ?_
   exact H.elim
  replace H := ifn h16 H
  refine GoR.op ((fun w => opB (op_neq rfl rfl w) (ndF h16)) _) rfl rfl ?_
  refine GoR.nil ?_
  refine Go1.condT rfl rfl ?_
  refine Go1.seq ?_
  refine Go1.region ?_
  refine GoR.op ((op_build Try.underlying29 ti29 (pl := [(0, 1), (1, 1), (2, 1), (3, 1), (4, 1), (5, 1), (6, 1), (7, 1), (8, 1)]) (vs := []) (cs := #[.int .i64 (0 : Int), .bool false, .slice none 0 0, .slice none 0 0, .slice none 0 0, .slice none 0 0, .slice none 0 0, .slice none 0 0, .int .i64 (0 : Int)]) (by kernel_rfl) rfl (by kernel_rfl)) _) rfl rfl ?_
  refine GoR.op ((op_move rfl) _) rfl rfl ?_
  have hobt := oblkStAgg (us := [.int .i64 (0 : Int), .bool false, .slice none 0 0, .slice none 0 0, .slice none 0 0, .slice none 0 0, .slice none 0 0, .slice none 0 0, .int .i64 (0 : Int)]) (o := 0) (cs' := #[.int .i64 (0 : Int), .bool false, .slice none 0 0, .slice none 0 0, .slice none 0 0, .slice none 0 0, .slice none 0 0, .slice none 0 0, .int .i64 (0 : Int)]) 0 hO rfl rfl (Nat.le_of_ble_eq_true rfl) rfl
  obtain ⟨w22, jl, F7⟩ := hobt
  refine GoR.op (F7 ti29 (by exact rfl) (by exact rfl) rfl) rfl rfl ?_
  replace hO := jl.own
  replace da := da.ch jl.ch
  replace hB := hB.trans jl.fr
  refine GoR.op ((op_assign rfl) _) rfl rfl ?_
  refine GoR.nil ?_
  refine Go1.retC2 Try.func17 rfl rfl (run_loadBlk (vs := [.int .i64 (0 : Int), .bool false, .slice none 0 0, .slice none 0 0, .slice none 0 0, .slice none 0 0, .slice none 0 0, .slice none 0 0, .int .i64 (0 : Int)]) 0 hO rfl rfl Try.underlying29 rfl ti29) ?_
  exact ⟨(⟨(0 : Int), false, ([] : List (List Int)), ([] : List (List Int)), ([] : List Int), ([] : List Int), ([] : List (List Int)), ([] : List Rule), (0 : Int)⟩ : Enum), r8, none, 0, none, 0, none, 0, none, 0, none, 0, none, 0, rfl, hB.same, (ISl.null _ _ _), (ISl.null _ _ _), (ISl.null _ _ _), (ISl.null _ _ _), (ISl.null _ _ _), (ISl.null _ _ _), H⟩
 ·refine exE fun r7 => exE fun r8 => exE fun ly => exE fun sQ => exE fun sR => exE fun sT => exE fun si => exE fun sj => exE fun sk => exE fun sm => exE fun rT => exE fun rU => exE fun rV => exE fun rW => exE fun ri => exE fun sU => exE fun sV => exE fun sW => exE fun sn => exE fun sq => exE fun sr => exE fun ss => exE fun rX => exE fun su => exE fun sv => exE fun sw => exE fun rY => exE fun cJ => exE fun uG => exE fun uH => exE fun uI => exE fun uj => exE fun uk => exE fun ul => exE fun um => exE fun t0 => exE fun un => exE fun uo => exE fun uq => exE fun t3 => andE fun hv25 => andE fun tH => andE fun hN12 => andE fun dK => andE fun dw => andE fun dt => andE fun dM => andE fun dF => andE fun dG => andE fun d6 => andE fun eH => andE fun eI => fun H => ?_
  subst hv25
  clear hcase13
  replace H := oElimS H
  have iT := Stp.more hO tH hN12
  dsimp only [List.cons_append, List.nil_append] at iT
  replace hO := iT.own
  replace da := da.ch iT.ch
  replace hB := hB.trans iT.fr
  replace dK := dK.ch (Ch.assoc _ _ _ _)
  dsimp only [List.cons_append, List.nil_append] at dK
  replace dw := dw.ch (Ch.assoc _ _ _ _)
  dsimp only [List.cons_append, List.nil_append] at dw
  replace dt := dt.ch (Ch.assoc _ _ _ _)
  dsimp only [List.cons_append, List.nil_append] at dt
  replace dM := dM.ch (Ch.assoc _ _ _ _)
  dsimp only [List.cons_append, List.nil_append] at dM
  replace dF := dF.ch (Ch.assoc _ _ _ _)
  dsimp only [List.cons_append, List.nil_append] at dF
  replace dG := dG.ch (Ch.assoc _ _ _ _)
  dsimp only [List.cons_append, List.nil_append] at dG
  replace d6 := d6.ch (Ch.assoc _ _ _ _)
  dsimp only [List.cons_append, List.nil_append] at d6
  replace eH := eH.ch (Ch.assoc _ _ _ _)
  dsimp only [List.cons_append, List.nil_append] at eH
  replace eI := eI.ch (Ch.assoc _ _ _ _)
  dsimp only [List.cons_append, List.nil_append] at eI
  refine GoR.op ((op_move rfl) _) rfl rfl ?_
  refine GoR.op ((op_extract rfl rfl) _) rfl rfl ?_
  refine GoR.op ((op_extract rfl rfl) _) rfl rfl ?_
  refine GoR.op ((op_assign rfl) _) rfl rfl ?_
  refine GoR.op ((op_assign rfl) _) rfl rfl ?_
  refine GoR.nil ?_
  refine Go1.seq ?_
  refine Go1.seq ?_
  refine Go1.region ?_
  refine GoR.op ((op_move rfl) _) rfl rfl ?_
  by_cases h38 : r8 = (0 : Int)
  ·replace H := ifp h38 H
   refine GoR.op ((fun w => opB (op_neq rfl rfl w) (ndT h38)) _) rfl rfl ?_
   refine GoR.nil ?_
   refine Go1.condF rfl rfl ?_
   refine Go1.skip ?_
   refine Go1.seq ?_
   refine Go1.block ?_
   refine Go1.loopW (S := Int × Bool × Int × List (List Int) × List (List Int) × List Int × List Int × List (List Int) × List Rule × List Str × List Int × List Int × (List (Str × Int))) (fun s σ w => match s with | (k2_40, b2_41, k2_42, d_43, d_49, d_55, d_61, d_67, d_73, d_79, d_85, d_91, m2_97) => ∃ (n48 : Nat), ∃ (p46 : Option Addr), ∃ (c47 : Nat), ∃ (qi : List Value), ∃ (n54 : Nat), ∃ (p52 : Option Addr), ∃ (c53 : Nat), ∃ (qj : List Value), ∃ (n60 : Nat), ∃ (p58 : Option Addr), ∃ (c59 : Nat), ∃ (qk : List Value), ∃ (n66 : Nat), ∃ (p64 : Option Addr), ∃ (c65 : Nat), ∃ (ql : List Value), ∃ (n72 : Nat), ∃ (p70 : Option Addr), ∃ (c71 : Nat), ∃ (qm : List Value), ∃ (n78 : Nat), ∃ (p76 : Option Addr), ∃ (c77 : Nat), ∃ (qn : List Value), ∃ (n84 : Nat), ∃ (p82 : Option Addr), ∃ (c83 : Nat), ∃ (oh : List Value), ∃ (n90 : Nat), ∃ (p88 : Option Addr), ∃ (c89 : Nat), ∃ (qo : List Value), ∃ (n96 : Nat), ∃ (p94 : Option Addr), ∃ (c95 : Nat), ∃ (qp : List Value), agrees σ [(4, .pointer (some ⟨B2, 0, none⟩)), (6, .pointer (some ⟨ly, 0, none⟩))] ∧ Owns w0.heap.size w [.blk ly (.cells #[.int .i64 k2_40, .bool b2_41, .slice p46 n48 c47, .slice p52 n54 c53, .slice p58 n60 c59, .slice p64 n66 c65, .slice p70 n72 c71, .slice p76 n78 c77, .int .i64 k2_42, .map (some cJ), .slice p82 n84 c83, .slice p88 n90 c89, .slice p94 n96 c95] 72 (0, 0)), .row 26 1 p46 n48 c47 qi, .row 26 1 p52 n54 c53 qj, .row 3 1 p58 n60 c59 qk, .row 3 1 p64 n66 c65 ql, .row 26 1 p70 n72 c71 qm, .row 39 2 p76 n78 c77 qn, .row 9 1 p82 n84 c83 oh, .row 3 1 p88 n90 c89 qo, .row 3 1 p94 n96 c95 qp, .any (mapE (fun a : List UInt8 => Value.string (gstr a)) (fun a : Int => Value.int .i64 a) cJ m2_97), .blk B2 (.cells #[.int .i64 (0 : Int), .bool false, .slice none 0 0, .slice none 0 0, .slice none 0 0, .slice none 0 0, .slice none 0 0, .slice none 0 0, .int .i64 (0 : Int)] 29 (0, 0))] A ∧ Els (Rp.sl (Rp.int .i64)) (bl [.blk ly (.cells #[.int .i64 k2_40, .bool b2_41, .slice p46 n48 c47, .slice p52 n54 c53, .slice p58 n60 c59, .slice p64 n66 c65, .slice p70 n72 c71, .slice p76 n78 c77, .int .i64 k2_42, .map (some cJ), .slice p82 n84 c83, .slice p88 n90 c89, .slice p94 n96 c95] 72 (0, 0)), .row 26 1 p46 n48 c47 qi, .row 26 1 p52 n54 c53 qj, .row 3 1 p58 n60 c59 qk, .row 3 1 p64 n66 c65 ql, .row 26 1 p70 n72 c71 qm, .row 39 2 p76 n78 c77 qn, .row 9 1 p82 n84 c83 oh, .row 3 1 p88 n90 c89 qo, .row 3 1 p94 n96 c95 qp, .any (mapE (fun a : List UInt8 => Value.string (gstr a)) (fun a : Int => Value.int .i64 a) cJ m2_97), .blk B2 (.cells #[.int .i64 (0 : Int), .bool false, .slice none 0 0, .slice none 0 0, .slice none 0 0, .slice none 0 0, .slice none 0 0, .slice none 0 0, .int .i64 (0 : Int)] 29 (0, 0))] ++ A) w qi d_43 ∧ Els (Rp.sl (Rp.int .i64)) (bl [.blk ly (.cells #[.int .i64 k2_40, .bool b2_41, .slice p46 n48 c47, .slice p52 n54 c53, .slice p58 n60 c59, .slice p64 n66 c65, .slice p70 n72 c71, .slice p76 n78 c77, .int .i64 k2_42, .map (some cJ), .slice p82 n84 c83, .slice p88 n90 c89, .slice p94 n96 c95] 72 (0, 0)), .row 26 1 p46 n48 c47 qi, .row 26 1 p52 n54 c53 qj, .row 3 1 p58 n60 c59 qk, .row 3 1 p64 n66 c65 ql, .row 26 1 p70 n72 c71 qm, .row 39 2 p76 n78 c77 qn, .row 9 1 p82 n84 c83 oh, .row 3 1 p88 n90 c89 qo, .row 3 1 p94 n96 c95 qp, .any (mapE (fun a : List UInt8 => Value.string (gstr a)) (fun a : Int => Value.int .i64 a) cJ m2_97), .blk B2 (.cells #[.int .i64 (0 : Int), .bool false, .slice none 0 0, .slice none 0 0, .slice none 0 0, .slice none 0 0, .slice none 0 0, .slice none 0 0, .int .i64 (0 : Int)] 29 (0, 0))] ++ A) w qj d_49 ∧ Els (Rp.int .i64) (bl [.blk ly (.cells #[.int .i64 k2_40, .bool b2_41, .slice p46 n48 c47, .slice p52 n54 c53, .slice p58 n60 c59, .slice p64 n66 c65, .slice p70 n72 c71, .slice p76 n78 c77, .int .i64 k2_42, .map (some cJ), .slice p82 n84 c83, .slice p88 n90 c89, .slice p94 n96 c95] 72 (0, 0)), .row 26 1 p46 n48 c47 qi, .row 26 1 p52 n54 c53 qj, .row 3 1 p58 n60 c59 qk, .row 3 1 p64 n66 c65 ql, .row 26 1 p70 n72 c71 qm, .row 39 2 p76 n78 c77 qn, .row 9 1 p82 n84 c83 oh, .row 3 1 p88 n90 c89 qo, .row 3 1 p94 n96 c95 qp, .any (mapE (fun a : List UInt8 => Value.string (gstr a)) (fun a : Int => Value.int .i64 a) cJ m2_97), .blk B2 (.cells #[.int .i64 (0 : Int), .bool false, .slice none 0 0, .slice none 0 0, .slice none 0 0, .slice none 0 0, .slice none 0 0, .slice none 0 0, .int .i64 (0 : Int)] 29 (0, 0))] ++ A) w qk d_55 ∧ Els (Rp.int .i64) (bl [.blk ly (.cells #[.int .i64 k2_40, .bool b2_41, .slice p46 n48 c47, .slice p52 n54 c53, .slice p58 n60 c59, .slice p64 n66 c65, .slice p70 n72 c71, .slice p76 n78 c77, .int .i64 k2_42, .map (some cJ), .slice p82 n84 c83, .slice p88 n90 c89, .slice p94 n96 c95] 72 (0, 0)), .row 26 1 p46 n48 c47 qi, .row 26 1 p52 n54 c53 qj, .row 3 1 p58 n60 c59 qk, .row 3 1 p64 n66 c65 ql, .row 26 1 p70 n72 c71 qm, .row 39 2 p76 n78 c77 qn, .row 9 1 p82 n84 c83 oh, .row 3 1 p88 n90 c89 qo, .row 3 1 p94 n96 c95 qp, .any (mapE (fun a : List UInt8 => Value.string (gstr a)) (fun a : Int => Value.int .i64 a) cJ m2_97), .blk B2 (.cells #[.int .i64 (0 : Int), .bool false, .slice none 0 0, .slice none 0 0, .slice none 0 0, .slice none 0 0, .slice none 0 0, .slice none 0 0, .int .i64 (0 : Int)] 29 (0, 0))] ++ A) w ql d_61 ∧ Els (Rp.sl (Rp.int .i64)) (bl [.blk ly (.cells #[.int .i64 k2_40, .bool b2_41, .slice p46 n48 c47, .slice p52 n54 c53, .slice p58 n60 c59, .slice p64 n66 c65, .slice p70 n72 c71, .slice p76 n78 c77, .int .i64 k2_42, .map (some cJ), .slice p82 n84 c83, .slice p88 n90 c89, .slice p94 n96 c95] 72 (0, 0)), .row 26 1 p46 n48 c47 qi, .row 26 1 p52 n54 c53 qj, .row 3 1 p58 n60 c59 qk, .row 3 1 p64 n66 c65 ql, .row 26 1 p70 n72 c71 qm, .row 39 2 p76 n78 c77 qn, .row 9 1 p82 n84 c83 oh, .row 3 1 p88 n90 c89 qo, .row 3 1 p94 n96 c95 qp, .any (mapE (fun a : List UInt8 => Value.string (gstr a)) (fun a : Int => Value.int .i64 a) cJ m2_97), .blk B2 (.cells #[.int .i64 (0 : Int), .bool false, .slice none 0 0, .slice none 0 0, .slice none 0 0, .slice none 0 0, .slice none 0 0, .slice none 0 0, .int .i64 (0 : Int)] 29 (0, 0))] ++ A) w qm d_67 ∧ Els (rpRule) (bl [.blk ly (.cells #[.int .i64 k2_40, .bool b2_41, .slice p46 n48 c47, .slice p52 n54 c53, .slice p58 n60 c59, .slice p64 n66 c65, .slice p70 n72 c71, .slice p76 n78 c77, .int .i64 k2_42, .map (some cJ), .slice p82 n84 c83, .slice p88 n90 c89, .slice p94 n96 c95] 72 (0, 0)), .row 26 1 p46 n48 c47 qi, .row 26 1 p52 n54 c53 qj, .row 3 1 p58 n60 c59 qk, .row 3 1 p64 n66 c65 ql, .row 26 1 p70 n72 c71 qm, .row 39 2 p76 n78 c77 qn, .row 9 1 p82 n84 c83 oh, .row 3 1 p88 n90 c89 qo, .row 3 1 p94 n96 c95 qp, .any (mapE (fun a : List UInt8 => Value.string (gstr a)) (fun a : Int => Value.int .i64 a) cJ m2_97), .blk B2 (.cells #[.int .i64 (0 : Int), .bool false, .slice none 0 0, .slice none 0 0, .slice none 0 0, .slice none 0 0, .slice none 0 0, .slice none 0 0, .int .i64 (0 : Int)] 29 (0, 0))] ++ A) w qn d_73 ∧ Els (Rp.str) (bl [.blk ly (.cells #[.int .i64 k2_40, .bool b2_41, .slice p46 n48 c47, .slice p52 n54 c53, .slice p58 n60 c59, .slice p64 n66 c65, .slice p70 n72 c71, .slice p76 n78 c77, .int .i64 k2_42, .map (some cJ), .slice p82 n84 c83, .slice p88 n90 c89, .slice p94 n96 c95] 72 (0, 0)), .row 26 1 p46 n48 c47 qi, .row 26 1 p52 n54 c53 qj, .row 3 1 p58 n60 c59 qk, .row 3 1 p64 n66 c65 ql, .row 26 1 p70 n72 c71 qm, .row 39 2 p76 n78 c77 qn, .row 9 1 p82 n84 c83 oh, .row 3 1 p88 n90 c89 qo, .row 3 1 p94 n96 c95 qp, .any (mapE (fun a : List UInt8 => Value.string (gstr a)) (fun a : Int => Value.int .i64 a) cJ m2_97), .blk B2 (.cells #[.int .i64 (0 : Int), .bool false, .slice none 0 0, .slice none 0 0, .slice none 0 0, .slice none 0 0, .slice none 0 0, .slice none 0 0, .int .i64 (0 : Int)] 29 (0, 0))] ++ A) w oh d_79 ∧ Els (Rp.int .i64) (bl [.blk ly (.cells #[.int .i64 k2_40, .bool b2_41, .slice p46 n48 c47, .slice p52 n54 c53, .slice p58 n60 c59, .slice p64 n66 c65, .slice p70 n72 c71, .slice p76 n78 c77, .int .i64 k2_42, .map (some cJ), .slice p82 n84 c83, .slice p88 n90 c89, .slice p94 n96 c95] 72 (0, 0)), .row 26 1 p46 n48 c47 qi, .row 26 1 p52 n54 c53 qj, .row 3 1 p58 n60 c59 qk, .row 3 1 p64 n66 c65 ql, .row 26 1 p70 n72 c71 qm, .row 39 2 p76 n78 c77 qn, .row 9 1 p82 n84 c83 oh, .row 3 1 p88 n90 c89 qo, .row 3 1 p94 n96 c95 qp, .any (mapE (fun a : List UInt8 => Value.string (gstr a)) (fun a : Int => Value.int .i64 a) cJ m2_97), .blk B2 (.cells #[.int .i64 (0 : Int), .bool false, .slice none 0 0, .slice none 0 0, .slice none 0 0, .slice none 0 0, .slice none 0 0, .slice none 0 0, .int .i64 (0 : Int)] 29 (0, 0))] ++ A) w qo d_85 ∧ Els (Rp.int .i64) (bl [.blk ly (.cells #[.int .i64 k2_40, .bool b2_41, .slice p46 n48 c47, .slice p52 n54 c53, .slice p58 n60 c59, .slice p64 n66 c65, .slice p70 n72 c71, .slice p76 n78 c77, .int .i64 k2_42, .map (some cJ), .slice p82 n84 c83, .slice p88 n90 c89, .slice p94 n96 c95] 72 (0, 0)), .row 26 1 p46 n48 c47 qi, .row 26 1 p52 n54 c53 qj, .row 3 1 p58 n60 c59 qk, .row 3 1 p64 n66 c65 ql, .row 26 1 p70 n72 c71 qm, .row 39 2 p76 n78 c77 qn, .row 9 1 p82 n84 c83 oh, .row 3 1 p88 n90 c89 qo, .row 3 1 p94 n96 c95 qp, .any (mapE (fun a : List UInt8 => Value.string (gstr a)) (fun a : Int => Value.int .i64 a) cJ m2_97), .blk B2 (.cells #[.int .i64 (0 : Int), .bool false, .slice none 0 0, .slice none 0 0, .slice none 0 0, .slice none 0 0, .slice none 0 0, .slice none 0 0, .int .i64 (0 : Int)] 29 (0, 0))] ++ A) w qp d_91 ∧ Fr (bl []) w0 (bl [.blk ly (.cells #[.int .i64 k2_40, .bool b2_41, .slice p46 n48 c47, .slice p52 n54 c53, .slice p58 n60 c59, .slice p64 n66 c65, .slice p70 n72 c71, .slice p76 n78 c77, .int .i64 k2_42, .map (some cJ), .slice p82 n84 c83, .slice p88 n90 c89, .slice p94 n96 c95] 72 (0, 0)), .row 26 1 p46 n48 c47 qi, .row 26 1 p52 n54 c53 qj, .row 3 1 p58 n60 c59 qk, .row 3 1 p64 n66 c65 ql, .row 26 1 p70 n72 c71 qm, .row 39 2 p76 n78 c77 qn, .row 9 1 p82 n84 c83 oh, .row 3 1 p88 n90 c89 qo, .row 3 1 p94 n96 c95 qp, .any (mapE (fun a : List UInt8 => Value.string (gstr a)) (fun a : Int => Value.int .i64 a) cJ m2_97), .blk B2 (.cells #[.int .i64 (0 : Int), .bool false, .slice none 0 0, .slice none 0 0, .slice none 0 0, .slice none 0 0, .slice none 0 0, .slice none 0 0, .int .i64 (0 : Int)] 29 (0, 0))]) w) H ⟨sQ, sR, sT, si, sj, sk, sm, rT, rU, rV, rW, ri, sU, sV, sW, sn, sq, sr, ss, rX, su, sv, sw, rY, uG, uH, uI, uj, uk, ul, um, t0, un, uo, uq, t3, ⟨rfl, rfl, trivial⟩, hO, dK, dw, dt, dM, dF, dG, d6, eH, eI, hB⟩ ?_
   intro X2
   refine prE fun k2_40 => prE fun b2_41 => prE fun k2_42 => prE fun d_43 => prE fun d_49 => prE fun d_55 => prE fun d_61 => prE fun d_67 => prE fun d_73 => prE fun d_79 => prE fun d_85 => prE fun d_91 => fun m2_97 => ?_
   intro H hX2 σ w39
   refine exE fun n48 => exE fun p46 => exE fun c47 => exE fun qi => exE fun n54 => exE fun p52 => exE fun c53 => exE fun qj => exE fun n60 => exE fun p58 => exE fun c59 => exE fun qk => exE fun n66 => exE fun p64 => exE fun c65 => exE fun ql => exE fun n72 => exE fun p70 => exE fun c71 => exE fun qm => exE fun n78 => exE fun p76 => exE fun c77 => exE fun qn => exE fun n84 => exE fun p82 => exE fun c83 => exE fun oh => exE fun n90 => exE fun p88 => exE fun c89 => exE fun qo => exE fun n96 => exE fun p94 => exE fun c95 => exE fun qp => andE fun hag => andE fun hO => andE fun xg => andE fun uJ => andE fun ur => andE fun tI => andE fun rc => andE fun rk => andE fun qP => andE fun qQ => andE fun ki => fun hB => ?_
   dsimp only at H
   refine Go1.keep [(4, .pointer (some ⟨B2, 0, none⟩)), (6, .pointer (some ⟨ly, 0, none⟩))] hag ?_
   refine Go1.seq ?_
   refine Go1.seq ?_
   refine Go1.region ?_
   refine GoR.op ((op_move rfl) _) rfl rfl ?_
   refine GoR.inl (vs := [.pointer (some ⟨ly, 0, none⟩)]) (caps := []) rfl rfl body50 Try.func50 rfl Try.ntmps50 rfl rfl rfl ?_
   intro RhR98 hR98
   refine Go1.seq ?_
   refine Go1.region ?_
   refine GoR.op ((op_assign rfl) _) rfl rfl ?_
   refine GoR.nil ?_
   refine Go1.seq ?_
   refine Go1.drawS 0 [(0, .pure), (1, .pure), (2, .pure), (3, .pure), (4, .stable), (5, .pure), (6, .pure), (7, .pure), (8, .pure), (9, .stable), (10, .pure), (11, .pure), (12, .pure)] mixed (by kernel_rfl) ?_
   intro w99 F8
   have jU := Stp.same hO F8
   replace xg := xg.ch jU.ch
   replace uJ := uJ.ch jU.ch
   replace ur := ur.ch jU.ch
   replace tI := tI.ch jU.ch
   replace rc := rc.ch jU.ch
   replace rk := rk.ch jU.ch
   replace qP := qP.ch jU.ch
   replace qQ := qQ.ch jU.ch
   replace ki := ki.ch jU.ch
   replace hO := jU.own
   replace hB := hB.trans jU.fr
   refine GoQ.pure rfl (op_move rfl) rfl rfl ?_
   refine GoQ.pure rfl (op_nilCheck rfl) rfl rfl ?_
   refine GoQ.pure rfl (op_fieldAddr Try.underlying72 rfl ti29 rfl (by decide)) rfl rfl ?_
   refine GoQ.pure rfl (op_fieldAddr Try.underlying29 rfl ti3 rfl (by decide)) rfl rfl ?_
   refine GoQ.stable rfl (oblk (i := 8) 0 hO rfl rfl Try.underlying3 rfl rfl) rfl rfl ?_
   refine GoQ.pure rfl (op_move rfl) rfl rfl ?_
   refine GoQ.pure rfl (op_nilCheck rfl) rfl rfl ?_
   refine GoQ.pure rfl (op_fieldAddr Try.underlying72 rfl ti29 rfl (by decide)) rfl rfl ?_
   refine GoQ.pure rfl (op_fieldAddr Try.underlying29 rfl ti22 rfl (by decide)) rfl rfl ?_
   refine GoQ.stable rfl (oblk (i := 3) 0 hO rfl rfl Try.underlying22 rfl rfl) rfl rfl ?_
   refine GoQ.pure rfl (op_lenN Try.underlying22 rfl (uJ.neq hO 2 rfl)) rfl rfl ?_
   by_cases vc : k2_42 = (d_49.length : Int)
   ·replace H := ifp vc H
    refine GoQ.pure rfl (fun w => opB (op_eql rfl rfl w) (decide_eq_true vc)) rfl rfl ?_
    refine GoQ.pure rfl (op_assign rfl) rfl rfl ?_
    refine GoQ.nil ?_
    refine Go1.ret1V Try.func50 rfl (show _ = .bool true from rfl) ?_
    refine hR98 _ _ ?_
    refine GoR.op ((op_not rfl) _) rfl rfl ?_
    refine GoR.nil ?_
    refine Go1.condF rfl rfl ?_
    refine Go1.exit rfl ?_
    refine Go1.seq ?_
    refine Go1.region ?_
    refine GoR.op ((op_move rfl) _) rfl rfl ?_
    refine GoR.op ((op_nilCheck rfl) _) rfl rfl ?_
    refine GoR.op ((op_fieldAddr Try.underlying72 rfl ti29 rfl (by decide)) _) rfl rfl ?_
    refine GoR.op ((oblkAgg (vs := [.int .i64 k2_40, .bool b2_41, .slice p46 n48 c47, .slice p52 n54 c53, .slice p58 n60 c59, .slice p64 n66 c65, .slice p70 n72 c71, .slice p76 n78 c77, .int .i64 k2_42]) (i := 0) 0 hO rfl rfl Try.underlying29 rfl ti29 rfl) _ (Same.refl _)) rfl rfl ?_
    have hobt := oblkStAgg (us := [.int .i64 k2_40, .bool b2_41, .slice p46 n48 c47, .slice p52 n54 c53, .slice p58 n60 c59, .slice p64 n66 c65, .slice p70 n72 c71, .slice p76 n78 c77, .int .i64 k2_42]) (o := 0) (cs' := #[.int .i64 k2_40, .bool b2_41, .slice p46 n48 c47, .slice p52 n54 c53, .slice p58 n60 c59, .slice p64 n66 c65, .slice p70 n72 c71, .slice p76 n78 c77, .int .i64 k2_42]) 11 hO rfl rfl (Nat.le_of_ble_eq_true rfl) rfl
    obtain ⟨IF, jd, Dp⟩ := hobt
    dsimp only [sS, sZ] at jd
    refine GoR.op (Dp ti29 (by exact rfl) (by exact rfl) rfl) rfl rfl ?_
    replace xg := xg.ch jd.ch
    replace uJ := uJ.ch jd.ch
    replace ur := ur.ch jd.ch
    replace tI := tI.ch jd.ch
    replace rc := rc.ch jd.ch
    replace rk := rk.ch jd.ch
    replace qP := qP.ch jd.ch
    replace qQ := qQ.ch jd.ch
    replace ki := ki.ch jd.ch
    replace hO := jd.own
    replace hB := hB.trans jd.fr
    refine GoR.op ((op_assign rfl) _) rfl rfl ?_
    refine GoR.nil ?_
    have hobt := freeze 1 hO rfl xg
    obtain ⟨hO1, tM, rO, F9⟩ := hobt
    dsimp only [eS, eZ] at hO1 tM rO
    replace uJ := uJ.ch tM
    replace ur := ur.ch tM
    replace tI := tI.ch tM
    replace rc := rc.ch tM
    replace rk := rk.ch tM
    replace qP := qP.ch tM
    replace qQ := qQ.ch tM
    replace ki := ki.ch tM
    replace hB := hB.trans (Owns.dropFr _ _ 1)
    dsimp only [eS, eZ] at hB
    replace hO := hO1; clear hO1
    have hobt := freeze 1 hO rfl uJ
    obtain ⟨hO1, tN, tq, Ga⟩ := hobt
    dsimp only [eS, eZ] at hO1 tN tq
    replace rO := rO.ch tN
    replace ur := ur.ch tN
    replace tI := tI.ch tN
    replace rc := rc.ch tN
    replace rk := rk.ch tN
    replace qP := qP.ch tN
    replace qQ := qQ.ch tN
    replace ki := ki.ch tN
    replace hB := hB.trans (Owns.dropFr _ _ 1)
    dsimp only [eS, eZ] at hB
    replace hO := hO1; clear hO1
    have hobt := freeze 1 hO rfl ur
    obtain ⟨hO1, tO, ue, Gb⟩ := hobt
    dsimp only [eS, eZ] at hO1 tO ue
    replace rO := rO.ch tO
    replace tq := tq.ch tO
    replace tI := tI.ch tO
    replace rc := rc.ch tO
    replace rk := rk.ch tO
    replace qP := qP.ch tO
    replace qQ := qQ.ch tO
    replace ki := ki.ch tO
    replace hB := hB.trans (Owns.dropFr _ _ 1)
    dsimp only [eS, eZ] at hB
    replace hO := hO1; clear hO1
    have hobt := freeze 1 hO rfl tI
    obtain ⟨hO1, tP, vB, Gc⟩ := hobt
    dsimp only [eS, eZ] at hO1 tP vB
    replace rO := rO.ch tP
    replace tq := tq.ch tP
    replace ue := ue.ch tP
    replace rc := rc.ch tP
    replace rk := rk.ch tP
    replace qP := qP.ch tP
    replace qQ := qQ.ch tP
    replace ki := ki.ch tP
    replace hB := hB.trans (Owns.dropFr _ _ 1)
    dsimp only [eS, eZ] at hB
    replace hO := hO1; clear hO1
    have hobt := freeze 1 hO rfl rc
    obtain ⟨hO1, tQ, xN, Gd⟩ := hobt
    dsimp only [eS, eZ] at hO1 tQ xN
    replace rO := rO.ch tQ
    replace tq := tq.ch tQ
    replace ue := ue.ch tQ
    replace vB := vB.ch tQ
    replace rk := rk.ch tQ
    replace qP := qP.ch tQ
    replace qQ := qQ.ch tQ
    replace ki := ki.ch tQ
    replace hB := hB.trans (Owns.dropFr _ _ 1)
    dsimp only [eS, eZ] at hB
    replace hO := hO1; clear hO1
    have hobt := freeze 1 hO rfl rk
    obtain ⟨hO1, tR, Ba, Ge⟩ := hobt
    dsimp only [eS, eZ] at hO1 tR Ba
    replace rO := rO.ch tR
    replace tq := tq.ch tR
    replace ue := ue.ch tR
    replace vB := vB.ch tR
    replace xN := xN.ch tR
    replace qP := qP.ch tR
    replace qQ := qQ.ch tR
    replace ki := ki.ch tR
    replace hB := hB.trans (Owns.dropFr _ _ 1)
    dsimp only [eS, eZ] at hB
    replace hO := hO1; clear hO1
    refine Go1.retC2 Try.func17 rfl rfl (run_loadBlk (vs := [.int .i64 k2_40, .bool b2_41, .slice p46 n48 c47, .slice p52 n54 c53, .slice p58 n60 c59, .slice p64 n66 c65, .slice p70 n72 c71, .slice p76 n78 c77, .int .i64 k2_42]) 5 hO rfl rfl Try.underlying29 rfl ti29) ?_
    exact ⟨(⟨k2_40, b2_41, d_43, d_49, d_55, d_61, d_67, d_73, k2_42⟩ : Enum), (0 : Int), p46, c47, p52, c53, p58, c59, p64, c65, p70, c71, p76, c77, (congrArg (fun l => Value.tuple (List.toArray l)) (cons_eq (congrArg (fun l => Value.agg (List.toArray l)) (cons_eq rfl (cons_eq rfl (cons_eq (congrArg (fun nn => Value.slice p46 nn c47) F9) (cons_eq (congrArg (fun nn => Value.slice p52 nn c53) Ga) (cons_eq (congrArg (fun nn => Value.slice p58 nn c59) Gb) (cons_eq (congrArg (fun nn => Value.slice p64 nn c65) Gc) (cons_eq (congrArg (fun nn => Value.slice p70 nn c71) Gd) (cons_eq (congrArg (fun nn => Value.slice p76 nn c77) Ge) (cons_eq rfl rfl)))))))))) (cons_eq rfl rfl))), hB.same, (rO.ch (Ch.weak _ _ _)), (tq.ch (Ch.weak _ _ _)), (ue.ch (Ch.weak _ _ _)), (vB.ch (Ch.weak _ _ _)), (xN.ch (Ch.weak _ _ _)), (Ba.ch (Ch.weak _ _ _)), H⟩
   replace H := ifn vc H
   refine GoQ.pure rfl (fun w => opB (op_eql rfl rfl w) (decide_eq_false vc)) rfl rfl ?_
   refine GoQ.pure rfl (op_assign rfl) rfl rfl ?_
   refine GoQ.nil ?_
   refine Go1.ret1V Try.func50 rfl (show _ = .bool false from rfl) ?_
   refine hR98 _ _ ?_
   refine GoR.op ((op_not rfl) _) rfl rfl ?_
   refine GoR.nil ?_
   refine Go1.condT rfl rfl ?_
   refine Go1.skip ?_
   refine Go1.block ?_
   refine Go1.seq ?_
   refine Go1.cut [(4, .pointer (some ⟨B2, 0, none⟩)), (6, .pointer (some ⟨ly, 0, none⟩))] ⟨rfl, rfl, trivial⟩ ?_
   intro σ _
   refine Go1.region ?_
   refine GoR.op ((op_move rfl) _) rfl rfl ?_
   have Bb : Owns w0.heap.size w99 ([.blk ly (.cells #[.int .i64 k2_40, .bool b2_41, .slice p46 n48 c47, .slice p52 n54 c53, .slice p58 n60 c59, .slice p64 n66 c65, .slice p70 n72 c71, .slice p76 n78 c77, .int .i64 k2_42, .map (some cJ), .slice p82 n84 c83, .slice p88 n90 c89, .slice p94 n96 c95] 72 (0, 0)), .row 26 1 p46 n48 c47 qi, .row 26 1 p52 n54 c53 qj, .row 3 1 p58 n60 c59 qk, .row 3 1 p64 n66 c65 ql, .row 26 1 p70 n72 c71 qm, .row 39 2 p76 n78 c77 qn, .row 9 1 p82 n84 c83 oh, .row 3 1 p88 n90 c89 qo, .row 3 1 p94 n96 c95 qp, .any (mapE (fun a : List UInt8 => Value.string (gstr a)) (fun a : Int => Value.int .i64 a) cJ m2_97)] ++ [.blk B2 (.cells #[.int .i64 (0 : Int), .bool false, .slice none 0 0, .slice none 0 0, .slice none 0 0, .slice none 0 0, .slice none 0 0, .slice none 0 0, .int .i64 (0 : Int)] 29 (0, 0))]) A := hO
   have Gf := Owns.split Bb
   have hca126 : Ch (bl [.blk ly (.cells #[.int .i64 k2_40, .bool b2_41, .slice p46 n48 c47, .slice p52 n54 c53, .slice p58 n60 c59, .slice p64 n66 c65, .slice p70 n72 c71, .slice p76 n78 c77, .int .i64 k2_42, .map (some cJ), .slice p82 n84 c83, .slice p88 n90 c89, .slice p94 n96 c95] 72 (0, 0)), .row 26 1 p46 n48 c47 qi, .row 26 1 p52 n54 c53 qj, .row 3 1 p58 n60 c59 qk, .row 3 1 p64 n66 c65 ql, .row 26 1 p70 n72 c71 qm, .row 39 2 p76 n78 c77 qn, .row 9 1 p82 n84 c83 oh, .row 3 1 p88 n90 c89 qo, .row 3 1 p94 n96 c95 qp, .any (mapE (fun a : List UInt8 => Value.string (gstr a)) (fun a : Int => Value.int .i64 a) cJ m2_97), .blk B2 (.cells #[.int .i64 (0 : Int), .bool false, .slice none 0 0, .slice none 0 0, .slice none 0 0, .slice none 0 0, .slice none 0 0, .slice none 0 0, .int .i64 (0 : Int)] 29 (0, 0))] ++ A) w99 (bl [.blk ly (.cells #[.int .i64 k2_40, .bool b2_41, .slice p46 n48 c47, .slice p52 n54 c53, .slice p58 n60 c59, .slice p64 n66 c65, .slice p70 n72 c71, .slice p76 n78 c77, .int .i64 k2_42, .map (some cJ), .slice p82 n84 c83, .slice p88 n90 c89, .slice p94 n96 c95] 72 (0, 0)), .row 26 1 p46 n48 c47 qi, .row 26 1 p52 n54 c53 qj, .row 3 1 p58 n60 c59 qk, .row 3 1 p64 n66 c65 ql, .row 26 1 p70 n72 c71 qm, .row 39 2 p76 n78 c77 qn, .row 9 1 p82 n84 c83 oh, .row 3 1 p88 n90 c89 qo, .row 3 1 p94 n96 c95 qp, .any (mapE (fun a : List UInt8 => Value.string (gstr a)) (fun a : Int => Value.int .i64 a) cJ m2_97)] ++ (bl [.blk B2 (.cells #[.int .i64 (0 : Int), .bool false, .slice none 0 0, .slice none 0 0, .slice none 0 0, .slice none 0 0, .slice none 0 0, .slice none 0 0, .int .i64 (0 : Int)] 29 (0, 0))] ++ A)) w99 := Ch.assoc' [.blk ly (.cells #[.int .i64 k2_40, .bool b2_41, .slice p46 n48 c47, .slice p52 n54 c53, .slice p58 n60 c59, .slice p64 n66 c65, .slice p70 n72 c71, .slice p76 n78 c77, .int .i64 k2_42, .map (some cJ), .slice p82 n84 c83, .slice p88 n90 c89, .slice p94 n96 c95] 72 (0, 0)), .row 26 1 p46 n48 c47 qi, .row 26 1 p52 n54 c53 qj, .row 3 1 p58 n60 c59 qk, .row 3 1 p64 n66 c65 ql, .row 26 1 p70 n72 c71 qm, .row 39 2 p76 n78 c77 qn, .row 9 1 p82 n84 c83 oh, .row 3 1 p88 n90 c89 qo, .row 3 1 p94 n96 c95 qp, .any (mapE (fun a : List UInt8 => Value.string (gstr a)) (fun a : Int => Value.int .i64 a) cJ m2_97)] [.blk B2 (.cells #[.int .i64 (0 : Int), .bool false, .slice none 0 0, .slice none 0 0, .slice none 0 0, .slice none 0 0, .slice none 0 0, .slice none 0 0, .int .i64 (0 : Int)] 29 (0, 0))] A w99
   refine GoR.call (op_call body51 rfl (walk_enumerate_run_process (a0 := (⟨(⟨k2_40, b2_41, d_43, d_49, d_55, d_61, d_67, d_73, k2_42⟩ : Enum), m2_97, d_79, d_85, d_91⟩ : run)) Gf (xg.ch hca126) (uJ.ch hca126) (ur.ch hca126) (tI.ch hca126) (rc.ch hca126) (rk.ch hca126) (qP.ch hca126) (qQ.ch hca126) (ki.ch hca126) H)) rfl rfl ?_
   intro IG zg
   refine exE fun r127 => exE fun q128 => exE fun g6 => exE fun g7 => exE fun g8 => exE fun mP => exE fun gw => exE fun gx => exE fun gy => exE fun lO => exE fun gh => exE fun gi => exE fun gj => exE fun lk => exE fun g9 => exE fun hV => exE fun hZ => exE fun mQ => exE fun gz => exE fun gA => exE fun gB => exE fun lP => exE fun gC => exE fun gD => exE fun gE => exE fun lQ => exE fun kB => exE fun kC => exE fun kD => exE fun qd => exE fun jm => exE fun jo => exE fun jp => exE fun oE => exE fun jq => exE fun jr => exE fun jt => exE fun oF => andE fun hv134 => andE fun hN131 => andE fun mS => andE fun lR => andE fun ll => andE fun mT => andE fun lT => andE fun lU => andE fun qe => andE fun oG => andE fun oH => andE fun hF132 => fun H => ?_
   subst hv134
   have zL : Stp w0.heap.size A w99 [.blk ly (.cells #[.int .i64 k2_40, .bool b2_41, .slice p46 n48 c47, .slice p52 n54 c53, .slice p58 n60 c59, .slice p64 n66 c65, .slice p70 n72 c71, .slice p76 n78 c77, .int .i64 k2_42, .map (some cJ), .slice p82 n84 c83, .slice p88 n90 c89, .slice p94 n96 c95] 72 (0, 0)), .row 26 1 p46 n48 c47 qi, .row 26 1 p52 n54 c53 qj, .row 3 1 p58 n60 c59 qk, .row 3 1 p64 n66 c65 ql, .row 26 1 p70 n72 c71 qm, .row 39 2 p76 n78 c77 qn, .row 9 1 p82 n84 c83 oh, .row 3 1 p88 n90 c89 qo, .row 3 1 p94 n96 c95 qp, .any (mapE (fun a : List UInt8 => Value.string (gstr a)) (fun a : Int => Value.int .i64 a) cJ m2_97), .blk B2 (.cells #[.int .i64 (0 : Int), .bool false, .slice none 0 0, .slice none 0 0, .slice none 0 0, .slice none 0 0, .slice none 0 0, .slice none 0 0, .int .i64 (0 : Int)] 29 (0, 0))] zg [.blk ly (.cells #[.int .i64 q128.Enum.Points, .bool q128.Enum.Monoid, .slice g7 g6 g8, .slice gx gw gy, .slice gi gh gj, .slice hV g9 hZ, .slice gA gz gB, .slice gD gC gE, .int .i64 q128.Enum.Done, .map (some cJ), .slice kC kB kD, .slice jo jm jp, .slice jr jq jt] 72 (0, 0)), .row 26 1 g7 g6 g8 mP, .row 26 1 gx gw gy lO, .row 3 1 gi gh gj lk, .row 3 1 hV g9 hZ mQ, .row 26 1 gA gz gB lP, .row 39 2 gD gC gE lQ, .row 9 1 kC kB kD qd, .row 3 1 jo jm jp oE, .row 3 1 jr jq jt oF, .any (mapE (fun a : List UInt8 => Value.string (gstr a)) (fun a : Int => Value.int .i64 a) cJ q128.number), .blk B2 (.cells #[.int .i64 (0 : Int), .bool false, .slice none 0 0, .slice none 0 0, .slice none 0 0, .slice none 0 0, .slice none 0 0, .slice none 0 0, .int .i64 (0 : Int)] 29 (0, 0))] := Stp.join Bb hN131 hF132
   replace hO := zL.own
   replace hB := hB.trans zL.fr
   have hca135 : Ch (bl [.blk ly (.cells #[.int .i64 q128.Enum.Points, .bool q128.Enum.Monoid, .slice g7 g6 g8, .slice gx gw gy, .slice gi gh gj, .slice hV g9 hZ, .slice gA gz gB, .slice gD gC gE, .int .i64 q128.Enum.Done, .map (some cJ), .slice kC kB kD, .slice jo jm jp, .slice jr jq jt] 72 (0, 0)), .row 26 1 g7 g6 g8 mP, .row 26 1 gx gw gy lO, .row 3 1 gi gh gj lk, .row 3 1 hV g9 hZ mQ, .row 26 1 gA gz gB lP, .row 39 2 gD gC gE lQ, .row 9 1 kC kB kD qd, .row 3 1 jo jm jp oE, .row 3 1 jr jq jt oF, .any (mapE (fun a : List UInt8 => Value.string (gstr a)) (fun a : Int => Value.int .i64 a) cJ q128.number)] ++ (bl [.blk B2 (.cells #[.int .i64 (0 : Int), .bool false, .slice none 0 0, .slice none 0 0, .slice none 0 0, .slice none 0 0, .slice none 0 0, .slice none 0 0, .int .i64 (0 : Int)] 29 (0, 0))] ++ A)) zg (bl [.blk ly (.cells #[.int .i64 q128.Enum.Points, .bool q128.Enum.Monoid, .slice g7 g6 g8, .slice gx gw gy, .slice gi gh gj, .slice hV g9 hZ, .slice gA gz gB, .slice gD gC gE, .int .i64 q128.Enum.Done, .map (some cJ), .slice kC kB kD, .slice jo jm jp, .slice jr jq jt] 72 (0, 0)), .row 26 1 g7 g6 g8 mP, .row 26 1 gx gw gy lO, .row 3 1 gi gh gj lk, .row 3 1 hV g9 hZ mQ, .row 26 1 gA gz gB lP, .row 39 2 gD gC gE lQ, .row 9 1 kC kB kD qd, .row 3 1 jo jm jp oE, .row 3 1 jr jq jt oF, .any (mapE (fun a : List UInt8 => Value.string (gstr a)) (fun a : Int => Value.int .i64 a) cJ q128.number), .blk B2 (.cells #[.int .i64 (0 : Int), .bool false, .slice none 0 0, .slice none 0 0, .slice none 0 0, .slice none 0 0, .slice none 0 0, .slice none 0 0, .int .i64 (0 : Int)] 29 (0, 0))] ++ A) zg := Ch.assoc [.blk ly (.cells #[.int .i64 q128.Enum.Points, .bool q128.Enum.Monoid, .slice g7 g6 g8, .slice gx gw gy, .slice gi gh gj, .slice hV g9 hZ, .slice gA gz gB, .slice gD gC gE, .int .i64 q128.Enum.Done, .map (some cJ), .slice kC kB kD, .slice jo jm jp, .slice jr jq jt] 72 (0, 0)), .row 26 1 g7 g6 g8 mP, .row 26 1 gx gw gy lO, .row 3 1 gi gh gj lk, .row 3 1 hV g9 hZ mQ, .row 26 1 gA gz gB lP, .row 39 2 gD gC gE lQ, .row 9 1 kC kB kD qd, .row 3 1 jo jm jp oE, .row 3 1 jr jq jt oF, .any (mapE (fun a : List UInt8 => Value.string (gstr a)) (fun a : Int => Value.int .i64 a) cJ q128.number)] [.blk B2 (.cells #[.int .i64 (0 : Int), .bool false, .slice none 0 0, .slice none 0 0, .slice none 0 0, .slice none 0 0, .slice none 0 0, .slice none 0 0, .int .i64 (0 : Int)] 29 (0, 0))] A zg
   replace mS := mS.ch hca135
   replace lR := lR.ch hca135
   replace ll := ll.ch hca135
   replace mT := mT.ch hca135
   replace lT := lT.ch hca135
   replace lU := lU.ch hca135
   replace qe := qe.ch hca135
   replace oG := oG.ch hca135
   replace oH := oH.ch hca135
   refine GoR.op ((op_assign rfl) _) rfl rfl ?_
   refine GoR.nil ?_
   refine Go1.seq ?_
   refine Go1.region ?_
   refine GoR.op ((op_move rfl) _) rfl rfl ?_
   by_cases zh : r127 = (0 : Int)
   ·replace H := ifp zh H
    refine GoR.op ((fun w => opB (op_neq rfl rfl w) (ndT zh)) _) rfl rfl ?_
    refine GoR.nil ?_
    refine Go1.condF rfl rfl ?_
    refine Go1.skip ?_
    refine Go1.inBlock ?_
    exact hX2 _ H _ _ ⟨g6, g7, g8, mP, gw, gx, gy, lO, gh, gi, gj, lk, g9, hV, hZ, mQ, gz, gA, gB, lP, gC, gD, gE, lQ, kB, kC, kD, qd, jm, jo, jp, oE, jq, jr, jt, oF, ⟨rfl, rfl, trivial⟩, hO, mS, lR, ll, mT, lT, lU, qe, oG, oH, hB⟩
   replace H := ifn zh H
   refine GoR.op ((fun w => opB (op_neq rfl rfl w) (ndF zh)) _) rfl rfl ?_
   refine GoR.nil ?_
   refine Go1.condT rfl rfl ?_
   refine Go1.seq ?_
   refine Go1.region ?_
   refine GoR.op ((op_build Try.underlying29 ti29 (pl := [(0, 1), (1, 1), (2, 1), (3, 1), (4, 1), (5, 1), (6, 1), (7, 1), (8, 1)]) (vs := []) (cs := #[.int .i64 (0 : Int), .bool false, .slice none 0 0, .slice none 0 0, .slice none 0 0, .slice none 0 0, .slice none 0 0, .slice none 0 0, .int .i64 (0 : Int)]) (by kernel_rfl) rfl (by kernel_rfl)) _) rfl rfl ?_
   refine GoR.op ((op_move rfl) _) rfl rfl ?_
   have hobt := oblkStAgg (us := [.int .i64 (0 : Int), .bool false, .slice none 0 0, .slice none 0 0, .slice none 0 0, .slice none 0 0, .slice none 0 0, .slice none 0 0, .int .i64 (0 : Int)]) (o := 0) (cs' := #[.int .i64 (0 : Int), .bool false, .slice none 0 0, .slice none 0 0, .slice none 0 0, .slice none 0 0, .slice none 0 0, .slice none 0 0, .int .i64 (0 : Int)]) 11 hO rfl rfl (Nat.le_of_ble_eq_true rfl) rfl
   obtain ⟨M0, qf, Dq⟩ := hobt
   dsimp only [sS, sZ] at qf
   refine GoR.op (Dq ti29 (by exact rfl) (by exact rfl) rfl) rfl rfl ?_
   replace mS := mS.ch qf.ch
   replace lR := lR.ch qf.ch
   replace ll := ll.ch qf.ch
   replace mT := mT.ch qf.ch
   replace lT := lT.ch qf.ch
   replace lU := lU.ch qf.ch
   replace qe := qe.ch qf.ch
   replace oG := oG.ch qf.ch
   replace oH := oH.ch qf.ch
   replace hO := qf.own
   replace hB := hB.trans qf.fr
   refine GoR.op ((op_assign rfl) _) rfl rfl ?_
   refine GoR.nil ?_
   refine Go1.retC2 Try.func17 rfl rfl (run_loadBlk (vs := [.int .i64 (0 : Int), .bool false, .slice none 0 0, .slice none 0 0, .slice none 0 0, .slice none 0 0, .slice none 0 0, .slice none 0 0, .int .i64 (0 : Int)]) 11 hO rfl rfl Try.underlying29 rfl ti29) ?_
   exact ⟨(⟨(0 : Int), false, ([] : List (List Int)), ([] : List (List Int)), ([] : List Int), ([] : List Int), ([] : List (List Int)), ([] : List Rule), (0 : Int)⟩ : Enum), r127, none, 0, none, 0, none, 0, none, 0, none, 0, none, 0, rfl, hB.same, (ISl.null _ _ _), (ISl.null _ _ _), (ISl.null _ _ _), (ISl.null _ _ _), (ISl.null _ _ _), (ISl.null _ _ _), H⟩
  replace H := ifn h38 H
  refine GoR.op ((fun w => opB (op_neq rfl rfl w) (ndF h38)) _) rfl rfl ?_
  refine GoR.nil ?_
  refine Go1.condT rfl rfl ?_
  refine Go1.seq ?_
  refine Go1.region ?_
  refine GoR.op ((op_build Try.underlying29 ti29 (pl := [(0, 1), (1, 1), (2, 1), (3, 1), (4, 1), (5, 1), (6, 1), (7, 1), (8, 1)]) (vs := []) (cs := #[.int .i64 (0 : Int), .bool false, .slice none 0 0, .slice none 0 0, .slice none 0 0, .slice none 0 0, .slice none 0 0, .slice none 0 0, .int .i64 (0 : Int)]) (by kernel_rfl) rfl (by kernel_rfl)) _) rfl rfl ?_
  refine GoR.op ((op_move rfl) _) rfl rfl ?_
  have hobt := oblkStAgg (us := [.int .i64 (0 : Int), .bool false, .slice none 0 0, .slice none 0 0, .slice none 0 0, .slice none 0 0, .slice none 0 0, .slice none 0 0, .int .i64 (0 : Int)]) (o := 0) (cs' := #[.int .i64 (0 : Int), .bool false, .slice none 0 0, .slice none 0 0, .slice none 0 0, .slice none 0 0, .slice none 0 0, .slice none 0 0, .int .i64 (0 : Int)]) 11 hO rfl rfl (Nat.le_of_ble_eq_true rfl) rfl
  obtain ⟨IH, oI, Dr⟩ := hobt
  dsimp only [sS, sZ] at oI
  refine GoR.op (Dr ti29 (by exact rfl) (by exact rfl) rfl) rfl rfl ?_
  replace dK := dK.ch oI.ch
  replace dw := dw.ch oI.ch
  replace dt := dt.ch oI.ch
  replace dM := dM.ch oI.ch
  replace dF := dF.ch oI.ch
  replace dG := dG.ch oI.ch
  replace d6 := d6.ch oI.ch
  replace eH := eH.ch oI.ch
  replace eI := eI.ch oI.ch
  replace hO := oI.own
  replace da := da.ch oI.ch
  replace hB := hB.trans oI.fr
  refine GoR.op ((op_assign rfl) _) rfl rfl ?_
  refine GoR.nil ?_
  refine Go1.retC2 Try.func17 rfl rfl (run_loadBlk (vs := [.int .i64 (0 : Int), .bool false, .slice none 0 0, .slice none 0 0, .slice none 0 0, .slice none 0 0, .slice none 0 0, .slice none 0 0, .int .i64 (0 : Int)]) 11 hO rfl rfl Try.underlying29 rfl ti29) ?_
  exact ⟨(⟨(0 : Int), false, ([] : List (List Int)), ([] : List (List Int)), ([] : List Int), ([] : List Int), ([] : List (List Int)), ([] : List Rule), (0 : Int)⟩ : Enum), r8, none, 0, none, 0, none, 0, none, 0, none, 0, none, 0, rfl, hB.same, (ISl.null _ _ _), (ISl.null _ _ _), (ISl.null _ _ _), (ISl.null _ _ _), (ISl.null _ _ _), (ISl.null _ _ _), H⟩
theorem body70 : Body Try.prog 70 := ⟨Try.f70, Try.func70, rfl, by kernel_rfl⟩
theorem walk_slices_Equal_int {A : List Nat} {w0 : World} {nT : Option Addr} {nU : Nat} {nV : Option Addr} {nW : Nat} {s1 : List Int} {s2 : List Int} (hA : ∀ b ∈ A, b < w0.heap.size) (iO : ISl (Rp.int .i64) A w0 nT nU s1) (jf : ISl (Rp.int .i64) A w0 nV nW s2) {K : Bool → Prop} (H : slices_Equal_int s1 s2 K) :
    CallsV Try.prog 70 #[.slice nT s1.length nU, .slice nV s2.length nW] w0 (fun v w' => ∃ (r0 : Bool), v = .bool r0 ∧ Same w0 w' ∧ K r0) := by
 refine CallsV.of (l := [.slice nT s1.length nU, .slice nV s2.length nW]) Try.func70 rfl Try.ntmps70 rfl ?_
 have hO := Owns.start hA
 have hB := Fr.refl (bl []) w0
 unfold slices_Equal_int at H
 replace iO := iO.ch (Ch.start A w0)
 replace jf := jf.ch (Ch.start A w0)
 refine Go1.seq ?_
 refine Go1.region ?_
 refine GoR.op ((op_assign rfl) _) rfl rfl ?_
 refine GoR.nil ?_
 refine Go1.seq ?_
 refine Go1.seq ?_
 refine Go1.region ?_
 refine GoR.op ((op_move rfl) _) rfl rfl ?_
 refine GoR.op ((op_len Try.underlying26 rfl) _) rfl rfl ?_
 replace H := H iO.bd
 refine GoR.op ((op_move rfl) _) rfl rfl ?_
 refine GoR.op ((op_len Try.underlying26 rfl) _) rfl rfl ?_
 replace H := H jf.bd
 by_cases h1 : (s1.length : Int) = (s2.length : Int)
 ·replace H := ifp h1 H
  refine GoR.op ((fun w => opB (op_neq rfl rfl w) (ndT h1)) _) rfl rfl ?_
  refine GoR.nil ?_
  refine Go1.condF rfl rfl ?_
  refine Go1.skip ?_
  refine Go1.seq ?_
  refine Go1.seq ?_
  refine Go1.region ?_
  refine GoR.op ((op_move rfl) _) rfl rfl ?_
  refine GoR.op ((op_len Try.underlying26 rfl) _) rfl rfl ?_
  refine GoR.op ((op_move rfl) _) rfl rfl ?_
  refine GoR.nil ?_
  refine Go1.block ?_
  refine Go1.loopW (S := Nat) (fun s σ w => agrees σ [(0, .slice nT s1.length nU), (1, .slice nV s2.length nW), (12, .int .i64 (s1.length : Int)), (13, .int .i64 (s : Int))] ∧ Owns w0.heap.size w [] A ∧ ISl (Rp.int .i64) (bl [] ++ A) w nT nU s1 ∧ ISl (Rp.int .i64) (bl [] ++ A) w nV nW s2 ∧ Fr (bl []) w0 (bl []) w) H ⟨⟨rfl, rfl, rfl, rfl, trivial⟩, hO, iO, jf, hB⟩ ?_
  intro X1 k1_3
  intro H hX1 σ w2
  refine andE fun hag => andE fun hO => andE fun iO => andE fun jf => fun hB => ?_
  refine Go1.keep [(0, .slice nT s1.length nU), (1, .slice nV s2.length nW), (12, .int .i64 (s1.length : Int)), (13, .int .i64 (k1_3 : Int))] hag ?_
  refine Go1.seq ?_
  refine Go1.region ?_
  by_cases h4 : (k1_3 : Int) < (s1.length : Int)
  ·replace H := ifp h4 H
   refine GoR.op ((fun w => opB (op_lss rfl rfl w) (decide_eq_true h4)) _) rfl rfl ?_
   refine GoR.nil ?_
   refine Go1.seq ?_
   refine Go1.condT rfl rfl ?_
   refine Go1.skip ?_
   refine Go1.seq ?_
   refine Go1.block ?_
   refine Go1.seq ?_
   refine Go1.region ?_
   refine GoR.op ((op_move rfl) _) rfl rfl ?_
   refine GoR.op ((op_assign rfl) _) rfl rfl ?_
   refine GoR.nil ?_
   refine Go1.seq ?_
   refine Go1.drawS 0 [(0, .pure), (1, .pure), (2, .pure), (3, .stable), (4, .pure), (5, .pure), (6, .pure), (7, .stable), (8, .pure)] mixed (by kernel_rfl) ?_
   intro w5 hs6
   have nc := Stp.same hO hs6
   replace hO := nc.own
   replace iO := iO.ch nc.ch
   replace jf := jf.ch nc.ch
   replace hB := hB.trans nc.fr
   refine GoQ.pure rfl (op_move rfl) rfl rfl ?_
   refine GoQ.pure rfl (op_move rfl) rfl rfl ?_
   obtain ⟨h8, H⟩ := H
   obtain ⟨h9, H⟩ := H
   refine GoQ.pure rfl (op_index Try.underlying26 ti3 rfl rfl h8 h9 (iO.some_ h8 h9)) rfl rfl ?_
   refine GoQ.stable rfl (ldInt iO h8 h9 Try.underlying3 rfl rfl) rfl rfl ?_
   refine GoQ.pure rfl (op_move rfl) rfl rfl ?_
   refine GoQ.pure rfl (op_move rfl) rfl rfl ?_
   obtain ⟨h10, H⟩ := H
   obtain ⟨h11, H⟩ := H
   refine GoQ.pure rfl (op_index Try.underlying26 ti3 rfl rfl h10 h11 (jf.some_ h10 h11)) rfl rfl ?_
   refine GoQ.stable rfl (ldInt jf h10 h11 Try.underlying3 rfl rfl) rfl rfl ?_
   by_cases h12 : (ix s1 (k1_3 : Int)) = (ix s2 (k1_3 : Int))
   ·replace H := ifp h12 H
    refine GoQ.pure rfl (fun w => opB (op_neq rfl rfl w) (ndT h12)) rfl rfl ?_
    refine GoQ.nil ?_
    refine Go1.condF rfl rfl ?_
    refine Go1.skip ?_
    refine Go1.inBlock ?_
    refine Go1.region ?_
    refine GoR.op ((op_add rfl rfl (wrap_i64 (natbd h4 iO.bd))) _) rfl rfl ?_
    refine GoR.op ((op_move rfl) _) rfl rfl ?_
    refine GoR.nil ?_
    exact hX1 _ H _ _ ⟨⟨rfl, rfl, rfl, rfl, trivial⟩, hO, iO, jf, hB⟩
   replace H := ifn h12 H
   refine GoQ.pure rfl (fun w => opB (op_neq rfl rfl w) (ndF h12)) rfl rfl ?_
   refine GoQ.nil ?_
   refine Go1.condT rfl rfl ?_
   refine Go1.seq ?_
   refine Go1.region ?_
   refine GoR.op ((op_assign rfl) _) rfl rfl ?_
   refine GoR.nil ?_
   refine Go1.ret1 Try.func70 rfl ?_
   exact ⟨false, rfl, hB.same, H⟩
  replace H := ifn h4 H
  refine GoR.op ((fun w => opB (op_lss rfl rfl w) (decide_eq_false h4)) _) rfl rfl ?_
  refine GoR.nil ?_
  refine Go1.seq ?_
  refine Go1.condF rfl rfl ?_
  refine Go1.exit rfl ?_
  refine Go1.seq ?_
  refine Go1.region ?_
  refine GoR.op ((op_assign rfl) _) rfl rfl ?_
  refine GoR.nil ?_
  refine Go1.ret1 Try.func70 rfl ?_
  exact ⟨true, rfl, hB.same, H⟩
 replace H := ifn h1 H
 refine GoR.op ((fun w => opB (op_neq rfl rfl w) (ndF h1)) _) rfl rfl ?_
 refine GoR.nil ?_
 refine Go1.condT rfl rfl ?_
 refine Go1.seq ?_
 refine Go1.region ?_
 refine GoR.op ((op_assign rfl) _) rfl rfl ?_
 refine GoR.nil ?_
 refine Go1.ret1 Try.func70 rfl ?_
 exact ⟨false, rfl, hB.same, H⟩
theorem body69 : Body Try.prog 69 := ⟨Try.f69, Try.func69, rfl, by kernel_rfl⟩
theorem walk_slices_EqualFunc_int {A : List Nat} {w0 : World} {nT : Option Addr} {nU : Nat} {nV : Option Addr} {nW : Nat} {s1 : List (List Int)} {s2 : List (List Int)} (hA : ∀ b ∈ A, b < w0.heap.size) (iO : ISl (Rp.sl (Rp.int .i64)) A w0 nT nU s1) (jf : ISl (Rp.sl (Rp.int .i64)) A w0 nV nW s2) {K : Bool → Prop} (H : slices_EqualFunc_int s1 s2 K) :
    CallsV Try.prog 69 #[.slice nT s1.length nU, .slice nV s2.length nW, .func (.func 70) #[] #[]] w0 (fun v w' => ∃ (r0 : Bool), v = .bool r0 ∧ Same w0 w' ∧ K r0) := by
 refine CallsV.of (l := [.slice nT s1.length nU, .slice nV s2.length nW, .func (.func 70) #[] #[]]) Try.func69 rfl Try.ntmps69 rfl ?_
 have hO := Owns.start hA
 have hB := Fr.refl (bl []) w0
 unfold slices_EqualFunc_int at H
 replace iO := iO.ch (Ch.start A w0)
 replace jf := jf.ch (Ch.start A w0)
 refine Go1.seq ?_
 refine Go1.region ?_
 refine GoR.op ((op_assign rfl) _) rfl rfl ?_
 refine GoR.nil ?_
 refine Go1.seq ?_
 refine Go1.seq ?_
 refine Go1.region ?_
 refine GoR.op ((op_move rfl) _) rfl rfl ?_
 refine GoR.op ((op_len Try.underlying22 rfl) _) rfl rfl ?_
 replace H := H iO.bd
 refine GoR.op ((op_move rfl) _) rfl rfl ?_
 refine GoR.op ((op_len Try.underlying22 rfl) _) rfl rfl ?_
 replace H := H jf.bd
 by_cases h1 : (s1.length : Int) = (s2.length : Int)
 ·replace H := ifp h1 H
  refine GoR.op ((fun w => opB (op_neq rfl rfl w) (ndT h1)) _) rfl rfl ?_
  refine GoR.nil ?_
  refine Go1.condF rfl rfl ?_
  refine Go1.skip ?_
  refine Go1.seq ?_
  refine Go1.seq ?_
  refine Go1.region ?_
  refine GoR.op ((op_move rfl) _) rfl rfl ?_
  refine GoR.op ((op_len Try.underlying22 rfl) _) rfl rfl ?_
  refine GoR.op ((op_move rfl) _) rfl rfl ?_
  refine GoR.nil ?_
  refine Go1.block ?_
  refine Go1.loopW (S := Nat) (fun s σ w => agrees σ [(1, .slice nV s2.length nW), (2, .func (.func 70) #[] #[]), (15, .slice nT s1.length nU), (16, .int .i64 (s1.length : Int)), (17, .int .i64 (s : Int))] ∧ Owns w0.heap.size w [] A ∧ ISl (Rp.sl (Rp.int .i64)) (bl [] ++ A) w nT nU s1 ∧ ISl (Rp.sl (Rp.int .i64)) (bl [] ++ A) w nV nW s2 ∧ Fr (bl []) w0 (bl []) w) H ⟨⟨rfl, rfl, rfl, rfl, rfl, trivial⟩, hO, iO, jf, hB⟩ ?_
  intro X1 k1_3
  intro H hX1 σ w2
  refine andE fun hag => andE fun hO => andE fun iO => andE fun jf => fun hB => ?_
  refine Go1.keep [(1, .slice nV s2.length nW), (2, .func (.func 70) #[] #[]), (15, .slice nT s1.length nU), (16, .int .i64 (s1.length : Int)), (17, .int .i64 (k1_3 : Int))] hag ?_
  refine Go1.seq ?_
  refine Go1.region ?_
  by_cases h4 : (k1_3 : Int) < (s1.length : Int)
  ·replace H := ifp h4 H
   refine GoR.op ((fun w => opB (op_lss rfl rfl w) (decide_eq_true h4)) _) rfl rfl ?_
   refine GoR.nil ?_
   refine Go1.seq ?_
   refine Go1.condT rfl rfl ?_
   refine Go1.skip ?_
   refine Go1.seq ?_
   refine Go1.block ?_
   refine Go1.seq ?_
   refine Go1.region ?_
   refine GoR.op ((op_move rfl) _) rfl rfl ?_
   obtain ⟨h5, H⟩ := H
   obtain ⟨h6, H⟩ := H
   refine GoR.op ((op_index Try.underlying22 ti26 rfl rfl h5 h6 (iO.some_ h5 h6)) _) rfl rfl ?_
   have hobt := ldSl iO h5 h6
   obtain ⟨p7, c8, hi9, II⟩ := hobt
   refine GoR.op ((II Try.underlying26 rfl rfl) _ (Same.refl _)) rfl rfl ?_
   refine GoR.op ((op_assign rfl) _) rfl rfl ?_
   refine GoR.op ((op_assign rfl) _) rfl rfl ?_
   refine GoR.nil ?_
   refine Go1.seq ?_
   refine Go1.region ?_
   refine GoR.op ((op_move rfl) _) rfl rfl ?_
   refine GoR.op ((op_move rfl) _) rfl rfl ?_
   obtain ⟨h11, H⟩ := H
   obtain ⟨h12, H⟩ := H
   refine GoR.op ((op_index Try.underlying22 ti26 rfl rfl h11 h12 (jf.some_ h11 h12)) _) rfl rfl ?_
   have hobt := ldSl jf h11 h12
   obtain ⟨p13, c14, mZ, AP⟩ := hobt
   refine GoR.op ((AP Try.underlying26 rfl rfl) _ (Same.refl _)) rfl rfl ?_
   refine GoR.op ((op_assign rfl) _) rfl rfl ?_
   refine GoR.nil ?_
   refine Go1.seq ?_
   refine Go1.region ?_
   refine GoR.op ((op_move rfl) _) rfl rfl ?_
   refine GoR.op ((op_move rfl) _) rfl rfl ?_
   refine GoR.op ((op_move rfl) _) rfl rfl ?_
   refine GoR.call (op_callV (caps := []) body70 rfl rfl (walk_slices_Equal_int hO.lt hi9 mZ H)) rfl rfl ?_
   rintro v21 w18 ⟨r17, rfl, Cu, H⟩
   have mq := Stp.same hO Cu
   replace hO := mq.own
   replace iO := iO.ch mq.ch
   replace jf := jf.ch mq.ch
   replace hi9 := hi9.ch mq.ch
   replace mZ := mZ.ch mq.ch
   replace hB := hB.trans mq.fr
   cases r17
   ·replace H := ifn Bool.false_ne_true H
    refine GoR.op ((op_not rfl) _) rfl rfl ?_
    refine GoR.nil ?_
    refine Go1.condT rfl rfl ?_
    refine Go1.seq ?_
    refine Go1.region ?_
    refine GoR.op ((op_assign rfl) _) rfl rfl ?_
    refine GoR.nil ?_
    refine Go1.ret1 Try.func69 rfl ?_
    exact ⟨false, rfl, hB.same, H⟩
   replace H := ifp rfl H
   refine GoR.op ((op_not rfl) _) rfl rfl ?_
   refine GoR.nil ?_
   refine Go1.condF rfl rfl ?_
   refine Go1.skip ?_
   refine Go1.inBlock ?_
   refine Go1.cut [(1, .slice nV s2.length nW), (2, .func (.func 70) #[] #[]), (15, .slice nT s1.length nU), (16, .int .i64 (s1.length : Int)), (17, .int .i64 (k1_3 : Int))] ⟨rfl, rfl, rfl, rfl, rfl, trivial⟩ ?_
   intro σ _
   refine Go1.region ?_
   refine GoR.op ((op_add rfl rfl (wrap_i64 (natbd h4 iO.bd))) _) rfl rfl ?_
   refine GoR.op ((op_move rfl) _) rfl rfl ?_
   refine GoR.nil ?_
   exact hX1 _ H _ _ ⟨⟨rfl, rfl, rfl, rfl, rfl, trivial⟩, hO, iO, jf, hB⟩
  replace H := ifn h4 H
  refine GoR.op ((fun w => opB (op_lss rfl rfl w) (decide_eq_false h4)) _) rfl rfl ?_
  refine GoR.nil ?_
  refine Go1.seq ?_
  refine Go1.condF rfl rfl ?_
  refine Go1.exit rfl ?_
  refine Go1.seq ?_
  refine Go1.region ?_
  refine GoR.op ((op_assign rfl) _) rfl rfl ?_
  refine GoR.nil ?_
  refine Go1.ret1 Try.func69 rfl ?_
  exact ⟨true, rfl, hB.same, H⟩
 replace H := ifn h1 H
 refine GoR.op ((fun w => opB (op_neq rfl rfl w) (ndF h1)) _) rfl rfl ?_
 refine GoR.nil ?_
 refine Go1.condT rfl rfl ?_
 refine Go1.seq ?_
 refine Go1.region ?_
 refine GoR.op ((op_assign rfl) _) rfl rfl ?_
 refine GoR.nil ?_
 refine Go1.ret1 Try.func69 rfl ?_
 exact ⟨false, rfl, hB.same, H⟩
theorem body71 : Body Try.prog 71 := ⟨Try.f71, Try.func71, rfl, by kernel_rfl⟩
theorem walk_slices_Equal_api_Rule {A : List Nat} {w0 : World} {nT : Option Addr} {nU : Nat} {nV : Option Addr} {nW : Nat} {s1 : List Rule} {s2 : List Rule} (hA : ∀ b ∈ A, b < w0.heap.size) (iO : ISl (rpRule) A w0 nT nU s1) (jf : ISl (rpRule) A w0 nV nW s2) {K : Bool → Prop} (H : slices_Equal_api_Rule s1 s2 K) :
    CallsV Try.prog 71 #[.slice nT s1.length nU, .slice nV s2.length nW] w0 (fun v w' => ∃ (r0 : Bool), v = .bool r0 ∧ Same w0 w' ∧ K r0) := by
 refine CallsV.of (l := [.slice nT s1.length nU, .slice nV s2.length nW]) Try.func71 rfl Try.ntmps71 rfl ?_
 have hO := Owns.start hA
 have hB := Fr.refl (bl []) w0
 unfold slices_Equal_api_Rule at H
 replace iO := iO.ch (Ch.start A w0)
 replace jf := jf.ch (Ch.start A w0)
 refine Go1.seq ?_
 refine Go1.region ?_
 refine GoR.op ((op_assign rfl) _) rfl rfl ?_
 refine GoR.nil ?_
 refine Go1.seq ?_
 refine Go1.seq ?_
 refine Go1.region ?_
 refine GoR.op ((op_move rfl) _) rfl rfl ?_
 refine GoR.op ((op_len Try.underlying27 rfl) _) rfl rfl ?_
 replace H := H iO.bd
 refine GoR.op ((op_move rfl) _) rfl rfl ?_
 refine GoR.op ((op_len Try.underlying27 rfl) _) rfl rfl ?_
 replace H := H jf.bd
 by_cases h1 : (s1.length : Int) = (s2.length : Int)
 ·replace H := ifp h1 H
  refine GoR.op ((fun w => opB (op_neq rfl rfl w) (ndT h1)) _) rfl rfl ?_
  refine GoR.nil ?_
  refine Go1.condF rfl rfl ?_
  refine Go1.skip ?_
  refine Go1.seq ?_
  refine Go1.seq ?_
  refine Go1.region ?_
  refine GoR.op ((op_move rfl) _) rfl rfl ?_
  refine GoR.op ((op_len Try.underlying27 rfl) _) rfl rfl ?_
  refine GoR.op ((op_move rfl) _) rfl rfl ?_
  refine GoR.nil ?_
  refine Go1.block ?_
  refine Go1.loopW (S := Nat) (fun s σ w => agrees σ [(0, .slice nT s1.length nU), (1, .slice nV s2.length nW), (12, .int .i64 (s1.length : Int)), (13, .int .i64 (s : Int))] ∧ Owns w0.heap.size w [] A ∧ ISl (rpRule) (bl [] ++ A) w nT nU s1 ∧ ISl (rpRule) (bl [] ++ A) w nV nW s2 ∧ Fr (bl []) w0 (bl []) w) H ⟨⟨rfl, rfl, rfl, rfl, trivial⟩, hO, iO, jf, hB⟩ ?_
  intro X1 k1_3
  intro H hX1 σ w2
  refine andE fun hag => andE fun hO => andE fun iO => andE fun jf => fun hB => ?_
  refine Go1.keep [(0, .slice nT s1.length nU), (1, .slice nV s2.length nW), (12, .int .i64 (s1.length : Int)), (13, .int .i64 (k1_3 : Int))] hag ?_
  refine Go1.seq ?_
  refine Go1.region ?_
  by_cases h4 : (k1_3 : Int) < (s1.length : Int)
  ·replace H := ifp h4 H
   refine GoR.op ((fun w => opB (op_lss rfl rfl w) (decide_eq_true h4)) _) rfl rfl ?_
   refine GoR.nil ?_
   refine Go1.seq ?_
   refine Go1.condT rfl rfl ?_
   refine Go1.skip ?_
   refine Go1.seq ?_
   refine Go1.block ?_
   refine Go1.seq ?_
   refine Go1.region ?_
   refine GoR.op ((op_move rfl) _) rfl rfl ?_
   refine GoR.op ((op_assign rfl) _) rfl rfl ?_
   refine GoR.nil ?_
   refine Go1.seq ?_
   refine Go1.drawS 0 [(0, .pure), (1, .pure), (2, .pure), (3, .stable), (4, .pure), (5, .pure), (6, .pure), (7, .stable), (8, .pure)] mixed (by kernel_rfl) ?_
   intro w5 hs6
   have nc := Stp.same hO hs6
   replace hO := nc.own
   replace iO := iO.ch nc.ch
   replace jf := jf.ch nc.ch
   replace hB := hB.trans nc.fr
   refine GoQ.pure rfl (op_move rfl) rfl rfl ?_
   refine GoQ.pure rfl (op_move rfl) rfl rfl ?_
   obtain ⟨h8, H⟩ := H
   obtain ⟨h9, H⟩ := H
   refine GoQ.pure rfl (op_index Try.underlying27 ti39 rfl rfl h8 h9 (iO.some_ h8 h9)) rfl rfl ?_
   have hok10 := ldFlatOk iO h8 h9
   refine GoQ.stable rfl (ldFlat iO h8 h9 Try.underlying39 rfl ti39 rfl) rfl rfl ?_
   refine GoQ.pure rfl (op_move rfl) rfl rfl ?_
   refine GoQ.pure rfl (op_move rfl) rfl rfl ?_
   obtain ⟨h11, H⟩ := H
   obtain ⟨h12, H⟩ := H
   refine GoQ.pure rfl (op_index Try.underlying27 ti39 rfl rfl h11 h12 (jf.some_ h11 h12)) rfl rfl ?_
   have hok13 := ldFlatOk jf h11 h12
   refine GoQ.stable rfl (ldFlat jf h11 h12 Try.underlying39 rfl ti39 rfl) rfl rfl ?_
   by_cases h14 : (((ix s1 (k1_3 : Int)).Left) = ((ix s2 (k1_3 : Int)).Left) ∧ ((ix s1 (k1_3 : Int)).Right) = ((ix s2 (k1_3 : Int)).Right))
   ·replace H := ifp h14 H
    refine GoQ.pure rfl (fun w => opB (op_neqSS Try.underlying39 eqh39 eqg39 (by decide) (by decide) rfl rfl Try.underlying9 Try.underlying9 rfl rfl w) (ndT h14)) rfl rfl ?_
    refine GoQ.nil ?_
    refine Go1.condF rfl rfl ?_
    refine Go1.skip ?_
    refine Go1.inBlock ?_
    refine Go1.region ?_
    refine GoR.op ((op_add rfl rfl (wrap_i64 (natbd h4 iO.bd))) _) rfl rfl ?_
    refine GoR.op ((op_move rfl) _) rfl rfl ?_
    refine GoR.nil ?_
    exact hX1 _ H _ _ ⟨⟨rfl, rfl, rfl, rfl, trivial⟩, hO, iO, jf, hB⟩
   replace H := ifn h14 H
   refine GoQ.pure rfl (fun w => opB (op_neqSS Try.underlying39 eqh39 eqg39 (by decide) (by decide) rfl rfl Try.underlying9 Try.underlying9 rfl rfl w) (ndF h14)) rfl rfl ?_
   refine GoQ.nil ?_
   refine Go1.condT rfl rfl ?_
   refine Go1.seq ?_
   refine Go1.region ?_
   refine GoR.op ((op_assign rfl) _) rfl rfl ?_
   refine GoR.nil ?_
   refine Go1.ret1 Try.func71 rfl ?_
   exact ⟨false, rfl, hB.same, H⟩
  replace H := ifn h4 H
  refine GoR.op ((fun w => opB (op_lss rfl rfl w) (decide_eq_false h4)) _) rfl rfl ?_
  refine GoR.nil ?_
  refine Go1.seq ?_
  refine Go1.condF rfl rfl ?_
  refine Go1.exit rfl ?_
  refine Go1.seq ?_
  refine Go1.region ?_
  refine GoR.op ((op_assign rfl) _) rfl rfl ?_
  refine GoR.nil ?_
  refine Go1.ret1 Try.func71 rfl ?_
  exact ⟨true, rfl, hB.same, H⟩
 replace H := ifn h1 H
 refine GoR.op ((fun w => opB (op_neq rfl rfl w) (ndF h1)) _) rfl rfl ?_
 refine GoR.nil ?_
 refine Go1.condT rfl rfl ?_
 refine Go1.seq ?_
 refine Go1.region ?_
 refine GoR.op ((op_assign rfl) _) rfl rfl ?_
 refine GoR.nil ?_
 refine Go1.ret1 Try.func71 rfl ?_
 exact ⟨false, rfl, hB.same, H⟩
end Sg
