/- -/
import Derived.Test.YtbmaaecppfdjfaaGreatDoorTu
import Derived.Test.YtbmaaecppfdjfaaGreatDoorCC
set_option linter.unusedVariables false
set_option linter.unusedSimpArgs false
set_option maxRecDepth 100000
namespace Sg
open Go Go.RowKit Go.Proofs
section
variable {G:Prop}
theorem e1 {α:Sort _} {P:α→Prop} (h:∀a,P a→G):(∃a,P a)→G:=fun ⟨a,k⟩=>h a k
theorem e2 {α β:Sort _} {P:α→β→Prop} (h:∀a b,P a b→G):(∃a b,P a b)→G:=fun ⟨a,b,k⟩=>h a b k
theorem e3 {α β γ:Sort _} {P:α→β→γ→Prop} (h:∀a b c,P a b c→G):(∃a b c,P a b c)→G:=fun ⟨a,b,c,k⟩=>h a b c k
theorem e4 {α β γ δ:Sort _} {P:α→β→γ→δ→Prop} (h:∀a b c d,P a b c d→G):(∃a b c d,P a b c d)→G:=fun ⟨a,b,c,d,k⟩=>h a b c d k
theorem d1 {p q:Prop} (h:p→q→G):p∧q→G:=fun k=>h k.1 k.2
theorem d2 {p q r:Prop} (h:p→q→r→G):p∧q∧r→G:=fun k=>h k.1 k.2.1 k.2.2
theorem d3 {p q r s:Prop} (h:p→q→r→s→G):p∧q∧r∧s→G:=fun k=>h k.1 k.2.1 k.2.2.1 k.2.2.2
theorem d4 {p q r s t:Prop} (h:p→q→r→s→t→G):p∧q∧r∧s∧t→G:=fun k=>h k.1 k.2.1 k.2.2.1 k.2.2.2.1 k.2.2.2.2
end
theorem p1 {α β:Type _} {M:α×β→Prop} (h:∀a b,M (a,b)):∀s,M s:=fun ⟨a,b⟩=>h a b
theorem p2 {α β γ:Type _} {M:α×β×γ→Prop} (h:∀a b c,M (a,b,c)):∀s,M s:=fun ⟨a,b,c⟩=>h a b c
theorem p3 {α β γ δ:Type _} {M:α×β×γ×δ→Prop} (h:∀a b c d,M (a,b,c,d)):∀s,M s:=fun ⟨a,b,c,d⟩=>h a b c d
theorem iT {a b:Prop} (H:if true=true then a else b):a:=H
theorem iF {a b:Prop} (H:if false=true then a else b):b:=H
structure Sq (A:List Nat) (w:World) (E:List Ent) (A':List Nat) (w':World) (E':List Ent):Prop where
 fr:Fr (bl E) w (bl E') w'
 ch:Ch (bl E++A) w (bl E'++A') w'
theorem Stp.q {n0:Nat} {A:List Nat} {w w':World} {E E':List Ent} (h:Stp n0 A w E w' E'):Sq A w E A w' E':=⟨h.fr,h.ch⟩
structure Sg (A:List Nat) (w:World) (E:List Ent) (A':List Nat) (w':World) (E':List Ent):Prop where
 ch:Ch (bl E++A) w (bl E'++A') w'
theorem frA0 {B A:List Nat} {w0 w:World} (h:Fr (bl []) w0 B w):Ch A w0 (B++A) w:=h.ch.app A
theorem frA {E B A:List Nat} {w0 w:World} (h:Fr E w0 B w):Ch (E++A) w0 (B++A) w:=h.ch.app A
theorem chR {A A':List Nat} {w:World} (h:A=A'):Ch A w A' w:=h▸Ch.refl _ _
theorem chx {A A':List Nat} {w w':World} (h:Ch A w A' w':=by
 repeat (first
  | with_reducible exact Ch.refl _ _
  | ((with_reducible refine chR ?_);exact rfl)
  | with_reducible exact frA0 (by assumption)
  | with_reducible exact frA (by assumption)
  | (rename Sq _ _ _ _ _ _=>h;(with_reducible refine Ch.trans ?_ h.ch);clear h)
  | (rename Sg _ _ _ _ _ _=>h;(with_reducible refine Ch.trans ?_ h.ch);clear h)
  | (rename Sq _ _ _ _ _ _=>h;refine Ch.trans ?_ h.ch;clear h)
  | exact Ch.refl _ _
  | exact frA0 (by assumption))):Ch A w A' w':=h
theorem fr {B B':List Nat} {w w':World} (h:Fr B w B' w':=by
 repeat (first
  | with_reducible exact Fr.refl _ _
  | with_reducible assumption
  | (rename Sq _ _ _ _ _ _=>h;refine Fr.trans ?_ h.fr;clear h)
  | exact Fr.refl _ _
  | assumption)):Fr B w B' w':=h
theorem frs {B':List Nat} {w w':World} (h:Fr (bl []) w B' w':=by exact fr):Same w w':=h.same
theorem ISl.u {α:Type} {r:Rp α} {A A':List Nat} {w w':World} {p:Option Addr} {c:Nat} {xs:List α} (h:ISl r A w p c xs) (k:Ch A w A' w':=by exact chx):ISl r A' w' p c xs:=h.ch k
theorem Els.u {α:Type} {r:Rp α} {A A':List Nat} {w w':World} {vs:List Value} {xs:List α} (h:Els r A w vs xs) (k:Ch A w A' w':=by exact chx):Els r A' w' vs xs:=h.ch k
theorem ISl.o {α:Type} {r:Rp α} {n0:Nat} {A A0:List Nat} {w w0:World} {E:List Ent} {p:Option Addr} {c:Nat} {xs:List α} (h:ISl r A0 w0 p c xs) (hO:Owns n0 w E A) (k:Ch A0 w0 (bl E++A) w:=by exact chx):ISl r (bl E++A) w p c xs:=h.ch k
theorem Els.o {α:Type} {r:Rp α} {n0:Nat} {A A0:List Nat} {w w0:World} {E:List Ent} {vs:List Value} {xs:List α} (h:Els r A0 w0 vs xs) (hO:Owns n0 w E A) (k:Ch A0 w0 (bl E++A) w:=by exact chx):Els r (bl E++A) w vs xs:=h.ch k
theorem elN {α:Type} (r:Rp α) {n0:Nat} {A:List Nat} {w:World} {E:List Ent} (hO:Owns n0 w E A):Els r (bl E++A) w [] []:=Els.nil _ _ _
theorem elE {α:Type} (r:Rp α) {n0:Nat} {A:List Nat} {w:World} {E:List Ent} (vs:List Value) (xs:List α) (hO:Owns n0 w E A) (h:Els r (bl E++A) w vs xs):Els r (bl E++A) w vs xs:=h
theorem agr {p:Prop} (h:p:=by repeat (first | exact True.intro | refine⟨rfl,?_⟩)):p:=h
open Go Go.RowKit Go.Proofs
def t1 {α:Type} {r:Rp α} (hf:Fl r) (e:TypeId) (p:Option Addr) (n c:Nat) (xs:List α):Ent:=.any {
 F:=pb p
 H:=fun n0 w=>∃vs,w.ownsRow n0 e r.sz (.slice p n c) n vs∧Els r [] w vs xs
 lt:=fun ⟨_,h,_⟩ b hb=>Jbt h b hb
 keep:=fun ⟨vs,h,hE⟩ hk=>⟨vs,J6u h hk,hE.fl hf⟩
 base:=fun hn ⟨vs,h,hE⟩=>⟨vs,J8w hn h,hE.fl hf⟩ }
section
variable {w w':World} {t e:TypeId} {A:List Nat} {E E':List Ent} {n0:Nat}
theorem Jai {j:Nat} {a b:Ent} (hj:E[j]?=some a) (hfp:b.fp=a.fp):bl (E.set j b)=bl E:=by
 obtain⟨hjl,hje⟩:=List.getElem?_eq_some_iff.1 hj
 have h1:E=E.take j++a::E.drop (j+1):=by rw[←hje];simp
 rw[List.set_eq_take_append_cons_drop,if_pos hjl]
 conv=>rhs;rw[h1]
 simp[bl,hfp]
theorem Owns.swap {j:Nat} {a b:Ent} (hO:Owns n0 w E A) (hj:E[j]?=some a) (hfp:b.fp=a.fp) (hh:b.holds n0 w):Owns n0 w (E.set j b) A:=by
 have hb:=Jai hj hfp;refine⟨hO.le,hO.bd,by rw[hb];exact hO.nd,fun x hx=>hO.out x (by rw[←hb];exact hx),fun x hx=>?_⟩
 rcases List.mem_or_eq_of_mem_set hx with h | rfl
 ·exact hO.at_ x h
 ·exact hh
variable {α:Type} {r:Rp α} {hf:Fl r} {p:Option Addr} {n c:Nat} {xs:List α}
theorem t1at (j:Nat) (hO:Owns n0 w E A) (hj:E[j]?=some (t1 hf e p n c xs)):∃vs,w.ownsRow n0 e r.sz (.slice p n c) n vs∧Els r [] w vs xs:=hO.at_ _ (List.mem_of_getElem? hj)
theorem t1row (j:Nat) (hO:Owns n0 w E A) (hj:E[j]?=some (t1 hf e p n c xs)) :
  ∃vs,Owns n0 w (E.set j (.row e r.sz p n c vs)) A∧bl (E.set j (.row e r.sz p n c vs))=bl E∧(E.set j (.row e r.sz p n c vs))[j]?=some (.row e r.sz p n c vs)∧∀B w',Els r B w' vs xs:=by
 obtain⟨vs,h1,h2⟩:=t1at j hO hj;have hjl:=(List.getElem?_eq_some_iff.1 hj).1;exact⟨vs,hO.swap hj J5i h1,Jai hj J5i,by simp[hjl],fun _ _=>h2.fl hf⟩
theorem t1open (h:Owns n0 w [t1 hf e p n c xs] A):∃vs,Owns n0 w [.row e r.sz p n c vs] A∧Els r (bl [.row e r.sz p n c vs]++A) w vs xs:=by
 obtain⟨vs,h1,_,_,h2⟩:=t1row 0 h rfl;exact⟨vs,h1,h2 _ _⟩
theorem t1st {p':Option Addr} {n' c':Nat} {xs':List α} {vs vs':List Value} {B:List Nat} {j:Nat} (hj:E[j]?=some (t1 hf e p n c xs))
  (hs:Stp n0 A w (E.set j (.row e r.sz p n c vs)) w' ((E.set j (.row e r.sz p n c vs)).set j (.row e r.sz p' n' c' vs'))) (hE:Els r B w' vs' xs'):Stp n0 A w E w' (E.set j (t1 hf e p' n' c' xs')):=by
 have hjl:=(List.getElem?_eq_some_iff.1 hj).1;rw[List.set_set] at hs
 have hg:(E.set j (.row e r.sz p' n' c' vs'))[j]?=some (.row e r.sz p' n' c' vs'):=by simp[hjl]
 have hh:(t1 hf e p' n' c' xs').holds n0 w':=⟨vs',hs.own.at_ _ (List.mem_of_getElem? hg),hE.fl hf⟩;have h1:=hs.own.swap hg (b:=t1 hf e p' n' c' xs') J5i.symm hh;rw[List.set_set] at h1;refine⟨h1,?_⟩
 have h2:bl (E.set j (t1 hf e p' n' c' xs'))=bl (E.set j (.row e r.sz p' n' c' vs')):=by
  have:=Jai hg (b:=t1 hf e p' n' c' xs') J5i.symm
  rwa [List.set_set] at this
 rw[h2,←Jai hj (b:=.row e r.sz p n c vs) J5i];exact hs.fr
theorem t1new {vs:List Value} {B:List Nat} (hs:Stp n0 A w E w' (.row e r.sz p n c vs::E')) (hE:Els r B w' vs xs):Stp n0 A w E w' (t1 hf e p n c xs::E'):=by
 have hg:(Ent.row e r.sz p n c vs::E')[0]?=some (.row e r.sz p n c vs):=rfl;have hh:(t1 hf e p n c xs).holds n0 w':=⟨vs,hs.own.at_ _ (List.mem_of_getElem? hg),hE.fl hf⟩;have h1:=hs.own.swap hg (b:=t1 hf e p n c xs) J5i.symm hh;refine⟨h1,?_⟩;have h2:bl (t1 hf e p n c xs::E')=bl (.row e r.sz p n c vs::E'):=Jai (j:=0) hg (b:=t1 hf e p n c xs) J5i.symm;rw[h2];exact hs.fr
theorem t1n (j:Nat) (hO:Owns n0 w E A) (hj:E[j]?=some (t1 hf e p n c xs):=by exact rfl):n=xs.length:=by
 obtain⟨vs,h1,h2⟩:=t1at j hO hj;exact h2.n_eq h1
theorem t1b (j:Nat) (hO:Owns n0 w E A) (hj:E[j]?=some (t1 hf e p n c xs):=by exact rfl):xs.length≤mx:=by
 obtain⟨vs,h1,h2⟩:=t1at j hO hj;exact h2.bd
theorem t1some (j:Nat) (hO:Owns n0 w E A) (hj:E[j]?=some (t1 hf e p n c xs)) {i:Int} (h0:0≤i) (h:i<(xs.length:Int)):p.isSome=true:=by
 obtain⟨vs,h1,h2⟩:=t1at j hO hj;exact J8D h1 (by have:=h2.n_eq h1;omega)
end
open Go Go.RowKit Go.Proofs
theorem zr1 {α:Type} {r:Rp α} {z:Value} {d:α} (h:∀(A:List Nat) (w:World),r.R A w (fun i=>z.cells[i]?) d:=by first | exact fun _ _=>rfl | exact fun _ _=>⟨rfl,Nat.zero_le _⟩ | exact fun _ _=>⟨none,0,rfl,ISl.null _ _ _⟩):∀(A:List Nat) (w:World),r.R A w (fun i=>z.cells[i]?) d:=h
theorem nN {n:Int} {N:Nat} (h:n.toNat=N:=by first | (with_reducible exact Int.toNat_natCast _) | ((dsimp only[Int.reduceToNat])<;>exact rfl) | exact rfl):n.toNat=N:=h
theorem set1 {E E':List Ent} {j:Nat} {e:Ent} (h:E.set j e=E':=by (dsimp only[sS,sZ])<;>exact rfl):E.set j e=E':=h
theorem era1 {E E':List Ent} {j:Nat} (h:E.eraseIdx j=E':=by (dsimp only[eS,eZ])<;>exact rfl):E.eraseIdx j=E':=h
theorem lenE {n m:Nat} (h:n=m:=by first | exact rfl | assumption):n=m:=h
theorem whv {σ:Nat→Value} {x:Operand} {v:Value} (h:ev σ x=v:=by (conv=>lhs;whnf)<;>exact rfl):ev σ x=v:=h
structure POp (op:Op) (ty:TypeId) (σ:Nat→Value) (v:Value):Prop where
 h:∀w,OpV Tryz.prog op ty σ w v w
section
variable {σ:Nat→Value} {t t' ty e:TypeId} {x y z:Operand} {k k':IntKind} {v:Value}
theorem xmove (hx:ev σ x=v:=by exact whv):POp (.move x) ty σ v:=⟨J0v hx⟩
theorem xassign (hx:ev σ x=v:=by exact whv):POp (.assign x) ty σ v:=⟨Jbo hx⟩
theorem xpick {b:Bool} (hc:ev σ z=.bool b:=by exact rfl) (hx:Bool.casesOn (motive:=fun _=>Value) b (ev σ y) (ev σ x)=v:=by (conv=>lhs;whnf)<;>exact rfl):POp (.pick z x y) ty σ v:=by
 cases b with
 | true=>exact⟨J3b hc rfl hx⟩
 | false=>exact⟨J4s hc rfl hx⟩
theorem xnil {a:Addr} (hx:ev σ x=.pointer (some a):=by exact rfl):POp (.nilCheck x) ty σ (.pointer (some a)):=⟨Jby hx⟩
theorem xfa {fs:Array Field} {fl:Field} {b o i s o2 t2:Nat} {zz:Option Value} {bb:Nat} (ht:UN t (.struct fs):=by exact und) (hf:fs[i]?=some fl:=by exact rfl) (h2:fl.type=t2:=by (conv=>lhs;whnf)<;>exact rfl) (he:TI t2 zz s bb:=by exact tin) (hx:ev σ x=.pointer (some ⟨b,o,none⟩):=by exact rfl) (hs:s≠0:=by decide) (ho:o+fl.offset=o2:=by (conv=>lhs;whnf)<;>exact rfl) :
  POp (.fieldAddr t x i) ty σ (.pointer (some ⟨b,o2,none⟩)):=ho▸⟨Jbc ht.h hf (h2▸he.h) hx hs⟩
theorem xext {vs:Array Value} {i:Nat} (hx:ev σ x=.tuple vs:=by exact rfl) (hv:vs.getD i undef=v:=by (conv=>lhs;whnf)<;>exact rfl) (hi:Nat.blt i vs.size=true:=by exact rfl):POp (.extract x i) ty σ v:=by
 have hl:i<vs.size:=by simpa [Nat.blt_eq] using hi
 exact⟨JcQ hx (by subst hv;simp[Array.getElem?_eq_getElem hl,hl])⟩
theorem xnot {b:Bool} (hx:ev σ x=.bool b:=by exact rfl) (hv:Value.bool (Bool.casesOn (motive:=fun _=>Bool) b true false)=v:=by (conv=>lhs;arg 1;whnf)<;>exact rfl):POp (.unOp .not t x) ty σ v:=by
 subst hv
 cases b<;>exact⟨J32 hx⟩
end
theorem pop {op:Op} {ty:TypeId} {σ:Nat→Value} {v:Value} (h:POp op ty σ v:=by first
 | ((guard_target=POp (.move _) _ _ _);exact xmove)
 | ((guard_target=POp (.assign _) _ _ _);exact xassign)
 | ((guard_target=POp (.fieldAddr _ _ _) _ _ _);exact xfa)
 | ((guard_target=POp (.nilCheck _) _ _ _);exact xnil)
 | ((guard_target=POp (.pick _ _ _) _ _ _);exact xpick)
 | ((guard_target=POp (.extract _ _) _ _ _);exact xext)
 | ((guard_target=POp (.unOp .not _ _) _ _ _);exact xnot)):∀w,OpV Tryz.prog op ty σ w v w:=h.h
inductive Mb (b:Nat) (cs:Array Value) (T:TypeId):List Ent→Prop
 | hd {E:List Ent}:Mb b cs T (.blk b (.cells cs T (0,0))::E)
 | tl {e:Ent} {E:List Ent} (h:Mb b cs T E):Mb b cs T (e::E)
theorem Mb.mem {b:Nat} {cs:Array Value} {T:TypeId} {E:List Ent} (h:Mb b cs T E):.blk b (.cells cs T (0,0))∈E:=by
 induction h with
 | hd=>exact List.mem_cons_self
 | tl _ ih=>exact List.mem_cons_of_mem _ ih
theorem mbx {b:Nat} {cs:Array Value} {T:TypeId} {E:List Ent} (h:Mb b cs T E:=by repeat (first | (with_reducible exact Mb.hd) | (with_reducible apply Mb.tl))):Mb b cs T E:=h
structure SOp (op:Op) (ty:TypeId) (σ:Nat→Value) (w:World) (v:Value):Prop where
 h:∀w',Same w w'→OpV Tryz.prog op ty σ w' v w'
def nbV:Value→Bool
 | .bool _=>false
 | _=>true
theorem xbl {n0:Nat} {w:World} {A:List Nat} {E:List Ent} {b q:Nat} {cs:Array Value} {T:TypeId} {v:Value} {t ty:TypeId} {x:Operand} {σ:Nat→Value} (hx:ev σ x=.pointer (some ⟨b,q,none⟩):=by exact rfl) (hO:Owns n0 w E A:=by assumption) (hm:Mb b cs T E:=by exact mbx) (hv:cs.getD q undef=v:=by (conv=>lhs;whnf)<;>exact rfl)
  (hnb:nbV v=true:=by exact rfl) (hq:Nat.blt q cs.size=true:=by exact rfl) {dd:TypeDesc} (ht:UN t dd:=by exact und) (hd:scB dd=true:=by exact rfl):SOp (.load t x) ty σ w v:=⟨fun w' hw=>by
 obtain⟨j,hj⟩:=List.getElem?_of_mem hm.mem
 have hl:q<cs.size:=by simpa [Nat.blt_eq] using hq
 exact oblk j hO hj (by subst hv;simp[Array.getElem?_eq_getElem hl,hl]) ht.h hd hx w' hw⟩
theorem sop {op:Op} {ty:TypeId} {σ:Nat→Value} {w:World} {v:Value} (h:SOp op ty σ w v:=by ((guard_target=SOp (.load _ _) _ _ _ _);exact xbl)):∀w',Same w w'→OpV Tryz.prog op ty σ w' v w':=h.h
structure Wr (Q:Prop):Prop where
 h:Q
section
variable {op:Op} {ty:TypeId} {σ:Nat→Value} {w w':World} {E E':List Ent} {A:List Nat} {n0:Nat} {Goal:Prop} {Gv:Value→Prop} {Gw:Value→World→Prop}
theorem gp (h:(∀v,(∀w,OpV Tryz.prog op ty σ w v w)→Gv v→Goal):=by
 intro _ hv h;replace hv:=Wr.mk hv;replace h:=Wr.mk h
 repeat (first
  | ((guard_target=GoR _ _ _ _ _ _ _ _ _);first | refine zn ?_ | refine zp ?_ | refine zo pop ?_ | refine zs sop ?_)
  | ((guard_target=Go1 _ _ _ _ _ _ _);first | refine zq ?_ | refine zr ?_ | refine zt rfl rfl ?_ | refine zf rfl rfl ?_ | refine zk ?_ | refine zb ?_ | refine Go1.inBlock ?_ | refine Go1.exit rfl ?_ | refine Go1.label ?_)
  | ((guard_target=GoQ _ _ _ _ _ _ _ ((_,.pure)::_) _ _);first | refine GoQ.pass rfl rfl rfl ?_ | refine GoQ.pure rfl pop rfl rfl ?_)
  | ((guard_target=GoQ _ _ _ _ _ _ _ ((_,.stable)::_) _ _);first | refine GoQ.pass rfl rfl rfl ?_ | refine GoQ.stable rfl sop rfl rfl ?_)
  | ((guard_target=GoQ _ _ _ _ _ _ _ _ _ _);first | refine GoQ.nil ?_ | refine GoQ.pass rfl rfl rfl ?_)
  | ((guard_target=GoT _ _ _ _ _ _ _ _ (.qp _ _) _ _);first | refine(GoT.pass rfl rfl rfl ?_).1 | refine GoT.pure rfl pop rfl rfl ?_)
  | ((guard_target=GoT _ _ _ _ _ _ _ _ (.qs _ _) _ _);refine(GoT.pass rfl rfl rfl ?_).2.1)
  | ((guard_target=GoT _ _ _ _ _ _ _ _ _ _ _);refine GoT.nil ?_)
  | ((guard_target=GoQA _ _ _ _ _ _ _ _ _ ((_,.pure)::_) _ _ _);refine GoQA.pure rfl pop rfl rfl ?_))
 first
 | ((guard_target=GoR _ _ _ _ _ _ _ _ _);exact zo hv.h h.h)
 | ((guard_target=GoQ _ _ _ _ _ _ _ _ _ _);exact GoQ.pure rfl hv.h rfl rfl h.h)
 | ((guard_target=GoT _ _ _ _ _ _ _ _ _ _ _);first | exact GoT.pure rfl hv.h rfl rfl h.h | exact GoT.step rfl (hv.h _) (Same.refl _) rfl rfl h.h | exact GoT.step rfl (hv.h _) (CSv.same (Same.refl _)) rfl rfl h.h)
 | ((guard_target=GoQA _ _ _ _ _ _ _ _ _ _ _ _ _);exact GoQA.pure rfl hv.h rfl rfl h.h)
 | ((guard_target=GoQR _ _ _ _ _ _ _ _ _ _ _);exact GoQR.pure rfl hv.h rfl rfl h.h)):∀v,(∀w,OpV Tryz.prog op ty σ w v w)→Gv v→Goal:=h
theorem gs (h:(∀v,(∀w',Same w w'→OpV Tryz.prog op ty σ w' v w')→Gv v→Goal):=by
 intro _ hv h;replace hv:=Wr.mk hv;replace h:=Wr.mk h
 repeat (first
  | ((guard_target=GoR _ _ _ _ _ _ _ _ _);first | refine zn ?_ | refine zp ?_ | refine zo pop ?_ | refine zs sop ?_)
  | ((guard_target=Go1 _ _ _ _ _ _ _);first | refine zq ?_ | refine zr ?_ | refine zt rfl rfl ?_ | refine zf rfl rfl ?_ | refine zk ?_ | refine zb ?_ | refine Go1.inBlock ?_ | refine Go1.exit rfl ?_ | refine Go1.label ?_)
  | ((guard_target=GoQ _ _ _ _ _ _ _ ((_,.pure)::_) _ _);first | refine GoQ.pass rfl rfl rfl ?_ | refine GoQ.pure rfl pop rfl rfl ?_)
  | ((guard_target=GoQ _ _ _ _ _ _ _ ((_,.stable)::_) _ _);first | refine GoQ.pass rfl rfl rfl ?_ | refine GoQ.stable rfl sop rfl rfl ?_)
  | ((guard_target=GoQ _ _ _ _ _ _ _ _ _ _);first | refine GoQ.nil ?_ | refine GoQ.pass rfl rfl rfl ?_)
  | ((guard_target=GoT _ _ _ _ _ _ _ _ (.qp _ _) _ _);first | refine(GoT.pass rfl rfl rfl ?_).1 | refine GoT.pure rfl pop rfl rfl ?_)
  | ((guard_target=GoT _ _ _ _ _ _ _ _ (.qs _ _) _ _);refine(GoT.pass rfl rfl rfl ?_).2.1)
  | ((guard_target=GoT _ _ _ _ _ _ _ _ _ _ _);refine GoT.nil ?_)
  | ((guard_target=GoQA _ _ _ _ _ _ _ _ _ ((_,.pure)::_) _ _ _);refine GoQA.pure rfl pop rfl rfl ?_))
 first
 | ((guard_target=GoR _ _ _ _ _ _ _ _ _);exact zs hv.h h.h)
 | ((guard_target=GoQ _ _ _ _ _ _ _ _ _ _);first | exact GoQ.stable rfl hv.h rfl rfl h.h | exact GoQ.last rfl (hv.h _ (Same.refl _)) rfl rfl h.h)
 | ((guard_target=GoT _ _ _ _ _ _ _ _ _ _ _);first | exact GoT.stable rfl hv.h rfl rfl h.h | exact GoT.step rfl (hv.h _ (Same.refl _)) (Same.refl _) rfl rfl h.h | exact GoT.step rfl (hv.h _ (Same.refl _)) (CSv.same (Same.refl _)) rfl rfl h.h)
 | ((guard_target=GoQA _ _ _ _ _ _ _ _ _ _ _ _ _);exact GoQA.stable rfl hv.h rfl rfl h.h)):∀v,(∀w',Same w w'→OpV Tryz.prog op ty σ w' v w')→Gv v→Goal:=h
theorem gw (h:(∀v w' E',OpV Tryz.prog op ty σ w v w'→Stp n0 A w E w' E'→Gw v w'→Goal):=by
 intro _ _ _ hv hst h;replace hv:=Wr.mk hv;replace h:=Wr.mk h
 repeat (first
  | ((guard_target=GoR _ _ _ _ _ _ _ _ _);first | refine zn ?_ | refine zp ?_ | refine zo pop ?_ | refine zs sop ?_)
  | ((guard_target=Go1 _ _ _ _ _ _ _);first | refine zq ?_ | refine zr ?_ | refine zt rfl rfl ?_ | refine zf rfl rfl ?_ | refine zk ?_ | refine zb ?_ | refine Go1.inBlock ?_ | refine Go1.exit rfl ?_ | refine Go1.label ?_)
  | ((guard_target=GoQ _ _ _ _ _ _ _ ((_,.pure)::_) _ _);first | refine GoQ.pass rfl rfl rfl ?_ | refine GoQ.pure rfl pop rfl rfl ?_)
  | ((guard_target=GoQ _ _ _ _ _ _ _ ((_,.stable)::_) _ _);first | refine GoQ.pass rfl rfl rfl ?_ | refine GoQ.stable rfl sop rfl rfl ?_)
  | ((guard_target=GoQ _ _ _ _ _ _ _ _ _ _);first | refine GoQ.nil ?_ | refine GoQ.pass rfl rfl rfl ?_)
  | ((guard_target=GoT _ _ _ _ _ _ _ _ (.qp _ _) _ _);first | refine(GoT.pass rfl rfl rfl ?_).1 | refine GoT.pure rfl pop rfl rfl ?_)
  | ((guard_target=GoT _ _ _ _ _ _ _ _ (.qs _ _) _ _);refine(GoT.pass rfl rfl rfl ?_).2.1)
  | ((guard_target=GoT _ _ _ _ _ _ _ _ _ _ _);refine GoT.nil ?_)
  | ((guard_target=GoQA _ _ _ _ _ _ _ _ _ ((_,.pure)::_) _ _ _);refine GoQA.pure rfl pop rfl rfl ?_))
 first
 | ((guard_target=GoR _ _ _ _ _ _ _ _ _);exact zg hv.h h.h)
 | ((guard_target=GoQ _ _ _ _ _ _ _ _ _ _);exact GoQ.last rfl hv.h rfl rfl h.h)
 | ((guard_target=GoT _ _ _ _ _ _ _ _ _ _ _);exact GoT.stepX rfl hv.h rfl rfl rfl h.h)
 | ((guard_target=GoAt _ _ _ _ _ _ _ _ _ _ _ _ _ _ _);exact GoAt.step hv.h (fun h=>nomatch h) (Stp.kp (by assumption) hst) rfl h.h)):∀v w' E',OpV Tryz.prog op ty σ w v w'→Stp n0 A w E w' E'→Gw v w'→Goal:=h
theorem gl (h:(∀v w' E',OpV Tryz.prog op ty σ w v w'→Same w w'→Stp n0 A w E w' E'→Gw v w'→Goal):=by
 intro _ _ _ hv hs hst h;replace hv:=Wr.mk hv;replace h:=Wr.mk h
 repeat (first
  | ((guard_target=GoR _ _ _ _ _ _ _ _ _);first | refine zn ?_ | refine zp ?_ | refine zo pop ?_ | refine zs sop ?_)
  | ((guard_target=Go1 _ _ _ _ _ _ _);first | refine zq ?_ | refine zr ?_ | refine zt rfl rfl ?_ | refine zf rfl rfl ?_ | refine zk ?_ | refine zb ?_ | refine Go1.inBlock ?_ | refine Go1.exit rfl ?_ | refine Go1.label ?_)
  | ((guard_target=GoQ _ _ _ _ _ _ _ ((_,.pure)::_) _ _);first | refine GoQ.pass rfl rfl rfl ?_ | refine GoQ.pure rfl pop rfl rfl ?_)
  | ((guard_target=GoQ _ _ _ _ _ _ _ ((_,.stable)::_) _ _);first | refine GoQ.pass rfl rfl rfl ?_ | refine GoQ.stable rfl sop rfl rfl ?_)
  | ((guard_target=GoQ _ _ _ _ _ _ _ _ _ _);first | refine GoQ.nil ?_ | refine GoQ.pass rfl rfl rfl ?_)
  | ((guard_target=GoT _ _ _ _ _ _ _ _ (.qp _ _) _ _);first | refine(GoT.pass rfl rfl rfl ?_).1 | refine GoT.pure rfl pop rfl rfl ?_)
  | ((guard_target=GoT _ _ _ _ _ _ _ _ (.qs _ _) _ _);refine(GoT.pass rfl rfl rfl ?_).2.1)
  | ((guard_target=GoT _ _ _ _ _ _ _ _ _ _ _);refine GoT.nil ?_)
  | ((guard_target=GoQA _ _ _ _ _ _ _ _ _ ((_,.pure)::_) _ _ _);refine GoQA.pure rfl pop rfl rfl ?_))
 first
 | ((guard_target=GoR _ _ _ _ _ _ _ _ _);exact zg hv.h h.h)
 | ((guard_target=GoQ _ _ _ _ _ _ _ _ _ _);first | exact GoQ.loud rfl hv.h hs rfl rfl h.h | exact GoQ.last rfl hv.h rfl rfl h.h)
 | ((guard_target=GoT _ _ _ _ _ _ _ _ _ _ _);exact GoT.step rfl hv.h hs rfl rfl h.h)
 | ((guard_target=GoAt _ _ _ _ _ _ _ _ _ _ _ _ _ _ _);first | exact GoAt.step hv.h (fun _=>hs) (Stp.kp (by assumption) hst) rfl h.h | exact GoAt.step hv.h (fun h=>nomatch h) (Stp.kp (by assumption) hst) rfl h.h)):∀v w' E',OpV Tryz.prog op ty σ w v w'→Same w w'→Stp n0 A w E w' E'→Gw v w'→Goal:=h
end
section
variable {op:Op} {ty t t' e:TypeId} {x y z:Operand} {ts:Array TypeId} {σ σ2:Nat→Value} {w w':World} {E E':List Ent} {A:List Nat} {n0:Nat} {Goal:Prop} {Gv Gv1:Value→Prop} {Gw:Value→World→Prop}
variable {α:Type} {r:Rp α} {hf:Fl r} {p:Option Addr} {n c:Nat} {xs:List α}
theorem snil {G:Prop} (hf:Fl r) (e:TypeId) (hO:Owns n0 w E A) (h:Sq A w E A w (t1 hf e none 0 0 []::E)→Owns n0 w (t1 hf e none 0 0 []::E) A→G):G:=
 have hs:=t1new (hf:=hf) (Stp.nil (e:=e) (r:=r.sz) hO) (Els.nil r [] w)
 h hs.q hs.own
theorem smk {zv:Value} {dv:α} {by_ N:Nat} {m:Int} {q:Prop} (hf:Fl r) (H:0≤m∧m≤1099511627776∧q) (hO:Owns n0 w E A)
  (h:∀w' p,Sq A w E A w' (t1 hf e p N N (List.replicate N dv)::E)→Owns n0 w' (t1 hf e p N N (List.replicate N dv)::E) A→Gw (.slice p N N) w')
  (g:∀v w' E',OpV Tryz.prog (.makeSlice t x y) ty σ w v w'→Same w w'→Stp n0 A w E w' E'→Gw v w'→Goal:=by exact gl)
  (ht:UN t (.slice e):=by exact und) (hx:ev σ x=.int .i64 m:=by exact rfl) (he:TI e (some zv) r.sz by_:=by exact tin) (hz:∀(A:List Nat) (w:World),r.R A w (fun i=>zv.cells[i]?) dv:=by exact zr1) (hN:m.toNat=N:=by exact nN)
  (hzs:zv.cells.size=r.sz:=by exact rfl) (hy:ev σ y=.int .i64 m:=by exact rfl) (hby:by_≤128:=by decide):Goal:=by
 subst hN;obtain⟨w',p,vs,hs,hE,hsm,hop⟩:=omake ht.h he.h hz hzs hO H.1 H.2.1 hby;have h2:=t1new (hf:=hf) hs hE;exact g _ _ _ (hop hx hy) hsm h2 (h w' p h2.q h2.own)
theorem sap {zv:Value} {by_:Nat} {E1:Option Addr→Nat→List Ent} {q:Option Addr} {m d:Nat} {ys:List α} {qq:Prop} (j:Nat) (hO:Owns n0 w E A) (hs:ISl r (bl E++A) w q d ys) (H:xs.length+ys.length≤1099511627776∧qq)
  (h:∀w' p' c',Sq A w E A w' (E1 p' c')→Owns n0 w' (E1 p' c') A→Gw (.slice p' (n+m) c') w')
  (g:∀v w' E',OpV Tryz.prog (.call { callee:=.builtin .append,args:=#[x,y],argTypes:=#[t,t] }) ty σ w v w'→Stp n0 A w E w' E'→Gw v w'→Goal:=by exact gw)
  (hj:E[j]?=some (t1 hf e p n c xs):=by exact rfl) (hx:ev σ x=.slice p n c:=by exact rfl) (hy:ev σ y=.slice q m d:=by exact rfl) (hm:m=ys.length:=by exact lenE) (hE1:∀p' c',E.set j (t1 hf e p' (n+m) c' (xs++ys))=E1 p' c':=by intro _ _;exact set1)
  (ht:UN t (.slice e):=by exact und) (he:TI e (some zv) r.sz by_:=by exact tin) (hzs:zv.cells.size=r.sz:=by exact rfl) (hby:by_≤128:=by decide):Goal:=by
 obtain⟨vs,hO1,hb,hj1,hE⟩:=t1row j hO hj;obtain⟨w',p',c',vs',hst,hE',hop⟩:=oapp ht.h he.h hzs j hO1 hj1 (hE _ _) (by rw[hb];exact hs) hm H.1 hby;have h2:=t1st (hf:=hf) hj hst hE';rw[hE1] at h2;exact g _ _ _ (hop hx hy) h2 (h w' p' c' h2.q h2.own)
theorem sapQ {zv:Value} {by_:Nat} {E1:Option Addr→Nat→List Ent} {q:Option Addr} {m d:Nat} {ys:List α} {qq:Prop} (j:Nat) (hO:Owns n0 w E A) (hs:ISl r (bl E++A) w q d ys) (H:xs.length+ys.length≤1099511627776∧qq)
  (h:∀w' p' c',Sq A w E A w' (E1 p' c')→Owns n0 w' (E1 p' c') A→Gw (.slice p' (n+m) c') w')
  (g:∀v w' p' c',OpV Tryz.prog (.call { callee:=.builtin .append,args:=#[x,y],argTypes:=#[t,t] }) ty σ w v w'→Stp n0 A w E w' (E.set j (t1 hf e p' (n+m) c' (xs++ys)))→Gw v w'→Goal)
  (hj:E[j]?=some (t1 hf e p n c xs):=by exact rfl) (hx:ev σ x=.slice p n c:=by exact rfl) (hy:ev σ y=.slice q m d:=by exact rfl) (hm:m=ys.length:=by exact lenE) (hE1:∀p' c',E.set j (t1 hf e p' (n+m) c' (xs++ys))=E1 p' c':=by intro _ _;exact set1)
  (ht:UN t (.slice e):=by exact und) (he:TI e (some zv) r.sz by_:=by exact tin) (hzs:zv.cells.size=r.sz:=by exact rfl) (hby:by_≤128:=by decide):Goal:=by
 obtain⟨vs,hO1,hb,hj1,hE⟩:=t1row j hO hj;obtain⟨w',p',c',vs',hst,hE',hop⟩:=oapp ht.h he.h hzs j hO1 hj1 (hE _ _) (by rw[hb];exact hs) hm H.1 hby;have h2:=t1st (hf:=hf) hj hst hE';have h3:=h2;rw[hE1] at h3;exact g _ _ p' c' (hop hx hy) h2 (h w' p' c' h3.q h3.own)
theorem sst [Inhabited α] {v:Value} {u:α} {E1:List Ent} {i:Int} (j:Nat) (hO:Owns n0 w E A) (h0:0≤i) (h1:i<(xs.length:Int))
  (h:∀w',Sq A w E A w' E1→Owns n0 w' E1 A→Gw undef w')
  (g:∀v w' E',OpV Tryz.prog (.store t x y) ty σ w v w'→Stp n0 A w E w' E'→Gw v w'→Goal:=by exact gw)
  (hy:ev σ y=v:=by exact whv) (hj:E[j]?=some (t1 hf e p n c xs):=by exact rfl) (hR:∀(A:List Nat) (w:World),r.R A w (fun _=>some v) u:=by first | exact fun _ _=>rfl | exact fun _ _=>⟨rfl,by assumption⟩) (hx:ev σ x=.pointer (padd p (i.toNat*1)):=by exact rfl) (hE1:E.set j (t1 hf e p n c (st xs i u))=E1:=by exact set1)
  {dd:TypeDesc} (ht:UN t dd:=by exact und) {zz:Option Value} {bb:Nat} (he:TI t zz 1 bb:=by exact tin) (hd:scB dd=true:=by exact rfl) (hv:v.oneCell'=true:=by exact rfl) (r1:r.sz=1:=by exact rfl):Goal:=by
 obtain⟨vs,hO1,hb,hj1,hE⟩:=t1row j hO hj;obtain⟨w',vs',hst,hE',hop⟩:=ost r1 j hO1 (by rw[hj1,r1]) (hE _ _) h0 h1 hv (hR _ _);rw[show (Ent.row e 1 p n c vs')=.row e r.sz p n c vs' by rw[r1]] at hst hE';have h2:=t1st (hf:=hf) hj hst hE';rw[hE1] at h2;exact g _ _ _ (hop ht.h hd he.h hx hy) h2 (h w' h2.q h2.own)
theorem six {k:IntKind} {s b:Nat} {zz:Option Value} {i:Int} {w1:World} {B:List Nat} (hs:ISl r B w1 p c xs) (h0:0≤i) (h1:i<(xs.length:Int)) (h:Gv (.pointer (padd p (i.toNat*s))))
  (g:∀v,(∀w,OpV Tryz.prog (.indexAddr t x y) ty σ w v w)→Gv v→Goal:=by exact gp)
  (ht:UN t (.slice e):=by exact und) (he:TI e zz s b:=by exact tin) (hx:ev σ x=.slice p n c:=by exact rfl) (hy:ev σ y=.int k i:=by exact rfl) (hn:n=xs.length:=by exact lenE):Goal:=
 g _ (fun w=>J01 ht.h he.h hx hy h0 (ltn hn h1) (hs.some_ h0 h1) w) h
theorem six1 {k:IntKind} {s b:Nat} {zz:Option Value} {i:Int} (j:Nat) (hO:Owns n0 w E A) (h0:0≤i) (h1:i<(xs.length:Int)) (h:Gv (.pointer (padd p (i.toNat*s))))
  (g:∀v,(∀w,OpV Tryz.prog (.indexAddr t x y) ty σ w v w)→Gv v→Goal:=by exact gp)
  (ht:UN t (.slice e):=by exact und) (he:TI e zz s b:=by exact tin) (hx:ev σ x=.slice p n c:=by exact rfl) (hy:ev σ y=.int k i:=by exact rfl) (hj:E[j]?=some (t1 hf e p n c xs):=by exact rfl):Goal:=
 g _ (fun w=>J01 ht.h he.h hx hy h0 (ltn (t1n j hO hj) h1) (t1some j hO hj h0 h1) w) h
theorem rd {r:Rp α} {B:List Nat} {w:World} {u:α} {v:Value} (h:∀cs,r.R B w cs u→cs 0=some v:=by first | exact fun _ h=>h | exact fun _ h=>h.1):∀cs,r.R B w cs u→cs 0=some v:=h
theorem sld [Inhabited α] {v:Value} {i:Int} (hO:Owns n0 w E A) (hs:ISl r (bl E++A) w p c xs) (h0:0≤i) (h1:i<(xs.length:Int)) (h:Gv v)
  (g:∀v,(∀w',Same w w'→OpV Tryz.prog (.load t x) ty σ w' v w')→Gv v→Goal:=by exact gs)
  (hr:∀cs,r.R (bl E++A) w cs (ix xs i)→cs 0=some v:=by exact rd) {dd:TypeDesc} (ht:UN t dd:=by exact und) (hd:scB dd=true:=by exact rfl) (hx:ev σ x=.pointer (padd p (i.toNat*r.sz)):=by exact rfl):Goal:=
 g _ (fun w' hw=>ld1 hs h0 h1 hr ht.h hd hx w' hw) h
theorem sld1 [Inhabited α] {v:Value} {i:Int} (j:Nat) (hO:Owns n0 w E A) (h0:0≤i) (h1:i<(xs.length:Int)) (h:Gv v)
  (g:∀v,(∀w',Same w w'→OpV Tryz.prog (.load t x) ty σ w' v w')→Gv v→Goal:=by exact gs)
  (hj:E[j]?=some (t1 hf e p n c xs):=by exact rfl) (hr:∀cs,r.R (bl E++A) w cs (ix xs i)→cs 0=some v:=by exact rd) {dd:TypeDesc} (ht:UN t dd:=by exact und) (hd:scB dd=true:=by exact rfl) (hx:ev σ x=.pointer (padd p (i.toNat*r.sz)):=by exact rfl):Goal:=by
 obtain⟨vs,hO1,hb,hj1,hE⟩:=t1row j hO hj;exact g _ (fun w' hw=>old1 j hO1 hj1 (hE _ _) h0 h1 (by rw[hb];exact hr) ht.h hd hx w' hw) h
theorem sxl [Inhabited α] {k:IntKind} {b:Nat} {zz:Option Value} {v:Value} {i:Int} (hO:Owns n0 w E A) (hs:ISl r (bl E++A) w p c xs) (h0:0≤i) (h1:i<(xs.length:Int)) (h:Gv v)
  {ty2:TypeId} {x2:Operand} {t2:TypeId}
  (g1:∀v,(∀w,OpV Tryz.prog (.indexAddr t x y) ty σ w v w)→Gv1 v→Goal:=by exact gp)
  (ht:UN t (.slice e):=by exact und) (he:TI e zz r.sz b:=by exact tin) (hx:ev σ x=.slice p n c:=by exact rfl) (hy:ev σ y=.int k i:=by exact rfl) (hn:n=xs.length:=by exact lenE)
  (g2:∀v,(∀w',Same w w'→OpV Tryz.prog (.load t2 x2) ty2 σ2 w' v w')→Gv v→Gv1 (.pointer (padd p (i.toNat*r.sz))):=by exact gs)
  (hr:∀cs,r.R (bl E++A) w cs (ix xs i)→cs 0=some v:=by exact rd) {dd:TypeDesc} (ht2:UN t2 dd:=by exact und) (hd:scB dd=true:=by exact rfl) (hx2:ev σ2 x2=.pointer (padd p (i.toNat*r.sz)):=by exact rfl):Goal:=
 g1 _ (fun w=>J01 ht.h he.h hx hy h0 (ltn hn h1) (hs.some_ h0 h1) w) (g2 _ (fun w' hw=>ld1 hs h0 h1 hr ht2.h hd hx2 w' hw) h)
theorem sxl1 [Inhabited α] {k:IntKind} {b:Nat} {zz:Option Value} {v:Value} {i:Int} (j:Nat) (hO:Owns n0 w E A) (h0:0≤i) (h1:i<(xs.length:Int)) (h:Gv v)
  {ty2:TypeId} {x2:Operand} {t2:TypeId}
  (g1:∀v,(∀w,OpV Tryz.prog (.indexAddr t x y) ty σ w v w)→Gv1 v→Goal:=by exact gp)
  (hj:E[j]?=some (t1 hf e p n c xs):=by exact rfl) (ht:UN t (.slice e):=by exact und) (he:TI e zz r.sz b:=by exact tin) (hx:ev σ x=.slice p n c:=by exact rfl) (hy:ev σ y=.int k i:=by exact rfl)
  (g2:∀v,(∀w',Same w w'→OpV Tryz.prog (.load t2 x2) ty2 σ2 w' v w')→Gv v→Gv1 (.pointer (padd p (i.toNat*r.sz))):=by exact gs)
  (hr:∀cs,r.R (bl E++A) w cs (ix xs i)→cs 0=some v:=by exact rd) {dd:TypeDesc} (ht2:UN t2 dd:=by exact und) (hd:scB dd=true:=by exact rfl) (hx2:ev σ2 x2=.pointer (padd p (i.toNat*r.sz)):=by exact rfl):Goal:=by
 obtain⟨vs,hO1,hb,hj1,hE⟩:=t1row j hO hj;exact g1 _ (fun w=>J01 ht.h he.h hx hy h0 (ltn (t1n j hO hj) h1) (t1some j hO hj h0 h1) w) (g2 _ (fun w' hw=>old1 j hO1 hj1 (hE _ _) h0 h1 (by rw[hb];exact hr) ht2.h hd hx2 w' hw) h)
structure CmT (q:Prop) (op:Op) (ty:TypeId) (σ:Nat→Value) (b:Bool):Prop where
 h:∀(_:q),∀w,OpV Tryz.prog op ty σ w (.bool b) w
structure CmF (q:Prop) (op:Op) (ty:TypeId) (σ:Nat→Value) (b:Bool):Prop where
 h:∀(_:¬q),∀w,OpV Tryz.prog op ty σ w (.bool b) w
theorem cmT {q:Prop} {b:Bool} (h:CmT q op ty σ b:=by first
 | ((guard_target=CmT _ (.binOp .lss _ _ _ _) _ _ _);first | exact⟨fun h w=>opB (J12 rfl rfl w) (decide_eq_true h)⟩ | exact⟨fun h w=>opB (Jde rfl rfl w) (h)⟩)
 | ((guard_target=CmT _ (.binOp .eql _ _ _ _) _ _ _);first | exact⟨fun h w=>opB (J3k rfl rfl w) (decide_eq_true h)⟩ | exact⟨fun h w=>opB (Jd3 rfl rfl w) (decide_eq_true h)⟩)
 | ((guard_target=CmT _ (.binOp .neq _ _ _ _) _ _ _);first | exact⟨fun h w=>opB (J2X rfl rfl w) (ndT h)⟩ | exact⟨fun h w=>opB (Jdl rfl rfl w) (ndT h)⟩)
 | ((guard_target=CmT _ (.binOp .leq _ _ _ _) _ _ _);exact⟨fun h w=>opB (Jex rfl rfl w) (decide_eq_true h)⟩)
 | ((guard_target=CmT _ (.binOp .gtr _ _ _ _) _ _ _);exact⟨fun h w=>opB (Jes rfl rfl w) (decide_eq_true h)⟩)
 | ((guard_target=CmT _ (.binOp .geq _ _ _ _) _ _ _);exact⟨fun h w=>opB (Jb6 rfl rfl w) (decide_eq_true h)⟩)):CmT q op ty σ b:=h
theorem cmF {q:Prop} {b:Bool} (h:CmF q op ty σ b:=by first
 | ((guard_target=CmF _ (.binOp .lss _ _ _ _) _ _ _);first | exact⟨fun h w=>opB (J12 rfl rfl w) (decide_eq_false h)⟩ | exact⟨fun h w=>opB (Jde rfl rfl w) (Bool.eq_false_iff.2 h)⟩)
 | ((guard_target=CmF _ (.binOp .eql _ _ _ _) _ _ _);first | exact⟨fun h w=>opB (J3k rfl rfl w) (decide_eq_false h)⟩ | exact⟨fun h w=>opB (Jd3 rfl rfl w) (decide_eq_false h)⟩)
 | ((guard_target=CmF _ (.binOp .neq _ _ _ _) _ _ _);first | exact⟨fun h w=>opB (J2X rfl rfl w) (ndF h)⟩ | exact⟨fun h w=>opB (Jdl rfl rfl w) (ndF h)⟩)
 | ((guard_target=CmF _ (.binOp .leq _ _ _ _) _ _ _);exact⟨fun h w=>opB (Jex rfl rfl w) (decide_eq_false h)⟩)
 | ((guard_target=CmF _ (.binOp .gtr _ _ _ _) _ _ _);exact⟨fun h w=>opB (Jes rfl rfl w) (decide_eq_false h)⟩)
 | ((guard_target=CmF _ (.binOp .geq _ _ _ _) _ _ _);exact⟨fun h w=>opB (Jb6 rfl rfl w) (decide_eq_false h)⟩)):CmF q op ty σ b:=h
theorem scm {q a b:Prop} {bt bf:Bool} [Decidable q] (H:if q then a else b) (hT:q→a→Gv (.bool bt)) (hF:¬q→b→Gv (.bool bf))
  (g:∀v,(∀w,OpV Tryz.prog op ty σ w v w)→Gv v→Goal:=by exact gp)
  (cT:CmT q op ty σ bt:=by exact cmT) (cF:CmF q op ty σ bf:=by exact cmF):Goal:=by
 by_cases h:q
 ·rw[if_pos h] at H;exact g _ (cT.h h) (hT h H)
 ·rw[if_neg h] at H;exact g _ (cF.h h) (hF h H)
theorem sinc {k:Nat} (hb:I64 ((k:Int)+1)) (h:Gv (.int .i64 ((k+1:Nat):Int)))
  (g:∀v,(∀w,OpV Tryz.prog (.binOp .add t x y t') ty σ w v w)→Gv v→Goal:=by exact gp)
  (hx:ev σ x=.int .i64 (k:Int):=by exact rfl) (hy:ev σ y=.int .i64 1:=by exact rfl):Goal:=
 g _ (fun w=>J05 hx hy (wrap_i64 hb) w) h
end
theorem au {P Q:Prop} (k:Q) (h:Wr Q→P:=by
 intro k
 repeat (first
  | ((guard_target=GoR _ _ _ _ _ _ _ _ _);first | refine zn ?_ | refine zp ?_ | refine zo pop ?_ | refine zs sop ?_)
  | ((guard_target=Go1 _ _ _ _ _ _ _);first | refine zq ?_ | refine zr ?_ | refine zt rfl rfl ?_ | refine zf rfl rfl ?_ | refine zk ?_ | refine zb ?_ | refine Go1.inBlock ?_ | refine Go1.exit rfl ?_ | refine Go1.label ?_)
  | ((guard_target=GoQ _ _ _ _ _ _ _ ((_,.pure)::_) _ _);first | refine GoQ.pass rfl rfl rfl ?_ | refine GoQ.pure rfl pop rfl rfl ?_)
  | ((guard_target=GoQ _ _ _ _ _ _ _ ((_,.stable)::_) _ _);first | refine GoQ.pass rfl rfl rfl ?_ | refine GoQ.stable rfl sop rfl rfl ?_)
  | ((guard_target=GoQ _ _ _ _ _ _ _ _ _ _);first | refine GoQ.nil ?_ | refine GoQ.pass rfl rfl rfl ?_)
  | ((guard_target=GoT _ _ _ _ _ _ _ _ (.qp _ _) _ _);first | refine(GoT.pass rfl rfl rfl ?_).1 | refine GoT.pure rfl pop rfl rfl ?_)
  | ((guard_target=GoT _ _ _ _ _ _ _ _ (.qs _ _) _ _);refine(GoT.pass rfl rfl rfl ?_).2.1)
  | ((guard_target=GoT _ _ _ _ _ _ _ _ _ _ _);refine GoT.nil ?_)
  | ((guard_target=GoQA _ _ _ _ _ _ _ _ _ ((_,.pure)::_) _ _ _);refine GoQA.pure rfl pop rfl rfl ?_))
 exact k.h):P:=h ⟨k⟩
open Go Go.RowKit Go.Proofs
abbrev Fl.i:Fl (Rp.int .i64):=Fl.int .i64
theorem Fl.fl {α:Type} {sz:Nat} {enc:α→List Value} {ok:α→Prop} {ps:0<sz} {ln:∀x,(enc x).length=sz} {on:∀x,∀v∈enc x,v.oneCell'=true}:Fl (Rp.flat sz enc ok ps ln on):=fun h=>h
theorem AL.o {α:Type} {r:Rp α} {n0:Nat} {A A0:List Nat} {w w0:World} {E:List Ent} {pn p:Option Addr} {c:Nat} {xs ys:List α} (h:AL r A0 w0 pn xs p c ys) (hO:Owns n0 w E A) (k:Ch A0 w0 (bl E++A) w:=by exact chx):AL r (bl E++A) w pn xs p c ys:=h.ch k
theorem AL.u {α:Type} {r:Rp α} {B B':List Nat} {w w':World} {pn p:Option Addr} {c:Nat} {xs ys:List α} (h:AL r B w pn xs p c ys) (k:Ch B w B' w':=by exact chx):AL r B' w' pn xs p c ys:=h.ch k
theorem Sq.trans {A B C:List Nat} {u v w:World} {E F G:List Ent} (h:Sq A u E B v F) (k:Sq B v F C w G):Sq A u E C w G:=⟨h.fr.trans k.fr,h.ch.trans k.ch⟩
theorem Sq.dropq {A:List Nat} (w:World) (E:List Ent) (j:Nat):Sq A w E A w (E.eraseIdx j):=⟨Owns.J71 w E j,Owns.J9c w E j⟩
theorem ISl.r {α:Type} {r:Rp α} {A B A':List Nat} {w w':World} {p:Option Addr} {c:Nat} {xs:List α} (h:ISl r A w p c xs) (k:Ch A w (B++A') w':=by exact chx):ISl r A' w' p c xs:=(h.ch k).ch (Ch.weak _ _ _)
theorem Els.neqW {α:Type} {r:Rp α} {Av:List Nat} {e:TypeId} {n0:Nat} {E:List Ent} {A:List Nat} {w w1:World} {p:Option Addr} {n c:Nat} {vs:List Value} {xs:List α} (hE:Els r Av w1 vs xs) (hO:Owns n0 w E A) (j:Nat) (hj:E[j]?=some (.row e r.sz p n c vs)):n=xs.length:=by
 have h:=hO.at_ _ (List.mem_of_getElem? hj);have h1:=hE.len;rw[h.1] at h1;exact Nat.eq_of_mul_eq_mul_right r.pos h1
theorem Els.psomeW {α:Type} {r:Rp α} {Av:List Nat} {e:TypeId} {n0:Nat} {E:List Ent} {A:List Nat} {w w1:World} {p:Option Addr} {n c:Nat} {vs:List Value} {xs:List α} (hE:Els r Av w1 vs xs) (hO:Owns n0 w E A) (j:Nat) (hj:E[j]?=some (.row e r.sz p n c vs)) {i:Int} (h0:0≤i) (h:i<(xs.length:Int)):p.isSome=true:=
 J8D (hO.at_ _ (List.mem_of_getElem? hj)) (by have:=hE.neqW hO j hj;omega)
theorem er {α:Type} {a b:α} (h:a=b:=by exact rfl):a=b:=h
theorem cal {P:Program} {f n:Nat} {fn:Func} {c:Code} {A:List Nat} {l:List Value} {w:World} {R:Value→World→Prop} (hA:∀b∈A,b<w.heap.size) (hf:P.funcs[f]?=some fn) (hn:fn.ntmps=n)
  (h:Owns w.heap.size w [] A→Fr (bl []) w (bl []) w→Go1 P f n [.code c] (initσ l) w R) (hb:fn.body=some c:=by exact rfl) (hl:Nat.ble l.length n=true:=by exact rfl):CallsV P f l.toArray w R:=
 CallsV.of hf hb hn hl (h (Owns.start hA) (Fr.refl _ _))
inductive KP (σ:Nat→Value):List Nat→List (Nat×Value)→Prop
 | nil:KP σ [] []
 | cons {i:Nat} {v:Value} {l:List Nat} {L:List (Nat×Value)} (h:σ i=v) (t:KP σ l L):KP σ (i::l) ((i,v)::L)
theorem KP.agrees {σ:Nat→Value} {l:List Nat} {L:List (Nat×Value)} (h:KP σ l L):agrees σ L:=by
 induction h with
 | nil=>trivial
 | cons h _ ih=>exact⟨h,ih⟩
theorem kpx {σ:Nat→Value} {l:List Nat} {L:List (Nat×Value)} (h:KP σ l L:=by repeat (first | exact KP.nil | (apply KP.cons;((conv=>lhs;whnf)<;>exact rfl)))):KP σ l L:=h
def esets (E:List Ent):List (Nat×Ent)→List Ent
 | []=>E
 | p::l=>esets (E.set p.1 p.2) l
abbrev Lp (n0:Nat) (B A:List Nat) (w0:World) (σ:Nat→Value) (w:World) (l:List (Nat×Value)) (Z:List Ent):Prop:=agrees σ l∧Owns n0 w Z A∧Fr B w0 (bl Z) w
abbrev Lo (A:List Nat) (w0:World) (σ:Nat→Value) (w:World) (l:List (Nat×Value)) (Z:List Ent):Prop:=agrees σ l∧Owns w0.heap.size w Z A∧Fr (bl []) w0 (bl Z) w
theorem keep2 {P:Program} {f n:Nat} {k:List Item} {σ:Nat→Value} {w:World} {R:Value→World→Prop} {K l:List (Nat×Value)} (hk:agrees σ K) (hl:agrees σ l) (h:Go1 P f n k (setAll (setAll σ l) K) w R):Go1 P f n k σ w R:=by
 rw[J4x σ l hl,J4x σ K hk] at h;exact h
theorem lh {P:Program} {f n n0:Nat} {k:List Item} {σ:Nat→Value} {w w0:World} {R:Value→World→Prop} {K l:List (Nat×Value)} {Z:List Ent} {A B:List Nat} (hk:agrees σ K) (h:Owns n0 w Z A→Fr B w0 (bl Z) w→Go1 P f n k (setAll (setAll σ l) K) w R):agrees σ l∧Owns n0 w Z A∧Fr B w0 (bl Z) w→Go1 P f n k σ w R:=
 fun h1=>keep2 hk h1.1 (h h1.2.1 h1.2.2)
theorem Owns.frR {n0:Nat} {w:World} {E:List Ent} {A:List Nat} (_:Owns n0 w E A):Fr (bl E) w (bl E) w:=Fr.refl _ _
theorem lv {P:Program} {f n n0:Nat} {k:List Item} {σ:Nat→Value} {w:World} {R:Value→World→Prop} {S:Type} {c:Code} {body:S→(S→Prop)→Prop} {s0:S} {E:List Ent} {A:List Nat} {K:List (Nat×Value)} (ks:List Nat) (hO:Owns n0 w E A) (H:LoopWP body s0) (Pre:List Ent→S→(Nat→Value)→World→Prop) (h0:Pre E s0 σ w)
  (round:∀(X:S→Prop) (s:S),body s X→(∀s',X s'→∀σ' w',agrees σ' K→Pre E s' σ' w'→Go1 P f n (.inLoop c::k) σ' w' R)→∀σ w,agrees σ K→Pre E s σ w→Go1 P f n (.code c::.inLoop c::k) σ w R) (hK:KP σ ks K:=by exact kpx) :
  Go1 P f n (.code (.loop c)::k) σ w R:=Go1.loopW (fun s σ w=>agrees σ K∧Pre E s σ w) H ⟨hK.agrees,h0⟩ fun X s hb hX σ w hp=>round X s hb (fun s' hs σ' w' h1 h2=>hX s' hs σ' w' ⟨h1,h2⟩) σ w hp.1 hp.2
theorem lw {P:Program} {f n:Nat} {k:List Item} {σ:Nat→Value} {w:World} {R:Value→World→Prop} {S:Type} {c:Code} {body:S→(S→Prop)→Prop} {s0:S} (H:LoopWP body s0) (Pre:S→(Nat→Value)→World→Prop) (h0:Pre s0 σ w)
  (round:∀(X:S→Prop) (s:S),body s X→(∀s',X s'→∀σ' w',Pre s' σ' w'→Go1 P f n (.inLoop c::k) σ' w' R)→∀σ w,Pre s σ w→Go1 P f n (.code c::.inLoop c::k) σ w R) :
  Go1 P f n (.code (.loop c)::k) σ w R:=Go1.loopW Pre H h0 round
section
variable {n0:Nat} {w w':World} {E E1:List Ent} {A:List Nat}
theorem nstc {E2:List Ent} (hs:Stp n0 A w E w' E2) (hE:E2=E1:=by first | ((dsimp only[sS,sZ,eS,eZ,List.cons_append,List.nil_append])<;>exact rfl) | exact rfl):Ch (bl E++A) w (bl E1++A) w':=by subst hE;exact hs.q.ch
theorem nst {G:Prop} {E2:List Ent} (hs:Stp n0 A w E w' E2) (h:Sq A w E A w' E1→Owns n0 w' E1 A→G) (hE:E2=E1:=by first | ((dsimp only[sS,sZ,eS,eZ,List.cons_append,List.nil_append])<;>exact rfl) | exact rfl):G:=by subst hE;exact h hs.q hs.own
theorem sob {G:Prop} {T1 T2:List Ent} (k:Nat) (hO:Owns n0 w E A) (h:Sg A w E (bl T2++A) w T1→Owns n0 w T1 (bl T2++A)→G) (h1:E.take k=T1:=by (conv=>lhs;simp only[List.take_succ_cons,List.take_zero])<;>exact rfl) (h2:E.drop k=T2:=by (conv=>lhs;simp only[List.drop_succ_cons,List.drop_zero])<;>exact rfl):G:=by
 have he:T1++T2=E:=by rw[←h1,←h2];exact List.take_append_drop k E
 subst he;exact h ⟨Ch.assoc' T1 T2 A w⟩ hO.split
theorem sjn {G:Prop} {T1 T2 T1':List Ent} (hO:Owns n0 w E A) (hN:Owns n0 w' T1' (bl T2++A)) (hF:Fr (bl T1) w (bl T1') w') (h:Sq A w E A w' E1→Owns n0 w' E1 A→Ch (bl T1'++(bl T2++A)) w' (bl E1++A) w'→G) (he:T1++T2=E:=by exact rfl) (h1:T1'++T2=E1:=by (dsimp only[List.cons_append,List.nil_append])<;>exact rfl):G:=by
 subst he;subst h1;have hs:=Stp.join hO hN hF;exact h hs.q hs.own (Ch.assoc T1' T2 A w')
theorem smr {G:Prop} {EN:List Ent} (hO:Owns n0 w E A) (hs:Same w w') (hN:Owns w.heap.size w' EN (bl E++A)) (h:Sq A w E A w' E1→Owns n0 w' E1 A→Ch (bl EN++(bl E++A)) w' (bl E1++A) w'→G) (h1:EN++E=E1:=by (dsimp only[List.cons_append,List.nil_append])<;>exact rfl):G:=by
 subst h1;exact h (Stp.more hO hs hN).q (Stp.more hO hs hN).own (Ch.assoc EN E A w')
theorem sm {G:Prop} (hO:Owns n0 w E A) (hs:Same w w') (h:Sq A w E A w' E→Owns n0 w' E A→G):G:=h (Stp.same hO hs).q (Stp.same hO hs).own
def drl (l:List Nat) (E:List Ent):List Ent:=l.foldl (fun E i=>E.eraseIdx i) E
theorem drl_q:∀(l:List Nat) (E:List Ent),Owns n0 w E A→Sq A w E A w (drl l E)∧Owns n0 w (drl l E) A
 | [],E,h=>⟨(Stp.same h (Same.refl w)).q,h⟩
 | i::l,E,h=>⟨(Sq.dropq w E i).trans (drl_q l _ (h.drop i)).1,(drl_q l _ (h.drop i)).2⟩
theorem sdr {G:Prop} (l:List Nat) (hO:Owns n0 w E A) (h:Sq A w E A w E1→Owns n0 w E1 A→G) (hE:drl l E=E1:=by (dsimp only[drl,List.foldl,eS,eZ])<;>exact rfl):G:=by
 subst hE;exact h (drl_q l E hO).1 (drl_q l E hO).2
theorem sfr {G:Prop} {e:Ent} (j:Nat) (hO:Owns n0 w E A) (h:Sq A w E A w E1→Owns n0 w E1 A→G) (hj:E[j]?=some e:=by exact rfl) (hE:e::E.eraseIdx j=E1:=by (dsimp only[eS,eZ])<;>exact rfl):G:=by
 subst hE;exact h (Stp.front j hO hj).q (Stp.front j hO hj).own
abbrev q0:Md:=.pure
abbrev q1:Md:=.stable
abbrev q2:Md:=.loud
abbrev q3:Md:=.last
def zI:Nat→List Md→List (Nat×Md)
 | _,[]=>[]
 | n,m::l=>(n,m)::zI (n+1) l
theorem zix {ms:List Md} {s:List (Nat×Md)} (h:zI 0 ms=s:=by (conv=>lhs;simp only[zI,Nat.zero_add,Nat.reduceAdd])<;>exact rfl):zI 0 ms=s:=h
theorem drw {f n:Nat} {L:List Oper} {k:List Item} {σ:Nat→Value} {R:Value→World→Prop} {i:Nat} (dep:Nat) (s:List (Nat×Md)) (hO:Owns n0 w E A)
  (h:∀w1,Sq A w E A w1 E→Owns n0 w1 E A→GoQ Tryz.prog f n L s k R s σ w1) (hB:scrOk L dep s=true:=by kernel_rfl):Go1 Tryz.prog f n (.code (.region i L.toArray true)::k) σ w R:=
 Go1.drawS dep s mixed hB fun w1 hs=>h w1 (Stp.same hO hs).q (Stp.same hO hs).own
theorem drs {f n:Nat} {L:List Oper} {k:List Item} {σ:Nat→Value} {R:Value→World→Prop} {i:Nat} {s:List (Nat×Md)} (dep:Nat) (ms:List Md) (hO:Owns n0 w E A)
  (h:∀w1,Sq A w E A w1 E→Owns n0 w1 E A→GoQ Tryz.prog f n L s k R s σ w1) (hs:zI 0 ms=s:=by exact zix) (hB:scrOk L dep s=true:=by kernel_rfl):Go1 Tryz.prog f n (.code (.region i L.toArray true)::k) σ w R:=drw dep s hO h hB
theorem drF {f n:Nat} {L:List Oper} {k:List Item} {σ:Nat→Value} {R:Value→World→Prop} {i:Nat} (Ns Ms:List Nat) (dep:Nat) (s:List (Nat×Md)) (hO:Owns n0 w E A)
  (h:∀w1,Sq A w E A w1 E→Owns n0 w1 E A→GoQ Tryz.prog f n L s k R s σ w1) (hB:scrOkF L Ns Ms dep s=true:=by kernel_rfl):Go1 Tryz.prog f n (.code (.region i L.toArray true)::k) σ w R:=
 Go1.drawSF Ns Ms dep s mixed hB fun w1 hs=>h w1 (Stp.same hO hs).q (Stp.same hO hs).own
end
section
variable {f n:Nat} {L l:List Oper} {s0 sc:List (Nat×Md)} {k:List Item} {i:Nat}
variable {d:Option Nat} {op:Op} {ty t t' e:TypeId} {pos:String} {aft:Array Edge} {gd0:Option (Nat×Bool)}
variable {x y z:Operand} {ts:Array TypeId} {σ σ2:Nat→Value} {w w':World} {E E' E1:List Ent} {A:List Nat} {n0:Nat} {Goal:Prop} {Gv Gv1:Value→Prop} {Gw:Value→World→Prop} {R R1:Value→World→Prop}
theorem zcr (hc:OpC Tryz.prog op ty σ w R1) (h:∀v w',R1 v w'→GoR Tryz.prog f n L l k (putS σ d v) w' R) (hg:gd L σ gd0=true:=by exact rfl) (hd:dOk n d=true:=by exact rfl):GoR Tryz.prog f n L (⟨d,op,ty,pos,aft,gd0⟩::l) k σ w R:=GoR.call hc hg hd h
theorem sax {R1:Value→World→Prop} (h:∀v w',R1 v w'→Same w w':=by
 intro _ _
 repeat (first | exact fun h=>h.2.1 | refine exE fun _=>?_)):∀v w',R1 v w'→Same w w':=h
theorem zcq (hi:nth L i=some ⟨d,op,ty,pos,aft,gd0⟩) (hc:OpC Tryz.prog op ty σ w R1) (h:∀v w',R1 v w'→GoQ Tryz.prog f n L s0 k R sc (putS σ d v) w') (hs:∀v w',R1 v w'→Same w w':=by exact sax) (hg:gd L σ gd0=true:=by exact rfl) (hd:dOk n d=true:=by exact rfl) :
  GoQ Tryz.prog f n L s0 k R ((i,.loud)::sc) σ w:=GoQ.call hi hc hs hg hd h
theorem sc0 {v val:Value} {p:Prop} (hO:Owns n0 w E A) (h:Sq A w E A w' E→Owns n0 w' E A→p→GoR Tryz.prog f n L l k (putS σ d val) w' R):(v=val∧Same w w'∧p)→GoR Tryz.prog f n L l k (putS σ d v) w' R:=
 fun ⟨hv,hs,hp⟩=>hv▸h (Stp.same hO hs).q (Stp.same hO hs).own hp
theorem sc1 {v val:Value} {p:Prop} {EN:List Ent} {A':List Nat} (hO:Owns n0 w E A) (h:Sq A w E A w' E1→Owns n0 w' E1 A→p→GoR Tryz.prog f n L l k (putS σ d val) w' R) (hE:EN++E=E1:=by (dsimp only[List.cons_append,List.nil_append])<;>exact rfl):(v=val∧Same w w'∧Owns w.heap.size w' EN A'∧p)→GoR Tryz.prog f n L l k (putS σ d v) w' R:=
 fun ⟨hv,hs,hN,hp⟩=>by subst hE;exact hv▸h (Stp.more hO hs hN).q (Stp.more hO hs hN).own hp
theorem sq0 {v val:Value} {p:Prop} (hO:Owns n0 w E A) (h:Sq A w E A w' E→Owns n0 w' E A→p→GoQ Tryz.prog f n L s0 k R sc (putS σ d val) w'):(v=val∧Same w w'∧p)→GoQ Tryz.prog f n L s0 k R sc (putS σ d v) w':=
 fun ⟨hv,hs,hp⟩=>hv▸h (Stp.same hO hs).q (Stp.same hO hs).own hp
theorem sq1 {v val:Value} {p:Prop} {EN:List Ent} {A':List Nat} (hO:Owns n0 w E A) (h:Sq A w E A w' E1→Owns n0 w' E1 A→p→GoQ Tryz.prog f n L s0 k R sc (putS σ d val) w') (hE:EN++E=E1:=by (dsimp only[List.cons_append,List.nil_append])<;>exact rfl):(v=val∧Same w w'∧Owns w.heap.size w' EN A'∧p)→GoQ Tryz.prog f n L s0 k R sc (putS σ d v) w':=
 fun ⟨hv,hs,hN,hp⟩=>by subst hE;exact hv▸h (Stp.more hO hs hN).q (Stp.more hO hs hN).own hp
theorem saq {p:Prop} {w w':World} (hr:p) (h:p→Same w w':=by repeat (first | exact fun h=>h.2.1 | refine exE fun _=>?_)):Same w w':=h hr
section
variable {xs:List Nat} {T:World→World→Prop} {N0:Nat} {A0 A1:List Nat} {tr:Tr} {sa:List (Nat×MdA)}
theorem sA0 {v val:Value} {p:Prop} (hO:Owns n0 w E A) (h:Sq A w E A w' E→Owns n0 w' E A→p→GoQA N0 A0 T Tryz.prog f n L k R sa (putS σ d val) w' A):(v=val∧Same w w'∧p)→GoQA N0 A0 T Tryz.prog f n L k R sa (putS σ d v) w' A:=
 fun ⟨hv,hs,hp⟩=>hv▸h (Stp.same hO hs).q (Stp.same hO hs).own hp
theorem sA1 {v val:Value} {p:Prop} {EN:List Ent} {A':List Nat} (hO:Owns n0 w E A) (h:Sq A w E A w' E1→Owns n0 w' E1 A→p→GoQA N0 A0 T Tryz.prog f n L k R sa (putS σ d val) w' A) (hE:EN++E=E1:=by (dsimp only[List.cons_append,List.nil_append])<;>exact rfl):(v=val∧Same w w'∧Owns w.heap.size w' EN A'∧p)→GoQA N0 A0 T Tryz.prog f n L k R sa (putS σ d v) w' A:=
 fun ⟨hv,hs,hN,hp⟩=>by subst hE;exact hv▸h (Stp.more hO hs hN).q (Stp.more hO hs hN).own hp
abbrev m0:MdA:=.pure
abbrev m1:MdA:=.stable
abbrev m2:MdA:=.loud
abbrev m3:MdA:=.last
abbrev m4:MdA:=.alloc
theorem drA {ok:World→Prop} {i:Nat} (hT:TR T ok) (dep:Nat) (s:List (Nat×MdA)) (hO:Owns n0 w E A)
  (h:∀w1,Sq A w E A w1 E→Owns n0 w1 E A→GoQA w1.heap.size A T Tryz.prog f n L k R s σ w1 A) (hok:ok w:=by exact trivial) (hB:scrOkA L dep s=true:=by kernel_rfl):Go1 Tryz.prog f n (.code (.region i L.toArray true)::k) σ w R:=
 Go1.drawA hT A dep s mixed hB hok hO.bd fun w1 hs=>h w1 (Stp.same hO hs).q (Stp.same hO hs).own
theorem sgw {G:Prop} (hg:Grw A w A1 w') (hO:Owns n0 w E A) (h:Sq A w E A1 w' E→Owns n0 w' E A1→G):G:=h ⟨hg.same.fr _,hg.ch _⟩ (hg.own hO)
theorem spm {G:Prop} (hp:A.Perm A1) (hO:Owns n0 w E A) (h:Sq A w E A1 w E→Owns n0 w E A1→G):G:=h ⟨Fr.refl _ _,permCh hp _⟩ (hO.permA hp)
theorem sgn {G:Prop} {B0:List Nat} {w0:World} {N b:Nat} {e:Ent} (hp:A.Perm (b::A1)) (hO:Owns n0 w E A) (hn:n0≤N) (hw:w0.heap.size≤N) (hb:N≤b) (hf:e.fp=[b]) (hh:e.holds N w) (hd:b∉A1) (hF:Fr B0 w0 (bl E) w)
  (h:Sg A w E A1 w (e::E)→Owns n0 w (e::E) A1→Fr B0 w0 (bl (e::E)) w→G):G:=h ⟨gainCh hp hf⟩ (hO.gain hp hn hf hh hd) (Fr.gain hF (Nat.le_trans hw hb) hf)
end
variable {α:Type} {r:Rp α} {hf:Fl r} {p:Option Addr} {m c:Nat} {xs:List α}
theorem op1 {G:Prop} {z:Nat} {F:List Value→List Ent} (j:Nat) (hO:Owns n0 w E A) (h:∀vs,Sq A w E A w (F vs)→Owns n0 w (F vs) A→Els r (bl (F vs)++A) w vs xs→G)
  (hj:E[j]?=some (t1 hf e p m c xs):=by exact rfl) (hz:r.sz=z:=by (conv=>lhs;whnf)<;>exact rfl) (hF:∀vs,E.set j (.row e z p m c vs)=F vs:=by intro _;exact set1):G:=by
 subst hz;obtain⟨vs,h1,h2,_,h3⟩:=t1row j hO hj;rw[hF] at h1 h2;exact h vs ⟨by rw[h2];exact Fr.refl _ _,by rw[h2];exact Ch.refl _ _⟩ h1 (h3 _ _)
theorem cl1 {G:Prop} {vs:List Value} {B:List Nat} {w1:World} (hf:Fl r) (j:Nat) (hO:Owns n0 w E A) (hE:Els r B w1 vs xs) (h:Sq A w E A w E1→Owns n0 w E1 A→G)
  (hj:E[j]?=some (.row e r.sz p m c vs):=by exact rfl) (hF:E.set j (t1 hf e p m c xs)=E1:=by exact set1):G:=by
 have hh:(t1 hf e p m c xs).holds n0 w:=⟨vs,hO.at_ _ (List.mem_of_getElem? hj),hE.fl hf⟩;have h1:=hO.swap hj (b:=t1 hf e p m c xs) J5i.symm hh;have h2:=Jai hj (b:=t1 hf e p m c xs) J5i.symm;rw[hF] at h1 h2;exact h ⟨by rw[h2];exact Fr.refl _ _,by rw[h2];exact Ch.refl _ _⟩ h1
theorem t1lend (j:Nat) (hO:Owns n0 w E A) (hj:E[j]?=some (t1 hf e p m c xs):=by exact rfl):ISl r (bl (E.eraseIdx j)++A) w p c xs:=by
 obtain⟨vs,h1,h2,h4,h3⟩:=t1row j hO hj;have h5:=(rowlend j h1 h4 (h3 _ _)).1
 have he:(E.set j (.row e r.sz p m c vs)).eraseIdx j=E.eraseIdx j:=by
  have hjl:=(List.getElem?_eq_some_iff.1 hj).1;rw[List.eraseIdx_eq_take_drop_succ,List.eraseIdx_eq_take_drop_succ,List.set_eq_take_append_cons_drop,if_pos hjl];rw[List.take_append_of_le_length (by simp;omega),List.take_take,Nat.min_self]
  congr 1
  rw[List.drop_append,List.drop_eq_nil_of_le (by simp;omega)];simp[List.length_take,Nat.min_eq_left (Nat.le_of_lt hjl)]
 rwa [he] at h5
theorem sfz {G:Prop} (j:Nat) (hO:Owns n0 w E A) (h:Sq A w E A w E1→Owns n0 w E1 A→ISl r (bl E1++A) w p c xs→m=xs.length→G)
  (hj:E[j]?=some (t1 hf e p m c xs):=by exact rfl) (hF:E.eraseIdx j=E1:=by exact era1):G:=by
 have h1:=t1lend j hO hj;have h2:=t1n j hO hj;have h3:=hO.drop j;have h4:=Sq.dropq (A:=A) w E j;rw[hF] at h1 h3 h4;exact h h4 h3 h1 h2
theorem sfzR {G:Prop} {vs:List Value} (j:Nat) (hO:Owns n0 w E A) (hE:Els r (bl E++A) w vs xs) (h:Sq A w E A w E1→Owns n0 w E1 A→ISl r (bl E1++A) w p c xs→m=xs.length→G)
  (hj:E[j]?=some (.row e r.sz p m c vs):=by exact rfl) (hF:E.eraseIdx j=E1:=by exact era1):G:=by
 obtain⟨h1,h2,h3,h4⟩:=freeze j hO hj hE;have h5:=Sq.dropq (A:=A) w E j;rw[hF] at h1 h3 h5;exact h h5 h1 h3 h4
theorem sfzA {G:Prop} {vs:List Value} (j:Nat) (hO:Owns n0 w E A) (hE:Els r (bl E++A) w vs xs) (k:Nat) (h:Sq A w E A w E1→Owns n0 w E1 A→ISl r (bl E1++A) w p c (xs.take k)→G)
  (hj:E[j]?=some (.row e r.sz p m c vs):=by exact rfl) (hF:E.eraseIdx j=E1:=by exact era1):G:=by
 obtain⟨h1,h3,h4⟩:=freezeHead j hO hj hE k;have h5:=Sq.dropq (A:=A) w E j;rw[hF] at h1 h4 h5;exact h h5 h1 h4
theorem sfz2 {G:Prop} {e':TypeId} {hs:Hd} {xss:List (List α)} (j:Nat) (hO:Owns n0 w E A) (h:Sq A w E A w E1→Owns n0 w E1 A→ISl r.sl (bl E1++A) w p c xss→m=xss.length→G)
  (hj:E[j]?=some (t2 hf e e' p m c hs xss):=by exact rfl) (hF:E.eraseIdx j=E1:=by exact era1):G:=by
 have h1:=t2lend j hO hj;have h2:=t2neq j hO hj;have h3:=hO.drop j;have h4:=Sq.dropq (A:=A) w E j;rw[hF] at h1 h3 h4;exact h h4 h3 h1 h2
theorem t1le {hf:Fl Rp.str} {xs:List Str} (j:Nat) (hO:Owns n0 w E A) {i:Int} (h0:0≤i) (h1:i<(xs.length:Int)) (hj:E[j]?=some (t1 hf e p m c xs):=by exact rfl):(ix xs i).length≤mx:=by
 obtain⟨vs,_,h2⟩:=t1at j hO hj;exact(h2.val h0 h1).2.2
section
variable [Inhabited α] {sz:Nat} {enc:α→List Value} {ok:α→Prop} {ps:0<sz} {ln:∀x,(enc x).length=sz} {on:∀x,∀v∈enc x,v.oneCell'=true} {ff:Fl (Rp.flat sz enc ok ps ln on)}
end
theorem sln0 (h:Gv (.int .i64 m)) (g:∀v,(∀w,OpV Tryz.prog (.call { callee:=.builtin .len,args:=#[x],argTypes:=#[t] }) ty σ w v w)→Gv v→Goal:=by exact gp)
  (ht:UN t (.slice e):=by exact und) (hx:ev σ x=.slice p m c:=by exact rfl):Goal:=g _ (J4L ht.h hx) h
theorem slnN {q:Nat} (hn:m=q) (h:Gv (.int .i64 q)) (g:∀v,(∀w,OpV Tryz.prog (.call { callee:=.builtin .len,args:=#[x],argTypes:=#[t] }) ty σ w v w)→Gv v→Goal:=by exact gp)
  (ht:UN t (.slice e):=by exact und) (hx:ev σ x=.slice p m c:=by exact rfl):Goal:=g _ (J08 ht.h hx hn) h
theorem sln1 (j:Nat) (hO:Owns n0 w E A) (h:Gv (.int .i64 xs.length)) (g:∀v,(∀w,OpV Tryz.prog (.call { callee:=.builtin .len,args:=#[x],argTypes:=#[t] }) ty σ w v w)→Gv v→Goal:=by exact gp)
  (ht:UN t (.slice e):=by exact und) (hj:E[j]?=some (t1 hf e p m c xs):=by exact rfl) (hx:ev σ x=.slice p m c:=by exact rfl):Goal:=g _ (J08 ht.h hx (t1n j hO hj)) h
theorem slds {xss:List (List α)} {i:Int} (hO:Owns n0 w E A) (hs:ISl r.sl (bl E++A) w p c xss) (h0:0≤i) (h1:i<(xss.length:Int)) (h:∀q d,ISl r (bl E++A) w q d (ix xss i)→Gv (.slice q (ix xss i).length d))
  (g:∀v,(∀w',Same w w'→OpV Tryz.prog (.load t x) ty σ w' v w')→Gv v→Goal:=by exact gs)
  {dd:TypeDesc} (ht:UN t dd:=by exact und) (hd:scB dd=true:=by exact rfl) (hx:ev σ x=.pointer (padd p (i.toNat*1)):=by exact rfl):Goal:=by
 obtain⟨q,d,hi,hl⟩:=ldSl hs h0 h1;exact g _ (fun w' hw=>hl ht.h hd hx w' hw) (h q d hi)
theorem sxls {xss:List (List α)} {kk:IntKind} {b:Nat} {zz:Option Value} {i:Int} (hO:Owns n0 w E A) (hs:ISl r.sl (bl E++A) w p c xss) (h0:0≤i) (h1:i<(xss.length:Int)) (h:∀q d,ISl r (bl E++A) w q d (ix xss i)→Gv (.slice q (ix xss i).length d))
  {ty2 t2:TypeId} {x2:Operand}
  (g1:∀v,(∀w,OpV Tryz.prog (.indexAddr t x y) ty σ w v w)→Gv1 v→Goal:=by exact gp)
  (ht:UN t (.slice e):=by exact und) (he:TI e zz 1 b:=by exact tin) (hx:ev σ x=.slice p m c:=by exact rfl) (hy:ev σ y=.int kk i:=by exact rfl) (hn:m=xss.length:=by exact lenE)
  (g2:∀v,(∀w',Same w w'→OpV Tryz.prog (.load t2 x2) ty2 σ2 w' v w')→Gv v→Gv1 (.pointer (padd p (i.toNat*1))):=by exact gs)
  {dd:TypeDesc} (ht2:UN t2 dd:=by exact und) (hd:scB dd=true:=by exact rfl) (hx2:ev σ2 x2=.pointer (padd p (i.toNat*1)):=by exact rfl):Goal:=by
 obtain⟨q,d,hi,hl⟩:=ldSl hs h0 h1;exact g1 _ (fun w=>J01 ht.h he.h hx hy h0 (ltn hn h1) (hs.some_ h0 h1) w) (g2 _ (fun w' hw=>hl ht2.h hd hx2 w' hw) (h q d hi))
theorem ifB {b:Bool} {a a':Prop} {G:Bool→Prop} (H:if b=true then a else a') (hT:b=true→a→G true) (hF:¬b=true→a'→G false):G b:=by
 cases b with
 | true=>exact hT rfl (by simpa using H)
 | false=>exact hF (by decide) (by simpa using H)
theorem sxb {xs:List Bool} {a a':Prop} {kk:IntKind} {b:Nat} {zz:Option Value} {i:Int} (hO:Owns n0 w E A) (hs:ISl Rp.bool (bl E++A) w p c xs) (h0:0≤i) (h1:i<(xs.length:Int)) (H:if ix xs i=true then a else a') (hT:ix xs i=true→a→Gv (.bool true)) (hF:¬ix xs i=true→a'→Gv (.bool false))
  {ty2 t2:TypeId} {x2:Operand}
  (g1:∀v,(∀w,OpV Tryz.prog (.indexAddr t x y) ty σ w v w)→Gv1 v→Goal:=by exact gp)
  (ht:UN t (.slice e):=by exact und) (he:TI e zz 1 b:=by exact tin) (hx:ev σ x=.slice p m c:=by exact rfl) (hy:ev σ y=.int kk i:=by exact rfl) (hn:m=xs.length:=by exact lenE)
  (g2:∀v,(∀w',Same w w'→OpV Tryz.prog (.load t2 x2) ty2 σ2 w' v w')→Gv v→Gv1 (.pointer (padd p (i.toNat*1))):=by exact gs)
  {dd:TypeDesc} (ht2:UN t2 dd:=by exact und) (hd:scB dd=true:=by exact rfl) (hx2:ev σ2 x2=.pointer (padd p (i.toNat*1)):=by exact rfl):Goal:=
 g1 _ (fun w=>J01 ht.h he.h hx hy h0 (ltn hn h1) (hs.some_ h0 h1) w) (g2 _ (fun w' hw=>ldBool hs h0 h1 ht2.h hd hx2 w' hw) (ifB (G:=fun b=>Gv (.bool b)) H hT hF))
theorem sxb1 {xs:List Bool} {hf:Fl Rp.bool} {a a':Prop} {kk:IntKind} {b:Nat} {zz:Option Value} {i:Int} (j:Nat) (hO:Owns n0 w E A) (h0:0≤i) (h1:i<(xs.length:Int)) (H:if ix xs i=true then a else a') (hT:ix xs i=true→a→Gv (.bool true)) (hF:¬ix xs i=true→a'→Gv (.bool false))
  {ty2 t2:TypeId} {x2:Operand}
  (g1:∀v,(∀w,OpV Tryz.prog (.indexAddr t x y) ty σ w v w)→Gv1 v→Goal:=by exact gp)
  (hj:E[j]?=some (t1 hf e p m c xs):=by exact rfl) (ht:UN t (.slice e):=by exact und) (he:TI e zz 1 b:=by exact tin) (hx:ev σ x=.slice p m c:=by exact rfl) (hy:ev σ y=.int kk i:=by exact rfl)
  (g2:∀v,(∀w',Same w w'→OpV Tryz.prog (.load t2 x2) ty2 σ2 w' v w')→Gv v→Gv1 (.pointer (padd p (i.toNat*1))):=by exact gs)
  {dd:TypeDesc} (ht2:UN t2 dd:=by exact und) (hd:scB dd=true:=by exact rfl) (hx2:ev σ2 x2=.pointer (padd p (i.toNat*1)):=by exact rfl):Goal:=
 sxl1 (v:=.bool (ix xs i)) j hO h0 h1 (ifB (G:=fun b=>Gv (.bool b)) H hT hF) g1 hj ht he hx hy g2 (fun _ h=>h) ht2 hd hx2
theorem cgt {cs:Array Value} {i:Nat} {v:Value} (hv:cs.getD i undef=v) (hi:Nat.blt i cs.size=true):cs[i]?=some v:=by
 have hl:i<cs.size:=by simpa [Nat.blt_eq] using hi
 subst hv;simp[Array.getElem?_eq_getElem hl,hl]
theorem gtv {cs:Array Value} {i:Nat} {v:Value} (h:cs.getD i undef=v:=by (conv=>lhs;whnf)<;>exact rfl):cs.getD i undef=v:=h
theorem sbl {b q:Nat} {cs:Array Value} {T:TypeId} {fz:Nat×Nat} {v:Value} (j:Nat) (h:Gv v)
  (g:∀v,(∀w',Same w w'→OpV Tryz.prog (.load t x) ty σ w' v w')→Gv v→Goal:=by exact gs) (hO:Owns n0 w E A:=by assumption)
  (hx:ev σ x=.pointer (some ⟨b,q,none⟩):=by exact rfl) (hj:E[j]?=some (.blk b (.cells cs T fz)):=by exact rfl) (hv:cs.getD q undef=v:=by exact gtv) (hq:Nat.blt q cs.size=true:=by exact rfl)
  {dd:TypeDesc} (ht:UN t dd:=by exact und) (hd:scB dd=true:=by exact rfl):Goal:=
 g _ (fun w' hw=>oblk j hO hj (cgt hv hq) ht.h hd hx w' hw) h
theorem sbb {b q:Nat} {cs:Array Value} {T:TypeId} {fz:Nat×Nat} {bv:Bool} {a a':Prop} (j:Nat) (H:if bv=true then a else a') (hT:bv=true→a→Gv (.bool true)) (hF:¬bv=true→a'→Gv (.bool false))
  (g:∀v,(∀w',Same w w'→OpV Tryz.prog (.load t x) ty σ w' v w')→Gv v→Goal:=by exact gs) (hO:Owns n0 w E A:=by assumption)
  (hx:ev σ x=.pointer (some ⟨b,q,none⟩):=by exact rfl) (hj:E[j]?=some (.blk b (.cells cs T fz)):=by exact rfl) (hv:cs.getD q undef=.bool bv:=by exact rfl) (hq:Nat.blt q cs.size=true:=by exact rfl)
  {dd:TypeDesc} (ht:UN t dd:=by exact und) (hd:scB dd=true:=by exact rfl):Goal:=
 g _ (fun w' hw=>oblk j hO hj (cgt hv hq) ht.h hd hx w' hw) (ifB (G:=fun b=>Gv (.bool b)) H hT hF)
theorem sbs {b q:Nat} {l l':List Value} {T:TypeId} {v:Value} (j:Nat) (hO:Owns n0 w E A) (h:∀w',Sq A w E A w' E1→Owns n0 w' E1 A→Gw undef w')
  (g:∀v w' E',OpV Tryz.prog (.store t x y) ty σ w v w'→Stp n0 A w E w' E'→Gw v w'→Goal:=by exact gw)
  (hx:ev σ x=.pointer (some ⟨b,q,none⟩):=by exact rfl) (hy:ev σ y=v:=by exact whv) (hj:E[j]?=some (.blk b (.cells l.toArray T (0,0))):=by exact rfl) (hl:l.set q v=l':=by (dsimp only[sS,sZ])<;>exact rfl) (hE1:E.set j (.blk b (.cells l'.toArray T (0,0)))=E1:=by exact set1)
  (hq:Nat.blt q l.length=true:=by exact rfl) {dd:TypeDesc} (ht:UN t dd:=by exact und) {zz:Option Value} {bb:Nat} (he:TI t zz 1 bb:=by exact tin) (hd:scB dd=true:=by exact rfl) (hv:v.oneCell'=true:=by exact rfl):Goal:=by
 have hlt:q<l.length:=by simpa [Nat.blt_eq] using hq
 obtain⟨w',hst,hop⟩:=J9S (i:=q) (v:=v) (cs':=l'.toArray) j hO hj (u:=l[q]) (by simp[hlt]) hv (by subst hl;simp);rw[hE1] at hst;exact g _ _ _ (hop ht.h hd he.h hx hy) hst (h w' hst.q hst.own)
theorem sba {b:Nat} {l l':List Value} {T:TypeId} (j:Nat) (hO:Owns n0 w E A) (h:∀w',Sq A w E A w' E1→Owns n0 w' E1 A→Gw undef w')
  (g:∀v w' E',OpV Tryz.prog (.store t x y) ty σ w v w'→Stp n0 A w E w' E'→Gw v w'→Goal:=by exact gw)
  (hx:ev σ x=.pointer (some ⟨b,0,none⟩):=by exact rfl) (hy:ev σ y=.agg l'.toArray:=by exact rfl) (hj:E[j]?=some (.blk b (.cells l.toArray T (0,0))):=by exact rfl) (hE1:E.set j (.blk b (.cells l'.toArray T (0,0)))=E1:=by exact set1)
  (hq:Nat.beq l.length l'.length=true:=by exact rfl) {zz:Option Value} {bb:Nat} (he:TI t zz l'.length bb:=by exact tin) (hv:l'.all (fun v=>v.oneCell')=true:=by exact rfl):Goal:=by
 have hlt:=Nat.eq_of_beq_eq_true hq
 obtain⟨w',hst,hop⟩:=Jbj (us:=l') (o:=0) (cs':=l'.toArray) j hO hj (by
  simpa using hv) (by simp[hlt]) (by simp[←hlt])
 rw[hE1] at hst;exact g _ _ _ (hop he.h hx hy rfl) hst (h w' hst.q hst.own)
theorem sag {vs:List Value} {b:Nat} {T:TypeId} {fz:Nat×Nat} (j:Nat) (hO:Owns n0 w E A) (h:Gv (.agg vs.toArray))
  (g:∀v,(∀w',Same w w'→OpV Tryz.prog (.load t x) ty σ w' v w')→Gv v→Goal:=by exact gs)
  (hx:ev σ x=.pointer (some ⟨b,0,none⟩):=by exact rfl) (hj:E[j]?=some (.blk b (.cells vs.toArray T fz)):=by exact rfl)
  {dd:TypeDesc} (ht:UN t dd:=by exact und) (hd:scB dd=false:=by exact rfl) {zz:Option Value} {bb:Nat} (he:TI t zz vs.length bb:=by exact tin):Goal:=
 g _ (fun w' hw=>J0K (i:=0) j hO hj (by simp) ht.h hd he.h hx w' hw) h
theorem rlb {vs:List Value} {b:Nat} {T:TypeId} {fz:Nat×Nat} (j:Nat) (hO:Owns n0 w E A) (hj:E[j]?=some (.blk b (.cells vs.toArray T fz)):=by exact rfl)
  {dd:TypeDesc} (ht:UN t dd:=by exact und) (hd:scB dd=false:=by exact rfl) {zz:Option Value} {bb:Nat} (he:TI t zz vs.length bb:=by exact tin):(loadVar t ⟨b,0,none⟩).run Tryz.prog w=.ok (.agg vs.toArray) w:=
 Jc1 j hO hj (by simp) ht.h hd he.h
theorem sal {zv:Value} {l:List Value} {s b:Nat} (hO:Owns n0 w E A) (h:∀w' B,Sq A w E A w' (.blk B (.cells l.toArray t (0,0))::E)→Owns n0 w' (.blk B (.cells l.toArray t (0,0))::E) A→Gw (.pointer (some ⟨B,0,none⟩)) w')
  (g:∀v w' E',OpV Tryz.prog (.alloc t) ty σ w v w'→Same w w'→Stp n0 A w E w' E'→Gw v w'→Goal:=by exact gl)
  (he:TI t (some zv) s b:=by exact tin) (hc:zv.cells.toList=l:=by (conv=>lhs;whnf)<;>exact rfl):Goal:=by
 obtain⟨w',B,hst,hs,hop⟩:=oalloc (cs:=l.toArray) he.h hO (by subst hc;rfl);exact g _ _ _ hop hs hst (h w' B hst.q hst.own)
theorem sbx {v:Value} {l:List Value} (hO:Owns n0 w E A) (h:∀w' B,Sq A w E A w' (.blk B (.cells l.toArray t (0,0))::E)→Owns n0 w' (.blk B (.cells l.toArray t (0,0))::E) A→Gw (.pointer (some ⟨B,0,none⟩)) w')
  (g:∀v w' E',OpV Tryz.prog (.box t x) ty σ w v w'→Same w w'→Stp n0 A w E w' E'→Gw v w'→Goal:=by exact gl)
  (hx:ev σ x=v:=by exact whv) (hc:v.cells.toList=l:=by (conv=>lhs;whnf)<;>exact rfl):Goal:=by
 obtain⟨w',B,hst,hs,hop⟩:=obox (t:=t) (cs:=l.toArray) hO (by subst hc;rfl);exact g _ _ _ (hop hx) hs hst (h w' B hst.q hst.own)
inductive VS (σ:Nat→Value):Nat→List (Nat×Operand)→List Value→Prop
 | nil {k:Nat}:VS σ k [] []
 | cons {k:Nat} {x:Operand} {v:Value} {l:List (Nat×Operand)} {vs:List Value} (hx:ev σ x=v) (h:VS σ (k+1) l vs):VS σ k ((k,x)::l) (v::vs)
def pz:Nat→List Value→List (Nat×Value)
 | _,[]=>[]
 | k,v::vs=>(k,v)::pz (k+1) vs
theorem VS.eq:∀{k:Nat} {l:List (Nat×Operand)} {vs:List Value},VS σ k l vs→(l.map fun p=>(p.1,ev σ p.2))=pz k vs
 | _,_,_,.nil=>rfl
 | _,_,_,.cons hx h=>by simp[pz,hx,h.eq]
theorem vsx {k:Nat} {l:List (Nat×Operand)} {vs:List Value} (h:VS σ k l vs:=by repeat (first | exact VS.nil | (apply VS.cons;exact whv))):VS σ k l vs:=h
theorem elx {vs:List Value} (h:∀B w,Els r B w vs xs:=by
 intro _ _
 repeat (first | exact Els.nil _ _ _ | refine Els.cons rfl rfl ?_ (by simp[mx]))):∀B w,Els r B w vs xs:=h
theorem sbu {zv:Value} {by_ k:Nat} {ps:List (Nat×Operand)} {vs:List Value} (hf:Fl r) (e:TypeId) (xs:List α) (hO:Owns n0 w E A)
  (h:∀w' p,Sq A w E A w' (t1 hf e p k k xs::E)→Owns n0 w' (t1 hf e p k k xs::E) A→Gw (.slice p k k) w')
  (g:∀v w' E',OpV Tryz.prog (.buildSlice t k ps.toArray) ty σ w v w'→Same w w'→Stp n0 A w E w' E'→Gw v w'→Goal:=by exact gl)
  (ht:UN t (.slice e):=by exact und) (he:TI e (some zv) r.sz by_:=by exact tin) (hv:VS σ 0 ps vs:=by exact vsx) (hE:∀B w,Els r B w vs xs:=by exact elx)
  (r1:r.sz=1:=by exact rfl) (hk:k≤1000:=by decide) (hl:vs.length=k:=by exact rfl)
  (hfl:Instr.fill (fun i=>some (i*1,1)) ((Array.range (k*1)).map (zv.cells[· % zv.cells.size]!)) (pz 0 vs)=some vs.toArray:=by kernel_rfl):Goal:=by
 obtain⟨w',p,hst,hE',hs,hop⟩:=Jao r1 ht.h he.h hO hk hfl (hE _ _) hl;rw[show (Ent.row e 1 p k k vs)=.row e r.sz p k k vs by rw[r1]] at hst hE';have h2:=t1new (hf:=hf) hst hE';exact g _ _ _ (hop hv.eq) hs h2 (h w' p h2.q h2.own)
theorem sbuQ {zv:Value} {by_ k:Nat} {ps:List (Nat×Operand)} {vs:List Value} (hf:Fl r) (e:TypeId) (xs:List α) (hO:Owns n0 w E A)
  (h:∀w' p,Sq A w E A w' (t1 hf e p k k xs::E)→Owns n0 w' (t1 hf e p k k xs::E) A→Gw (.slice p k k) w')
  (g:∀v w' p,OpV Tryz.prog (.buildSlice t k ps.toArray) ty σ w v w'→Same w w'→Stp n0 A w E w' (t1 hf e p k k xs::E)→Gw v w'→Goal)
  (ht:UN t (.slice e):=by exact und) (he:TI e (some zv) r.sz by_:=by exact tin) (hv:VS σ 0 ps vs:=by exact vsx) (hE:∀B w,Els r B w vs xs:=by exact elx)
  (r1:r.sz=1:=by exact rfl) (hk:k≤1000:=by decide) (hl:vs.length=k:=by exact rfl)
  (hfl:Instr.fill (fun i=>some (i*1,1)) ((Array.range (k*1)).map (zv.cells[· % zv.cells.size]!)) (pz 0 vs)=some vs.toArray:=by kernel_rfl):Goal:=by
 obtain⟨w',p,hst,hE',hs,hop⟩:=Jao r1 ht.h he.h hO hk hfl (hE _ _) hl;rw[show (Ent.row e 1 p k k vs)=.row e r.sz p k k vs by rw[r1]] at hst hE';have h2:=t1new (hf:=hf) hst hE';exact g _ _ p (hop hv.eq) hs h2 (h w' p h2.q h2.own)
theorem gu {Gy:Option Addr→World→Prop} {Gx:Option Addr→Value→World→Prop} {tys:TypeId} {σq:Option Addr→Nat→Value} {opa:Op} (h:(∀(q:Option Addr) (w1:World) v w',OpV Tryz.prog opa tys (σq q) w1 v w'→Gx q v w'→Gy q w1):=by
 first
 | (intro q w1 v w' hv h;(guard_target=GoR _ _ _ _ _ _ _ _ _);exact zg hv h)
 | (intro q w1 v w' hv h;(guard_target=GoQ _ _ _ _ _ _ _ _ _ _);exact GoQ.last rfl hv rfl rfl h)):∀(q:Option Addr) (w1:World) v w',OpV Tryz.prog opa tys (σq q) w1 v w'→Gx q v w'→Gy q w1:=h
theorem sap1 {zv:Value} {by_:Nat} {F:Option Addr→Nat→List Ent} {v:Value} {qq:Prop} {ps:List (Nat×Operand)} {xx yy:Operand} {tys:TypeId} {σq:Option Addr→Nat→Value} {Gu:Value→World→Prop} {Gx:Option Addr→Value→World→Prop} (u:α) (j:Nat) (hO:Owns n0 w E A) (H:xs.length+[u].length≤1099511627776∧qq)
  (h:∀q w' p' c',Sq A w E A w' (F p' c')→Owns n0 w' (F p' c') A→Gx q (.slice p' (m+1) c') w')
  (g1:∀v w' E',OpV Tryz.prog (.buildSlice t 1 ps.toArray) ty σ w v w'→Same w w'→Stp n0 A w E w' E'→Gu v w'→Goal:=by exact gl)
  (g2:∀(q:Option Addr) (w1:World) v w',OpV Tryz.prog (.call { callee:=.builtin .append,args:=#[xx,yy],argTypes:=#[t,t] }) tys (σq q) w1 v w'→Gx q v w'→Gu (.slice q 1 1) w1:=by exact gu)
  (hj:E[j]?=some (t1 hf e p m c xs):=by exact rfl) (ht:UN t (.slice e):=by exact und) (he:TI e (some zv) r.sz by_:=by exact tin) (hv:VS σ 0 ps [v]:=by exact vsx)
  (hR:∀(A:List Nat) (w:World),r.R A w (fun _=>some v) u:=by exact fun _ _=>rfl)
  (hx:∀q,ev (σq q) xx=.slice p m c:=by exact fun _=>rfl) (hy:∀q,ev (σq q) yy=.slice q 1 1:=by exact fun _=>rfl) (hF:∀p' c',E.set j (t1 hf e p' (m+1) c' (xs++[u]))=F p' c':=by intro _ _;exact set1)
  (r1:r.sz=1:=by exact rfl) (hzs:zv.cells.size=r.sz:=by exact rfl) (hby:by_≤128:=by decide)
  (hfl:Instr.fill (fun i=>some (i*1,1)) ((Array.range (1*1)).map (zv.cells[· % zv.cells.size]!)) (pz 0 [v])=some [v].toArray:=by kernel_rfl):Goal:=by
 obtain⟨w1,q,hst,hE',hs,hop⟩:=Jao (n:=1) (xs:=[u]) r1 ht.h he.h hO (by decide) hfl (Els.cons r1 (hR _ _) (Els.nil _ _ _) (by simp[mx])) rfl;rw[show (Ent.row e 1 q 1 1 [v])=.row e r.sz q 1 1 [v] by rw[r1]] at hst hE';obtain⟨hO2,hc2,hi,hn⟩:=freeze 0 hst.own rfl hE';have hq:Sq A w1 (.row e r.sz q 1 1 [v]::E) A w1 E:=Sq.dropq w1 _ 0;refine g1 _ _ _ (hop hv.eq) hs hst ?_;obtain⟨vs,hO1,hb,hj1,hE⟩:=t1row j hO2 hj;obtain⟨w',p',c',vs',hst2,hE2,hop2⟩:=oapp ht.h he.h hzs j hO1 hj1 (hE _ _) (by rw[hb];exact hi) hn H.1 hby;have h2:=t1st (hf:=hf) hj hst2 hE2
 have h3:Stp n0 A w1 E w' (F p' c'):=by rw[←hF];exact h2
 exact g2 q w1 _ w' (hop2 (hx q) (hy q)) (h q w' p' c' ((hst.q.trans hq).trans h3.q) h3.own)
section
variable {sz:Nat} {enc:α→List Value} {ok:α→Prop} {ps0:0<sz} {ln:∀x,(enc x).length=sz} {on:∀x,∀v∈enc x,v.oneCell'=true} {ff:Fl (Rp.flat sz enc ok ps0 ln on)}
theorem sapF {zv:Value} {by_:Nat} {F:Option Addr→Nat→List Ent} {v:Value} {qq:Prop} {ps:List (Nat×Operand)} {xx yy:Operand} {tys:TypeId} {σq:Option Addr→Nat→Value} {Gu:Value→World→Prop} {Gx:Option Addr→Value→World→Prop} (u:α) (j:Nat) (hO:Owns n0 w E A) (H:xs.length+[u].length≤1099511627776∧qq)
  (h:∀q w' p' c',Sq A w E A w' (F p' c')→Owns n0 w' (F p' c') A→Gx q (.slice p' (m+1) c') w')
  (g1:∀v w' E',OpV Tryz.prog (.buildSlice t 1 ps.toArray) ty σ w v w'→Same w w'→Stp n0 A w E w' E'→Gu v w'→Goal:=by exact gl)
  (g2:∀(q:Option Addr) (w1:World) v w',OpV Tryz.prog (.call { callee:=.builtin .append,args:=#[xx,yy],argTypes:=#[t,t] }) tys (σq q) w1 v w'→Gx q v w'→Gu (.slice q 1 1) w1:=by exact gu)
  (hj:E[j]?=some (t1 ff e p m c xs):=by exact rfl) (ht:UN t (.slice e):=by exact und) (he:TI e (some zv) sz by_:=by exact tin) (hv:VS σ 0 ps [v]:=by exact vsx)
  (hx:∀q,ev (σq q) xx=.slice p m c:=by exact fun _=>rfl) (hy:∀q,ev (σq q) yy=.slice q 1 1:=by exact fun _=>rfl) (hF:∀p' c',E.set j (t1 ff e p' (m+1) c' (xs++[u]))=F p' c':=by intro _ _;exact set1)
  (hzs:zv.cells.size=sz:=by exact rfl) (hby:by_≤128:=by decide)
  (hfl:Instr.fill (fun i=>some (i*sz,sz)) ((Array.range (1*sz)).map (zv.cells[· % zv.cells.size]!)) (pz 0 [v])=some (enc u).toArray:=by kernel_rfl) (hsz:1*sz≤1000:=by decide) (hok:ok u):Goal:=by
 obtain⟨w1,q,hst,hE',hs,hop⟩:=obuildN (r:=Rp.flat sz enc ok ps0 ln on) ht.h he.h hO (by decide) hsz hfl (Els.flat1 u hok) ((ln u).trans (Nat.one_mul _).symm);obtain⟨hO2,hc2,hi,hn⟩:=freeze 0 hst.own rfl hE';have hq:Sq A w1 (.row e sz q 1 1 (enc u)::E) A w1 E:=Sq.dropq w1 _ 0;refine g1 _ _ _ (hop hv.eq) hs hst ?_;obtain⟨vs,hO1,hb,hj1,hE⟩:=t1row j hO2 hj;obtain⟨w',p',c',vs',hst2,hE2,hop2⟩:=oapp ht.h he.h hzs j hO1 hj1 (hE _ _) (by rw[hb];exact hi) hn H.1 hby;have h2:=t1st (hf:=ff) hj hst2 hE2
 have h3:Stp n0 A w1 E w' (F p' c'):=by rw[←hF];exact h2
 exact g2 q w1 _ w' (hop2 (hx q) (hy q)) (h q w' p' c' ((hst.q.trans hq).trans h3.q) h3.own)
end
end
theorem elX {α:Type} {r:Rp α} {n0:Nat} {A:List Nat} {w:World} {E:List Ent} {vs:List Value} {xs:List α} (hO:Owns n0 w E A) (h:Els r (bl E++A) w vs xs):Els r (bl E++A) w vs xs:=h
theorem obu {α:Type} {r:Rp α} {ys:List α} {t e:TypeId} {by_ m c n0:Nat} {q:Option Addr} {w:World} {E:List Ent} {A:List Nat} (ht:Tryz.prog.underlying t=some (.slice e)) (he:ti Tryz.prog e=some (some (.slice none 0 0),1,by_)) (hO:Owns n0 w E A)
  (hs:ISl r (bl E++A) w q c ys) (hm:m=ys.length) :
  ∃w' p,Stp n0 A w E w' (.row e 1 p 1 1 [.slice q m c]::E)∧Els (Rp.sl r) (bl (.row e 1 p 1 1 [.slice q m c]::E)++A) w' [.slice q m c] [ys]∧Same w w'∧∀{σ:Nat→Value} {ps:List (Nat×Operand)} {ty:TypeId},(ps.map fun p=>(p.1,ev σ p.2))=[(0,.slice q m c)]→OpV Tryz.prog (.buildSlice t 1 ps.toArray) ty σ w (.slice p 1 1) w':=
 Jao (r:=Rp.sl r) (n:=1) rfl ht he hO (by decide) (by kernel_rfl) (Els.cons rfl ⟨q,c,congrArg some (congrArg (fun nn=>Value.slice q nn c) hm),hs⟩ (Els.nil _ _ _) (by simp[mx])) rfl
theorem bo {P:Program} {g:FuncId} {fn:Func} (h:P.funcs[g]?=some fn) (h1:fn.body.isNone=false:=by rfl) (h2:(fn.name == "runtime.NumGoroutine")=false:=by kernel_rfl):Body P g:=⟨fn,h,h1,h2⟩
abbrev ISi:=@ISl Int (Rp.int .i64)
abbrev ISb:=@ISl Bool Rp.bool
abbrev ISs:=@ISl (List Int) (Rp.sl (Rp.int .i64))
abbrev ISt:=@ISl Str Rp.str
abbrev HA0 (A:List Nat) (w:World):Prop:=∀b∈A,b<w.heap.size
abbrev cDF (d:DFA) (p:Option Addr) (c:Nat) (q:Option Addr) (e:Nat):Array Value:=#[.int .i64 d.Letters,.int .i64 d.Start,.slice p d.Final.length c,.slice q d.Next.length e]
abbrev cSY (d:Syntactic) (p:Option Addr) (c:Nat) (q:Option Addr) (e:Nat) (p2:Option Addr) (c2:Nat) (p3:Option Addr) (c3:Nat) (p4:Option Addr) (c4:Nat):Array Value:=#[.int .i64 d.Letters,.slice p d.Table.length c,.slice q d.Words.length e,.slice p2 d.Images.length c2,.slice p3 d.Accept.length c3,.slice p4 d.Plus.length c4]
end Sg
