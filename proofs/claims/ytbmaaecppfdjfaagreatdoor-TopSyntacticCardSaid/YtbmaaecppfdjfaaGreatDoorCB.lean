/- -/
import Derived.Test.YtbmaaecppfdjfaaGreatDoorCA
import Derived.Test.YtbmaaecppfdjfaaGreatDoorPA
import Derived.Laws.World
import Derived.Laws.Entries
import Derived.Laws.Slices
import Derived.Laws.AppendOwn
import Derived.Laws.MakeOwn
import Derived.Laws.Strings
import Derived.Laws.BytesString
import Derived.Laws.Cover3
import Derived.Laws.Small
import Derived.Lib.Strings
import Derived.Below
import Derived.Laws.StructEq
import Derived.Laws.AppendOwnNone
import Derived.Laws.OwnMore
import Derived.Laws.RangeAny
import Derived.Lib.SliceRun
set_option linter.unusedVariables false
set_option linter.unusedSimpArgs false
namespace Sg
open Go
theorem wrap_i64 {r:Int} (h:I64 r):IntKind.i64.wrap r=r:=by
 obtain⟨h1,h2⟩:=h
 have e1:(2 ^ 64:Int)=18446744073709551616:=by decide
 have e2:(2 ^ (64-1):Int)=9223372036854775808:=by decide
 simp only[IntKind.wrap,IntKind.bits,IntKind.signed,e1,e2,Bool.true_and,decide_eq_true_eq]
 split<;>omega
def ti (P:Program) (t:TypeId):Option (Option Value×Nat×Nat):=(P.info? t).map fun i=>(i.zero,i.size,i.bytes)
theorem J4h {P:Program} {t:TypeId} {z:Value} {s b:Nat} (h:ti P t=some (some z,s,b)):∃i,P.info? t=some i∧i.zero=some z∧i.size=s∧i.bytes=b:=by
 unfold ti at h
 cases hi:P.info? t with
 | none=>simp[hi] at h
 | some i=>simp[hi] at h;exact⟨i,rfl,h.1,h.2.1,h.2.2⟩
section
variable {P:Program} {σ:Nat→Value} {w:World} {t t' ty e:TypeId} {x y z:Operand}
theorem J0v {v:Value} (hx:ev σ x=v) (w:World):OpV P (.move x) ty σ w v w:=.inl (by simp[execOp,opr,hx])
theorem Jbo {v:Value} (hx:ev σ x=v) (w:World):OpV P (.assign x) ty σ w v w:=.inl (by simp[execOp,opr,hx])
theorem J3b {v:Value} {b:Bool} (hc:ev σ z=.bool b) (hb:b=true) (hx:ev σ x=v) (w:World):OpV P (.pick z x y) ty σ w v w:=.inl (by simp[execOp,opr,hc,hx,hb,asBool])
theorem J4s {v:Value} {b:Bool} (hc:ev σ z=.bool b) (hb:b=false) (hx:ev σ y=v) (w:World):OpV P (.pick z x y) ty σ w v w:=.inl (by simp[execOp,opr,hc,hx,hb,asBool])
theorem J4L {p:Option Addr} {n c:Nat} (ht:P.underlying t=some (.slice e)) (hx:ev σ x=.slice p n c) (w:World) :
  OpV P (.call { callee:=.builtin .len,args:=#[x],argTypes:=#[t] }) ty σ w (.int .i64 n) w:=.inl (by
 simp[execOp,opr,hx,resolve,invoke,builtin,Builtin.len_,run_underlying ht,goInt])
section
variable {k k':IntKind} {a b r:Int}
theorem J05 (hx:ev σ x=.int k a) (hy:ev σ y=.int k b) (hr:k.wrap (a+b)=r) (w:World):OpV P (.binOp .add t x y t') ty σ w (.int k r) w:=.inl (by
 simp[execOp,opr,hx,hy,eqGuard_add,binOp_add,Op.intArith,hr])
theorem J4l (hx:ev σ x=.int k a) (hy:ev σ y=.int k b) (hr:k.wrap (a-b)=r) (w:World):OpV P (.binOp .sub t x y t') ty σ w (.int k r) w:=.inl (by
 simp[execOp,opr,hx,hy,eqGuard_sub,binOp_sub,Op.intArith,hr])
theorem Jbe (hx:ev σ x=.int k a) (hy:ev σ y=.int k b) (hr:k.wrap (a*b)=r) (w:World):OpV P (.binOp .mul t x y t') ty σ w (.int k r) w:=.inl (by
 simp[execOp,opr,hx,hy,eqGuard_mul,binOp_mul,Op.intArith,hr])
theorem Jfp (hx:ev σ x=.int k a) (hy:ev σ y=.int k b) (h0:b≠0) (hr:k.wrap (a.tdiv b)=r) (w:World):OpV P (.binOp .quo t x y t') ty σ w (.int k r) w:=.inl (by
 simp[execOp,opr,hx,hy,eqGuard_quo,binOp_quo,Op.intDiv,hr,h0])
theorem J12 (hx:ev σ x=.int k a) (hy:ev σ y=.int k b) (w:World):OpV P (.binOp .lss t x y t') ty σ w (.bool (decide (a<b))) w:=.inl (by
 simp[execOp,opr,hx,hy,eqGuard_lss,binOp_lss])
theorem Jex (hx:ev σ x=.int k a) (hy:ev σ y=.int k b) (w:World):OpV P (.binOp .leq t x y t') ty σ w (.bool (decide (a≤b))) w:=.inl (by
 simp[execOp,opr,hx,hy,eqGuard_leq,binOp_leq])
theorem Jes (hx:ev σ x=.int k a) (hy:ev σ y=.int k b) (w:World):OpV P (.binOp .gtr t x y t') ty σ w (.bool (decide (b<a))) w:=.inl (by
 simp[execOp,opr,hx,hy,eqGuard_gtr,binOp_gtr])
theorem Jb6 (hx:ev σ x=.int k a) (hy:ev σ y=.int k b) (w:World):OpV P (.binOp .geq t x y t') ty σ w (.bool (decide (b≤a))) w:=.inl (by
 simp[execOp,opr,hx,hy,eqGuard_geq,binOp_geq])
theorem J3k (hx:ev σ x=.int k a) (hy:ev σ y=.int k b) (w:World):OpV P (.binOp .eql t x y t') ty σ w (.bool (decide (a=b))) w:=.inl (by
 simp[execOp,opr,hx,hy,eqGuard_at_int,binOp_eql];by_cases h:a=b<;>simp[h])
theorem J2X (hx:ev σ x=.int k a) (hy:ev σ y=.int k b) (w:World):OpV P (.binOp .neq t x y t') ty σ w (.bool (!decide (a=b))) w:=.inl (by
 simp[execOp,opr,hx,hy,eqGuard_at_int,binOp_neq];by_cases h:a=b<;>simp[h])
theorem J9g (hx:ev σ x=.int k a) (hy:ev σ y=.int k' b) (h0:0≤b) (hr:k.wrap (a*2 ^ (min b.toNat k.bits))=r) (w:World):OpV P (.binOp .shl t x y t') ty σ w (.int k r) w:=.inl (by
 have h:¬b<0:=by omega
 simp[execOp,opr,hx,hy,eqGuard_shl,binOp_shl,Op.shift,h,hr])
theorem J4E (hx:ev σ x=.int k a) (hy:ev σ y=.int k' b) (h0:0≤b) (hr:a.fdiv (2 ^ (min b.toNat k.bits))=r) (w:World):OpV P (.binOp .shr t x y t') ty σ w (.int k r) w:=.inl (by
 have h:¬b<0:=by omega
 simp[execOp,opr,hx,hy,eqGuard_shr,binOp_shr,Op.shift,h,hr])
theorem J5B (hx:ev σ x=.int k a) (hy:ev σ y=.int k b) (w:World):OpV P (.binOp .and t x y t') ty σ w (.int k (bits .and k a b)) w:=.inl (by
 simp[execOp,opr,hx,hy,eqGuard_and,binOp_and,intBits_and])
theorem op_or (hx:ev σ x=.int k a) (hy:ev σ y=.int k b) (w:World):OpV P (.binOp .or t x y t') ty σ w (.int k (bits .or k a b)) w:=.inl (by
 simp[execOp,opr,hx,hy,eqGuard_or,binOp_or,intBits_or])
theorem Jfm (hx:ev σ x=.int k a) (hr:k.wrap (0-a)=r) (w:World):OpV P (.unOp .neg t x) ty σ w (.int k r) w:=.inl (by
 simp[execOp,opr,hx,Op.unary,Op.intArith] at hr ⊢;exact hr)
theorem J33 {d:TypeDesc} (hs:P.underlying t=some d) (hd:P.underlying t'=some (.int k')) (hx:ev σ x=.int k a) (hr:k'.wrap a=r) (w:World):OpV P (.convert t t' x) ty σ w (.int k' r) w:=.inl (by
 simp[execOp,opr,hx,convert,run_underlying hs,run_underlying hd,Conv.intToInt,hr])
end
theorem J47 {a b:Bool} (ht:P.underlying t=some .bool) (hx:ev σ x=.bool a) (hy:ev σ y=.bool b) (w:World):OpV P (.binOp .eql t x y t') ty σ w (.bool (a == b)) w:=.inl (by
 have h:binOp .eql t (.bool a) (.bool b)=(do pure (.bool (←Op.equal t (.bool a) (.bool b)))):=rfl
 simp only[execOp,opr,hx,hy,eqGuard_at_bool,h,Sem.run_bind,Sem.run_pure,Result.andThen_ok,run_equal_bool w t a b ht])
theorem J73 {a b:Bool} (ht:P.underlying t=some .bool) (hx:ev σ x=.bool a) (hy:ev σ y=.bool b) (w:World):OpV P (.binOp .neq t x y t') ty σ w (.bool (!(a == b))) w:=.inl (by
 have h:binOp .neq t (.bool a) (.bool b)=(do pure (.bool (!(←Op.equal t (.bool a) (.bool b))))):=rfl
 simp only[execOp,opr,hx,hy,eqGuard_at_bool,h,Sem.run_bind,Sem.run_pure,Result.andThen_ok,run_equal_bool w t a b ht])
theorem J32 {a:Bool} (hx:ev σ x=.bool a) (w:World):OpV P (.unOp .not t x) ty σ w (.bool (!a)) w:=.inl (by
 simp[execOp,opr,hx,Op.unary])
theorem J5g {p:Option Addr} {n c:Nat} {e:TypeId} (ht:P.underlying t=some (.slice e)) (hx:ev σ x=.slice p n c) (hy:ev σ y=.slice none 0 0) (w:World):OpV P (.binOp .eql t x y t') ty σ w (.bool p.isNone) w:=.inl (by
 have h:binOp .eql t (.slice p n c) (.slice none 0 0)=(do pure (.bool (←Op.equal t (.slice p n c) (.slice none 0 0)))):=rfl
 simp only[execOp,opr,hx,hy,eqGuard_at_slice,h,Sem.run_bind,Sem.run_pure,Result.andThen_ok,run_equal_slice_nil w t e p n c ht])
theorem J7J {p:Option Addr} {n c:Nat} {e:TypeId} (ht:P.underlying t=some (.slice e)) (hx:ev σ x=.slice p n c) (hy:ev σ y=.slice none 0 0) (w:World):OpV P (.binOp .neq t x y t') ty σ w (.bool (!p.isNone)) w:=.inl (by
 have h:binOp .neq t (.slice p n c) (.slice none 0 0)=(do pure (.bool (!(←Op.equal t (.slice p n c) (.slice none 0 0))))):=rfl
 simp only[execOp,opr,hx,hy,eqGuard_at_slice,h,Sem.run_bind,Sem.run_pure,Result.andThen_ok,run_equal_slice_nil w t e p n c ht])
def gstr (l:List UInt8):ByteArray:=⟨l.toArray⟩
@[simp] theorem JbG (l:List UInt8):(gstr l).toList=l:=ByteArray.toList_mk l
@[simp] theorem Jfy (l:List UInt8):(gstr l).data.toList=l:=by simp[gstr]
@[simp] theorem Jfz (l:List UInt8):(gstr l).size=l.length:=by simp[gstr,ByteArray.size]
theorem Jd2 (s:ByteArray):gstr s.data.toList=s:=Lib.mk_data s
theorem Jbx (a b:List UInt8):gstr a++gstr b=gstr (a++b):=by
 rw[←Jd2 (gstr a++gstr b)];simp
theorem Jb0 (a b:List UInt8):(a == b)=decide (a=b):=by
 rw[Bool.eq_iff_iff,beq_iff_eq,decide_eq_true_eq]
theorem Jd3 {a b:List UInt8} (hx:ev σ x=.string (gstr a)) (hy:ev σ y=.string (gstr b)) (w:World):OpV P (.binOp .eql t x y t') ty σ w (.bool (decide (a=b))) w:=.inl (by
 simp[execOp,opr,hx,hy,eqGuard_at_string,binOp_string_eql,Jb0])
theorem Jdl {a b:List UInt8} (hx:ev σ x=.string (gstr a)) (hy:ev σ y=.string (gstr b)) (w:World):OpV P (.binOp .neq t x y t') ty σ w (.bool (!decide (a=b))) w:=.inl (by
 simp[execOp,opr,hx,hy,eqGuard_at_string,binOp_string_neq,Jb0])
theorem Jbu {a b:List UInt8} (hx:ev σ x=.string (gstr a)) (hy:ev σ y=.string (gstr b)) (h:a.length+b.length≤9223372036854775807) (w:World):OpV P (.binOp .add t x y t') ty σ w (.string (gstr (a++b))) w:=.inl (by
 have h':¬((9223372036854775807:Int)<(a.length:Int)+(b.length:Int)):=by omega
 simp[execOp,opr,hx,hy,eqGuard_add,binOp_string_add,Op.stringOp,Jbx,h'])
theorem JcQ {vs:Array Value} {v:Value} {i:Nat} (hx:ev σ x=.tuple vs) (hv:vs[i]?=some v) (w:World):OpV P (.extract x i) ty σ w v w:=.inl (by
 simp[execOp,opr,hx,Instr.extract,hv])
def padd (p:Option Addr) (j:Nat):Option Addr:=p.map (·.add j)
theorem run_sizeOf {e:TypeId} {s:Nat} {z:Option Value} {b:Nat} (he:ti P e=some (z,s,b)) (w:World):(Go.sizeOf e).run P w=.ok s w:=by
 unfold ti at he
 cases hi:P.info? e with
 | none=>simp[hi] at he
 | some inf=>simp[hi] at he;simp[Go.sizeOf,typeInfo,hi,he.2.1]
theorem J5R {l:List UInt8} (ht:P.underlying t=some .string) (hx:ev σ x=.string (gstr l)) (w:World) :
  OpV P (.call { callee:=.builtin .len,args:=#[x],argTypes:=#[t] }) ty σ w (.int .i64 l.length) w:=.inl (by
 simp[execOp,opr,hx,resolve,invoke,builtin,Builtin.len_,run_underlying ht,goInt])
theorem J01 {p:Option Addr} {n c:Nat} {k:IntKind} {i:Int} {s:Nat} {zz:Option Value} {b:Nat} (ht:P.underlying t=some (.slice e)) (he:ti P e=some (zz,s,b)) (hx:ev σ x=.slice p n c) (hy:ev σ y=.int k i)
  (h0:0≤i) (h1:i<n) (hp:p.isSome=true) (w:World):OpV P (.indexAddr t x y) ty σ w (.pointer (padd p (i.toNat*s))) w:=.inl (by
 obtain⟨a,rfl⟩:=Option.isSome_iff_exists.1 hp
 have hs:=fun w=>run_sizeOf he w
 simp[execOp,opr,hx,hy,Instr.indexAt,run_underlying ht,asIntOf,h0,h1,hs,padd])
theorem J78 {l:List UInt8} {k:IntKind} {i:Int} (ht:P.underlying t=some .string) (hx:ev σ x=.string (gstr l)) (hy:ev σ y=.int k i)
  (h0:0≤i) (h1:i<l.length) (w:World):OpV P (.index t x y) ty σ w (.int .u8 (l.getD i.toNat 0).toNat) w:=.inl (by
 have h2:i.toNat<l.length:=by omega
 have e1:(gstr l)[i.toNat]?=some (l.getD i.toNat 0):=by
  rw[ByteArray.getElem?_lt' _ _ (by simpa using h2)]
  congr 1
  show (gstr l).data[i.toNat]=_
  simp[gstr,List.getD_eq_getElem?_getD,h2]
 simp[execOp,opr,hx,hy,Instr.index,run_underlying ht,asIntOf,h0,e1])
end
open Go Go.RowKit
theorem eS {α:Type _} {a:α} {l:List α} {i:Nat}:(a::l).eraseIdx (i+1)=a::l.eraseIdx i:=rfl
theorem eZ {α:Type _} {a:α} {l:List α}:(a::l).eraseIdx 0=l:=rfl
theorem sS {α:Type _} {a b:α} {l:List α} {i:Nat}:(a::l).set (i+1) b=a::l.set i b:=rfl
theorem sZ {α:Type _} {a b:α} {l:List α}:(a::l).set 0 b=b::l:=rfl
structure Ch (A:List Nat) (w:World) (A':List Nat) (w':World):Prop where
 size:w.heap.size≤w'.heap.size
 keep:∀b,b<w.heap.size→b∉A→w'.heap[b]?=w.heap[b]?∧b∉A'
theorem Ch.refl (A:List Nat) (w:World):Ch A w A w:=⟨Nat.le_refl _,fun _ _ h=>⟨rfl,h⟩⟩
theorem Ch.trans {A B C:List Nat} {u v w:World} (h:Ch A u B v) (k:Ch B v C w):Ch A u C w:=
 ⟨Nat.le_trans h.size k.size,fun b hb ha=>let ⟨h1,h2⟩:=h.keep b hb ha;let ⟨k1,k2⟩:=k.keep b (Nat.lt_of_lt_of_le hb h.size) h2;⟨k1.trans h1,k2⟩⟩
theorem Same.ch {w w':World} (h:Same w w') (A:List Nat):Ch A w A w':=⟨h.size,fun b hb ha=>⟨h.block b hb,ha⟩⟩
def cel (w:World) (a:Addr) (i:Nat):Option Value:=w.cell? ⟨a.block,a.off+i,none⟩
theorem JfE {A A':List Nat} {w w':World} (h:Ch A w A' w') {a:Addr} (hb:a.block<w.heap.size) (ha:a.block∉A) (i:Nat):cel w' a i=cel w a i:=
 World.cell?_of_block (w:=w) (w':=w') (h.keep a.block hb ha).1
structure Rp (α:Type) where
 sz:Nat
 pos:0<sz
 R:List Nat→World→(Nat→Option Value)→α→Prop
 ch:∀{A A':List Nat} {w w':World} {cs:Nat→Option Value} {x:α},Ch A w A' w'→R A w cs x→R A' w' cs x
 ext:∀{A:List Nat} {w:World} {cs cs':Nat→Option Value} {x:α},(∀i,i<sz→cs' i=cs i)→R A w cs x→R A w cs' x
 one:∀{A:List Nat} {w:World} {cs:Nat→Option Value} {x:α},R A w cs x→∀i,i<sz→∃v,cs i=some v∧v.oneCell'=true
structure ISl {α:Type} (r:Rp α) (A:List Nat) (w:World) (p:Option Addr) (c:Nat) (xs:List α):Prop where
 cap:xs.length≤c
 bd:xs.length≤mx
 nil:p=none→c=0
 at_:∀a,p=some a→∀k (h:k<xs.length),a.spot=none∧a.block<w.heap.size∧a.block∉A∧r.R A w (fun i=>cel w a (k*r.sz+i)) xs[k]
theorem ISl.ch {α:Type} {r:Rp α} {A A':List Nat} {w w':World} {p:Option Addr} {c:Nat} {xs:List α} (h:ISl r A w p c xs) (hc:Ch A w A' w'):ISl r A' w' p c xs:=by
 refine⟨h.cap,h.bd,h.nil,fun a ha k hk=>?_⟩;obtain⟨h1,h2,h3,h4⟩:=h.at_ a ha k hk;exact⟨h1,Nat.lt_of_lt_of_le h2 hc.size,(hc.keep _ h2 h3).2,r.ext (fun i _=>JfE hc h2 h3 _) (r.ch hc h4)⟩
theorem ISl.same {α:Type} {r:Rp α} {A:List Nat} {w w':World} {p:Option Addr} {c:Nat} {xs:List α} (h:ISl r A w p c xs) (hs:Same w w'):ISl r A w' p c xs:=h.ch (hs.ch A)
theorem ISl.null {α:Type} (r:Rp α) (A:List Nat) (w:World):ISl r A w none 0 []:=⟨Nat.le_refl _,Nat.zero_le _,fun _=>rfl,fun _ h=>nomatch h⟩
theorem ISl.some_ {α:Type} {r:Rp α} {A:List Nat} {w:World} {p:Option Addr} {c:Nat} {xs:List α} (h:ISl r A w p c xs) {i:Int} (h0:0≤i) (h1:i<xs.length):p.isSome=true:=by
 cases p with
 | some a=>rfl
 | none=>have:=h.cap;have:=h.nil rfl;omega
def Rp.int (k:IntKind):Rp Int where
  sz:=1
  pos:=by decide
  R _ _ cs x:=cs 0=some (.int k x)
  ch _ h:=h
  ext e h:=by rw[e 0 (by decide)];exact h
  one h i hi := ⟨_, (by obtain rfl : i = 0 := by omega
                        exact h),rfl⟩
def Rp.bool:Rp Bool where
  sz:=1
  pos:=by decide
  R _ _ cs x:=cs 0=some (.bool x)
  ch _ h:=h
  ext e h:=by rw[e 0 (by decide)];exact h
  one h i hi := ⟨_, (by obtain rfl : i = 0 := by omega
                        exact h),rfl⟩
def Rp.str:Rp (List UInt8) where
  sz:=1
  pos:=by decide
  R _ _ cs x:=cs 0=some (.string (gstr x))∧x.length≤mx
  ch _ h:=h
  ext e h:=by rw[e 0 (by decide)];exact h
  one h i hi := ⟨_, (by obtain rfl : i = 0 := by omega
                        exact h.1),rfl⟩
def Rp.sl {α:Type} (r:Rp α):Rp (List α) where
 sz:=1
 pos:=by decide
 R A w cs xs:=∃p c,cs 0=some (.slice p xs.length c)∧ISl r A w p c xs
 ch hc h:=let ⟨p,c,h1,h2⟩:=h;⟨p,c,h1,h2.ch hc⟩
 ext e h:=let ⟨p,c,h1,h2⟩:=h;⟨p,c,by rw[e 0 (by decide)];exact h1,h2⟩
 one h i hi:=by
  obtain⟨p,c,h1,_⟩:=h
  obtain rfl:i=0:=by omega
  exact⟨_,h1,rfl⟩
def Rp.prod {α β:Type} (r:Rp α) (s:Rp β):Rp (α×β) where
 sz:=r.sz+s.sz
 pos:=by have:=r.pos;omega
 R A w cs x:=r.R A w cs x.1∧s.R A w (fun i=>cs (r.sz+i)) x.2
 ch hc h:=⟨r.ch hc h.1,s.ch hc h.2⟩
 ext e h:=⟨r.ext (fun i hi=>e i (by omega)) h.1,s.ext (fun i hi=>e (r.sz+i) (by omega)) h.2⟩
 one h i hi:=by
  by_cases hr:i<r.sz
  ·exact r.one h.1 i hr
  ·obtain⟨v,h1,h2⟩:=s.one h.2 (i-r.sz) (by omega);exact⟨v,by rw[←h1];congr 1;omega,h2⟩
def Rp.iso {α β:Type} (r:Rp α) (f:β→α):Rp β where
 sz:=r.sz
 pos:=r.pos
 R A w cs x:=r.R A w cs (f x)
 ch hc h:=r.ch hc h
 ext e h:=r.ext e h
 one h:=r.one h
structure Els {α:Type} (r:Rp α) (A:List Nat) (w:World) (vs:List Value) (xs:List α):Prop where
 len:vs.length=xs.length*r.sz
 bd:xs.length≤mx
 at_:∀k (h:k<xs.length),r.R A w (fun i=>vs[k*r.sz+i]?) xs[k]
theorem Els.ch {α:Type} {r:Rp α} {A A':List Nat} {w w':World} {vs:List Value} {xs:List α} (h:Els r A w vs xs) (hc:Ch A w A' w'):Els r A' w' vs xs:=
 ⟨h.len,h.bd,fun k hk=>r.ch hc (h.at_ k hk)⟩
theorem Els.nil {α:Type} (r:Rp α) (A:List Nat) (w:World):Els r A w [] ([]:List α):=⟨by simp,Nat.zero_le _,fun _ h=>by simp at h⟩
structure AnyE where
 F:List Nat
 H:Nat→World→Prop
 lt:∀{n0:Nat} {w:World},H n0 w→∀b∈F,n0≤b∧b<w.heap.size
 keep:∀{n0:Nat} {w w':World},H n0 w→(∀b∈F,w'.heap[b]?=w.heap[b]?)→H n0 w'
 base:∀{n0 n1:Nat} {w:World},n1≤n0→H n0 w→H n1 w
inductive Ent where
 | row (e:TypeId) (size:Nat) (p:Option Addr) (n c:Nat) (vs:List Value)
 | blk (b:Nat) (o:Obj)
 | any (a:AnyE)
def Ent.fp:Ent→List Nat
 | .row _ _ p _ _ _=>match p with | some a=>[a.block] | none=>[]
 | .blk b _=>[b]
 | .any a=>a.F
def Ent.holds (n0:Nat) (w:World):Ent→Prop
 | .row e size p n c vs=>w.ownsRow n0 e size (.slice p n c) n vs
 | .blk b o=>n0≤b∧w.heap[b]?=some o
 | .any a=>a.H n0 w
def bl (E:List Ent):List Nat:=E.flatMap Ent.fp
structure Owns (n0:Nat) (w:World) (E:List Ent) (A:List Nat):Prop where
 le:n0≤w.heap.size
 bd:∀b∈A,b<w.heap.size
 nd:(bl E).Nodup
 out:∀b∈bl E,b∉A
 at_:∀e∈E,e.holds n0 w
theorem Ent.lt {n0:Nat} {w:World} {e:Ent} (h:e.holds n0 w):∀b∈e.fp,n0≤b∧b<w.heap.size:=by
  intro b hb
  cases e with
  | row e size p n c vs =>
    cases p with
    | none=>simp[Ent.fp] at hb
    | some a =>
      simp only[Ent.fp,List.mem_singleton] at hb;subst hb;exact World.ownsRow.lt h a.block rfl
  | blk b' o =>
    simp only[Ent.fp,List.mem_singleton] at hb;subst hb;exact⟨h.1,(Array.getElem?_eq_some_iff.1 h.2).1⟩
  | any a=>exact a.lt h b hb
theorem Ent.keep {n0:Nat} {w w':World} {e:Ent} (h:e.holds n0 w) (hk:∀b∈e.fp,w'.heap[b]?=w.heap[b]?):e.holds n0 w':=by
  cases e with
  | row e size p n c vs =>
    refine⟨h.1,?_⟩
    rcases h.2 with hn | ⟨g,cap,cur,hv,hb,hg,rest⟩
    · exact .inl hn
    · refine .inr ⟨g,cap,cur,hv,hb,?_,rest⟩
      cases hv
      rw[hk g (by simp[Ent.fp])];exact hg
  | blk b o=>exact⟨h.1,by rw[hk b (by simp[Ent.fp])];exact h.2⟩
  | any a=>exact a.keep h hk
theorem Ent.base {n0 n1:Nat} {w:World} {e:Ent} (hn:n1≤n0) (h:e.holds n0 w):e.holds n1 w:=by
  cases e with
  | row e size p n c vs =>
    refine⟨h.1,?_⟩
    rcases h.2 with hn | ⟨g,cap,cur,hv,hb,rest⟩
    · exact .inl hn
    · exact .inr ⟨g,cap,cur,hv,by omega,rest⟩
  | blk b o=>exact⟨by have:=h.1;omega,h.2⟩
  | any a=>exact a.base hn h
theorem J8H {E:List Ent} {b:Nat}:b∈bl E↔∃e∈E,b∈e.fp:=by simp[bl,List.mem_flatMap]
theorem Owns.lt {n0:Nat} {w:World} {E:List Ent} {A:List Nat} (h:Owns n0 w E A):∀b∈bl E++A,b<w.heap.size:=by
 intro b hb
 rcases List.mem_append.1 hb with hb | hb
 ·obtain⟨e,he,hbe⟩:=J8H.1 hb;exact(Ent.lt (h.at_ e he) b hbe).2
 ·exact h.bd b hb
theorem Owns.ge {n0:Nat} {w:World} {E:List Ent} {A:List Nat} (h:Owns n0 w E A):∀b∈bl E,n0≤b:=by
 intro b hb;obtain⟨e,he,hbe⟩:=J8H.1 hb;exact(Ent.lt (h.at_ e he) b hbe).1
theorem Owns.start {w:World} {A:List Nat} (h:∀b∈A,b<w.heap.size):Owns w.heap.size w [] A:=⟨Nat.le_refl _,h,List.nodup_nil,fun _ h=>by simp[bl] at h,fun _ h=>by simp at h⟩
structure Fr (B:List Nat) (w:World) (B':List Nat) (w':World):Prop where
 os:w'.os=w.os
 tape:w'.tape=w.tape
 output:w'.output=w.output
 ch:Ch B w B' w'
theorem Fr.refl (B:List Nat) (w:World):Fr B w B w:=⟨rfl,rfl,rfl,Ch.refl B w⟩
theorem Fr.trans {A B C:List Nat} {u v w:World} (h:Fr A u B v) (k:Fr B v C w):Fr A u C w:=⟨k.os.trans h.os,k.tape.trans h.tape,k.output.trans h.output,h.ch.trans k.ch⟩
theorem Fr.same {B:List Nat} {w w':World} (h:Fr [] w B w'):Same w w':=⟨h.os,h.tape,h.output,h.ch.size,fun k hk=>(h.ch.keep k hk (by simp)).1⟩
theorem Same.fr {w w':World} (h:Same w w') (B:List Nat):Fr B w B w':=⟨h.os,h.tape,h.output,h.ch B⟩
structure Stp (n0:Nat) (A:List Nat) (w:World) (E:List Ent) (w':World) (E':List Ent):Prop where
 own:Owns n0 w' E' A
 fr:Fr (bl E) w (bl E') w'
theorem Ch.app {B B':List Nat} {w w':World} (h:Ch B w B' w') (A:List Nat):Ch (B++A) w (B'++A) w':=
 ⟨h.size, fun b hb hnb => by
  simp only[List.mem_append,not_or] at hnb ⊢
  exact⟨(h.keep b hb hnb.1).1,(h.keep b hb hnb.1).2,hnb.2⟩⟩
theorem Stp.ch {n0:Nat} {A:List Nat} {w w':World} {E E':List Ent} (h:Stp n0 A w E w' E'):Ch (bl E++A) w (bl E'++A) w':=h.fr.ch.app A
theorem Stp.same {n0:Nat} {A:List Nat} {w w':World} {E:List Ent} (h:Owns n0 w E A) (hs:Same w w'):Stp n0 A w E w' E:=by
 refine⟨⟨Nat.le_trans h.le hs.size,fun b hb=>Nat.lt_of_lt_of_le (h.bd b hb) hs.size,h.nd,h.out,fun e he=>Ent.keep (h.at_ e he) fun b hb=>hs.block b (Ent.lt (h.at_ e he) b hb).2⟩,hs.fr _⟩
theorem Stp.turn {n0:Nat} {A:List Nat} {w w':World} {E:List Ent} {i:Nat} {e e':Ent} (h:Owns n0 w E A) (hi:E[i]?=some e)
    (hos:w'.os=w.os∧w'.tape=w.tape∧w'.output=w.output) (hsz:w.heap.size≤w'.heap.size)
    (hk:∀b,b<w.heap.size→b∉e.fp→w'.heap[b]?=w.heap[b]?) (hnd:e'.fp.Nodup) (hfp:∀b∈e'.fp,b∈e.fp∨w.heap.size≤b) (hh:e'.holds n0 w') :
    Stp n0 A w E w' (E.set i e'):=by
  have hil:i<E.length:=(List.getElem?_eq_some_iff.1 hi).1;have hie:E[i]=e:=(List.getElem?_eq_some_iff.1 hi).2
  have hE:E=E.take i++e::E.drop (i+1):=by rw[←hie];simp
  have hE':E.set i e'=E.take i++e'::E.drop (i+1):=by rw[List.set_eq_take_append_cons_drop,if_pos hil]
  have hb1 : bl E = bl (E.take i) ++ (e.fp ++ bl (E.drop (i + 1))) := by conv => lhs; rw [hE]
                                                                         simp[bl]
  have hb2:bl (E.set i e')=bl (E.take i)++(e'.fp++bl (E.drop (i+1))):=by rw[hE'];simp[bl]
  have hnd0:=h.nd;rw[hb1] at hnd0;obtain⟨n1,n2,n3⟩:=List.nodup_append.1 hnd0;obtain⟨n4,n5,n6⟩:=List.nodup_append.1 n2;have hlt:=h.lt;rw[hb1] at hlt;have hmem:e∈E:=List.mem_of_getElem? hi
  have hne:∀e1∈E.take i++E.drop (i+1),∀b∈e1.fp,b<w.heap.size∧b∉e.fp:=by
    intro e1 h1 b hb
    rcases List.mem_append.1 h1 with h1 | h1
    · have hb':b∈bl (E.take i):=J8H.2 ⟨e1,h1,hb⟩;exact⟨hlt b (by simp[hb']),fun hx=>n3 b hb' b (by simp[hx]) rfl⟩
    · have hb':b∈bl (E.drop (i+1)):=J8H.2 ⟨e1,h1,hb⟩;exact⟨hlt b (by simp[hb']),fun hx=>n6 b hx b hb' rfl⟩
  have hfpA:∀b∈e.fp,b∉A:=fun b hb=>h.out b (by rw[hb1];simp[hb]);refine⟨⟨Nat.le_trans h.le hsz,fun b hb=>Nat.lt_of_lt_of_le (h.bd b hb) hsz,?_,?_,?_⟩,⟨hos.1,hos.2.1,hos.2.2,⟨hsz,?_⟩⟩⟩
  · rw[hb2];refine List.nodup_append.2 ⟨n1,List.nodup_append.2 ⟨hnd,n5,?_⟩,?_⟩
    · intro a ha b hb hab;subst hab
      rcases hfp a ha with hx | hx
      · exact n6 a hx a hb rfl
      · exact absurd (hlt a (by simp[hb])) (by omega)
    · intro a ha b hb hab;subst hab
      rcases List.mem_append.1 hb with hb | hb
      · rcases hfp a hb with hx | hx
        · exact n3 a ha a (by simp[hx]) rfl
        · exact absurd (hlt a (by simp[ha])) (by omega)
      · exact n3 a ha a (by simp[hb]) rfl
  · intro b hb;rw[hb2] at hb;simp only[List.mem_append] at hb
    rcases hb with hb | hb | hb
    · exact h.out b (by rw[hb1];simp[hb])
    · rcases hfp b hb with hx | hx
      · exact hfpA b hx
      · exact fun hA=>absurd (h.bd b hA) (by omega)
    · exact h.out b (by rw[hb1];simp[hb])
  · intro e1 he1;rw[hE'] at he1;simp only[List.mem_append,List.mem_cons] at he1
    rcases he1 with h1 | rfl | h1
    · exact Ent.keep (h.at_ e1 (by rw[hE];simp[h1])) fun b hb=>hk b (hne e1 (by simp[h1]) b hb).1 (hne e1 (by simp[h1]) b hb).2
    · exact hh
    · exact Ent.keep (h.at_ e1 (by rw[hE];simp[h1])) fun b hb=>hk b (hne e1 (by simp[h1]) b hb).1 (hne e1 (by simp[h1]) b hb).2
  · intro b hb hnb;rw[hb1] at hnb;simp only[List.mem_append,not_or] at hnb;refine⟨hk b hb hnb.2.1,?_⟩;rw[hb2];simp only[List.mem_append,not_or];refine⟨hnb.1,fun hx=>?_,hnb.2.2⟩
    rcases hfp b hx with hy | hy
    · exact hnb.2.1 hy
    · omega
theorem Stp.new {n0:Nat} {A:List Nat} {w w':World} {E:List Ent} {e':Ent} (h:Owns n0 w E A) (hs:Same w w') (hnd:e'.fp.Nodup) (hfp:∀b∈e'.fp,w.heap.size≤b) (hh:e'.holds n0 w') :
  Stp n0 A w E w' (e'::E):=by
 have hb:bl (e'::E)=e'.fp++bl E:=by simp[bl]
 have hlt:=h.lt;refine⟨⟨Nat.le_trans h.le hs.size,fun b hb=>Nat.lt_of_lt_of_le (h.bd b hb) hs.size,?_,?_,?_⟩,⟨hs.os,hs.tape,hs.output,⟨hs.size,fun b hbl hnb=>⟨hs.block b hbl,?_⟩⟩⟩⟩
 ·rw[hb];refine List.nodup_append.2 ⟨hnd,h.nd,fun a ha b hb hab=>?_⟩;subst hab;exact absurd (hlt a (by simp[hb])) (by have:=hfp a ha;omega)
 ·intro b hx;rw[hb] at hx
  rcases List.mem_append.1 hx with hx | hx
  ·exact fun hA=>absurd (h.bd b hA) (by have:=hfp b hx;omega)
  ·exact h.out b hx
 ·intro e1 he1
  rcases List.mem_cons.1 he1 with rfl | he1
  ·exact hh
  ·exact Ent.keep (h.at_ e1 he1) fun b hb=>hs.block b (Ent.lt (h.at_ e1 he1) b hb).2
 ·rw[hb];simp only[List.mem_append,not_or] at hnb ⊢;exact⟨fun hx=>by have:=hfp b hx;omega,hnb⟩
theorem JcB {l l':List Ent} (h:l.Sublist l'):(bl l).Sublist (bl l'):=by
 induction h with
 | slnil=>exact List.Sublist.refl _
 | cons a _ ih=>simp only[bl,List.flatMap_cons] at *;exact ih.trans (List.sublist_append_right _ _)
 | cons_cons a _ ih=>simp only[bl,List.flatMap_cons] at *;exact(List.Sublist.refl _).append ih
theorem Owns.drop {n0:Nat} {A:List Nat} {w:World} {E:List Ent} (i:Nat) (h:Owns n0 w E A):Owns n0 w (E.eraseIdx i) A:=by
 have hsub:(E.eraseIdx i).Sublist E:=List.eraseIdx_sublist E i;have hbl:(bl (E.eraseIdx i)).Sublist (bl E):=JcB hsub;exact⟨h.le,h.bd,h.nd.sublist hbl,fun b hb=>h.out b (hbl.subset hb),fun e he=>h.at_ e (hsub.subset he)⟩
theorem Owns.J71 (w:World) (E:List Ent) (i:Nat):Fr (bl E) w (bl (E.eraseIdx i)) w:=
 ⟨rfl,rfl,rfl,⟨Nat.le_refl _,fun b _ hb=>⟨rfl,fun hx=>hb ((JcB (List.eraseIdx_sublist E i)).subset hx)⟩⟩⟩
theorem Owns.J9c {A:List Nat} (w:World) (E:List Ent) (i:Nat):Ch (bl E++A) w (bl (E.eraseIdx i)++A) w:=(Owns.J71 w E i).ch.app A
theorem Owns.perm {n0:Nat} {A:List Nat} {w:World} {E E':List Ent} (h:Owns n0 w E A) (hp:E.Perm E'):Owns n0 w E' A:=by
 have hb:(bl E).Perm (bl E'):=List.Perm.flatMap_right _ hp;exact⟨h.le,h.bd,(hb.nodup_iff).1 h.nd,fun b hx=>h.out b (hb.mem_iff.2 hx),fun e he=>h.at_ e (hp.mem_iff.2 he)⟩
theorem Fr.perm (w:World) {E E':List Ent} (hp:E.Perm E'):Fr (bl E) w (bl E') w:=
 ⟨rfl,rfl,rfl,⟨Nat.le_refl _,fun b _ hb=>⟨rfl,fun hx=>hb ((List.Perm.flatMap_right _ hp).mem_iff.2 hx)⟩⟩⟩
theorem Owns.split {n0:Nat} {A:List Nat} {w:World} {E E2:List Ent} (h:Owns n0 w (E++E2) A):Owns n0 w E (bl E2++A):=by
 have hb:bl (E++E2)=bl E++bl E2:=by simp[bl]
 have hlt:=h.lt;have hnd:=h.nd;rw[hb] at hlt hnd;obtain⟨n1,n2,n3⟩:=List.nodup_append.1 hnd;refine⟨h.le,fun b hx=>hlt b ?_,n1,fun b hx hy=>?_,fun e he=>h.at_ e (List.mem_append_left _ he)⟩
 ·rcases List.mem_append.1 hx with hx | hx<;>simp[hx]
 ·rcases List.mem_append.1 hy with hy | hy
  ·exact n3 b hx b hy rfl
  ·exact h.out b (by rw[hb];simp[hx]) hy
theorem Stp.join {n0:Nat} {A:List Nat} {w w':World} {E E1 E2:List Ent} (h:Owns n0 w (E++E2) A) (ho:Owns n0 w' E1 (bl E2++A)) (hf:Fr (bl E) w (bl E1) w'):Stp n0 A w (E++E2) w' (E1++E2):=by
 have hb:bl (E++E2)=bl E++bl E2:=by simp[bl]
 have hb1:bl (E1++E2)=bl E1++bl E2:=by simp[bl]
 have hnd:=h.nd;have hlt:=h.lt;rw[hb] at hnd hlt;obtain⟨n1,n2,n3⟩:=List.nodup_append.1 hnd;refine⟨⟨ho.le,fun b hx=>ho.bd b (List.mem_append_right _ hx),?_,?_,?_⟩,⟨hf.os,hf.tape,hf.output,⟨hf.ch.size,fun b hx hnb=>?_⟩⟩⟩
 ·rw[hb1];exact List.nodup_append.2 ⟨ho.nd,n2,fun a ha b hb hab=>by subst hab;exact ho.out a ha (List.mem_append_left _ hb)⟩
 ·intro b hx;rw[hb1] at hx
  rcases List.mem_append.1 hx with hx | hx
  ·exact fun hA=>ho.out b hx (List.mem_append_right _ hA)
  ·exact h.out b (by rw[hb];simp[hx])
 ·intro e he
  rcases List.mem_append.1 he with he | he
  ·exact ho.at_ e he
  ·refine Ent.keep (h.at_ e (List.mem_append_right _ he)) fun b hx=>(hf.ch.keep b ?_ fun hy=>?_).1
   ·exact(Ent.lt (h.at_ e (List.mem_append_right _ he)) b hx).2
   ·exact n3 b hy b (J8H.2 ⟨e,he,hx⟩) rfl
 ·rw[hb] at hnb;simp only[List.mem_append,not_or] at hnb;refine⟨(hf.ch.keep b hx hnb.1).1,?_⟩;rw[hb1];simp only[List.mem_append,not_or];exact⟨(hf.ch.keep b hx hnb.1).2,hnb.2⟩
theorem Ch.mem {B B':List Nat} (w:World) (h:∀b,b∈B'→b∈B):Ch B w B' w:=⟨Nat.le_refl _,fun b _ hb=>⟨rfl,fun hx=>hb (h b hx)⟩⟩
theorem Ch.assoc (E E2:List Ent) (A:List Nat) (w:World):Ch (bl E++(bl E2++A)) w (bl (E++E2)++A) w:=.mem w fun b hb=>by simpa [bl] using hb
theorem Ch.assoc' (E E2:List Ent) (A:List Nat) (w:World):Ch (bl (E++E2)++A) w (bl E++(bl E2++A)) w:=.mem w fun b hb=>by simpa [bl] using hb
theorem Stp.more {n0:Nat} {A:List Nat} {w w':World} {E EN:List Ent} {A':List Nat} (h:Owns n0 w E A) (hs:Same w w') (hN:Owns w.heap.size w' EN A'):Stp n0 A w E w' (EN++E):=by
 have hb:bl (EN++E)=bl EN++bl E:=by simp[bl]
 have hge:=hN.ge;have hlt:=h.lt;refine⟨⟨Nat.le_trans h.le hs.size,fun b hx=>Nat.lt_of_lt_of_le (h.bd b hx) hs.size,?_,?_,?_⟩,⟨hs.os,hs.tape,hs.output,⟨hs.size,fun b hx hnb=>⟨hs.block b hx,?_⟩⟩⟩⟩
 ·rw[hb];exact List.nodup_append.2 ⟨hN.nd,h.nd,fun a ha b hb hab=>by subst hab;have:=hge a ha;have:=hlt a (by simp[hb]);omega⟩
 ·intro b hx;rw[hb] at hx
  rcases List.mem_append.1 hx with hx | hx
  ·exact fun hA=>by have:=hge b hx;have:=h.bd b hA;omega
  ·exact h.out b hx
 ·intro e he
  rcases List.mem_append.1 he with he | he
  ·exact Ent.base h.le (hN.at_ e he)
  ·exact Ent.keep (h.at_ e he) fun b hx=>hs.block b (Ent.lt (h.at_ e he) b hx).2
 ·rw[hb];simp only[List.mem_append,not_or];exact⟨fun hy=>by have:=hge b hy;omega,hnb⟩
theorem Ch.weak (X A:List Nat) (w:World):Ch (X++A) w A w:=⟨Nat.le_refl _,fun _ _ h=>⟨rfl,fun hx=>h (List.mem_append_right _ hx)⟩⟩
open Go Go.RowKit
def scB:TypeDesc→Bool
 | .struct _ | .array _ _=>false
 | _=>true
section
variable {P:Program} {σ:Nat→Value} {w:World} {t t' ty e:TypeId} {x y z:Operand} {A:List Nat} {E:List Ent} {n0:Nat}
theorem J8u {d:TypeDesc} (ht:P.underlying t=some d) (hd:scB d=true) (w:World):(isAgg t).run P w=.ok false w:=by
 cases d<;>simp[scB] at hd<;>simp[isAgg,run_underlying ht]
theorem run_isAgg' {d:TypeDesc} (ht:P.underlying t=some d) (hd:scB d=false) (w:World):(isAgg t).run P w=.ok true w:=by
 cases d<;>simp[scB] at hd<;>simp[isAgg,run_underlying ht]
theorem J7Y {d:TypeDesc} {a:Addr} {v:Value} (ht:P.underlying t=some d) (hd:scB d=true) (hx:ev σ x=.pointer (some a)) (hc:w.cell? a=some v):OpV P (.load t x) ty σ w v w:=.inl (by
 simp[execOp,opr,hx,Instr.loadAt,Instr.sureAddr,loadVar,J8u ht hd,hc])
theorem J3G (a:Addr):∀(n i:Nat) (acc:Array Value) (vs:List Value),vs.length=n→(∀j (h:j<vs.length),w.cell? (a.add (i+j))=some vs[j])→(loadCellsFrom a i n acc).run P w=.ok (acc++vs.toArray) w
  | 0, i, acc, vs, hl, _ => by
    have:vs=[]:=List.eq_nil_of_length_eq_zero hl
    subst this;simp[loadCellsFrom]
  | n + 1, i, acc, v :: vs, hl, h => by
    have h0:=h 0 (by simp)
    simp only[Nat.add_zero,List.getElem_cons_zero] at h0
    have ih:=J3G a n (i+1) (acc.push v) vs (by simpa using hl) fun j hj=>by
      have:=h (j+1) (by simpa using hj)
      rw[show i+1+j=i+(j+1) by omega];simpa using this
    simp[loadCellsFrom,h0,ih]
theorem J7q {d:TypeDesc} {a:Addr} {vs:List Value} {zz:Option Value} {b:Nat} (ht:P.underlying t=some d) (hd:scB d=false) (he:ti P t=some (zz,vs.length,b)) (hx:ev σ x=.pointer (some a))
  (hc:∀j (h:j<vs.length),w.cell? (a.add j)=some vs[j]):OpV P (.load t x) ty σ w (.agg vs.toArray) w:=.inl (by
 have hs:=fun w=>run_sizeOf he w
 have hl:=J3G (P:=P) (w:=w) a vs.length 0 #[] vs rfl (by simpa using hc)
 simp[execOp,opr,hx,Instr.loadAt,Instr.sureAddr,loadVar,run_isAgg' ht hd,hs,loadCells,hl])
theorem add_lit' (a:Addr) (h:a.spot=none) (j:Nat):a.add j=⟨a.block,a.off+j,none⟩:=by
 obtain⟨b,o,s⟩:=a;simp only at h;subst h;exact Addr.add_lit b o j
theorem ISl.elem {α:Type} [Inhabited α] {r:Rp α} {p:Option Addr} {c:Nat} {xs:List α} (h:ISl r A w p c xs) {i:Int} (h0:0≤i) (h1:i<xs.length) :
  ∃a,padd p (i.toNat*r.sz)=some a∧a.spot=none∧a.block<w.heap.size∧a.block∉A∧r.R A w (cel w a) (ix xs i):=by
 obtain⟨a,rfl⟩:=Option.isSome_iff_exists.1 (h.some_ h0 h1)
 have hk:i.toNat<xs.length:=by omega
 obtain⟨s1,s2,s3,s4⟩:=h.at_ a rfl i.toNat hk;refine⟨⟨a.block,a.off+i.toNat*r.sz,none⟩,by simp[padd,add_lit' a s1],rfl,s2,s3,?_⟩;rw[ix_eq hk];refine r.ext (fun j _=>?_) s4;simp[cel,Nat.add_assoc]
theorem cel0 {w:World} {a:Addr} (h:a.spot=none):cel w a 0=w.cell? a:=by
 obtain⟨b,o,s⟩:=a;simp only at h;subst h;rfl
theorem J9D {w w':World} (h:Same w w') {a:Addr} (hb:a.block<w.heap.size) (i:Nat):cel w' a i=cel w a i:=
 World.cell?_of_block (w:=w) (w':=w') (h.block a.block hb)
theorem ld1 {α:Type} [Inhabited α] {r:Rp α} {p:Option Addr} {c:Nat} {xs:List α} (hs:ISl r A w p c xs) {i:Int} (h0:0≤i) (h1:i<xs.length)
  {v:Value} (hr:∀cs,r.R A w cs (ix xs i)→cs 0=some v) {d:TypeDesc} (ht:P.underlying t=some d) (hd:scB d=true)
  (hx:ev σ x=.pointer (padd p (i.toNat*r.sz))) (w':World) (hw:Same w w'):OpV P (.load t x) ty σ w' v w':=by
 obtain⟨a,ha,hsp,hb,_,hR⟩:=hs.elem h0 h1;rw[ha] at hx;exact J7Y ht hd hx (by rw[←cel0 hsp,J9D hw hb];exact hr _ hR)
theorem ldInt {k:IntKind} {p:Option Addr} {c:Nat} {xs:List Int} (hs:ISl (Rp.int k) A w p c xs) {i:Int} (h0:0≤i) (h1:i<xs.length)
  {d:TypeDesc} (ht:P.underlying t=some d) (hd:scB d=true) (hx:ev σ x=.pointer (padd p (i.toNat*1))) (w':World) (hw:Same w w'):OpV P (.load t x) ty σ w' (.int k (ix xs i)) w':=
 ld1 hs h0 h1 (fun _ h=>h) ht hd hx w' hw
theorem ldBool {p:Option Addr} {c:Nat} {xs:List Bool} (hs:ISl Rp.bool A w p c xs) {i:Int} (h0:0≤i) (h1:i<xs.length)
  {d:TypeDesc} (ht:P.underlying t=some d) (hd:scB d=true) (hx:ev σ x=.pointer (padd p (i.toNat*1))) (w':World) (hw:Same w w'):OpV P (.load t x) ty σ w' (.bool (ix xs i)) w':=
 ld1 hs h0 h1 (fun _ h=>h) ht hd hx w' hw
theorem ISl.Jez {p:Option Addr} {c:Nat} {xs:List (List UInt8)} (hs:ISl Rp.str A w p c xs) {i:Int} (h0:0≤i) (h1:i<xs.length):(ix xs i).length≤mx:=by
 obtain⟨_,_,_,_,_,h⟩:=hs.elem h0 h1;exact h.2
theorem ldSl {α:Type} {r:Rp α} {p:Option Addr} {c:Nat} {xs:List (List α)} (hs:ISl r.sl A w p c xs) {i:Int} (h0:0≤i) (h1:i<xs.length) :
  ∃q d,ISl r A w q d (ix xs i)∧∀{P:Program} {σ:Nat→Value} {t ty:TypeId} {x:Operand} {td:TypeDesc},P.underlying t=some td→scB td=true→ev σ x=.pointer (padd p (i.toNat*1))→∀w',Same w w'→OpV P (.load t x) ty σ w' (.slice q (ix xs i).length d) w':=by
 obtain⟨a,ha,hsp,hb,_,q,d,hq,hI⟩:=hs.elem h0 h1;refine⟨q,d,hI,fun ht hd hx w' hw=>?_⟩;rw[show (Rp.sl r).sz=1 from rfl] at ha;rw[ha] at hx;exact J7Y ht hd hx (by rw[←cel0 hsp,J9D hw hb];exact hq)
theorem J2o {size:Nat} {p:Option Addr} {n c:Nat} {vs:List Value} (h:w.ownsRow n0 e size (.slice p n c) n vs) {j:Nat} (hj:j<vs.length) :
  ∃g cur,p=some ⟨g,0,none⟩∧w.heap[g]?=some (.cells cur e (0,0))∧n0≤g∧n≤c∧c≤maxLen∧cur.size=c*size∧cur.toList.take (n*size)=vs∧w.cell? ⟨g,j,none⟩=some vs[j]:=by
 rcases h.2 with ⟨hv,hn⟩ | ⟨g,cap,cur,hv,hb,hg,h1,h2,h3,h4⟩
 ·have:=h.1;subst hn;simp at this;simp[this] at hj
 ·cases hv
  refine⟨g,cur,rfl,hg,hb,h1,h2,h3,h4,?_⟩
  have hj':j<(cur.toList.take (n*size)).length:=by rw[h4];exact hj
  simp only[World.cell?,hg,Option.isSome_none,Bool.false_eq_true,if_false]
  have e1:vs[j]=(cur.toList.take (n*size))[j]:=by simp only[h4]
  rw[e1,List.getElem_take];simp only[List.length_take,Array.length_toList] at hj';simp[show j<cur.size by omega]
theorem Els.val {α:Type} [Inhabited α] {r:Rp α} {vs:List Value} {xs:List α} (h:Els r A w vs xs) {i:Int} (h0:0≤i) (h1:i<xs.length) :
  i.toNat*r.sz<vs.length∧r.R A w (fun j=>vs[i.toNat*r.sz+j]?) (ix xs i):=by
 have hk:i.toNat<xs.length:=by omega
 refine⟨?_,by rw[ix_eq hk];exact h.at_ _ hk⟩;rw[h.len];exact Nat.mul_lt_mul_of_pos_right hk r.pos
theorem J5y {size:Nat} {p:Option Addr} {n c:Nat} {vs:List Value} (h:w.ownsRow n0 e size (.slice p n c) n vs):n≤c∧vs.length=n*size:=by
 refine⟨?_,h.1⟩
 rcases h.2 with ⟨hv,hn⟩ | ⟨g,cap,cur,hv,hb,hg,h1,h2,h3,h4⟩
 ·cases hv;exact Nat.le_refl _
 ·cases hv;exact h1
theorem Els.n_eq {α:Type} {r:Rp α} {p:Option Addr} {n c:Nat} {vs:List Value} {xs:List α} (hE:Els r A w vs xs) (h:w.ownsRow n0 e r.sz (.slice p n c) n vs):n=xs.length:=by
 have h1:=hE.len;rw[h.1] at h1;exact Nat.eq_of_mul_eq_mul_right r.pos h1
theorem oldV {α:Type} [Inhabited α] {r:Rp α} {p:Option Addr} {n c:Nat} {vs:List Value} {xs:List α} (j:Nat) (hO:Owns n0 w E A) (hj:E[j]?=some (.row e r.sz p n c vs)) (hE:Els r (bl E++A) w vs xs)
  {i:Int} (h0:0≤i) (h1:i<xs.length) {v:Value} (hv:vs[i.toNat*r.sz+0]?=some v) {d:TypeDesc} (ht:P.underlying t=some d) (hd:scB d=true)
  (hx:ev σ x=.pointer (padd p (i.toNat*r.sz))) (w':World) (hw:Same w w'):OpV P (.load t x) ty σ w' v w':=by
 have hh:=hO.at_ _ (List.mem_of_getElem? hj);obtain⟨hl,hR⟩:=hE.val h0 h1;obtain⟨g,cur,rfl,hg,_,_,_,_,_,hc⟩:=J2o hh hl;simp only[Nat.add_zero,List.getElem?_eq_getElem hl,Option.some.injEq] at hv;simp only[padd,Option.map_some,Addr.add_lit,Nat.zero_add] at hx;refine J7Y ht hd hx ?_;rw[World.cell?_of_block (w:=w) (hw.block g (Array.getElem?_eq_some_iff.1 hg).1),hc,hv]
theorem old1 {α:Type} [Inhabited α] {r:Rp α} {p:Option Addr} {n c:Nat} {vs:List Value} {xs:List α} (j:Nat) (hO:Owns n0 w E A) (hj:E[j]?=some (.row e r.sz p n c vs)) (hE:Els r (bl E++A) w vs xs)
  {i:Int} (h0:0≤i) (h1:i<xs.length) {v:Value} (hr:∀cs,r.R (bl E++A) w cs (ix xs i)→cs 0=some v) {d:TypeDesc} (ht:P.underlying t=some d) (hd:scB d=true)
  (hx:ev σ x=.pointer (padd p (i.toNat*r.sz))) (w':World) (hw:Same w w'):OpV P (.load t x) ty σ w' v w':=
 oldV j hO hj hE h0 h1 (hr _ (hE.val h0 h1).2) ht hd hx w' hw
theorem oldInt {k:IntKind} {p:Option Addr} {n c:Nat} {vs:List Value} {xs:List Int} (j:Nat) (hO:Owns n0 w E A) (hj:E[j]?=some (.row e 1 p n c vs)) (hE:Els (Rp.int k) (bl E++A) w vs xs)
  {i:Int} (h0:0≤i) (h1:i<xs.length) {d:TypeDesc} (ht:P.underlying t=some d) (hd:scB d=true)
  (hx:ev σ x=.pointer (padd p (i.toNat*1))) (w':World) (hw:Same w w'):OpV P (.load t x) ty σ w' (.int k (ix xs i)) w':=
 old1 (r:=Rp.int k) j hO hj hE h0 h1 (fun _ h=>h) ht hd hx w' hw
theorem oldSl {α:Type} {r:Rp α} {p:Option Addr} {n c:Nat} {vs:List Value} {xs:List (List α)} (j:Nat) (hO:Owns n0 w E A) (hj:E[j]?=some (.row e 1 p n c vs)) (hE:Els r.sl (bl E++A) w vs xs) {i:Int} (h0:0≤i) (h1:i<xs.length) :
  ∃q d,ISl r (bl E++A) w q d (ix xs i)∧∀{P:Program} {σ:Nat→Value} {t ty:TypeId} {x:Operand} {td:TypeDesc},P.underlying t=some td→scB td=true→ev σ x=.pointer (padd p (i.toNat*1))→∀w',Same w w'→OpV P (.load t x) ty σ w' (.slice q (ix xs i).length d) w':=by
 obtain⟨hl,q,d,hq,hI⟩:=hE.val h0 h1;exact⟨q,d,hI,fun ht hd hx w' hw=>oldV (r:=Rp.sl r) j hO hj hE h0 h1 hq ht hd hx w' hw⟩
end
open Go Go.RowKit
section
variable {P:Program} {σ:Nat→Value} {w:World} {t t' ty e:TypeId} {x y z:Operand} {A:List Nat} {E:List Ent} {n0:Nat}
theorem heap_set (w:World) (g j:Nat) (cur:Array Value) (e:TypeId) (v:Value) (hg:w.heap[g]?=some (.cells cur e (0,0))) :
  (w.setCell ⟨g,j,none⟩ v).heap[g]?=some (.cells (cur.setIfInBounds j v) e (0,0)):=by
 simp[World.setCell,Array.getElem?_modify,hg]
theorem J8F {d:TypeDesc} {a:Addr} {v u:Value} (ht:P.underlying t=some d) (hd:scB d=true) {zz:Option Value} {b:Nat} (he:ti P t=some (zz,1,b)) (hx:ev σ x=.pointer (some a)) (hy:ev σ y=v) (hv:v.oneCell'=true)
  (hc:w.cell? a=some u) (hf:w.frozen? a=false):OpV P (.store t x y) ty σ w undef (w.setCell a v):=.inr (by
 have hs:=fun w=>run_sizeOf he w
 have hcells:v.cells=#[v]:=by cases v<;>simp[Value.oneCell'] at hv<;>rfl
 have hst:(store a v).run P w=.ok () (w.setCell a v):=by rw[run_store P w a v .plain hv];simp[hc,hf]
 simp[execOp,opr,hx,hy,Instr.storeAt,Instr.sureAddr,storeVar,hs,hcells,storeCells,Addr.add_zero',hst])
theorem Jd9 {size:Nat} {p:Option Addr} {n c:Nat} {vs:List Value} (j:Nat) (hO:Owns n0 w E A) (hj:E[j]?=some (.row e size p n c vs)) {m:Nat} (hm:m<vs.length) {v:Value} (hv:v.oneCell'=true) :
  ∃w',Stp n0 A w E w' (E.set j (.row e size p n c (vs.set m v)))∧∀{P:Program} {σ:Nat→Value} {t ty:TypeId} {x y:Operand} {d:TypeDesc} {zz:Option Value} {b:Nat},P.underlying t=some d→scB d=true→ti P t=some (zz,1,b) →
   ev σ x=.pointer (padd p m)→ev σ y=v→OpV P (.store t x y) ty σ w undef w':=by
 have hh:=hO.at_ _ (List.mem_of_getElem? hj);obtain⟨g,cur,rfl,hg,hb,h1,h2,h3,h4,hc⟩:=J2o hh hm
 have hfz:w.frozen? ⟨g,m,none⟩=false:=by simp[World.frozen?,hg]
 have hgl:g<w.heap.size:=(Array.getElem?_eq_some_iff.1 hg).1;refine⟨w.setCell ⟨g,m,none⟩ v,Stp.turn hO hj ⟨rfl,rfl,rfl⟩ (by simp[World.setCell]) (fun b hb' hn=>?_) (by simp[Ent.fp]) (fun b hb'=>.inl (by simpa [Ent.fp] using hb')) ?_,fun ht hd he hx hy=>?_⟩
 ·exact Below.heap_setCell w ⟨g,m,none⟩ v b (by simpa [Ent.fp] using hn)
 ·refine⟨by simpa using hh.1,.inr ⟨g,c,cur.setIfInBounds m v,rfl,hb,heap_set w g m cur e v hg,h1,h2,by simpa using h3,?_⟩⟩;rw[Array.toList_setIfInBounds,List.take_set,h4]
 ·simp only[padd,Option.map_some,Addr.add_lit,Nat.zero_add] at hx;exact J8F ht hd he hx hy hv hc hfz
theorem Els.set {α:Type} {r:Rp α} {vs:List Value} {xs:List α} (h:Els r A w vs xs) (h1:r.sz=1) {i:Int} (h0:0≤i) (hi:i<xs.length) {v:Value} {u:α} (hR:r.R A w (fun _=>some v) u):Els r A w (vs.set i.toNat v) (st xs i u):=by
 refine⟨by simp[h.len],by rw[J02];exact h.bd,fun k hk=>?_⟩;simp only[J02] at hk;simp only[st,List.getElem_set];have hlen:=h.len;rw[h1,Nat.mul_one] at hlen;by_cases hki:i.toNat=k
 ·subst hki;rw[if_pos rfl];refine r.ext (fun j hj=>?_) hR
  obtain rfl:j=0:=by omega
  simp[h1,hlen,hk]
 ·rw[if_neg hki];refine r.ext (fun j hj=>?_) (h.at_ k hk)
  obtain rfl:j=0:=by omega
  simp only[h1,Nat.mul_one,Nat.add_zero,List.getElem?_set];rw[if_neg hki]
theorem ost {α:Type} {r:Rp α} (r1:r.sz=1) {p:Option Addr} {n c:Nat} {vs:List Value} {xs:List α} (j:Nat) (hO:Owns n0 w E A) (hj:E[j]?=some (.row e 1 p n c vs)) (hE:Els r (bl E++A) w vs xs) {i:Int} (h0:0≤i) (hi:i<xs.length)
  {v:Value} {u:α} (hv:v.oneCell'=true) (hR:r.R (bl E++A) w (fun _=>some v) u) :
  ∃w' vs',Stp n0 A w E w' (E.set j (.row e 1 p n c vs'))∧Els r (bl (E.set j (.row e 1 p n c vs'))++A) w' vs' (st xs i u)∧∀{P:Program} {σ:Nat→Value} {t ty:TypeId} {x y:Operand} {d:TypeDesc} {zz:Option Value} {b:Nat},P.underlying t=some d→scB d=true→ti P t=some (zz,1,b) →
   ev σ x=.pointer (padd p (i.toNat*1))→ev σ y=v→OpV P (.store t x y) ty σ w undef w':=by
 have hl:=hE.len;rw[r1,Nat.mul_one] at hl;obtain⟨w',hs,hop⟩:=Jd9 (m:=i.toNat) j hO hj (by omega) hv;exact⟨w',_,hs,(hE.set r1 h0 hi hR).ch hs.ch,fun ht hd he hx hy=>hop ht hd he (by rw[Nat.mul_one] at hx;exact hx) hy⟩
theorem JbI {size:Nat} {p:Option Addr} {n c:Nat} {vs:List Value} (h:w.ownsRow n0 e size (.slice p n c) n vs) {a:Addr} (ha:p=some a):a.spot=none∧a.block<w.heap.size∧∀j,j<vs.length→cel w a j=vs[j]?:=by
 subst ha
 rcases h.2 with ⟨hv,hn⟩ | ⟨g,cap,cur,hv,hb,hg,_⟩
 ·cases hv
 ·cases hv
  refine⟨rfl,(Array.getElem?_eq_some_iff.1 hg).1,fun j hj=>?_⟩;obtain⟨g',cur',hp,_,_,_,_,_,_,hc⟩:=J2o h hj
  cases hp
  simp only[cel,Nat.zero_add,hc,List.getElem?_eq_getElem hj]
theorem freeze {α:Type} {r:Rp α} {p:Option Addr} {n c:Nat} {vs:List Value} {xs:List α} (j:Nat) (hO:Owns n0 w E A) (hj:E[j]?=some (.row e r.sz p n c vs)) (hE:Els r (bl E++A) w vs xs) :
  Owns n0 w (E.eraseIdx j) A∧Ch (bl E++A) w (bl (E.eraseIdx j)++A) w∧ISl r (bl (E.eraseIdx j)++A) w p c xs∧n=xs.length:=by
 have hh:=hO.at_ _ (List.mem_of_getElem? hj);have hn:=hE.n_eq hh;have hch:=Owns.J9c (A:=A) w E j;have hE':=hE.ch hch;refine⟨hO.drop j,hch,⟨by rw[←hn];exact(J5y hh).1,hE.bd,fun hp=>?_,fun a ha=>?_⟩,hn⟩
 ·subst hp
  rcases hh.2 with ⟨hv,_⟩ | ⟨g,cap,cur,hv,_⟩
  ·cases hv;rfl
  ·cases hv
 ·intro k hk;obtain⟨h1,h2,h3⟩:=JbI hh ha;refine⟨h1,h2,?_,?_⟩
  ·have hjl:j<E.length:=(List.getElem?_eq_some_iff.1 hj).1;have hje:E[j]=.row e r.sz p n c vs:=(List.getElem?_eq_some_iff.1 hj).2
   have hmem:a.block∈(Ent.row e r.sz p n c vs).fp:=by subst ha;simp[Ent.fp]
   have hin:a.block∈bl E:=J8H.2 ⟨_,List.mem_of_getElem? hj,hmem⟩
   have hEeq:E=E.take j++.row e r.sz p n c vs::E.drop (j+1):=by rw[←hje];simp
   have hnd:=hO.nd;have hb1:bl E=bl (E.take j)++((Ent.row e r.sz p n c vs).fp++bl (E.drop (j+1))):=(congrArg bl hEeq).trans (by simp[bl]);rw[hb1] at hnd;obtain⟨n1,n2,n3⟩:=List.nodup_append.1 hnd;obtain⟨n4,n5,n6⟩:=List.nodup_append.1 n2;intro hx
   rcases List.mem_append.1 hx with hx | hx
   ·have:bl (E.eraseIdx j)=bl (E.take j)++bl (E.drop (j+1)):=by rw[List.eraseIdx_eq_take_drop_succ];simp[bl]
    rw[this] at hx
    rcases List.mem_append.1 hx with hx | hx
    ·exact n3 _ hx _ (List.mem_append_left _ hmem) rfl
    ·exact n6 _ hmem _ hx rfl
   ·exact hO.out _ hin hx
  ·refine r.ext (fun i hi=>?_) (hE'.at_ k hk)
   have hlt:k*r.sz+i<vs.length:=by
    rw[hE.len];have:(k+1)*r.sz≤xs.length*r.sz:=Nat.mul_le_mul_right _ hk;rw[Nat.add_mul,Nat.one_mul] at this;omega
   exact h3 _ hlt
theorem J48 (z:Value) (s n:Nat) (hz:z.cells.size=s) (hs:0<s) (k:Nat) (hk:k<n) (i:Nat) (hi:i<s):(madeCells z.cells (n*s)).toList[k*s+i]?=z.cells[i]?:=by
 have h1:k*s+i<n*s:=by
  have:(k+1)*s≤n*s:=Nat.mul_le_mul_right _ hk;rw[Nat.add_mul,Nat.one_mul] at this;omega
 have h2:(k*s+i) % s=i:=by rw[Nat.add_comm,Nat.add_mul_mod_self_right,Nat.mod_eq_of_lt hi]
 simp[madeCells,h1,hz,h2,hi]
theorem Stp.grown {size:Nat} {p p':Option Addr} {n n' c c':Nat} {vs vs':List Value} {w':World} (j:Nat) (hO:Owns n0 w E A) (hj:E[j]?=some (.row e size p n c vs)) (hg:w.grownBy w' (Value.ownBlock (.slice p n c)))
    (hown:w'.ownsRow n0 e size (.slice p' n' c') n' vs') (hnew:∀a,p'=some a→p'=p∨w.heap.size≤a.block):Stp n0 A w E w' (E.set j (.row e size p' n' c' vs')):=by
  refine Stp.turn hO hj ⟨hg.os,hg.tape,hg.output⟩ hg.size (fun b hb hnb=>hg.block b hb fun hx=>hnb ?_) ?_ (fun b hb=>?_) hown
  · cases p with
    | none=>simp[Value.ownBlock] at hx
    | some a=>simp[Value.ownBlock] at hx;simp[Ent.fp,hx]
  · cases p'<;>simp[Ent.fp]
  · cases p' with
    | none=>simp[Ent.fp] at hb
    | some a =>
      simp only[Ent.fp,List.mem_singleton] at hb;subst hb
      rcases hnew a rfl with h | h
      · left;rw[←h];simp[Ent.fp]
      · exact .inr h
theorem Same.grown {w w':World} (hg:w.grownBy w' none):Same w w':=⟨hg.os,hg.tape,hg.output,hg.size,fun k hk=>hg.block k hk (by simp)⟩
theorem Els.made {α:Type} {r:Rp α} {w':World} {z:Value} {d:α} (hz:∀(A:List Nat) (w:World),r.R A w (fun i=>z.cells[i]?) d) (hs:z.cells.size=r.sz) (n:Nat) (hn:n≤mx):Els r A w' (madeCells z.cells (n*r.sz)).toList (List.replicate n d):=by
 refine⟨by simp[size_madeCells],by simpa using hn,fun k hk=>?_⟩;simp only[List.length_replicate] at hk;simp only[List.getElem_replicate];exact r.ext (fun i hi=>J48 z r.sz n hs r.pos k hk i hi) (hz A w')
theorem omake {α:Type} {r:Rp α} {z:Value} {d:α} {by_:Nat} (ht:P.underlying t=some (.slice e)) (he:ti P e=some (some z,r.sz,by_)) (hz:∀(A:List Nat) (w:World),r.R A w (fun i=>z.cells[i]?) d) (hs:z.cells.size=r.sz)
  (hO:Owns n0 w E A) {n:Int} (h0:0≤n) (hb0:n≤1099511627776) (hby:by_≤128) :
  ∃w' p vs,Stp n0 A w E w' (.row e r.sz p n.toNat n.toNat vs::E)∧Els r (bl (.row e r.sz p n.toNat n.toNat vs::E)++A) w' vs (List.replicate n.toNat d)∧Same w w' ∧
   ∀{σ:Nat→Value} {x y:Operand} {ty:TypeId},ev σ x=.int .i64 n→ev σ y=.int .i64 n→OpV P (.makeSlice t x y) ty σ w (.slice p n.toNat n.toNat) w':=by
 obtain⟨m,rfl⟩:=Int.eq_ofNat_of_zero_le h0
 have hn':(m:Int)≤140737488355328:=by omega
 have hn:(m:Int)*by_≤140737488355328:=by
  have h1:m*by_≤1099511627776*128:=Nat.mul_le_mul (by omega) hby
  rw[←Int.natCast_mul];omega
 obtain⟨i,hi,hz1,hz2,hz3⟩:=J4h he
 have hb:i.bytes*m≤281474976710656:=by
  rw[hz3]
  have h:((by_*m:Nat):Int)≤140737488355328:=by rw[Int.natCast_mul,Int.mul_comm];exact hn
  omega
 obtain⟨w',hr,hown,hg⟩:=run_make_full (P:=P) w n0 t e i z r.sz ht hi hz1 hz2 .i64 .i64 m hb (by simp only[maxLen];omega) hO.le;refine⟨w',some ⟨w.heap.size,0,none⟩,_,Stp.new hO (Same.grown hg) (by simp[Ent.fp]) (fun b hb=>by simp[Ent.fp] at hb;omega) hown,?_,Same.grown hg,fun hx hy=>.inl ?_⟩
 ·exact Els.made hz hs m (by simp only[mx];omega)
 ·simp[execOp,opr,hx,hy,hr]
theorem Stp.nil {r:Nat} (hO:Owns n0 w E A):Stp n0 A w E w (.row e r none 0 0 []::E):=
 Stp.new hO (Same.refl w) (by simp[Ent.fp]) (fun b hb=>by simp[Ent.fp] at hb) (World.ownsRow_nil w n0 e r)
theorem Els.append {α:Type} {r:Rp α} {vs us:List Value} {xs ys:List α} (h:Els r A w vs xs) (k:Els r A w us ys) (hb:xs.length+ys.length≤mx):Els r A w (vs++us) (xs++ys):=by
 refine⟨by simp[h.len,k.len,Nat.add_mul],by simpa using hb,fun m hm=>?_⟩;simp only[List.length_append] at hm;by_cases hx:m<xs.length
 ·rw[List.getElem_append_left hx];refine r.ext (fun i hi=>?_) (h.at_ m hx);rw[List.getElem?_append_left];rw[h.len];have:(m+1)*r.sz≤xs.length*r.sz:=Nat.mul_le_mul_right _ hx;rw[Nat.add_mul,Nat.one_mul] at this;omega
 ·rw[List.getElem_append_right (by omega)];refine r.ext (fun i hi=>?_) (k.at_ (m-xs.length) (by omega));rw[List.getElem?_append_right]
  ·congr 1
   rw[h.len,Nat.sub_mul];have:xs.length*r.sz≤m*r.sz:=Nat.mul_le_mul_right _ (by omega);omega
  ·rw[h.len];have:xs.length*r.sz≤m*r.sz:=Nat.mul_le_mul_right _ (by omega);omega
theorem ISl.cells {α:Type} {r:Rp α} {a:Addr} {c:Nat} {xs:List α} (h:ISl r A w (some a) c xs):∃vs:List Value,Els r A w vs xs∧(∀j u,vs[j]?=some u→w.cell? (a.add j)=some u)∧∀u∈vs,u.oneCell'=true:=by
 have hat:=h.at_ a rfl
 have hcell:∀j,j<xs.length*r.sz→∃v,cel w a j=some v∧v.oneCell'=true:=by
  intro j hj
  have hk:j / r.sz<xs.length:=by rw[Nat.div_lt_iff_lt_mul r.pos];exact hj
  obtain⟨_,_,_,h4⟩:=hat _ hk;obtain⟨v,hv,h1⟩:=r.one h4 (j % r.sz) (Nat.mod_lt _ r.pos);exact⟨v,by rw[←hv];congr 1;rw[Nat.mul_comm];exact(Nat.div_add_mod j r.sz).symm,h1⟩
 refine⟨(List.range (xs.length*r.sz)).map fun j=>(cel w a j).getD undef,⟨by simp,h.bd,fun k hk=>?_⟩,fun j u hu=>?_,fun u hu=>?_⟩
 ·obtain⟨_,_,_,h4⟩:=hat k hk;refine r.ext (fun i hi=>?_) h4
  have hlt:k*r.sz+i<xs.length*r.sz:=by
   have:(k+1)*r.sz≤xs.length*r.sz:=Nat.mul_le_mul_right _ hk;rw[Nat.add_mul,Nat.one_mul] at this;omega
  obtain⟨v,hv,_⟩:=hcell _ hlt;simp[hlt,hv]
 ·have hj:j<xs.length*r.sz:=by have:=(List.getElem?_eq_some_iff.1 hu).1;simpa using this
  have hpos:0<xs.length:=by
   rcases Nat.eq_zero_or_pos xs.length with h0 | h0
   ·rw[h0] at hj;omega
   ·exact h0
  obtain⟨h1,_,_,_⟩:=hat 0 hpos;rw[add_lit' a h1];obtain⟨v,hv,_⟩:=hcell j hj;simp[hj,hv] at hu;rw[←hu];exact hv
 ·simp only[List.mem_map,List.mem_range] at hu;obtain⟨j,hj,rfl⟩:=hu;obtain⟨v,hv,h⟩:=hcell j hj;rw[hv];exact h
theorem oapp {α:Type} {r:Rp α} {z:Value} {by_:Nat} (ht:P.underlying t=some (.slice e)) (he:ti P e=some (some z,r.sz,by_)) (hzs:z.cells.size=r.sz)
    {p:Option Addr} {n c:Nat} {vs:List Value} {xs:List α} (j:Nat) (hO:Owns n0 w E A) (hj:E[j]?=some (.row e r.sz p n c vs)) (hE:Els r (bl E++A) w vs xs)
    {q:Option Addr} {m d:Nat} {ys:List α} (hs:ISl r (bl E++A) w q d ys) (hm:m=ys.length) (hb0:xs.length+ys.length≤1099511627776) (hby:by_≤128) :
    ∃w' p' c' vs',Stp n0 A w E w' (E.set j (.row e r.sz p' (n+m) c' vs'))∧Els r (bl (E.set j (.row e r.sz p' (n+m) c' vs'))++A) w' vs' (xs++ys) ∧
      ∀{σ:Nat→Value} {x y:Operand} {ty:TypeId},ev σ x=.slice p n c→ev σ y=.slice q m d→OpV P (.call { callee:=.builtin .append,args:=#[x,y],argTypes:=#[t,t] }) ty σ w (.slice p' (n+m) c') w':=by
  obtain⟨i,hi,hz1,hz2,hz3⟩:=J4h he;have hh:=hO.at_ _ (List.mem_of_getElem? hj);have hn:=hE.n_eq hh
  have hb:(xs.length+ys.length)*by_≤140737488355328:=by
    have h1:(xs.length+ys.length)*by_≤1099511627776*128:=Nat.mul_le_mul hb0 hby
    omega
  have hl:xs.length+ys.length≤140737488355328:=by omega
  subst hm
  cases q with
  | none =>
    have hd:=hs.nil rfl;have hys:ys=[]:=List.eq_nil_of_length_eq_zero (by have:=hs.cap;omega);subst hys;refine⟨w,p,c,vs,?_,?_,fun hx hy=>.inl ?_⟩
    · have he2:E.set j (.row e r.sz p (n+([]:List α).length) c vs)=E:=by
        have hjl:j<E.length:=(List.getElem?_eq_some_iff.1 hj).1;have hje:E[j]=.row e r.sz p n c vs:=(List.getElem?_eq_some_iff.1 hj).2
        show E.set j (.row e r.sz p n c vs)=E
        rw[←hje];simp
      rw[he2];exact Stp.same hO (Same.refl w)
    · have he2:E.set j (.row e r.sz p (n+([]:List α).length) c vs)=E:=by
        have hjl:j<E.length:=(List.getElem?_eq_some_iff.1 hj).1;have hje:E[j]=.row e r.sz p n c vs:=(List.getElem?_eq_some_iff.1 hj).2
        show E.set j (.row e r.sz p n c vs)=E
        rw[←hje];simp
      rw[he2,List.append_nil];exact hE
    · subst hd;have hle:=(J5y hh).1;simp[execOp,opr,hx,hy,resolve,invoke,builtin,Builtin.append_,run_underlying ht,Go.sizeOf,typeInfo,hi,Builtin.lenOf,Builtin.firstCells,hle]
      cases p<;>simp[storeCells]
  | some a =>
    obtain⟨us,hU,hcells,hone⟩:=hs.cells;obtain⟨v',w',hr,hown,hg,_⟩:=run_append_own (P:=P) w n0 t t e i z r.sz by_ ht hi hz1 hz2 hz3 hzs r.pos (.slice p n c) n vs hh a ys.length d us hU.len hcells hone
      (by rw[hn];simp only[maxLen];omega) (by rw[hn];exact hb) hO.le
    obtain⟨p',c',rfl⟩:∃p' c',v'=.slice p' (n+ys.length) c':=by
      rcases hown.2 with ⟨rfl,h0⟩ | ⟨g,cap,cur,rfl,_⟩
      · exact⟨none,0,by rw[h0]⟩
      · exact⟨_,_,rfl⟩
    have hst:Stp n0 A w E w' (E.set j (.row e r.sz p' (n+ys.length) c' (vs++us))):=by
      refine Stp.grown j hO hj hg hown fun b hpb=>?_
      rcases hh.2 with ⟨hv,h0⟩ | ⟨g,cap,cur,hv,hbg,hgg,hnc,hcm,hcs,htake⟩
      · cases hv
        obtain⟨v2,w2,hr2,hown2,_,_⟩:=run_append_own (P:=P) w w.heap.size t t e i z r.sz by_ ht hi hz1 hz2 hz3 hzs r.pos (.slice none 0 0) 0 [] (World.ownsRow_nil w _ e r.sz) a ys.length d us hU.len hcells hone
          (by simp only[maxLen];omega) (by refine Nat.le_trans (Nat.mul_le_mul_right _ ?_) hb;omega) (Nat.le_refl _)
        rw[hr] at hr2
        cases hr2
        rcases hown2.2 with ⟨hv2,_⟩ | ⟨g2,_,_,hv2,hb2,_⟩
        · have h:=(Value.slice.inj hv2).1;rw[h] at hpb;cases hpb
        · have h:=(Value.slice.inj hv2).1;rw[h] at hpb;cases hpb;exact .inr hb2
      · cases hv
        by_cases hroom:n+ys.length≤c
        · have hfit:n*i.size+us.length≤cur.size:=by rw[hU.len,hcs,hz2,←Nat.add_mul];exact Nat.mul_le_mul_right _ hroom
          have hr2:=run_append_room (P:=P) w t t e i ht hi g n c cur hgg a ys.length d us (by rw[hz2];exact hU.len) hcells hone hroom hfit;rw[hr] at hr2
          cases hr2
          exact .inl rfl
        · have holds:∀j u,vs[j]?=some u→w.cell? ((⟨g,0,none⟩:Addr).add j)=some u:=World.ownsRow.cells hh (g:=g) rfl;have hr2:=run_append_grow (P:=P) w t t e i z ht hi hz1 ⟨g,0,none⟩ n c vs (by rw[hz2];exact hh.1) holds a ys.length d us (by rw[hz2];exact hU.len) hcells (by omega) (by omega) (growslice_fits (by omega) (by rw[hz3,hn];exact hb));rw[hr] at hr2
          cases hr2
          cases hpb
          exact .inr (Nat.le_refl _)
    refine⟨w',p',c',vs++us,hst,(hE.append hU (by simp only[mx];omega)).ch hst.ch,fun {σ x y ty} hx hy=>.inl ?_⟩;have hr':(Builtin.append_ #[t,t] ty #[.slice p n c,.slice (some a) ys.length d]).run P w=.ok (.slice p' (n+ys.length) c') w':=hr;simp[execOp,opr,hx,hy,resolve,invoke,builtin,hr']
end
open Go Go.RowKit
section
variable {P:Program} {σ:Nat→Value} {w:World} {t t' ty e:TypeId} {x y z:Operand} {A:List Nat} {E:List Ent} {n0:Nat}
theorem Els.neq {α:Type} {r:Rp α} {Av:List Nat} {p:Option Addr} {n c:Nat} {vs:List Value} {xs:List α} (hE:Els r Av w vs xs) (hO:Owns n0 w E A) (j:Nat) (hj:E[j]?=some (.row e r.sz p n c vs)):n=xs.length:=
 hE.n_eq (hO.at_ _ (List.mem_of_getElem? hj))
theorem ltn {n m:Nat} (hn:n=m) {i:Int} (h:i<(m:Int)):i<(n:Int):=by omega
theorem Els.psome {α:Type} {r:Rp α} {Av:List Nat} {p:Option Addr} {n c:Nat} {vs:List Value} {xs:List α} (hE:Els r Av w vs xs) (hO:Owns n0 w E A) (j:Nat) (hj:E[j]?=some (.row e r.sz p n c vs)) {i:Int} (h0:0≤i) (h:i<(xs.length:Int)):p.isSome=true:=by
 have hh:=hO.at_ _ (List.mem_of_getElem? hj);have hn:=hE.n_eq hh
 rcases hh.2 with ⟨hv,hn⟩ | ⟨g,cap,cur,hv,_⟩
 ·omega
 ·cases hv;rfl
theorem J08 {p:Option Addr} {n m c:Nat} (ht:P.underlying t=some (.slice e)) (hx:ev σ x=.slice p n c) (hn:n=m) (w:World) :
  OpV P (.call { callee:=.builtin .len,args:=#[x],argTypes:=#[t] }) ty σ w (.int .i64 m) w:=hn▸J4L ht hx w
theorem Go1.loopW {f n:Nat} {k:List Item} {R:Value→World→Prop} {S:Type} {c:Code} {body:S→(S→Prop)→Prop} {s0:S} (Pre:S→(Nat→Value)→World→Prop) (H:LoopWP body s0) (h0:Pre s0 σ w)
  (round:∀(X:S→Prop) (s:S),body s X→(∀s',X s'→∀σ' w',Pre s' σ' w'→Go1 P f n (.inLoop c::k) σ' w' R)→∀σ w,Pre s σ w→Go1 P f n (.code c::.inLoop c::k) σ w R) :
  Go1 P f n (.code (.loop c)::k) σ w R:=by
 have key:=H (fun s=>∀σ w,Pre s σ w→Go1 P f n (.code c::.inLoop c::k) σ w R) fun s hb=>round _ s hb fun s' hX σ' w' hP=>Go1.again (hX σ' w' hP);exact fun a ha=>.step (fun _=>step_loop) (key σ w h0 a ha)
theorem Go1.cut {f n:Nat} {k:List Item} {R:Value→World→Prop} (ls:List (Nat×Value)) (h:agrees σ ls) (k':∀σ',agrees σ' ls→Go1 P f n k (setAll σ' ls) w R):Go1 P f n k σ w R:=by
 have:=k' σ h
 rwa [J4x σ ls h] at this
theorem Els.cons {α : Type} {r : Rp α} (r1 : r.sz = 1) {v : Value} {vs : List Value} {u : α} {xs : List α} (hR : r.R A w (fun _ => some v) u) (h : Els r A w vs xs) (hb : xs.length + 1 ≤ mx) : Els r A w (v :: vs) (u :: xs) := by
  refine⟨by simp[h.len,r1],by simpa using hb,fun k hk=>?_⟩
  cases k with
  | zero => exact r.ext (fun i hi => by obtain rfl : i = 0 := by omega
                                        simp) hR
  | succ k =>
    refine r.ext (fun i hi=>?_) (h.at_ k (by simpa using hk))
    obtain rfl:i=0:=by omega
    simp[r1]
theorem Jao {α:Type} {r:Rp α} (r1:r.sz=1) {z:Value} {by_:Nat} (ht:P.underlying t=some (.slice e)) (he:ti P e=some (some z,r.sz,by_)) {n:Nat} {parts:List (Nat×Value)} {vs:List Value} {xs:List α}
  (hO:Owns n0 w E A) (hn:n≤1000) (hf:Instr.fill (fun i=>some (i*1,1)) ((Array.range (n*1)).map (z.cells[· % z.cells.size]!)) parts=some vs.toArray) (hE:Els r (bl E++A) w vs xs) (hl:vs.length=n) :
  ∃w' p,Stp n0 A w E w' (.row e 1 p n n vs::E)∧Els r (bl (.row e 1 p n n vs::E)++A) w' vs xs∧Same w w'∧∀{σ:Nat→Value} {ps:List (Nat×Operand)} {ty:TypeId},(ps.map fun p=>(p.1,ev σ p.2))=parts→OpV P (.buildSlice t n ps.toArray) ty σ w (.slice p n n) w':=by
 obtain⟨i,hi,hz1,hz2,hz3⟩:=J4h he;have hs:Same w (w.alloc (.cells vs.toArray e (0,0))):=⟨rfl,rfl,rfl,by simp,fun k hk=>Below.heap_alloc _ _ _ hk⟩
 have hst:Stp n0 A w E (w.alloc (.cells vs.toArray e (0,0))) (.row e 1 (some ⟨w.heap.size,0,none⟩) n n vs::E):=by
  refine Stp.new hO hs (by simp[Ent.fp]) (fun b hb=>by simp[Ent.fp] at hb;omega) ?_;have:=World.ownsRow_lit (base:=n0) (e:=e) (size:=1) w vs.toArray n hO.le (by simp only[maxLen];omega) (by simp[hl]);simp only at this;exact this
 refine⟨_,_,hst,hE.ch hst.ch,hs,fun hp=>.inl ?_⟩
 have hz:i.size=1:=by rw[hz2,r1]
 have h24:¬(16777216<n):=by omega
 by_cases hn0:n=0
 ·subst hn0;have hv:vs=[]:=List.eq_nil_of_length_eq_zero hl;subst hv;simp only[Nat.zero_mul] at hf;simp[execOp,opr,hp,Instr.buildSlice,run_underlying ht,Go.sizeOf,typeInfo,hi,hz,newRow];simp only[Nat.mul_one] at hf
  have hf':Instr.fill (fun i=>some (i,1)) (Array.map (fun _=>default) (Array.range 0)) parts=some #[]:=by rw[Array.range_zero',Array.map_empty] at hf ⊢;exact hf
  simp only[hf'];simp only[Sem.run_map,run_newObj,Result.andThen_ok]
  rfl
 ·simp only[Nat.mul_one] at hf;simp[execOp,opr,hp,Instr.buildSlice,run_underlying ht,Go.sizeOf,typeInfo,zeroValue,hi,hz,hz1,h24,hn0,newRow];simp only[hf];simp only[Sem.run_map,run_newObj,Result.andThen_ok]
  rfl
theorem opB {op:Op} {b b':Bool} {w':World} (h:OpV P op ty σ w (.bool b) w') (hb:b=b'):OpV P op ty σ w (.bool b') w':=hb▸h
theorem JeF {k k':IntKind} {a b:Int} (hx:ev σ x=.int k a) (hy:ev σ y=.int k' b) (h:a<b) {ts:Array TypeId} (w:World):OpV P (.call { callee:=.builtin .max,args:=#[x,y],argTypes:=ts }) ty σ w (.int k b) w:=.inl (by
 have h':b > a:=h
 simp[execOp,opr,hx,hy,resolve,invoke,builtin,Builtin.max_,Builtin.max2,h'])
theorem JeE {k k':IntKind} {a b:Int} (hx:ev σ x=.int k a) (hy:ev σ y=.int k' b) (h:¬a<b) {ts:Array TypeId} (w:World):OpV P (.call { callee:=.builtin .max,args:=#[x,y],argTypes:=ts }) ty σ w (.int k a) w:=.inl (by
 have h':¬b > a:=h
 simp[execOp,opr,hx,hy,resolve,invoke,builtin,Builtin.max_,Builtin.max2,h'])
theorem ndT {p:Prop} [Decidable p] (h:p):(!decide p)=false:=by simp[h]
theorem ndF {p:Prop} [Decidable p] (h:¬p):(!decide p)=true:=by simp[h]
theorem JaP (b:UInt8):IntKind.i64.wrap (b.toNat:Int)=b.toNat:=wrap_i64 (by have:=b.toNat_lt;exact⟨by omega,by omega⟩)
theorem Jby {a:Addr} (hx:ev σ x=.pointer (some a)) (w:World):OpV P (.nilCheck x) ty σ w (.pointer (some a)) w:=.inl (by simp[execOp,opr,hx])
theorem Jbc {fs:Array Field} {fl:Field} {b o i s:Nat} {zz:Option Value} {bb:Nat} (ht:P.underlying t=some (.struct fs)) (hf:fs[i]?=some fl) (he:ti P fl.type=some (zz,s,bb)) (hx:ev σ x=.pointer (some ⟨b,o,none⟩)) (hs:s≠0) (w:World) :
  OpV P (.fieldAddr t x i) ty σ w (.pointer (some ⟨b,o+fl.offset,none⟩)) w:=.inl (by
 have h1:=fun w=>run_sizeOf he w
 simp[execOp,opr,hx,Instr.fieldAt,Instr.sureAddr,run_underlying ht,hf,fieldPlace,h1,hs,Addr.add_lit])
theorem obox {v:Value} {cs:Array Value} (hO:Owns n0 w E A) (hc:v.cells=cs) :
  ∃w' B,Stp n0 A w E w' (.blk B (.cells cs t (0,0))::E)∧Same w w'∧∀{P:Program} {σ:Nat→Value} {x:Operand} {ty:TypeId},ev σ x=v→OpV P (.box t x) ty σ w (.pointer (some ⟨B,0,none⟩)) w':=by
 have hs:Same w (w.alloc (.cells cs t (0,0))):=⟨rfl,rfl,rfl,by simp,fun k hk=>Below.heap_alloc _ _ _ hk⟩;refine⟨w.alloc (.cells cs t (0,0)),w.heap.size,Stp.new hO hs (by simp[Ent.fp]) (fun b hb=>by simp[Ent.fp] at hb;omega) ⟨hO.le,heap_alloc_new w _⟩,hs,fun hx=>.inl ?_⟩;subst hc;simp[execOp,opr,hx,Instr.box,newVar,newRow]
theorem oblk {b i:Nat} {cs:Array Value} {T:TypeId} {fz:Nat×Nat} (j:Nat) (hO:Owns n0 w E A) (hj:E[j]?=some (.blk b (.cells cs T fz))) {v:Value} (hv:cs[i]?=some v) {d:TypeDesc} (ht:P.underlying t=some d) (hd:scB d=true)
  (hx:ev σ x=.pointer (some ⟨b,i,none⟩)) (w':World) (hw:Same w w'):OpV P (.load t x) ty σ w' v w':=by
 have hh:=(hO.at_ _ (List.mem_of_getElem? hj)).2;refine J7Y ht hd hx ?_;rw[World.cell?_of_block (w:=w) (hw.block b (Array.getElem?_eq_some_iff.1 hh).1)];simp[World.cell?,hh,hv]
theorem J0K {b i:Nat} {cs:Array Value} {T:TypeId} {fz:Nat×Nat} {vs:List Value} (j:Nat) (hO:Owns n0 w E A) (hj:E[j]?=some (.blk b (.cells cs T fz))) (hv:(cs.toList.drop i).take vs.length=vs) {d:TypeDesc} (ht:P.underlying t=some d) (hd:scB d=false)
  {zz:Option Value} {bb:Nat} (he:ti P t=some (zz,vs.length,bb)) (hx:ev σ x=.pointer (some ⟨b,i,none⟩)) (w':World) (hw:Same w w'):OpV P (.load t x) ty σ w' (.agg vs.toArray) w':=by
 have hh:=(hO.at_ _ (List.mem_of_getElem? hj)).2;refine J7q ht hd he hx fun m hm=>?_;rw[Addr.add_lit,World.cell?_of_block (w:=w) (hw.block b (Array.getElem?_eq_some_iff.1 hh).1)];simp only[World.cell?,hh,Option.isSome_none,Bool.false_eq_true,if_false];have h1:vs[m]?=some vs[m]:=List.getElem?_eq_getElem hm
 conv at h1=>lhs;rw[←hv]
 rw[List.getElem?_take,if_pos hm,List.getElem?_drop] at h1;simpa using h1
theorem oblkSt {b i:Nat} {cs:Array Value} {T:TypeId} (j:Nat) (hO:Owns n0 w E A) (hj:E[j]?=some (.blk b (.cells cs T (0,0)))) {u v:Value} (hu:cs[i]?=some u) (hv:v.oneCell'=true) :
  ∃w',Stp n0 A w E w' (E.set j (.blk b (.cells (cs.setIfInBounds i v) T (0,0))))∧∀{P:Program} {σ:Nat→Value} {t ty:TypeId} {x y:Operand} {d:TypeDesc} {zz:Option Value} {bb:Nat},P.underlying t=some d→scB d=true→ti P t=some (zz,1,bb) →
   ev σ x=.pointer (some ⟨b,i,none⟩)→ev σ y=v→OpV P (.store t x y) ty σ w undef w':=by
 obtain⟨hb,hh⟩:=hO.at_ _ (List.mem_of_getElem? hj);refine⟨w.setCell ⟨b,i,none⟩ v,Stp.turn hO hj ⟨rfl,rfl,rfl⟩ (by simp[World.setCell]) (fun k hk hn=>Below.heap_setCell w ⟨b,i,none⟩ v k (by simpa [Ent.fp] using hn)) (by simp[Ent.fp]) (fun k hk=>.inl hk) ⟨hb,heap_set w b i cs T v hh⟩,fun ht hd he hx hy=>?_⟩;exact J8F ht hd he hx hy hv (u:=u) (by simp[World.cell?,hh,hu]) (by simp[World.frozen?,hh])
theorem J9S {b i:Nat} {cs cs':Array Value} {T:TypeId} (j:Nat) (hO:Owns n0 w E A) (hj:E[j]?=some (.blk b (.cells cs T (0,0)))) {u v:Value} (hu:cs[i]?=some u) (hv:v.oneCell'=true) (h:cs.setIfInBounds i v=cs') :
  ∃w',Stp n0 A w E w' (E.set j (.blk b (.cells cs' T (0,0))))∧∀{P:Program} {σ:Nat→Value} {t ty:TypeId} {x y:Operand} {d:TypeDesc} {zz:Option Value} {bb:Nat},P.underlying t=some d→scB d=true→ti P t=some (zz,1,bb) →
   ev σ x=.pointer (some ⟨b,i,none⟩)→ev σ y=v→OpV P (.store t x y) ty σ w undef w':=by
 subst h;exact oblkSt j hO hj hu hv
theorem Ch.start (A:List Nat) (w:World):Ch A w (bl []++A) w:=Ch.refl A w
def Body (P:Program) (g:FuncId):Prop:=∃fn,P.funcs[g]?=some fn∧fn.body.isNone=false∧(fn.name == "runtime.NumGoroutine")=false
theorem J9a {g:FuncId} (h:Body P g) (args:Array Value) (w:World):(callFunc g args).run P w=.ok (.enter g args) w:=by
 obtain⟨fn,h1,h2,h3⟩:=h
 have h3':¬fn.name = "runtime.NumGoroutine" := by simpa using h3
 cases hb:fn.body with
 | none=>simp[hb] at h2
 | some c=>simp[callFunc,h1,h3',hb]
theorem J00 {g:FuncId} {xs:List Operand} {l:List Value} {ts:Array TypeId} {R1:Value→World→Prop} (hb:Body P g) (hl:xs.map (ev σ)=l) (hc:CallsV P g l.toArray w R1) :
  OpC P (.call { callee:=.value (.func g),args:=xs.toArray,argTypes:=ts }) ty σ w R1:=by
 refine⟨g,l.toArray,?_,hc⟩;subst hl;simp[execOp,opr,resolve,ev,Deferred.ofValue,invoke,J9a hb]
end
open Go Go.RowKit
section
variable {P:Program} {σ:Nat→Value} {w:World} {t t' ty e:TypeId} {x y z:Operand} {A:List Nat} {E:List Ent} {n0:Nat}
theorem lenApp {a b:List UInt8} (h:a.length+b.length≤9223372036854775807):(a++b).length≤mx:=by rw[List.length_append];exact h
end
open Go Go.RowKit
section
variable {P:Program} {σ:Nat→Value} {w:World} {t t' ty e:TypeId} {x y z:Operand} {A:List Nat} {E:List Ent} {n0:Nat}
theorem oapp2 {α:Type} {r:Rp α} {z:Value} {by_:Nat} (ht:P.underlying t=some (.slice e)) (he:ti P e=some (some z,r.sz,by_)) (hzs:z.cells.size=r.sz)
    {p:Option Addr} {n c:Nat} {vs:List Value} {xs:List α} (j:Nat) (hO:Owns n0 w E A) (hj:E[j]?=some (.row e r.sz p n c vs)) (hE:Els r (bl E++A) w vs xs)
    {q:Option Addr} {m d:Nat} {ys:List α} (hs:ISl r (bl E++A) w q d ys) (hm:m=ys.length) (hb0:xs.length+ys.length≤1099511627776) (hby:by_≤128) :
    ∃w' p' c' vs',Stp n0 A w E w' (E.set j (.row e r.sz p' (n+m) c' vs'))∧Els r (bl (E.set j (.row e r.sz p' (n+m) c' vs'))++A) w' vs' (xs++ys) ∧
      (p'=p∨ISl r (bl (E.set j (.row e r.sz p' (n+m) c' vs'))++A) w' p c xs) ∧
      ∀{σ:Nat→Value} {x y:Operand} {ty:TypeId},ev σ x=.slice p n c→ev σ y=.slice q m d→OpV P (.call { callee:=.builtin .append,args:=#[x,y],argTypes:=#[t,t] }) ty σ w (.slice p' (n+m) c') w':=by
  obtain⟨i,hi,hz1,hz2,hz3⟩:=J4h he;have hh:=hO.at_ _ (List.mem_of_getElem? hj);have hn:=hE.n_eq hh
  have hb:(xs.length+ys.length)*by_≤140737488355328:=by
    have h1:(xs.length+ys.length)*by_≤1099511627776*128:=Nat.mul_le_mul hb0 hby
    omega
  have hl:xs.length+ys.length≤140737488355328:=by omega
  subst hm
  cases q with
  | none =>
    have hd:=hs.nil rfl;have hys:ys=[]:=List.eq_nil_of_length_eq_zero (by have:=hs.cap;omega);subst hys;refine⟨w,p,c,vs,?_,?_,.inl rfl,fun hx hy=>.inl ?_⟩
    · have he2:E.set j (.row e r.sz p (n+([]:List α).length) c vs)=E:=by
        have hjl:j<E.length:=(List.getElem?_eq_some_iff.1 hj).1;have hje:E[j]=.row e r.sz p n c vs:=(List.getElem?_eq_some_iff.1 hj).2
        show E.set j (.row e r.sz p n c vs)=E
        rw[←hje];simp
      rw[he2];exact Stp.same hO (Same.refl w)
    · have he2:E.set j (.row e r.sz p (n+([]:List α).length) c vs)=E:=by
        have hjl:j<E.length:=(List.getElem?_eq_some_iff.1 hj).1;have hje:E[j]=.row e r.sz p n c vs:=(List.getElem?_eq_some_iff.1 hj).2
        show E.set j (.row e r.sz p n c vs)=E
        rw[←hje];simp
      rw[he2,List.append_nil];exact hE
    · subst hd;have hle:=(J5y hh).1;simp[execOp,opr,hx,hy,resolve,invoke,builtin,Builtin.append_,run_underlying ht,Go.sizeOf,typeInfo,hi,Builtin.lenOf,Builtin.firstCells,hle]
      cases p<;>simp[storeCells]
  | some a =>
    obtain⟨us,hU,hcells,hone⟩:=hs.cells;obtain⟨v',w',hr,hown,hg,_⟩:=run_append_own (P:=P) w n0 t t e i z r.sz by_ ht hi hz1 hz2 hz3 hzs r.pos (.slice p n c) n vs hh a ys.length d us hU.len hcells hone
      (by rw[hn];simp only[maxLen];omega) (by rw[hn];exact hb) hO.le
    obtain⟨p',c',rfl⟩:∃p' c',v'=.slice p' (n+ys.length) c':=by
      rcases hown.2 with ⟨rfl,h0⟩ | ⟨g,cap,cur,rfl,_⟩
      · exact⟨none,0,by rw[h0]⟩
      · exact⟨_,_,rfl⟩
    have hmv:p'=p∨((∀b,b<w.heap.size→w'.heap[b]?=w.heap[b]?)∧∀b,p'=some b→w.heap.size≤b.block):=by
      rcases hh.2 with ⟨hv,h0⟩ | ⟨g,cap,cur,hv,hbg,hgg,hnc,hcm,hcs,htake⟩
      · cases hv
        obtain⟨v2,w2,hr2,hown2,_,_⟩:=run_append_own (P:=P) w w.heap.size t t e i z r.sz by_ ht hi hz1 hz2 hz3 hzs r.pos (.slice none 0 0) 0 [] (World.ownsRow_nil w _ e r.sz) a ys.length d us hU.len hcells hone
          (by simp only[maxLen];omega) (by refine Nat.le_trans (Nat.mul_le_mul_right _ ?_) hb;omega) (Nat.le_refl _)
        rw[hr] at hr2
        cases hr2
        rcases hown2.2 with ⟨hv2,_⟩ | ⟨g2,_,_,hv2,hb2,_⟩
        · have h:=(Value.slice.inj hv2).1;exact .inl h
        · have h:=(Value.slice.inj hv2).1;rw[h];exact .inr ⟨fun b hb=>hg.block b hb (by simp[Value.ownBlock]),fun b hb=>by cases hb;exact hb2⟩
      · cases hv
        by_cases hroom:n+ys.length≤c
        · have hfit:n*i.size+us.length≤cur.size:=by rw[hU.len,hcs,hz2,←Nat.add_mul];exact Nat.mul_le_mul_right _ hroom
          have hr2:=run_append_room (P:=P) w t t e i ht hi g n c cur hgg a ys.length d us (by rw[hz2];exact hU.len) hcells hone hroom hfit;rw[hr] at hr2
          cases hr2
          exact .inl rfl
        · have holds:∀j u,vs[j]?=some u→w.cell? ((⟨g,0,none⟩:Addr).add j)=some u:=World.ownsRow.cells hh (g:=g) rfl;have hr2:=run_append_grow (P:=P) w t t e i z ht hi hz1 ⟨g,0,none⟩ n c vs (by rw[hz2];exact hh.1) holds a ys.length d us (by rw[hz2];exact hU.len) hcells (by omega) (by omega) (growslice_fits (by omega) (by rw[hz3,hn];exact hb));rw[hr] at hr2
          cases hr2
          exact .inr ⟨fun b hb=>Below.heap_alloc w.drew _ b hb,fun b hb=>by cases hb;exact Nat.le_refl _⟩
    have hst:Stp n0 A w E w' (E.set j (.row e r.sz p' (n+ys.length) c' (vs++us))):=by
      refine Stp.grown j hO hj hg hown fun b hpb=>?_
      rcases hmv with h | h
      · exact .inl h
      · exact .inr (h.2 b hpb)
    have hold:p'=p∨ISl r (bl (E.set j (.row e r.sz p' (n+ys.length) c' (vs++us)))++A) w' p c xs:=by
      rcases hmv with h | ⟨h1,h2⟩
      · exact .inl h
      · obtain⟨_,_,hI,_⟩:=freeze j hO hj hE;refine .inr (hI.ch ⟨hst.ch.size,fun b hb hnb=>⟨h1 b hb,fun hx=>hnb ?_⟩⟩)
        rcases List.mem_append.1 hx with hx | hx
        · obtain⟨e1,he1,hbe⟩:=J8H.1 hx;obtain⟨m,hm,hme⟩:=List.getElem_of_mem he1;rw[List.getElem_set] at hme
          split at hme
          · subst hme
            cases p' with
            | none=>simp[Ent.fp] at hbe
            | some a' =>
              simp only[Ent.fp,List.mem_singleton] at hbe;have:=h2 a' rfl;omega
          · rename_i hne;refine List.mem_append_left _ (J8H.2 ⟨e1,?_,hbe⟩);rw[List.length_set] at hm;rw[←hme];exact List.mem_eraseIdx_iff_getElem.2 ⟨m,hm,fun h=>hne h.symm,rfl⟩
        · exact List.mem_append_right _ hx
    refine⟨w',p',c',vs++us,hst,(hE.append hU (by simp only[mx];omega)).ch hst.ch,hold,fun {σ x y ty} hx hy=>.inl ?_⟩;have hr':(Builtin.append_ #[t,t] ty #[.slice p n c,.slice (some a) ys.length d]).run P w=.ok (.slice p' (n+ys.length) c') w':=hr;simp[execOp,opr,hx,hy,resolve,invoke,builtin,hr']
def AL {α:Type} (r:Rp α) (B:List Nat) (w:World) (pn:Option Addr) (xs:List α) (p:Option Addr) (c:Nat) (ys:List α):Prop:=
 ISl r B w p c ys∨(p=pn∧(∃zs,xs=ys++zs)∧ys.length≤c∧(p=none→c=0))
theorem AL.ch {α:Type} {r:Rp α} {B B':List Nat} {w w':World} {pn p:Option Addr} {c:Nat} {xs ys:List α} (h:AL r B w pn xs p c ys) (hc:Ch B w B' w'):AL r B' w' pn xs p c ys:=
 h.imp (fun h=>h.ch hc) id
theorem ISl.take {α:Type} {r:Rp α} {B:List Nat} {w:World} {p:Option Addr} {c:Nat} {xs:List α} (h:ISl r B w p c xs) (k:Nat):ISl r B w p c (xs.take k):=by
 refine⟨Nat.le_trans (by simp;omega) h.cap,Nat.le_trans (by simp;omega) h.bd,h.nil,fun a ha j hj=>?_⟩;simp only[List.length_take] at hj;have:=h.at_ a ha j (by omega);simpa using this
theorem AL.app {α:Type} {r:Rp α} {B B':List Nat} {w w':World} {pn pn' p:Option Addr} {c cn:Nat} {xs ys us:List α} (h:AL r B w pn xs p c ys) (hc:Ch B w B' w') (hold:pn'=pn∨ISl r B' w' pn cn xs):AL r B' w' pn' (xs++us) p c ys:=by
 rcases h with h | ⟨h1,⟨zs,h2⟩,h4,h5⟩
 ·exact .inl (h.ch hc)
 ·rcases hold with h3 | h3
  ·exact .inr ⟨h1.trans h3.symm,⟨zs++us,by rw[h2,List.append_assoc]⟩,h4,h5⟩
  ·left;have:=h3.take ys.length;rw[h2,List.take_left'] at this
   ·rw[h1] at h5 ⊢;exact⟨h4,this.bd,h5,this.at_⟩
   ·rfl
theorem AL.start {α:Type} {r:Rp α} {p:Option Addr} {m c:Nat} {vs:List Value} {xs:List α} (j:Nat) (hO:Owns n0 w E A) (hj:E[j]?=some (.row e r.sz p m c vs)) (hE:Els r (bl E++A) w vs xs) (k:Nat):AL r (bl E++A) w p xs p c (xs.take k):=by
 have hh:=hO.at_ _ (List.mem_of_getElem? hj);have hn:=hE.n_eq hh;have hle:=(J5y hh).1;refine .inr ⟨rfl,⟨xs.drop k,(List.take_append_drop k xs).symm⟩,by simp;omega,fun hp=>?_⟩;subst hp
 rcases hh.2 with ⟨hv,_⟩ | ⟨g,cap,cur,hv,_⟩
 ·cases hv;rfl
 ·cases hv
theorem takeLen {α:Type} {xs:List α} {h:Int} (h0:0≤h) (h1:h≤xs.length):h.toNat=(xs.take h.toNat).length:=by simp;omega
theorem J7t {p:Option Addr} {m c:Nat} {h:Int} {kk:IntKind} {zz:Option Value} {sz bb:Nat} (ht:P.underlying t=some (.slice e)) (he:ti P e=some (zz,sz,bb)) (hx:ev σ x=.slice p m c) (hy:ev σ y=.int kk h) (h0:0≤h) (h1:h≤c) (w:World) :
  OpV P (.slice t x none (some y) none) ty σ w (.slice p h.toNat c) w:=.inl (by
 have hs:=fun w=>run_sizeOf he w
 have h2:h≤(c:Int):=h1
 have hp:Option.map (fun a:Addr=>a.add 0) p=p:=by cases p<;>simp[Addr.add_zero']
 by_cases hc:c=0
 ·subst hc
  obtain rfl:h=0:=by omega
  simp[execOp,opr,hx,hy,Instr.sliceAt,Instr.slice,Instr.sliceBounds,Instr.sliceBound,run_underlying ht,asIntOf,hs]
 ·simp[execOp,opr,hx,hy,Instr.sliceAt,Instr.slice,Instr.sliceBounds,Instr.sliceBound,run_underlying ht,asIntOf,h0,h2,hs,hc,hp])
theorem Els.lec {α:Type} {r:Rp α} {p:Option Addr} {m c:Nat} {vs:List Value} {xs:List α} (j:Nat) (hO:Owns n0 w E A) (hj:E[j]?=some (.row e r.sz p m c vs)) (hE:Els r (bl E++A) w vs xs) {h:Int} (h1:h≤xs.length):h≤c:=by
 have hh:=hO.at_ _ (List.mem_of_getElem? hj);have hn:=hE.n_eq hh;have hle:=(J5y hh).1;omega
theorem AL.some_ {α:Type} {r:Rp α} {B:List Nat} {pn p:Option Addr} {c:Nat} {xs ys:List α} (h:AL r B w pn xs p c ys) {i:Int} (h0:0≤i) (h1:i<ys.length):p.isSome=true:=by
 rcases h with h | ⟨_,_,h4,h5⟩
 ·exact h.some_ h0 h1
 ·cases p with
  | some a=>rfl
  | none=>have:=h5 rfl;omega
theorem JeK {α:Type} [Inhabited α] {ys zs:List α} {i:Int} (h0:0≤i) (h1:i<ys.length):ix (ys++zs) i=ix ys i:=by
 rw[ix_eq (by simp;omega),ix_eq (by omega),List.getElem_append_left]
theorem AL.int {k:IntKind} {p:Option Addr} {m c cc:Nat} {vs:List Value} {xs ys:List Int} {pa:Option Addr} (j:Nat) (hO:Owns n0 w E A) (hj:E[j]?=some (.row e 1 p m c vs)) (hE:Els (Rp.int k) (bl E++A) w vs xs) (h:AL (Rp.int k) (bl E++A) w p xs pa cc ys)
  {i:Int} (h0:0≤i) (h1:i<ys.length) {d:TypeDesc} (ht:P.underlying t=some d) (hd:scB d=true) (hx:ev σ x=.pointer (padd pa (i.toNat*1))) (w':World) (hw:Same w w'):OpV P (.load t x) ty σ w' (.int k (ix ys i)) w':=by
 rcases h with h | ⟨h2,⟨zs,h3⟩,_,_⟩
 ·exact ldInt h h0 h1 ht hd hx w' hw
 ·subst h2;have:=oldInt (i:=i) j hO hj hE h0 (by rw[h3];simp;omega) ht hd hx w' hw (ty:=ty)
  rwa [h3,JeK h0 h1] at this
end
section
variable {P:Program} {f n:Nat} {k:List Item} {σ:Nat→Value} {w w':World} {R:Value→World→Prop} {L l:List Oper} {s0 s:List (Nat×Md)} {i:Nat}
variable {t t' ty e:TypeId} {x y z:Operand} {A:List Nat} {E:List Ent} {n0:Nat}
theorem J3R {g:FuncId} {xs:List Operand} {vs caps:List Value} {ts:Array TypeId} {R1:Value→World→Prop} (hb:Body P g) (hx:ev σ x=.func (.func g) #[] caps.toArray) (hl:xs.map (ev σ)=vs) (hc:CallsV P g (vs++caps).toArray w R1) :
  OpC P (.call { callee:=.value x,args:=xs.toArray,argTypes:=ts }) ty σ w R1:=by
 refine⟨g,(vs++caps).toArray,?_,hc⟩;subst hl;simp[execOp,opr,resolve,hx,Deferred.ofValue,invoke,J9a hb]
theorem GoR.inl {g m:Nat} {fn:Func} {c:Code} {xs:List Operand} {vs caps:List Value} {ts:Array TypeId} {d:Option Nat} {pos:String} {aft:Array Edge} {gg:Option (Nat×Bool)}
  (hx:ev σ x=.func (.func g) #[] caps.toArray) (hl:xs.map (ev σ)=vs) (hb:Body P g) (hf:P.funcs[g]?=some fn) (hbody:fn.body=some c) (hn:fn.ntmps=m) (hle:Nat.ble (vs++caps).length m=true) (hg:gd L σ gg=true) (hd:dOk n d=true)
  (h:∀R1:Value→World→Prop,(∀v w',GoR P f n L l k (putS σ d v) w' R→R1 v w')→Go1 P g m [.code c] (initσ (vs++caps)) w R1) :
  GoR P f n L (⟨d,.call { callee:=.value x,args:=xs.toArray,argTypes:=ts },ty,pos,aft,gg⟩::l) k σ w R:=
 GoR.call (J3R hb hx hl (CallsV.of hf hbody hn hle (h _ fun _ _ h=>h))) hg hd fun _ _ h=>h
theorem GoQ.inl {g m:Nat} {fn:Func} {c:Code} {xs:List Operand} {vs caps:List Value} {ts:Array TypeId} {d:Option Nat} {pos:String} {aft:Array Edge} {gg:Option (Nat×Bool)}
  (hi:nth L i=some ⟨d,.call { callee:=.value x,args:=xs.toArray,argTypes:=ts },ty,pos,aft,gg⟩)
  (hx:ev σ x=.func (.func g) #[] caps.toArray) (hl:xs.map (ev σ)=vs) (hb:Body P g) (hf:P.funcs[g]?=some fn) (hbody:fn.body=some c) (hn:fn.ntmps=m) (hle:Nat.ble (vs++caps).length m=true) (hg:gd L σ gg=true) (hd:dOk n d=true)
  (h:∀R1:Value→World→Prop,(∀v w',GoQ P f n L s0 k R s (putS σ d v) w'→R1 v w')→Go1 P g m [.code c] (initσ (vs++caps)) w R1) :
  GoQ P f n L s0 k R ((i,.last)::s) σ w:=
 GoQ.callLast hi (J3R hb hx hl (CallsV.of hf hbody hn hle (h _ fun _ _ h=>h))) hg hd fun _ _ h=>h
theorem Go1.ret0V {fn:Func} (hf:P.funcs[f]?=some fn) (hr:fn.results=#[]) (h:R (.tuple #[]) w):Go1 P f n (.code .ret::k) σ w R:=Go1.ret0 hf hr h
theorem Go1.fin0V {fn:Func} (hf:P.funcs[f]?=some fn) (hr:fn.results=#[]) (h:R (.tuple #[]) w):Go1 P f n [] σ w R:=Go1.fin0 hf hr h
theorem Go1.ret1V {fn:Func} {r:Nat} {v:Value} (hf:P.funcs[f]?=some fn) (hr:fn.results=#[.tmp r]) (hv:σ r=v) (h:R v w):Go1 P f n (.code .ret::k) σ w R:=Go1.ret1 hf hr (hv▸h)
theorem Go1.ret2V {fn:Func} {r q:Nat} {v u:Value} (hf:P.funcs[f]?=some fn) (hr:fn.results=#[.tmp r,.tmp q]) (hv:σ r=v) (hu:σ q=u) (h:R (.tuple #[v,u]) w):Go1 P f n (.code .ret::k) σ w R:=Go1.ret2 hf hr (hv▸hu▸h)
theorem natbd {k m:Nat} (h:(k:Int)<(m:Int)) (hb:m≤mx):I64 ((k:Int)+1):=by unfold mx at hb;exact⟨by omega,by omega⟩
theorem J52 {g:FuncId} {xs:List Operand} {vs:List Value} (hl:xs.map (ev σ)=vs) (w:World):OpV P (.makeFunc (.func g) #[] xs.toArray) ty σ w (.func (.func g) #[] vs.toArray) w:=.inl (by
 subst hl
 simp[execOp,opr,Instr.makeFunc])
theorem J1W {zv:Value} {b s:Nat} (he:ti P t=some (some zv,s,b)) (w:World):(zeroValue t).run P w=.ok zv w:=by
 obtain⟨i,hi,hz1,hz2,hz3⟩:=J4h he;simp[zeroValue,typeInfo,hi,hz1]
theorem oalloc {zv:Value} {cs:Array Value} {b s:Nat} (he:ti P t=some (some zv,s,b)) (hO:Owns n0 w E A) (hc:zv.cells=cs) :
  ∃w' B,Stp n0 A w E w' (.blk B (.cells cs t (0,0))::E)∧Same w w'∧∀{σ:Nat→Value} {ty:TypeId},OpV P (.alloc t) ty σ w (.pointer (some ⟨B,0,none⟩)) w':=by
 have hs:Same w (w.alloc (.cells cs t (0,0))):=⟨rfl,rfl,rfl,by simp,fun k hk=>Below.heap_alloc _ _ _ hk⟩;refine⟨w.alloc (.cells cs t (0,0)),w.heap.size,Stp.new hO hs (by simp[Ent.fp]) (fun b hb=>by simp[Ent.fp] at hb;omega) ⟨hO.le,heap_alloc_new w _⟩,hs,.inl ?_⟩;subst hc;simp[execOp,opr,Instr.alloc,J1W he,newVar,newRow]
end
open Go Go.RowKit
def Fl {α:Type} (r:Rp α):Prop:=∀{A A':List Nat} {w w':World} {cs:Nat→Option Value} {x:α},r.R A w cs x→r.R A' w' cs x
theorem Fl.int (k:IntKind):Fl (Rp.int k):=fun h=>h
theorem Fl.bool:Fl Rp.bool:=fun h=>h
theorem Fl.str:Fl Rp.str:=fun h=>h
def pb:Option Addr→List Nat
 | some a=>[a.block]
 | none=>[]
abbrev Hd:=Nat→Option Addr×Nat
def hcell {α:Type} (hs:Hd) (xss:List (List α)) (k:Nat):Value:=.slice (hs k).1 (ix xss (k:Int)).length (hs k).2
def hcells {α:Type} (hs:Hd) (xss:List (List α)):List Value:=(List.range xss.length).map (hcell hs xss)
def t2fp (p:Option Addr) (hs:Hd) (n:Nat):List Nat:=pb p++(List.range n).flatMap fun k=>pb (hs k).1
structure Inn {α:Type} (r:Rp α) (e':TypeId) (n0:Nat) (w:World) (h:Option Addr×Nat) (xs:List α):Prop where
 ex:∃vs,w.ownsRow n0 e' r.sz (.slice h.1 xs.length h.2) xs.length vs∧Els r [] w vs xs
structure T2 {α:Type} (r:Rp α) (e e':TypeId) (p:Option Addr) (n c:Nat) (hs:Hd) (xss:List (List α)) (n0:Nat) (w:World):Prop where
 out:w.ownsRow n0 e 1 (.slice p n c) n (hcells hs xss)
 len:n=xss.length
 bd:xss.length≤mx
 inn:∀k:Nat,k<xss.length→Inn r e' n0 w (hs k) (ix xss (k:Int))
theorem Jbt {n0:Nat} {w:World} {e:TypeId} {size:Nat} {p:Option Addr} {n c:Nat} {vs:List Value} (h:w.ownsRow n0 e size (.slice p n c) n vs):∀b∈pb p,n0≤b∧b<w.heap.size:=by
 intro b hb
 cases p with
 | none=>simp[pb] at hb
 | some a=>simp only[pb,List.mem_singleton] at hb;subst hb;exact World.ownsRow.lt h a.block rfl
theorem J6u {n0:Nat} {w w':World} {e:TypeId} {size:Nat} {p:Option Addr} {n c:Nat} {vs:List Value} (h:w.ownsRow n0 e size (.slice p n c) n vs) (hk:∀b∈pb p,w'.heap[b]?=w.heap[b]?):w'.ownsRow n0 e size (.slice p n c) n vs:=by
 refine⟨h.1,?_⟩
 rcases h.2 with hn | ⟨g,cap,cur,hv,hb,hg,rest⟩
 ·exact .inl hn
 ·cases hv
  exact .inr ⟨g,c,cur,rfl,hb,by rw[hk g (by simp[pb])];exact hg,rest⟩
theorem J8w {n0 n1:Nat} {w:World} {e:TypeId} {size:Nat} {p:Option Addr} {n c:Nat} {vs:List Value} (hn:n1≤n0) (h:w.ownsRow n0 e size (.slice p n c) n vs):w.ownsRow n1 e size (.slice p n c) n vs:=by
 refine⟨h.1,?_⟩
 rcases h.2 with hn | ⟨g,cap,cur,hv,hb,rest⟩
 ·exact .inl hn
 ·exact .inr ⟨g,cap,cur,hv,by omega,rest⟩
theorem Els.fl {α:Type} {r:Rp α} (hf:Fl r) {A A':List Nat} {w w':World} {vs:List Value} {xs:List α} (h:Els r A w vs xs):Els r A' w' vs xs:=⟨h.len,h.bd,fun k hk=>hf (h.at_ k hk)⟩
theorem J0I {p:Option Addr} {hs:Hd} {n b:Nat}:b∈t2fp p hs n↔b∈pb p∨∃k,k<n∧b∈pb (hs k).1:=by simp[t2fp]
theorem t2fp0 (p:Option Addr) (n:Nat):t2fp p (fun _=>(none,0)) n=pb p:=by
 show pb p++List.flatMap (fun _=>pb none) (List.range n)=pb p
 have:List.flatMap (fun _:Nat=>pb none) (List.range n)=[]:=List.flatMap_eq_nil_iff.2 fun _ _=>rfl;rw[this,List.append_nil]
theorem Inn.keep {α:Type} {r:Rp α} (hf:Fl r) {e':TypeId} {n0:Nat} {w w':World} {h:Option Addr×Nat} {xs:List α} (hi:Inn r e' n0 w h xs) (hk:∀b∈pb h.1,w'.heap[b]?=w.heap[b]?):Inn r e' n0 w' h xs:=by
 obtain⟨vs,h1,h2⟩:=hi.ex;exact⟨vs,J6u h1 hk,h2.fl hf⟩
def t2 {α:Type} {r:Rp α} (hf:Fl r) (e e':TypeId) (p:Option Addr) (n c:Nat) (hs:Hd) (xss:List (List α)):Ent:=.any {
 F:=t2fp p hs xss.length
 H:=T2 r e e' p n c hs xss
 lt:=fun h b hb=>by
  rcases J0I.1 hb with hb | ⟨k,hk,hb⟩
  ·exact Jbt h.out b hb
  ·obtain⟨vs,h1,_⟩:=(h.inn k hk).ex
   exact Jbt h1 b hb
 keep:=fun h hk=>⟨J6u h.out fun b hb=>hk b (J0I.2 (.inl hb)),h.len,h.bd,fun k hkl=>(h.inn k hkl).keep hf fun b hb=>hk b (J0I.2 (.inr ⟨k,hkl,hb⟩))⟩
 base:=fun hn h=>⟨J8w hn h.out,h.len,h.bd,fun k hk=>by obtain⟨vs,h1,h2⟩:=(h.inn k hk).ex;exact⟨vs,J8w hn h1,h2⟩⟩ }
section
variable {P:Program} {σ:Nat→Value} {w:World} {t t' ty e e':TypeId} {x y z:Operand} {A:List Nat} {E:List Ent} {n0:Nat}
variable {α:Type} {r:Rp α} {hf:Fl r} {p:Option Addr} {n c:Nat} {hs:Hd} {xss:List (List α)}
theorem t2at (j:Nat) (hO:Owns n0 w E A) (hj:E[j]?=some (t2 hf e e' p n c hs xss)):T2 r e e' p n c hs xss n0 w:=hO.at_ _ (List.mem_of_getElem? hj)
theorem t2neq (j:Nat) (hO:Owns n0 w E A) (hj:E[j]?=some (t2 hf e e' p n c hs xss)):n=xss.length:=(t2at j hO hj).len
theorem t2some (j:Nat) (hO:Owns n0 w E A) (hj:E[j]?=some (t2 hf e e' p n c hs xss)) {i:Int} (h0:0≤i) (h1:i<(xss.length:Int)):p.isSome=true:=by
 have h:=t2at j hO hj
 rcases h.out.2 with ⟨hv,hn⟩ | ⟨g,cap,cur,hv,_⟩
 ·have:=h.len;omega
 ·cases hv;rfl
theorem J8D {n0:Nat} {w:World} {e:TypeId} {size:Nat} {p:Option Addr} {n c:Nat} {vs:List Value} (h:w.ownsRow n0 e size (.slice p n c) n vs) (hn:0<n):p.isSome=true:=by
 rcases h.2 with ⟨hv,hn⟩ | ⟨g,cap,cur,hv,_⟩
 ·omega
 ·cases hv;rfl
theorem t2isome (j:Nat) (hO:Owns n0 w E A) (hj:E[j]?=some (t2 hf e e' p n c hs xss)) {i k:Int} (h0:0≤i) (h1:i<(xss.length:Int)) (k0:0≤k) (k1:k<((ix xss i).length:Int)):(hs i.toNat).1.isSome=true:=by
 obtain⟨m,rfl⟩:=Int.eq_ofNat_of_zero_le h0;obtain⟨vs,h2,_⟩:=((t2at j hO hj).inn m (by omega)).ex;exact J8D h2 (by omega)
@[simp] theorem Je9 (hs:Hd) (xss:List (List α)):(hcells hs xss).length=xss.length:=by simp[hcells]
theorem J2O {hs:Hd} {xss:List (List α)} {k:Nat} (h:k<xss.length):(hcells hs xss)[k]'(by simpa using h)=hcell hs xss k:=by simp[hcells]
theorem t2head (j:Nat) (hO:Owns n0 w E A) (hj:E[j]?=some (t2 hf e e' p n c hs xss)) {i:Int} (h0:0≤i) (h1:i<(xss.length:Int)) {d:TypeDesc} (ht:P.underlying t=some d) (hd:scB d=true)
  (hx:ev σ x=.pointer (padd p (i.toNat*1))) (w':World) (hw:Same w w'):OpV P (.load t x) ty σ w' (.slice (hs i.toNat).1 (ix xss i).length (hs i.toNat).2) w':=by
 obtain⟨m,rfl⟩:=Int.eq_ofNat_of_zero_le h0;have h:=t2at j hO hj
 have hm:m<(hcells hs xss).length:=by simp;omega
 obtain⟨g,cur,rfl,hg,_,_,_,_,_,hc⟩:=J2o h.out hm;simp only[padd,Option.map_some,Addr.add_lit,Nat.zero_add,Int.toNat_natCast,Nat.mul_one] at hx ⊢;refine J7Y ht hd hx ?_;rw[World.cell?_of_block (w:=w) (hw.block g (Array.getElem?_eq_some_iff.1 hg).1),hc,J2O (by omega)]
 rfl
theorem t2ld (j:Nat) (hO:Owns n0 w E A) (hj:E[j]?=some (t2 hf e e' p n c hs xss)) {i k:Int} (h0:0≤i) (h1:i<(xss.length:Int)) [Inhabited α] (k0:0≤k) (k1:k<((ix xss i).length:Int))
  {v:Value} (hr:∀cs,r.R [] w cs (ix (ix xss i) k)→cs 0=some v) {d:TypeDesc} (ht:P.underlying t=some d) (hd:scB d=true)
  (hx:ev σ x=.pointer (padd (hs i.toNat).1 (k.toNat*r.sz))) (w':World) (hw:Same w w'):OpV P (.load t x) ty σ w' v w':=by
 obtain⟨m,rfl⟩:=Int.eq_ofNat_of_zero_le h0;obtain⟨vs,h2,h3⟩:=((t2at j hO hj).inn m (by omega)).ex;obtain⟨hl,hR⟩:=h3.val k0 k1;have hv:=hr _ hR;obtain⟨g,cur,hp,hg,_,_,_,_,_,hc⟩:=J2o h2 hl;simp only[Nat.add_zero,List.getElem?_eq_getElem hl,Option.some.injEq] at hv;simp only[Int.toNat_natCast] at hx;rw[hp] at hx;simp only[padd,Option.map_some,Addr.add_lit,Nat.zero_add] at hx;refine J7Y ht hd hx ?_;rw[World.cell?_of_block (w:=w) (hw.block g (Array.getElem?_eq_some_iff.1 hg).1),hc,hv]
theorem t2Int {k':IntKind} {hf:Fl (Rp.int k')} {xss:List (List Int)} (j:Nat) (hO:Owns n0 w E A) (hj:E[j]?=some (t2 hf e e' p n c hs xss)) {i k:Int} (h0:0≤i) (h1:i<(xss.length:Int)) (k0:0≤k) (k1:k<((ix xss i).length:Int))
  {d:TypeDesc} (ht:P.underlying t=some d) (hd:scB d=true) (hx:ev σ x=.pointer (padd (hs i.toNat).1 (k.toNat*1))) (w':World) (hw:Same w w'):OpV P (.load t x) ty σ w' (.int k' (ix (ix xss i) k)) w':=
 t2ld (r:=Rp.int k') j hO hj h0 h1 k0 k1 (fun _ h=>h) ht hd hx w' hw
theorem Jdz (hs:Hd) (xss:List (List α)) {m:Nat} (hm:m<xss.length) {ys:List α} (hl:ys.length=(ix xss (m:Int)).length):hcells hs (st xss (m:Int) ys)=hcells hs xss:=by
 unfold hcells;rw[J02];refine List.map_congr_left fun k hk=>?_;simp only[List.mem_range] at hk;unfold hcell;rw[ix_st _ (by omega) (by omega) (by omega)]
 split
 ·rename_i h;rw[h,hl]
 ·rfl
theorem JaH (j:Nat) (hO:Owns n0 w E A) (hj:E[j]?=some (t2 hf e e' p n c hs xss)):(t2fp p hs xss.length).Nodup:=by
 have hb:(t2fp p hs xss.length).Sublist (bl E):=by
  have hmem:=List.mem_of_getElem? hj;have:[t2 hf e e' p n c hs xss].Sublist E:=List.singleton_sublist.2 hmem;have:=JcB this;simpa [bl,t2,Ent.fp] using this
 exact hb.nodup hO.nd
theorem t2disj {hs:Hd} {p:Option Addr} {n:Nat} (h:(t2fp p hs n).Nodup) {k m:Nat} (hk:k<n) (hm:m<n) (hne:k≠m):∀b∈pb (hs k).1,b∉pb (hs m).1:=by
 intro b hb hb2;have h2:=(List.nodup_append.1 h).2.1;have h3:=(List.pairwise_flatMap.1 h2).2;rw[List.pairwise_iff_getElem] at h3
 rcases Nat.lt_or_ge k m with hlt | hge
 ·have:=h3 k m (by simpa using hk) (by simpa using hm) hlt;simp only[List.getElem_range] at this;exact this b hb b hb2 rfl
 ·have:=h3 m k (by simpa using hm) (by simpa using hk) (by omega);simp only[List.getElem_range] at this;exact this b hb2 b hb rfl
theorem t2outd {hs:Hd} {p:Option Addr} {n:Nat} (h:(t2fp p hs n).Nodup) {m:Nat} (hm:m<n):∀b∈pb (hs m).1,b∉pb p:=by
 intro b hb hp;exact(List.nodup_append.1 h).2.2 b hp b (List.mem_flatMap.2 ⟨m,by simpa using hm,hb⟩) rfl
theorem t2st {α:Type} [Inhabited α] {r:Rp α} {hf:Fl r} {xss:List (List α)} (r1:r.sz=1) (j:Nat) (hO:Owns n0 w E A) (hj:E[j]?=some (t2 hf e e' p n c hs xss)) {i k:Int} (h0:0≤i) (h1:i<(xss.length:Int)) (k0:0≤k) (k1:k<((ix xss i).length:Int))
  {v:Value} {u:α} (hv:v.oneCell'=true) (hR:r.R [] w (fun _=>some v) u) :
  ∃w',Stp n0 A w E w' (E.set j (t2 hf e e' p n c hs (st xss i (st (ix xss i) k u))))∧∀{P:Program} {σ:Nat→Value} {t ty:TypeId} {x y:Operand} {d:TypeDesc} {zz:Option Value} {b:Nat},P.underlying t=some d→scB d=true→ti P t=some (zz,1,b) →
   ev σ x=.pointer (padd (hs i.toNat).1 (k.toNat*1))→ev σ y=v→OpV P (.store t x y) ty σ w undef w':=by
 obtain⟨m,rfl⟩:=Int.eq_ofNat_of_zero_le h0;simp only[Int.toNat_natCast] at *;have h:=t2at j hO hj;have hnd:=JaH j hO hj
 have hml:m<xss.length:=by omega
 obtain⟨vs,h2,h3⟩:=(h.inn m hml).ex;obtain⟨hl,hRv⟩:=h3.val k0 k1;rw[r1,Nat.mul_one] at hl;obtain⟨g,cur,hp,hg,hb,e1,e2,e3,e4,hc⟩:=J2o h2 hl
 have hfz:w.frozen? ⟨g,k.toNat,none⟩=false:=by simp[World.frozen?,hg]
 have hgm:g∈pb (hs m).1:=by rw[hp];simp[pb]
 have hblk:∀b,b≠g→(w.setCell ⟨g,k.toNat,none⟩ v).heap[b]?=w.heap[b]?:=fun b hb=>Below.heap_setCell w ⟨g,k.toNat,none⟩ v b (by simpa using hb);refine⟨w.setCell ⟨g,k.toNat,none⟩ v,Stp.turn hO hj ⟨rfl,rfl,rfl⟩ (by simp[World.setCell]) (fun b _ hn=>hblk b fun hbg=>hn ?_) ?_ (fun b hb=>.inl ?_) ?_,fun ht hd he hx hy=>?_⟩
 ·subst hbg;exact J0I.2 (.inr ⟨m,hml,hgm⟩)
 ·show (t2fp p hs (st xss (m:Int) _).length).Nodup
  rw[J02];exact hnd
 ·show b∈t2fp p hs xss.length
  have:b∈t2fp p hs (st xss (m:Int) (st (ix xss (m:Int)) k u)).length:=hb
  rwa [J02] at this
 ·refine⟨?_,by rw[J02];exact h.len,by rw[J02];exact h.bd,fun q hq=>?_⟩
  ·rw[Jdz hs xss hml (by simp)];exact J6u h.out fun b hb=>hblk b fun hbg=>t2outd hnd hml g hgm (hbg▸hb)
  ·rw[J02] at hq;rw[ix_st _ (by omega) (by omega) (by omega)]
   split
   ·rename_i hqm
    obtain rfl:q=m:=by omega
    refine⟨vs.set k.toNat v,⟨by simpa [r1] using h2.1,.inr ⟨g,(hs q).2,cur.setIfInBounds k.toNat v,by rw[hp],hb,heap_set w g k.toNat cur e' v hg,by simpa using e1,e2,by simpa using e3,?_⟩⟩,(h3.set r1 k0 k1 hR).fl hf⟩;rw[Array.toList_setIfInBounds,List.take_set,←e4,J02]
   ·exact(h.inn q hq).keep hf fun b hb=>hblk b fun hbg=>by
     rw[hbg] at hb;exact t2disj hnd hq hml (by omega) g hb hgm
 ·rw[hp] at hx;simp only[padd,Option.map_some,Addr.add_lit,Nat.zero_add,Nat.mul_one] at hx;exact J8F ht hd he hx hy hv hc hfz
theorem Jaq {β:Type} {l:List β} {i:Nat} {a:β} (h:l[i]?=some a):l.Perm (a::l.eraseIdx i):=by
 obtain⟨hl,he⟩:=List.getElem?_eq_some_iff.1 h
 have e1:l=l.take i++a::l.drop (i+1):=by rw[←he];simp
 rw[List.eraseIdx_eq_take_drop_succ]
 conv=>lhs;rw[e1]
 exact List.perm_middle
theorem Owns.front {n0:Nat} {A:List Nat} {w:World} {E:List Ent} {e:Ent} (i:Nat) (h:Owns n0 w E A) (hi:E[i]?=some e):Owns n0 w (e::E.eraseIdx i) A:=by
 exact h.perm (Jaq hi)
theorem frontFr (w:World) {E:List Ent} {e:Ent} (i:Nat) (hi:E[i]?=some e):Fr (bl E) w (bl (e::E.eraseIdx i)) w:=by
 exact Fr.perm w (Jaq hi)
theorem Stp.two {n0:Nat} {A:List Nat} {w w':World} {R:List Ent} {e1 e2 e':Ent} (h:Owns n0 w (e1::e2::R) A)
  (hos:w'.os=w.os∧w'.tape=w.tape∧w'.output=w.output) (hsz:w.heap.size≤w'.heap.size)
  (hk:∀b,b<w.heap.size→b∉e1.fp→b∉e2.fp→w'.heap[b]?=w.heap[b]?) (hnd:e'.fp.Nodup) (hfp:∀b∈e'.fp,b∈e1.fp∨b∈e2.fp∨w.heap.size≤b) (hh:e'.holds n0 w'):Stp n0 A w (e1::e2::R) w' (e'::R):=by
 have hb1:bl (e1::e2::R)=e1.fp++(e2.fp++bl R):=by simp[bl]
 have hb2:bl (e'::R)=e'.fp++bl R:=by simp[bl]
 have hn:=h.nd;have hlt:=h.lt;rw[hb1] at hn hlt;obtain⟨n1,n2,n3⟩:=List.nodup_append.1 hn;obtain⟨n4,n5,n6⟩:=List.nodup_append.1 n2;have hR:∀b∈bl R,b<w.heap.size∧b∉e1.fp∧b∉e2.fp:=fun b hb=>⟨hlt b (by simp[hb]),fun hx=>n3 b hx b (by simp[hb]) rfl,fun hx=>n6 b hx b hb rfl⟩;refine⟨⟨Nat.le_trans h.le hsz,fun b hb=>Nat.lt_of_lt_of_le (h.bd b hb) hsz,?_,?_,?_⟩,⟨hos.1,hos.2.1,hos.2.2,⟨hsz,fun b hb hnb=>?_⟩⟩⟩
 ·rw[hb2];refine List.nodup_append.2 ⟨hnd,n5,fun a ha b hb hab=>?_⟩;subst hab
  rcases hfp a ha with hx | hx | hx
  ·exact(hR a hb).2.1 hx
  ·exact(hR a hb).2.2 hx
  ·have:=(hR a hb).1;omega
 ·intro b hb;rw[hb2] at hb
  rcases List.mem_append.1 hb with hb | hb
  ·rcases hfp b hb with hx | hx | hx
   ·exact h.out b (by rw[hb1];simp[hx])
   ·exact h.out b (by rw[hb1];simp[hx])
   ·exact fun hA=>by have:=h.bd b hA;omega
  ·exact h.out b (by rw[hb1];simp[hb])
 ·intro e he
  rcases List.mem_cons.1 he with rfl | he
  ·exact hh
  ·refine Ent.keep (h.at_ e (by simp[he])) fun b hb=>?_;have:=hR b (J8H.2 ⟨e,he,hb⟩);exact hk b this.1 this.2.1 this.2.2
 ·rw[hb1] at hnb;simp only[List.mem_append,not_or] at hnb;refine⟨hk b hb hnb.1 hnb.2.1,?_⟩;rw[hb2];simp only[List.mem_append,not_or];refine⟨fun hx=>?_,hnb.2.2⟩
  rcases hfp b hx with hy | hy | hy
  ·exact hnb.1 hy
  ·exact hnb.2.1 hy
  ·omega
def hup (hs:Hd) (m:Nat) (h:Option Addr×Nat):Hd:=fun k=>if k=m then h else hs k
theorem J5D (hs:Hd) (m:Nat) (h:Option Addr×Nat):hup hs m h m=h:=by simp[hup]
theorem J3Y (hs:Hd) {m k:Nat} (h:Option Addr×Nat) (hk:k≠m):hup hs m h k=hs k:=by simp[hup,hk]
theorem J5i {e:TypeId} {size:Nat} {p:Option Addr} {n c:Nat} {vs:List Value}:(Ent.row e size p n c vs).fp=pb p:=by cases p<;>rfl
theorem fp_t2:(t2 hf e e' p n c hs xss).fp=t2fp p hs xss.length:=rfl
theorem Jec {hs:Hd} {p:Option Addr} {n m:Nat} (hnd:(t2fp p hs n).Nodup) (hm:m<n) {h:Option Addr×Nat} (hn:∀b∈pb h.1,∀k,k<n→k≠m→b∉pb (hs k).1) (ho:∀b∈pb h.1,b∉pb p):(t2fp p (hup hs m h) n).Nodup:=by
 obtain⟨h1,h2,h3⟩:=List.nodup_append.1 hnd;obtain⟨h4,h5⟩:=List.pairwise_flatMap.1 h2;refine List.nodup_append.2 ⟨h1,List.pairwise_flatMap.2 ⟨fun k hk=>?_,?_⟩,fun a ha b hb hab=>?_⟩
 ·by_cases hkm:k=m
  ·subst hkm;rw[J5D];cases h.1<;>simp[pb]
  ·rw[J3Y _ _ hkm];exact h4 k hk
 ·rw[List.pairwise_iff_getElem] at h5 ⊢;intro i j hi hj hij x hx y hy hxy;subst hxy;simp only[List.length_range] at hi hj;simp only[List.getElem_range] at hx hy;by_cases him:i=m
  ·subst him;rw[J5D] at hx;rw[J3Y _ _ (by omega)] at hy;exact hn x hx j hj (by omega) hy
  ·rw[J3Y _ _ him] at hx;by_cases hjm:j=m
   ·subst hjm;rw[J5D] at hy;exact hn x hy i hi him hx
   ·rw[J3Y _ _ hjm] at hy;have:=h5 i j (by simpa using hi) (by simpa using hj) hij;simp only[List.getElem_range] at this;exact this x hx x hy rfl
 ·subst hab;obtain⟨k,hk,hx⟩:=List.mem_flatMap.1 hb;by_cases hkm:k=m
  ·subst hkm;rw[J5D] at hx;exact ho a hx ha
  ·rw[J3Y _ _ hkm] at hx;exact h3 a ha a (List.mem_flatMap.2 ⟨k,hk,hx⟩) rfl
theorem t2put {R:List Ent} {p2:Option Addr} {n2 c2:Nat} {vs:List Value} {ys:List α} (hO:Owns n0 w (.row e' r.sz p2 n2 c2 vs::t2 hf e e' p n c hs xss::R) A) {A':List Nat} (hE:Els r A' w vs ys) {i:Int} (h0:0≤i) (h1:i<(xss.length:Int)) :
  ∃w',Stp n0 A w (.row e' r.sz p2 n2 c2 vs::t2 hf e e' p n c hs xss::R) w' (t2 hf e e' p n c (hup hs i.toNat (p2,c2)) (st xss i ys)::R)∧∀{P:Program} {σ:Nat→Value} {t ty:TypeId} {x y:Operand} {d:TypeDesc} {zz:Option Value} {b:Nat},P.underlying t=some d→scB d=true→ti P t=some (zz,1,b) →
   ev σ x=.pointer (padd p (i.toNat*1))→ev σ y=.slice p2 n2 c2→OpV P (.store t x y) ty σ w undef w':=by
 obtain⟨m,rfl⟩:=Int.eq_ofNat_of_zero_le h0;simp only[Int.toNat_natCast] at *
 have hml:m<xss.length:=by omega
 have hT:=t2at 1 hO rfl;have hrow:=hO.at_ _ (List.mem_cons_self);have hn2:=hE.n_eq hrow;have hnd2:=JaH 1 hO rfl;have hnd:=hO.nd;rw[show bl (.row e' r.sz p2 n2 c2 vs::t2 hf e e' p n c hs xss::R)=(Ent.row e' r.sz p2 n2 c2 vs).fp++((t2 hf e e' p n c hs xss).fp++bl R) from by simp[bl],J5i,fp_t2] at hnd;obtain⟨_,_,n3⟩:=List.nodup_append.1 hnd;have hdis:∀b∈pb p2,b∉t2fp p hs xss.length:=fun b hb hx=>n3 b hb b (List.mem_append_left _ hx) rfl
 have hm:m<(hcells hs xss).length:=by simpa using hml
 obtain⟨g,cur,rfl,hg,hb,e1,e2,e3,e4,hc⟩:=J2o hT.out hm
 have hgo:g∈pb (some ⟨g,0,none⟩:Option Addr):=by simp[pb]
 have hfz:w.frozen? ⟨g,m,none⟩=false:=by simp[World.frozen?,hg]
 have hblk:∀b,b≠g→(w.setCell ⟨g,m,none⟩ (.slice p2 n2 c2)).heap[b]?=w.heap[b]?:=fun b hb=>Below.heap_setCell w ⟨g,m,none⟩ _ b (by simpa using hb);refine⟨w.setCell ⟨g,m,none⟩ (.slice p2 n2 c2),Stp.two hO ⟨rfl,rfl,rfl⟩ (by simp[World.setCell]) (fun b _ _ hn=>hblk b fun hbg=>hn ?_) ?_ (fun b hb=>?_) ?_,fun ht hd he hx hy=>?_⟩
 ·subst hbg;exact J0I.2 (.inl hgo)
 ·rw[fp_t2,J02];refine Jec hnd2 hml (fun b hb k hk _ hx=>hdis b hb (J0I.2 (.inr ⟨k,hk,hx⟩))) fun b hb hx=>hdis b hb (J0I.2 (.inl hx))
 ·rw[fp_t2,J02] at hb;rw[J5i,fp_t2]
  rcases J0I.1 hb with hx | ⟨k,hk,hx⟩
  ·exact .inr (.inl (J0I.2 (.inl hx)))
  ·by_cases hkm:k=m
   ·subst hkm;rw[J5D] at hx;exact .inl hx
   ·rw[J3Y _ _ hkm] at hx;exact .inr (.inl (J0I.2 (.inr ⟨k,hk,hx⟩)))
 ·refine⟨⟨?_,.inr ⟨g,c,cur.setIfInBounds m (.slice p2 n2 c2),rfl,hb,heap_set w g m cur e _ hg,e1,e2,by simpa using e3,?_⟩⟩,by rw[J02];exact hT.len,by rw[J02];exact hT.bd,fun q hq=>?_⟩
  ·have:=hT.out.1;simpa using this
  ·rw[Array.toList_setIfInBounds,List.take_set,e4];apply List.ext_getElem (by simp);intro k hk1 hk2
   have hk:k<xss.length:=by simpa using hk1
   rw[List.getElem_set,J2O (hs:=hup hs m (p2,c2)) (by simpa using hk)];unfold hcell;by_cases hkm:m=k
   ·subst hkm;rw[if_pos rfl,J5D,ix_st _ (by omega) (by omega) (by omega),if_pos rfl,hn2]
   ·rw[if_neg hkm,J3Y _ _ (by omega),ix_st _ (by omega) (by omega) (by omega),if_neg (by omega),J2O hk]
    rfl
  ·rw[J02] at hq;rw[ix_st _ (by omega) (by omega) (by omega)]
   split
   ·rename_i hqm
    obtain rfl:q=m:=by omega
    rw[J5D];refine⟨vs,?_,hE.fl hf⟩
    show World.ownsRow _ n0 e' r.sz (.slice p2 ys.length c2) ys.length vs
    rw[←hn2];refine J6u hrow fun b hb=>hblk b fun hbg=>?_;rw[hbg] at hb;exact hdis g hb (J0I.2 (.inl hgo))
   ·rw[J3Y _ _ (by omega)];refine(hT.inn q hq).keep hf fun b hb=>hblk b fun hbg=>?_;rw[hbg] at hb;exact t2outd hnd2 hq g hb hgo
 ·simp only[padd,Option.map_some,Addr.add_lit,Nat.zero_add,Nat.mul_one] at hx;exact J8F ht hd he hx hy rfl hc hfz
theorem Owns.apart {n0:Nat} {A:List Nat} {w:World} {E:List Ent} {e:Ent} (j:Nat) (hO:Owns n0 w E A) (hj:E[j]?=some e):∀b∈e.fp,b∉bl (E.eraseIdx j)++A:=by
 have h:=hO.front j hj;have hnd:=h.nd;rw[show bl (e::E.eraseIdx j)=e.fp++bl (E.eraseIdx j) from by simp[bl]] at hnd;intro b hb hx
 rcases List.mem_append.1 hx with hx | hx
 ·exact(List.nodup_append.1 hnd).2.2 b hb b hx rfl
 ·exact h.out b (by simp[bl,hb]) hx
theorem JdW {α:Type} {r:Rp α} {p:Option Addr} {c:Nat} {vs:List Value} {xs:List α} (h:w.ownsRow n0 e r.sz (.slice p xs.length c) xs.length vs) {A' B:List Nat} (hE:Els r A' w vs xs) (hf:Fl r) (hB:∀b∈pb p,b∉B):ISl r B w p c xs:=by
 refine⟨(J5y h).1,hE.bd,fun hp=>?_,fun a ha k hk=>?_⟩
 ·subst hp
  rcases h.2 with ⟨hv,_⟩ | ⟨g,cap,cur,hv,_⟩
  ·exact(Value.slice.inj hv).2.2
  ·exact absurd (Value.slice.inj hv).1 (by simp)
 ·obtain⟨h1,h2,h3⟩:=JbI h ha;refine⟨h1,h2,hB _ (by rw[ha];simp[pb]),r.ext (fun i hi=>?_) (hf (hE.at_ k hk))⟩
  have hlt:k*r.sz+i<vs.length:=by
   rw[hE.len];have:(k+1)*r.sz≤xs.length*r.sz:=Nat.mul_le_mul_right _ hk;rw[Nat.add_mul,Nat.one_mul] at this;omega
  exact h3 _ hlt
theorem T2.readIn (hT:T2 r e e' p n c hs xss n0 w) (hf:Fl r) {B:List Nat} (hB:∀b∈t2fp p hs xss.length,b∉B) {i:Int} (h0:0≤i) (h1:i<(xss.length:Int)):ISl r B w (hs i.toNat).1 (hs i.toNat).2 (ix xss i):=by
 obtain⟨m,rfl⟩:=Int.eq_ofNat_of_zero_le h0;obtain⟨vs,h2,h3⟩:=(hT.inn m (by omega)).ex;exact JdW h2 h3 hf fun b hb=>hB b (J0I.2 (.inr ⟨m,by omega,hb⟩))
theorem T2.read (hT:T2 r e e' p n c hs xss n0 w) (hf:Fl r) {B:List Nat} (hB:∀b∈t2fp p hs xss.length,b∉B):ISl r.sl B w p c xss:=by
 refine⟨by have:=(J5y hT.out).1;have:=hT.len;omega,hT.bd,fun hp=>?_,fun a ha k hk=>?_⟩
 ·subst hp
  rcases hT.out.2 with ⟨hv,_⟩ | ⟨g,cap,cur,hv,_⟩
  ·exact(Value.slice.inj hv).2.2
  ·exact absurd (Value.slice.inj hv).1 (by simp)
 ·obtain⟨h1,h2,h3⟩:=JbI hT.out ha;refine⟨h1,h2,hB _ (J0I.2 (.inl (by rw[ha];simp[pb]))),(hs k).1,(hs k).2,?_,?_⟩
  ·have:=h3 k (by simpa using hk)
   show cel w a (k*1+0)=_
   rw[Nat.mul_one,Nat.add_zero,this,List.getElem?_eq_getElem (by simpa using hk),J2O hk];unfold hcell;rw[ix_lt hk]
  ·have:=hT.readIn hf hB (i:=(k:Int)) (by omega) (by omega);rw[ix_lt hk] at this;exact this
theorem t2freeze (j:Nat) (hO:Owns n0 w E A) (hj:E[j]?=some (t2 hf e e' p n c hs xss)) :
  Owns n0 w (E.eraseIdx j) A∧Fr (bl E) w (bl (E.eraseIdx j)) w∧ISl r.sl (bl (E.eraseIdx j)++A) w p c xss∧n=xss.length:=
 ⟨hO.drop j,Owns.J71 w E j,(t2at j hO hj).read hf fun b hb=>hO.apart j hj b hb,(t2at j hO hj).len⟩
theorem t2lend (j:Nat) (hO:Owns n0 w E A) (hj:E[j]?=some (t2 hf e e' p n c hs xss)):ISl r.sl (bl (E.eraseIdx j)++A) w p c xss:=(t2at j hO hj).read hf fun b hb=>hO.apart j hj b hb
theorem t2lendIn (j:Nat) (hO:Owns n0 w E A) (hj:E[j]?=some (t2 hf e e' p n c hs xss)) {i:Int} (h0:0≤i) (h1:i<(xss.length:Int)):ISl r (bl (E.eraseIdx j)++A) w (hs i.toNat).1 (hs i.toNat).2 (ix xss i):=
 (t2at j hO hj).readIn hf (fun b hb=>hO.apart j hj b hb) h0 h1
theorem rowlend {α:Type} {r:Rp α} {p:Option Addr} {n c:Nat} {vs:List Value} {xs:List α} (j:Nat) (hO:Owns n0 w E A) (hj:E[j]?=some (.row e r.sz p n c vs)) (hE:Els r (bl E++A) w vs xs):ISl r (bl (E.eraseIdx j)++A) w p c xs∧n=xs.length:=
 ⟨(freeze j hO hj hE).2.2.1,(freeze j hO hj hE).2.2.2⟩
end
open Go Go.RowKit
theorem Stp.front {n0:Nat} {A:List Nat} {w:World} {E:List Ent} {e:Ent} (i:Nat) (h:Owns n0 w E A) (hi:E[i]?=some e):Stp n0 A w E w (e::E.eraseIdx i):=⟨h.front i hi,frontFr w i hi⟩
theorem t2freezeA {w:World} {e e':TypeId} {A:List Nat} {E:List Ent} {n0:Nat} {α:Type} {r:Rp α} {hf:Fl r} {p:Option Addr} {n c:Nat} {hs:Hd} {xss:List (List α)} (j:Nat) (hO:Owns n0 w E A) (hj:E[j]?=some (t2 hf e e' p n c hs xss)) :
  Owns n0 w (E.eraseIdx j) A∧Ch (bl E++A) w (bl (E.eraseIdx j)++A) w∧ISl r.sl (bl (E.eraseIdx j)++A) w p c xss∧n=xss.length:=
 let ⟨h1,h2,h3,h4⟩:=t2freeze j hO hj
 ⟨h1,h2.ch.app A,h3,h4⟩
open Go Go.RowKit
def plcs (P:Program):List Field→Option (List (Nat×Nat))
  | []=>some []
  | f :: l => match P.info? f.type, plcs P l with
    | some i,some r=>some ((f.offset,i.size)::r)
    | _,_=>none
theorem Jcx {P:Program} (w:World):∀(l:List Field) (r:List (Nat×Nat)),plcs P l=some r→(l.mapM fun f=>(do pure (f.offset,←Go.sizeOf f.type):Sem (Nat×Nat))).run P w=.ok r w
  | [],r,h=>by simp only[plcs,Option.some.injEq] at h;subst h;rfl
  | f :: l, r, h => by
    simp only[plcs] at h
    cases hi:P.info? f.type with
    | none=>simp[hi] at h
    | some i =>
      cases hr:plcs P l with
      | none=>simp[hi,hr] at h
      | some r' =>
        simp only[hi,hr,Option.some.injEq] at h
        subst h
        have ih:=Jcx w l r' hr
        simp[List.mapM_cons,Go.sizeOf,typeInfo,hi] at ih ⊢
        simp[ih]
theorem J07 {P:Program} {σ:Nat→Value} {t ty:TypeId} {fs:Array Field} {zv:Value} {s b:Nat} {pl:List (Nat×Nat)} {parts:List (Nat×Operand)} {vs:List (Nat×Value)} {cs:Array Value} (ht:P.underlying t=some (.struct fs)) (he:ti P t=some (some zv,s,b))
  (hpl:plcs P fs.toList=some pl) (hp:parts.map (fun p=>(p.1,ev σ p.2))=vs) (hf:Instr.fill (pl.toArray[·]?) zv.cells vs=some cs) (w:World):OpV P (.build t parts.toArray) ty σ w (.agg cs) w:=.inl (by
 subst hp
 have h1:=Jcx (P:=P) w fs.toList pl hpl
 have h2:(fs.mapM fun f=>(do pure (f.offset,←Go.sizeOf f.type):Sem (Nat×Nat))).run P w=.ok pl.toArray w:=by
  rw[Array.mapM_eq_mapM_toList];simp at h1 ⊢;simp[h1]
 simp only[execOp,opr,Instr.build,Sem.run_bind,J1W he,Result.andThen_ok,run_underlying ht,h2];simp at hf ⊢
 simp[hf])
open Go Go.RowKit
section
variable {P:Program} {σ:Nat→Value} {w:World} {t t' ty e:TypeId} {x y z:Operand} {A:List Nat} {E:List Ent} {n0:Nat}
def tailp (p:Option Addr) (l c:Nat):Option Addr:=if c=l then p else padd p (l*1)
theorem J9j {p:Option Addr} {m c:Nat} {h:Int} {kk:IntKind} {zz:Option Value} {bb:Nat} (ht:P.underlying t=some (.slice e)) (he:ti P e=some (zz,1,bb)) (hx:ev σ x=.slice p m c) (hy:ev σ y=.int kk h) (h0:0≤h) (h1:h≤m) (w:World) :
  OpV P (.slice t x (some y) none none) ty σ w (.slice (tailp p h.toNat c) (m-h.toNat) (c-h.toNat)) w:=.inl (by
 have hs:=fun w=>run_sizeOf he w
 have h2:h≤(m:Int):=h1
 have e1:(Option.map (fun a:Addr=>a.add (h.toNat*1)) p)=padd p (h.toNat*1):=rfl
 by_cases hc:c=h.toNat
 ·simp[execOp,opr,hx,hy,Instr.sliceAt,Instr.slice,Instr.sliceBounds,Instr.sliceBound,run_underlying ht,asIntOf,h0,h2,hs,tailp,hc]
 ·simp[execOp,opr,hx,hy,Instr.sliceAt,Instr.slice,Instr.sliceBounds,Instr.sliceBound,run_underlying ht,asIntOf,h0,h2,hs,tailp,hc,padd])
theorem JdQ {p:Option Addr} {g:Nat} (hp:p=some ⟨g,0,none⟩) (a b:Nat):padd (padd p a) b=padd p (a+b):=by
 subst hp;simp[padd,Addr.add_lit]
theorem J9y {α:Type} {r:Rp α} {Av:List Nat} {p:Option Addr} {n c:Nat} {vs:List Value} {xs:List α} (j:Nat) (hO:Owns n0 w E A) (hj:E[j]?=some (.row e r.sz p n c vs)) (hE:Els r Av w vs xs) {l k:Int} (l0:0≤l) (k0:0≤k) (h:l+k<xs.length) :
  padd (tailp p l.toNat c) (k.toNat*1)=padd p ((l+k).toNat*1)∧(tailp p l.toNat c).isSome=true:=by
 have hh:=hO.at_ _ (List.mem_of_getElem? hj);have hn:=hE.n_eq hh
 rcases hh.2 with ⟨hv,h2⟩ | ⟨g,cap,cur,hv,_,_,hnc,_⟩
 ·omega
 ·cases hv
  have:c≠l.toNat:=by omega
  unfold tailp;rw[if_neg this];refine⟨?_,rfl⟩;rw[JdQ (g:=g) rfl]
  congr 1;omega
theorem tlInt {k':IntKind} {p:Option Addr} {n c:Nat} {vs:List Value} {xs:List Int} (j:Nat) (hO:Owns n0 w E A) (hj:E[j]?=some (.row e 1 p n c vs)) (hE:Els (Rp.int k') (bl E++A) w vs xs) {l k:Int} (l0:0≤l) (k0:0≤k) (h:l+k<xs.length)
  {d:TypeDesc} (ht:P.underlying t=some d) (hd:scB d=true) (hx:ev σ x=.pointer (padd (tailp p l.toNat c) (k.toNat*1))) (w':World) (hw:Same w w'):OpV P (.load t x) ty σ w' (.int k' (ix xs (l+k))) w':=by
 rw[(J9y (r:=Rp.int k') j hO hj hE l0 k0 h).1] at hx;exact oldInt j hO hj hE (by omega) h ht hd hx w' hw
def sets (cur:Array Value) (o:Nat):List Value→Array Value
 | []=>cur
 | v::r=>sets (cur.setIfInBounds o v) (o+1) r
theorem Ja8:∀(vals:List Value) (cur:Array Value) (o:Nat),(sets cur o vals).size=cur.size
 | [],_,_=>rfl
 | v::r,cur,o=>by rw[sets,Ja8 r];simp
theorem J9X:∀(vals:List Value) (cur:Array Value) (o:Nat),o+vals.length≤cur.size→(sets cur o vals).toList=cur.toList.take o++vals++cur.toList.drop (o+vals.length)
  | [],cur,o,_=>by simp[sets]
  | v :: r, cur, o, h => by
    simp only[List.length_cons] at h
    rw[sets,J9X r _ (o+1) (by simp;omega)]
    have ho:o<cur.toList.length:=by simp;omega
    rw[Array.toList_setIfInBounds]
    have e1:(cur.toList.set o v).take (o+1)=cur.toList.take o++[v]:=by
      rw[List.take_set,List.take_succ_eq_append_getElem ho,List.set_append_right _ _ (by simp;omega)]
      have h5:o-min o cur.size=0:=by omega
      simp[h5]
    have e2:(cur.toList.set o v).drop (o+1+r.length)=cur.toList.drop (o+(v::r).length):=by
      rw[List.drop_set,if_pos (by omega)]
      congr 1;simp;omega
    rw[e1,e2];simp
theorem J6q (g:Nat) (e:TypeId):∀(vals:List Value) (o:Nat) (w:World) (cur:Array Value),w.heap[g]?=some (.cells cur e (0,0))→(w.setCells g o vals).heap[g]?=some (.cells (sets cur o vals) e (0,0))
 | [],_,_,_,h=>h
 | v::r,o,w,cur,h=>J6q g e r (o+1) _ _ (heap_set w g o cur e v h)
theorem J6v (b:Nat):∀(vs:List Value) (o:Nat) (w:World),(w.setCells b o vs).heap.size=w.heap.size
 | [],_,_=>rfl
 | v::r,o,w=>by rw[World.setCells,J6v b r];simp[World.setCell]
theorem J6s (b:Nat):∀(vs:List Value) (o:Nat) (w:World),(w.setCells b o vs).os=w.os∧(w.setCells b o vs).tape=w.tape∧(w.setCells b o vs).output=w.output
 | [],_,_=>⟨rfl,rfl,rfl⟩
 | v::r,o,w=>by rw[World.setCells];exact J6s b r (o+1) _
theorem J7f (b:Nat):∀(vs:List Value) (o:Nat) (w:World) (k:Nat),k≠b→(w.setCells b o vs).heap[k]?=w.heap[k]?
 | [],_,_,_,_=>rfl
 | v::r,o,w,k,h=>by rw[World.setCells,J7f b r _ _ k h];exact Below.heap_setCell w ⟨b,o,none⟩ v k (by simpa using h)
theorem oclear {α:Type} {r:Rp α} (hf:Fl r) (r1:r.sz=1) {d:α} {z:Value} {bb:Nat} (ht:P.underlying t=some (.slice e)) (he:ti P e=some (some z,1,bb)) (hz:z.cells=#[z]) (hz1:z.oneCell'=true) (hd:∀A w,r.R A w (fun _=>some z) d)
  {p:Option Addr} {n c:Nat} {vs:List Value} {xs:List α} (j:Nat) (hO:Owns n0 w E A) (hj:E[j]?=some (.row e 1 p n c vs)) (hE:Els r (bl E++A) w vs xs) {l:Int} (l0:0≤l) (l1:l≤xs.length) :
  ∃w' vs',Stp n0 A w E w' (E.set j (.row e 1 p n c vs'))∧Els r (bl (E.set j (.row e 1 p n c vs'))++A) w' vs' (xs.take l.toNat++List.replicate (xs.length-l.toNat) d) ∧
   ∀{σ:Nat→Value} {x:Operand} {ty:TypeId},ev σ x=.slice (tailp p l.toNat c) (n-l.toNat) (c-l.toNat)→OpV P (.call { callee:=.builtin .clear,args:=#[x],argTypes:=#[t] }) ty σ w (.tuple #[]) w':=by
 obtain⟨m,rfl⟩:=Int.eq_ofNat_of_zero_le l0;simp only[Int.toNat_natCast] at *;have hh:=hO.at_ _ (List.mem_of_getElem? hj)
 have hn:n=xs.length:=by rw[←r1] at hj;exact hE.n_eq (r:=r) (hO.at_ _ (List.mem_of_getElem? hj))
 have hvl:=hE.len;rw[r1,Nat.mul_one] at hvl
 have hm:m≤n:=by omega
 by_cases hmn:m=n
 ·subst hmn;refine⟨w,vs,?_,?_,fun hx=>.inl ?_⟩
  ·have hje:=(List.getElem?_eq_some_iff.1 hj);obtain⟨hjl,hje⟩:=hje;rw[←hje,List.set_getElem_self];exact Stp.same hO (Same.refl w)
  ·obtain⟨hjl,hje⟩:=(List.getElem?_eq_some_iff.1 hj);rw[←hje,List.set_getElem_self,hn];simpa using hE
  ·rename_i σ' x' ty;simp only[Nat.sub_self] at hx
   have hcl:∀q k,(Builtin.clear_ #[t] ty #[.slice q 0 k]).run P w=.ok (.tuple #[]) w:=fun q k=>by
    cases q<;>simp[Builtin.clear_,run_underlying ht]
   simp[execOp,opr,hx,resolve,invoke,builtin,hcl]
 ·rcases hh.2 with ⟨hv,h2⟩ | ⟨g,cap,cur,hv,hb,hg,h1,h2,h3,h4⟩
  ·omega
  ·cases hv
   have hcm:c≠m:=by omega
   have e0:tailp (some ⟨g,0,none⟩) m c=some ⟨g,m,none⟩:=by unfold tailp;rw[if_neg hcm];simp[padd,Addr.add_lit]
   have hsz:m+(n-m)≤cur.size:=by omega
   have hcur:(sets cur m (List.replicate (n-m) z)).toList.take (n*1)=vs.take m++List.replicate (n-m) z:=by
    rw[J9X _ _ _ (by simpa using hsz)];simp only[List.length_replicate,Nat.mul_one] at h4 ⊢
    have h6:(cur.toList.take m++List.replicate (n-m) z).length=n:=by simp;omega
    rw[List.take_append_of_le_length (by omega),List.take_of_length_le (by omega),←h4,List.take_take,Nat.min_eq_left hm]
   refine⟨w.setCells g m (List.replicate (n-m) z),vs.take m++List.replicate (n-m) z,Stp.turn hO hj (J6s _ _ _ _) (by rw[J6v];exact Nat.le_refl _) (fun b _ hnb=>J7f g _ _ _ b (by simpa [Ent.fp] using hnb)) (by simp[Ent.fp]) (fun b hb=>.inl (by simpa [Ent.fp] using hb)) ?_,?_,fun hx=>.inl ?_⟩
   ·refine⟨by simp;omega,.inr ⟨g,c,_,rfl,hb,J6q g e _ _ w cur hg,h1,h2,by rw[Ja8];exact h3,hcur⟩⟩
   ·refine⟨by simp[r1];omega,by simp;have:=hE.bd;omega,fun k hk=>?_⟩;simp only[List.length_append,List.length_take,List.length_replicate] at hk;by_cases hkm:k<m
    ·rw[List.getElem_append_left (by simp;omega),List.getElem_take];refine r.ext (fun i hi=>?_) (hf (hE.at_ k (by omega)))
     obtain rfl:i=0:=by omega
     rw[r1,Nat.mul_one,Nat.add_zero,List.getElem?_append_left (by simp;omega),List.getElem?_take,if_pos hkm]
    ·rw[List.getElem_append_right (by simp;omega),List.getElem_replicate];refine r.ext (fun i hi=>?_) (hd _ _)
     obtain rfl:i=0:=by omega
     rw[r1,Nat.mul_one,Nat.add_zero,List.getElem?_append_right (by simp;omega),List.getElem?_replicate,if_pos (by simp;omega)]
   ·rename_i σ' x' ty;rw[e0] at hx
    have hcell:∀q,q<n-m→(w.cell? ⟨g,m+q,none⟩).isSome=true:=fun q hq=>by simp[World.cell?,hg];omega
    have hcl:=Lib.run_clear_slice (P:=P) w t e ty z ht (fun w=>J1W he w) hz hz1 g m (n-m) (c-m) (by omega) hcell (fun q hq=>by simp[World.frozen?,hg]);simp[execOp,opr,hx,resolve,invoke,builtin,hcl]
theorem freezeHead {α:Type} {r:Rp α} {p:Option Addr} {n c:Nat} {vs:List Value} {xs:List α} (j:Nat) (hO:Owns n0 w E A) (hj:E[j]?=some (.row e r.sz p n c vs)) (hE:Els r (bl E++A) w vs xs) (k:Nat) :
  Owns n0 w (E.eraseIdx j) A∧Ch (bl E++A) w (bl (E.eraseIdx j)++A) w∧ISl r (bl (E.eraseIdx j)++A) w p c (xs.take k):=
 let ⟨h1,h2,h3,_⟩:=freeze j hO hj hE
 ⟨h1,h2,h3.take k⟩
theorem ISl.nilD {α:Type} {r:Rp α} {B:List Nat} {p:Option Addr} {c:Nat} {xs:List α} (h:ISl r B w p c xs) (hp:p.isNone=true):xs=[]:=by
 cases p with
 | some a=>simp at hp
 | none=>exact List.eq_nil_of_length_eq_zero (by have:=h.cap;have:=h.nil rfl;omega)
theorem lenle {n m:Nat} (hn:n=m) {i:Int} (h:i≤(m:Int)):i≤(n:Int):=by omega
theorem tailLt {n m:Nat} (hn:n=m) {l k:Int} (l0:0≤l) (h:l+k<(m:Int)):k<((n-l.toNat:Nat):Int):=by omega
end
open Go Go.RowKit
section
variable {P:Program} {σ:Nat→Value} {w:World} {t t' ty e e':TypeId} {x y z:Operand} {A:List Nat} {E:List Ent} {n0:Nat}
variable {α:Type} {r:Rp α} {hf:Fl r} {p:Option Addr} {n c:Nat} {hs:Hd} {xss:List (List α)}
theorem Stp.trans {w1 w2:World} {E1 E2:List Ent} (h:Stp n0 A w E w1 E1) (k:Stp n0 A w1 E1 w2 E2):Stp n0 A w E w2 E2:=⟨k.own,h.fr.trans k.fr⟩
theorem Owns.re {E':List Ent} (h:Owns n0 w E A) (hn:(bl E').Nodup) (hs:∀b∈bl E',b∈bl E) (ha:∀e∈E',e.holds n0 w):Stp n0 A w E w E':=
 ⟨⟨h.le,h.bd,hn,fun b hb=>h.out b (hs b hb),ha⟩,⟨rfl,rfl,rfl,⟨Nat.le_refl _,fun b _ hb=>⟨rfl,fun hx=>hb (hs b hx)⟩⟩⟩⟩
def t2hf (p:Option Addr) (hs:Hd) (n i:Nat):List Nat:=pb p++(List.range n).flatMap fun k=>if k=i then [] else pb (hs k).1
theorem J1Z {p:Option Addr} {hs:Hd} {n i b:Nat}:b∈t2hf p hs n i↔b∈pb p∨∃k,k<n∧k≠i∧b∈pb (hs k).1:=by
 simp only[t2hf,List.mem_append,List.mem_flatMap,List.mem_range];refine or_congr Iff.rfl ⟨fun ⟨k,hk,hb⟩=>?_,fun ⟨k,hk,hki,hb⟩=>⟨k,hk,by rw[if_neg hki];exact hb⟩⟩
 split at hb
 ·simp at hb
 ·rename_i hki;exact⟨k,hk,hki,hb⟩
structure T2H {α:Type} (r:Rp α) (e e':TypeId) (p:Option Addr) (n c:Nat) (hs:Hd) (xss:List (List α)) (i:Nat) (n0:Nat) (w:World):Prop where
 out:∃vs,w.ownsRow n0 e 1 (.slice p n c) n vs∧vs.length=xss.length∧∀k,k<xss.length→k≠i→vs[k]?=some (hcell hs xss k)
 len:n=xss.length
 bd:xss.length≤mx
 inn:∀k:Nat,k<xss.length→k≠i→Inn r e' n0 w (hs k) (ix xss (k:Int))
def t2h {α:Type} {r:Rp α} (hf:Fl r) (e e':TypeId) (p:Option Addr) (n c:Nat) (hs:Hd) (xss:List (List α)) (i:Nat):Ent:=.any {
 F:=t2hf p hs xss.length i
 H:=T2H r e e' p n c hs xss i
 lt:=fun h b hb=>by
  rcases J1Z.1 hb with hb | ⟨k,hk,hki,hb⟩
  ·obtain⟨vs,h1,_⟩:=h.out;exact Jbt h1 b hb
  ·obtain⟨vs,h1,_⟩:=(h.inn k hk hki).ex
   exact Jbt h1 b hb
 keep:=fun h hk=>⟨by obtain⟨vs,h1,h2⟩:=h.out;exact⟨vs,J6u h1 fun b hb=>hk b (J1Z.2 (.inl hb)),h2⟩,h.len,h.bd,fun k hkl hki=>(h.inn k hkl hki).keep hf fun b hb=>hk b (J1Z.2 (.inr ⟨k,hkl,hki,hb⟩))⟩
 base:=fun hn h=>⟨by obtain⟨vs,h1,h2⟩:=h.out;exact⟨vs,J8w hn h1,h2⟩,h.len,h.bd,fun k hk hki=>by obtain⟨vs,h1,h2⟩:=(h.inn k hk hki).ex;exact⟨vs,J8w hn h1,h2⟩⟩ }
theorem Jcq {i:Nat}:(t2h hf e e' p n c hs xss i).fp=t2hf p hs xss.length i:=rfl
theorem JeX {i:Nat} (h:(t2fp p hs n).Nodup):(t2hf p hs n i).Nodup:=by
 obtain⟨h1,h2,h3⟩:=List.nodup_append.1 h;obtain⟨h4,h5⟩:=List.pairwise_flatMap.1 h2;refine List.nodup_append.2 ⟨h1,List.pairwise_flatMap.2 ⟨fun k hk=>?_,h5.imp_of_mem fun {a b} _ _ hab x hx y hy=>?_⟩,fun a ha b hb hab=>?_⟩
 ·split
  ·exact List.nodup_nil
  ·exact h4 k hk
 ·split at hx
  ·simp at hx
  ·split at hy
   ·simp at hy
   ·exact hab x hx y hy
 ·obtain⟨k,hk,hx⟩:=List.mem_flatMap.1 hb
  split at hx
  ·simp at hx
  ·exact h3 a ha b (List.mem_flatMap.2 ⟨k,hk,hx⟩) hab
theorem t2take {R:List Ent} (hO:Owns n0 w (t2 hf e e' p n c hs xss::R) A) {i:Int} (h0:0≤i) (h1:i<(xss.length:Int)) :
  ∃vs,Stp n0 A w (t2 hf e e' p n c hs xss::R) w (.row e' r.sz (hs i.toNat).1 (ix xss i).length (hs i.toNat).2 vs::t2h hf e e' p n c hs xss i.toNat::R)∧∀B,Els r B w vs (ix xss i):=by
 obtain⟨m,rfl⟩:=Int.eq_ofNat_of_zero_le h0;simp only[Int.ofNat_eq_natCast,Int.toNat_natCast] at *
 have hml:m<xss.length:=by omega
 have hT:=t2at 0 hO rfl;have hnd:=JaH 0 hO rfl;obtain⟨vs,h2,h3⟩:=(hT.inn m hml).ex;refine⟨vs,Owns.re hO ?_ ?_ ?_,fun B=>h3.fl hf⟩
 ·have hall:=hO.nd;rw[show bl (t2 hf e e' p n c hs xss::R)=t2fp p hs xss.length++bl R from by simp[bl,fp_t2]] at hall;obtain⟨_,n2,n3⟩:=List.nodup_append.1 hall;rw[show bl (.row e' r.sz (hs m).1 (ix xss (m:Int)).length (hs m).2 vs::t2h hf e e' p n c hs xss m::R)=pb (hs m).1++(t2hf p hs xss.length m++bl R) from by simp[bl,J5i,Jcq]];refine List.nodup_append.2 ⟨by cases (hs m).1<;>simp[pb],List.nodup_append.2 ⟨JeX hnd,n2,fun a ha b hb hab=>?_⟩,fun a ha b hb hab=>?_⟩
  ·refine n3 a ?_ b hb hab
   rcases J1Z.1 ha with hx | ⟨k,hk,_,hx⟩
   ·exact J0I.2 (.inl hx)
   ·exact J0I.2 (.inr ⟨k,hk,hx⟩)
  ·subst hab
   rcases List.mem_append.1 hb with hb | hb
   ·rcases J1Z.1 hb with hx | ⟨k,hk,hkm,hx⟩
    ·exact t2outd hnd hml a ha hx
    ·exact t2disj hnd hk hml hkm a hx ha
   ·exact n3 a (J0I.2 (.inr ⟨m,hml,ha⟩)) a hb rfl
 ·intro b hb;simp only[bl,List.flatMap_cons,List.mem_append,J5i,Jcq,fp_t2] at hb ⊢
  rcases hb with hb | hb | hb
  ·exact .inl (J0I.2 (.inr ⟨m,hml,hb⟩))
  ·rcases J1Z.1 hb with hx | ⟨k,hk,_,hx⟩
   ·exact .inl (J0I.2 (.inl hx))
   ·exact .inl (J0I.2 (.inr ⟨k,hk,hx⟩))
  ·exact .inr hb
 ·intro e1 he
  rcases List.mem_cons.1 he with rfl | he
  ·exact h2
  ·rcases List.mem_cons.1 he with rfl | he
   ·exact⟨⟨_,hT.out,by simp,fun k hk _=>by rw[List.getElem?_eq_getElem (by simpa using hk),J2O hk]⟩,hT.len,hT.bd,fun k hk _=>hT.inn k hk⟩
   ·exact hO.at_ _ (List.mem_cons_of_mem _ he)
theorem t2fix {R:List Ent} {p2:Option Addr} {n2 c2 m:Nat} {vs:List Value} {ys:List α} (hO:Owns n0 w (.row e' r.sz p2 n2 c2 vs::t2h hf e e' p n c hs xss m::R) A) {A':List Nat} (hE:Els r A' w vs ys) {i:Int} (h0:0≤i) (h1:i<(xss.length:Int)) (hm:i.toNat=m) :
  ∃w',Stp n0 A w (.row e' r.sz p2 n2 c2 vs::t2h hf e e' p n c hs xss m::R) w' (t2 hf e e' p n c (hup hs i.toNat (p2,c2)) (st xss i ys)::R)∧∀{P:Program} {σ:Nat→Value} {t ty:TypeId} {x y:Operand} {d:TypeDesc} {zz:Option Value} {b:Nat},P.underlying t=some d→scB d=true→ti P t=some (zz,1,b) →
   ev σ x=.pointer (padd p (i.toNat*1))→ev σ y=.slice p2 n2 c2→OpV P (.store t x y) ty σ w undef w':=by
 subst hm;obtain⟨m,rfl⟩:=Int.eq_ofNat_of_zero_le h0;simp only[Int.ofNat_eq_natCast,Int.toNat_natCast] at *
 have hml:m<xss.length:=by omega
 have hT:T2H r e e' p n c hs xss m n0 w:=hO.at_ (t2h hf e e' p n c hs xss m) (by simp);have hrow:=hO.at_ _ (List.mem_cons_self);have hn2:=hE.n_eq hrow;have hnd:=hO.nd;rw[show bl (.row e' r.sz p2 n2 c2 vs::t2h hf e e' p n c hs xss m::R)=pb p2++(t2hf p hs xss.length m++bl R) from by simp[bl,J5i,Jcq]] at hnd;obtain⟨hnd0,n2',n3⟩:=List.nodup_append.1 hnd;have hndh:=(List.nodup_append.1 n2').1;have hdis:∀b∈pb p2,b∉t2hf p hs xss.length m:=fun b hb hx=>n3 b hb b (List.mem_append_left _ hx) rfl
 have hup_fp:∀b,b∈t2fp p (hup hs m (p2,c2)) xss.length→b∈pb p2∨b∈t2hf p hs xss.length m:=fun b hb=>by
  rcases J0I.1 hb with hx | ⟨k,hk,hx⟩
  ·exact .inr (J1Z.2 (.inl hx))
  ·by_cases hkm:k=m
   ·subst hkm;rw[J5D] at hx;exact .inl hx
   ·rw[J3Y _ _ hkm] at hx;exact .inr (J1Z.2 (.inr ⟨k,hk,hkm,hx⟩))
 have hndN:(t2fp p (hup hs m (p2,c2)) xss.length).Nodup:=by
  obtain⟨q1,q2,q3⟩:=List.nodup_append.1 hndh;obtain⟨q4,q5⟩:=List.pairwise_flatMap.1 q2;refine List.nodup_append.2 ⟨q1,List.pairwise_flatMap.2 ⟨fun k hk=>?_,?_⟩,fun a ha b hb hab=>?_⟩
  ·by_cases hkm:k=m
   ·subst hkm;rw[J5D];exact hnd0
   ·rw[J3Y _ _ hkm];have:=q4 k hk;rwa [if_neg hkm] at this
  ·rw[List.pairwise_iff_getElem] at q5 ⊢;intro i j hi hj hij x hx y hy hxy;subst hxy;simp only[List.length_range] at hi hj;simp only[List.getElem_range] at hx hy;by_cases him:i=m
   ·subst him;rw[J5D] at hx;rw[J3Y _ _ (by omega)] at hy;exact hdis x hx (J1Z.2 (.inr ⟨j,hj,by omega,hy⟩))
   ·rw[J3Y _ _ him] at hx;by_cases hjm:j=m
    ·subst hjm;rw[J5D] at hy;exact hdis x hy (J1Z.2 (.inr ⟨i,hi,him,hx⟩))
    ·rw[J3Y _ _ hjm] at hy;have:=q5 i j (by simpa using hi) (by simpa using hj) hij;simp only[List.getElem_range,if_neg him,if_neg hjm] at this;exact this x hx x hy rfl
  ·subst hab;obtain⟨k,hk,hx⟩:=List.mem_flatMap.1 hb;by_cases hkm:k=m
   ·subst hkm;rw[J5D] at hx;exact hdis a hx (J1Z.2 (.inl ha))
   ·rw[J3Y _ _ hkm] at hx;exact q3 a ha a (List.mem_flatMap.2 ⟨k,hk,by rw[if_neg hkm];exact hx⟩) rfl
 obtain⟨us,hus,hul,hug⟩:=hT.out
 have hm:m<us.length:=by omega
 obtain⟨g,cur,rfl,hg,hb,e1,e2,e3,e4,hc⟩:=J2o hus hm
 have hgo:g∈pb (some ⟨g,0,none⟩:Option Addr):=by simp[pb]
 have hfz:w.frozen? ⟨g,m,none⟩=false:=by simp[World.frozen?,hg]
 have hblk:∀b,b≠g→(w.setCell ⟨g,m,none⟩ (.slice p2 n2 c2)).heap[b]?=w.heap[b]?:=fun b hb=>Below.heap_setCell w ⟨g,m,none⟩ _ b (by simpa using hb);refine⟨w.setCell ⟨g,m,none⟩ (.slice p2 n2 c2),Stp.two hO ⟨rfl,rfl,rfl⟩ (by simp[World.setCell]) (fun b _ _ hn=>hblk b fun hbg=>hn ?_) ?_ (fun b hb=>?_) ?_,fun ht hd he hx hy=>?_⟩
 ·subst hbg;exact J1Z.2 (.inl hgo)
 ·rw[fp_t2,J02];exact hndN
 ·rw[fp_t2,J02] at hb;rw[J5i,Jcq]
  rcases hup_fp b hb with hx | hx
  ·exact .inl hx
  ·exact .inr (.inl hx)
 ·refine⟨⟨?_,.inr ⟨g,c,cur.setIfInBounds m (.slice p2 n2 c2),rfl,hb,heap_set w g m cur e _ hg,e1,e2,by simpa using e3,?_⟩⟩,by rw[J02];exact hT.len,by rw[J02];exact hT.bd,fun q hq=>?_⟩
  ·have:=hT.len;simp;omega
  ·rw[Array.toList_setIfInBounds,List.take_set,e4];apply List.ext_getElem (by simp;omega);intro k hk1 hk2
   have hk:k<xss.length:=by simpa using hk2
   rw[List.getElem_set,J2O (hs:=hup hs m (p2,c2)) (by simpa using hk)];unfold hcell;by_cases hkm:m=k
   ·subst hkm;rw[if_pos rfl,J5D,ix_st _ (by omega) (by omega) (by omega),if_pos rfl,hn2]
   ·rw[if_neg hkm,J3Y _ _ (by omega),ix_st _ (by omega) (by omega) (by omega),if_neg (by omega)];have:=hug k hk (by omega);rw[List.getElem?_eq_getElem (by omega)] at this;exact Option.some.inj this
  ·rw[J02] at hq;rw[ix_st _ (by omega) (by omega) (by omega)]
   split
   ·rename_i hqm
    obtain rfl:q=m:=by omega
    rw[J5D];refine⟨vs,?_,hE.fl hf⟩
    show World.ownsRow _ n0 e' r.sz (.slice p2 ys.length c2) ys.length vs
    rw[←hn2];refine J6u hrow fun b hb=>hblk b fun hbg=>?_;rw[hbg] at hb;exact hdis g hb (J1Z.2 (.inl hgo))
   ·rename_i hqm
    have hqm':q≠m:=by omega
    rw[J3Y _ _ hqm'];refine(hT.inn q hq hqm').keep hf fun b hb=>hblk b fun hbg=>?_;rw[hbg] at hb;exact(List.nodup_append.1 hndh).2.2 g hgo g (List.mem_flatMap.2 ⟨q,by simpa using hq,by rw[if_neg hqm'];exact hb⟩) rfl
 ·simp only[padd,Option.map_some,Addr.add_lit,Nat.zero_add,Nat.mul_one] at hx;exact J8F ht hd he hx hy rfl hc hfz
def Rp.val:Rp Value where
  sz:=1
  pos:=by decide
  R _ _ cs x:=cs 0=some x∧x.oneCell'=true
  ch _ h:=h
  ext e h:=by rw[e 0 (by decide)];exact h
  one h i hi := ⟨_, (by obtain rfl : i = 0 := by omega
                        exact h.1),h.2⟩
theorem t2neqH {i:Nat} (j:Nat) (hO:Owns n0 w E A) (hj:E[j]?=some (t2h hf e e' p n c hs xss i)):n=xss.length:=by
 have h:T2H r e e' p n c hs xss i n0 w:=hO.at_ _ (List.mem_of_getElem? hj);exact h.len
theorem t2someH {m:Nat} (j:Nat) (hO:Owns n0 w E A) (hj:E[j]?=some (t2h hf e e' p n c hs xss m)) {i:Int} (h0:0≤i) (h1:i<(xss.length:Int)):p.isSome=true:=by
 have h:T2H r e e' p n c hs xss m n0 w:=hO.at_ _ (List.mem_of_getElem? hj);obtain⟨vs,h2,_⟩:=h.out;exact J8D h2 (by have:=h.len;omega)
end
end Sg
