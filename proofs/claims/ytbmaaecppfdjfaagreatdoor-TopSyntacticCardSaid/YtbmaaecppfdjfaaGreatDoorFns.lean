/- -/
import Derived.Test.YtbmaaecppfdjfaaGreatDoorPA
namespace Sg
open Go
set_option linter.unusedVariables false
structure DFA where
 Letters:Int
 Start:Int
 Final:List Bool
 Next:List (List Int)
 deriving Inhabited,DecidableEq
structure Builder where
 addr:Bool
 buf:List Int
 deriving Inhabited,DecidableEq
structure deriver where
 letter:Int
 normal:Bool
 deriving Inhabited,DecidableEq
structure derived where
 by_:Expr
 self:Expr
 nullable:Bool
 deriving Inhabited,DecidableEq
structure Rule where
 Left:Str
 Right:Str
 deriving Inhabited,DecidableEq
structure Enum where
 Points:Int
 Monoid:Bool
 Gens:List (List Int)
 Elems:List (List Int)
 Prefix:List Int
 Last:List Int
 Right:List (List Int)
 Rules:List Rule
 Done:Int
 deriving Inhabited,DecidableEq
structure run where
 Enum:Enum
 number:List (Str×Int)
 words:List Str
 behind:List Int
 single:List Int
 deriving Inhabited,DecidableEq
structure part where
 start:Int
 final:List Bool
 shift:Int
 deriving Inhabited,DecidableEq
structure Syntactic where
 Letters:Int
 Table:List (List Int)
 Words:List Str
 Images:List Int
 Accept:List Bool
 Plus:List Bool
 deriving Inhabited,DecidableEq
structure Green where
 R:List Int
 L:List Int
 J:List Int
 H:List Int
 Below:List (List Bool)
 deriving Inhabited,DecidableEq
def J2k (letters:Int) (K:Bool→Prop):Prop:=
 (if 1≤letters then (if letters≤(6:Int) then (K true) else (K false)) else (K false))
def J3t (d:DFA) (a:Nat) (X1:Nat→Prop) (K:Int→Prop) (X2:Nat→Prop) (b:Nat):Prop:=
 (if (b:Int)<((ix d.Next a).length:Int) then (Bd b ((ix d.Next a).length:Int) (if (ix (ix d.Next a) b)<0 then (K 4) else (if (d.Final.length:Int)≤(ix (ix d.Next a) b) then (K 4) else (X2 (b+1))))) else (X1 (a+1)))
def J3K (d:DFA) (K:Int→Prop) (X1:Nat→Prop) (a:Nat):Prop:=
 (if (a:Int)<d.Next.length then (Bd a d.Next.length ((ix d.Next a).length≤mx→(if ((ix d.Next a).length:Int)=d.Letters then (LoopWP (S:=Nat) (fun s X=>J3t d a X1 K X s) 0) else (K 4)))) else (K 0))
def J2e (d:DFA) (K:Int→Prop):Prop:=
 (d.Final.length≤mx→(J2k d.Letters fun r4=>(if r4=true then (if 512<(d.Final.length:Int) then (K 3) else (if (d.Final.length:Int)=0 then (K 4) else (d.Next.length≤mx→(if (d.Next.length:Int)=d.Final.length then (if d.Start<(0:Int) then (K 4) else (if (d.Final.length:Int)≤d.Start then (K 4) else (LoopWP (S:=Nat) (fun s X=>J3K d K X s) 0))) else (K 4))))) else (K 1))))
def J65 (d:DFA) (most:Int) (K:Bool→Prop):Prop:=
 (d.Final.length≤mx→(if (d.Final.length:Int)≤most then (if d.Letters≤(2:Int) then (J2e d fun r6=>(if r6=0 then (K true) else (K false))) else (K false)) else (K false)))
def J3w (x:Int) (K:Expr→Prop):Prop:=
 (K ((⟨3,x,([]:List Expr)⟩:Expr)))
def J7p (op:Int) (kids:List Expr) (K:Expr→Prop):Prop:=
 (K ((⟨op,0,kids⟩:Expr)))
def J26 (e:Expr) (b:Nat) (c:Nat) (a:Nat) (d:Int) (X3:Nat→Int→Prop) (K:Bool→Prop) (X4:Nat→Prop) (f:Nat):Prop:=
 (if (f:Int)<(((ix ((ix ((ix e.Kids b).Kids) (c:Int)).Kids) (a:Int)).Kids).length:Int) then False else (X3 (a+1) ((d-1))))
def J28 (e:Expr) (b:Nat) (a:Nat) (X2:Nat→Int→Prop) (K:Bool→Prop) (X3:Nat→Int→Prop) (c:Nat) (d:Int):Prop:=
 (if (c:Int)<(((ix ((ix e.Kids b).Kids) (a:Int)).Kids).length:Int) then (Bd c (((ix ((ix e.Kids b).Kids) (a:Int)).Kids).length:Int) (I64 ((((40:Int)-1)-1)-1)∧(if ((((40:Int)-1)-1)-1)=(0:Int) then False else (if d=(0:Int) then False else (I64 (d-1)∧(((ix ((ix ((ix e.Kids b).Kids) (a:Int)).Kids) (c:Int)).Kids).length≤mx→(LoopWP (S:=Nat) (fun s X=>J26 e b a c d X3 K X s) 0))))))) else (X2 (a+1) d))
def J24 (e:Expr) (a:Nat) (X1:Nat→Int→Prop) (K:Bool→Prop) (X2:Nat→Int→Prop) (b:Nat) (c:Int):Prop:=
 (if (b:Int)<(((ix e.Kids a).Kids).length:Int) then (Bd b (((ix e.Kids a).Kids).length:Int) (I64 (((40:Int)-1)-1)∧(if (((40:Int)-1)-1)=(0:Int) then False else (if c=(0:Int) then False else (I64 (c-1)∧(((ix ((ix e.Kids a).Kids) (b:Int)).Kids).length≤mx→(LoopWP (S:=Nat×Int) (fun s X=>J28 e a b X2 K (fun d f=>X (d,f)) s.1 s.2) (0,(c-1))))))))) else (X1 (a+1) c))
def J27 (e:Expr) (K:Bool→Prop) (X1:Nat→Int→Prop) (a:Nat) (b:Int):Prop:=
 (if (a:Int)<e.Kids.length then (Bd a e.Kids.length (I64 ((40:Int)-1)∧(if ((40:Int)-1)=(0:Int) then False else (if b=(0:Int) then False else (I64 (b-1)∧(((ix e.Kids a).Kids).length≤mx→(LoopWP (S:=Nat×Int) (fun s X=>J24 e a X1 K (fun c d=>X (c,d)) s.1 s.2) (0,(b-1))))))))) else (K true))
def J1k (e:Expr) (K:Bool→Prop):Prop:=
 (I64 ((400:Int)-1)∧(e.Kids.length≤mx→(LoopWP (S:=Nat×Int) (fun s X=>J27 e K (fun a b=>X (a,b)) s.1 s.2) (0,((400:Int)-1)))))
def J3g (e:Expr) (letters:Int) (XR:Expr→Int→(Bool→Prop)→Prop) (K:Bool→Prop) (X1:Nat→Prop) (a:Nat):Prop:=
 (if (a:Int)<e.Kids.length then (Bd a e.Kids.length (XR ((⟨((ix e.Kids a).Op),((ix e.Kids a).Letter),(ix e.Kids a).Kids⟩:Expr)) letters fun b=>(if b=true then (X1 (a+1)) else False))) else (K true))
def J39 (e:Expr) (letters:Int) (XR:Expr→Int→(Bool→Prop)→Prop) (K:Bool→Prop) (X2:Nat→Prop) (a:Nat):Prop:=
 (if (a:Int)<e.Kids.length then (Bd a e.Kids.length (XR ((⟨((ix e.Kids a).Op),((ix e.Kids a).Letter),(ix e.Kids a).Kids⟩:Expr)) letters fun b=>(if b=true then (X2 (a+1)) else False))) else (K true))
def J1Y (XR:Expr→Int→(Bool→Prop)→Prop) (e:Expr) (letters:Int) (K:Bool→Prop):Prop:=
 (if e.Op=(3:Int) then (e.Kids.length≤mx→(if (e.Kids.length:Int)=0 then (if 0≤e.Letter then (if e.Letter<letters then (K true) else False) else False) else False)) else (if e.Letter=(0:Int) then (if e.Op=(1:Int) then (e.Kids.length≤mx→(if (e.Kids.length:Int)=0 then (K true) else False)) else (if e.Op=(2:Int) then False else (if e.Op=(4:Int) then False else (if e.Op=(5:Int) then (e.Kids.length≤mx→(if (e.Kids.length:Int)<2 then False else (LoopWP (S:=Nat) (fun s X=>J3g e letters XR K X s) 0))) else (if e.Op=(6:Int) then False else (if e.Op=(7:Int) then (e.Kids.length≤mx→(if (e.Kids.length:Int)=1 then (LoopWP (S:=Nat) (fun s X=>J39 e letters XR K X s) 0) else False)) else False)))))) else False))
def J4y (e:Expr) (letters:Int) (K:Bool→Prop):Prop:=∀X:Expr→Int→(Bool→Prop)→Prop,(∀(e:Expr) (letters:Int) (K:Bool→Prop),J1Y X e letters K→X e letters K)→X e letters K
def J1r (e:Expr) (letters:Int) (K:Int→Prop):Prop:=
 (if letters<(1:Int) then False else (if 6<letters then False else (J1k e fun r6=>(if r6=true then (J4y e letters fun r8=>(if r8=true then (K 0) else False)) else False))))
def J3I (e:Expr) (K:Bool→Prop):Prop:=
 (J1r e 6 fun r4=>(if r4=0 then (K true) else False))
def J2K (e:Expr) (K:Bool→Prop):Prop:=
 (if e.Op=(1:Int) then (K true) else (K false))
def J10 (e:Expr) (K:Bool→Prop):Prop:=
 (if e.Op=(8:Int) then False else (K false))
def J3F (K:Expr→Prop):Prop:=
 (K ((⟨1,0,([]:List Expr)⟩:Expr)))
def J5m (op:Int) (kids:List Expr) (K:List Expr→Prop) (X1:Nat→List Expr→Prop) (a:Nat) (b:List Expr):Prop:=
 (if (a:Int)<kids.length then (Bd a kids.length (if ((ix kids a).Op)=op then False else (b.length+([(⟨((ix kids a).Op),((ix kids a).Letter),(ix kids a).Kids⟩:Expr)]).length≤1099511627776∧(X1 (a+1) (b++([(⟨((ix kids a).Op),((ix kids a).Letter),(ix kids a).Kids⟩:Expr)])))))) else (K b))
def J2N (op:Int) (kids:List Expr) (K:List Expr→Prop):Prop:=
 (kids.length≤mx→(LoopWP (S:=Nat×List Expr) (fun s X=>J5m op kids K (fun b a=>X (b,a)) s.1 s.2) (0,([]:List Expr))))
def J1T (x:Int) (K:Int→Prop):Prop:=
 (if 4294967296≤x then False else (if 65536≤x then False else (if 256≤x then False else (Bd (IntKind.u8.wrap x) ((([0,1,2,2,3,3,3,3,4,4,4,4,4,4,4,4,5,5,5,5,5,5,5,5,5,5,5,5,5,5,5,5,6,6,6,6,6,6,6,6,6,6,6,6,6,6,6,6,6,6,6,6,6,6,6,6,6,6,6,6,6,6,6,6,7,7,7,7,7,7,7,7,7,7,7,7,7,7,7,7,7,7,7,7,7,7,7,7,7,7,7,7,7,7,7,7,7,7,7,7,7,7,7,7,7,7,7,7,7,7,7,7,7,7,7,7,7,7,7,7,7,7,7,7,7,7,7,7,8,8,8,8,8,8,8,8,8,8,8,8,8,8,8,8,8,8,8,8,8,8,8,8,8,8,8,8,8,8,8,8,8,8,8,8,8,8,8,8,8,8,8,8,8,8,8,8,8,8,8,8,8,8,8,8,8,8,8,8,8,8,8,8,8,8,8,8,8,8,8,8,8,8,8,8,8,8,8,8,8,8,8,8,8,8,8,8,8,8,8,8,8,8,8,8,8,8,8,8,8,8,8,8,8,8,8,8,8,8,8,8,8,8,8,8,8,8,8,8,8,8,8,8,8,8,8,8]:Str)).length:Int) (I64 ((0:Int)+((ix (([0,1,2,2,3,3,3,3,4,4,4,4,4,4,4,4,5,5,5,5,5,5,5,5,5,5,5,5,5,5,5,5,6,6,6,6,6,6,6,6,6,6,6,6,6,6,6,6,6,6,6,6,6,6,6,6,6,6,6,6,6,6,6,6,7,7,7,7,7,7,7,7,7,7,7,7,7,7,7,7,7,7,7,7,7,7,7,7,7,7,7,7,7,7,7,7,7,7,7,7,7,7,7,7,7,7,7,7,7,7,7,7,7,7,7,7,7,7,7,7,7,7,7,7,7,7,7,7,8,8,8,8,8,8,8,8,8,8,8,8,8,8,8,8,8,8,8,8,8,8,8,8,8,8,8,8,8,8,8,8,8,8,8,8,8,8,8,8,8,8,8,8,8,8,8,8,8,8,8,8,8,8,8,8,8,8,8,8,8,8,8,8,8,8,8,8,8,8,8,8,8,8,8,8,8,8,8,8,8,8,8,8,8,8,8,8,8,8,8,8,8,8,8,8,8,8,8,8,8,8,8,8,8,8,8,8,8,8,8,8,8,8,8,8,8,8,8,8,8,8,8,8,8,8,8,8]:Str)) (IntKind.u8.wrap x)).toNat:Int))∧(K (((0:Int)+((ix (([0,1,2,2,3,3,3,3,4,4,4,4,4,4,4,4,5,5,5,5,5,5,5,5,5,5,5,5,5,5,5,5,6,6,6,6,6,6,6,6,6,6,6,6,6,6,6,6,6,6,6,6,6,6,6,6,6,6,6,6,6,6,6,6,7,7,7,7,7,7,7,7,7,7,7,7,7,7,7,7,7,7,7,7,7,7,7,7,7,7,7,7,7,7,7,7,7,7,7,7,7,7,7,7,7,7,7,7,7,7,7,7,7,7,7,7,7,7,7,7,7,7,7,7,7,7,7,7,8,8,8,8,8,8,8,8,8,8,8,8,8,8,8,8,8,8,8,8,8,8,8,8,8,8,8,8,8,8,8,8,8,8,8,8,8,8,8,8,8,8,8,8,8,8,8,8,8,8,8,8,8,8,8,8,8,8,8,8,8,8,8,8,8,8,8,8,8,8,8,8,8,8,8,8,8,8,8,8,8,8,8,8,8,8,8,8,8,8,8,8,8,8,8,8,8,8,8,8,8,8,8,8,8,8,8,8,8,8,8,8,8,8,8,8,8,8,8,8,8,8,8,8,8,8,8,8]:Str)) (IntKind.u8.wrap x)).toNat:Int)))))))))
def J2V (x:Int) (K:Int→Prop):Prop:=
 (J1T x fun r1=>(K r1))
def J57 (parts:List Expr) (b:Int) (K:List Expr→Prop) (X2:Int→Prop) (a:Int):Prop:=
 (if a<b then False else (if (parts.length:Int)<2 then (K parts) else False))
def J5k (parts:List Expr) (K:List Expr→Prop) (X1:Int→Int→Int→Bool→Bool→Prop) (a:Int) (b:Int) (k1_8:Int) (b1_9:Bool) (b1_10:Bool):Prop:=
 (I64 (b-a)∧(if (b-a)≤(12:Int) then (I64 (a+1)∧(LoopWP (S:=Int) (fun s X=>J57 parts b K X s) (a+1))) else False))
def J2Q (parts:List Expr) (K:List Expr→Prop):Prop:=
 (parts.length≤mx→(J2V ((IntKind.u64.wrap (parts.length:Int))) fun r2=>(LoopWP (S:=Int×Int×Int×Bool×Bool) (fun s X=>J5k parts K (fun b c d e a=>X (b,c,d,e,a)) s.1 s.2.1 s.2.2.1 s.2.2.2.1 s.2.2.2.2) ((0:Int),(parts.length:Int),r2,true,true))))
def J1o (op:Int) (parts:List Expr) (none:Expr) (K:Expr→Prop):Prop:=
 (parts.length≤mx→(if (parts.length:Int)=0 then (K ((⟨none.Op,none.Letter,none.Kids⟩:Expr))) else (if (parts.length:Int)=1 then (Bd (0:Int) (parts.length:Int) (K ((⟨((ix parts (0:Int)).Op),((ix parts (0:Int)).Letter),(ix parts (0:Int)).Kids⟩:Expr)))) else (K ((⟨op,0,parts⟩:Expr))))))
def J3s (b:List Expr) (K:Expr→Prop) (X3:Nat→Nat→Prop) (a:Nat) (d:Nat):Prop:=
 (if (d:Int)<b.length then False else (0≤(a:Int)∧(a:Int)≤b.length∧(0≤(a:Int)∧(a:Int)≤((b.take (a:Int).toNat++List.replicate (b.length-(a:Int).toNat) ((default:Expr))).length:Int)∧(J2Q ((b.take (a:Int).toNat++List.replicate (b.length-(a:Int).toNat) ((default:Expr))).take ((a:Int)).toNat) fun e=>(J3F  fun f=>(J1o 4 e f fun c=>(K ((⟨c.Op,c.Letter,c.Kids⟩:Expr)))))))))
def J3N (b:List Expr) (K:Expr→Prop) (X2:Nat→Prop) (a:Nat):Prop:=
 (if (a:Int)<b.length then (Bd a b.length (J2K ((⟨((ix b a).Op),((ix b a).Letter),(ix b a).Kids⟩:Expr)) fun f=>(if f=true then (LoopWP (S:=Nat×Nat) (fun s X=>J3s b K (fun d e=>X (d,e)) s.1 s.2) (a,a+1)) else (X2 (a+1))))) else (J2Q b fun g=>(J3F  fun h=>(J1o 4 g h fun c=>(K ((⟨c.Op,c.Letter,c.Kids⟩:Expr)))))))
def J3E (kids:List Expr) (K:Expr→Prop) (X1:Nat→Prop) (a:Nat):Prop:=
 (if (a:Int)<kids.length then (Bd a kids.length (J10 ((⟨((ix kids a).Op),((ix kids a).Letter),(ix kids a).Kids⟩:Expr)) fun b=>(if b=true then False else (X1 (a+1))))) else (J2N 4 kids fun c=>(LoopWP (S:=Nat) (fun s X=>J3N c K X s) 0)))
def J2a (kids:List Expr) (K:Expr→Prop):Prop:=
 (kids.length≤mx→(LoopWP (S:=Nat) (fun s X=>J3E kids K X s) 0))
def J3H (e:Expr) (K:Bool→Prop):Prop:=
 (if e.Op=(2:Int) then (K true) else (K false))
def J66 (K:Expr→Prop):Prop:=
 (K ((⟨2,0,([]:List Expr)⟩:Expr)))
def J30 (K:Expr→Prop) (X3:Nat→Nat→List Expr→Prop) (b:Nat) (c:Nat) (a:List Expr):Prop:=
 (if (c:Int)<a.length then (Bd c a.length (J3H ((⟨((ix a c).Op),((ix a c).Letter),(ix a c).Kids⟩:Expr)) fun e=>(if e=true then False else (Bd b a.length (I64 (b+(1:Int))∧(I64 (c+(1:Int))∧(X3 (b+1) (c+1) (st a b (⟨((ix a c).Op),((ix a c).Letter),(ix a c).Kids⟩:Expr))))))))) else (0≤(b:Int)∧(b:Int)≤a.length∧(0≤(b:Int)∧(b:Int)≤((a.take (b:Int).toNat++List.replicate (a.length-(b:Int).toNat) ((default:Expr))).length:Int)∧(J66  fun f=>(J1o 5 ((a.take (b:Int).toNat++List.replicate (a.length-(b:Int).toNat) ((default:Expr))).take ((b:Int)).toNat) f fun d=>(K ((⟨d.Op,d.Letter,d.Kids⟩:Expr))))))))
def J3c (b:List Expr) (K:Expr→Prop) (X2:Nat→Prop) (a:Nat):Prop:=
 (if (a:Int)<b.length then (Bd a b.length (J3H ((⟨((ix b a).Op),((ix b a).Letter),(ix b a).Kids⟩:Expr)) fun h=>(if h=true then (LoopWP (S:=Nat×Nat×List Expr) (fun s X=>J30  K (fun d e f=>X (d,e,f)) s.1 s.2.1 s.2.2) (a,a+1,b)) else (X2 (a+1))))) else (J66  fun g=>(J1o 5 b g fun c=>(K ((⟨c.Op,c.Letter,c.Kids⟩:Expr))))))
def J35 (kids:List Expr) (K:Expr→Prop) (X1:Nat→Prop) (a:Nat):Prop:=
 (if (a:Int)<kids.length then (Bd a kids.length (J2K ((⟨((ix kids a).Op),((ix kids a).Letter),(ix kids a).Kids⟩:Expr)) fun c=>(if c=true then (J3F  fun b=>(K ((⟨b.Op,b.Letter,b.Kids⟩:Expr)))) else (X1 (a+1))))) else (J2N 5 kids fun d=>(LoopWP (S:=Nat) (fun s X=>J3c d K X s) 0)))
def J1R (kids:List Expr) (K:Expr→Prop):Prop:=
 (kids.length≤mx→(LoopWP (S:=Nat) (fun s X=>J35 kids K X s) 0))
def J29 (a0:Int) (a1:List Expr) (K:Expr→Prop):Prop:=
 (if a0=(4:Int) then (J2a a1 fun r5=>(K ((⟨r5.Op,r5.Letter,r5.Kids⟩:Expr)))) else (if a0=(5:Int) then (J1R a1 fun r9=>(K ((⟨r9.Op,r9.Letter,r9.Kids⟩:Expr)))) else (if a0=(6:Int) then False else (a1.length≤mx→(if (a1.length:Int)=(1:Int) then (Bd (0:Int) (a1.length:Int) (if a0=(8:Int) then False else (if a0=(7:Int) then (if ((ix a1 (0:Int)).Op)=(1:Int) then False else (if ((ix a1 (0:Int)).Op)=(2:Int) then False else (if ((ix a1 (0:Int)).Op)=(7:Int) then False else (J10 ((⟨((ix a1 (0:Int)).Op),((ix a1 (0:Int)).Letter),(ix a1 (0:Int)).Kids⟩:Expr)) fun a=>(if a=true then False else (K ((⟨7,0,[(⟨((ix a1 (0:Int)).Op),((ix a1 (0:Int)).Letter),(ix a1 (0:Int)).Kids⟩:Expr)]⟩:Expr)))))))) else False))) else False)))))
def J4g (e:Expr) (XR:Expr→(Expr→Prop)→Prop) (K:Expr→Prop) (X1:Nat→List Expr→Prop) (a:Nat) (b:List Expr):Prop:=
 (if (a:Int)<e.Kids.length then (Bd a e.Kids.length (XR ((⟨((ix e.Kids a).Op),((ix e.Kids a).Letter),(ix e.Kids a).Kids⟩:Expr)) fun d=>(Bd a b.length (X1 (a+1) (st b a d))))) else (J29 e.Op b fun c=>(K ((⟨c.Op,c.Letter,c.Kids⟩:Expr)))))
def J36 (XR:Expr→(Expr→Prop)→Prop) (e:Expr) (K:Expr→Prop):Prop:=
 (e.Kids.length≤mx→(if (e.Kids.length:Int)=0 then (K ((⟨e.Op,e.Letter,([]:List Expr)⟩:Expr))) else (0≤(e.Kids.length:Int)∧(e.Kids.length:Int)≤1099511627776∧(LoopWP (S:=Nat×List Expr) (fun s X=>J4g e XR K (fun b a=>X (b,a)) s.1 s.2) (0,List.replicate e.Kids.length ((default:Expr)))))))
def J6w (e:Expr) (K:Expr→Prop):Prop:=∀X:Expr→(Expr→Prop)→Prop,(∀(e:Expr) (K:Expr→Prop),J36 X e K→X e K)→X e K
def J4C (e:Expr) (K:Expr→Prop):Prop:=
 (J3I e fun r7=>(if r7=true then (J6w e fun r9=>(K ((⟨r9.Op,r9.Letter,r9.Kids⟩:Expr)))) else False))
def J06 (b:Builder) (K:Builder→Prop):Prop:=
 (if b.addr=true then (K  b) else (K  ((⟨true,b.buf⟩:Builder))))
def J3D (op:Int) (K:Int→Prop):Prop:=
 (if op=(4:Int) then False else (if op=(6:Int) then False else (if op=(5:Int) then (K 3) else (if op=(8:Int) then False else (if op=(7:Int) then (K 5) else (K 6))))))
def J6B (e:Expr) (XR:Builder→Expr→(Builder→Prop)→Prop) (K:Builder→Prop) (X1:Nat→Bool→List Int→Prop) (a:Nat) (b:Bool) (c:List Int):Prop:=
 (if (a:Int)<e.Kids.length then (Bd a e.Kids.length (if 0<(a:Int) then (J06 ((⟨b,c⟩:Builder)) fun q54=>((([]:Str)).length≤mx→(J3D (((ix e.Kids a).Op)) fun d=>(if 4≤d then (XR q54 ((⟨((ix e.Kids a).Op),((ix e.Kids a).Letter),(ix e.Kids a).Kids⟩:Expr)) fun q64=>(X1 (a+1) q64.addr q64.buf)) else False)))) else (J3D (((ix e.Kids a).Op)) fun f=>(if 4≤f then (XR ((⟨b,c⟩:Builder)) ((⟨((ix e.Kids a).Op),((ix e.Kids a).Letter),(ix e.Kids a).Kids⟩:Expr)) fun q71=>(X1 (a+1) q71.addr q71.buf)) else False)))) else (K  ((⟨b,c⟩:Builder))))
def J6f (e:Expr) (XR:Builder→Expr→(Builder→Prop)→Prop) (K:Builder→Prop) (X2:Nat→Bool→List Int→Prop) (a:Nat) (b:Bool) (c:List Int):Prop:=
 (if (a:Int)<e.Kids.length then (Bd a e.Kids.length (if 0<(a:Int) then False else (J3D (((ix e.Kids a).Op)) fun d=>(if 5≤d then False else (J06 ((⟨b,c⟩:Builder)) fun q106=>(q106.buf.length+([(40:Int)]).length≤1099511627776∧(XR ((⟨q106.addr,q106.buf++([(40:Int)])⟩:Builder)) ((⟨((ix e.Kids a).Op),((ix e.Kids a).Letter),(ix e.Kids a).Kids⟩:Expr)) fun q114=>(J06 q114 fun q119=>(q119.buf.length+([(41:Int)]).length≤1099511627776∧(X2 (a+1) q119.addr (q119.buf++([(41:Int)])))))))))))) else (J06 ((⟨b,c⟩:Builder)) fun q128=>(q128.buf.length+([(42:Int)]).length≤1099511627776∧(K  ((⟨q128.addr,q128.buf++([(42:Int)])⟩:Builder))))))
def J5A (XR:Builder→Expr→(Builder→Prop)→Prop) (text:Builder) (e:Expr) (K:Builder→Prop):Prop:=
 (if e.Op=(1:Int) then (J06 text fun q6=>(q6.buf.length+([(48:Int)]).length≤1099511627776∧(K  ((⟨q6.addr,q6.buf++([(48:Int)])⟩:Builder))))) else (if e.Op=(2:Int) then False else (if e.Op=(3:Int) then (J06 text fun q17=>(q17.buf.length+([(IntKind.u8.wrap ((97:Int)+(IntKind.u8.wrap e.Letter)))]).length≤1099511627776∧(K  ((⟨q17.addr,q17.buf++([(IntKind.u8.wrap ((97:Int)+(IntKind.u8.wrap e.Letter)))])⟩:Builder))))) else (if e.Op=(4:Int) then False else (if e.Op=(6:Int) then False else (if e.Op=(5:Int) then (e.Kids.length≤mx→(LoopWP (S:=Nat×Bool×List Int) (fun s X=>J6B e XR K (fun a b f=>X (a,b,f)) s.1 s.2.1 s.2.2) (0,text.addr,text.buf))) else (if e.Op=(8:Int) then False else (if e.Op=(7:Int) then (e.Kids.length≤mx→(LoopWP (S:=Nat×Bool×List Int) (fun s X=>J6f e XR K (fun c d g=>X (c,d,g)) s.1 s.2.1 s.2.2) (0,text.addr,text.buf))) else False))))))))
def J91 (text:Builder) (e:Expr) (K:Builder→Prop):Prop:=∀X:Builder→Expr→(Builder→Prop)→Prop,(∀(text:Builder) (e:Expr) (K:Builder→Prop),J5A X text e K→X text e K)→X text e K
def J1p (e:Expr) (K:Str→Prop):Prop:=
 (J3I e fun r4=>(if r4=true then (J91 ((⟨false,([]:List Int)⟩:Builder)) e fun q10=>(q10.buf≠[]∧(isBytes q10.buf∧(K (bytesOf q10.buf))))) else False))
def J0O (g:Bool) (b:List Expr) (d:List Expr) (K:derived→Prop) (X2:Nat→List Expr→Prop) (a:Nat) (c:List Expr):Prop:=
 (if (a:Int)<b.length then (Bd a b.length (if ((ix b a).Op)=(1:Int) then (Bd a c.length (X2 (a+1) (st c a (⟨((ix b a).Op),((ix b a).Letter),(ix b a).Kids⟩:Expr)))) else (0≤(a+1:Int)∧(a+1:Int)≤(d.length:Int)∧(([(⟨((ix b a).Op),((ix b a).Letter),(ix b a).Kids⟩:Expr)]).length+(d.drop (a+1:Int).toNat).length≤1099511627776∧(J29 5 (([(⟨((ix b a).Op),((ix b a).Letter),(ix b a).Kids⟩:Expr)])++(d.drop (a+1:Int).toNat)) fun h=>(Bd a c.length (X2 (a+1) (st c a h)))))))) else (J29 4 c fun e=>(J29 5 d fun f=>(K ((⟨(⟨e.Op,e.Letter,e.Kids⟩:Expr),(⟨f.Op,f.Letter,f.Kids⟩:Expr),g⟩:derived))))))
def J0P (a0:deriver) (a1:Expr) (XR:deriver→Expr→(derived→Prop)→Prop) (K:derived→Prop) (X1:Bool→Nat→List Expr→List Expr→Prop) (f:Bool) (a:Nat) (c:List Expr) (d:List Expr):Prop:=
 (if (a:Int)<a1.Kids.length then (Bd a a1.Kids.length (if f=true then (XR a0 ((⟨((ix a1.Kids a).Op),((ix a1.Kids a).Letter),(ix a1.Kids a).Kids⟩:Expr)) fun b=>(((c.length+([b.by_]).length≤1099511627776∧((Bd a d.length (if b.nullable=true then False else (X1 false (a+1) (c++([b.by_])) (st d a b.self))))∧(if b.nullable=true then False else (Bd a d.length (X1 false (a+1) (c++([b.by_])) (st d a b.self))))))∧((c.length+([b.by_]).length≤1099511627776∧(Bd a d.length (if b.nullable=true then False else (X1 false (a+1) (c++([b.by_])) (st d a b.self)))))∧(if b.nullable=true then False else (c.length+([b.by_]).length≤1099511627776∧(Bd a d.length (X1 false (a+1) (c++([b.by_])) (st d a b.self))))))∧(if b.nullable=true then False else (c.length+([b.by_]).length≤1099511627776∧(Bd a d.length (X1 false (a+1) (c++([b.by_])) (st d a b.self))))))∧(((c.length+([b.by_]).length≤1099511627776∧(Bd a d.length (if b.nullable=true then False else (X1 false (a+1) (c++([b.by_])) (st d a b.self)))))∧(if b.nullable=true then False else (c.length+([b.by_]).length≤1099511627776∧(Bd a d.length (X1 false (a+1) (c++([b.by_])) (st d a b.self))))))∧(if b.nullable=true then False else (c.length+([b.by_]).length≤1099511627776∧(Bd a d.length (X1 false (a+1) (c++([b.by_])) (st d a b.self))))))∧(if b.nullable=true then False else (c.length+([b.by_]).length≤1099511627776∧(Bd a d.length (X1 false (a+1) (c++([b.by_])) (st d a b.self))))))) else (if a0.normal=true then (Bd a d.length (X1 false (a+1) c (st d a (⟨((ix a1.Kids a).Op),((ix a1.Kids a).Letter),(ix a1.Kids a).Kids⟩:Expr)))) else False))) else (0≤(c.length:Int)∧(c.length:Int)≤1099511627776∧(LoopWP (S:=Nat×List Expr) (fun s X=>J0O f c d K (fun g h=>X (g,h)) s.1 s.2) (0,List.replicate c.length ((default:Expr))))))
def J0y (XR:deriver→Expr→(derived→Prop)→Prop) (a0:deriver) (a1:Expr) (K:derived→Prop):Prop:=
 (if a1.Op=(2:Int) then False else (if a1.Op=(3:Int) then (if a1.Letter=a0.letter then (K ((⟨(⟨2,0,([]:List Expr)⟩:Expr),(⟨3,a1.Letter,([]:List Expr)⟩:Expr),false⟩:derived))) else (K ((⟨(⟨1,0,([]:List Expr)⟩:Expr),(⟨3,a1.Letter,([]:List Expr)⟩:Expr),false⟩:derived)))) else (if a1.Op=(4:Int) then False else (if a1.Op=(6:Int) then False else (if a1.Op=(8:Int) then False else (if a1.Op=(7:Int) then (Bd (0:Int) (a1.Kids.length:Int) (XR a0 ((⟨((ix a1.Kids (0:Int)).Op),((ix a1.Kids (0:Int)).Letter),(ix a1.Kids (0:Int)).Kids⟩:Expr)) fun g=>(J29 7 ([g.self]) fun a=>(J29 5 ([g.by_,a]) fun b=>(K ((⟨(⟨b.Op,b.Letter,b.Kids⟩:Expr),(⟨a.Op,a.Letter,a.Kids⟩:Expr),true⟩:derived))))))) else (if a1.Op=(5:Int) then (a1.Kids.length≤mx→(0≤(a1.Kids.length:Int)∧(a1.Kids.length:Int)≤1099511627776∧(LoopWP (S:=Bool×Nat×List Expr×List Expr) (fun s X=>J0P a0 a1 XR K (fun c d e f=>X (c,d,e,f)) s.1 s.2.1 s.2.2.1 s.2.2.2) (true,0,([]:List Expr),List.replicate a1.Kids.length ((default:Expr)))))) else (K ((⟨(⟨1,0,([]:List Expr)⟩:Expr),(⟨1,0,([]:List Expr)⟩:Expr),false⟩:derived))))))))))
def J1a (a0:deriver) (a1:Expr) (K:derived→Prop):Prop:=∀X:deriver→Expr→(derived→Prop)→Prop,(∀(a0:deriver) (a1:Expr) (K:derived→Prop),J0y X a0 a1 K→X a0 a1 K)→X a0 a1 K
def J2h (d:derived) (K:Expr→Int→Prop):Prop:=
 (J1r d.by_ 6 fun r7=>(if r7=0 then (K ((⟨d.by_.Op,d.by_.Letter,d.by_.Kids⟩:Expr)) 0) else False))
def J1i (e:Expr) (letter:Int) (K:Expr→Int→Prop):Prop:=
 (J1a ((⟨letter,true⟩:deriver)) e fun r7=>(J2h r7 fun r9 a=>(K ((⟨r9.Op,r9.Letter,r9.Kids⟩:Expr)) a)))
def J5e (e:Expr) (XR:Expr→(Bool→Prop)→Prop) (K:Bool→Prop) (X1:Nat→Prop) (a:Nat):Prop:=
 (if (a:Int)<e.Kids.length then (Bd a e.Kids.length (XR ((⟨((ix e.Kids a).Op),((ix e.Kids a).Letter),(ix e.Kids a).Kids⟩:Expr)) fun b=>(if b=true then False else (K false)))) else False)
def J3S (XR:Expr→(Bool→Prop)→Prop) (e:Expr) (K:Bool→Prop):Prop:=
 (if e.Op=(2:Int) then False else (if e.Op=(7:Int) then (K true) else (if e.Op=(4:Int) then False else (if e.Op=(5:Int) then (e.Kids.length≤mx→(LoopWP (S:=Nat) (fun s X=>J5e e XR K X s) 0)) else (if e.Op=(6:Int) then False else (if e.Op=(8:Int) then False else (K false)))))))
def J5E (e:Expr) (K:Bool→Prop):Prop:=∀X:Expr→(Bool→Prop)→Prop,(∀(e:Expr) (K:Bool→Prop),J3S X e K→X e K)→X e K
def J4Q (letters:Int) (e:List (List Int)) (b:List Expr) (K:DFA→Int→Prop) (X2:Nat→List Bool→Prop) (a:Nat) (c:List Bool):Prop:=
 (if (a:Int)<b.length then (Bd a b.length (J5E ((⟨((ix b a).Op),((ix b a).Letter),(ix b a).Kids⟩:Expr)) fun d=>(c.length+([d]).length≤1099511627776∧(X2 (a+1) (c++([d])))))) else (K ((⟨letters,0,c,e⟩:DFA)) 0))
def J4N (letters:Int) (d:Int) (g:List (List Int)) (X1:Int→List (List Int)→List Expr→List (Str×Int)→Prop) (K:DFA→Int→Prop) (X3:Nat→List Int→List Expr→List (Str×Int)→Prop) (b:Nat) (e:List Int) (a:List Expr) (c:List (Str×Int)):Prop:=
 (if (b:Int)<((List.replicate letters.toNat ((0:Int))).length:Int) then (Bd d (a.length:Int) (J1i ((⟨((ix a d).Op),((ix a d).Letter),(ix a d).Kids⟩:Expr)) ((b:Int)) fun f i=>(if i=0 then (J1p f fun h=>(if mhas c h=true then (Bd (b:Int) (e.length:Int) (I64 ((b:Int)+(1:Int))∧(X3 (b+1) (st e (b:Int) (mgt c h)) a c))) else (if (a.length:Int)=512 then False else (J1p f fun j=>(a.length+([(⟨(0:Int),(0:Int),[]⟩:Expr)]).length≤1099511627776∧(Bd (a.length:Int) ((a++([(⟨(0:Int),(0:Int),[]⟩:Expr)])).length:Int) (Bd (b:Int) (e.length:Int) (I64 ((b:Int)+(1:Int))∧(X3 (b+1) (st e (b:Int) (a.length:Int)) (st (a++([(⟨(0:Int),(0:Int),[]⟩:Expr)])) (a.length:Int) f) (mput c j ((a.length:Int)))))))))))) else False))) else (g.length+([e]).length≤1099511627776∧(I64 (d+(1:Int))∧(X1 ((d+(1:Int))) (g++([e])) a c))))
def J4v (letters:Int) (K:DFA→Int→Prop) (X1:Int→List (List Int)→List Expr→List (Str×Int)→Prop) (b:Int) (c:List (List Int)) (a:List Expr) (f:List (Str×Int)):Prop:=
 (if b=(a.length:Int) then (LoopWP (S:=Nat×List Bool) (fun s X=>J4Q letters c a K (fun g h=>X (g,h)) s.1 s.2) (0,([]:List Bool))) else (0≤letters∧letters≤1099511627776∧(LoopWP (S:=Nat×List Int×List Expr×(List (Str×Int))) (fun s X=>J4N letters b c X1 K (fun d i j e=>X (d,i,j,e)) s.1 s.2.1 s.2.2.1 s.2.2.2) (0,List.replicate letters.toNat 0,a,f))))
def J54 (letters:Int) (e:List (List Int)) (b:List Expr) (K:DFA→Int→Prop) (X5:Nat→List Bool→Prop) (a:Nat) (c:List Bool):Prop:=
 (if (a:Int)<b.length then (Bd a b.length (J5E ((⟨((ix b a).Op),((ix b a).Letter),(ix b a).Kids⟩:Expr)) fun d=>(c.length+([d]).length≤1099511627776∧(X5 (a+1) (c++([d])))))) else (K ((⟨letters,0,c,e⟩:DFA)) 0))
def J51 (letters:Int) (c:Int) (g:List (List Int)) (X4:Int→List (List Int)→List Expr→List (Str×Int)→Prop) (K:DFA→Int→Prop) (X6:Nat→List Int→List Expr→List (Str×Int)→Prop) (b:Nat) (e:List Int) (a:List Expr) (d:List (Str×Int)):Prop:=
 (if (b:Int)<((List.replicate letters.toNat ((0:Int))).length:Int) then (Bd c (a.length:Int) (J1i ((⟨((ix a c).Op),((ix a c).Letter),(ix a c).Kids⟩:Expr)) ((b:Int)) fun f i=>(if i=0 then (J1p f fun h=>(if mhas d h=true then (Bd (b:Int) (e.length:Int) (I64 ((b:Int)+(1:Int))∧(X6 (b+1) (st e (b:Int) (mgt d h)) a d))) else (if (a.length:Int)=512 then False else (J1p f fun j=>(a.length+([(⟨(0:Int),(0:Int),[]⟩:Expr)]).length≤1099511627776∧(Bd (a.length:Int) ((a++([(⟨(0:Int),(0:Int),[]⟩:Expr)])).length:Int) (Bd (b:Int) (e.length:Int) (I64 ((b:Int)+(1:Int))∧(X6 (b+1) (st e (b:Int) (a.length:Int)) (st (a++([(⟨(0:Int),(0:Int),[]⟩:Expr)])) (a.length:Int) f) (mput d j ((a.length:Int)))))))))))) else False))) else (g.length+([e]).length≤1099511627776∧(I64 (c+(1:Int))∧(X4 ((c+(1:Int))) (g++([e])) a d))))
def J4K (letters:Int) (K:DFA→Int→Prop) (X4:Int→List (List Int)→List Expr→List (Str×Int)→Prop) (b:Int) (c:List (List Int)) (a:List Expr) (d:List (Str×Int)):Prop:=
 (if b=(a.length:Int) then (LoopWP (S:=Nat×List Bool) (fun s X=>J54 letters c a K (fun e h=>X (e,h)) s.1 s.2) (0,([]:List Bool))) else (0≤letters∧letters≤1099511627776∧(LoopWP (S:=Nat×List Int×List Expr×(List (Str×Int))) (fun s X=>J51 letters b c X4 K (fun f i j g=>X (f,i,j,g)) s.1 s.2.1 s.2.2.1 s.2.2.2) (0,List.replicate letters.toNat 0,a,d))))
def J3V (e:Expr) (letters:Int) (K:DFA→Int→Prop):Prop:=
 (J1r e letters fun r7=>(if r7=0 then (J4C e fun a=>(J1p a fun i=>((([]:List Expr)).length+([(⟨0,0,[]⟩:Expr)]).length≤1099511627776∧(Bd (0:Int) (((([]:List Expr))++([(⟨0,0,[]⟩:Expr)])).length:Int) ((LoopWP (S:=Int×List (List Int)×List Expr×(List (Str×Int))) (fun s X=>J4v letters K (fun d j k f=>X (d,j,k,f)) s.1 s.2.1 s.2.2.1 s.2.2.2) ((0:Int),([]:List (List Int)),st ((([]:List Expr))++([(⟨0,0,[]⟩:Expr)])) (0:Int) a,mput (([]:List (Str×Int))) i 0))∧(LoopWP (S:=Int×List (List Int)×List Expr×(List (Str×Int))) (fun s X=>J4K letters K (fun b g h c=>X (b,g,h,c)) s.1 s.2.1 s.2.2.1 s.2.2.2) ((0:Int),([]:List (List Int)),st ((([]:List Expr))++([(⟨0,0,[]⟩:Expr)])) (0:Int) a,mput (([]:List (Str×Int))) i 0))))))) else False))
def J4H (d:DFA) (a:Nat) (X1:Nat→Prop) (K:Int→Prop) (X2:Nat→Prop) (b:Nat):Prop:=
 (if (b:Int)<((ix d.Next a).length:Int) then (Bd b ((ix d.Next a).length:Int) (if (ix (ix d.Next a) b)<0 then (K 4) else (if (d.Final.length:Int)≤(ix (ix d.Next a) b) then (K 4) else (X2 (b+1))))) else (X1 (a+1)))
def J4W (d:DFA) (K:Int→Prop) (X1:Nat→Prop) (a:Nat):Prop:=
 (if (a:Int)<d.Next.length then (Bd a d.Next.length ((ix d.Next a).length≤mx→(if ((ix d.Next a).length:Int)=d.Letters then (LoopWP (S:=Nat) (fun s X=>J4H d a X1 K X s) 0) else (K 4)))) else (K 0))
def J11 (d:DFA) (K:Int→Prop):Prop:=
 (if d.Letters<(1:Int) then (K 1) else (if 6<d.Letters then (K 1) else (d.Final.length≤mx→(if 512<(d.Final.length:Int) then (K 3) else (d.Next.length≤mx→(if (d.Next.length:Int)=d.Final.length then (if d.Start<(0:Int) then (K 4) else (if (d.Final.length:Int)≤d.Start then (K 4) else (LoopWP (S:=Nat) (fun s X=>J4W d K X s) 0))) else (K 4)))))))
def JbA (a:List Int) (K:DFA→List Int→Prop) (X4:Nat→Prop) (k4_110:Nat):Prop:=
 (K ((⟨0,0,([]:List Bool),([]:List (List Int))⟩:DFA)) a)
def JbU (d:DFA) (K:DFA→List Int→Prop) (X3:Nat→List Int→Prop) (b:Nat) (a:List Int):Prop:=
 (if (b:Int)<((List.replicate d.Final.length ((0:Int))).length:Int) then (Bd (b:Int) (a.length:Int) (I64 ((b:Int)+(1:Int))∧(X3 (b+1) (st a (b:Int) (-1:Int))))) else (LoopWP (S:=Nat) (fun s X=>JbA a K X s) 0))
def Ja2 (d:DFA) (b:Nat) (i:List (List Int)) (j:List Bool) (c:List Int) (X1:Nat→List (List Int)→List Bool→List Int→List (Int×Int)→Prop) (K:DFA→List Int→Prop) (X2:Nat→List Int→List Int→List (Int×Int)→Prop) (a:Nat) (g:List Int) (e:List Int) (f:List (Int×Int)):Prop:=
 (if (a:Int)<((List.replicate d.Letters.toNat ((0:Int))).length:Int) then (Bd (ix c (b:Int)) (d.Next.length:Int) (Bd (a:Int) ((ix d.Next (ix c (b:Int))).length:Int) (if mhas f ((ix (ix d.Next (ix c (b:Int))) (a:Int)))=true then (Bd (a:Int) (g.length:Int) (I64 ((a:Int)+(1:Int))∧(X2 (a+1) (st g (a:Int) (mgt f ((ix (ix d.Next (ix c (b:Int))) (a:Int))))) e f))) else (e.length+([(ix (ix d.Next (ix c (b:Int))) (a:Int))]).length≤1099511627776∧(Bd (a:Int) (g.length:Int) (I64 ((a:Int)+(1:Int))∧(X2 (a+1) (st g (a:Int) (e.length:Int)) (e++([(ix (ix d.Next (ix c (b:Int))) (a:Int))])) (mput f ((ix (ix d.Next (ix c (b:Int))) (a:Int))) ((e.length:Int)))))))))) else (if 512<(e.length:Int) then (d.Final.length≤mx→(0≤(d.Final.length:Int)∧(d.Final.length:Int)≤1099511627776∧(LoopWP (S:=Nat×List Int) (fun s X=>JbU d K (fun k h=>X (k,h)) s.1 s.2) (0,List.replicate d.Final.length ((0:Int)))))) else (i.length+([g]).length≤1099511627776∧(Bd (ix c (b:Int)) (d.Final.length:Int) (j.length+([ix d.Final (ix c (b:Int))]).length≤1099511627776∧(I64 ((b:Int)+(1:Int))∧(X1 (b+1) (i++([g])) (j++([ix d.Final (ix c (b:Int))])) e f)))))))
def J7R (d:DFA) (e:List (List Int)) (f:List Bool) (c:List Int) (K:DFA→List Int→Prop) (X6:Nat→List Int→Prop) (b:Nat) (a:List Int):Prop:=
 (if (b:Int)<c.length then (Bd b c.length (Bd (ix c b) (a.length:Int) (X6 (b+1) (st a (ix c b) (b:Int))))) else (K ((⟨d.Letters,0,f,e⟩:DFA)) a))
def J8j (d:DFA) (f:List (List Int)) (g:List Bool) (h:List Int) (K:DFA→List Int→Prop) (X5:Nat→List Int→Prop) (b:Nat) (a:List Int):Prop:=
 (if (b:Int)<((List.replicate d.Final.length ((0:Int))).length:Int) then (Bd (b:Int) (a.length:Int) (I64 ((b:Int)+(1:Int))∧(X5 (b+1) (st a (b:Int) (-1:Int))))) else (LoopWP (S:=Nat×List Int) (fun s X=>J7R d f g h K (fun e c=>X (e,c)) s.1 s.2) (0,a)))
def JbH (d:DFA) (e:List (List Int)) (f:List Bool) (c:List Int) (K:DFA→List Int→Prop) (X8:Nat→List Int→Prop) (b:Nat) (a:List Int):Prop:=
 (if (b:Int)<c.length then (Bd b c.length (Bd (ix c b) (a.length:Int) (X8 (b+1) (st a (ix c b) (b:Int))))) else (K ((⟨d.Letters,0,f,e⟩:DFA)) a))
def JbV (d:DFA) (f:List (List Int)) (g:List Bool) (h:List Int) (K:DFA→List Int→Prop) (X7:Nat→List Int→Prop) (b:Nat) (a:List Int):Prop:=
 (if (b:Int)<((List.replicate d.Final.length ((0:Int))).length:Int) then (Bd (b:Int) (a.length:Int) (I64 ((b:Int)+(1:Int))∧(X7 (b+1) (st a (b:Int) (-1:Int))))) else (LoopWP (S:=Nat×List Int) (fun s X=>JbH d f g h K (fun e c=>X (e,c)) s.1 s.2) (0,a)))
def J9L (d:DFA) (K:DFA→List Int→Prop) (X1:Nat→List (List Int)→List Bool→List Int→List (Int×Int)→Prop) (e:Nat) (f:List (List Int)) (g:List Bool) (a:List Int) (j:List (Int×Int)):Prop:=
 (if (e:Int)<a.length then (Bd e a.length (0≤d.Letters∧d.Letters≤1099511627776∧(LoopWP (S:=Nat×List Int×List Int×(List (Int×Int))) (fun s X=>Ja2 d e f g a X1 K (fun k m n l=>X (k,m,n,l)) s.1 s.2.1 s.2.2.1 s.2.2.2) (0,List.replicate d.Letters.toNat 0,a,j)))) else ((d.Final.length≤mx→(0≤(d.Final.length:Int)∧(d.Final.length:Int)≤1099511627776∧(LoopWP (S:=Nat×List Int) (fun s X=>J8j d f g a K (fun h b=>X (h,b)) s.1 s.2) (0,List.replicate d.Final.length 0))))∧(d.Final.length≤mx→(0≤(d.Final.length:Int)∧(d.Final.length:Int)≤1099511627776∧(LoopWP (S:=Nat×List Int) (fun s X=>JbV d f g a K (fun i c=>X (i,c)) s.1 s.2) (0,List.replicate d.Final.length 0))))))
def J6k (d:DFA) (K:DFA→List Int→Prop):Prop:=
 (J11 d fun r7=>(if r7=0 then ((([]:List Int)).length+([d.Start]).length≤1099511627776∧(LoopWP (S:=Nat×List (List Int)×List Bool×List Int×(List (Int×Int))) (fun s X=>J9L d K (fun a c e f b=>X (a,c,e,f,b)) s.1 s.2.1 s.2.2.1 s.2.2.2.1 s.2.2.2.2) (0,([]:List (List Int)),([]:List Bool),(([]:List Int))++([d.Start]),mput (([]:List (Int×Int))) d.Start 0))) else (K ((⟨0,0,([]:List Bool),([]:List (List Int))⟩:DFA)) (([]:List Int)))))
def J2s (a0:DFA) (f:List Int) (a:Nat) (e:List Int) (d:List (AN 7×Int)) (X3:Nat→List Int→List (AN 7×Int)→Prop) (K:List Int→Prop) (X4:Nat→List Int→Prop) (b:Nat) (c:List Int):Prop:=
 (if (b:Int)<((ix a0.Next a).length:Int) then (Bd b ((ix a0.Next a).length:Int) (I64 ((1:Int)+(b:Int))∧(Bd (ix (ix a0.Next a) b) (f.length:Int) (c.length=7∧0≤((1:Int)+(b:Int))∧((1:Int)+(b:Int))<(7:Int)∧(X4 (b+1) (st c ((1:Int)+(b:Int)) (ix f (ix (ix a0.Next a) b)))))))) else (c.length=7∧(if mhas d ((toAN 7 c))=true then (Bd a e.length (X3 (a+1) (st e a (mgt d ((toAN 7 c)))) d)) else (c.length=7∧(Bd a e.length (X3 (a+1) (st e a (d.length:Int)) (mput d ((toAN 7 c)) ((d.length:Int)))))))))
def J4X (a0:DFA) (b:List Int) (e:Int) (X2:List Int→Int→Prop) (K:List Int→Prop) (X3:Nat→List Int→List (AN 7×Int)→Prop) (a:Nat) (d:List Int) (c:List (AN 7×Int)):Prop:=
 (if (a:Int)<a0.Next.length then (Bd a a0.Next.length (Bd a b.length ((([(0:Int),0,0,0,0,0,(0:Int)]:List Int)).length=7∧((ix a0.Next a).length≤mx→(LoopWP (S:=Nat×List Int) (fun s X=>J2s a0 b a d c X3 K (fun f g=>X (f,g)) s.1 s.2) (0,[(ix b a),0,0,0,0,0,(0:Int)])))))) else (if (c.length:Int)=e then (K d) else (X2 d ((c.length:Int)))))
def J2B (a0:DFA) (K:List Int→Prop) (X2:List Int→Int→Prop) (a:List Int) (b:Int):Prop:=
 (a.length≤mx→(0≤(a.length:Int)∧(a.length:Int)≤1099511627776∧(a0.Next.length≤mx→(LoopWP (S:=Nat×List Int×(List (AN 7×Int))) (fun s X=>J4X a0 a b X2 K (fun c e d=>X (c,e,d)) s.1 s.2.1 s.2.2) (0,List.replicate a.length 0,([]:List (AN 7×Int)))))))
def J4T (a0:DFA) (K:List Int→Prop) (X1:Int→Nat→List Int→Prop) (c:Int) (a:Nat) (b:List Int):Prop:=
 (if (a:Int)<a0.Final.length then (Bd a a0.Final.length (if ix a0.Final a=true then (Bd (0:Int) (a0.Final.length:Int) (if ix a0.Final (0:Int)=true then (X1 c (a+1) b) else (Bd a b.length (X1 2 (a+1) (st b a (1:Int)))))) else (Bd (0:Int) (a0.Final.length:Int) (if ix a0.Final (0:Int)=true then (Bd a b.length (X1 2 (a+1) (st b a (1:Int)))) else (X1 c (a+1) b))))) else (LoopWP (S:=List Int×Int) (fun s X=>J2B a0 K (fun d e=>X (d,e)) s.1 s.2) (b,c)))
def J1v (a0:DFA) (K:List Int→Prop):Prop:=
 (J11 a0 fun r4=>(if r4=0 then (a0.Final.length≤mx→(0≤(a0.Final.length:Int)∧(a0.Final.length:Int)≤1099511627776∧(LoopWP (S:=Int×Nat×List Int) (fun s X=>J4T a0 K (fun a b c=>X (a,b,c)) s.1 s.2.1 s.2.2) ((1:Int),0,List.replicate a0.Final.length 0)))) else (K (([]:List Int)))))
def J4V (r7:DFA) (f:List Int) (a:Nat) (d:List (List Int)) (e:List Bool) (X1:Nat→List (List Int)→List Bool→Prop) (K:DFA→List Int→Prop) (X2:Nat→List Int→Prop) (b:Nat) (c:List Int):Prop:=
 (if (b:Int)<((ix r7.Next a).length:Int) then (Bd b ((ix r7.Next a).length:Int) (Bd (ix (ix r7.Next a) b) (f.length:Int) (Bd b c.length (X2 (b+1) (st c b (ix f (ix (ix r7.Next a) b))))))) else (Bd a r7.Final.length (e.length+([ix r7.Final a]).length≤1099511627776∧(d.length+([c]).length≤1099511627776∧(X1 (a+1) (d++([c])) (e++([ix r7.Final a])))))))
def J4D (r8:List Int) (d:List Int) (c:DFA) (e:List Int) (K:DFA→List Int→Prop) (X3:Nat→List Int→Prop) (a:Nat) (b:List Int):Prop:=
 (if (a:Int)<r8.length then (Bd a r8.length (Bd a b.length (if 0≤(ix r8 a) then (Bd (ix r8 a) (d.length:Int) (Bd (ix d (ix r8 a)) (e.length:Int) (Bd a ((st b a (-1:Int)).length:Int) (X3 (a+1) (st (st b a (-1:Int)) a (ix e (ix d (ix r8 a)))))))) else (X3 (a+1) (st b a (-1:Int)))))) else (K ((⟨c.Letters,c.Start,c.Final,c.Next⟩:DFA)) b))
def J4u (a0:DFA) (r7:DFA) (r8:List Int) (c:List Int) (K:DFA→List Int→Prop) (X1:Nat→List (List Int)→List Bool→Prop) (a:Nat) (d:List (List Int)) (b:List Bool):Prop:=
 (if (a:Int)<c.length then (Bd a c.length (if (ix c a)<b.length then (X1 (a+1) d b) else (0≤a0.Letters∧a0.Letters≤1099511627776∧(Bd a r7.Next.length ((ix r7.Next a).length≤mx→(LoopWP (S:=Nat×List Int) (fun s X=>J4V r7 c a d b X1 K (fun e g=>X (e,g)) s.1 s.2) (0,List.replicate a0.Letters.toNat 0))))))) else (J6k ((⟨a0.Letters,0,b,d⟩:DFA)) fun i j=>(r8.length≤mx→(0≤(r8.length:Int)∧(r8.length:Int)≤1099511627776∧(LoopWP (S:=Nat×List Int) (fun s X=>J4D r8 c i j K (fun f h=>X (f,h)) s.1 s.2) (0,List.replicate r8.length 0))))))
def J1s (a0:DFA) (K:DFA→List Int→Prop):Prop:=
 (J6k a0 fun r7 r8=>(J1v r7 fun b=>(b.length≤mx→(LoopWP (S:=Nat×List (List Int)×List Bool) (fun s X=>J4u a0 r7 r8 b K (fun a c d=>X (a,c,d)) s.1 s.2.1 s.2.2) (0,([]:List (List Int)),([]:List Bool))))))
def J0M (d:DFA) (K:DFA→Prop):Prop:=
 (J11 d fun r7=>(if r7=0 then (J1s d fun a r11=>(K ((⟨a.Letters,a.Start,a.Final,a.Next⟩:DFA)))) else (K ((⟨0,0,([]:List Bool),([]:List (List Int))⟩:DFA)))))
def J69 (w_:Str) (letters:Int) (K:Bool→Prop) (X1:Nat→Prop) (a:Nat):Prop:=
 (if (a:Int)<w_.length then (Bd a w_.length (if ((ix w_ a).toNat:Int)<(97:Int) then (K false) else (Bd a w_.length (if letters≤(IntKind.i64.wrap (IntKind.u8.wrap (((ix w_ a).toNat:Int)-97))) then (K false) else (X1 (a+1)))))) else (K true))
def J5V (w_:Str) (letters:Int) (K:Bool→Prop):Prop:=
 (if letters<(1:Int) then (K false) else (if 6<letters then (K false) else (w_.length≤mx→(if 2048<(w_.length:Int) then (K false) else (LoopWP (S:=Nat) (fun s X=>J69 w_ letters K X s) 0)))))
def J0o (x:Int) (K:Int→Prop):Prop:=
 (if x=(0:Int) then False else ((Bd (shrK .u64 (IntKind.u64.wrap ((bits .and .u64 x (IntKind.u64.wrap (0-x)))*285870213051353865)) (58:Int)) (dbTab.length:Int) (K ((IntKind.i64.wrap (ix dbTab (shrK .u64 (IntKind.u64.wrap ((bits .and .u64 x (IntKind.u64.wrap (0-x)))*285870213051353865)) (58:Int)))))))))
def J6m (e:Expr) (w_:Str) (a:Nat) (X1:Nat→List (List Int)→Prop) (K:Bool→Prop) (X2:Int→List (List Int)→Prop) (c:Int) (d:List (List Int)):Prop:=
 (if c=(0:Int) then (X1 (a+1) d) else ((J0o c fun b=>(I64 ((shlK .i64 (a:Int) (6:Int))+b)∧((I64 ((shrK .i64 (w_.length:Int) (6:Int))+1)∧(0≤((shrK .i64 (w_.length:Int) (6:Int))+1)∧((shrK .i64 (w_.length:Int) (6:Int))+1)≤1099511627776∧(Bd ((shlK .i64 (a:Int) (6:Int))+b) (d.length:Int) (if e.Op=(2:Int) then False else (if e.Op=(3:Int) then (if ((shlK .i64 (a:Int) (6:Int))+b)<(w_.length:Int) then (Bd ((shlK .i64 (a:Int) (6:Int))+b) (w_.length:Int) (if (IntKind.i64.wrap (IntKind.u8.wrap (((ix w_ ((shlK .i64 (a:Int) (6:Int))+b)).toNat:Int)-97)))=e.Letter then (Bd ((shlK .i64 (a:Int) (6:Int))+b) ((st d ((shlK .i64 (a:Int) (6:Int))+b) (List.replicate (((shrK .i64 (w_.length:Int) (6:Int))+1).toNat) 0)).length:Int) (I64 (((shlK .i64 (a:Int) (6:Int))+b)+1)∧((Bd (shrK .i64 (((shlK .i64 (a:Int) (6:Int))+b)+1) (6:Int)) ((ix (st d ((shlK .i64 (a:Int) (6:Int))+b) (List.replicate (((shrK .i64 (w_.length:Int) (6:Int))+1).toNat) 0)) ((shlK .i64 (a:Int) (6:Int))+b)).length:Int) (0≤(bits .and .i64 (((shlK .i64 (a:Int) (6:Int))+b)+1) (63:Int))∧(Bd (shrK .i64 (((shlK .i64 (a:Int) (6:Int))+b)+1) (6:Int)) ((ix (st d ((shlK .i64 (a:Int) (6:Int))+b) (List.replicate (((shrK .i64 (w_.length:Int) (6:Int))+1).toNat) 0)) ((shlK .i64 (a:Int) (6:Int))+b)).length:Int) (X2 ((bits .and .u64 c (IntKind.u64.wrap (c-1)))) (st (st d ((shlK .i64 (a:Int) (6:Int))+b) (List.replicate (((shrK .i64 (w_.length:Int) (6:Int))+1).toNat) 0)) ((shlK .i64 (a:Int) (6:Int))+b) (st (ix (st d ((shlK .i64 (a:Int) (6:Int))+b) (List.replicate (((shrK .i64 (w_.length:Int) (6:Int))+1).toNat) 0)) ((shlK .i64 (a:Int) (6:Int))+b)) (shrK .i64 (((shlK .i64 (a:Int) (6:Int))+b)+1) (6:Int)) (bits .or .u64 (ix (ix (st d ((shlK .i64 (a:Int) (6:Int))+b) (List.replicate (((shrK .i64 (w_.length:Int) (6:Int))+1).toNat) 0)) ((shlK .i64 (a:Int) (6:Int))+b)) (shrK .i64 (((shlK .i64 (a:Int) (6:Int))+b)+1) (6:Int))) (shlK .u64 (1:Int) (bits .and .i64 (((shlK .i64 (a:Int) (6:Int))+b)+1) (63:Int))))))))))))) else False)) else False) else False))))))))))
def J6y (e:Expr) (w_:Str) (K:Bool→Prop) (X1:Nat→List (List Int)→Prop) (a:Nat) (b:List (List Int)):Prop:=
 (if (a:Int)<((st (List.replicate (((shrK .i64 (w_.length:Int) (6:Int))+1).toNat) 0) (shrK .i64 (0:Int) (6:Int)) (bits .or .u64 (ix (List.replicate (((shrK .i64 (w_.length:Int) (6:Int))+1).toNat) 0) (shrK .i64 (0:Int) (6:Int))) (shlK .u64 (1:Int) (bits .and .i64 (0:Int) (63:Int))))).length:Int) then (Bd a ((st (List.replicate (((shrK .i64 (w_.length:Int) (6:Int))+1).toNat) 0) (shrK .i64 (0:Int) (6:Int)) (bits .or .u64 (ix (List.replicate (((shrK .i64 (w_.length:Int) (6:Int))+1).toNat) 0) (shrK .i64 (0:Int) (6:Int))) (shlK .u64 (1:Int) (bits .and .i64 (0:Int) (63:Int))))).length:Int) (LoopWP (S:=Int×List (List Int)) (fun s X=>J6m e w_ a X1 K (fun c d=>X (c,d)) s.1 s.2) ((ix (st (List.replicate (((shrK .i64 (w_.length:Int) (6:Int))+1).toNat) 0) (shrK .i64 (0:Int) (6:Int)) (bits .or .u64 (ix (List.replicate (((shrK .i64 (w_.length:Int) (6:Int))+1).toNat) 0) (shrK .i64 (0:Int) (6:Int))) (shlK .u64 (1:Int) (bits .and .i64 (0:Int) (63:Int))))) (a:Int)),b))) else (Bd (0:Int) (b.length:Int) ((Bd (shrK .i64 (w_.length:Int) (6:Int)) ((ix b (0:Int)).length:Int) (0≤(bits .and .i64 (w_.length:Int) (63:Int))∧(if (bits .and .u64 (shrK .u64 (ix (ix b (0:Int)) (shrK .i64 (w_.length:Int) (6:Int))) (bits .and .i64 (w_.length:Int) (63:Int))) (1:Int))=(1:Int) then (K true) else False))))))
def J5T (e:Expr) (w_:Str) (K:Bool→Prop):Prop:=
 (J3I e fun r4=>(if r4=true then (J5V w_ ((6:Int)) fun r6=>(if r6=true then (w_.length≤mx→((I64 ((shrK .i64 (w_.length:Int) (6:Int))+(1:Int))∧(0≤((shrK .i64 (w_.length:Int) (6:Int))+(1:Int))∧((shrK .i64 (w_.length:Int) (6:Int))+(1:Int))≤1099511627776∧((Bd (shrK .i64 (0:Int) (6:Int)) ((List.replicate (((shrK .i64 (w_.length:Int) (6:Int))+(1:Int)).toNat) ((0:Int))).length:Int) (0≤(bits .and .i64 (0:Int) (63:Int))∧(Bd (shrK .i64 (0:Int) (6:Int)) ((List.replicate (((shrK .i64 (w_.length:Int) (6:Int))+(1:Int)).toNat) ((0:Int))).length:Int) (if e.Op=(5:Int) then False else (if e.Op=(7:Int) then False else (if e.Op=(4:Int) then False else (if e.Op=(6:Int) then False else (if e.Op=(8:Int) then False else (I64 ((w_.length:Int)+(1:Int))∧(0≤(w_.length+1:Int)∧(w_.length+1:Int)≤1099511627776∧(LoopWP (S:=Nat×List (List Int)) (fun s X=>J6y e w_ K (fun a b=>X (a,b)) s.1 s.2) (0,List.replicate (w_.length+1) ([]:List Int)))))))))))))))))) else False)) else False))
def J13 (K:Bool→Prop):Prop:=
 (J3w 0 fun r1=>(J3w 1 fun r3=>(J7p 5 ([r1,r3]) fun b=>(J7p 7 ([b]) fun c=>(J3V c 2 fun d e=>(if e=0 then (J0M d fun a=>(a.Final.length≤mx→(if (a.Final.length:Int)=(3:Int) then (J3w 0 fun f=>(J5T f (([97]:Str)) fun g=>(K g))) else (K false)))) else (K false)))))))
def J5P (d:DFA) (b:Nat) (X1:Nat→List (List Int)→Prop) (K:List (List Int)→Int→Prop) (X2:Nat→List (List Int)→Prop) (c:Nat) (a:List (List Int)):Prop:=
 (if (c:Int)<d.Next.length then (Bd c d.Next.length (Bd b a.length (Bd b ((ix d.Next c).length:Int) (Bd c ((ix a b).length:Int) (X2 (c+1) (st a b (st (ix a b) c (ix (ix d.Next c) b)))))))) else (I64 (b+(1:Int))∧(X1 (b+1) a)))
def J5Q (d:DFA) (K:List (List Int)→Int→Prop) (X1:Nat→List (List Int)→Prop) (b:Nat) (a:List (List Int)):Prop:=
 (if (b:Int)<((List.replicate d.Letters.toNat ([]:List Int)).length:Int) then (d.Next.length≤mx→(0≤(d.Next.length:Int)∧(d.Next.length:Int)≤1099511627776∧(Bd b a.length (LoopWP (S:=Nat×List (List Int)) (fun s X=>J5P d b X1 K (fun e c=>X (e,c)) s.1 s.2) (0,st a b (List.replicate d.Next.length 0)))))) else (K a 0))
def J3u (d:DFA) (K:List (List Int)→Int→Prop):Prop:=
 (J11 d fun r4=>(if r4=0 then (d.Final.length≤mx→(if 32<(d.Final.length:Int) then (K (([]:List (List Int))) 3) else (0≤d.Letters∧d.Letters≤1099511627776∧(LoopWP (S:=Nat×List (List Int)) (fun s X=>J5Q d K (fun b a=>X (b,a)) s.1 s.2) (0,List.replicate d.Letters.toNat ([]:List Int)))))) else (K (([]:List (List Int))) r4)))
def Jah (f:List Int) (K:Bool→Prop) (X1:Nat→Prop) (a:Nat):Prop:=
 (if (a:Int)<f.length then (Bd a f.length (if (ix f a)<0 then (K false) else (if (f.length:Int)≤(ix f a) then (K false) else (X1 (a+1))))) else (K true))
def J19 (f:List Int) (K:Bool→Prop):Prop:=
 (f.length≤mx→(if (f.length:Int)<1 then (K false) else (if 32<(f.length:Int) then (K false) else (LoopWP (S:=Nat) (fun s X=>Jah f K X s) 0))))
def J0g (s_:List Int) (K:List Int→Prop):Prop:=
 (∀z1:Bool,(z1=true→s_=[])→(if z1=true then (K (([]:List Int))) else ((([]:List Int)).length+s_.length≤1099511627776∧(K ((([]:List Int))++s_)))))
def J8T (n:Int) (K:List Int→Prop) (X1:Nat→List Int→Prop) (a:Nat) (b:List Int):Prop:=
 (if (a:Int)<((List.replicate n.toNat ((0:Int))).length:Int) then (Bd (a:Int) (b.length:Int) (I64 ((a:Int)+(1:Int))∧(X1 (a+1) (st b (a:Int) (a:Int))))) else (K b))
def J2f (n:Int) (K:List Int→Prop):Prop:=
 (if n<(1:Int) then (K (([]:List Int))) else (if 32<n then (K (([]:List Int))) else (0≤n∧n≤1099511627776∧(LoopWP (S:=Nat×List Int) (fun s X=>J8T n K (fun a b=>X (a,b)) s.1 s.2) (0,List.replicate n.toNat 0)))))
def J3r (f:List Int) (K:Str→Prop) (X1:Nat→List Int→Prop) (a:Nat) (b:List Int):Prop:=
 (if (a:Int)<f.length then (Bd a f.length (Bd a b.length (X1 (a+1) (st b a (IntKind.u8.wrap (ix f a)))))) else (K (byt b)))
def J0i (f:List Int) (K:Str→Prop):Prop:=
 (f.length≤mx→(0≤(f.length:Int)∧(f.length:Int)≤1099511627776∧(LoopWP (S:=Nat×List Int) (fun s X=>J3r f K (fun a b=>X (a,b)) s.1 s.2) (0,List.replicate f.length 0))))
end Sg
