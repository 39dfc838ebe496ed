/- -/
import Derived.Test.YtbmaaecppfdjfaaGreatDoorEvK
namespace Sg
open Go
set_option linter.unusedVariables false
set_option maxRecDepth 100000
def Qat (u_:Nat) (e:Expr) (b:Nat) (c:Nat) (a:Nat) (d:Int) (X3:Nat→Int→Option (Bool)) (X4:Nat→Option (Bool)) (f:Nat):Option (Bool):=
 (if (f:Int)<(((ix ((ix ((ix e.Kids b).Kids) (c:Int)).Kids) (a:Int)).Kids).length:Int) then Option.none else (X3 (a+1) ((d-1))))
theorem Qdg {u_:Nat} {e:Expr} {a:Nat} {b:Nat} {c:Nat} {d:Int} {g:Nat→Int→Option (Bool)} {X3:Nat→Int→Prop} {K:Bool→Prop} {h:Nat→Option (Bool)} {X4:Nat→Prop} {f:Nat} (i:∀v0 v1,Sn K (g v0 v1) (X3 v0 v1)) (hX4:∀v0,Sn K (h v0) (X4 v0)):Sn K (Qat u_ e a b c d g h f) (J26 e a b c d X3 K X4 f):=by
 unfold Qat J26;exact(Sn.ite Sn.none (i _ _))
def Qau (u_:Nat) (e:Expr) (c:Nat) (a:Nat) (X2:Nat→Int→Option (Bool)) (X3:Nat→Int→Option (Bool)) (d:Nat) (b:Int):Option (Bool):=
 (if (d:Int)<(((ix ((ix e.Kids c).Kids) (a:Int)).Kids).length:Int) then (bE d (((ix ((ix e.Kids c).Kids) (a:Int)).Kids).length:Int) (if I64 ((((40:Int)-1)-1)-1) then (if ((((40:Int)-1)-1)-1)=(0:Int) then Option.none else (if b=(0:Int) then Option.none else (if I64 (b-1) then (loopEv u_ (S:=Nat) (fun s X=>Qat u_ e c a d b X3 X s) 0) else Option.none))) else Option.none)) else (X2 (a+1) b))
theorem Qdh {u_:Nat} {e:Expr} {a:Nat} {b:Nat} {f:Nat→Int→Option (Bool)} {X2:Nat→Int→Prop} {K:Bool→Prop} {g:Nat→Int→Option (Bool)} {X3:Nat→Int→Prop} {c:Nat} {d:Int} (h:∀v0 v1,Sn K (f v0 v1) (X2 v0 v1)) (i:∀v0 v1,Sn K (g v0 v1) (X3 v0 v1)):Sn K (Qau u_ e a b f g c d) (J28 e a b X2 K X3 c d):=by
 unfold Qau J28;exact(Sn.ite (Sn.bd (Sn.and (Sn.ite Sn.none (Sn.ite Sn.none (Sn.and (Sn.imp (Sn.loop fun s Xe X hX=>Qdg i (fun _=>hX _)))))))) (h _ _))
def Qav (u_:Nat) (e:Expr) (a:Nat) (X1:Nat→Int→Option (Bool)) (X2:Nat→Int→Option (Bool)) (c:Nat) (b:Int):Option (Bool):=
 (if (c:Int)<(((ix e.Kids a).Kids).length:Int) then (bE c (((ix e.Kids a).Kids).length:Int) (if I64 (((40:Int)-1)-1) then (if (((40:Int)-1)-1)=(0:Int) then Option.none else (if b=(0:Int) then Option.none else (if I64 (b-1) then (loopEv u_ (S:=Nat×Int) (fun s X=>Qau u_ e a c X2 (fun d f=>X (d,f)) s.1 s.2) (0,(b-1))) else Option.none))) else Option.none)) else (X1 (a+1) b))
theorem Qdi {u_:Nat} {e:Expr} {a:Nat} {d:Nat→Int→Option (Bool)} {X1:Nat→Int→Prop} {K:Bool→Prop} {f:Nat→Int→Option (Bool)} {X2:Nat→Int→Prop} {b:Nat} {c:Int} (g:∀v0 v1,Sn K (d v0 v1) (X1 v0 v1)) (h:∀v0 v1,Sn K (f v0 v1) (X2 v0 v1)):Sn K (Qav u_ e a d f b c) (J24 e a X1 K X2 b c):=by
 unfold Qav J24;exact(Sn.ite (Sn.bd (Sn.and (Sn.ite Sn.none (Sn.ite Sn.none (Sn.and (Sn.imp (Sn.loop fun s Xe X hX=>Qdh h (fun _ _=>hX _)))))))) (g _ _))
def Qaw (u_:Nat) (e:Expr) (X1:Nat→Int→Option (Bool)) (a:Nat) (b:Int):Option (Bool):=
 (if (a:Int)<e.Kids.length then (bE a e.Kids.length (if I64 ((40:Int)-1) then (if ((40:Int)-1)=(0:Int) then Option.none else (if b=(0:Int) then Option.none else (if I64 (b-1) then (loopEv u_ (S:=Nat×Int) (fun s X=>Qav u_ e a X1 (fun c d=>X (c,d)) s.1 s.2) (0,(b-1))) else Option.none))) else Option.none)) else (some (true)))
theorem Qdj {u_:Nat} {e:Expr} {K:Bool→Prop} {c:Nat→Int→Option (Bool)} {X1:Nat→Int→Prop} {a:Nat} {b:Int} (d:∀v0 v1,Sn K (c v0 v1) (X1 v0 v1)):Sn K (Qaw u_ e c a b) (J27 e K X1 a b):=by
 unfold Qaw J27;exact(Sn.ite (Sn.bd (Sn.and (Sn.ite Sn.none (Sn.ite Sn.none (Sn.and (Sn.imp (Sn.loop fun s Xe X hX=>Qdi d (fun _ _=>hX _)))))))) Sn.ret)
def Qax (u_:Nat) (e:Expr):Option (Bool):=
 (if I64 ((400:Int)-1) then (loopEv u_ (S:=Nat×Int) (fun s X=>Qaw u_ e (fun a b=>X (a,b)) s.1 s.2) (0,((400:Int)-1))) else Option.none)
theorem Qdk {u_:Nat} {e:Expr} {K:Bool→Prop}  : Sn K (Qax u_ e) (J1k e K):=by
 unfold Qax J1k;exact(Sn.and (Sn.imp (Sn.loop fun s Xe X hX=>Qdj (fun _ _=>hX _))))
def Qay (u_:Nat) (e:Expr) (letters:Int) (XR:Expr→Int→Option (Bool)) (X1:Nat→Option (Bool)) (a:Nat):Option (Bool):=
 (if (a:Int)<e.Kids.length then (bE a e.Kids.length ((XR ((⟨((ix e.Kids a).Op),((ix e.Kids a).Letter),(ix e.Kids a).Kids⟩:Expr)) letters).bind fun b=>(if b=true then (X1 (a+1)) else Option.none))) else (some (true)))
theorem Qdl {u_:Nat} {e:Expr} {letters:Int} {XRe:Expr→Int→Option (Bool)} {XR:Expr→Int→(Bool→Prop)→Prop} {K:Bool→Prop} {b:Nat→Option (Bool)} {X1:Nat→Prop} {a:Nat} (hXR:∀v0 v1 (k:Bool→Prop),Sn k (XRe v0 v1) (XR v0 v1 k)) (c:∀v0,Sn K (b v0) (X1 v0)):Sn K (Qay u_ e letters XRe b a) (J3g e letters XR K X1 a):=by
 unfold Qay J3g;exact(Sn.ite (Sn.bd (Sn.bind (hXR _ _ _) fun _=>(Sn.ite (c _) Sn.none))) Sn.ret)
def Qaz (u_:Nat) (e:Expr) (letters:Int) (XR:Expr→Int→Option (Bool)) (X2:Nat→Option (Bool)) (a:Nat):Option (Bool):=
 (if (a:Int)<e.Kids.length then (bE a e.Kids.length ((XR ((⟨((ix e.Kids a).Op),((ix e.Kids a).Letter),(ix e.Kids a).Kids⟩:Expr)) letters).bind fun b=>(if b=true then (X2 (a+1)) else Option.none))) else (some (true)))
theorem Qdm {u_:Nat} {e:Expr} {letters:Int} {XRe:Expr→Int→Option (Bool)} {XR:Expr→Int→(Bool→Prop)→Prop} {K:Bool→Prop} {b:Nat→Option (Bool)} {X2:Nat→Prop} {a:Nat} (hXR:∀v0 v1 (k:Bool→Prop),Sn k (XRe v0 v1) (XR v0 v1 k)) (c:∀v0,Sn K (b v0) (X2 v0)):Sn K (Qaz u_ e letters XRe b a) (J39 e letters XR K X2 a):=by
 unfold Qaz J39;exact(Sn.ite (Sn.bd (Sn.bind (hXR _ _ _) fun _=>(Sn.ite (c _) Sn.none))) Sn.ret)
def Qba (u_:Nat) (XR:Expr→Int→Option (Bool)) (e:Expr) (letters:Int):Option (Bool):=
 (if e.Op=(3:Int) then (if (e.Kids.length:Int)=0 then (if 0≤e.Letter then (if e.Letter<letters then (some (true)) else Option.none) else Option.none) else Option.none) else (if e.Letter=(0:Int) then (if e.Op=(1:Int) then (if (e.Kids.length:Int)=0 then (some (true)) else Option.none) else (if e.Op=(2:Int) then Option.none else (if e.Op=(4:Int) then Option.none else (if e.Op=(5:Int) then (if (e.Kids.length:Int)<2 then Option.none else (loopEv u_ (S:=Nat) (fun s X=>Qay u_ e letters XR X s) 0)) else (if e.Op=(6:Int) then Option.none else (if e.Op=(7:Int) then (if (e.Kids.length:Int)=1 then (loopEv u_ (S:=Nat) (fun s X=>Qaz u_ e letters XR X s) 0) else Option.none) else Option.none)))))) else Option.none))
theorem Qdn {u_:Nat} {XRe:Expr→Int→Option (Bool)} {XR:Expr→Int→(Bool→Prop)→Prop} {e:Expr} {letters:Int} {K:Bool→Prop} (hXR:∀v0 v1 (k:Bool→Prop),Sn k (XRe v0 v1) (XR v0 v1 k)):Sn K (Qba u_ XRe e letters) (J1Y XR e letters K):=by
 unfold Qba J1Y;exact(Sn.ite (Sn.imp (Sn.ite (Sn.ite (Sn.ite Sn.ret Sn.none) Sn.none) Sn.none)) (Sn.ite (Sn.ite (Sn.imp (Sn.ite Sn.ret Sn.none)) (Sn.ite Sn.none (Sn.ite Sn.none (Sn.ite (Sn.imp (Sn.ite Sn.none (Sn.loop fun s Xe X hX=>Qdl hXR (fun _=>hX _)))) (Sn.ite Sn.none (Sn.ite (Sn.imp (Sn.ite (Sn.loop fun s Xe X hX=>Qdm hXR (fun _=>hX _)) Sn.none)) Sn.none)))))) Sn.none))
def J2r (u_:Nat):Nat→Expr→Int→Option (Bool)
 | 0=>fun _ _=>none
 | n+1=>fun e letters=>Qba u_ (J2r u_ n) e letters
def Qcq (u_:Nat) (e:Expr) (letters:Int):Option (Bool):=J2r u_ u_ e letters
theorem Qdo {u_:Nat} {e:Expr} {letters:Int} {K:Bool→Prop}:Sn K (Qcq u_ e letters) (J4y e letters K):=by
 intro r hr hk X hX
 have key:∀n (e:Expr) (letters:Int) (K:Bool→Prop) r,J2r u_ n e letters=some r→K r→X e letters K:=by
  intro n
  induction n with
  | zero=>intro e letters K r hr;cases hr
  | succ n ih=>exact fun e letters K r hr hk=>hX e letters K (Qdn (fun e letters K r hr hk=>ih e letters K r hr hk) r hr hk)
 exact key _ e letters K r hr hk
def Qag (u_:Nat) (e:Expr) (letters:Int):Option (Int):=
 (if letters<(1:Int) then Option.none else (if 6<letters then Option.none else ((Qax u_ e).bind fun r6=>(if r6=true then ((Qcq u_ e letters).bind fun r8=>(if r8=true then (some (0)) else Option.none)) else Option.none))))
theorem Qbb {u_:Nat} {e:Expr} {letters:Int} {K:Int→Prop}  : Sn K (Qag u_ e letters) (J1r e letters K):=by
 unfold Qag J1r;exact(Sn.ite Sn.none (Sn.ite Sn.none (Sn.bind Qdk fun _=>(Sn.ite (Sn.bind Qdo fun _=>(Sn.ite Sn.ret Sn.none)) Sn.none))))
def Qah (u_:Nat) (e:Expr):Option (Bool):=
 ((Qag u_ e 6).bind fun r4=>(if r4=0 then (some (true)) else Option.none))
theorem Qbc {u_:Nat} {e:Expr} {K:Bool→Prop}  : Sn K (Qah u_ e) (J3I e K):=by
 unfold Qah J3I;exact(Sn.bind Qbb fun _=>(Sn.ite Sn.ret Sn.none))
def Qal (u_:Nat) (e:Expr):Option (Bool):=
 (if e.Op=(8:Int) then Option.none else (some (false)))
theorem Qcr {u_:Nat} {e:Expr} {K:Bool→Prop}  : Sn K (Qal u_ e) (J10 e K):=by
 unfold Qal J10;exact(Sn.ite Sn.none Sn.ret)
def Qbd (u_:Nat) (op:Int) (kids:List Expr) (X1:Nat→List Expr→Option ((List Expr))) (a:Nat) (b:List Expr):Option ((List Expr)):=
 (if (a:Int)<kids.length then (bE a kids.length (if ((ix kids a).Op)=op then Option.none else (if b.length+([(⟨((ix kids a).Op),((ix kids a).Letter),(ix kids a).Kids⟩:Expr)]).length≤1099511627776 then (X1 (a+1) (b++([(⟨((ix kids a).Op),((ix kids a).Letter),(ix kids a).Kids⟩:Expr)]))) else Option.none))) else (some (b)))
theorem Qdp {u_:Nat} {op:Int} {kids:List Expr} {K:List Expr→Prop} {c:Nat→List Expr→Option ((List Expr))} {X1:Nat→List Expr→Prop} {b:Nat} {a:List Expr} (d:∀v0 v1,Sn K (c v0 v1) (X1 v0 v1)):Sn K (Qbd u_ op kids c b a) (J5m op kids K X1 b a):=by
 unfold Qbd J5m;exact(Sn.ite (Sn.bd (Sn.ite Sn.none (Sn.and (d _ _)))) Sn.ret)
def Qam (u_:Nat) (op:Int) (kids:List Expr):Option ((List Expr)):=
 (loopEv u_ (S:=Nat×List Expr) (fun s X=>Qbd u_ op kids (fun b a=>X (b,a)) s.1 s.2) (0,([]:List Expr)))
theorem Qcs {u_:Nat} {op:Int} {kids:List Expr} {K:List Expr→Prop}  : Sn K (Qam u_ op kids) (J2N op kids K):=by
 unfold Qam J2N;exact(Sn.imp (Sn.loop fun s Xe X hX=>Qdp (fun _ _=>hX _)))
def Qan (u_:Nat) (e:Expr):Option (Bool):=
 (if e.Op=(1:Int) then (some (true)) else (some (false)))
theorem Qct {u_:Nat} {e:Expr} {K:Bool→Prop}  : Sn K (Qan u_ e) (J2K e K):=by
 unfold Qan J2K;exact(Sn.ite Sn.ret Sn.ret)
def Qbe (u_:Nat) (x:Int):Option (Int):=
 (if 4294967296≤x then Option.none else (if 65536≤x then Option.none else (if 256≤x then Option.none else (bE (IntKind.u8.wrap x) ((([0,1,2,2,3,3,3,3,4,4,4,4,4,4,4,4,5,5,5,5,5,5,5,5,5,5,5,5,5,5,5,5,6,6,6,6,6,6,6,6,6,6,6,6,6,6,6,6,6,6,6,6,6,6,6,6,6,6,6,6,6,6,6,6,7,7,7,7,7,7,7,7,7,7,7,7,7,7,7,7,7,7,7,7,7,7,7,7,7,7,7,7,7,7,7,7,7,7,7,7,7,7,7,7,7,7,7,7,7,7,7,7,7,7,7,7,7,7,7,7,7,7,7,7,7,7,7,7,8,8,8,8,8,8,8,8,8,8,8,8,8,8,8,8,8,8,8,8,8,8,8,8,8,8,8,8,8,8,8,8,8,8,8,8,8,8,8,8,8,8,8,8,8,8,8,8,8,8,8,8,8,8,8,8,8,8,8,8,8,8,8,8,8,8,8,8,8,8,8,8,8,8,8,8,8,8,8,8,8,8,8,8,8,8,8,8,8,8,8,8,8,8,8,8,8,8,8,8,8,8,8,8,8,8,8,8,8,8,8,8,8,8,8,8,8,8,8,8,8,8,8,8,8,8,8,8]:Str)).length:Int) (if I64 ((0:Int)+((ix (([0,1,2,2,3,3,3,3,4,4,4,4,4,4,4,4,5,5,5,5,5,5,5,5,5,5,5,5,5,5,5,5,6,6,6,6,6,6,6,6,6,6,6,6,6,6,6,6,6,6,6,6,6,6,6,6,6,6,6,6,6,6,6,6,7,7,7,7,7,7,7,7,7,7,7,7,7,7,7,7,7,7,7,7,7,7,7,7,7,7,7,7,7,7,7,7,7,7,7,7,7,7,7,7,7,7,7,7,7,7,7,7,7,7,7,7,7,7,7,7,7,7,7,7,7,7,7,7,8,8,8,8,8,8,8,8,8,8,8,8,8,8,8,8,8,8,8,8,8,8,8,8,8,8,8,8,8,8,8,8,8,8,8,8,8,8,8,8,8,8,8,8,8,8,8,8,8,8,8,8,8,8,8,8,8,8,8,8,8,8,8,8,8,8,8,8,8,8,8,8,8,8,8,8,8,8,8,8,8,8,8,8,8,8,8,8,8,8,8,8,8,8,8,8,8,8,8,8,8,8,8,8,8,8,8,8,8,8,8,8,8,8,8,8,8,8,8,8,8,8,8,8,8,8,8,8]:Str)) (IntKind.u8.wrap x)).toNat:Int)) then (some ((((0:Int)+((ix (([0,1,2,2,3,3,3,3,4,4,4,4,4,4,4,4,5,5,5,5,5,5,5,5,5,5,5,5,5,5,5,5,6,6,6,6,6,6,6,6,6,6,6,6,6,6,6,6,6,6,6,6,6,6,6,6,6,6,6,6,6,6,6,6,7,7,7,7,7,7,7,7,7,7,7,7,7,7,7,7,7,7,7,7,7,7,7,7,7,7,7,7,7,7,7,7,7,7,7,7,7,7,7,7,7,7,7,7,7,7,7,7,7,7,7,7,7,7,7,7,7,7,7,7,7,7,7,7,8,8,8,8,8,8,8,8,8,8,8,8,8,8,8,8,8,8,8,8,8,8,8,8,8,8,8,8,8,8,8,8,8,8,8,8,8,8,8,8,8,8,8,8,8,8,8,8,8,8,8,8,8,8,8,8,8,8,8,8,8,8,8,8,8,8,8,8,8,8,8,8,8,8,8,8,8,8,8,8,8,8,8,8,8,8,8,8,8,8,8,8,8,8,8,8,8,8,8,8,8,8,8,8,8,8,8,8,8,8,8,8,8,8,8,8,8,8,8,8,8,8,8,8,8,8,8,8]:Str)) (IntKind.u8.wrap x)).toNat:Int))))) else Option.none)))))
theorem Qdq {u_:Nat} {x:Int} {K:Int→Prop}  : Sn K (Qbe u_ x) (J1T x K):=by
 unfold Qbe J1T;exact(Sn.ite Sn.none (Sn.ite Sn.none (Sn.ite Sn.none (Sn.bd (Sn.and Sn.ret)))))
def Qbf (u_:Nat) (x:Int):Option (Int):=
 ((Qbe u_ x).bind fun r1=>(some (r1)))
theorem Qdr {u_:Nat} {x:Int} {K:Int→Prop}  : Sn K (Qbf u_ x) (J2V x K):=by
 unfold Qbf J2V;exact(Sn.bind Qdq fun _=>Sn.ret)
def Qbg (u_:Nat) (parts:List Expr) (b:Int) (X2:Int→Option ((List Expr))) (a:Int):Option ((List Expr)):=
 (if a<b then Option.none else (if (parts.length:Int)<2 then (some (parts)) else Option.none))
theorem Qds {u_:Nat} {parts:List Expr} {b:Int} {K:List Expr→Prop} {c:Int→Option ((List Expr))} {X2:Int→Prop} {a:Int} (hX2:∀v0,Sn K (c v0) (X2 v0)):Sn K (Qbg u_ parts b c a) (J57 parts b K X2 a):=by
 unfold Qbg J57;exact(Sn.ite Sn.none (Sn.ite Sn.ret Sn.none))
def Qbh (u_:Nat) (parts:List Expr) (X1:Int→Int→Int→Bool→Bool→Option ((List Expr))) (a:Int) (b:Int) (k1_8:Int) (b1_9:Bool) (b1_10:Bool):Option ((List Expr)):=
 (if I64 (b-a) then (if (b-a)≤(12:Int) then (if I64 (a+1) then (loopEv u_ (S:=Int) (fun s X=>Qbg u_ parts b X s) (a+1)) else Option.none) else Option.none) else Option.none)
theorem Qdt {u_:Nat} {parts:List Expr} {K:List Expr→Prop} {f:Int→Int→Int→Bool→Bool→Option ((List Expr))} {X1:Int→Int→Int→Bool→Bool→Prop} {b:Int} {c:Int} {d:Int} {e:Bool} {a:Bool} (hX1:∀v0 v1 v2 v3 v4,Sn K (f v0 v1 v2 v3 v4) (X1 v0 v1 v2 v3 v4)):Sn K (Qbh u_ parts f b c d e a) (J5k parts K X1 b c d e a):=by
 unfold Qbh J5k;exact(Sn.and (Sn.ite (Sn.and (Sn.loop fun s Xe X hX=>Qds (fun _=>hX _))) Sn.none))
def Qao (u_:Nat) (parts:List Expr):Option ((List Expr)):=
 ((Qbf u_ ((IntKind.u64.wrap (parts.length:Int)))).bind fun r2=>(loopEv u_ (S:=Int×Int×Int×Bool×Bool) (fun s X=>Qbh u_ parts (fun b c d e a=>X (b,c,d,e,a)) s.1 s.2.1 s.2.2.1 s.2.2.2.1 s.2.2.2.2) ((0:Int),(parts.length:Int),r2,true,true)))
theorem Qcu {u_:Nat} {parts:List Expr} {K:List Expr→Prop}  : Sn K (Qao u_ parts) (J2Q parts K):=by
 unfold Qao J2Q;exact(Sn.imp (Sn.bind Qdr fun _=>(Sn.loop fun s Xe X hX=>Qdt (fun _ _ _ _ _=>hX _))))
def Qai (u_:Nat)  : Option (Expr):=
 (some (((⟨1,0,([]:List Expr)⟩:Expr))))
theorem Qbi {u_:Nat} {K:Expr→Prop}  : Sn K (Qai u_ ) (J3F K):=by
 unfold Qai J3F;exact Sn.ret
def Qad (u_:Nat) (op:Int) (parts:List Expr) (none:Expr):Option (Expr):=
 (if (parts.length:Int)=0 then (some (((⟨none.Op,none.Letter,none.Kids⟩:Expr)))) else (if (parts.length:Int)=1 then (bE (0:Int) (parts.length:Int) (some (((⟨((ix parts (0:Int)).Op),((ix parts (0:Int)).Letter),(ix parts (0:Int)).Kids⟩:Expr))))) else (some (((⟨op,0,parts⟩:Expr))))))
theorem Qap {u_:Nat} {op:Int} {parts:List Expr} {none:Expr} {K:Expr→Prop}  : Sn K (Qad u_ op parts none) (J1o op parts none K):=by
 unfold Qad J1o;exact(Sn.imp (Sn.ite Sn.ret (Sn.ite (Sn.bd Sn.ret) Sn.ret)))
def Qbj (u_:Nat) (b:List Expr) (X3:Nat→Nat→Option (Expr)) (a:Nat) (d:Nat):Option (Expr):=
 (if (d:Int)<b.length then Option.none else (if 0≤(a:Int) then (if (a:Int)≤b.length then (if 0≤(a:Int) then (if (a:Int)≤((b.take (a:Int).toNat++List.replicate (b.length-(a:Int).toNat) ((default:Expr))).length:Int) then ((Qao u_ ((b.take (a:Int).toNat++List.replicate (b.length-(a:Int).toNat) ((default:Expr))).take ((a:Int)).toNat)).bind fun e=>((Qai u_ ).bind fun f=>((Qad u_ 4 e f).bind fun c=>(some (((⟨c.Op,c.Letter,c.Kids⟩:Expr))))))) else Option.none) else Option.none) else Option.none) else Option.none))
theorem Qdu {u_:Nat} {c:List Expr} {K:Expr→Prop} {d:Nat→Nat→Option (Expr)} {X3:Nat→Nat→Prop} {a:Nat} {b:Nat} (hX3:∀v0 v1,Sn K (d v0 v1) (X3 v0 v1)):Sn K (Qbj u_ c d a b) (J3s c K X3 a b):=by
 unfold Qbj J3s;exact(Sn.ite Sn.none (Sn.and (Sn.and (Sn.and (Sn.and (Sn.bind Qcu fun _=>(Sn.bind Qbi fun _=>(Sn.bind Qap fun _=>Sn.ret))))))))
def Qbk (u_:Nat) (b:List Expr) (X2:Nat→Option (Expr)) (a:Nat):Option (Expr):=
 (if (a:Int)<b.length then (bE a b.length ((Qan u_ ((⟨((ix b a).Op),((ix b a).Letter),(ix b a).Kids⟩:Expr))).bind fun f=>(if f=true then (loopEv u_ (S:=Nat×Nat) (fun s X=>Qbj u_ b (fun d e=>X (d,e)) s.1 s.2) (a,a+1)) else (X2 (a+1))))) else ((Qao u_ b).bind fun g=>((Qai u_ ).bind fun h=>((Qad u_ 4 g h).bind fun c=>(some (((⟨c.Op,c.Letter,c.Kids⟩:Expr))))))))
theorem Qdv {u_:Nat} {b:List Expr} {K:Expr→Prop} {c:Nat→Option (Expr)} {X2:Nat→Prop} {a:Nat} (d:∀v0,Sn K (c v0) (X2 v0)):Sn K (Qbk u_ b c a) (J3N b K X2 a):=by
 unfold Qbk J3N;exact(Sn.ite (Sn.bd (Sn.bind Qct fun _=>(Sn.ite (Sn.loop fun s Xe X hX=>Qdu (fun _ _=>hX _)) (d _)))) (Sn.bind Qcu fun _=>(Sn.bind Qbi fun _=>(Sn.bind Qap fun _=>Sn.ret))))
def Qbl (u_:Nat) (kids:List Expr) (X1:Nat→Option (Expr)) (a:Nat):Option (Expr):=
 (if (a:Int)<kids.length then (bE a kids.length ((Qal u_ ((⟨((ix kids a).Op),((ix kids a).Letter),(ix kids a).Kids⟩:Expr))).bind fun b=>(if b=true then Option.none else (X1 (a+1))))) else ((Qam u_ 4 kids).bind fun c=>(loopEv u_ (S:=Nat) (fun s X=>Qbk u_ c X s) 0)))
theorem Qdw {u_:Nat} {kids:List Expr} {K:Expr→Prop} {b:Nat→Option (Expr)} {X1:Nat→Prop} {a:Nat} (c:∀v0,Sn K (b v0) (X1 v0)):Sn K (Qbl u_ kids b a) (J3E kids K X1 a):=by
 unfold Qbl J3E;exact(Sn.ite (Sn.bd (Sn.bind Qcr fun _=>(Sn.ite Sn.none (c _)))) (Sn.bind Qcs fun _=>(Sn.loop fun s Xe X hX=>Qdv (fun _=>hX _))))
def Qbm (u_:Nat) (kids:List Expr):Option (Expr):=
 (loopEv u_ (S:=Nat) (fun s X=>Qbl u_ kids X s) 0)
theorem Qdx {u_:Nat} {kids:List Expr} {K:Expr→Prop}  : Sn K (Qbm u_ kids) (J2a kids K):=by
 unfold Qbm J2a;exact(Sn.imp (Sn.loop fun s Xe X hX=>Qdw (fun _=>hX _)))
def Qaq (u_:Nat) (e:Expr):Option (Bool):=
 (if e.Op=(2:Int) then (some (true)) else (some (false)))
theorem Qcv {u_:Nat} {e:Expr} {K:Bool→Prop}  : Sn K (Qaq u_ e) (J3H e K):=by
 unfold Qaq J3H;exact(Sn.ite Sn.ret Sn.ret)
def Qar (u_:Nat)  : Option (Expr):=
 (some (((⟨2,0,([]:List Expr)⟩:Expr))))
theorem Qcw {u_:Nat} {K:Expr→Prop}  : Sn K (Qar u_ ) (J66 K):=by
 unfold Qar J66;exact Sn.ret
def Qbn (u_:Nat) (X3:Nat→Nat→List Expr→Option (Expr)) (b:Nat) (c:Nat) (a:List Expr):Option (Expr):=
 (if (c:Int)<a.length then (bE c a.length ((Qaq u_ ((⟨((ix a c).Op),((ix a c).Letter),(ix a c).Kids⟩:Expr))).bind fun e=>(if e=true then Option.none else (bE b a.length (if I64 (b+(1:Int)) then (if I64 (c+(1:Int)) then (X3 (b+1) (c+1) (st a b (⟨((ix a c).Op),((ix a c).Letter),(ix a c).Kids⟩:Expr))) else Option.none) else Option.none))))) else (if 0≤(b:Int) then (if (b:Int)≤a.length then (if 0≤(b:Int) then (if (b:Int)≤((a.take (b:Int).toNat++List.replicate (a.length-(b:Int).toNat) ((default:Expr))).length:Int) then ((Qar u_ ).bind fun f=>((Qad u_ 5 ((a.take (b:Int).toNat++List.replicate (a.length-(b:Int).toNat) ((default:Expr))).take ((b:Int)).toNat) f).bind fun d=>(some (((⟨d.Op,d.Letter,d.Kids⟩:Expr)))))) else Option.none) else Option.none) else Option.none) else Option.none))
theorem Qdy {u_:Nat} {K:Expr→Prop} {d:Nat→Nat→List Expr→Option (Expr)} {X3:Nat→Nat→List Expr→Prop} {a:Nat} {b:Nat} {c:List Expr} (e:∀v0 v1 v2,Sn K (d v0 v1 v2) (X3 v0 v1 v2)):Sn K (Qbn u_ d a b c) (J30 K X3 a b c):=by
 unfold Qbn J30;exact(Sn.ite (Sn.bd (Sn.bind Qcv fun _=>(Sn.ite Sn.none (Sn.bd (Sn.and (Sn.and (e _ _ _))))))) (Sn.and (Sn.and (Sn.and (Sn.and (Sn.bind Qcw fun _=>(Sn.bind Qap fun _=>Sn.ret)))))))
def Qbo (u_:Nat) (b:List Expr) (X2:Nat→Option (Expr)) (a:Nat):Option (Expr):=
 (if (a:Int)<b.length then (bE a b.length ((Qaq u_ ((⟨((ix b a).Op),((ix b a).Letter),(ix b a).Kids⟩:Expr))).bind fun h=>(if h=true then (loopEv u_ (S:=Nat×Nat×List Expr) (fun s X=>Qbn u_ (fun d e f=>X (d,e,f)) s.1 s.2.1 s.2.2) (a,a+1,b)) else (X2 (a+1))))) else ((Qar u_ ).bind fun g=>((Qad u_ 5 b g).bind fun c=>(some (((⟨c.Op,c.Letter,c.Kids⟩:Expr)))))))
theorem Qdz {u_:Nat} {b:List Expr} {K:Expr→Prop} {c:Nat→Option (Expr)} {X2:Nat→Prop} {a:Nat} (d:∀v0,Sn K (c v0) (X2 v0)):Sn K (Qbo u_ b c a) (J3c b K X2 a):=by
 unfold Qbo J3c;exact(Sn.ite (Sn.bd (Sn.bind Qcv fun _=>(Sn.ite (Sn.loop fun s Xe X hX=>Qdy (fun _ _ _=>hX _)) (d _)))) (Sn.bind Qcw fun _=>(Sn.bind Qap fun _=>Sn.ret)))
def Qbp (u_:Nat) (kids:List Expr) (X1:Nat→Option (Expr)) (a:Nat):Option (Expr):=
 (if (a:Int)<kids.length then (bE a kids.length ((Qan u_ ((⟨((ix kids a).Op),((ix kids a).Letter),(ix kids a).Kids⟩:Expr))).bind fun c=>(if c=true then ((Qai u_ ).bind fun b=>(some (((⟨b.Op,b.Letter,b.Kids⟩:Expr))))) else (X1 (a+1))))) else ((Qam u_ 5 kids).bind fun d=>(loopEv u_ (S:=Nat) (fun s X=>Qbo u_ d X s) 0)))
theorem Qea {u_:Nat} {kids:List Expr} {K:Expr→Prop} {b:Nat→Option (Expr)} {X1:Nat→Prop} {a:Nat} (c:∀v0,Sn K (b v0) (X1 v0)):Sn K (Qbp u_ kids b a) (J35 kids K X1 a):=by
 unfold Qbp J35;exact(Sn.ite (Sn.bd (Sn.bind Qct fun _=>(Sn.ite (Sn.bind Qbi fun _=>Sn.ret) (c _)))) (Sn.bind Qcs fun _=>(Sn.loop fun s Xe X hX=>Qdz (fun _=>hX _))))
def Qbq (u_:Nat) (kids:List Expr):Option (Expr):=
 (loopEv u_ (S:=Nat) (fun s X=>Qbp u_ kids X s) 0)
theorem Qeb {u_:Nat} {kids:List Expr} {K:Expr→Prop}  : Sn K (Qbq u_ kids) (J1R kids K):=by
 unfold Qbq J1R;exact(Sn.imp (Sn.loop fun s Xe X hX=>Qea (fun _=>hX _)))
def Qaa (u_:Nat) (a0:Int) (a1:List Expr):Option (Expr):=
 (if a0=(4:Int) then ((Qbm u_ a1).bind fun r5=>(some (((⟨r5.Op,r5.Letter,r5.Kids⟩:Expr))))) else (if a0=(5:Int) then ((Qbq u_ a1).bind fun r9=>(some (((⟨r9.Op,r9.Letter,r9.Kids⟩:Expr))))) else (if a0=(6:Int) then Option.none else (if (a1.length:Int)=(1:Int) then (bE (0:Int) (a1.length:Int) (if a0=(8:Int) then Option.none else (if a0=(7:Int) then (if ((ix a1 (0:Int)).Op)=(1:Int) then Option.none else (if ((ix a1 (0:Int)).Op)=(2:Int) then Option.none else (if ((ix a1 (0:Int)).Op)=(7:Int) then Option.none else ((Qal u_ ((⟨((ix a1 (0:Int)).Op),((ix a1 (0:Int)).Letter),(ix a1 (0:Int)).Kids⟩:Expr))).bind fun a=>(if a=true then Option.none else (some (((⟨7,0,[(⟨((ix a1 (0:Int)).Op),((ix a1 (0:Int)).Letter),(ix a1 (0:Int)).Kids⟩:Expr)]⟩:Expr))))))))) else Option.none))) else Option.none))))
theorem Qae {u_:Nat} {a0:Int} {a1:List Expr} {K:Expr→Prop}  : Sn K (Qaa u_ a0 a1) (J29 a0 a1 K):=by
 unfold Qaa J29;exact(Sn.ite (Sn.bind Qdx fun _=>Sn.ret) (Sn.ite (Sn.bind Qeb fun _=>Sn.ret) (Sn.ite Sn.none (Sn.imp (Sn.ite (Sn.bd (Sn.ite Sn.none (Sn.ite (Sn.ite Sn.none (Sn.ite Sn.none (Sn.ite Sn.none (Sn.bind Qcr fun _=>(Sn.ite Sn.none Sn.ret))))) Sn.none))) Sn.none)))))
def Qbr (u_:Nat) (e:Expr) (XR:Expr→Option (Expr)) (X1:Nat→List Expr→Option (Expr)) (a:Nat) (b:List Expr):Option (Expr):=
 (if (a:Int)<e.Kids.length then (bE a e.Kids.length ((XR ((⟨((ix e.Kids a).Op),((ix e.Kids a).Letter),(ix e.Kids a).Kids⟩:Expr))).bind fun d=>(bE a b.length (X1 (a+1) (st b a d))))) else ((Qaa u_ e.Op b).bind fun c=>(some (((⟨c.Op,c.Letter,c.Kids⟩:Expr))))))
theorem Qec {u_:Nat} {e:Expr} {XRe:Expr→Option (Expr)} {XR:Expr→(Expr→Prop)→Prop} {K:Expr→Prop} {c:Nat→List Expr→Option (Expr)} {X1:Nat→List Expr→Prop} {b:Nat} {a:List Expr} (hXR:∀v0 (k:Expr→Prop),Sn k (XRe v0) (XR v0 k)) (d:∀v0 v1,Sn K (c v0 v1) (X1 v0 v1)):Sn K (Qbr u_ e XRe c b a) (J4g e XR K X1 b a):=by
 unfold Qbr J4g;exact(Sn.ite (Sn.bd (Sn.bind (hXR _ _) fun _=>(Sn.bd (d _ _)))) (Sn.bind Qae fun _=>Sn.ret))
def Qbs (u_:Nat) (XR:Expr→Option (Expr)) (e:Expr):Option (Expr):=
 (if (e.Kids.length:Int)=0 then (some (((⟨e.Op,e.Letter,([]:List Expr)⟩:Expr)))) else (if 0≤(e.Kids.length:Int) then (if (e.Kids.length:Int)≤1099511627776 then (loopEv u_ (S:=Nat×List Expr) (fun s X=>Qbr u_ e XR (fun b a=>X (b,a)) s.1 s.2) (0,List.replicate e.Kids.length ((default:Expr)))) else Option.none) else Option.none))
theorem Qed {u_:Nat} {XRe:Expr→Option (Expr)} {XR:Expr→(Expr→Prop)→Prop} {e:Expr} {K:Expr→Prop} (hXR:∀v0 (k:Expr→Prop),Sn k (XRe v0) (XR v0 k)):Sn K (Qbs u_ XRe e) (J36 XR e K):=by
 unfold Qbs J36;exact(Sn.imp (Sn.ite Sn.ret (Sn.and (Sn.and (Sn.loop fun s Xe X hX=>Qec hXR (fun _ _=>hX _))))))
def J3o (u_:Nat):Nat→Expr→Option (Expr)
 | 0=>fun _=>none
 | n+1=>fun e=>Qbs u_ (J3o u_ n) e
def Qcx (u_:Nat) (e:Expr):Option (Expr):=J3o u_ u_ e
theorem Qee {u_:Nat} {e:Expr} {K:Expr→Prop}:Sn K (Qcx u_ e) (J6w e K):=by
 intro r hr hk X hX
 have key:∀n (e:Expr) (K:Expr→Prop) r,J3o u_ n e=some r→K r→X e K:=by
  intro n
  induction n with
  | zero=>intro e K r hr;cases hr
  | succ n ih=>exact fun e K r hr hk=>hX e K (Qed (fun e K r hr hk=>ih e K r hr hk) r hr hk)
 exact key _ e K r hr hk
def Qbt (u_:Nat) (e:Expr):Option (Expr):=
 ((Qah u_ e).bind fun r7=>(if r7=true then ((Qcx u_ e).bind fun r9=>(some (((⟨r9.Op,r9.Letter,r9.Kids⟩:Expr))))) else Option.none))
theorem Qef {u_:Nat} {e:Expr} {K:Expr→Prop}  : Sn K (Qbt u_ e) (J4C e K):=by
 unfold Qbt J4C;exact(Sn.bind Qbc fun _=>(Sn.ite (Sn.bind Qee fun _=>Sn.ret) Sn.none))
def Qab (u_:Nat) (b:Builder):Option (Builder):=
 (if b.addr=true then (some (b)) else (some (((⟨true,b.buf⟩:Builder)))))
theorem Qaf {u_:Nat} {b:Builder} {K:Builder→Prop}  : Sn K (Qab u_ b) (J06 b K):=by
 unfold Qab J06;exact(Sn.ite Sn.ret Sn.ret)
def Qaj (u_:Nat) (op:Int):Option (Int):=
 (if op=(4:Int) then Option.none else (if op=(6:Int) then Option.none else (if op=(5:Int) then (some (3)) else (if op=(8:Int) then Option.none else (if op=(7:Int) then (some (5)) else (some (6)))))))
theorem Qbu {u_:Nat} {op:Int} {K:Int→Prop}  : Sn K (Qaj u_ op) (J3D op K):=by
 unfold Qaj J3D;exact(Sn.ite Sn.none (Sn.ite Sn.none (Sn.ite Sn.ret (Sn.ite Sn.none (Sn.ite Sn.ret Sn.ret)))))
def Qbv (u_:Nat) (e:Expr) (XR:Builder→Expr→Option (Builder)) (X1:Nat→Bool→List Int→Option (Builder)) (a:Nat) (b:Bool) (c:List Int):Option (Builder):=
 (if (a:Int)<e.Kids.length then (bE a e.Kids.length (if 0<(a:Int) then ((Qab u_ ((⟨b,c⟩:Builder))).bind fun q54=>((Qaj u_ (((ix e.Kids a).Op))).bind fun d=>(if 4≤d then ((XR q54 ((⟨((ix e.Kids a).Op),((ix e.Kids a).Letter),(ix e.Kids a).Kids⟩:Expr))).bind fun q64=>(X1 (a+1) q64.addr q64.buf)) else Option.none))) else ((Qaj u_ (((ix e.Kids a).Op))).bind fun f=>(if 4≤f then ((XR ((⟨b,c⟩:Builder)) ((⟨((ix e.Kids a).Op),((ix e.Kids a).Letter),(ix e.Kids a).Kids⟩:Expr))).bind fun q71=>(X1 (a+1) q71.addr q71.buf)) else Option.none)))) else (some (((⟨b,c⟩:Builder)))))
theorem Qeg {u_:Nat} {e:Expr} {XRe:Builder→Expr→Option (Builder)} {XR:Builder→Expr→(Builder→Prop)→Prop} {K:Builder→Prop} {d:Nat→Bool→List Int→Option (Builder)} {X1:Nat→Bool→List Int→Prop} {a:Nat} {b:Bool} {c:List Int} (hXR:∀v0 v1 (k:Builder→Prop),Sn k (XRe v0 v1) (XR v0 v1 k)) (f:∀v0 v1 v2,Sn K (d v0 v1 v2) (X1 v0 v1 v2)):Sn K (Qbv u_ e XRe d a b c) (J6B e XR K X1 a b c):=by
 unfold Qbv J6B;exact(Sn.ite (Sn.bd (Sn.ite (Sn.bind Qaf fun _=>(Sn.imp (Sn.bind Qbu fun _=>(Sn.ite (Sn.bind (hXR _ _ _) fun _=>(f _ _ _)) Sn.none)))) (Sn.bind Qbu fun _=>(Sn.ite (Sn.bind (hXR _ _ _) fun _=>(f _ _ _)) Sn.none)))) Sn.ret)
def Qbw (u_:Nat) (e:Expr) (XR:Builder→Expr→Option (Builder)) (X2:Nat→Bool→List Int→Option (Builder)) (a:Nat) (b:Bool) (c:List Int):Option (Builder):=
 (if (a:Int)<e.Kids.length then (bE a e.Kids.length (if 0<(a:Int) then Option.none else ((Qaj u_ (((ix e.Kids a).Op))).bind fun d=>(if 5≤d then Option.none else ((Qab u_ ((⟨b,c⟩:Builder))).bind fun q106=>(if q106.buf.length+([(40:Int)]).length≤1099511627776 then ((XR ((⟨q106.addr,q106.buf++([(40:Int)])⟩:Builder)) ((⟨((ix e.Kids a).Op),((ix e.Kids a).Letter),(ix e.Kids a).Kids⟩:Expr))).bind fun q114=>((Qab u_ q114).bind fun q119=>(if q119.buf.length+([(41:Int)]).length≤1099511627776 then (X2 (a+1) q119.addr (q119.buf++([(41:Int)]))) else Option.none))) else Option.none)))))) else ((Qab u_ ((⟨b,c⟩:Builder))).bind fun q128=>(if q128.buf.length+([(42:Int)]).length≤1099511627776 then (some (((⟨q128.addr,q128.buf++([(42:Int)])⟩:Builder)))) else Option.none)))
theorem Qeh {u_:Nat} {e:Expr} {XRe:Builder→Expr→Option (Builder)} {XR:Builder→Expr→(Builder→Prop)→Prop} {K:Builder→Prop} {d:Nat→Bool→List Int→Option (Builder)} {X2:Nat→Bool→List Int→Prop} {a:Nat} {b:Bool} {c:List Int} (hXR:∀v0 v1 (k:Builder→Prop),Sn k (XRe v0 v1) (XR v0 v1 k)) (f:∀v0 v1 v2,Sn K (d v0 v1 v2) (X2 v0 v1 v2)):Sn K (Qbw u_ e XRe d a b c) (J6f e XR K X2 a b c):=by
 unfold Qbw J6f;exact(Sn.ite (Sn.bd (Sn.ite Sn.none (Sn.bind Qbu fun _=>(Sn.ite Sn.none (Sn.bind Qaf fun _=>(Sn.and (Sn.bind (hXR _ _ _) fun _=>(Sn.bind Qaf fun _=>(Sn.and (f _ _ _)))))))))) (Sn.bind Qaf fun _=>(Sn.and Sn.ret)))
def Qbx (u_:Nat) (XR:Builder→Expr→Option (Builder)) (text:Builder) (e:Expr):Option (Builder):=
 (if e.Op=(1:Int) then ((Qab u_ text).bind fun q6=>(if q6.buf.length+([(48:Int)]).length≤1099511627776 then (some (((⟨q6.addr,q6.buf++([(48:Int)])⟩:Builder)))) else Option.none)) else (if e.Op=(2:Int) then Option.none else (if e.Op=(3:Int) then ((Qab u_ text).bind fun q17=>(if q17.buf.length+([(IntKind.u8.wrap ((97:Int)+(IntKind.u8.wrap e.Letter)))]).length≤1099511627776 then (some (((⟨q17.addr,q17.buf++([(IntKind.u8.wrap ((97:Int)+(IntKind.u8.wrap e.Letter)))])⟩:Builder)))) else Option.none)) else (if e.Op=(4:Int) then Option.none else (if e.Op=(6:Int) then Option.none else (if e.Op=(5:Int) then (loopEv u_ (S:=Nat×Bool×List Int) (fun s X=>Qbv u_ e XR (fun a b f=>X (a,b,f)) s.1 s.2.1 s.2.2) (0,text.addr,text.buf)) else (if e.Op=(8:Int) then Option.none else (if e.Op=(7:Int) then (loopEv u_ (S:=Nat×Bool×List Int) (fun s X=>Qbw u_ e XR (fun c d g=>X (c,d,g)) s.1 s.2.1 s.2.2) (0,text.addr,text.buf)) else Option.none))))))))
theorem Qei {u_:Nat} {XRe:Builder→Expr→Option (Builder)} {XR:Builder→Expr→(Builder→Prop)→Prop} {text:Builder} {e:Expr} {K:Builder→Prop} (hXR:∀v0 v1 (k:Builder→Prop),Sn k (XRe v0 v1) (XR v0 v1 k)):Sn K (Qbx u_ XRe text e) (J5A XR text e K):=by
 unfold Qbx J5A;exact(Sn.ite (Sn.bind Qaf fun _=>(Sn.and Sn.ret)) (Sn.ite Sn.none (Sn.ite (Sn.bind Qaf fun _=>(Sn.and Sn.ret)) (Sn.ite Sn.none (Sn.ite Sn.none (Sn.ite (Sn.imp (Sn.loop fun s Xe X hX=>Qeg hXR (fun _ _ _=>hX _))) (Sn.ite Sn.none (Sn.ite (Sn.imp (Sn.loop fun s Xe X hX=>Qeh hXR (fun _ _ _=>hX _))) Sn.none))))))))
def J5M (u_:Nat):Nat→Builder→Expr→Option (Builder)
 | 0=>fun _ _=>none
 | n+1=>fun text e=>Qbx u_ (J5M u_ n) text e
def Qcy (u_:Nat) (text:Builder) (e:Expr):Option (Builder):=J5M u_ u_ text e
theorem Qej {u_:Nat} {text:Builder} {e:Expr} {K:Builder→Prop}:Sn K (Qcy u_ text e) (J91 text e K):=by
 intro r hr hk X hX
 have key:∀n (text:Builder) (e:Expr) (K:Builder→Prop) r,J5M u_ n text e=some r→K r→X text e K:=by
  intro n
  induction n with
  | zero=>intro text e K r hr;cases hr
  | succ n ih=>exact fun text e K r hr hk=>hX text e K (Qei (fun text e K r hr hk=>ih text e K r hr hk) r hr hk)
 exact key _ text e K r hr hk
def Qac (u_:Nat) (e:Expr):Option (Str):=
 ((Qah u_ e).bind fun r4=>(if r4=true then ((Qcy u_ ((⟨false,([]:List Int)⟩:Builder)) e).bind fun q10=>(if q10.buf≠[] then (if isBytes q10.buf then (some ((bytesOf q10.buf))) else Option.none) else Option.none)) else Option.none))
theorem Qak {u_:Nat} {e:Expr} {K:Str→Prop}  : Sn K (Qac u_ e) (J1p e K):=by
 unfold Qac J1p;exact(Sn.bind Qbc fun _=>(Sn.ite (Sn.bind Qej fun _=>(Sn.and (Sn.and Sn.ret))) Sn.none))
def Qby (u_:Nat) (e:Expr) (XR:Expr→Option (Bool)) (X1:Nat→Option (Bool)) (a:Nat):Option (Bool):=
 (if (a:Int)<e.Kids.length then (bE a e.Kids.length ((XR ((⟨((ix e.Kids a).Op),((ix e.Kids a).Letter),(ix e.Kids a).Kids⟩:Expr))).bind fun b=>(if b=true then Option.none else (some (false))))) else Option.none)
theorem Qek {u_:Nat} {e:Expr} {XRe:Expr→Option (Bool)} {XR:Expr→(Bool→Prop)→Prop} {K:Bool→Prop} {b:Nat→Option (Bool)} {X1:Nat→Prop} {a:Nat} (hXR:∀v0 (k:Bool→Prop),Sn k (XRe v0) (XR v0 k)) (hX1:∀v0,Sn K (b v0) (X1 v0)):Sn K (Qby u_ e XRe b a) (J5e e XR K X1 a):=by
 unfold Qby J5e;exact(Sn.ite (Sn.bd (Sn.bind (hXR _ _) fun _=>(Sn.ite Sn.none Sn.ret))) Sn.none)
def Qbz (u_:Nat) (XR:Expr→Option (Bool)) (e:Expr):Option (Bool):=
 (if e.Op=(2:Int) then Option.none else (if e.Op=(7:Int) then (some (true)) else (if e.Op=(4:Int) then Option.none else (if e.Op=(5:Int) then (loopEv u_ (S:=Nat) (fun s X=>Qby u_ e XR X s) 0) else (if e.Op=(6:Int) then Option.none else (if e.Op=(8:Int) then Option.none else (some (false))))))))
theorem Qel {u_:Nat} {XRe:Expr→Option (Bool)} {XR:Expr→(Bool→Prop)→Prop} {e:Expr} {K:Bool→Prop} (hXR:∀v0 (k:Bool→Prop),Sn k (XRe v0) (XR v0 k)):Sn K (Qbz u_ XRe e) (J3S XR e K):=by
 unfold Qbz J3S;exact(Sn.ite Sn.none (Sn.ite Sn.ret (Sn.ite Sn.none (Sn.ite (Sn.imp (Sn.loop fun s Xe X hX=>Qek hXR (fun _=>hX _))) (Sn.ite Sn.none (Sn.ite Sn.none Sn.ret))))))
def J49 (u_:Nat):Nat→Expr→Option (Bool)
 | 0=>fun _=>none
 | n+1=>fun e=>Qbz u_ (J49 u_ n) e
def Qca (u_:Nat) (e:Expr):Option (Bool):=J49 u_ u_ e
theorem Qcz {u_:Nat} {e:Expr} {K:Bool→Prop}:Sn K (Qca u_ e) (J5E e K):=by
 intro r hr hk X hX
 have key:∀n (e:Expr) (K:Bool→Prop) r,J49 u_ n e=some r→K r→X e K:=by
  intro n
  induction n with
  | zero=>intro e K r hr;cases hr
  | succ n ih=>exact fun e K r hr hk=>hX e K (Qel (fun e K r hr hk=>ih e K r hr hk) r hr hk)
 exact key _ e K r hr hk
def Qcb (u_:Nat) (letters:Int) (e:List (List Int)) (b:List Expr) (X2:Nat→List Bool→Option (DFA×Int)) (a:Nat) (c:List Bool):Option (DFA×Int):=
 (if (a:Int)<b.length then (bE a b.length ((Qca u_ ((⟨((ix b a).Op),((ix b a).Letter),(ix b a).Kids⟩:Expr))).bind fun d=>(if c.length+([d]).length≤1099511627776 then (X2 (a+1) (c++([d]))) else Option.none))) else (some (((⟨letters,0,c,e⟩:DFA)),0)))
theorem Qem {u_:Nat} {letters:Int} {c:List (List Int)} {d:List Expr} {K:DFA→Int→Prop} {e:Nat→List Bool→Option (DFA×Int)} {X2:Nat→List Bool→Prop} {a:Nat} {b:List Bool} (f:∀v0 v1,Sn (fun p:DFA×Int=>K p.1 p.2) (e v0 v1) (X2 v0 v1)):Sn (fun p:DFA×Int=>K p.1 p.2) (Qcb u_ letters c d e a b) (J4Q letters c d K X2 a b):=by
 unfold Qcb J4Q;exact(Sn.ite (Sn.bd (Sn.bind Qcz fun _=>(Sn.and (f _ _)))) Sn.ret)
def Qcc (u_:Nat) (g:Bool) (b:List Expr) (d:List Expr) (X2:Nat→List Expr→Option (derived)) (a:Nat) (c:List Expr):Option (derived):=
 (if (a:Int)<b.length then (bE a b.length (if ((ix b a).Op)=(1:Int) then (bE a c.length (X2 (a+1) (st c a (⟨((ix b a).Op),((ix b a).Letter),(ix b a).Kids⟩:Expr)))) else (if 0≤(a+1:Int) then (if (a+1:Int)≤(d.length:Int) then (if ([(⟨((ix b a).Op),((ix b a).Letter),(ix b a).Kids⟩:Expr)]).length+(d.drop (a+1:Int).toNat).length≤1099511627776 then ((Qaa u_ 5 (([(⟨((ix b a).Op),((ix b a).Letter),(ix b a).Kids⟩:Expr)])++(d.drop (a+1:Int).toNat))).bind fun h=>(bE a c.length (X2 (a+1) (st c a h)))) else Option.none) else Option.none) else Option.none))) else ((Qaa u_ 4 c).bind fun e=>((Qaa u_ 5 d).bind fun f=>(some (((⟨(⟨e.Op,e.Letter,e.Kids⟩:Expr),(⟨f.Op,f.Letter,f.Kids⟩:Expr),g⟩:derived)))))))
theorem Qen {u_:Nat} {a:Bool} {c:List Expr} {d:List Expr} {K:derived→Prop} {f:Nat→List Expr→Option (derived)} {X2:Nat→List Expr→Prop} {b:Nat} {e:List Expr} (g:∀v0 v1,Sn K (f v0 v1) (X2 v0 v1)):Sn K (Qcc u_ a c d f b e) (J0O a c d K X2 b e):=by
 unfold Qcc J0O;exact(Sn.ite (Sn.bd (Sn.ite (Sn.bd (g _ _)) (Sn.and (Sn.and (Sn.and (Sn.bind Qae fun _=>(Sn.bd (g _ _)))))))) (Sn.bind Qae fun _=>(Sn.bind Qae fun _=>Sn.ret)))
def Qcd (u_:Nat) (a0:deriver) (a1:Expr) (XR:deriver→Expr→Option (derived)) (X1:Bool→Nat→List Expr→List Expr→Option (derived)) (f:Bool) (a:Nat) (c:List Expr) (d:List Expr):Option (derived):=
 (if (a:Int)<a1.Kids.length then (bE a a1.Kids.length (if f=true then ((XR a0 ((⟨((ix a1.Kids a).Op),((ix a1.Kids a).Letter),(ix a1.Kids a).Kids⟩:Expr))).bind fun b=>(bothEv (bothEv (if c.length+([b.by_]).length≤1099511627776 then (bothEv (bE a d.length (if b.nullable=true then Option.none else (X1 false (a+1) (c++([b.by_])) (st d a b.self)))) (if b.nullable=true then Option.none else (bE a d.length (X1 false (a+1) (c++([b.by_])) (st d a b.self))))) else Option.none) (bothEv (bothEv (if c.length+([b.by_]).length≤1099511627776 then (bE a d.length (if b.nullable=true then Option.none else (X1 false (a+1) (c++([b.by_])) (st d a b.self)))) else Option.none) (if b.nullable=true then Option.none else (if c.length+([b.by_]).length≤1099511627776 then (bE a d.length (X1 false (a+1) (c++([b.by_])) (st d a b.self))) else Option.none))) (if b.nullable=true then Option.none else (if c.length+([b.by_]).length≤1099511627776 then (bE a d.length (X1 false (a+1) (c++([b.by_])) (st d a b.self))) else Option.none)))) (bothEv (bothEv (bothEv (if c.length+([b.by_]).length≤1099511627776 then (bE a d.length (if b.nullable=true then Option.none else (X1 false (a+1) (c++([b.by_])) (st d a b.self)))) else Option.none) (if b.nullable=true then Option.none else (if c.length+([b.by_]).length≤1099511627776 then (bE a d.length (X1 false (a+1) (c++([b.by_])) (st d a b.self))) else Option.none))) (if b.nullable=true then Option.none else (if c.length+([b.by_]).length≤1099511627776 then (bE a d.length (X1 false (a+1) (c++([b.by_])) (st d a b.self))) else Option.none))) (if b.nullable=true then Option.none else (if c.length+([b.by_]).length≤1099511627776 then (bE a d.length (X1 false (a+1) (c++([b.by_])) (st d a b.self))) else Option.none))))) else (if a0.normal=true then (bE a d.length (X1 false (a+1) c (st d a (⟨((ix a1.Kids a).Op),((ix a1.Kids a).Letter),(ix a1.Kids a).Kids⟩:Expr)))) else Option.none))) else (if 0≤(c.length:Int) then (if (c.length:Int)≤1099511627776 then (loopEv u_ (S:=Nat×List Expr) (fun s X=>Qcc u_ f c d (fun g h=>X (g,h)) s.1 s.2) (0,List.replicate c.length ((default:Expr)))) else Option.none) else Option.none))
theorem Qeo {u_:Nat} {a0:deriver} {a1:Expr} {XRe:deriver→Expr→Option (derived)} {XR:deriver→Expr→(derived→Prop)→Prop} {K:derived→Prop} {f:Bool→Nat→List Expr→List Expr→Option (derived)} {X1:Bool→Nat→List Expr→List Expr→Prop} {b:Bool} {c:Nat} {d:List Expr} {e:List Expr} (hXR:∀v0 v1 (k:derived→Prop),Sn k (XRe v0 v1) (XR v0 v1 k)) (a:∀v0 v1 v2 v3,Sn K (f v0 v1 v2 v3) (X1 v0 v1 v2 v3)):Sn K (Qcd u_ a0 a1 XRe f b c d e) (J0P a0 a1 XR K X1 b c d e):=by
 unfold Qcd J0P;exact(Sn.ite (Sn.bd (Sn.ite (Sn.bind (hXR _ _ _) fun _=>(Sn.both (Sn.both (Sn.and (Sn.both (Sn.bd (Sn.ite Sn.none (a _ _ _ _))) (Sn.ite Sn.none (Sn.bd (a _ _ _ _))))) (Sn.both (Sn.both (Sn.and (Sn.bd (Sn.ite Sn.none (a _ _ _ _)))) (Sn.ite Sn.none (Sn.and (Sn.bd (a _ _ _ _))))) (Sn.ite Sn.none (Sn.and (Sn.bd (a _ _ _ _)))))) (Sn.both (Sn.both (Sn.both (Sn.and (Sn.bd (Sn.ite Sn.none (a _ _ _ _)))) (Sn.ite Sn.none (Sn.and (Sn.bd (a _ _ _ _))))) (Sn.ite Sn.none (Sn.and (Sn.bd (a _ _ _ _))))) (Sn.ite Sn.none (Sn.and (Sn.bd (a _ _ _ _))))))) (Sn.ite (Sn.bd (a _ _ _ _)) Sn.none))) (Sn.and (Sn.and (Sn.loop fun s Xe X hX=>Qen (fun _ _=>hX _)))))
def Qce (u_:Nat) (XR:deriver→Expr→Option (derived)) (a0:deriver) (a1:Expr):Option (derived):=
 (if a1.Op=(2:Int) then Option.none else (if a1.Op=(3:Int) then (if a1.Letter=a0.letter then (some (((⟨(⟨2,0,([]:List Expr)⟩:Expr),(⟨3,a1.Letter,([]:List Expr)⟩:Expr),false⟩:derived)))) else (some (((⟨(⟨1,0,([]:List Expr)⟩:Expr),(⟨3,a1.Letter,([]:List Expr)⟩:Expr),false⟩:derived))))) else (if a1.Op=(4:Int) then Option.none else (if a1.Op=(6:Int) then Option.none else (if a1.Op=(8:Int) then Option.none else (if a1.Op=(7:Int) then (bE (0:Int) (a1.Kids.length:Int) ((XR a0 ((⟨((ix a1.Kids (0:Int)).Op),((ix a1.Kids (0:Int)).Letter),(ix a1.Kids (0:Int)).Kids⟩:Expr))).bind fun g=>((Qaa u_ 7 ([g.self])).bind fun a=>((Qaa u_ 5 ([g.by_,a])).bind fun b=>(some (((⟨(⟨b.Op,b.Letter,b.Kids⟩:Expr),(⟨a.Op,a.Letter,a.Kids⟩:Expr),true⟩:derived)))))))) else (if a1.Op=(5:Int) then (if 0≤(a1.Kids.length:Int) then (if (a1.Kids.length:Int)≤1099511627776 then (loopEv u_ (S:=Bool×Nat×List Expr×List Expr) (fun s X=>Qcd u_ a0 a1 XR (fun c d e f=>X (c,d,e,f)) s.1 s.2.1 s.2.2.1 s.2.2.2) (true,0,([]:List Expr),List.replicate a1.Kids.length ((default:Expr)))) else Option.none) else Option.none) else (some (((⟨(⟨1,0,([]:List Expr)⟩:Expr),(⟨1,0,([]:List Expr)⟩:Expr),false⟩:derived)))))))))))
theorem Qep {u_:Nat} {XRe:deriver→Expr→Option (derived)} {XR:deriver→Expr→(derived→Prop)→Prop} {a0:deriver} {a1:Expr} {K:derived→Prop} (hXR:∀v0 v1 (k:derived→Prop),Sn k (XRe v0 v1) (XR v0 v1 k)):Sn K (Qce u_ XRe a0 a1) (J0y XR a0 a1 K):=by
 unfold Qce J0y;exact(Sn.ite Sn.none (Sn.ite (Sn.ite Sn.ret Sn.ret) (Sn.ite Sn.none (Sn.ite Sn.none (Sn.ite Sn.none (Sn.ite (Sn.bd (Sn.bind (hXR _ _ _) fun _=>(Sn.bind Qae fun _=>(Sn.bind Qae fun _=>Sn.ret)))) (Sn.ite (Sn.imp (Sn.and (Sn.and (Sn.loop fun s Xe X hX=>Qeo hXR (fun _ _ _ _=>hX _))))) Sn.ret)))))))
def J0J (u_:Nat):Nat→deriver→Expr→Option (derived)
 | 0=>fun _ _=>none
 | n+1=>fun a0 a1=>Qce u_ (J0J u_ n) a0 a1
def Qda (u_:Nat) (a0:deriver) (a1:Expr):Option (derived):=J0J u_ u_ a0 a1
theorem Qeq {u_:Nat} {a0:deriver} {a1:Expr} {K:derived→Prop}:Sn K (Qda u_ a0 a1) (J1a a0 a1 K):=by
 intro r hr hk X hX
 have key:∀n (a0:deriver) (a1:Expr) (K:derived→Prop) r,J0J u_ n a0 a1=some r→K r→X a0 a1 K:=by
  intro n
  induction n with
  | zero=>intro a0 a1 K r hr;cases hr
  | succ n ih=>exact fun a0 a1 K r hr hk=>hX a0 a1 K (Qep (fun a0 a1 K r hr hk=>ih a0 a1 K r hr hk) r hr hk)
 exact key _ a0 a1 K r hr hk
def Qcf (u_:Nat) (d:derived):Option (Expr×Int):=
 ((Qag u_ d.by_ 6).bind fun r7=>(if r7=0 then (some (((⟨d.by_.Op,d.by_.Letter,d.by_.Kids⟩:Expr)),0)) else Option.none))
theorem Qer {u_:Nat} {d:derived} {K:Expr→Int→Prop}  : Sn (fun p:Expr×Int=>K p.1 p.2) (Qcf u_ d) (J2h d K):=by
 unfold Qcf J2h;exact(Sn.bind Qbb fun _=>(Sn.ite Sn.ret Sn.none))
def Qas (u_:Nat) (e:Expr) (letter:Int):Option (Expr×Int):=
 ((Qda u_ ((⟨letter,true⟩:deriver)) e).bind fun r7=>((Qcf u_ r7).bind fun (p:(Expr)×(Int))=>(fun (r9:Expr) (a:Int)=>(some (((⟨r9.Op,r9.Letter,r9.Kids⟩:Expr)),a))) p.1 p.2))
theorem Qdb {u_:Nat} {e:Expr} {letter:Int} {K:Expr→Int→Prop}  : Sn (fun p:Expr×Int=>K p.1 p.2) (Qas u_ e letter) (J1i e letter K):=by
 unfold Qas J1i;exact(Sn.bind Qeq fun _=>(Sn.bind Qer fun _=>Sn.ret))
def Qcg (u_:Nat) (letters:Int) (d:Int) (g:List (List Int)) (X1:Int→List (List Int)→List Expr→List (Str×Int)→Option (DFA×Int)) (X3:Nat→List Int→List Expr→List (Str×Int)→Option (DFA×Int)) (b:Nat) (e:List Int) (a:List Expr) (c:List (Str×Int)):Option (DFA×Int):=
 (if (b:Int)<((List.replicate letters.toNat ((0:Int))).length:Int) then (bE d (a.length:Int) ((Qas u_ ((⟨((ix a d).Op),((ix a d).Letter),(ix a d).Kids⟩:Expr)) ((b:Int))).bind fun (p:(Expr)×(Int))=>(fun (f:Expr) (i:Int)=>(if i=0 then ((Qac u_ f).bind fun h=>(if mhas c h=true then (bE (b:Int) (e.length:Int) (if I64 ((b:Int)+(1:Int)) then (X3 (b+1) (st e (b:Int) (mgt c h)) a c) else Option.none)) else (if (a.length:Int)=512 then Option.none else ((Qac u_ f).bind fun j=>(if a.length+([(⟨(0:Int),(0:Int),[]⟩:Expr)]).length≤1099511627776 then (bE (a.length:Int) ((a++([(⟨(0:Int),(0:Int),[]⟩:Expr)])).length:Int) (bE (b:Int) (e.length:Int) (if I64 ((b:Int)+(1:Int)) then (X3 (b+1) (st e (b:Int) (a.length:Int)) (st (a++([(⟨(0:Int),(0:Int),[]⟩:Expr)])) (a.length:Int) f) (mput c j ((a.length:Int)))) else Option.none))) else Option.none))))) else Option.none)) p.1 p.2)) else (if g.length+([e]).length≤1099511627776 then (if I64 (d+(1:Int)) then (X1 ((d+(1:Int))) (g++([e])) a c) else Option.none) else Option.none))
theorem Qes {u_:Nat} {letters:Int} {c:Int} {f:List (List Int)} {g:Int→List (List Int)→List Expr→List (Str×Int)→Option (DFA×Int)} {X1:Int→List (List Int)→List Expr→List (Str×Int)→Prop} {K:DFA→Int→Prop} {h:Nat→List Int→List Expr→List (Str×Int)→Option (DFA×Int)} {X3:Nat→List Int→List Expr→List (Str×Int)→Prop} {a:Nat} {d:List Int} {e:List Expr} {b:List (Str×Int)} (j:∀v0 v1 v2 v3,Sn (fun p:DFA×Int=>K p.1 p.2) (g v0 v1 v2 v3) (X1 v0 v1 v2 v3)) (i:∀v0 v1 v2 v3,Sn (fun p:DFA×Int=>K p.1 p.2) (h v0 v1 v2 v3) (X3 v0 v1 v2 v3)):Sn (fun p:DFA×Int=>K p.1 p.2) (Qcg u_ letters c f g h a d e b) (J4N letters c f X1 K X3 a d e b):=by
 unfold Qcg J4N;exact(Sn.ite (Sn.bd (Sn.bind Qdb fun _=>(Sn.ite (Sn.bind Qak fun _=>(Sn.ite (Sn.bd (Sn.and (i _ _ _ _))) (Sn.ite Sn.none (Sn.bind Qak fun _=>(Sn.and (Sn.bd (Sn.bd (Sn.and (i _ _ _ _))))))))) Sn.none))) (Sn.and (Sn.and (j _ _ _ _))))
def Qch (u_:Nat) (letters:Int) (X1:Int→List (List Int)→List Expr→List (Str×Int)→Option (DFA×Int)) (b:Int) (c:List (List Int)) (a:List Expr) (f:List (Str×Int)):Option (DFA×Int):=
 (if b=(a.length:Int) then (loopEv u_ (S:=Nat×List Bool) (fun s X=>Qcb u_ letters c a (fun g h=>X (g,h)) s.1 s.2) (0,([]:List Bool))) else (if 0≤letters then (if letters≤1099511627776 then (loopEv u_ (S:=Nat×List Int×List Expr×(List (Str×Int))) (fun s X=>Qcg u_ letters b c X1 (fun d i j e=>X (d,i,j,e)) s.1 s.2.1 s.2.2.1 s.2.2.2) (0,List.replicate letters.toNat 0,a,f)) else Option.none) else Option.none))
theorem Qet {u_:Nat} {letters:Int} {K:DFA→Int→Prop} {e:Int→List (List Int)→List Expr→List (Str×Int)→Option (DFA×Int)} {X1:Int→List (List Int)→List Expr→List (Str×Int)→Prop} {a:Int} {c:List (List Int)} {d:List Expr} {b:List (Str×Int)} (f:∀v0 v1 v2 v3,Sn (fun p:DFA×Int=>K p.1 p.2) (e v0 v1 v2 v3) (X1 v0 v1 v2 v3)):Sn (fun p:DFA×Int=>K p.1 p.2) (Qch u_ letters e a c d b) (J4v letters K X1 a c d b):=by
 unfold Qch J4v;exact(Sn.ite (Sn.loop fun s Xe X hX=>Qem (fun _ _=>hX _)) (Sn.and (Sn.and (Sn.loop fun s Xe X hX=>Qes f (fun _ _ _ _=>hX _)))))
def Qci (u_:Nat) (letters:Int) (e:List (List Int)) (b:List Expr) (X5:Nat→List Bool→Option (DFA×Int)) (a:Nat) (c:List Bool):Option (DFA×Int):=
 (if (a:Int)<b.length then (bE a b.length ((Qca u_ ((⟨((ix b a).Op),((ix b a).Letter),(ix b a).Kids⟩:Expr))).bind fun d=>(if c.length+([d]).length≤1099511627776 then (X5 (a+1) (c++([d]))) else Option.none))) else (some (((⟨letters,0,c,e⟩:DFA)),0)))
theorem Qeu {u_:Nat} {letters:Int} {b:List (List Int)} {c:List Expr} {K:DFA→Int→Prop} {e:Nat→List Bool→Option (DFA×Int)} {X5:Nat→List Bool→Prop} {a:Nat} {d:List Bool} (f:∀v0 v1,Sn (fun p:DFA×Int=>K p.1 p.2) (e v0 v1) (X5 v0 v1)):Sn (fun p:DFA×Int=>K p.1 p.2) (Qci u_ letters b c e a d) (J54 letters b c K X5 a d):=by
 unfold Qci J54;exact(Sn.ite (Sn.bd (Sn.bind Qcz fun _=>(Sn.and (f _ _)))) Sn.ret)
def Qcj (u_:Nat) (letters:Int) (c:Int) (g:List (List Int)) (X4:Int→List (List Int)→List Expr→List (Str×Int)→Option (DFA×Int)) (X6:Nat→List Int→List Expr→List (Str×Int)→Option (DFA×Int)) (b:Nat) (e:List Int) (a:List Expr) (d:List (Str×Int)):Option (DFA×Int):=
 (if (b:Int)<((List.replicate letters.toNat ((0:Int))).length:Int) then (bE c (a.length:Int) ((Qas u_ ((⟨((ix a c).Op),((ix a c).Letter),(ix a c).Kids⟩:Expr)) ((b:Int))).bind fun (p:(Expr)×(Int))=>(fun (f:Expr) (i:Int)=>(if i=0 then ((Qac u_ f).bind fun h=>(if mhas d h=true then (bE (b:Int) (e.length:Int) (if I64 ((b:Int)+(1:Int)) then (X6 (b+1) (st e (b:Int) (mgt d h)) a d) else Option.none)) else (if (a.length:Int)=512 then Option.none else ((Qac u_ f).bind fun j=>(if a.length+([(⟨(0:Int),(0:Int),[]⟩:Expr)]).length≤1099511627776 then (bE (a.length:Int) ((a++([(⟨(0:Int),(0:Int),[]⟩:Expr)])).length:Int) (bE (b:Int) (e.length:Int) (if I64 ((b:Int)+(1:Int)) then (X6 (b+1) (st e (b:Int) (a.length:Int)) (st (a++([(⟨(0:Int),(0:Int),[]⟩:Expr)])) (a.length:Int) f) (mput d j ((a.length:Int)))) else Option.none))) else Option.none))))) else Option.none)) p.1 p.2)) else (if g.length+([e]).length≤1099511627776 then (if I64 (c+(1:Int)) then (X4 ((c+(1:Int))) (g++([e])) a d) else Option.none) else Option.none))
theorem Qev {u_:Nat} {letters:Int} {a:Int} {d:List (List Int)} {g:Int→List (List Int)→List Expr→List (Str×Int)→Option (DFA×Int)} {X4:Int→List (List Int)→List Expr→List (Str×Int)→Prop} {K:DFA→Int→Prop} {h:Nat→List Int→List Expr→List (Str×Int)→Option (DFA×Int)} {X6:Nat→List Int→List Expr→List (Str×Int)→Prop} {b:Nat} {e:List Int} {f:List Expr} {c:List (Str×Int)} (j:∀v0 v1 v2 v3,Sn (fun p:DFA×Int=>K p.1 p.2) (g v0 v1 v2 v3) (X4 v0 v1 v2 v3)) (i:∀v0 v1 v2 v3,Sn (fun p:DFA×Int=>K p.1 p.2) (h v0 v1 v2 v3) (X6 v0 v1 v2 v3)):Sn (fun p:DFA×Int=>K p.1 p.2) (Qcj u_ letters a d g h b e f c) (J51 letters a d X4 K X6 b e f c):=by
 unfold Qcj J51;exact(Sn.ite (Sn.bd (Sn.bind Qdb fun _=>(Sn.ite (Sn.bind Qak fun _=>(Sn.ite (Sn.bd (Sn.and (i _ _ _ _))) (Sn.ite Sn.none (Sn.bind Qak fun _=>(Sn.and (Sn.bd (Sn.bd (Sn.and (i _ _ _ _))))))))) Sn.none))) (Sn.and (Sn.and (j _ _ _ _))))
def Qck (u_:Nat) (letters:Int) (X4:Int→List (List Int)→List Expr→List (Str×Int)→Option (DFA×Int)) (b:Int) (c:List (List Int)) (a:List Expr) (d:List (Str×Int)):Option (DFA×Int):=
 (if b=(a.length:Int) then (loopEv u_ (S:=Nat×List Bool) (fun s X=>Qci u_ letters c a (fun e h=>X (e,h)) s.1 s.2) (0,([]:List Bool))) else (if 0≤letters then (if letters≤1099511627776 then (loopEv u_ (S:=Nat×List Int×List Expr×(List (Str×Int))) (fun s X=>Qcj u_ letters b c X4 (fun f i j g=>X (f,i,j,g)) s.1 s.2.1 s.2.2.1 s.2.2.2) (0,List.replicate letters.toNat 0,a,d)) else Option.none) else Option.none))
theorem Qew {u_:Nat} {letters:Int} {K:DFA→Int→Prop} {e:Int→List (List Int)→List Expr→List (Str×Int)→Option (DFA×Int)} {X4:Int→List (List Int)→List Expr→List (Str×Int)→Prop} {a:Int} {c:List (List Int)} {d:List Expr} {b:List (Str×Int)} (f:∀v0 v1 v2 v3,Sn (fun p:DFA×Int=>K p.1 p.2) (e v0 v1 v2 v3) (X4 v0 v1 v2 v3)):Sn (fun p:DFA×Int=>K p.1 p.2) (Qck u_ letters e a c d b) (J4K letters K X4 a c d b):=by
 unfold Qck J4K;exact(Sn.ite (Sn.loop fun s Xe X hX=>Qeu (fun _ _=>hX _)) (Sn.and (Sn.and (Sn.loop fun s Xe X hX=>Qev f (fun _ _ _ _=>hX _)))))
def Qdc (u_:Nat) (e:Expr) (letters:Int):Option (DFA×Int):=
 ((Qag u_ e letters).bind fun r7=>(if r7=0 then ((Qbt u_ e).bind fun a=>((Qac u_ a).bind fun i=>(if (([]:List Expr)).length+([(⟨0,0,[]⟩:Expr)]).length≤1099511627776 then (bE (0:Int) (((([]:List Expr))++([(⟨0,0,[]⟩:Expr)])).length:Int) (bothEv (loopEv u_ (S:=Int×List (List Int)×List Expr×(List (Str×Int))) (fun s X=>Qch u_ letters (fun d j k f=>X (d,j,k,f)) s.1 s.2.1 s.2.2.1 s.2.2.2) ((0:Int),([]:List (List Int)),st ((([]:List Expr))++([(⟨0,0,[]⟩:Expr)])) (0:Int) a,mput (([]:List (Str×Int))) i 0)) (loopEv u_ (S:=Int×List (List Int)×List Expr×(List (Str×Int))) (fun s X=>Qck u_ letters (fun b g h c=>X (b,g,h,c)) s.1 s.2.1 s.2.2.1 s.2.2.2) ((0:Int),([]:List (List Int)),st ((([]:List Expr))++([(⟨0,0,[]⟩:Expr)])) (0:Int) a,mput (([]:List (Str×Int))) i 0)))) else Option.none))) else Option.none))
theorem J9Z {u_:Nat} {e:Expr} {letters:Int} {K:DFA→Int→Prop}  : Sn (fun p:DFA×Int=>K p.1 p.2) (Qdc u_ e letters) (J3V e letters K):=by
 unfold Qdc J3V;exact(Sn.bind Qbb fun _=>(Sn.ite (Sn.bind Qef fun _=>(Sn.bind Qak fun _=>(Sn.and (Sn.bd (Sn.both (Sn.loop fun s Xe X hX=>Qet (fun _ _ _ _=>hX _)) (Sn.loop fun s Xe X hX=>Qew (fun _ _ _ _=>hX _))))))) Sn.none))
def Qcl (u_:Nat) (w_:Str) (letters:Int) (X1:Nat→Option (Bool)) (a:Nat):Option (Bool):=
 (if (a:Int)<w_.length then (bE a w_.length (if ((ix w_ a).toNat:Int)<(97:Int) then (some (false)) else (bE a w_.length (if letters≤(IntKind.i64.wrap (IntKind.u8.wrap (((ix w_ a).toNat:Int)-97))) then (some (false)) else (X1 (a+1)))))) else (some (true)))
theorem Qex {u_:Nat} {w_:Str} {letters:Int} {K:Bool→Prop} {b:Nat→Option (Bool)} {X1:Nat→Prop} {a:Nat} (c:∀v0,Sn K (b v0) (X1 v0)):Sn K (Qcl u_ w_ letters b a) (J69 w_ letters K X1 a):=by
 unfold Qcl J69;exact(Sn.ite (Sn.bd (Sn.ite Sn.ret (Sn.bd (Sn.ite Sn.ret (c _))))) Sn.ret)
def Qcm (u_:Nat) (w_:Str) (letters:Int):Option (Bool):=
 (if letters<(1:Int) then (some (false)) else (if 6<letters then (some (false)) else (if 2048<(w_.length:Int) then (some (false)) else (loopEv u_ (S:=Nat) (fun s X=>Qcl u_ w_ letters X s) 0))))
theorem Qey {u_:Nat} {w_:Str} {letters:Int} {K:Bool→Prop}  : Sn K (Qcm u_ w_ letters) (J5V w_ letters K):=by
 unfold Qcm J5V;exact(Sn.ite Sn.ret (Sn.ite Sn.ret (Sn.imp (Sn.ite Sn.ret (Sn.loop fun s Xe X hX=>Qex (fun _=>hX _))))))
def Qcn (u_:Nat) (x:Int):Option (Int):=
 (if x=(0:Int) then Option.none else (bE (shrK .u64 (IntKind.u64.wrap ((bits .and .u64 x (IntKind.u64.wrap (0-x)))*285870213051353865)) (58:Int)) (dbTab.length:Int) (some (((IntKind.i64.wrap (ix dbTab (shrK .u64 (IntKind.u64.wrap ((bits .and .u64 x (IntKind.u64.wrap (0-x)))*285870213051353865)) (58:Int)))))))))
theorem Qez {u_:Nat} {x:Int} {K:Int→Prop}  : Sn K (Qcn u_ x) (J0o x K):=by
 unfold Qcn J0o;exact(Sn.ite Sn.none (Sn.bd Sn.ret))
def Qco (u_:Nat) (e:Expr) (w_:Str) (a:Nat) (X1:Nat→List (List Int)→Option (Bool)) (X2:Int→List (List Int)→Option (Bool)) (c:Int) (d:List (List Int)):Option (Bool):=
 (if c=(0:Int) then (X1 (a+1) d) else ((Qcn u_ c).bind fun b=>(if I64 ((shlK .i64 (a:Int) (6:Int))+b) then (if I64 ((shrK .i64 (w_.length:Int) (6:Int))+1) then (if 0≤((shrK .i64 (w_.length:Int) (6:Int))+1) then (if ((shrK .i64 (w_.length:Int) (6:Int))+1)≤1099511627776 then (bE ((shlK .i64 (a:Int) (6:Int))+b) (d.length:Int) (if e.Op=(2:Int) then Option.none else (if e.Op=(3:Int) then (if ((shlK .i64 (a:Int) (6:Int))+b)<(w_.length:Int) then (bE ((shlK .i64 (a:Int) (6:Int))+b) (w_.length:Int) (if (IntKind.i64.wrap (IntKind.u8.wrap (((ix w_ ((shlK .i64 (a:Int) (6:Int))+b)).toNat:Int)-97)))=e.Letter then (bE ((shlK .i64 (a:Int) (6:Int))+b) ((st d ((shlK .i64 (a:Int) (6:Int))+b) (List.replicate (((shrK .i64 (w_.length:Int) (6:Int))+1).toNat) 0)).length:Int) (if I64 (((shlK .i64 (a:Int) (6:Int))+b)+1) then (bE (shrK .i64 (((shlK .i64 (a:Int) (6:Int))+b)+1) (6:Int)) ((ix (st d ((shlK .i64 (a:Int) (6:Int))+b) (List.replicate (((shrK .i64 (w_.length:Int) (6:Int))+1).toNat) 0)) ((shlK .i64 (a:Int) (6:Int))+b)).length:Int) (if 0≤(bits .and .i64 (((shlK .i64 (a:Int) (6:Int))+b)+1) (63:Int)) then (bE (shrK .i64 (((shlK .i64 (a:Int) (6:Int))+b)+1) (6:Int)) ((ix (st d ((shlK .i64 (a:Int) (6:Int))+b) (List.replicate (((shrK .i64 (w_.length:Int) (6:Int))+1).toNat) 0)) ((shlK .i64 (a:Int) (6:Int))+b)).length:Int) (X2 ((bits .and .u64 c (IntKind.u64.wrap (c-1)))) (st (st d ((shlK .i64 (a:Int) (6:Int))+b) (List.replicate (((shrK .i64 (w_.length:Int) (6:Int))+1).toNat) 0)) ((shlK .i64 (a:Int) (6:Int))+b) (st (ix (st d ((shlK .i64 (a:Int) (6:Int))+b) (List.replicate (((shrK .i64 (w_.length:Int) (6:Int))+1).toNat) 0)) ((shlK .i64 (a:Int) (6:Int))+b)) (shrK .i64 (((shlK .i64 (a:Int) (6:Int))+b)+1) (6:Int)) (bits .or .u64 (ix (ix (st d ((shlK .i64 (a:Int) (6:Int))+b) (List.replicate (((shrK .i64 (w_.length:Int) (6:Int))+1).toNat) 0)) ((shlK .i64 (a:Int) (6:Int))+b)) (shrK .i64 (((shlK .i64 (a:Int) (6:Int))+b)+1) (6:Int))) (shlK .u64 (1:Int) (bits .and .i64 (((shlK .i64 (a:Int) (6:Int))+b)+1) (63:Int)))))))) else Option.none)) else Option.none)) else Option.none)) else Option.none) else Option.none))) else Option.none) else Option.none) else Option.none) else Option.none)))
theorem Qfa {u_:Nat} {e:Expr} {w_:Str} {b:Nat} {d:Nat→List (List Int)→Option (Bool)} {X1:Nat→List (List Int)→Prop} {K:Bool→Prop} {f:Int→List (List Int)→Option (Bool)} {X2:Int→List (List Int)→Prop} {a:Int} {c:List (List Int)} (g:∀v0 v1,Sn K (d v0 v1) (X1 v0 v1)) (h:∀v0 v1,Sn K (f v0 v1) (X2 v0 v1)):Sn K (Qco u_ e w_ b d f a c) (J6m e w_ b X1 K X2 a c):=by
 unfold Qco J6m;exact(Sn.ite (g _ _) (Sn.bind Qez fun _=>(Sn.and (Sn.and (Sn.and (Sn.and (Sn.bd (Sn.ite Sn.none (Sn.ite (Sn.ite (Sn.bd (Sn.ite (Sn.bd (Sn.and (Sn.bd (Sn.and (Sn.bd (h _ _)))))) Sn.none)) Sn.none) Sn.none)))))))))
def Qcp (u_:Nat) (e:Expr) (w_:Str) (X1:Nat→List (List Int)→Option (Bool)) (a:Nat) (b:List (List Int)):Option (Bool):=
 (if (a:Int)<((st (List.replicate (((shrK .i64 (w_.length:Int) (6:Int))+1).toNat) 0) (shrK .i64 (0:Int) (6:Int)) (bits .or .u64 (ix (List.replicate (((shrK .i64 (w_.length:Int) (6:Int))+1).toNat) 0) (shrK .i64 (0:Int) (6:Int))) (shlK .u64 (1:Int) (bits .and .i64 (0:Int) (63:Int))))).length:Int) then (bE a ((st (List.replicate (((shrK .i64 (w_.length:Int) (6:Int))+1).toNat) 0) (shrK .i64 (0:Int) (6:Int)) (bits .or .u64 (ix (List.replicate (((shrK .i64 (w_.length:Int) (6:Int))+1).toNat) 0) (shrK .i64 (0:Int) (6:Int))) (shlK .u64 (1:Int) (bits .and .i64 (0:Int) (63:Int))))).length:Int) (loopEv u_ (S:=Int×List (List Int)) (fun s X=>Qco u_ e w_ a X1 (fun c d=>X (c,d)) s.1 s.2) ((ix (st (List.replicate (((shrK .i64 (w_.length:Int) (6:Int))+1).toNat) 0) (shrK .i64 (0:Int) (6:Int)) (bits .or .u64 (ix (List.replicate (((shrK .i64 (w_.length:Int) (6:Int))+1).toNat) 0) (shrK .i64 (0:Int) (6:Int))) (shlK .u64 (1:Int) (bits .and .i64 (0:Int) (63:Int))))) (a:Int)),b))) else (bE (0:Int) (b.length:Int) (bE (shrK .i64 (w_.length:Int) (6:Int)) ((ix b (0:Int)).length:Int) (if 0≤(bits .and .i64 (w_.length:Int) (63:Int)) then (if (bits .and .u64 (shrK .u64 (ix (ix b (0:Int)) (shrK .i64 (w_.length:Int) (6:Int))) (bits .and .i64 (w_.length:Int) (63:Int))) (1:Int))=(1:Int) then (some (true)) else Option.none) else Option.none))))
theorem Qfb {u_:Nat} {e:Expr} {w_:Str} {K:Bool→Prop} {c:Nat→List (List Int)→Option (Bool)} {X1:Nat→List (List Int)→Prop} {a:Nat} {b:List (List Int)} (d:∀v0 v1,Sn K (c v0 v1) (X1 v0 v1)):Sn K (Qcp u_ e w_ c a b) (J6y e w_ K X1 a b):=by
 unfold Qcp J6y;exact(Sn.ite (Sn.bd (Sn.loop fun s Xe X hX=>Qfa d (fun _ _=>hX _))) (Sn.bd (Sn.bd (Sn.and (Sn.ite Sn.ret Sn.none)))))
def Qdd (u_:Nat) (e:Expr) (w_:Str):Option (Bool):=
 ((Qah u_ e).bind fun r4=>(if r4=true then ((Qcm u_ w_ ((6:Int))).bind fun r6=>(if r6=true then (if I64 ((shrK .i64 (w_.length:Int) (6:Int))+(1:Int)) then (if 0≤((shrK .i64 (w_.length:Int) (6:Int))+(1:Int)) then (if ((shrK .i64 (w_.length:Int) (6:Int))+(1:Int))≤1099511627776 then (bE (shrK .i64 (0:Int) (6:Int)) ((List.replicate (((shrK .i64 (w_.length:Int) (6:Int))+(1:Int)).toNat) ((0:Int))).length:Int) (if 0≤(bits .and .i64 (0:Int) (63:Int)) then (bE (shrK .i64 (0:Int) (6:Int)) ((List.replicate (((shrK .i64 (w_.length:Int) (6:Int))+(1:Int)).toNat) ((0:Int))).length:Int) (if e.Op=(5:Int) then Option.none else (if e.Op=(7:Int) then Option.none else (if e.Op=(4:Int) then Option.none else (if e.Op=(6:Int) then Option.none else (if e.Op=(8:Int) then Option.none else (if I64 ((w_.length:Int)+(1:Int)) then (if 0≤(w_.length+1:Int) then (if (w_.length+1:Int)≤1099511627776 then (loopEv u_ (S:=Nat×List (List Int)) (fun s X=>Qcp u_ e w_ (fun a b=>X (a,b)) s.1 s.2) (0,List.replicate (w_.length+1) ([]:List Int))) else Option.none) else Option.none) else Option.none))))))) else Option.none)) else Option.none) else Option.none) else Option.none) else Option.none)) else Option.none))
theorem JaJ {u_:Nat} {e:Expr} {w_:Str} {K:Bool→Prop}  : Sn K (Qdd u_ e w_) (J5T e w_ K):=by
 unfold Qdd J5T;exact(Sn.bind Qbc fun _=>(Sn.ite (Sn.bind Qey fun _=>(Sn.ite (Sn.imp (Sn.and (Sn.and (Sn.and (Sn.bd (Sn.and (Sn.bd (Sn.ite Sn.none (Sn.ite Sn.none (Sn.ite Sn.none (Sn.ite Sn.none (Sn.ite Sn.none (Sn.and (Sn.and (Sn.and (Sn.loop fun s Xe X hX=>Qfb (fun _ _=>hX _))))))))))))))))) Sn.none)) Sn.none))
def Qde (u_:Nat) (x:Int):Option (Expr):=
 (some (((⟨3,x,([]:List Expr)⟩:Expr))))
theorem J6b {u_:Nat} {x:Int} {K:Expr→Prop}  : Sn K (Qde u_ x) (J3w x K):=by
 unfold Qde J3w;exact Sn.ret
def Qdf (u_:Nat) (op:Int) (kids:List Expr):Option (Expr):=
 (some (((⟨op,0,kids⟩:Expr))))
theorem J9U {u_:Nat} {op:Int} {kids:List Expr} {K:Expr→Prop}  : Sn K (Qdf u_ op kids) (J7p op kids K):=by
 unfold Qdf J7p;exact Sn.ret
end Sg
