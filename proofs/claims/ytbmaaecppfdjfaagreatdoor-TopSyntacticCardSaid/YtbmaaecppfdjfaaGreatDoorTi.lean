/- -/
import Derived.Test.YtbmaaecppfdjfaaGreatDoorCB
import Derived.Test.YtbmaaecppfdjfaaGreatDoorCC
import Derived.Test.YtbmaaecppfdjfaaGreatDoorCD
import Derived.Test.YtbmaaecppfdjfaaGreatDoorRows
import Derived.Test.YtbmaaecppfdjfaaGreatDoorFns
namespace Sg
open Go Go.RowKit Go.Proofs
set_option linter.unusedVariables false
set_option linter.unusedSimpArgs false
set_option maxRecDepth 100000
set_option maxHeartbeats 4000000
theorem mixed:Tryz.prog.follows .mixedOrders=true:=by kernel_rfl
def rpRule:Rp Rule:=Rp.flat 2 (fun a=>[.string (gstr a.Left),.string (gstr a.Right)]) (fun a=>a.Left.length≤mx∧a.Right.length≤mx) (by decide) (fun _=>rfl) (fun x v hv=>by
 simp only[List.mem_cons,List.not_mem_nil,or_false] at hv
 rcases hv with rfl | rfl<;>rfl)
def rppart:Rp part:=Rp.iso (Rp.prod (Rp.int .i64) (Rp.prod (Rp.sl (Rp.bool)) (Rp.int .i64))) (fun a=>(a.start,a.final,a.shift))
theorem JcR {A:List Nat} {w:World} {a:part} {cs:List Value} (hl:cs.length=rppart.sz) (h:rppart.R A w (fun j=>cs[j]?) a) :
  ∃p1 c1,cs=[.int .i64 a.start,.slice p1 a.final.length c1,.int .i64 a.shift]∧ISl (Rp.bool) A w p1 c1 a.final:=by
 obtain⟨x0,x1,x2,rfl⟩:=cells3 hl;obtain⟨h0,⟨p1,c1,h1,i1⟩,h2⟩:=h;obtain rfl:=Option.some.inj h0;obtain rfl:=Option.some.inj h1;obtain rfl:=Option.some.inj h2;exact⟨p1,c1,rfl,i1⟩
theorem ti3:ti Tryz.prog 3=some (some (.int .i64 0),1,8):=by kernel_rfl
theorem ti4:ti Tryz.prog 4=some (some (.bool false),1,1):=by kernel_rfl
theorem ti5:ti Tryz.prog 5=some (some (.int .u8 0),1,1):=by kernel_rfl
theorem ti9:ti Tryz.prog 9=some (some (.string (gstr [])),1,16):=by kernel_rfl
theorem ti21:ti Tryz.prog 21=some (some (.int .i32 0),1,4):=by kernel_rfl
theorem ti22:ti Tryz.prog 22=some (some (.slice none 0 0),1,24):=by kernel_rfl
theorem ti23:ti Tryz.prog 23=some (some (.slice none 0 0),1,24):=by kernel_rfl
theorem ti25:ti Tryz.prog 25=some (some (.agg #[.int .i64 0,.int .i64 0,.slice none 0 0,.slice none 0 0]),4,64):=by kernel_rfl
theorem ti32:ti Tryz.prog 32=some (some (.slice none 0 0),1,24):=by kernel_rfl
theorem ti33:ti Tryz.prog 33=some (some (.slice none 0 0),1,24):=by kernel_rfl
theorem ti35:ti Tryz.prog 35=some (some (.agg #[.int .i64 0,.bool false,.slice none 0 0,.slice none 0 0,.slice none 0 0,.slice none 0 0,.slice none 0 0,.slice none 0 0,.int .i64 0]),9,168):=by kernel_rfl
theorem ti48:ti Tryz.prog 48=some (some (.slice none 0 0),1,24):=by kernel_rfl
theorem ti50:ti Tryz.prog 50=some (some (.agg #[.int .i64 0,.slice none 0 0,.slice none 0 0,.slice none 0 0,.slice none 0 0,.slice none 0 0]),6,128):=by kernel_rfl
theorem ti73:ti Tryz.prog 73=some (some (.slice none 0 0),1,24):=by kernel_rfl
theorem ti75:ti Tryz.prog 75=some (some (.agg #[.slice none 0 0,.slice none 0 0,.slice none 0 0,.slice none 0 0,.slice none 0 0]),5,120):=by kernel_rfl
theorem ti82:ti Tryz.prog 82=some (some (.nilFunc),1,8):=by kernel_rfl
theorem ti84:ti Tryz.prog 84=some (some (.slice none 0 0),1,24):=by kernel_rfl
theorem ti86:ti Tryz.prog 86=some (some (.agg #[.int .i64 0,.int .i64 0,.slice none 0 0]),3,40):=by kernel_rfl
theorem ti94:ti Tryz.prog 94=some (some (.map none),1,8):=by kernel_rfl
theorem ti96:ti Tryz.prog 96=some (some (.agg #[.int .i64 0,.bool false,.slice none 0 0,.slice none 0 0,.slice none 0 0,.slice none 0 0,.slice none 0 0,.slice none 0 0,.int .i64 0,.map none,.slice none 0 0,.slice none 0 0,.slice none 0 0]),13,248):=by kernel_rfl
theorem ti105:ti Tryz.prog 105=some (some (.slice none 0 0),1,24):=by kernel_rfl
theorem ti107:ti Tryz.prog 107=some (some (.agg #[.slice none 0 0,.slice none 0 0,.int .i64 0]),3,56):=by kernel_rfl
theorem ti110:ti Tryz.prog 110=some (some (.slice none 0 0),1,24):=by kernel_rfl
theorem ti112:ti Tryz.prog 112=some (some (.agg #[.int .i64 0,.int .i64 0,.slice none 0 0,.slice none 0 0,.int .i64 0,.slice none 0 0,.slice none 0 0,.slice none 0 0]),8,144):=by kernel_rfl
theorem ti126:ti Tryz.prog 126=some (some (.slice none 0 0),1,24):=by kernel_rfl
theorem ti132:ti Tryz.prog 132=some (some (.slice none 0 0),1,24):=by kernel_rfl
theorem ti141:ti Tryz.prog 141=some (some (.agg #[.string (gstr [])]),1,16):=by kernel_rfl
theorem ti142:ti Tryz.prog 142=some (some (.slice none 0 0),1,24):=by kernel_rfl
theorem ti145:ti Tryz.prog 145=some (some (.slice none 0 0),1,24):=by kernel_rfl
theorem ti150:ti Tryz.prog 150=some (some (.agg #[.string (gstr []),.string (gstr [])]),2,32):=by kernel_rfl
theorem ti155:ti Tryz.prog 155=some (some (.agg #[.int .i64 0,.slice none 0 0,.int .i64 0]),3,40):=by kernel_rfl
theorem ti161:ti Tryz.prog 161=some (some (.int .u64 0),1,8):=by kernel_rfl
theorem ti163:ti Tryz.prog 163=some (some (.map none),1,8):=by kernel_rfl
theorem ti165:ti Tryz.prog 165=some (some (.agg #[.slice none 0 0,.map none]),2,32):=by kernel_rfl
theorem ti168:ti Tryz.prog 168=some (some (.agg #[.slice none 0 0,.slice none 0 0,.int .i64 0,.int .i64 0,.slice none 0 0,.slice none 0 0]),6,112):=by kernel_rfl
theorem ti171:ti Tryz.prog 171=some (some (.slice none 0 0),1,24):=by kernel_rfl
theorem ti172:ti Tryz.prog 172=some (some (.agg #[.int .i64 0,.int .i64 0]),2,16):=by kernel_rfl
theorem ti174:ti Tryz.prog 174=some (some (.int .u64 0),1,8):=by kernel_rfl
theorem ti179:ti Tryz.prog 179=some (some (.agg #[.int .i64 0,.slice none 0 0,.slice none 0 0,.int .i64 0]),4,64):=by kernel_rfl
theorem ti181:ti Tryz.prog 181=some (some (.agg #[.int .i64 0,.slice none 0 0,.slice none 0 0,.int .i64 0,.map none]),5,72):=by kernel_rfl
theorem ti191:ti Tryz.prog 191=some (some (.map none),1,8):=by kernel_rfl
theorem ti193:ti Tryz.prog 193=some (some (.agg #[.int .i64 0,.int .i64 0,.int .i64 0,.int .i64 0,.int .i64 0,.int .i64 0,.int .i64 0]),7,56):=by kernel_rfl
theorem ti198:ti Tryz.prog 198=some (some (.map none),1,8):=by kernel_rfl
theorem ti207:ti Tryz.prog 207=some (some (.int .u32 0),1,4):=by kernel_rfl
theorem ti213:ti Tryz.prog 213=some (some (.agg #[.int .i64 0,.int .i64 0,.slice none 0 0,.int .i64 0,.int .i64 0,.slice none 0 0,.bool false]),7,88):=by kernel_rfl
theorem ti215:ti Tryz.prog 215=some (some (.agg #[.int .i64 0,.bool false]),2,16):=by kernel_rfl
theorem ti217:ti Tryz.prog 217=some (some (.pointer none),1,8):=by kernel_rfl
theorem ti219:ti Tryz.prog 219=some (some (.agg #[.pointer none,.slice none 0 0]),2,32):=by kernel_rfl
theorem ti235:ti Tryz.prog 235=some (some (.pointer none),1,8):=by kernel_rfl
theorem ti237:ti Tryz.prog 237=some (some (.agg #[.int .u8 0,.int .u8 0,.int .u8 0,.int .u8 0,.int .u8 0,.int .u8 0,.int .u8 0,.int .u8 0,.int .u8 0,.int .u8 0,.int .u8 0,.int .u8 0,.int .u8 0,.int .u8 0,.int .u8 0,.int .u8 0,.int .u8 0,.int .u8 0,.int .u8 0,.int .u8 0,.int .u8 0,.int .u8 0,.int .u8 0,.int .u8 0,.int .u8 0,.int .u8 0,.int .u8 0,.int .u8 0,.int .u8 0,.int .u8 0,.int .u8 0,.int .u8 0,.int .u8 0,.int .u8 0,.int .u8 0,.int .u8 0,.int .u8 0,.int .u8 0,.int .u8 0,.int .u8 0,.int .u8 0,.int .u8 0,.int .u8 0,.int .u8 0,.int .u8 0,.int .u8 0,.int .u8 0,.int .u8 0,.int .u8 0,.int .u8 0,.int .u8 0,.int .u8 0,.int .u8 0,.int .u8 0,.int .u8 0,.int .u8 0,.int .u8 0,.int .u8 0,.int .u8 0,.int .u8 0,.int .u8 0,.int .u8 0,.int .u8 0,.int .u8 0]),64,64):=by kernel_rfl
theorem eqh150:Tryz.prog.stoodInHeld 150=false:=by kernel_rfl
theorem eqg150:Tryz.prog.eqGuardType Tryz.prog.depth 150=false:=by kernel_rfl
end Sg
