/- -/
import Derived.Test.YtbmaaecppfdjfaaGreatDoorOvTopSyntactic
import Derived.Test.YtbmaaecppfdjfaaGreatDoorWTopSyntactic
import Derived.Test.YtbmaaecppfdjfaaGreatDoorCC
import Derived.Test.YtbmaaecppfdjfaaGreatDoorZq
import Derived.Test.YtbmaaecppfdjfaaGreatDoorGlob
import Derived.Test.YtbmaaecppfdjfaaGreatDoorTie
import Derived.Test.YtbmaaecppfdjfaaGreatDoorCards
import Derived.LaidMore
import Derived.Stop.Joined
import Derived.SevenTiedAt
import Derived.WalkKit
import Derived.ProofKit
import Derived.OpenShut
import Derived.ShutString
import Derived.ChangeOld
import Derived.Below
import Derived.SizedLaws
namespace Go.Proofs.YtbmaaecppfdjfaaGreatDoor.topSyntactic
open Go.ChangeShapes Go.WideShapes Go.ChangeAt Go.RowKit Sg
open Go.ChangeMaps (open_string shut_string)
set_option linter.unusedVariables false
set_option linter.unusedSimpArgs false
set_option maxHeartbeats 4000000
theorem own:ownKnob Tryz.prog.godebug=none:=by kernel_rfl
theorem laidOut:laidOutB Tryz.prog=true:=by kernel_rfl
set_option maxRecDepth 100000 in
theorem lifted (os:Os) (started:os.Started) (H:Type) (enc:TypeId×Value→H) :
  ReturnsInHanded {} Tryz.checked os 7 .any (fun w args=>(Rows.topSyntacticSpec.pre enc Tryz.prog Tryz.f7 [] false w args∧laidMetH Tryz.prog laidG w)∧sizedMet enc Tryz.prog Tryz.f7 (OpenSpec.ofChange Rows.topSyntacticSpec) false w args) (Rows.topSyntacticSpec.post enc Tryz.prog Tryz.f7 false true false false):=by
 refine returnsInHanded_of_change_and (C:=Tryz.checked) (X:=fun w _=>laidMetH Tryz.prog laidG w) (fun _ _ _ hh h=>h.of_heap hh) own started (by kernel_rfl) Tryz.func7
  (ChangeSpec.witness_shaped (enc:=enc) (C:=Tryz.checked) (os:=os) (X:=fun w _=>laidMetH Tryz.prog laidG w) false (World.doorLaid Tryz.prog 400 os) #[.agg #[.int .i64 0,.int .i64 0,.slice none 0 0,.slice none 0 0]] 8 rfl (World.shaped_of_RefB (by kernel_rfl) (by kernel_rfl)) (by kernel_rfl) (by kernel_rfl) (by kernel_rfl) (Jcv os _)) ?_
 intro W base args ds gs before hval0 hW hcnd hsz0 hL _
 have hval:∀(j:Nat) t v,Tryz.f7.params[j]?=some t→args[j]?=some v→Value.okWide Tryz.prog W .any base t v:=hval0
 have hW':=hW
 obtain⟨p,q,hA0,hV,rfl,hfz,hnd⟩:=hW
 have hA:DataW.TrodAll enc Tryz.prog W 0 (fun _=>true) true Tryz.f7.params.toList args.toList ds p:=hA0
 have hsz:(DataW.weightsEach Tryz.prog (Tryz.f7.params.toList++Rows.topSyntacticSpec.plain.varTypes Tryz.prog) (ds++gs)).all (·≤reachBytes)=true:=hsz0
 rw[Tryz.params7] at hA hval hsz
 obtain⟨v0,vs0,d0,ds0,p0,q0,hargs,rfl,rfl,h0,r0⟩:=trodAll_cons hA
 obtain⟨rfl,rfl,rfl⟩:=trodAll_nil r0
 obtain rfl:args=#[v0]:=by cases args;simp_all
 obtain⟨rfl,rfl⟩:=trodVars_none hV
 have k0:=h0
 have lt0:∀x∈p0,x.block<W.heap.size:=by obtain⟨m,hm⟩:=k0;exact DataW.trod_lt m _ _ _ hm
 obtain⟨cs0,rfl,hcs0⟩:=Go.WideShapes.okWide_struct Tryz.underlying25 (hval 0 25 v0 rfl rfl)
 have hsize0:cs0.size=4:=hcs0.trans (by kernel_rfl)
 obtain⟨c0_0,c0_1,c0_2,c0_3,rfl⟩:∃c0_0 c0_1 c0_2 c0_3:Value,cs0=#[c0_0,c0_1,c0_2,c0_3]:=size4 hsize0
 obtain⟨fu0,hf0⟩:=h0
 obtain⟨xs0,n0,_,_,_,hxl0,hfl0⟩:=DataW.trod_struct Tryz.underlying25 hf0
 have e0_0:=hfl0 0 _ rfl
 obtain⟨y0_0,hy0_0⟩:∃y,xs0[0]?=some y:=⟨_,List.getElem?_eq_getElem (by rw[hxl0];decide)⟩
 rw[hy0_0] at e0_0
 replace e0_0:DataW.trod enc Tryz.prog W 0 (fun _=>true) true n0 3 [c0_0]=some y0_0:=e0_0
 obtain⟨d0_0,q0_0,_,wf0_0⟩:=DataW.trod_int Tryz.underlying3 e0_0
 cases q0_0
 have e0_1:=hfl0 1 _ rfl
 obtain⟨y0_1,hy0_1⟩:∃y,xs0[1]?=some y:=⟨_,List.getElem?_eq_getElem (by rw[hxl0];decide)⟩
 rw[hy0_1] at e0_1
 replace e0_1:DataW.trod enc Tryz.prog W 0 (fun _=>true) true n0 3 [c0_1]=some y0_1:=e0_1
 obtain⟨d0_1,q0_1,_,wf0_1⟩:=DataW.trod_int Tryz.underlying3 e0_1
 cases q0_1
 have e0_2:=hfl0 2 _ rfl
 obtain⟨y0_2,hy0_2⟩:∃y,xs0[2]?=some y:=⟨_,List.getElem?_eq_getElem (by rw[hxl0];decide)⟩
 rw[hy0_2] at e0_2
 replace e0_2:DataW.trod enc Tryz.prog W 0 (fun _=>true) true n0 22 [c0_2]=some y0_2:=e0_2
 obtain⟨pp0_2,cc0_2,d0_2,q0_2,I0_2⟩:=Opens.sl Tryz.underlying22 (by kernel_rfl) (Opens.bool Tryz.underlying4) e0_2
 cases q0_2
 have e0_3:=hfl0 3 _ rfl
 obtain⟨y0_3,hy0_3⟩:∃y,xs0[3]?=some y:=⟨_,List.getElem?_eq_getElem (by rw[hxl0];decide)⟩
 rw[hy0_3] at e0_3
 replace e0_3:DataW.trod enc Tryz.prog W 0 (fun _=>true) true n0 23 [c0_3]=some y0_3:=e0_3
 obtain⟨pp0_3,cc0_3,d0_3,q0_3,I0_3⟩:=Opens.sl Tryz.underlying23 (by kernel_rfl) (Opens.ofSl Tryz.underlying32 (by kernel_rfl) (Opens.int Tryz.underlying3)) e0_3
 cases q0_3
 clear hA0 hval0
 have hz:=J7m (A:=[]) (fun _ h=>nomatch h) I0_2 I0_3 (JcW hL) (J8d (⟨d0_0,d0_1,d0_2,d0_3⟩:DFA))
 refine Calls.mono hz ?_
 rintro e W' ⟨v,he,r,hv,hS,hK⟩
 subst he;subst hv
 cases hK
 have bel:Below W.heap.size W W':=⟨hS.os,hS.tape,hS.output,hS.size,hS.block⟩
 exact⟨_,rfl,_,_,_,[],_,[],hW',trodAll_mk1 (shut_bool Tryz.underlying4 _),(trodAll_cons_mk (Below.trod laidOut (by kernel_rfl) (of_decide_eq_true (by kernel_rfl)) k0 bel lt0) trodAll_mk0),rfl,bel.frame _,fun h=>by cases h⟩
theorem over:Rows.topSyntacticRow.holds Tryz.pinned (OpenSpec.ofChange Rows.topSyntacticSpec):=
 OpenClaim.holds_of_wide 7 Tryz.f7 rfl rfl rfl rfl rfl rfl rfl ⟨rfl,rfl,rfl,rfl,rfl⟩ rfl rfl rfl rfl rfl (by kernel_rfl) Tryz.func7 topSyntacticOv.closed topSyntacticOv.inst topSyntacticOv.wrap
  (fun os started H enc _=>lifted os started H enc)
theorem proved:Rows.TopSyntacticCardSaid:=
 Claim7.holds_tied_plain_at .later [] [.data] true (true, "780d4b31229f208629d4575aba6d5d07544a2d374998028400883831c25ba184") false
  over (fun _ h=>by cases h) (by kernel_rfl) (fun _ h=>by cases h) topSyntactic_row_tie rfl ⟨rfl,rfl⟩ (by kernel_rfl) rfl
  (fun f fn hf hfn => by
   obtain rfl:f=7:=Option.some.inj ((show Tryz.prog.funcNamed "semigroup/semigrouptop.TopSyntactic" = some 7 by kernel_rfl).symm.trans hf) |>.symm
   obtain rfl:fn=Tryz.f7:=(Option.some.inj (Tryz.func7.symm.trans hfn)).symm
   exact⟨by kernel_rfl,fun j t ht=>by
    rw[Tryz.params7] at ht
    have hm:t∈[25]:=by simpa using Array.mem_of_getElem? ht
    have hall:([25].all fun u=>!Tryz.prog.wantsStandIn u)=true:=by kernel_rfl
    exact(show Tryz.prog.wantsStandIn t=false by simpa using List.all_eq_true.1 hall t hm)⟩)
  (by kernel_rfl)
end Go.Proofs.YtbmaaecppfdjfaaGreatDoor.topSyntactic
