/- The law MirrorReceiveSpec: for every input it returns true, and its arguments read as before; what the package variables hold is tied to the program's text. No condition. -/
import Derived.Test.YtihgmaoghbnnaaaGreatDoorCards
import Derived.Test.YtihgmaoghbnnaaaGreatDoorTie
import Derived.Test.YtihgmaoghbnnaaaGreatDoorQgE
import Derived.Test.YtihgmaoghbnnaaaGreatDoorQgH
import Derived.ProofKit
import Derived.SizedLaws
import Derived.Stop.Joined
import Derived.SevenTiedAt
import Derived.Test.YtihgmaoghbnnaaaGreatDoorQgB
import Derived.Test.YtihgmaoghbnnaaaGreatDoorQgA
set_option linter.unusedVariables false
set_option linter.unusedSimpArgs false
set_option maxRecDepth 100000
set_option maxHeartbeats 1000000
namespace Go.Proofs.YtihgmaoghbnnaaaGreatDoor
open Go.ChangeShapes Go.WideShapes Go.ChangeAt Go.RowKit

theorem mirrorReceiveSpec_lifted (os:Os) (started:os.Started) (H:Type) (enc:TypeId × Value→H) :
    ReturnsInHanded {} Tryz.checked os 4 .any (fun w args=>(Rows.mirrorReceiveSpecSpec.pre enc Tryz.prog Tryz.f4 [] false w args∧laidMetH Tryz.prog laid3 w)∧sizedMet enc Tryz.prog Tryz.f4 (OpenSpec.ofChange Rows.mirrorReceiveSpecSpec) false w args)
      (Rows.mirrorReceiveSpecSpec.post enc Tryz.prog Tryz.f4 false true false false):=by
  refine returnsInHanded_of_change_and (C:=Tryz.checked) (X:=fun w _=>laidMetH Tryz.prog laid3 w) (fun _ _ _ hh h=>h.of_heap hh) own3 started (by kernel_rfl) Tryz.func4
    (ChangeSpec.witness_shaped (enc:=enc) (C:=Tryz.checked) (os:=os) (X:=fun w _=>laidMetH Tryz.prog laid3 w) false (World.doorLaid Tryz.prog 400 os) #[.agg (Array.replicate 32 (.int .u8 0)++#[.int .i64 0,.int .i64 0,.slice none 0 0,.slice none 0 0]),.agg (#[.int .i64 0]++Array.replicate 32 (.int .u8 0)++#[.slice none 0 0,.int .i64 0,.slice none 0 0,.slice none 0 0,.slice none 0 0])] 8 rfl (World.shaped_of_RefB (by kernel_rfl) (by kernel_rfl)) (by kernel_rfl) (by kernel_rfl) (by kernel_rfl) (door_met os _)) ?_
  intro W base args ds gs before hval0 hW hcnd hsz0 hL _
  have hval:∀ (j:Nat) t v,Tryz.f4.params[j]?=some t→args[j]?=some v→Value.okWide Tryz.prog W .any base t v:=hval0
  have hW':=hW
  obtain ⟨p,q,D,hV,rfl,hfz,hnd⟩:=hW
  have hA:DataW.TrodAll enc Tryz.prog W 0 (fun _=>true) true Tryz.f4.params.toList args.toList ds p:=D
  have hsz:(DataW.weightsEach Tryz.prog (Tryz.f4.params.toList++Rows.mirrorReceiveSpecSpec.plain.varTypes Tryz.prog) (ds++gs)).all (·≤reachBytes)=true:=hsz0
  rw [Tryz.params4] at hA hval hsz
  obtain ⟨G,vs0,Y,ds0,p0,q0,hargs,rfl,rfl,h0,O⟩:=trodAll_cons hA
  obtain ⟨I,vs1,Y,ds1,p1,q1,rfl,rfl,rfl,h1,U⟩:=trodAll_cons O
  obtain ⟨rfl,rfl,rfl⟩:=trodAll_nil U
  obtain rfl:args=#[G,I]:=by cases args;simp_all
  obtain ⟨rfl,rfl⟩:=trodVars_none hV
  have hG:=glob_of_laid hL
  clear D hval0 hsz0
  obtain ⟨f0,FA0,fa0,FE0,fe0,rfl,J⟩:=open_farg (hval 0 _ G rfl rfl) h0 (reach_of hsz (j:=0) rfl rfl)
  obtain ⟨V,VC1,vc1,VO1,vo1,VE1,ve1,VP1,vp1,rfl,M⟩:=open_varg (hval 1 _ I rfl rfl) h1 (reach_of hsz (j:=1) rfl rfl)
  refine (receivespec_any FA0 fa0 FE0 fe0 VC1 vc1 VO1 vo1 VE1 ve1 VP1 vp1 f0 V W J M hG).mono fun e W' ⟨he,hx⟩=>?_
  subst he
  exact ⟨_,rfl,law_post (by kernel_rfl) (by kernel_rfl) (by kernel_rfl) (by rw [Tryz.params4];decide) rfl (tb:=4) rfl uu4 rfl (by simpa using hW') hx⟩

theorem mirrorReceiveSpec_row:Rows.MirrorReceiveSpecSaid :=
  OpenClaim.holds_of_wide 4 Tryz.f4 rfl rfl rfl rfl rfl rfl rfl ⟨rfl,rfl,rfl,rfl,rfl⟩ rfl rfl rfl rfl rfl (by kernel_rfl) Tryz.func4 (by kernel_rfl)
    (of_decide_eq_true (by kernel_rfl)) (by unfold Func.isWrapper;first | (rw [if_pos (by decide +kernel)];kernel_rfl) | (rw [if_neg (by decide +kernel)];exact ⟨rfl,rfl⟩))
    (fun os started H enc _=>mirrorReceiveSpec_lifted os started H enc)

theorem mirrorReceiveSpec_holds:Rows.MirrorReceiveSpecCardSaid :=
  Claim7.holds_tied_plain_at .later [] [.widerDeep, .data] true (true, "1f2726efd876c8a194f2cef11df967bb9ed6c130af92e5f848f8d53ca448436d") true
    mirrorReceiveSpec_row (fun _ h=>by cases h) (by kernel_rfl) (fun _ h=>by cases h) mirrorReceiveSpec_row_tie rfl ⟨rfl,rfl⟩ (by kernel_rfl) rfl
    (fun f fn hf hfn=>by
      obtain rfl : f = 4 := Option.some.inj ((show Tryz.prog.funcNamed "stopwatch/stopwatchlaw42.MirrorReceiveSpec" = some 4 by kernel_rfl).symm.trans hf) |>.symm
      obtain rfl:fn=Tryz.f4:=(Option.some.inj (Tryz.func4.symm.trans hfn)).symm
      exact ⟨by kernel_rfl,fun j t ht=>by
        have hall:(Tryz.f4.params.toList.all fun u=>!Tryz.prog.wantsStandIn u)=true:=by kernel_rfl
        exact (show Tryz.prog.wantsStandIn t=false by simpa using List.all_eq_true.1 hall t (Array.mem_toList_iff.2 (Array.mem_of_getElem? ht)))⟩)
    (by kernel_rfl)

end Go.Proofs.YtihgmaoghbnnaaaGreatDoor
