/- The law MirrorVersionSpec: for every input it returns true, and its arguments read as before; what the package variables hold is tied to the program's text. No condition. -/
import Derived.Test.YtihgmaoghbnnaaaGreatDoorCards
import Derived.Test.YtihgmaoghbnnaaaGreatDoorTie
import Derived.Test.YtihgmaoghbnnaaaGreatDoorQfE
import Derived.Test.YtihgmaoghbnnaaaGreatDoorQfH
import Derived.ProofKit
import Derived.SizedLaws
import Derived.Stop.Joined
import Derived.SevenTiedAt
import Derived.Test.YtihgmaoghbnnaaaGreatDoorQfB
import Derived.Test.YtihgmaoghbnnaaaGreatDoorQfA
set_option linter.unusedVariables false
set_option linter.unusedSimpArgs false
set_option maxRecDepth 100000
set_option maxHeartbeats 1000000
namespace Go.Proofs.YtihgmaoghbnnaaaGreatDoor
open Go.ChangeShapes Go.WideShapes Go.ChangeAt Go.RowKit

theorem mirrorVersionSpec_lifted (os:Os) (started:os.Started) (H:Type) (enc:TypeId × Value→H) :
    ReturnsInHanded {} Tryz.checked os 3 .any (fun w args=>(Rows.mirrorVersionSpecSpec.pre enc Tryz.prog Tryz.f3 [] false w args∧laidMetH Tryz.prog laid3 w)∧sizedMet enc Tryz.prog Tryz.f3 (OpenSpec.ofChange Rows.mirrorVersionSpecSpec) false w args)
      (Rows.mirrorVersionSpecSpec.post enc Tryz.prog Tryz.f3 false true false false):=by
  refine returnsInHanded_of_change_and (C:=Tryz.checked) (X:=fun w _=>laidMetH Tryz.prog laid3 w) (fun _ _ _ hh h=>h.of_heap hh) own3 started (by kernel_rfl) Tryz.func3
    (ChangeSpec.witness_shaped (enc:=enc) (C:=Tryz.checked) (os:=os) (X:=fun w _=>laidMetH Tryz.prog laid3 w) false (World.doorLaid Tryz.prog 400 os) #[.agg #[.slice none 0 0,.int .i64 0,.int .i64 0],.slice none 0 0,.slice none 0 0,.slice none 0 0,.agg (#[.int .i64 0]++Array.replicate 32 (.int .u8 0)++#[.slice none 0 0,.int .i64 0,.slice none 0 0,.slice none 0 0,.slice none 0 0]),.agg (Array.replicate 32 (.int .u8 0))] 8 rfl (World.shaped_of_RefB (by kernel_rfl) (by kernel_rfl)) (by kernel_rfl) (by kernel_rfl) (by kernel_rfl) (door_met os _)) ?_
  intro W base args ds gs before hval0 hW hcnd hsz0 hL _
  have hval:∀ (j:Nat) t v,Tryz.f3.params[j]?=some t→args[j]?=some v→Value.okWide Tryz.prog W .any base t v:=hval0
  have hW':=hW
  obtain ⟨p,q,D,hV,rfl,hfz,hnd⟩:=hW
  have hA:DataW.TrodAll enc Tryz.prog W 0 (fun _=>true) true Tryz.f3.params.toList args.toList ds p:=D
  have hsz:(DataW.weightsEach Tryz.prog (Tryz.f3.params.toList++Rows.mirrorVersionSpecSpec.plain.varTypes Tryz.prog) (ds++gs)).all (·≤reachBytes)=true:=hsz0
  rw [Tryz.params3] at hA hval hsz
  obtain ⟨G,vs0,d0,ds0,p0,q0,hargs,rfl,rfl,h0,r0⟩:=trodAll_cons hA
  obtain ⟨I,vs1,d1,ds1,p1,q1,rfl,rfl,rfl,h1,r1⟩:=trodAll_cons r0
  obtain ⟨J,vs2,d2,ds2,p2,q2,rfl,rfl,rfl,h2,r2⟩:=trodAll_cons r1
  obtain ⟨M,vs3,d3,ds3,p3,q3,rfl,rfl,rfl,h3,r3⟩:=trodAll_cons r2
  obtain ⟨O,vs4,d4,ds4,p4,q4,rfl,rfl,rfl,h4,r4⟩:=trodAll_cons r3
  obtain ⟨v5,vs5,d5,ds5,p5,q5,rfl,rfl,rfl,h5,r5⟩:=trodAll_cons r4
  obtain ⟨rfl,rfl,rfl⟩:=trodAll_nil r5
  obtain rfl:args=#[G,I,J,M,O,v5]:=by cases args;simp_all
  obtain ⟨rfl,rfl⟩:=trodVars_none hV
  have hG:=glob_of_laid hL
  clear D hval0 hsz0
  obtain ⟨U,V,sd0,m0,u0,rfl,ab,l0⟩:=open_key (hval 0 _ G rfl rfl) h0 (reach_of hsz (j:=0) rfl rfl)
  obtain ⟨LA1,nl1,ld1,rfl⟩:=open_vlarg (hval 1 _ I rfl rfl)
  obtain ⟨IA2,ic2,it2,rfl,aa⟩:=open_iarg (hval 2 _ J rfl rfl) h2 (reach_of hsz (j:=2) rfl rfl)
  obtain ⟨CA3,cc3,ct3,rfl,Y⟩:=open_carg (hval 3 _ M rfl rfl) h3 (reach_of hsz (j:=3) rfl rfl)
  obtain ⟨x4,VC4,vc4,VO4,vo4,VE4,ve4,VP4,vp4,rfl,ac⟩:=open_varg (hval 4 _ O rfl rfl) h4 (reach_of hsz (j:=4) rfl rfl)
  obtain ⟨d5',rfl,Z⟩:=open_dig h5
  refine (versionspec_any U V sd0 m0 u0 LA1 nl1 ld1 IA2 ic2 it2 CA3 cc3 ct3 VC4 vc4 VO4 vo4 VE4 ve4 VP4 vp4 x4 d5' W ab aa Y ac Z hG).mono fun e W' ⟨he,hx⟩=>?_
  subst he
  exact ⟨_,rfl,law_post (by kernel_rfl) (by kernel_rfl) (by kernel_rfl) (by rw [Tryz.params3];decide) rfl (tb:=4) rfl uu4 rfl (by simpa using hW') hx⟩

theorem mirrorVersionSpec_row:Rows.MirrorVersionSpecSaid :=
  OpenClaim.holds_of_wide 3 Tryz.f3 rfl rfl rfl rfl rfl rfl rfl ⟨rfl,rfl,rfl,rfl,rfl⟩ rfl rfl rfl rfl rfl (by kernel_rfl) Tryz.func3 (by kernel_rfl)
    (of_decide_eq_true (by kernel_rfl)) (by unfold Func.isWrapper;first | (rw [if_pos (by decide +kernel)];kernel_rfl) | (rw [if_neg (by decide +kernel)];exact ⟨rfl,rfl⟩))
    (fun os started H enc _=>mirrorVersionSpec_lifted os started H enc)

theorem mirrorVersionSpec_holds:Rows.MirrorVersionSpecCardSaid :=
  Claim7.holds_tied_plain_at .later [] [.widerDeep, .data] true (true, "1f2726efd876c8a194f2cef11df967bb9ed6c130af92e5f848f8d53ca448436d") true
    mirrorVersionSpec_row (fun _ h=>by cases h) (by kernel_rfl) (fun _ h=>by cases h) mirrorVersionSpec_row_tie rfl ⟨rfl,rfl⟩ (by kernel_rfl) rfl
    (fun f fn hf hfn=>by
      obtain rfl : f = 3 := Option.some.inj ((show Tryz.prog.funcNamed "stopwatch/stopwatchlaw42.MirrorVersionSpec" = some 3 by kernel_rfl).symm.trans hf) |>.symm
      obtain rfl:fn=Tryz.f3:=(Option.some.inj (Tryz.func3.symm.trans hfn)).symm
      exact ⟨by kernel_rfl,fun j t ht=>by
        have hall:(Tryz.f3.params.toList.all fun u=>!Tryz.prog.wantsStandIn u)=true:=by kernel_rfl
        exact (show Tryz.prog.wantsStandIn t=false by simpa using List.all_eq_true.1 hall t (Array.mem_toList_iff.2 (Array.mem_of_getElem? ht)))⟩)
    (by kernel_rfl)

end Go.Proofs.YtihgmaoghbnnaaaGreatDoor
