/- The law MirrorNumbers: for every input it returns true, and its arguments read as_ before; what the package variables hold is tied to the program's text. No condition. -/
import Derived.Test.YtihgmaoghbnnaaaDoorCards
import Derived.Test.YtihgmaoghbnnaaaDoorTie
import Derived.Test.YtihgmaoghbnnaaaDoorQbD
import Derived.Test.YtihgmaoghbnnaaaDoorQbH
import Derived.ProofKit
import Derived.SizedLaws
import Derived.Stop.Joined
import Derived.SevenTiedAt
import Derived.Test.YtihgmaoghbnnaaaDoorQbB
set_option linter.unusedVariables false
set_option linter.unusedSimpArgs false
namespace Go.Proofs.YtihgmaoghbnnaaaDoor
open Go.ChangeShapes Go.WideShapes Go.ChangeAt Go.RowKit

set_option maxRecDepth 100000 in
theorem mirrorNumbers_lifted (os:Os) (started:os.Started) (H:Type) (enc:TypeId × Value→H) :
    ReturnsInHanded {} Tryd.checked os 7 .any (fun w args=>(Rows.mirrorNumbersSpec.pre enc Tryd.prog Tryd.f7 [] false w args∧laidMetH Tryd.prog laid3 w)∧sizedMet enc Tryd.prog Tryd.f7 (OpenSpec.ofChange Rows.mirrorNumbersSpec) false w args)
      (Rows.mirrorNumbersSpec.post enc Tryd.prog Tryd.f7 false true false false):=by
  refine returnsInHanded_of_change_and (C:=Tryd.checked) (X:=fun w _=>laidMetH Tryd.prog laid3 w) (fun _ _ _ hh h=>h.of_heap hh) own3 started (by kernel_rfl) Tryd.func7
    (ChangeSpec.witness_shaped (enc:=enc) (C:=Tryd.checked) (os:=os) (X:=fun w _=>laidMetH Tryd.prog laid3 w) false (World.doorLaid Tryd.prog 400 os) #[.int .u8 0,.slice none 0 0,.int .i64 0] 8 rfl (World.shaped_of_RefB (by kernel_rfl) (by kernel_rfl)) (by kernel_rfl) (by kernel_rfl) (by kernel_rfl) (door_met os _)) ?_
  intro W base args ds gs before hval0 hW hcnd hsz0 hL _
  have hval:∀ (j:Nat) t v,Tryd.f7.params[j]?=some t→args[j]?=some v→Value.okWide Tryd.prog W .any base t v:=hval0
  have hW':=hW
  obtain ⟨p,q,hA0,hV,rfl,hfz,hnd⟩:=hW
  have hA:DataW.TrodAll enc Tryd.prog W 0 (fun _=>true) true Tryd.f7.params.toList args.toList ds p:=hA0
  have hsz:(DataW.weightsEach Tryd.prog (Tryd.f7.params.toList++Rows.mirrorNumbersSpec.plain.varTypes Tryd.prog) (ds++gs)).all (·≤reachBytes)=true:=hsz0
  rw [Tryd.params7] at hA hval hsz
  obtain ⟨v0,vs0,d0,ds0,p0,q0,hargs,rfl,rfl,h0,r0⟩:=trodAll_cons hA
  obtain ⟨v1,vs1,d1,ds1,p1,q1,rfl,rfl,rfl,h1,r1⟩:=trodAll_cons r0
  obtain ⟨v2,vs2,d2,ds2,p2,q2,rfl,rfl,rfl,h2,r2⟩:=trodAll_cons r1
  obtain ⟨rfl,rfl,rfl⟩:=trodAll_nil r2
  obtain rfl:args=#[v0,v1,v2]:=by cases args;simp_all
  obtain ⟨rfl,rfl⟩:=trodVars_none hV
  have hG:=glob_of_laid hL
  clear hA0 hval0 hsz0
  obtain ⟨c0,rfl⟩:=open_byteArg (hval 0 _ v0 rfl rfl) h0
  obtain ⟨IA1,ic1,it1,rfl,hi1⟩:=open_iarg (hval 1 _ v1 rfl rfl) h1 (reach_of hsz (j:=1) rfl rfl)
  obtain ⟨n2,rfl,rfl,rfl,wn2⟩:=open_int Tryd.underlying3 (hval 2 _ v2 rfl rfl) h2
  refine (numbers_any c0 IA1 ic1 it1 n2 W hi1 hG).mono fun e W' ⟨he,hx⟩=>?_
  subst he
  exact ⟨_,rfl,law_post (by kernel_rfl) (by kernel_rfl) (by kernel_rfl) (by rw [Tryd.params7];decide) rfl (tb:=4) rfl Tryd.underlying4 rfl (by simpa using hW') hx⟩

theorem mirrorNumbers_row:Rows.MirrorNumbersSaid :=
  OpenClaim.holds_of_wide 7 Tryd.f7 rfl rfl rfl rfl rfl rfl rfl ⟨rfl,rfl,rfl,rfl,rfl⟩ rfl rfl rfl rfl rfl (by kernel_rfl) Tryd.func7 (by kernel_rfl)
    (of_decide_eq_true (by kernel_rfl)) (by unfold Func.isWrapper;first | (rw [if_pos (by decide +kernel)];kernel_rfl) | (rw [if_neg (by decide +kernel)];exact ⟨rfl,rfl⟩))
    (fun os started H enc _=>mirrorNumbers_lifted os started H enc)

theorem mirrorNumbers_holds:Rows.MirrorNumbersCardSaid :=
  Claim7.holds_tied_plain_at .later [] [.widerDeep, .data] true (true, "519b87feaa2b1706c583dbb793d59bf1c995baad4c23946dd126b01c5591167f") true
    mirrorNumbers_row (fun _ h=>by cases h) (by kernel_rfl) (fun _ h=>by cases h) mirrorNumbers_row_tie rfl ⟨rfl,rfl⟩ (by kernel_rfl) rfl
    (fun f fn hf hfn=>by
      obtain rfl : f = 7 := Option.some.inj ((show Tryd.prog.funcNamed "stopwatch/stopwatchlaw42.MirrorNumbers" = some 7 by kernel_rfl).symm.trans hf) |>.symm
      obtain rfl:fn=Tryd.f7:=(Option.some.inj (Tryd.func7.symm.trans hfn)).symm
      exact ⟨by kernel_rfl,fun j t ht=>by
        have hall:(Tryd.f7.params.toList.all fun u=>!Tryd.prog.wantsStandIn u)=true:=by kernel_rfl
        exact (show Tryd.prog.wantsStandIn t=false by simpa using List.all_eq_true.1 hall t (Array.mem_toList_iff.2 (Array.mem_of_getElem? ht)))⟩)
    (by kernel_rfl)

end Go.Proofs.YtihgmaoghbnnaaaDoor
