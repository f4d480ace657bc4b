/- The law SealVerifySpec: for every input it returns true, and its arguments read as_ before; what the package variables hold is tied to the program's text. No condition. -/
import Derived.Test.YtmjgjopbeokajaaDoorCards
import Derived.Test.YtmjgjopbeokajaaDoorTie
import Derived.Test.YtmjgjopbeokajaaDoorBunB
import Derived.Test.YtmjgjopbeokajaaDoorBunK
import Derived.ProofKit
import Derived.SizedLaws
import Derived.Stop.Joined
import Derived.SevenTiedAt
namespace Go.Proofs.YtmjgjopbeokajaaDoor
open Go.ChangeShapes Go.WideShapes Go.ChangeAt Go.RowKit

set_option maxRecDepth 100000 in
theorem sealVerifySpec_lifted (os : Os) (started : os.Started) (H : Type) (enc : TypeId × Value → H) :
    ReturnsInHanded {} Tryd.checked os 4 .any (fun w args => (Rows.sealVerifySpecSpec.pre enc Tryd.prog Tryd.f4 [] false w args ∧ laidMetH Tryd.prog laid3 w) ∧ sizedMet enc Tryd.prog Tryd.f4 (OpenSpec.ofChange Rows.sealVerifySpecSpec) false w args)
      (Rows.sealVerifySpecSpec.post enc Tryd.prog Tryd.f4 false true false false) := by
  refine returnsInHanded_of_change_and (C := Tryd.checked) (X := fun w _ => laidMetH Tryd.prog laid3 w) (fun _ _ _ hh h => h.of_heap hh) own3 started (by kernel_rfl) Tryd.func4
    (ChangeSpec.witness_shaped (enc := enc) (C := Tryd.checked) (os := os) (X := fun w _ => laidMetH Tryd.prog laid3 w) false (World.doorLaid Tryd.prog 400 os) #[.agg (Array.replicate 32 (.int .u8 0)), .int .i64 0, .slice none 0 0, .agg #[.int .i64 0, .slice none 0 0, .slice none 0 0, .slice none 0 0]] 8 rfl (World.shaped_of_RefB (by kernel_rfl) (by kernel_rfl)) (by kernel_rfl) (by kernel_rfl) (by kernel_rfl) (door_met os _)) ?_
  intro W base args ds gs before hval0 hW hcnd hsz0 hL _
  have hval : ∀ (j : Nat) t v, Tryd.f4.params[j]? = some t → args[j]? = some v → Value.okWide Tryd.prog W .any base t v := hval0
  have hW' := hW
  obtain ⟨p, q, hA0, hV, rfl, hfz, hnd⟩ := hW
  have hA : DataW.TrodAll enc Tryd.prog W 0 (fun _ => true) true Tryd.f4.params.toList args.toList ds p := hA0
  have hsz : (DataW.weightsEach Tryd.prog (Tryd.f4.params.toList ++ Rows.sealVerifySpecSpec.plain.varTypes Tryd.prog) (ds ++ gs)).all (· ≤ reachBytes) = true := hsz0
  rw [Tryd.params4] at hA hval hsz
  obtain ⟨v0, vs0, d0, ds0, p0, q0, hargs, rfl, rfl, h0, r0⟩ := trodAll_cons hA
  obtain ⟨v1, vs1, d1, ds1, p1, q1, rfl, rfl, rfl, h1, r1⟩ := trodAll_cons r0
  obtain ⟨v2, vs2, d2, ds2, p2, q2, rfl, rfl, rfl, h2, r2⟩ := trodAll_cons r1
  obtain ⟨v3, vs3, d3, ds3, p3, q3, rfl, rfl, rfl, h3, r3⟩ := trodAll_cons r2
  obtain ⟨rfl, rfl, rfl⟩ := trodAll_nil r3
  obtain rfl : args = #[v0, v1, v2, v3] := by cases args; simp_all
  obtain ⟨rfl, rfl⟩ := trodVars_none hV
  have hG := glob_of_laid hL
  clear hA0 hval0 hsz0
  obtain ⟨d0', rfl, hd0⟩ := open_dig h0
  obtain ⟨n1, rfl, rfl, rfl, wn1⟩ := open_int Tryd.underlying3 (hval 1 _ v1 rfl rfl) h1
  obtain ⟨C2, f2, b2, rfl, hb2, s2⟩ := open_barg (hval 2 _ v2 rfl rfl) h2 (reach_of hsz (j := 2) rfl rfl)
  obtain ⟨i3, O3, oc3, op3, X3, ec3, cl3, P3, pc3, pa3, rfl, ho3, he3, hp3, x3, y3, z3⟩ := open_sig (hval 3 _ v3 rfl rfl) h3 (reach_of hsz (j := 3) rfl rfl)
  refine (verifyspec_any d0' n1 C2 f2 b2 i3 O3 oc3 op3 X3 ec3 cl3 P3 pc3 pa3 W hd0 hb2 ho3 he3 hp3 x3 y3 z3 hG).mono fun e W' ⟨he, hx⟩ => ?_
  subst he
  exact ⟨_, rfl, law_post (by kernel_rfl) (by kernel_rfl) (by kernel_rfl) (by rw [Tryd.params4]; decide) rfl (tb := 4) rfl Tryd.underlying4 rfl (by simpa using hW') hx⟩

theorem sealVerifySpec_row : Rows.SealVerifySpecSaid :=
  OpenClaim.holds_of_wide 4 Tryd.f4 rfl rfl rfl rfl rfl rfl rfl ⟨rfl, rfl, rfl, rfl, rfl⟩ rfl rfl rfl rfl rfl (by kernel_rfl) Tryd.func4 (by kernel_rfl)
    (of_decide_eq_true (by kernel_rfl)) (by unfold Func.isWrapper; first | (rw [if_pos (by decide +kernel)]; kernel_rfl) | (rw [if_neg (by decide +kernel)]; exact ⟨rfl, rfl⟩))
    (fun os started H enc _ => sealVerifySpec_lifted os started H enc)

theorem sealVerifySpec_holds : Rows.SealVerifySpecCardSaid :=
  Claim7.holds_tied_plain_at .later [] [.widerDeep, .data] true (true, "9a0cfcac09aa971a60469a0ebee284cd248411a4e44a8668156ef9e4633659ca") false
    sealVerifySpec_row (fun _ h => by cases h) (by kernel_rfl) (fun _ h => by cases h) sealVerifySpec_row_tie rfl ⟨rfl, rfl⟩ (by kernel_rfl) rfl
    (fun f fn hf hfn => by
      obtain rfl : f = 4 := Option.some.inj ((show Tryd.prog.funcNamed "stopwatch/stopwatchlaw04.SealVerifySpec" = some 4 by kernel_rfl).symm.trans hf) |>.symm
      obtain rfl : fn = Tryd.f4 := (Option.some.inj (Tryd.func4.symm.trans hfn)).symm
      exact ⟨by kernel_rfl, fun j t ht => by
        have hall : (Tryd.f4.params.toList.all fun u => !Tryd.prog.wantsStandIn u) = true := by kernel_rfl
        exact (show Tryd.prog.wantsStandIn t = false by simpa using List.all_eq_true.1 hall t (Array.mem_toList_iff.2 (Array.mem_of_getElem? ht)))⟩)
    (by kernel_rfl)

end Go.Proofs.YtmjgjopbeokajaaDoor
