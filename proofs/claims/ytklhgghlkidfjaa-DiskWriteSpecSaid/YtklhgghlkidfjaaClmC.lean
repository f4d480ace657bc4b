/- The law DiskWriteSpec: for every input it returns true, and its arguments read as before. No condition. -/
import Derived.Test.YtklhgghlkidfjaaRows
import Derived.Test.YtklhgghlkidfjaaLawC
import Derived.Test.YtklhgghlkidfjaaOpen38
import Derived.ProofKit
import Derived.SizedLaws
namespace Go.Proofs.Ytklhgghlkidfjaa
open Go.ChangeShapes Go.WideShapes Go.ChangeAt Go.RowKit


set_option maxRecDepth 100000 in
theorem diskWriteSpec_lifted (os : Os) (started : os.Started) (H : Type) (enc : TypeId × Value → H) :
    ReturnsInHanded {} Try.checked os 4 .any (Rows.diskWriteSpecSpec.pre6 enc Try.prog Try.f4 Rows.diskWriteSpecRow.domain false) (Rows.diskWriteSpecSpec.post enc Try.prog Try.f4 false true false false) := by
  refine returnsInHanded_of_change_sized (C := Try.checked) (by kernel_rfl) started (by kernel_rfl) Try.func4
    (ChangeSpec.witness6 (enc := enc) (C := Try.checked) false ⟨#[], #[.agg #[.slice none 0 0, .slice none 0 0, .int .i64 0, .bool false], .int .i64 0, .slice none 0 0], []⟩ 8 (by kernel_rfl) (by kernel_rfl) (by kernel_rfl) (by kernel_rfl)) ?_
  intro W base args ds gs before hval0 hW hcnd hsz0 _
  have hval : ∀ (j : Nat) t v, Try.f4.params[j]? = some t → args[j]? = some v → Value.okWide Try.prog W .any base t v := hval0
  have hW' := hW
  obtain ⟨p, q, hA0, hV, rfl, hfz, hnd⟩ := hW
  have hA : DataW.TrodAll enc Try.prog W 0 (fun _ => true) true Try.f4.params.toList args.toList ds p := hA0
  have hsz : (DataW.weightsEach Try.prog (Try.f4.params.toList ++ Rows.diskWriteSpecSpec.plain.varTypes Try.prog) (ds ++ gs)).all (· ≤ reachBytes) = true := hsz0
  rw [Try.params4] at hA hval hsz
  obtain ⟨v0, vs0, d0, ds0, p0, q0, hargs, rfl, rfl, h0, r0⟩ := trodAll_cons hA
  obtain ⟨v1, vs1, d1, ds1, p1, q1, rfl, rfl, rfl, h1, r1⟩ := trodAll_cons r0
  obtain ⟨v2, vs2, d2, ds2, p2, q2, rfl, rfl, rfl, h2, r2⟩ := trodAll_cons r1
  obtain ⟨rfl, rfl, rfl⟩ := trodAll_nil r2
  obtain rfl : args = #[v0, v1, v2] := by cases args; simp_all
  obtain ⟨rfl, rfl⟩ := trodVars_none hV
  clear hA0 hval0 hsz0
  obtain ⟨A0, c0, B0, e0, dk0, rfl, hd0, s10, s20⟩ := open_disk (hval 0 _ v0 rfl rfl) h0 (reach_of hsz (j := 0) rfl rfl)
  obtain ⟨n1, rfl, rfl, rfl, wn1⟩ := open_int Try.underlying3 (hval 1 _ v1 rfl rfl) h1
  obtain ⟨C2, f2, b2, rfl, hb2, s32⟩ := open_barg (hval 2 _ v2 rfl rfl) h2 (reach_of hsz (j := 2) rfl rfl)
  refine (writeSpec_any A0 c0 B0 e0 dk0 n1 C2 f2 b2 W hd0 s10 s20 hb2 s32).mono fun e W' ⟨he, hx⟩ => ?_
  subst he
  exact ⟨_, rfl, law_post (by kernel_rfl) (by kernel_rfl) (by kernel_rfl) (by rw [Try.params4]; decide) rfl (tb := 4) rfl Try.underlying4 rfl (by simpa using hW') hx⟩

theorem diskWriteSpec_holds : Rows.DiskWriteSpecSaid :=
  OpenClaim.holds_of_wide 4 Try.f4 rfl rfl rfl rfl rfl rfl rfl ⟨rfl, rfl, rfl, rfl, rfl⟩ rfl rfl rfl rfl rfl (by kernel_rfl) Try.func4 (by kernel_rfl)
    (of_decide_eq_true (by kernel_rfl)) (by unfold Func.isWrapper; first | (rw [if_pos (by decide +kernel)]; kernel_rfl) | (rw [if_neg (by decide +kernel)]; exact ⟨rfl, rfl⟩))
    (fun os started H enc _ => diskWriteSpec_lifted os started H enc)

end Go.Proofs.Ytklhgghlkidfjaa
