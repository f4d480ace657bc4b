/- mix as it is written is mix of four words. -/
import Derived.Test.YtgodliookpgliaaDoorDigB
namespace Go.Proofs.YtgodliookpgliaaDoor

theorem getD_set_same {l : List UInt32} {i : Nat} {x : UInt32} (h : i < l.length) : (l.set i x).getD i 0 = x := by
  simp [List.getD_eq_getElem?_getD, h]
theorem getD_set_ne {l : List UInt32} {i j : Nat} {x : UInt32} (h : i ≠ j) : (l.set i x).getD j 0 = l.getD j 0 := by
  simp [List.getD_eq_getElem?_getD, h]
theorem add_assoc32 (a b c : UInt32) : a + (b + c) = a + b + c := (UInt32.add_assoc a b c).symm

theorem mixSeq_eq {v : List UInt32} {a b c d : Nat} {x y : UInt32} (ha : a < v.length) (hb : b < v.length) (hc : c < v.length) (hd : d < v.length) (hab : a ≠ b) (hac : a ≠ c) (had : a ≠ d) (hbc : b ≠ c) (hbd : b ≠ d) (hcd : c ≠ d) :
    mixSeq v a b c d x y = mixv v a b c d x y := by
  apply List.ext_getElem
  · simp [mixSeq, mixv, put4]
  · intro n h1 h2
    have e : ∀ l : List UInt32, ∀ h : n < l.length, l[n] = l.getD n 0 := fun l h => by simp [List.getD_eq_getElem?_getD, List.getElem?_eq_getElem h]
    rw [e _ h1, e _ h2]
    unfold mixSeq mixv put4 mix4 at_
    dsimp only
    have hba := hab.symm
    have hca := hac.symm
    have hda := had.symm
    have hcb := hbc.symm
    have hdb := hbd.symm
    have hdc := hcd.symm
    by_cases h3 : n = a
    · subst h3; simp [ha, hb, hc, hd, hab, hac, had, hbc, hbd, hcd, hba, hca, hda, hcb, hdb, hdc, add_assoc32]
    · by_cases h4 : n = b
      · subst h4; simp [ha, hb, hc, hd, hab, hac, had, hbc, hbd, hcd, hba, hca, hda, hcb, hdb, hdc, add_assoc32]
      · by_cases h5 : n = c
        · subst h5; simp [ha, hb, hc, hd, hab, hac, had, hbc, hbd, hcd, hba, hca, hda, hcb, hdb, hdc, add_assoc32]
        · by_cases h6 : n = d
          · subst h6; simp [ha, hb, hc, hd, hab, hac, had, hbc, hbd, hcd, hba, hca, hda, hcb, hdb, hdc, add_assoc32]
          · rw [getD_set_ne (Ne.symm h4), getD_set_ne (Ne.symm h5), getD_set_ne (Ne.symm h6), getD_set_ne (Ne.symm h3), getD_set_ne (Ne.symm h4), getD_set_ne (Ne.symm h5), getD_set_ne (Ne.symm h6), getD_set_ne (Ne.symm h3), getD_set_ne (Ne.symm h6), getD_set_ne (Ne.symm h5), getD_set_ne (Ne.symm h4), getD_set_ne (Ne.symm h3)]

end Go.Proofs.YtgodliookpgliaaDoor
