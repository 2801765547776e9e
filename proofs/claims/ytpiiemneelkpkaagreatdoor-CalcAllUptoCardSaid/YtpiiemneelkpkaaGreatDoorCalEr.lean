import Derived.Test.YtpiiemneelkpkaaGreatDoorGcb
import Derived.Test.YtpiiemneelkpkaaGreatDoorRegV
namespace Go.Proofs.YtpiiemneelkpkaaGreatDoor
open Go.RowKit
set_option linter.unusedVariables false
set_option linter.unusedSimpArgs false
theorem argC_len : ∀ l : List Val.V, (Cal.argC l).length = l.length * 3
 | [] => rfl
 | v :: l => by
  show (Cal.argC l).length + 3 = _
  rw [argC_len l, List.length_cons]
  omega
theorem argC_one (l : List Val.V) : ∀ u ∈ Cal.argC l, u.oneCell' = true := by
 intro u hu
 obtain ⟨x, _, hx⟩ := List.mem_flatMap.1 hu
 simp at hx
 rcases hx with rfl | rfl | rfl <;> rfl
def rowC (v : Nat → Val.V) (m : Nat) : List Value := Cal.argC ((List.range m).map v)
theorem rowC_len (v : Nat → Val.V) (m : Nat) : (rowC v m).length = m * 3 := by unfold rowC; rw [argC_len]; simp
theorem rowC_get (v : Nat → Val.V) (m k : Nat) (h : k < m) : (rowC v m)[k * 3]? = some (.int .i64 (v k).k) ∧ (rowC v m)[k * 3 + 1]? = some (.int .i64 (v k).n) ∧ (rowC v m)[k * 3 + 2]? = some (.string (v k).t) := by
 have := argC_get ((List.range m).map v) k (by simpa using h)
 have e : Cal.arg ((List.range m).map v) k = v k := by unfold Cal.arg; simp [List.getD_eq_getElem?_getD, h]
 rw [e] at this
 exact this
theorem cellP_news {w : World} {b o m : Nat} {v : Nat → Val.V} (h : HCellP w (some ⟨b, o, none⟩) m v) : ∀ (j : Nat) (u : Value), (rowC v m)[j]? = some u → w.cell? ((⟨b, o, none⟩ : Addr).add j) = some u := by
 intro j u hj
 have hadd : (⟨b, o, none⟩ : Addr).add j = ⟨b, o + j, none⟩ := by unfold Addr.add; split <;> simp_all
 rw [hadd]
 have hl : j < m * 3 := by have := (List.getElem?_eq_some_iff.1 hj).1; rw [rowC_len] at this; exact this
 obtain ⟨g0, g1, g2⟩ := rowC_get v m (j / 3) (by omega)
 obtain ⟨b', o', he, _, c0, c1, c2⟩ := h (j / 3) (by omega)
 cases he
 have hj3 : j = j / 3 * 3 ∨ j = j / 3 * 3 + 1 ∨ j = j / 3 * 3 + 2 := by omega
 generalize j / 3 = k at *
 rcases hj3 with rfl | rfl | rfl
 ·rw [g0] at hj; cases hj; exact c0
 ·rw [g1] at hj; cases hj; rw [show o + (k * 3 + 1) = o + k * 3 + 1 by omega]; exact c1
 ·rw [g2] at hj; cases hj; rw [show o + (k * 3 + 2) = o + k * 3 + 2 by omega]; exact c2
theorem infoVE : (Tryz.prog.info? 26).map (fun i => (i.zero, i.size, i.bytes)) = some (some (.agg #[.int .i64 0, .int .i64 0, .string ⟨#[]⟩]), 3, 32) := by kernel_rfl
end Go.Proofs.YtpiiemneelkpkaaGreatDoor
