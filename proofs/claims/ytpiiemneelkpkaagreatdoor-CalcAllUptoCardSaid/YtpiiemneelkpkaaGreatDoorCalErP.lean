import Derived.Test.YtpiiemneelkpkaaGreatDoorGcb
namespace Go.Proofs.YtpiiemneelkpkaaGreatDoor
open Go.RowKit
set_option linter.unusedVariables false
namespace Cal
theorem good_of_may {v : Val.V} (h : Val.mayB v = true) : Val.good v = v := by unfold Val.good; rw [h]; rfl
theorem isE_size {t : ByteArray} (h : Val.isE t = true) : t.size = 0 := by
 unfold Val.isE at h
 have := List.isEmpty_iff.1 h
 have e : t.toList = t.data.toList := ByteArray.toList_eq t
 rw [e] at this
 rw [Lib.size_eq, this]
 rfl
theorem asText_size {v : Val.V} (h : Val.mayB v = true) (hv : VB v) : (Val.asText v).1.size ≤ 32767 := by
 unfold Val.asText
 rw [good_of_may h]
 unfold Val.textG
 rcases Val.may_cases h with ⟨k, n, t⟩ | ⟨k, t⟩ | ⟨k, n, t⟩ | ⟨k, n, t⟩ | ⟨k, n, _, t⟩
 ·rw [k]; show v.t.size ≤ 32767; rw [isE_size t]; omega
 ·rw [k]
  show (⟨(Lib.itoa v.n).toArray⟩ : ByteArray).size ≤ 32767
  have := Dec.itoa_len v.n hv.1 hv.2
  have e : (⟨(Lib.itoa v.n).toArray⟩ : ByteArray).size = (Lib.itoa v.n).length := rfl
  rw [e]; omega
 ·rw [k]
  show (Val.word v.n).size ≤ 32767
  rcases n with n | n <;> rw [n] <;> decide
 ·rw [k]; exact t
 ·rw [k]; show (⟨#[]⟩ : ByteArray).size ≤ 32767; decide
theorem trimS_size (s : ByteArray) : (trimS s).size ≤ s.size := by
 have : (trimS s).size = (Tr.trimL s.data.toList).length := rfl
 rw [this, Lib.size_eq]
 exact Tr.trim_length _
end Cal
end Go.Proofs.YtpiiemneelkpkaaGreatDoor
