/- Values as numbers, texts and truths: what package value and its reference compute, in plain Lean; no program. -/
import Derived.Test.YtdbjmjeiaajdiaaDoorDec
namespace Go.Proofs.YtdbjmjeiaajdiaaDoor.Val
open Go

/-- A value: kind, number, text. -/
structure V where
  k : Int
  n : Int
  t : ByteArray
def emp : ByteArray := ⟨#[]⟩
def sTrue : ByteArray := ⟨#[84, 82, 85, 69]⟩
def sFalse : ByteArray := ⟨#[70, 65, 76, 83, 69]⟩
/-- A text is empty. -/
def isE (t : ByteArray) : Bool := t.toList.isEmpty
def mayB (v : V) : Bool :=
  cond (v.k == 0) (v.n == 0 && isE v.t) <| cond (v.k == 1) (isE v.t) <| cond (v.k == 2) ((v.n == 0 || v.n == 1) && isE v.t) <|
  cond (v.k == 3) (v.n == 0 && decide (v.t.size ≤ 32767)) <| cond (v.k == 4) (decide (1 ≤ v.n) && decide (v.n ≤ 6) && isE v.t) false
def err (e : Int) : V := ⟨4, e, emp⟩
def good (v : V) : V := cond (mayB v) v (err 4)
/-- Number: the number and the error's number. -/
def numG (g : V) : Int × Int :=
  cond (g.k == 3) (cond ((Dec.readS g.t.data.toList).2 == 0) ((Dec.readS g.t.data.toList).1, 0) (0, 4)) <| cond (g.k == 4) (0, g.n) (g.n, 0)
def number (v : V) : Int × Int := numG (good v)
def word (n : Int) : ByteArray := cond (n == 1) sTrue sFalse
def textG (g : V) : ByteArray × Int :=
  cond (g.k == 1) (⟨(Lib.itoa g.n).toArray⟩, 0) <| cond (g.k == 2) (word g.n, 0) <| cond (g.k == 4) (emp, g.n) (g.t, 0)
def asText (v : V) : ByteArray × Int := textG (good v)
def isT (t : ByteArray) : Bool := t.toList == [84, 82, 85, 69]
def isF (t : ByteArray) : Bool := t.toList == [70, 65, 76, 83, 69]
def truthG (g : V) : Bool × Int :=
  cond (g.k == 4) (false, g.n) <| cond (g.k == 3) (cond (isT g.t) (true, 0) <| cond (isF g.t) (false, 0) (false, 4)) (g.n != 0, 0)
def truth (v : V) : Bool × Int := truthG (good v)

/-- What may be, kind by kind. -/
theorem may_cases {v : V} (h : mayB v = true) :
    (v.k = 0 ∧ v.n = 0 ∧ isE v.t = true) ∨ (v.k = 1 ∧ isE v.t = true) ∨ (v.k = 2 ∧ (v.n = 0 ∨ v.n = 1) ∧ isE v.t = true) ∨ (v.k = 3 ∧ v.n = 0 ∧ v.t.size ≤ 32767) ∨ (v.k = 4 ∧ 1 ≤ v.n ∧ v.n ≤ 6 ∧ isE v.t = true) := by
  unfold mayB at h
  by_cases h0 : v.k = 0
  · rw [show (v.k == 0) = true by simpa using h0] at h; simp at h; exact .inl ⟨h0, h⟩
  rw [show (v.k == 0) = false by simpa using h0] at h
  by_cases h1 : v.k = 1
  · rw [show (v.k == 1) = true by simpa using h1] at h; simp at h; exact .inr (.inl ⟨h1, h⟩)
  rw [show (v.k == 1) = false by simpa using h1] at h
  by_cases h2 : v.k = 2
  · rw [show (v.k == 2) = true by simpa using h2] at h; simp at h; exact .inr (.inr (.inl ⟨h2, h⟩))
  rw [show (v.k == 2) = false by simpa using h2] at h
  by_cases h3 : v.k = 3
  · rw [show (v.k == 3) = true by simpa using h3] at h; simp at h; exact .inr (.inr (.inr (.inl ⟨h3, h⟩)))
  rw [show (v.k == 3) = false by simpa using h3] at h
  by_cases h4 : v.k = 4
  · rw [show (v.k == 4) = true by simpa using h4] at h; simp at h; exact .inr (.inr (.inr (.inr ⟨h4, h.1.1, h.1.2, h.2⟩)))
  rw [show (v.k == 4) = false by simpa using h4] at h
  simp at h
theorem may_err4 : mayB (err 4) = true := by decide +kernel
theorem good_may (v : V) : mayB (good v) = true := by
  unfold good
  cases h : mayB v
  · exact may_err4
  · exact h
end Go.Proofs.YtdbjmjeiaajdiaaDoor.Val
