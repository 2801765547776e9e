/- Trimming as the document says it: byte by byte, blanks at the head and beside another left away, one at the end struck; it is what Trim answers. -/
import Derived.Test.YtdbjmjeiaajdiaaDoorTrimP
namespace Go.Proofs.YtdbjmjeiaajdiaaDoor.Tr
open Go Go.Lib
/-- Is the last byte a blank (of nothing: p)? -/
def lastQ (p : Bool) (l : List UInt8) : Bool := match l.getLast? with
  | none => p
  | some d => d == 32
theorem lastQ_nil (p : Bool) : lastQ p [] = p := rfl
theorem lastQ_cons (p : Bool) (d : UInt8) (l : List UInt8) : lastQ p (d :: l) = lastQ (d == 32) l := by
  unfold lastQ
  rw [List.getLast?_cons]
  cases l.getLast? <;> rfl
theorem sq_snocQ : ∀ (l : List UInt8) (p : Bool) (c : UInt8), sq p (l ++ [c]) = sq p l ++ cond (c == 32 && lastQ p (sq p l)) [] [c]
  | [], p, c => by
    rw [sq_nil, lastQ_nil]
    show cond (c == 32 && p) (sq true []) (c :: sq (c == 32) []) = _
    rw [sq_nil, sq_nil]
    rfl
  | d :: r, p, c => by
    have h1 := sq_snocQ r true c
    have h2 := sq_snocQ r (d == 32) c
    show sq p (d :: (r ++ [c])) = _
    rw [sq, sq]
    cases h : (d == 32 && p)
    · show d :: sq (d == 32) (r ++ [c]) = d :: sq (d == 32) r ++ cond (c == 32 && lastQ p (d :: sq (d == 32) r)) [] [c]
      rw [h2, lastQ_cons]
      rfl
    · have hp : p = true := by simp at h; exact h.2
      subst hp
      exact h1
theorem sq_drop : ∀ l : List UInt8, sq true (l.dropWhile (· == 32)) = sq true l
  | [] => rfl
  | c :: r => by
    by_cases h : c = 32
    · subst h; rw [List.dropWhile_cons_of_pos (by rfl), sq_drop r, sq_blank]
    · rw [List.dropWhile_cons_of_neg (by simpa using h)]
theorem sq_blanks : ∀ (R : List UInt8), (∀ c ∈ R, c = 32) → sq true R = []
  | [], _ => rfl
  | c :: r, h => by
    have : c = 32 := h c (List.mem_cons_self ..)
    subst this
    rw [sq_blank]
    exact sq_blanks r fun x hx => h x (List.mem_cons_of_mem _ hx)
theorem sq_behind : ∀ (m : List UInt8) (p : Bool) (R : List UInt8), (∀ c ∈ R, c = 32) → m ≠ [] → m.getLast? ≠ some 32 → sq p (m ++ R) = sq p m ++ (if R = [] then [] else [32])
  | [], _, _, _, h, _ => absurd rfl h
  | [c], p, R, hR, _, hl => by
    have hc : (c == 32) = false := by simpa using hl
    show sq p (c :: R) = _
    rw [sq_keep p c R (by rw [hc]; rfl), sq_keep p c [] (by rw [hc]; rfl), hc, sq_nil]
    cases R with
    | nil => rw [sq_nil]; rfl
    | cons d r =>
      have hd : d = 32 := hR d (List.mem_cons_self ..)
      subst hd
      rw [sq_keep false 32 r rfl, if_neg (by simp)]
      have := sq_blanks r fun x hx => hR x (List.mem_cons_of_mem _ hx)
      show c :: 32 :: sq true r = _
      rw [this]
      rfl
  | c :: d :: r, p, R, hR, _, hl => by
    have hl2 : (d :: r).getLast? ≠ some 32 := by simpa using hl
    have ih := fun p => sq_behind (d :: r) p R hR (by simp) hl2
    show sq p (c :: ((d :: r) ++ R)) = _
    rw [sq, sq, ih, ih]
    cases (c == 32 && p) <;> rfl
theorem drop_all : ∀ (l : List UInt8), l.dropWhile (· == 32) = [] → ∀ c ∈ l, c = 32
  | [], _, c, h => by cases h
  | d :: r, e, c, h => by
    by_cases hd : d = 32
    · subst hd
      rw [List.dropWhile_cons_of_pos (by rfl)] at e
      rcases List.mem_cons.1 h with h | h
      · exact h
      · exact drop_all r e c h
    · rw [List.dropWhile_cons_of_neg (by simpa using hd)] at e
      cases e
/-- One blank at the end struck. -/
def strike (l : List UInt8) : List UInt8 := if l.getLast? = some 32 then l.dropLast else l
theorem strike_off (x : List UInt8) : strike (x ++ [32]) = x := by
  unfold strike
  rw [List.getLast?_append]
  simp
theorem strike_none (x : List UInt8) (h : x.getLast? ≠ some 32) : strike x = x := if_neg h
theorem strike_sq (l : List UInt8) : strike (sq true l) = trimL l := by
  obtain ⟨R, hR, hl⟩ : ∃ R, (∀ c ∈ R, c = (32 : UInt8)) ∧ l = trimRightB l 32 ++ R := by
    refine ⟨(l.reverse.takeWhile (· == 32)).reverse, fun c hc => ?_, ?_⟩
    · have := List.all_eq_true.1 (List.all_takeWhile (p := (· == (32 : UInt8))) (l := l.reverse)) c (List.mem_reverse.1 hc)
      simpa using this
    · unfold trimRightB
      rw [← List.reverse_append, List.takeWhile_append_dropWhile, List.reverse_reverse]
  have hm : trimB l 32 = (trimRightB l 32).dropWhile (· == 32) := rfl
  have hlast := trimB_last l
  have hhead := trimB_head l
  unfold trimL
  by_cases he : trimB l 32 = []
  · have e1 : sq true l = [] := by
      have : (trimRightB l 32).dropWhile (· == 32) = [] := by rw [← hm]; exact he
      rw [hl]
      apply sq_blanks
      intro c hc
      rcases List.mem_append.1 hc with h | h
      · exact drop_all _ this c h
      · exact hR c h
    rw [he, e1]
    rfl
  · have e1 : sq true l = sq true (trimB l 32 ++ R) := by
      rw [← sq_drop l]
      congr 1
      rw [hl, List.dropWhile_append, ← hl, ← hm]
      rw [if_neg (by simpa using he)]
    rw [e1, sq_behind _ true R hR he hlast, sq_any _ hhead false true]
    have hn := nb_last _ _ (nb_sq (trimB l 32) true hlast (fun e => absurd e he))
    by_cases hr : R = []
    · rw [if_pos hr, List.append_nil]
      exact strike_none _ hn
    · rw [if_neg hr]
      exact strike_off _
end Go.Proofs.YtdbjmjeiaajdiaaDoor.Tr
