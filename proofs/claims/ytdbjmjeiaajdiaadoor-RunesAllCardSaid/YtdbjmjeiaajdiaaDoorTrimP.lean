/- What runes.Trim comes to, and what RunesTrimmed asks of it: plain lists of bytes; no program. -/
import Derived.Lib.TrimByte
namespace Go.Proofs.YtdbjmjeiaajdiaaDoor.Tr
open Go Go.Lib

/-- Blanks beside blanks left away: `p`: the byte ahead is a blank. -/
def sq : Bool → List UInt8 → List UInt8
  | _, [] => []
  | p, c :: r => cond (c == 32 && p) (sq true r) (c :: sq (c == 32) r)
def trimL (l : List UInt8) : List UInt8 := sq false (trimB l 32)
/-- No blank at the ends, none beside another. -/
def nb : Bool → List UInt8 → Bool
  | p, [] => !p
  | p, c :: r => !(c == 32 && p) && nb (c == 32) r
/-- A text without blanks. -/
def solid (l : List UInt8) : List UInt8 := l.filter (· != 32)

theorem sq_nil (p : Bool) : sq p [] = [] := by cases p <;> rfl
theorem sq_blank (r : List UInt8) : sq true (32 :: r) = sq true r := rfl
theorem sq_keep (p : Bool) (c : UInt8) (r : List UInt8) (h : (c == 32 && p) = false) : sq p (c :: r) = c :: sq (c == 32) r := by rw [sq, h]; rfl
theorem solid_cons (c : UInt8) (r : List UInt8) : solid (c :: r) = if c = 32 then solid r else c :: solid r := by
  unfold solid
  by_cases h : c = 32 <;> simp [h]
theorem solid_sq : ∀ (l : List UInt8) (p : Bool), solid (sq p l) = solid l
  | [], p => by rw [sq_nil]
  | c :: r, p => by
    by_cases h : (c == 32 && p) = true
    · have hc : c = 32 := by simp at h; exact h.1
      have hp : p = true := by simp at h; exact h.2
      subst hc hp
      rw [sq_blank, solid_sq r true, solid_cons, if_pos rfl]
    · have h' : (c == 32 && p) = false := by simpa using h
      rw [sq_keep p c r h', solid_cons, solid_cons, solid_sq r]
theorem solid_dropWhile : ∀ (l : List UInt8), solid (l.dropWhile (· == 32)) = solid l
  | [] => rfl
  | c :: r => by
    by_cases h : c = 32
    · subst h; rw [List.dropWhile_cons_of_pos (by rfl), solid_dropWhile r, solid_cons, if_pos rfl]
    · rw [List.dropWhile_cons_of_neg (by simpa using h)]
theorem solid_reverse (l : List UInt8) : solid l.reverse = (solid l).reverse := by unfold solid; rw [List.filter_reverse]
theorem solid_trimB (l : List UInt8) : solid (trimB l 32) = solid l := by
  unfold trimB trimLeftB trimRightB
  rw [solid_dropWhile, solid_reverse, solid_dropWhile, solid_reverse, List.reverse_reverse]
theorem solid_trim (l : List UInt8) : solid (trimL l) = solid l := by unfold trimL; rw [solid_sq, solid_trimB]

theorem head_dropWhile : ∀ (l : List UInt8), (l.dropWhile (· == 32)).head? ≠ some 32
  | [] => by simp
  | c :: r => by
    by_cases h : c = 32
    · subst h; rw [List.dropWhile_cons_of_pos (by rfl)]; exact head_dropWhile r
    · rw [List.dropWhile_cons_of_neg (by simpa using h)]; simpa using h
theorem last_dropWhile : ∀ (l : List UInt8), l.getLast? ≠ some 32 → (l.dropWhile (· == 32)).getLast? ≠ some 32
  | [], h => by simp
  | c :: r, h => by
    by_cases hc : c = 32
    · subst hc
      rw [List.dropWhile_cons_of_pos (by rfl)]
      cases r with
      | nil => simp
      | cons d r => exact last_dropWhile (d :: r) (by simpa using h)
    · rw [List.dropWhile_cons_of_neg (by simpa using hc)]; exact h
theorem trimB_head (l : List UInt8) : (trimB l 32).head? ≠ some 32 := head_dropWhile _
theorem trimB_last (l : List UInt8) : (trimB l 32).getLast? ≠ some 32 := by
  refine last_dropWhile _ ?_
  unfold trimRightB
  rw [List.getLast?_reverse]
  exact head_dropWhile _
/-- Ends without a blank, blanks apart. -/
theorem nb_sq : ∀ (l : List UInt8) (p : Bool), l.getLast? ≠ some 32 → (l = [] → p = false) → nb p (sq p l) = true
  | [], p, _, h => by rw [sq_nil, nb, h rfl]; rfl
  | c :: r, p, h, h2 => by
    have hr : r.getLast? ≠ some 32 := by
      cases r with
      | nil => simp
      | cons d r => simpa using h
    by_cases hc : (c == 32 && p) = true
    · have hc1 : c = 32 := by simp at hc; exact hc.1
      have hp : p = true := by simp at hc; exact hc.2
      subst hc1 hp
      rw [sq_blank]
      exact nb_sq r true hr (by rintro rfl; simp at h)
    · have h' : (c == 32 && p) = false := by simpa using hc
      rw [sq_keep p c r h', nb, h']
      simp only [Bool.not_false, Bool.true_and]
      exact nb_sq r _ hr (by rintro rfl; simpa using h)
/-- A list that does not begin with a blank: whether one stands ahead of it or not is one. -/
theorem sq_any (l : List UInt8) (h : l.head? ≠ some 32) (p q : Bool) : sq p l = sq q l := by
  cases l with
  | nil => rw [sq_nil, sq_nil]
  | cons c r =>
    have hc : (c == 32) = false := by simpa using h
    rw [sq_keep p c r (by rw [hc]; rfl), sq_keep q c r (by rw [hc]; rfl)]
theorem nb_trim (l : List UInt8) : nb true (trimL l) = true ∨ trimL l = [] := by
  unfold trimL
  by_cases h : trimB l 32 = []
  · right; rw [h]; rfl
  · left
    rw [sq_any _ (trimB_head l) false true]
    exact nb_sq _ true (trimB_last l) (fun e => absurd e h)
theorem sq_nb : ∀ (l : List UInt8) (p : Bool), nb p l = true → sq p l = l
  | [], p, _ => sq_nil p
  | c :: r, p, h => by
    rw [nb, Bool.and_eq_true] at h
    rw [sq_keep p c r (by have := h.1; revert this; cases (c == 32 && p) <;> simp), sq_nb r _ h.2]
theorem nb_head (l : List UInt8) (h : nb true l = true) : l.head? ≠ some 32 := by
  cases l with
  | nil => simp
  | cons c r => 
    rw [nb, Bool.and_eq_true] at h
    have := h.1
    intro e
    have e : c = 32 := by simpa using e
    subst e
    simp at this
theorem nb_last : ∀ (l : List UInt8) (p : Bool), nb p l = true → l.getLast? ≠ some 32
  | [], _, _ => by simp
  | [c], p, h => by rw [nb, Bool.and_eq_true] at h; have := h.2; simpa [nb] using this
  | c :: d :: r, p, h => by
    rw [nb, Bool.and_eq_true] at h
    have := nb_last (d :: r) _ h.2
    simpa using this
theorem dropWhile_none (l : List UInt8) (h : l.head? ≠ some 32) : l.dropWhile (· == 32) = l := by
  cases l with
  | nil => rfl
  | cons c r => rw [List.dropWhile_cons_of_neg (by simpa using h)]
theorem trimB_none (l : List UInt8) (h : l.head? ≠ some 32) (h2 : l.getLast? ≠ some 32) : trimB l 32 = l := by
  unfold trimB trimRightB trimLeftB
  rw [dropWhile_none l.reverse (by rw [List.head?_reverse]; exact h2), List.reverse_reverse, dropWhile_none l h]
theorem trim_trim (l : List UInt8) : trimL (trimL l) = trimL l := by
  rcases nb_trim l with h | h
  · have h1 := nb_head _ h
    have e : trimB (trimL l) 32 = trimL l := trimB_none _ h1 (nb_last _ _ h)
    rw [trimL, e, sq_any _ h1 false true]
    exact sq_nb _ _ h
  · rw [h]; rfl
theorem sq_length : ∀ (l : List UInt8) (p : Bool), (sq p l).length ≤ l.length
  | [], p => by rw [sq_nil]; exact Nat.le_refl _
  | c :: r, p => by
    rw [sq]
    cases (c == 32 && p)
    · have := sq_length r (c == 32); simp; exact this
    · have := sq_length r true; simp; omega
theorem dropWhile_length (l : List UInt8) : (l.dropWhile (· == 32)).length ≤ l.length := by
  have := (List.dropWhile_sublist (p := (· == (32 : UInt8))) (l := l)).length_le; exact this
theorem trimB_length (l : List UInt8) : (trimB l 32).length ≤ l.length := by
  unfold trimB trimRightB trimLeftB
  have h1 := dropWhile_length ((l.reverse.dropWhile (· == 32)).reverse)
  have h2 := dropWhile_length l.reverse
  simp only [List.length_reverse] at h1 h2
  omega
theorem trim_length (l : List UInt8) : (trimL l).length ≤ l.length := by
  have h1 := sq_length (trimB l 32) false; have h2 := trimB_length l; unfold trimL; omega
/-- The byte at a place: no blank at the ends, none beside another. -/
theorem nb_at : ∀ (l : List UInt8) (p : Bool), nb p l = true → ∀ i, (h : i < l.length) → l[i] = 32 → (0 < i → l[i - 1]? ≠ some 32) ∧ (i = 0 → p = false) ∧ i + 1 ≠ l.length
  | [], _, _, i, h, _ => absurd h (Nat.not_lt_zero i)
  | c :: r, p, hn, i, h, e => by
    rw [nb, Bool.and_eq_true] at hn
    cases i with
    | zero =>
      have e : c = 32 := e
      subst e
      refine ⟨fun h => absurd h (by omega), fun _ => by have := hn.1; simpa using this, ?_⟩
      intro h2
      have : r = [] := by cases r with | nil => rfl | cons _ _ => simp at h2
      subst this
      have := hn.2
      simp [nb] at this
    | succ i =>
      have hi : i < r.length := by simpa using h
      obtain ⟨h1, h2, h3⟩ := nb_at r _ hn.2 i hi (by simpa using e)
      refine ⟨fun _ => ?_, fun h => absurd h (by omega), by simp; omega⟩
      cases i with
      | zero => have := h2 rfl; simp at this; simpa using this
      | succ i => have := h1 (by omega); simpa using this

/-- Where the law's second loop stands: behind the blanks of t at k. -/
theorem solid_drop_blank (l : List UInt8) (k : Nat) (h : k < l.length) (e : l[k] = 32) : solid (l.drop k) = solid (l.drop (k + 1)) := by
  rw [List.drop_eq_getElem_cons h, solid_cons, if_pos e]
theorem solid_drop_other (l : List UInt8) (k : Nat) (h : k < l.length) (e : l[k] ≠ 32) : solid (l.drop k) = l[k] :: solid (l.drop (k + 1)) := by
  rw [List.drop_eq_getElem_cons h, solid_cons, if_neg e]
theorem solid_end (l : List UInt8) (k : Nat) (h : l.getLast? ≠ some 32) (hk : k ≤ l.length) (e : solid (l.drop k) = []) : k = l.length := by
  rcases Nat.lt_or_ge k l.length with h1 | h1
  · exfalso
    have hne : l ≠ [] := by rintro rfl; simp at h1
    have hl : l.getLast hne ∈ l.drop k := by
      rw [← List.getLast_drop (l := l) (i := k) (h := by simp; omega)]
      exact List.getLast_mem _
    have hm : l.getLast hne ∈ solid (l.drop k) := by
      unfold solid
      rw [List.mem_filter]
      refine ⟨hl, ?_⟩
      rw [List.getLast?_eq_some_getLast hne] at h
      simpa using h
    rw [e] at hm
    cases hm
  · omega
theorem trim_last (l : List UInt8) : (trimL l).getLast? ≠ some 32 := by
  rcases nb_trim l with h | h
  · exact nb_last _ _ h
  · rw [h]; simp
/-! ### Byte by byte -/
def lastB : Bool → List UInt8 → Bool
  | p, [] => p
  | _, c :: r => lastB (c == 32) r
theorem sq_snoc : ∀ (l : List UInt8) (p : Bool) (c : UInt8), sq p (l ++ [c]) = sq p l ++ cond (c == 32 && lastB p l) [] [c]
  | [], p, c => by
    rw [List.nil_append, sq_nil, lastB, sq]
    cases (c == 32 && p) <;> simp [sq_nil]
  | d :: r, p, c => by
    rw [List.cons_append, sq, sq, lastB]
    cases hd : (d == 32 && p)
    · simp only [cond_false, sq_snoc r (d == 32) c, List.cons_append]
    · have h32 : (d == 32) = true := by rw [Bool.and_eq_true] at hd; exact hd.1
      simp only [cond_true, sq_snoc r true c, h32]
theorem lastB_snoc : ∀ (l : List UInt8) (p : Bool) (c : UInt8), lastB p (l ++ [c]) = (c == 32)
  | [], _, _ => rfl
  | d :: r, _, c => by rw [List.cons_append, lastB, lastB_snoc r (d == 32) c]
/-- What stands behind k bytes. -/
def sqk (l : List UInt8) (k : Nat) : List UInt8 := sq false (l.take k)
theorem sqk_zero (l : List UInt8) : sqk l 0 = [] := rfl
theorem sqk_keep (l : List UInt8) (k : Nat) (h : k < l.length) (hc : l[k] ≠ 32) : sqk l (k + 1) = sqk l k ++ [l[k]] := by
  unfold sqk
  rw [List.take_succ_eq_append_getElem h, sq_snoc, show (l[k] == 32) = false by simpa using hc]
  rfl
theorem sqk_first (l : List UInt8) (k : Nat) (h : k + 1 < l.length) (hc : l[k] ≠ 32) : sqk l (k + 1 + 1) = sqk l (k + 1) ++ [l[k + 1]] := by
  unfold sqk
  rw [List.take_succ_eq_append_getElem h, sq_snoc, List.take_succ_eq_append_getElem (show k < l.length by omega), lastB_snoc, show (l[k] == 32) = false by simpa using hc, Bool.and_false]
  rfl
theorem sqk_skip (l : List UInt8) (k : Nat) (h : k + 1 < l.length) (hc : l[k] = 32) (hd : l[k + 1] = 32) : sqk l (k + 1 + 1) = sqk l (k + 1) := by
  unfold sqk
  rw [List.take_succ_eq_append_getElem h, sq_snoc, List.take_succ_eq_append_getElem (show k < l.length by omega), lastB_snoc, hc, hd]
  simp
theorem sqk_end (l : List UInt8) : sqk (trimB l 32) (trimB l 32).length = trimL l := by unfold sqk trimL; rw [List.take_length]
theorem sqk_length (l : List UInt8) (k : Nat) : (sqk l k).length ≤ k := by
  have := sq_length (l.take k) false
  have h2 := List.length_take_le k l
  unfold sqk; omega
theorem trimB_first (l : List UInt8) (h : 0 < (trimB l 32).length) : (trimB l 32)[0] ≠ 32 := by
  have := trimB_head l
  intro e
  rw [List.head?_eq_getElem?, List.getElem?_eq_getElem h, e] at this
  exact this rfl
end Go.Proofs.YtdbjmjeiaajdiaaDoor.Tr
