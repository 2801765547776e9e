/- The contract of quadrilleref5.Trim: it answers what runes.Trim answers. -/
import Derived.Test.YtdbjmjeiaajdiaaDoorRunTr
import Derived.Test.YtdbjmjeiaajdiaaDoorR5P
import Derived.Test.YtdbjmjeiaajdiaaDoorR5B
namespace Go.Proofs.YtdbjmjeiaajdiaaDoor
open Go.RowKit
set_option linter.unusedVariables false
/-- What is owned, by its shape. -/
theorem own_shape {w : World} {B : Nat} {e : TypeId} {v : Value} {n : Nat} {xs : List Value} (h : w.ownsRow B e 1 v n xs) :
    ∃ ao cap, v = .slice ao n cap ∧ n ≤ cap ∧ ((ao = none ∧ n = 0 ∧ cap = 0) ∨ ∃ g, ao = some ⟨g, 0, none⟩ ∧ B ≤ g ∧ ∀ j, j < n → w.cell? ⟨g, j, none⟩ = xs[j]?) := by
  rcases h.2 with ⟨rfl, rfl⟩ | ⟨g, cap, cur, rfl, h2, h3, h4, _⟩
  · exact ⟨none, 0, rfl, Nat.le_refl _, .inl ⟨rfl, rfl, rfl⟩⟩
  · exact ⟨_, cap, rfl, h4, .inr ⟨g, rfl, h2, fun j hj => h.cellAt j (by omega)⟩⟩
theorem byteCells_at (l : List UInt8) (j : Nat) (h : j < l.length) : (Lib.byteCells l)[j]? = some (.int .u8 (l[j].toNat : Int)) := by
  unfold Lib.byteCells
  rw [List.getElem?_map, List.getElem?_eq_getElem h]
  rfl
/-- Bytes that are owned, as a text. -/
theorem conv_own {w : World} {B : Nat} {ao : Option Addr} {n cap : Nat} {l : List UInt8} (hl : l.length = n) (h : (ao = none ∧ n = 0 ∧ cap = 0) ∨ ∃ g, ao = some ⟨g, 0, none⟩ ∧ B ≤ g ∧ ∀ j, j < n → w.cell? ⟨g, j, none⟩ = (Lib.byteCells l)[j]?) :
    (convert 88 9 (.slice ao n cap)).run Tryd.prog w = .ok (.string ⟨l.toArray⟩) w := by
  rcases h with ⟨rfl, rfl, rfl⟩ | ⟨g, rfl, _, hc⟩
  · have : l = [] := List.eq_nil_of_length_eq_zero hl
    subst this
    exact run_convert_bytes_nil (P := Tryd.prog) (w := w) 88 5 Tryd.underlying88 Tryd.underlying5 0 0 9 Tryd.underlying9
  · subst hl
    refine run_convert_bytes_back (P := Tryd.prog) w 88 9 5 ⟨g, 0, none⟩ cap l Tryd.underlying88 Tryd.underlying5 Tryd.underlying9 (fun j hj => ?_)
    rw [addr_add0, hc j hj]
    exact byteCells_at l j hj
theorem u8_not32 (c : UInt8) (h : ¬ c = 32) : ((c.toNat : Int) == 32) = false := by
  rw [beq_eq_false_iff_ne]
  intro e
  exact h (blank_of c e)
set_option maxRecDepth 100000 in
set_option maxHeartbeats 2000000 in
theorem rtrim_any (s : ByteArray) (w : World) (hs : s.size ≤ 200000) : Calls Tryd.prog 85 #[.string s] w fun e w' => e = .returned (.string (trimS s)) ∧ Below w.heap.size w w' := by
  have HE : Hid ((⟨(Tr.strike (Tr.sq true s.data.toList)).toArray⟩ : ByteArray) = trimS s) := Lib.hid (by rw [Tr.strike_sq]; rfl)
  have HUL : Hid (s.data.toList.length = s.size) := Lib.hid (Lib.size_eq s).symm
  obtain ⟨i0, hi, hz0, hz1, hz2⟩ := info_parts info5
  go_enter Tryd.func85, Tryd.ntmps85
  go_wp2
  go_loopw [3, 4] (fun v i wr => ∃ (k n : Nat) (acc : List UInt8), k ≤ s.size ∧ i = .int .i64 (k : Int) ∧ n ≤ k ∧ Hid (acc = Tr.sq true (s.data.toList.take k)) ∧ Hid (acc.length = n) ∧ wr.ownsRow w.heap.size 5 1 v n (Lib.byteCells acc) ∧ Below w.heap.size w wr) (fun _ i _ => s.size - (intOf i).toNat)
  case atStart => exact ⟨0, 0, [], Nat.zero_le _, rfl, Nat.le_refl _, Lib.hid rfl, Lib.hid rfl, World.ownsRow_nil _ _ _ _, Below.refl _ _⟩
  case round =>
    obtain ⟨k, n, acc, hk, rfl, hnk, HA, HL, hown, hb⟩ := hrel
    obtain ⟨ao, cap, rfl, hnc, hsh⟩ := own_shape hown
    by_cases hlt : k < s.size
    · have HN : Hid (Tr.sq true (s.data.toList.take (k + 1)) = acc ++ cond (s[k] == 32 && Tr.lastQ true acc) [] [s[k]]) := Lib.hid (by
        rw [List.take_succ_eq_append_getElem (by rw [HUL.out]; exact hlt), Tr.sq_snocQ, ← HA.out]
        rfl)
      by_cases hc : s[k] = 32
      · have t1 : ((s[k].toNat : Int) == 32) = true := by rw [hc]; rfl
        by_cases hn : n = 0
        · subst hn
          have ha : acc = [] := List.eq_nil_of_length_eq_zero HL.out
          subst ha
          have HC := Lib.hid hc
          clear hc hsh
          have hown' := hown
          go_wp2
          go_roundw
          case rel => exact ⟨k + 1, 0, [], by omega, by go_num, by omega, Lib.hid (by rw [HN.out]; rw [HC.out]; rfl), HL, hown', hb⟩
          case measure => simp [intOf]; omega
        · obtain ⟨m, rfl⟩ : ∃ m, n = m + 1 := ⟨n - 1, by omega⟩
          obtain ⟨g, rfl, hg, hcells⟩ := hsh.resolve_left (by omega)
          have hml : m < acc.length := by rw [HL.out]; omega
          have hcell := hcells m (by omega)
          rw [byteCells_at _ m hml] at hcell
          obtain ⟨d, hd0⟩ : ∃ d, acc[m] = d := ⟨_, rfl⟩
          rw [hd0] at hcell
          have HLQ : Hid (Tr.lastQ true acc = (d == 32)) := Lib.hid (by unfold Tr.lastQ; rw [List.getLast?_eq_getElem?, HL.out, Nat.add_sub_cancel, List.getElem?_eq_getElem hml, hd0])
          clear hcells hd0 hml hsh hn
          by_cases hd : d = 32
          · have t2 : ((d.toNat : Int) == 32) = true := by rw [hd]; rfl
            have HC := Lib.hid hc
            have HD := Lib.hid hd
            clear hc hd
            have hown' := hown
            go_wp2
            go_roundw
            case rel => exact ⟨k + 1, m + 1, acc, by omega, by go_num, by omega, Lib.hid (by rw [HN.out]; rw [HC.out, HLQ.out, HD.out]; simp), HL, hown', hb⟩
            case measure => simp [intOf]; omega
          · have t2 : ((d.toNat : Int) == 32) = false := u8_not32 d hd
            have HC := Lib.hid hc
            have HD := Lib.hid hd
            clear hc hd
            obtain ⟨n, hn2⟩ : ∃ n, n = m + 1 := ⟨_, rfl⟩
            have hbs := hb.size
            have hL : m + 1 ≤ 200000 := by omega
            have HY : Hid (Lib.byteCells acc ++ [.int .u8 (s[k].toNat : Int)] = Lib.byteCells (acc ++ [s[k]])) := Lib.hid (by simp [Lib.byteCells])
            go_wp2_with (first | (at_builtin; refine wpList_append_own _ rfl _ _ 88 rfl w.heap.size 5 i0 (.int .u8 0) 1 1 Tryd.underlying88 hi hz0 hz1 hz2 rfl (by decide) _ _ _ rfl (hown.alloc _) ⟨wr.heap.size, 0, none⟩ 1 1 [.int .u8 (s[k].toNat : Int)] rfl rfl ?c1a ?c2a ?c3a ?c4a ?c5a ?_) | fail)
            case c1a =>
              intro j u hj
              match j, hj with
              | 0, hj => simp at hj; subst hj; simp [Addr.add]
            case c2a => intro u hu; simp at hu; subst hu; rfl
            case c3a => unfold maxLen; omega
            case c4a => omega
            case c5a => simp; omega
            intro v' w1 hown1 hgrow _
            rw [HY.out] at hown1
            have hb1 : Below w.heap.size w w1 := (hb.alloc hbs _).grown hgrow (by simp; omega) (fun j hj => (hown.lt j hj).1)
            clear hgrow hown hb
            go_wp2
            go_roundw
            case rel => exact ⟨k + 1, m + 1 + 1, acc ++ [s[k]], by omega, by go_num, by omega, Lib.hid (by rw [HN.out]; rw [HLQ.out, show (d == 32) = false by simpa using HD.out, Bool.and_false]; rfl), Lib.hid (by rw [List.length_append, HL.out]; rfl), hown1, hb1⟩
            case measure => simp [intOf]; omega
      · have t1 : ((s[k].toNat : Int) == 32) = false := u8_not32 _ hc
        have HC := Lib.hid hc
        clear hc hsh
        have hbs := hb.size
        have hL : n ≤ 200000 := by omega
        have HY : Hid (Lib.byteCells acc ++ [.int .u8 (s[k].toNat : Int)] = Lib.byteCells (acc ++ [s[k]])) := Lib.hid (by simp [Lib.byteCells])
        go_wp2_with (first | (at_builtin; refine wpList_append_own _ rfl _ _ 88 rfl w.heap.size 5 i0 (.int .u8 0) 1 1 Tryd.underlying88 hi hz0 hz1 hz2 rfl (by decide) _ _ _ rfl (hown.alloc _) ⟨wr.heap.size, 0, none⟩ 1 1 [.int .u8 (s[k].toNat : Int)] rfl rfl ?c1b ?c2b ?c3b ?c4b ?c5b ?_) | fail)
        case c1b =>
          intro j u hj
          match j, hj with
          | 0, hj => simp at hj; subst hj; simp [Addr.add]
        case c2b => intro u hu; simp at hu; subst hu; rfl
        case c3b => unfold maxLen; omega
        case c4b => omega
        case c5b => simp; omega
        intro v' w1 hown1 hgrow _
        rw [HY.out] at hown1
        have hb1 : Below w.heap.size w w1 := (hb.alloc hbs _).grown hgrow (by simp; omega) (fun j hj => (hown.lt j hj).1)
        clear hgrow hown hb
        go_wp2
        go_roundw
        case rel => exact ⟨k + 1, n + 1, acc ++ [s[k]], by omega, by go_num, by omega, Lib.hid (by rw [HN.out]; rw [show (s[k] == 32) = false by simpa using HC.out, Bool.false_and]; rfl), Lib.hid (by rw [List.length_append, HL.out]; rfl), hown1, hb1⟩
        case measure => simp [intOf]; omega
    · obtain rfl : k = s.size := by omega
      have HF : Hid (acc = Tr.sq true s.data.toList) := Lib.hid (by rw [HA.out, ← HUL.out, List.take_length])
      clear HA
      by_cases hn : n = 0
      · have hcv := conv_own HL.out hsh
        subst hn
        have ha : acc = [] := List.eq_nil_of_length_eq_zero HL.out
        subst ha
        clear hsh hown
        go_wp2
        go_ret
        refine ⟨?_, hb⟩
        rw [← HE.out, ← HF.out]
        rfl
      · obtain ⟨m, rfl⟩ : ∃ m, n = m + 1 := ⟨n - 1, by omega⟩
        obtain ⟨g, rfl, hg, hcells⟩ := hsh.resolve_left (by omega)
        have hml : m < acc.length := by rw [HL.out]; omega
        have hcell := hcells m (by omega)
        rw [byteCells_at _ m hml] at hcell
        obtain ⟨d, hd0⟩ : ∃ d, acc[m] = d := ⟨_, rfl⟩
        rw [hd0] at hcell
        have HG : Hid (acc.getLast? = some d) := Lib.hid (by rw [List.getLast?_eq_getElem?, HL.out, Nat.add_sub_cancel, List.getElem?_eq_getElem hml, hd0])
        clear hd0
        by_cases hd : d = 32
        · have t2 : ((d.toNat : Int) == 32) = true := by rw [hd]; rfl
          have hdl : acc.dropLast.length = m := by rw [List.length_dropLast, HL.out]; rfl
          have hcv := conv_own (w := wr) (B := w.heap.size) (ao := some ⟨g, 0, none⟩) (n := m) (cap := cap) (l := acc.dropLast) hdl (.inr ⟨g, rfl, hg, fun j hj => by
            rw [hcells j (by omega), byteCells_at _ j (by omega), byteCells_at _ j (by omega), List.getElem_dropLast]⟩)
          have hst : Tr.strike acc = acc.dropLast := if_pos (by rw [HG.out, hd])
          have HST := Lib.hid hst
          generalize acc.dropLast = y at *
          clear hd hown hcells hml hdl hst hsh
          have hmc : m ≤ cap := by omega
          go_wp2
          go_ret
          refine ⟨?_, hb⟩
          rw [← HE.out, ← HF.out, HST.out]
          rfl
        · have t2 : ((d.toNat : Int) == 32) = false := u8_not32 d hd
          have hcv := conv_own HL.out hsh
          have HD := Lib.hid hd
          have HST : Hid (Tr.strike acc = acc) := Lib.hid (Tr.strike_none acc (by rw [HG.out]; simpa using hd))
          clear hd hown hcells hml hsh
          go_wp2
          go_ret
          refine ⟨?_, hb⟩
          rw [← HE.out, ← HF.out, HST.out]
          rfl
end Go.Proofs.YtdbjmjeiaajdiaaDoor
