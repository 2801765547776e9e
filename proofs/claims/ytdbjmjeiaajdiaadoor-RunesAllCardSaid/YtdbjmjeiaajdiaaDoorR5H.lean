/- Swap: the reference's and the program's answer the same. -/
import Derived.Test.YtdbjmjeiaajdiaaDoorR5G
import Derived.Test.YtdbjmjeiaajdiaaDoorR5S
import Derived.Test.YtdbjmjeiaajdiaaDoorShCut
import Derived.Test.YtdbjmjeiaajdiaaDoorShWs
namespace Go.Proofs.YtdbjmjeiaajdiaaDoor
open Go.RowKit
set_option linter.unusedVariables false
theorem rswap_none (s o wt : ByteArray) (w : World) (t1 : o.toList = []) (t2 : o.toList.isEmpty = true) : Calls Tryd.prog 87 #[.string s, .string o, .string wt] w fun e w' => e = .returned (.tuple #[.string s, .int .i64 0]) ∧ Below w.heap.size w w' := by
  go_enter Tryd.func87, Tryd.ntmps87
  go_wp2
  go_ret2
  exact ⟨rfl, Below.refl _ _⟩
set_option maxRecDepth 100000 in
set_option maxHeartbeats 2000000 in
theorem rswap_walk (s o wt a : ByteArray) (b : Int) (w : World) (hs : s.size ≤ 200000) (hw : wt.size ≤ 200000) (t1 : ¬ o.toList = []) (t2 : o.toList.isEmpty = false) (ho : 1 ≤ o.size) (ho2 : o.size ≤ 200000)
    (h1 : 32767 < (Sw.swp o.data.toList wt.data.toList s.data.toList).length → a = ⟨#[]⟩ ∧ b = 2)
    (h2 : ¬ 32767 < (Sw.swp o.data.toList wt.data.toList s.data.toList).length → a = ⟨(Sw.swp o.data.toList wt.data.toList s.data.toList).toArray⟩ ∧ b = 0) :
    Calls Tryd.prog 87 #[.string s, .string o, .string wt] w fun e w' => e = .returned (.tuple #[.string a, .int .i64 b]) ∧ Below w.heap.size w w' := by
  obtain ⟨i0, hi, hz0, hz1, hz2⟩ := info_parts info5
  have hne : o.data.toList ≠ [] := by rw [← Lib.toList_data]; exact t1
  have HNE := Lib.hid hne
  obtain ⟨R, hR⟩ : ∃ R, Sw.swp o.data.toList wt.data.toList s.data.toList = R := ⟨_, rfl⟩
  rw [hR] at h1 h2
  have HL1 := Lib.hid h1
  have HL2' := Lib.hid h2
  have HR := Lib.hid hR
  have HB : Hid (∀ k w, Calls Tryd.prog 71 #[.string (s.extract k s.size), .string o] w fun e w' => e = .returned (.bool (o.data.toList.isPrefixOf (s.data.toList.drop k))) ∧ w = w') := Lib.hid (fun k w => by
    have h := begins_any (s.extract k s.size) o w
    rw [drop_tail] at h
    exact h)
  have HUL : Hid (s.data.toList.length = s.size) := Lib.hid (Lib.size_eq s).symm
  have HOL : Hid (o.data.toList.length = o.size) := Lib.hid (Lib.size_eq o).symm
  have HWL : Hid (wt.data.toList.length = wt.size) := Lib.hid (Lib.size_eq wt).symm
  clear h1 h2 hR hne
  go_enter Tryd.func87, Tryd.ntmps87
  go_wp2
  go_loopw [8, 9] (fun v i wr => ∃ (k n : Nat) (acc : List UInt8), k ≤ s.size ∧ i = .int .i64 (k : Int) ∧ n ≤ 32767 ∧ Hid (acc ++ Sw.swp o.data.toList wt.data.toList (s.data.toList.drop k) = R) ∧ Hid (acc.length = n) ∧ wr.ownsRow w.heap.size 5 1 v n (Lib.byteCells acc) ∧ Below w.heap.size w wr) (fun _ i _ => s.size - (intOf i).toNat)
  case atStart => exact ⟨0, 0, [], Nat.zero_le _, rfl, by omega, Lib.hid (by rw [List.drop_zero]; exact HR.out), Lib.hid rfl, World.ownsRow_nil _ _ _ _, Below.refl _ _⟩
  case round =>
    obtain ⟨k, n, acc, hk, rfl, hn, HA, HL, hown, hb⟩ := hrel
    have hbs := hb.size
    by_cases hlt : k < s.size
    · have HB2 := Lib.hid (HB.out k)
      have hkl : k < s.data.toList.length := by rw [HUL.out]; exact hlt
      cases hp : o.data.toList.isPrefixOf (s.data.toList.drop k) with
      | true =>
        have hfit : k + o.size ≤ s.size := by
          have h := (List.isPrefixOf_iff_prefix.1 hp).length_le
          rw [List.length_drop, HUL.out, HOL.out] at h
          omega
        have HA2 : Hid ((acc ++ wt.data.toList) ++ Sw.swp o.data.toList wt.data.toList (s.data.toList.drop (k + o.size)) = R) := Lib.hid (by
          rw [← HA.out, Sw.swp_hit HNE.out _ hp, List.drop_drop, HOL.out, List.append_assoc])
        have HL2 : Hid ((acc ++ wt.data.toList).length = n + wt.size) := Lib.hid (by rw [List.length_append, HL.out, HWL.out])
        have HY : Hid (Lib.byteCells acc ++ Lib.strCells wt = Lib.byteCells (acc ++ wt.data.toList)) := Lib.hid (strCells_app acc wt)
        rw [hp] at HB2
        clear hp HA HL hkl
        go_wp2_with (fail)
        refine (HB2.out _).mono ?_
        rintro e w0 ⟨rfl, rfl⟩
        go_wp2_with (first | (refine Lib.wpList_append_own_string _ rfl _ _ 88 9 rfl w.heap.size 5 i0 Tryd.underlying88 Tryd.underlying9 hi hz0 hz1 hz2 _ n _ rfl hown wt rfl (by unfold maxLen; omega) (by omega) hbs ?_) | fail)
        intro v' w1 hown1 hgrow _
        rw [HY.out] at hown1
        have hb1 : Below w.heap.size w w1 := hb.grown hgrow hbs (fun j hj => (hown.lt j hj).1)
        obtain ⟨ao, cap2, rfl, hnc, hsh⟩ := own_shape hown1
        clear hgrow hown hb hsh hnc
        have HO := Lib.hid hown1
        clear hown1
        have hn2 : n + wt.size ≤ 232767 := by omega
        clear hn
        generalize n + wt.size = n2 at *
        by_cases hbig : 32767 < n2
        · obtain ⟨rfl, rfl⟩ := HL1.out (by rw [← HA2.out, List.length_append, HL2.out]; omega)
          go_wp2
          go_ret2
          exact ⟨rfl, hb1⟩
        · go_wp2
          go_roundw
          case rel => exact ⟨k + o.size, n2, acc ++ wt.data.toList, by omega, by go_num, by omega, HA2, HL2, HO.out, hb1⟩
          case measure => simp [intOf]; omega
      | false =>
        have HA2 : Hid ((acc ++ [s[k]'hlt]) ++ Sw.swp o.data.toList wt.data.toList (s.data.toList.drop (k + 1)) = R) := Lib.hid (by
          rw [← HA.out, List.drop_eq_getElem_cons hkl] 
          rw [List.drop_eq_getElem_cons hkl] at hp
          rw [Sw.swp_keep HNE.out _ _ hp, List.append_assoc]
          rfl)
        have HL2 : Hid ((acc ++ [s[k]'hlt]).length = n + 1) := Lib.hid (by rw [List.length_append, HL.out]; rfl)
        have HY : Hid (Lib.byteCells acc ++ [.int .u8 ((s[k]'hlt).toNat : Int)] = Lib.byteCells (acc ++ [s[k]'hlt])) := Lib.hid (by simp [Lib.byteCells])
        rw [hp] at HB2
        clear hp HA HL hkl
        go_wp2_with (fail)
        refine (HB2.out _).mono ?_
        rintro e w0 ⟨rfl, rfl⟩
        go_wp2_with (first | (at_builtin; refine wpList_append_own _ rfl _ _ 88 rfl w.heap.size 5 i0 (.int .u8 0) 1 1 Tryd.underlying88 hi hz0 hz1 hz2 rfl (by decide) _ _ _ rfl (hown.alloc _) ⟨wr.heap.size, 0, none⟩ 1 1 [.int .u8 (s[k].toNat : Int)] rfl rfl ?c1b ?c2b ?c3b ?c4b ?c5b ?_) | fail)
        case c1b =>
          intro j u hj
          match j, hj with
          | 0, hj => simp at hj; subst hj; simp [Addr.add]
        case c2b => intro u hu; simp at hu; subst hu; rfl
        case c3b => unfold maxLen; omega
        case c4b => omega
        case c5b => simp; omega
        intro v' w1 hown1 hgrow _
        rw [HY.out] at hown1
        have hb1 : Below w.heap.size w w1 := (hb.alloc hbs _).grown hgrow (by simp; omega) (fun j hj => (hown.lt j hj).1)
        obtain ⟨ao, cap2, rfl, hnc, hsh⟩ := own_shape hown1
        clear hgrow hown hb hsh hnc
        have HO := Lib.hid hown1
        clear hown1
        have hn2 : n + 1 ≤ 232767 := by omega
        clear hn
        generalize n + 1 = n2 at *
        by_cases hbig : 32767 < n2
        · obtain ⟨rfl, rfl⟩ := HL1.out (by rw [← HA2.out, List.length_append, HL2.out]; omega)
          go_wp2
          go_ret2
          exact ⟨rfl, hb1⟩
        · go_wp2
          go_roundw
          case rel => exact ⟨k + 1, n2, acc ++ [s[k]'hlt], by omega, by go_num, by omega, HA2, HL2, HO.out, hb1⟩
          case measure => simp [intOf]; omega
    · obtain rfl : k = s.size := by omega
      obtain ⟨ao, cap2, rfl, hnc, hsh⟩ := own_shape hown
      have hcv := conv_own HL.out hsh
      have HX : Hid (acc = R) := Lib.hid (by
        have := HA.out
        rw [List.drop_of_length_le (by rw [HUL.out]; exact Nat.le_refl _), Sw.swp_nil, List.append_nil] at this
        exact this)
      obtain ⟨rfl, rfl⟩ := HL2'.out (by rw [← HX.out, HL.out]; omega)
      rw [HX.out] at hcv
      clear hown hsh HA
      go_wp2
      go_ret2
      exact ⟨rfl, hb⟩
theorem swap_none (s o wt : ByteArray) (w : World) (t1 : o.toList = []) (t2 : o.toList.isEmpty = true) : Calls Tryd.prog 78 #[.string s, .string o, .string wt] w fun e w' => e = .returned (.tuple #[.string s, .int .i64 0]) ∧ Below w.heap.size w w' := by
  go_enter Tryd.func78, Tryd.ntmps78
  go_wp2
  go_ret2
  exact ⟨rfl, Below.refl _ _⟩
def strLen : Value → Nat
  | .string t => t.size
  | _ => 0
theorem toArr (t : ByteArray) : (⟨t.data.toList.toArray⟩ : ByteArray) = t := by
  apply ByteArray.ext
  simp
theorem isB_drew {B b : Nat} {bs : List Value} {w : World} (n : Nat) (h : Lib.IsBuilder 111 5 B b bs w) : Lib.IsBuilder 111 5 B b bs (w.drewN n) := h
theorem byteCells_len (l : List UInt8) : (Lib.byteCells l).length = l.length := Lib.byteCells_length l
set_option maxRecDepth 100000 in
set_option maxHeartbeats 2000000 in
theorem swap_walk (s o wt a : ByteArray) (b m : Int) (w : World) (hs : s.size ≤ 200000) (hw : wt.size ≤ 200000) (t1 : ¬ o.toList = []) (t2 : o.toList.isEmpty = false) (ho : 1 ≤ o.size) (ho2 : o.size ≤ 200000)
    (hM : w.cell? ⟨0, 0, none⟩ = some (.int .i64 m)) (hM0 : 0 < w.heap.size)
    (h1 : 32767 < (Sw.swp o.data.toList wt.data.toList s.data.toList).length → a = ⟨#[]⟩ ∧ b = 2)
    (h2 : ¬ 32767 < (Sw.swp o.data.toList wt.data.toList s.data.toList).length → a = ⟨(Sw.swp o.data.toList wt.data.toList s.data.toList).toArray⟩ ∧ b = 0) :
    Calls Tryd.prog 78 #[.string s, .string o, .string wt] w fun e w' => e = .returned (.tuple #[.string a, .int .i64 b]) ∧ Below w.heap.size w w' := by
  have hne : o.data.toList ≠ [] := by rw [← Lib.toList_data]; exact t1
  have HNE := Lib.hid hne
  obtain ⟨R, hR⟩ : ∃ R, Sw.swp o.data.toList wt.data.toList s.data.toList = R := ⟨_, rfl⟩
  rw [hR] at h1 h2
  have HL1 := Lib.hid h1
  have HL2' := Lib.hid h2
  have HR := Lib.hid hR
  have HOL : Hid (o.data.toList.length = o.size) := Lib.hid (Lib.size_eq o).symm
  have HWL : Hid (wt.data.toList.length = wt.size) := Lib.hid (Lib.size_eq wt).symm
  have HM := Lib.hid hM
  clear h1 h2 hR hne hM
  go_enter Tryd.func78, Tryd.ntmps78
  go_wp2
  have hB0 := Lib.fresh_isBuilder 111 5 w
  have hb0 : Below w.heap.size w (w.alloc (.cells #[.pointer none, .slice none 0 0] 111)) := (Below.refl _ _).alloc (Nat.le_refl _) _
  generalize w.alloc (.cells #[.pointer none, .slice none 0 0] 111) = W0 at *
  go_loopw [0] (fun sv wr => ∃ (t : ByteArray) (acc : List UInt8), sv = .string t ∧ t.size ≤ 200000 ∧ acc.length ≤ 32767 ∧ Hid (acc ++ Sw.swp o.data.toList wt.data.toList t.data.toList = R) ∧ Hid (Lib.IsBuilder 111 5 w.heap.size w.heap.size (Lib.byteCells acc) wr) ∧ Below w.heap.size w wr) (fun sv _ => strLen sv)
  case atStart => exact ⟨s, [], rfl, hs, by simp, Lib.hid HR.out, Lib.hid hB0, hb0⟩
  case round =>
    obtain ⟨t, acc, rfl, ht, hacc, HA, HB, hb⟩ := hrel
    have hTL := Lib.size_eq t
    have HTL := Lib.hid hTL
    clear hTL
    have hm : wr.cell? ⟨0, 0, none⟩ = some (.int .i64 m) := (hb.cell (p := ⟨0, 0, none⟩) hM0).trans HM.out
    have HC := Lib.hid (fun w hm => Tryd.strings_Cut t o m w (by omega) hm)
    have hix := Sw.swp_index (wit := wt.data.toList) HNE.out t.data.toList
    have hgx := Lib.index_ge t.data.toList o.data.toList
    have hrx := Lib.index_room t.data.toList o.data.toList
    by_cases hneg : Lib.index t.data.toList o.data.toList = -1
    · have hcut : Lib.cut t.data.toList o.data.toList = (t.data.toList, [], false) := by
        unfold Lib.cut
        rw [if_neg (by omega)]
      rw [hcut] at HC
      simp only [toArr] at HC
      have HX : Hid (acc ++ t.data.toList = R) := Lib.hid (by rw [← HA.out, hix.1 hneg])
      have hN : (acc ++ t.data.toList).length = acc.length + t.size := by rw [List.length_append, ← HTL.out]
      have HY1 : Hid (Lib.byteCells acc ++ Lib.strCells t = Lib.byteCells (acc ++ t.data.toList)) := Lib.hid (strCells_app acc t)
      have HW1 := Lib.hid (fun v h hz => writeString_any w.heap.size w.heap.size (Lib.byteCells acc) t v h (by rw [byteCells_len]; omega) hz)
      obtain ⟨n2, hn2⟩ : ∃ n2, acc.length + t.size = n2 := ⟨_, rfl⟩
      rw [hn2] at hN
      have HLn : Hid (∀ v, Lib.IsBuilder 111 5 w.heap.size w.heap.size (Lib.byteCells (acc ++ t.data.toList)) v → Calls Tryd.prog 111 #[.pointer (some ⟨w.heap.size, 0, none⟩)] v fun e v' => e = .returned (.int .i64 (n2 : Int)) ∧ v' = v) := Lib.hid (fun v h => by
        have := Tryd.Builder_Len w.heap.size w.heap.size (Lib.byteCells (acc ++ t.data.toList)) v h
        rw [byteCells_len, hN] at this
        exact this)
      have HSt : Hid (∀ v, Lib.IsBuilder 111 5 w.heap.size w.heap.size (Lib.byteCells (acc ++ t.data.toList)) v → w.heap.size ≤ v.heap.size → Calls Tryd.prog 108 #[.pointer (some ⟨w.heap.size, 0, none⟩)] v fun e v' => e = .returned (.string ⟨R.toArray⟩) ∧ Below w.heap.size v v') := Lib.hid (fun v h hz => by
        have := Tryd.Builder_String_any w.heap.size w.heap.size (acc ++ t.data.toList) v h hz
        rw [HX.out] at this
        exact this)
      have HRL : Hid (R.length = n2) := Lib.hid (by rw [← HX.out]; exact hN)
      have hn3 : n2 ≤ 232767 := by omega
      clear hn2 hN hcut hix hgx hrx hneg HX HA
      go_wp2_with (fail)
      refine (HC.out _ hm).mono ?_
      rintro e w1 ⟨rfl, nd, rfl⟩
      have hb1 : Below w.heap.size w (wr.drewN nd) := hb.trans ⟨rfl, rfl, rfl, Nat.le_refl _, fun _ _ => rfl⟩
      have HB1 : Hid (Lib.IsBuilder 111 5 w.heap.size w.heap.size (Lib.byteCells acc) (wr.drewN nd)) := Lib.hid (isB_drew nd HB.out)
      clear hm HB hb HC
      generalize wr.drewN nd = W1 at *
      go_wp2_with (fail)
      refine (HW1.out _ HB1.out hb1.size).mono ?_
      rintro e w2 ⟨rfl, hB2, hb2⟩
      rw [HY1.out] at hB2
      have hb3 := hb1.trans hb2
      have HB2 := Lib.hid hB2
      clear hB2 hb2 hb1 HB1
      go_wp2_with (fail)
      refine (HLn.out _ (.inr HB2.out)).mono ?_
      rintro e w3 ⟨rfl, rfl⟩
      by_cases hbig : 32767 < n2
      · obtain ⟨rfl, rfl⟩ := HL1.out (by rw [HRL.out]; exact hbig)
        go_wp2
        go_ret2
        exact ⟨rfl, hb3⟩
      · obtain ⟨rfl, rfl⟩ := HL2'.out (by rw [HRL.out]; exact hbig)
        go_wp2_with (fail)
        refine (HSt.out _ (.inr HB2.out) hb3.size).mono ?_
        rintro e w4 ⟨rfl, hb4⟩
        go_wp2
        go_ret2
        exact ⟨rfl, hb3.trans hb4⟩
    · obtain ⟨i, hi⟩ : ∃ i : Nat, Lib.index t.data.toList o.data.toList = (i : Int) := ⟨(Lib.index t.data.toList o.data.toList).toNat, by omega⟩
      have hroom : i + o.size ≤ t.size := by
        have := hrx (by omega)
        rw [hi, HOL.out, ← HTL.out] at this
        omega
      have hcut : Lib.cut t.data.toList o.data.toList = (t.data.toList.take i, t.data.toList.drop (i + o.size), true) := by
        unfold Lib.cut
        rw [if_pos (by omega), hi, HOL.out]
        rfl
      rw [hcut] at HC
      have hsw := hix.2 i hi
      rw [HOL.out] at hsw
      obtain ⟨hd, hhd⟩ : ∃ hd : ByteArray, (⟨(t.data.toList.take i).toArray⟩ : ByteArray) = hd := ⟨_, rfl⟩
      obtain ⟨tl, htl⟩ : ∃ tl : ByteArray, (⟨(t.data.toList.drop (i + o.size)).toArray⟩ : ByteArray) = tl := ⟨_, rfl⟩
      have hdl : hd.data.toList = t.data.toList.take i := by rw [← hhd]
      have htll : tl.data.toList = t.data.toList.drop (i + o.size) := by rw [← htl]
      rw [← hdl, ← htll] at hsw
      have hds : hd.size ≤ 200000 := by rw [Lib.size_eq, hdl, List.length_take]; omega
      have hts : tl.size = t.size - (i + o.size) := by rw [Lib.size_eq, htll, List.length_drop, HTL.out]
      rw [hhd, htl] at HC
      have HA2 : Hid ((acc ++ hd.data.toList ++ wt.data.toList) ++ Sw.swp o.data.toList wt.data.toList tl.data.toList = R) := Lib.hid (by
        rw [← HA.out, hsw]
        simp only [List.append_assoc])
      have hN : (acc ++ hd.data.toList ++ wt.data.toList).length = acc.length + hd.size + wt.size := by rw [List.length_append, List.length_append, HWL.out, ← Lib.size_eq]
      have HY1 : Hid (Lib.byteCells acc ++ Lib.strCells hd = Lib.byteCells (acc ++ hd.data.toList)) := Lib.hid (strCells_app acc hd)
      have HY2 : Hid (Lib.byteCells (acc ++ hd.data.toList) ++ Lib.strCells wt = Lib.byteCells (acc ++ hd.data.toList ++ wt.data.toList)) := Lib.hid (strCells_app _ wt)
      have HW1 := Lib.hid (fun v h hz => writeString_any w.heap.size w.heap.size (Lib.byteCells acc) hd v h (by rw [byteCells_len]; omega) hz)
      have HW2 := Lib.hid (fun v h hz => writeString_any w.heap.size w.heap.size (Lib.byteCells (acc ++ hd.data.toList)) wt v h (by rw [byteCells_len, List.length_append, ← Lib.size_eq]; omega) hz)
      obtain ⟨n2, hn2⟩ : ∃ n2, acc.length + hd.size + wt.size = n2 := ⟨_, rfl⟩
      rw [hn2] at hN
      have HLn : Hid (∀ v, Lib.IsBuilder 111 5 w.heap.size w.heap.size (Lib.byteCells (acc ++ hd.data.toList ++ wt.data.toList)) v → Calls Tryd.prog 111 #[.pointer (some ⟨w.heap.size, 0, none⟩)] v fun e v' => e = .returned (.int .i64 (n2 : Int)) ∧ v' = v) := Lib.hid (fun v h => by
        have := Tryd.Builder_Len w.heap.size w.heap.size (Lib.byteCells (acc ++ hd.data.toList ++ wt.data.toList)) v h
        rw [byteCells_len, hN] at this
        exact this)
      have HRL : Hid (n2 ≤ R.length) := Lib.hid (by rw [← HA2.out, List.length_append, hN]; omega)
      have HN := Lib.hid hN
      have hn3 : n2 ≤ 432767 := by omega
      have hlt : tl.size < t.size := by omega
      clear hn2 hN hcut hix hgx hrx hneg HA hsw hdl htll hhd htl hds hts hi
      generalize acc ++ hd.data.toList ++ wt.data.toList = acc2 at *
      go_wp2_with (fail)
      refine (HC.out _ hm).mono ?_
      rintro e w1 ⟨rfl, nd, rfl⟩
      have hb1 : Below w.heap.size w (wr.drewN nd) := hb.trans ⟨rfl, rfl, rfl, Nat.le_refl _, fun _ _ => rfl⟩
      have HB1 : Hid (Lib.IsBuilder 111 5 w.heap.size w.heap.size (Lib.byteCells acc) (wr.drewN nd)) := Lib.hid (isB_drew nd HB.out)
      clear hm HB hb HC
      generalize wr.drewN nd = W1 at *
      go_wp2_with (fail)
      refine (HW1.out _ HB1.out hb1.size).mono ?_
      rintro e w2 ⟨rfl, hB2, hb2⟩
      rw [HY1.out] at hB2
      have hb3 := hb1.trans hb2
      have HB2 := Lib.hid hB2
      clear hB2 hb2 hb1 HB1
      go_wp2_with (fail)
      refine (HW2.out _ (.inr HB2.out) hb3.size).mono ?_
      rintro e w3 ⟨rfl, hB3, hb2⟩
      rw [HY2.out] at hB3
      replace hb3 := hb3.trans hb2
      have HB3 := Lib.hid hB3
      clear hB3 hb2 HB2
      go_wp2_with (fail)
      refine (HLn.out _ (.inr HB3.out)).mono ?_
      rintro e w4 ⟨rfl, rfl⟩
      by_cases hbig : 32767 < n2
      · obtain ⟨rfl, rfl⟩ := HL1.out (by have := HRL.out; omega)
        go_wp2
        go_ret2
        exact ⟨rfl, hb3⟩
      · go_wp2
        go_roundw
        case rel => exact ⟨tl, acc2, rfl, by omega, by rw [HN.out]; omega, HA2, Lib.hid (.inr HB3.out), hb3⟩
        case measure => exact hlt
end Go.Proofs.YtdbjmjeiaajdiaaDoor
