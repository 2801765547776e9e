/- The contracts of runes.next and runes.Turn at every text of at most 2^47 bytes. -/
import Derived.Test.YtdbjmjeiaajdiaaDoorRunD
import Derived.Laws.CopyOwn
import Derived.Laws.Tables
import Derived.Lib.BufferWrite
import Derived.Lib.BufferRead
import Derived.Deep.OwnRows
import Derived.Laws.IdiomStrings
namespace Go.Proofs.YtdbjmjeiaajdiaaDoor
open Go.RowKit
set_option linter.unusedVariables false
theorem info5 : (Tryd.prog.info? 5).map (fun i => (i.zero, i.size, i.bytes)) = some (some (.int .u8 0), 1, 1) := by kernel_rfl
theorem next_any (s : ByteArray) (pos : Nat) (w : World) (hs : s.size ≤ 140737488351232) (hp : pos < s.size) (hT : Lib.Utf8Tabs 4 5 w) :
    Calls Tryd.prog 69 #[.string s, .int .i64 (pos : Int)] w fun e w' => e = .returned (.int .i64 ((pos + Run.wd s pos : Nat) : Int)) ∧ Below w.heap.size w w' := by
  have hd : Lib.decodeGo (s.extract pos s.size) = Utf8.decode s pos := by
    unfold Lib.decodeGo
    rw [if_neg (by simp; omega), Lib.tail_decode]; simp
  have HD := Lib.hid (fun w hT => Tryd.utf8_DecodeRuneInString (s.extract pos s.size) w hT)
  rw [hd] at HD
  have hw : (Utf8.decode s pos).2 = Run.wd s pos := rfl
  rw [hw] at HD
  have hle := Run.wd_le s pos hp
  generalize Run.wd s pos = d at *
  go_enter Tryd.func69, Tryd.ntmps69
  go_wp2_with (fail)
  refine (HD.out _ hT).mono ?_
  rintro e w1 ⟨rfl, hb⟩
  go_wp2
  go_ret
  exact ⟨by simp, hb⟩
/-- The runes from the last one to the first: of the first k runes. -/
def tn (s : ByteArray) : Nat → List UInt8
  | 0 => []
  | k + 1 => (s.extract (Run.adv s k 0) (Run.adv s (k + 1) 0)).data.toList ++ tn s k
theorem tn_length (s : ByteArray) : ∀ k, (tn s k).length = Run.adv s k 0
  | 0 => rfl
  | k + 1 => by
    have h1 := Run.adv_le s (k + 1) 0 (Nat.zero_le _)
    have h2 : Run.adv s k 0 ≤ Run.adv s (k + 1) 0 := by rw [Run.adv_add s k 1 0]; exact Run.adv_ge s 1 _
    rw [tn, List.length_append, tn_length s k]
    have : (s.extract (Run.adv s k 0) (Run.adv s (k + 1) 0)).data.toList.length = Run.adv s (k + 1) 0 - Run.adv s k 0 := by
      rw [← Lib.size_eq, ByteArray.size_extract]; omega
    omega
def turned (s : ByteArray) : ByteArray := ⟨(tn s (Run.cnt s 0)).toArray⟩
theorem turned_size (s : ByteArray) : (turned s).size = s.size := by
  have := tn_length s (Run.cnt s 0)
  rw [Run.adv_all] at this
  unfold turned
  rw [← this]
  exact List.size_toArray
theorem made_cells (n : Nat) : madeCells #[Value.int .u8 0] n = (Lib.byteCells (List.replicate n 0)).toArray := by
  apply Array.ext
  · simp [madeCells, Lib.byteCells]
  · intro i h1 h2
    simp only [madeCells, Array.getElem_map, Array.getElem_range, Lib.byteCells, List.getElem_toArray, List.getElem_map, List.getElem_replicate]
    simp [Nat.mod_one]
theorem splice_bytes (rest x t : List UInt8) (o : Nat) (h : o + x.length = rest.length) :
    ((Lib.byteCells (rest ++ t)).toArray.toList.take o ++ Lib.byteCells x ++ (Lib.byteCells (rest ++ t)).toArray.toList.drop (o + x.length)) = Lib.byteCells (rest.take o ++ (x ++ t)) := by
  simp only [Lib.byteCells, ← List.map_take, ← List.map_drop]
  simp only [List.map_append, List.append_assoc]
  congr 1
  · simp [List.take_append_of_le_length (show o ≤ rest.length by omega)]
  · rw [h, List.drop_left' (by simp)]

set_option maxHeartbeats 1000000 in
theorem turn_any (s : ByteArray) (w : World) (hs : s.size ≤ 140737488351232) (hT : Lib.Utf8Tabs 4 5 w) :
    Calls Tryd.prog 39 #[.string s] w fun e w' => e = .returned (.string (turned s)) ∧ Below w.heap.size w w' := by
  have hmk := @run_make_row' Tryd.prog 88 5 (.int .u8 0) 1 Tryd.underlying88 info5 rfl .i64 .i64 s.size (by omega) (by omega)
  have HC := Run.adv_all s
  have HL := Run.cnt_le_size s
  have HTn : Hid ((⟨(tn s (Run.cnt s 0)).toArray⟩ : ByteArray) = turned s) := Lib.hid rfl
  generalize hc : Run.cnt s 0 = c at *
  have HC0 := Lib.hid hc
  clear hc
  rw [made_cells] at hmk
  have HTl := Lib.hid (tn_length s)
  go_enter Tryd.func39, Tryd.ntmps39
  go_wp2
  have hrow0 : ((w.alloc (Obj.cells (Lib.byteCells (List.replicate s.size 0)).toArray 5)).iter s 0).heap[w.heap.size]? = some (.cells (Lib.byteCells (List.replicate s.size 0 ++ tn s 0)).toArray 5 (0, 0)) := by
    refine (Below.heap_alloc _ _ w.heap.size (by simp)).trans ?_
    rw [heap_alloc_new]; simp [tn]
  have hit0 : ((w.alloc (Obj.cells (Lib.byteCells (List.replicate s.size 0)).toArray 5)).iter s 0).heap[w.heap.size + 1]? = some (.stringIter s 0) := by
    simpa using World.iter_heap (w.alloc (Obj.cells (Lib.byteCells (List.replicate s.size 0)).toArray 5)) s 0
  have hb0 : Below w.heap.size w ((w.alloc (Obj.cells (Lib.byteCells (List.replicate s.size 0)).toArray 5)).iter s 0) := ((Below.refl _ w).alloc (Nat.le_refl _) _).alloc (by simp) _
  generalize (w.alloc (Obj.cells (Lib.byteCells (List.replicate s.size 0)).toArray 5)).iter s 0 = W0 at *
  clear hmk
  go_loopw [4] (fun p wr => ∃ (pos k : Nat) (rest : List UInt8), p = .int .i64 (rest.length : Int) ∧ pos + rest.length = s.size ∧ Hid (pos = Run.adv s k 0) ∧ Hid (k + Run.cnt s pos = c) ∧ wr.heap[w.heap.size + 1]? = some (.stringIter s pos) ∧ Hid (wr.heap[w.heap.size]? = some (.cells (Lib.byteCells (rest ++ tn s k)).toArray 5 (0, 0))) ∧ Below w.heap.size w wr) (fun _ wr => s.size - wr.iterPos (w.heap.size + 1))
  case atStart =>
    exact ⟨0, 0, List.replicate s.size 0, by simp, by simp, Lib.hid rfl, Lib.hid (by rw [HC0.out]; omega), hit0, Lib.hid hrow0, hb0⟩
  case round =>
    obtain ⟨pos, k, rest, rfl, hpos, HP, HK, hit, HR, hbw⟩ := hrel
    have hsz : w.heap.size + 1 < wr.heap.size := (Array.getElem?_eq_some_iff.1 hit).1
    by_cases hp : pos < s.size
    · have hnx : ∀ ty, (Instr.next (.pointer (some ⟨w.heap.size + 1, 0, none⟩)) true ty).run Tryd.prog wr = _ := fun ty => Lib.run_next_any_at wr (w.heap.size + 1) s pos ty hit hp
      have hwd := Run.wd_pos s pos
      have hwl := Run.wd_le s pos hp
      have hit2 := Lib.iterAt_heap wr (w.heap.size + 1) s pos (pos + (Utf8.decode s pos).2) hit
      have hrw2 := Lib.iterAt_other wr (w.heap.size + 1) w.heap.size s (pos + (Utf8.decode s pos).2) (by omega)
      have hbw2 := Lib.below_iterAt hbw (k := w.heap.size + 1) (by omega) s (pos + (Utf8.decode s pos).2)
      have hsz2 := Lib.iterAt_size wr (w.heap.size + 1) s (pos + (Utf8.decode s pos).2)
      rw [HR.out] at hrw2
      rw [← Run.wd_eq] at hit2 hbw2 hnx hrw2 hsz2
      have HK2 : Hid (k + 1 + Run.cnt s (pos + Run.wd s pos) = c) := by have := HK.out; rw [Run.cnt_step s pos hp] at this; exact Lib.hid (by omega)
      have HP2 : Hid (pos + Run.wd s pos = Run.adv s (k + 1) 0) := by
        have := HP.out
        have h2 := Run.adv_next s k 0 (by omega)
        rw [← this] at h2
        exact Lib.hid h2.symm
      have HN := Lib.hid (fun w hT => next_any s pos w hs hp hT)
      have htk : tn s (k + 1) = (s.extract pos (pos + Run.wd s pos)).data.toList ++ tn s k := by rw [tn, ← HP.out, ← HP2.out]
      have HTK := Lib.hid htk
      clear htk
      have hT2 := Utf8Tabs_below hT hbw2
      generalize Run.wd s pos = d at *
      generalize wr.iterAt (w.heap.size + 1) s (pos + d) = W1 at *
      generalize (Utf8.decode s pos).1 = r at *
      have hbl : ((s.extract pos (pos + d)).data.toList).length = d := by rw [← Lib.size_eq, ByteArray.size_extract]; omega
      have hbs : (s.extract pos (pos + d)).size = d := by rw [ByteArray.size_extract]; omega
      obtain ⟨o, ho⟩ : ∃ o, rest.length = o + d := ⟨rest.length - d, by omega⟩
      generalize hn : pos + d = n at *
      have hto1 : IntKind.i64.wrap ((n : Int) - (pos : Int)) = (d : Int) := by rw [IntKind.wrap_i64]; omega
      have hto2 : IntKind.i64.wrap ((rest.length : Int) - (d : Int)) = (o : Int) := by rw [IntKind.wrap_i64]; omega
      have hdl : o + (s.extract pos n).size ≤ (Lib.byteCells (rest ++ tn s k)).toArray.size := by rw [hbs]; simp [Lib.byteCells]; omega
      go_wp2_with (fail)
      refine (HN.out _ hT2).mono ?_
      rintro e w1 ⟨rfl, hbn⟩
      have hrow : w1.drew.heap[w.heap.size]? = _ := (hbn.block w.heap.size (by omega)).trans hrw2
      have hit3 : w1.drew.heap[w.heap.size + 1]? = _ := (hbn.block (w.heap.size + 1) (by omega)).trans hit2
      have hb3 := (hbw2.trans (hbn.mono (by omega))).drew
      have hcp := Lib.run_copy_row_string (P := Tryd.prog) w1.drew 88 9 3 5 w.heap.size o (s.size - o) (s.size - o) (s.extract pos n) (Lib.byteCells (rest ++ tn s k)).toArray 5 Tryd.underlying88 (by kernel_rfl) hrow (by omega) hdl
      have hst := setRow_heap w1.drew w.heap.size _ ((Lib.byteCells (rest ++ tn s k)).toArray.toList.take o ++ Lib.byteCells (s.extract pos n).data.toList ++ (Lib.byteCells (rest ++ tn s k)).toArray.toList.drop (o + (s.extract pos n).size)).toArray _ _ hrow
      have hso := setRow_other w1.drew w.heap.size (w.heap.size + 1) ((Lib.byteCells (rest ++ tn s k)).toArray.toList.take o ++ Lib.byteCells (s.extract pos n).data.toList ++ (Lib.byteCells (rest ++ tn s k)).toArray.toList.drop (o + (s.extract pos n).size)).toArray (by omega)
      have hb4 := below_setRow hb3 (Nat.le_refl _) ((Lib.byteCells (rest ++ tn s k)).toArray.toList.take o ++ Lib.byteCells (s.extract pos n).data.toList ++ (Lib.byteCells (rest ++ tn s k)).toArray.toList.drop (o + (s.extract pos n).size)).toArray
      have hspl := splice_bytes rest (s.extract pos n).data.toList (tn s k) o (by rw [hbl]; omega)
      rw [hbl, ← HTK.out] at hspl
      rw [hbs] at hst hso hb4 hcp
      rw [hspl] at hst hso hb4 hcp
      rw [hit3] at hso
      generalize w1.drew.setRow w.heap.size (Lib.byteCells (rest.take o ++ tn s (k + 1))).toArray = W2 at *
      clear hspl hdl
      have HR2 := Lib.hid hst
      clear hst hrow hrw2
      go_wp2
      go_region
      go_wp2
      go_roundw
      case rel => exact ⟨n, k + 1, rest.take o, by simp; omega, by simp; omega, HP2, HK2, hso, HR2, hb4⟩
      case measure =>
        simp only [World.iterPos, hso, hit]
        omega
    · have hnx : ∀ ty, (Instr.next (.pointer (some ⟨w.heap.size + 1, 0, none⟩)) true ty).run Tryd.prog wr = _ := fun ty => Lib.run_next_end_at wr (w.heap.size + 1) s pos ty hit hp
      obtain rfl : k = c := by have := HK.out; rw [Run.cnt_end s pos hp] at this; omega
      obtain rfl : rest = [] := List.eq_nil_of_length_eq_zero (by omega)
      have htl := HTl.out k
      have hcv := run_convert_bytes_back (P := Tryd.prog) wr 88 9 5 ⟨w.heap.size, 0, none⟩ s.size (tn s k) Tryd.underlying88 Tryd.underlying5 Tryd.underlying9 (Go.Lib.bytes_of_row HR.out (by rw [List.nil_append, show (Lib.byteCells (tn s k)).toArray.toList = Lib.byteCells (tn s k) from rfl, List.take_of_length_le (by rw [Lib.byteCells_length]; exact Nat.le_refl _)]))
      rw [htl, HC, HTn.out] at hcv
      clear htl HK HP HTl
      go_wp2
      go_ret
      exact ⟨rfl, hbw⟩
end Go.Proofs.YtdbjmjeiaajdiaaDoor
