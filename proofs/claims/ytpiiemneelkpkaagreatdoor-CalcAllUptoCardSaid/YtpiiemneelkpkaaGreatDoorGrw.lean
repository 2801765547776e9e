import Derived.Test.YtpiiemneelkpkaaGreatDoorGrv
import Derived.Laws.CopyOwn
import Derived.Laws.Tables
import Derived.Lib.BufferWrite
import Derived.Lib.BufferRead
import Derived.Deep.OwnRows
import Derived.Laws.IdiomStrings
namespace Go.Proofs.YtpiiemneelkpkaaGreatDoor
open Go.RowKit
set_option linter.unusedVariables false
theorem info5 : (Tryz.prog.info? 5).map (fun i => (i.zero, i.size, i.bytes)) = some (some (.int .u8 0), 1, 1) := by kernel_rfl
theorem next_any (s : ByteArray) (pos : Nat) (w : World) (hs : s.size ≤ 140737488351232) (hp : pos < s.size) (hT : Lib.Utf8Tabs 4 5 w) :
  Ret 184 #[.string s, .int .i64 (pos : Int)] w (.int .i64 ((pos + Run.wd s pos : Nat) : Int)) := by
 have hd : Lib.decodeGo (s.extract pos s.size) = Utf8.decode s pos := by
  unfold Lib.decodeGo
  rw [if_neg (by simp; omega), Lib.tail_decode]; simp
 have HD := Lib.hid (fun w hT => Tryz.utf8_DecodeRuneInString (s.extract pos s.size) w hT)
 rw [hd] at HD
 have hw : (Utf8.decode s pos).2 = Run.wd s pos := rfl
 rw [hw] at HD
 have hle := Run.wd_le s pos hp
 generalize Run.wd s pos = d at *
 go_enter Tryz.func184, Tryz.ntmps184
 go_wp2_with (fail)
 refine (HD.out _ hT).mono ?_
 rintro e w1 ⟨rfl, hb⟩
 go_wp2
 go_ret
 exact ⟨by simp, hb⟩
def tn (s : ByteArray) : Nat → List UInt8
 | 0 => []
 | k + 1 => (s.extract (Run.adv s k 0) (Run.adv s (k + 1) 0)).data.toList ++ tn s k
theorem tn_length (s : ByteArray) : ∀ k, (tn s k).length = Run.adv s k 0
 | 0 => rfl
 | k + 1 => by
  have h1 := Run.adv_le s (k + 1) 0 (Nat.zero_le _)
  have h2 : Run.adv s k 0 ≤ Run.adv s (k + 1) 0 := by rw [Run.adv_add s k 1 0]; exact Run.adv_ge s 1 _
  rw [tn, List.length_append, tn_length s k]
  have : (s.extract (Run.adv s k 0) (Run.adv s (k + 1) 0)).data.toList.length = Run.adv s (k + 1) 0 - Run.adv s k 0 := by
   rw [← Lib.size_eq, ByteArray.size_extract]; omega
  omega
def turned (s : ByteArray) : ByteArray := ⟨(tn s (Run.cnt s 0)).toArray⟩
theorem turned_size (s : ByteArray) : (turned s).size = s.size := by
 have := tn_length s (Run.cnt s 0)
 rw [Run.adv_all] at this
 unfold turned
 rw [← this]
 exact List.size_toArray
theorem made_cells (n : Nat) : madeCells #[Value.int .u8 0] n = (Lib.byteCells (List.replicate n 0)).toArray := by
 apply Array.ext
 ·simp [madeCells, Lib.byteCells]
 ·intro i h1 h2
  simp only [madeCells, Array.getElem_map, Array.getElem_range, Lib.byteCells, List.getElem_toArray, List.getElem_map, List.getElem_replicate]
  simp [Nat.mod_one]
theorem splice_bytes (rest x t : List UInt8) (o : Nat) (h : o + x.length = rest.length) :
  ((Lib.byteCells (rest ++ t)).toArray.toList.take o ++ Lib.byteCells x ++ (Lib.byteCells (rest ++ t)).toArray.toList.drop (o + x.length)) = Lib.byteCells (rest.take o ++ (x ++ t)) := by
 simp only [Lib.byteCells, ← List.map_take, ← List.map_drop]
 simp only [List.map_append, List.append_assoc]
 congr 1
 ·simp [List.take_append_of_le_length (show o ≤ rest.length by omega)]
 ·rw [h, List.drop_left' (by simp)]
set_option maxHeartbeats 1000000 in
theorem turn_any (s : ByteArray) (w : World) (hs : s.size ≤ 140737488351232) (hT : Lib.Utf8Tabs 4 5 w) :
  Ret 135 #[.string s] w (.string (turned s)) := by
 have hmk := @run_make_row' Tryz.prog 133 5 (.int .u8 0) 1 Tryz.underlying133 info5 rfl .i64 .i64 s.size (by omega) (by omega)
 have HC := Run.adv_all s
 have HL := Run.cnt_le_size s
 have HTn : Hid ((⟨(tn s (Run.cnt s 0)).toArray⟩ : ByteArray) = turned s) := Lib.hid rfl
 generalize hc : Run.cnt s 0 = c at *
 have HC0 := Lib.hid hc
 clear hc
 rw [made_cells] at hmk
 have HTl := Lib.hid (tn_length s)
 go_enter Tryz.func135, Tryz.ntmps135
 go_wp2
 have hrow0 : ((w.alloc (Obj.cells (Lib.byteCells (List.replicate s.size 0)).toArray 5)).iter s 0).heap[w.heap.size]? = some (.cells (Lib.byteCells (List.replicate s.size 0 ++ tn s 0)).toArray 5 (0, 0)) := by
  refine (Below.heap_alloc _ _ w.heap.size (by simp)).trans ?_
  rw [heap_alloc_new]; simp [tn]
 have hit0 : ((w.alloc (Obj.cells (Lib.byteCells (List.replicate s.size 0)).toArray 5)).iter s 0).heap[w.heap.size + 1]? = some (.stringIter s 0) := by
  simpa using World.iter_heap (w.alloc (Obj.cells (Lib.byteCells (List.replicate s.size 0)).toArray 5)) s 0
 have hb0 : Below w.heap.size w ((w.alloc (Obj.cells (Lib.byteCells (List.replicate s.size 0)).toArray 5)).iter s 0) := ((Below.refl _ w).alloc (Nat.le_refl _) _).alloc (by simp) _
 generalize (w.alloc (Obj.cells (Lib.byteCells (List.replicate s.size 0)).toArray 5)).iter s 0 = W0 at *
 clear hmk
 go_loopw [4] (fun p wr => ∃ (pos k : Nat) (rest : List UInt8), p = .int .i64 (rest.length : Int) ∧ pos + rest.length = s.size ∧ Hid (pos = Run.adv s k 0) ∧ Hid (k + Run.cnt s pos = c) ∧ wr.heap[w.heap.size + 1]? = some (.stringIter s pos) ∧ Hid (wr.heap[w.heap.size]? = some (.cells (Lib.byteCells (rest ++ tn s k)).toArray 5 (0, 0))) ∧ Below w.heap.size w wr) (fun _ wr => s.size - wr.iterPos (w.heap.size + 1))
 case atStart =>
  exact ⟨0, 0, List.replicate s.size 0, by simp, by simp, Lib.hid rfl, Lib.hid (by rw [HC0.out]; omega), hit0, Lib.hid hrow0, hb0⟩
 case round =>
  obtain ⟨pos, k, rest, rfl, hpos, HP, HK, hit, HR, hbw⟩ := hrel
  have hsz : w.heap.size + 1 < wr.heap.size := (Array.getElem?_eq_some_iff.1 hit).1
  by_cases hp : pos < s.size
  ·have hnx : ∀ ty, (Instr.next (.pointer (some ⟨w.heap.size + 1, 0, none⟩)) true ty).run Tryz.prog wr = _ := fun ty => Lib.run_next_any_at wr (w.heap.size + 1) s pos ty hit hp
   have hwd := Run.wd_pos s pos
   have hwl := Run.wd_le s pos hp
   have hit2 := Lib.iterAt_heap wr (w.heap.size + 1) s pos (pos + (Utf8.decode s pos).2) hit
   have hrw2 := Lib.iterAt_other wr (w.heap.size + 1) w.heap.size s (pos + (Utf8.decode s pos).2) (by omega)
   have hbw2 := Lib.below_iterAt hbw (k := w.heap.size + 1) (by omega) s (pos + (Utf8.decode s pos).2)
   have hsz2 := Lib.iterAt_size wr (w.heap.size + 1) s (pos + (Utf8.decode s pos).2)
   rw [HR.out] at hrw2
   rw [← Run.wd_eq] at hit2 hbw2 hnx hrw2 hsz2
   have HK2 : Hid (k + 1 + Run.cnt s (pos + Run.wd s pos) = c) := by have := HK.out; rw [Run.cnt_step s pos hp] at this; exact Lib.hid (by omega)
   have HP2 : Hid (pos + Run.wd s pos = Run.adv s (k + 1) 0) := by
    have := HP.out
    have h2 := Run.adv_next s k 0 (by omega)
    rw [← this] at h2
    exact Lib.hid h2.symm
   have HN := Lib.hid (fun w hT => next_any s pos w hs hp hT)
   have htk : tn s (k + 1) = (s.extract pos (pos + Run.wd s pos)).data.toList ++ tn s k := by rw [tn, ← HP.out, ← HP2.out]
   have HTK := Lib.hid htk
   clear htk
   have hT2 := Utf8Tabs_below hT hbw2
   generalize Run.wd s pos = d at *
   generalize wr.iterAt (w.heap.size + 1) s (pos + d) = W1 at *
   generalize (Utf8.decode s pos).1 = r at *
   have hbl : ((s.extract pos (pos + d)).data.toList).length = d := by rw [← Lib.size_eq, ByteArray.size_extract]; omega
   have hbs : (s.extract pos (pos + d)).size = d := by rw [ByteArray.size_extract]; omega
   obtain ⟨o, ho⟩ : ∃ o, rest.length = o + d := ⟨rest.length - d, by omega⟩
   generalize hn : pos + d = n at *
   have hto1 : IntKind.i64.wrap ((n : Int) - (pos : Int)) = (d : Int) := by rw [IntKind.wrap_i64]; omega
   have hto2 : IntKind.i64.wrap ((rest.length : Int) - (d : Int)) = (o : Int) := by rw [IntKind.wrap_i64]; omega
   have hdl : o + (s.extract pos n).size ≤ (Lib.byteCells (rest ++ tn s k)).toArray.size := by rw [hbs]; simp [Lib.byteCells]; omega
   go_wp2_with (fail)
   refine (HN.out _ hT2).mono ?_
   rintro e w1 ⟨rfl, hbn⟩
   have hrow : w1.drew.heap[w.heap.size]? = _ := (hbn.block w.heap.size (by omega)).trans hrw2
   have hit3 : w1.drew.heap[w.heap.size + 1]? = _ := (hbn.block (w.heap.size + 1) (by omega)).trans hit2
   have hb3 := (hbw2.trans (hbn.mono (by omega))).drew
   have hcp := Lib.run_copy_row_string (P := Tryz.prog) w1.drew 133 9 3 5 w.heap.size o (s.size - o) (s.size - o) (s.extract pos n) (Lib.byteCells (rest ++ tn s k)).toArray 5 Tryz.underlying133 (by kernel_rfl) hrow (by omega) hdl
   have hst := setRow_heap w1.drew w.heap.size _ ((Lib.byteCells (rest ++ tn s k)).toArray.toList.take o ++ Lib.byteCells (s.extract pos n).data.toList ++ (Lib.byteCells (rest ++ tn s k)).toArray.toList.drop (o + (s.extract pos n).size)).toArray _ _ hrow
   have hso := setRow_other w1.drew w.heap.size (w.heap.size + 1) ((Lib.byteCells (rest ++ tn s k)).toArray.toList.take o ++ Lib.byteCells (s.extract pos n).data.toList ++ (Lib.byteCells (rest ++ tn s k)).toArray.toList.drop (o + (s.extract pos n).size)).toArray (by omega)
   have hb4 := below_setRow hb3 (Nat.le_refl _) ((Lib.byteCells (rest ++ tn s k)).toArray.toList.take o ++ Lib.byteCells (s.extract pos n).data.toList ++ (Lib.byteCells (rest ++ tn s k)).toArray.toList.drop (o + (s.extract pos n).size)).toArray
   have hspl := splice_bytes rest (s.extract pos n).data.toList (tn s k) o (by rw [hbl]; omega)
   rw [hbl, ← HTK.out] at hspl
   rw [hbs] at hst hso hb4 hcp
   rw [hspl] at hst hso hb4 hcp
   rw [hit3] at hso
   generalize w1.drew.setRow w.heap.size (Lib.byteCells (rest.take o ++ tn s (k + 1))).toArray = W2 at *
   clear hspl hdl
   have HR2 := Lib.hid hst
   clear hst hrow hrw2
   go_wp2
   go_region
   go_wp2
   go_roundw
   case rel => exact ⟨n, k + 1, rest.take o, by simp; omega, by simp; omega, HP2, HK2, hso, HR2, hb4⟩
   case measure =>
    simp only [World.iterPos, hso, hit]
    omega
  ·have hnx : ∀ ty, (Instr.next (.pointer (some ⟨w.heap.size + 1, 0, none⟩)) true ty).run Tryz.prog wr = _ := fun ty => Lib.run_next_end_at wr (w.heap.size + 1) s pos ty hit hp
   obtain rfl : k = c := by have := HK.out; rw [Run.cnt_end s pos hp] at this; omega
   obtain rfl : rest = [] := List.eq_nil_of_length_eq_zero (by omega)
   have htl := HTl.out k
   have hcv := run_convert_bytes_back (P := Tryz.prog) wr 133 9 5 ⟨w.heap.size, 0, none⟩ s.size (tn s k) Tryz.underlying133 Tryz.underlying5 Tryz.underlying9 (Go.Lib.bytes_of_row HR.out (by rw [List.nil_append, show (Lib.byteCells (tn s k)).toArray.toList = Lib.byteCells (tn s k) from rfl, List.take_of_length_le (by rw [Lib.byteCells_length]; exact Nat.le_refl _)]))
   rw [htl, HC, HTn.out] at hcv
   clear htl HK HP HTl
   go_wp2
   go_ret
   exact ⟨rfl, hbw⟩
end Go.Proofs.YtpiiemneelkpkaaGreatDoor
namespace Go.Proofs.YtpiiemneelkpkaaGreatDoor
open Go.RowKit
set_option linter.unusedVariables false
theorem toList_len (s : ByteArray) : s.toList.length = s.size := by rw [Lib.toList_data, ← Lib.size_eq]
def rep (s : ByteArray) (n : Nat) : ByteArray := ⟨(Lib.repeatL s.data.toList n).toArray⟩
def timesR (s : ByteArray) (n : Nat) : ByteArray × Int := if s.size = 0 then (⟨#[]⟩, 0) else if 32767 < s.size * n then (⟨#[]⟩, 2) else (rep s n, 0)
theorem times_any (s : ByteArray) (n : Nat) (w : World) (hs : s.size ≤ 140737488351232) (hn : n ≤ 9223372036854775807) :
  Ret 142 #[.string s, .int .i64 (n : Int)] w (.tuple #[.string (timesR s n).1, .int .i64 (timesR s n).2]) := by
 unfold timesR
 by_cases h0 : s.size = 0
 ·have hl2 : s.toList = [] := List.eq_nil_of_length_eq_zero (by rw [toList_len]; exact h0)
  have hl : s.toList.isEmpty = true := by rw [hl2]; rfl
  simp only [if_pos h0]
  clear h0
  go_enter Tryz.func142, Tryz.ntmps142
  go_wp2
  go_ret2
  exact ⟨rfl, Below.refl _ _⟩
 ·simp only [if_neg h0]
  have hl2 : ¬ s.toList = [] := fun e => h0 (by rw [← toList_len, e]; rfl)
  have hl : s.toList.isEmpty = false := by simpa using hl2
  have td : (32767 : Int).tdiv (s.size : Int) = ((32767 / s.size : Nat) : Int) := by rw [Int.tdiv_eq_ediv_of_nonneg (by omega)]; rfl
  have tz : ((s.size : Int) == 0) = false := by rw [beq_eq_false_iff_ne]; omega
  by_cases h1 : 32767 < s.size * n
  ·simp only [if_pos h1]
   have hq : 32767 / s.size < n := (Nat.div_lt_iff_lt_mul (by omega)).2 (by rw [Nat.mul_comm]; exact h1)
   have hq2 : 32767 / s.size ≤ 32767 := Nat.div_le_self _ _
   generalize 32767 / s.size = q at *
   clear h1
   go_enter Tryz.func142, Tryz.ntmps142
   go_wp2
   go_ret2
   exact ⟨rfl, Below.refl _ _⟩
  ·simp only [if_neg h1]
   have hq : n ≤ 32767 / s.size := (Nat.le_div_iff_mul_le (by omega)).2 (by rw [Nat.mul_comm]; omega)
   have hq2 : 32767 / s.size ≤ 32767 := Nat.div_le_self _ _
   have HR := Lib.hid (fun w => Tryz.strings_Repeat s n w hn (by omega))
   generalize 32767 / s.size = q at *
   clear h1
   unfold rep
   go_enter Tryz.func142, Tryz.ntmps142
   go_wp2_with (fail)
   refine (HR.out _).mono ?_
   rintro e w1 ⟨rfl, hb1⟩
   go_wp2
   go_ret2
   exact ⟨rfl, hb1⟩
end Go.Proofs.YtpiiemneelkpkaaGreatDoor
namespace Go.Proofs.YtpiiemneelkpkaaGreatDoor
open Go.RowKit
set_option linter.unusedVariables false
theorem cell_drew (w : World) (a : Addr) : w.drew.cell? a = w.cell? a := by unfold World.drew; rfl
theorem frozen_drew (w : World) (a : Addr) : w.drew.frozen? a = w.frozen? a := by unfold World.drew; rfl
theorem addr_add0 (b j : Nat) : (⟨b, 0, none⟩ : Addr).add j = ⟨b, j, none⟩ := by
 unfold Addr.add
 by_cases h : j = 0
 ·subst h; rfl
 ·simp [h]
def upB (c : UInt8) : UInt8 := cond (decide (97 ≤ c.toNat) && decide (c.toNat ≤ 122)) (UInt8.ofNat (c.toNat - 32)) c
def lowB (c : UInt8) : UInt8 := cond (decide (65 ≤ c.toNat) && decide (c.toNat ≤ 90)) (UInt8.ofNat (c.toNat + 32)) c
def eachS (g : UInt8 → UInt8) (s : ByteArray) : ByteArray := ⟨(s.data.toList.map g).toArray⟩
theorem eachS_size (g : UInt8 → UInt8) (s : ByteArray) : (eachS g s).size = s.size := by
 unfold eachS; rw [Lib.size_eq, Lib.size_eq]; simp
def bv (g : UInt8 → UInt8) (s : ByteArray) (k j : Nat) : Nat := if j < k then (g (s.data.toList.getD j 0)).toNat else (s.data.toList.getD j 0).toNat
theorem bv_end (g : UInt8 → UInt8) (s : ByteArray) (j : Nat) (h : j < (s.data.toList.map g).length) : bv g s s.size j = ((s.data.toList.map g)[j]).toNat := by
 have hj : j < s.data.toList.length := by simpa using h
 have hj2 : j < s.size := by rw [Lib.size_eq]; exact hj
 unfold bv
 rw [if_pos hj2, List.getElem_map, List.getD_eq_getElem?_getD, List.getElem?_eq_getElem hj]
 rfl
theorem bv_here (g : UInt8 → UInt8) (s : ByteArray) (k : Nat) : bv g s k k = (s.data.toList.getD k 0).toNat := by unfold bv; rw [if_neg (by omega)]
theorem bv_next (g : UInt8 → UInt8) (s : ByteArray) (k : Nat) : bv g s (k + 1) k = (g (s.data.toList.getD k 0)).toNat := by unfold bv; rw [if_pos (by omega)]
theorem bv_other (g : UInt8 → UInt8) (s : ByteArray) (k j : Nat) (h : j ≠ k) : bv g s (k + 1) j = bv g s k j := by
 unfold bv
 by_cases h1 : j < k
 ·rw [if_pos h1, if_pos (by omega)]
 ·rw [if_neg h1, if_neg (by omega)]
theorem up1_any (c : UInt8) (w : World) : Calls Tryz.prog 179 #[.int .u8 (c.toNat : Int)] w fun e w' => e = .returned (.int .u8 ((upB c).toNat : Int)) ∧ w = w' := by
 have hc := UInt8.toNat_lt c
 unfold upB
 by_cases h1 : 97 ≤ c.toNat
 ·by_cases h2 : c.toNat ≤ 122
  ·have t1 : decide ((97 : Int) ≤ (c.toNat : Int)) = true := by simp; omega
   have t2 : decide ((c.toNat : Int) ≤ 122) = true := by simp; omega
   have e1 : IntKind.u8.wrap ((c.toNat : Int) - 32) = ((UInt8.ofNat (c.toNat - 32)).toNat : Int) := by
    rw [UInt8.toNat_ofNat']
    simp [IntKind.wrap, IntKind.bits, IntKind.signed]
    try omega
   rw [decide_eq_true h1, decide_eq_true h2]
   simp only [Bool.and_self, cond_true]
   generalize c.toNat = n at *
   generalize ((UInt8.ofNat (n - 32)).toNat : Int) = m at *
   go_enter Tryz.func179, Tryz.ntmps179
   go_wp2
   go_ret
   exact ⟨rfl, rfl⟩
  ·have t1 : decide ((97 : Int) ≤ (c.toNat : Int)) = true := by simp; omega
   have t2 : decide ((c.toNat : Int) ≤ 122) = false := by simp; omega
   rw [decide_eq_true h1, decide_eq_false h2]
   simp only [Bool.and_false, cond_false]
   generalize c.toNat = n at *
   clear h2
   go_enter Tryz.func179, Tryz.ntmps179
   go_wp2
   go_ret
   exact ⟨rfl, rfl⟩
 ·have t1 : decide ((97 : Int) ≤ (c.toNat : Int)) = false := by simp; omega
  rw [decide_eq_false h1]
  simp only [Bool.false_and, cond_false]
  generalize c.toNat = n at *
  clear h1
  go_enter Tryz.func179, Tryz.ntmps179
  go_wp2
  go_ret
  exact ⟨rfl, rfl⟩
set_option maxHeartbeats 1000000 in
theorem up_each (s : ByteArray) (w : World) (hs : s.size ≤ 140737488351232) : Ret 178 #[.string s, .func (.func 179) #[] #[]] w (.string (eachS upB s)) := by
 have hcv := fun (w : World) => run_bytes_of_string (P := Tryz.prog) w 9 133 5 s Tryz.underlying9 Tryz.underlying133 Tryz.underlying5
 have H1 := Lib.hid (fun c w => up1_any c w)
 have hsz : (s.data.toList.map upB).length = s.size := by rw [List.length_map, Lib.size_eq]
 have HS := Lib.hid hsz
 clear hsz
 go_enter Tryz.func178, Tryz.ntmps178
 go_wp2
 clear hcv
 have hc0 : ∀ j, j < s.size → ((w.alloc (Obj.cells (bytesRow s (grownCap w s.size 0 5)) 5 ((bytesRow s (grownCap w s.size 0 5)).size, (bytesRow s (grownCap w s.size 0 5)).size + 1))).drew).cell? ⟨w.heap.size, j, none⟩ = some (.int .u8 (bv upB s 0 j : Int)) := by
  intro j hj
  rw [cell_drew, World.cell?_alloc_mark, bytesRow_at s _ j hj]
  unfold bv
  rw [if_neg (by omega), List.getD_eq_getElem?_getD, List.getElem?_eq_getElem (by simpa using hj)]
  rfl
 have hf0 : ∀ j, j < s.size → ((w.alloc (Obj.cells (bytesRow s (grownCap w s.size 0 5)) 5 ((bytesRow s (grownCap w s.size 0 5)).size, (bytesRow s (grownCap w s.size 0 5)).size + 1))).drew).frozen? ⟨w.heap.size, j, none⟩ = false := by
  intro j hj
  rw [frozen_drew, World.frozen?_alloc_mark]
  have hsz : s.size ≤ (bytesRow s (grownCap w s.size 0 5)).size := by unfold bytesRow; simp
  rw [decide_eq_false (by omega)]; rfl
 have hb0 : Below w.heap.size w ((w.alloc (Obj.cells (bytesRow s (grownCap w s.size 0 5)) 5 ((bytesRow s (grownCap w s.size 0 5)).size, (bytesRow s (grownCap w s.size 0 5)).size + 1))).drew) := ((Below.refl _ w).alloc (Nat.le_refl _) _).drew
 generalize (w.alloc (Obj.cells (bytesRow s (grownCap w s.size 0 5)) 5 ((bytesRow s (grownCap w s.size 0 5)).size, (bytesRow s (grownCap w s.size 0 5)).size + 1))).drew = W0 at *
 generalize grownCap w s.size 0 5 = cap at *
 have HC0 := Lib.hid hc0
 have HF0 := Lib.hid hf0
 clear hc0 hf0
 go_loopw [11] (fun i wr => ∃ k : Nat, k ≤ s.size ∧ i = .int .i64 (k : Int) ∧ Hid (∀ j, j < s.size → wr.cell? ⟨w.heap.size, j, none⟩ = some (.int .u8 (bv upB s k j : Int))) ∧ Hid (∀ j, j < s.size → wr.frozen? ⟨w.heap.size, j, none⟩ = false) ∧ Below w.heap.size w wr) (fun i _ => s.size - (intOf i).toNat)
 case atStart => exact ⟨0, Nat.zero_le _, rfl, HC0, HF0, hb0⟩
 case round =>
  obtain ⟨k, hk, rfl, HC, HF, hb⟩ := hrel
  by_cases hlt : k < s.size
  ·have hc := HC.out k hlt
   have hf := HF.out k hlt
   rw [bv_here] at hc
   have HN := Lib.hid (bv_next upB s k)
   generalize s.data.toList.getD k 0 = c at *
   go_wp2_with (fail)
   refine (H1.out _ _).mono ?_
   rintro e w' ⟨rfl, rfl⟩
   go_wp2
   go_roundw
   case rel =>
    refine ⟨k + 1, by omega, by go_num, Lib.hid fun j hj => ?_, Lib.hid fun j hj => ?_, hb.setCell (p := ⟨w.heap.size, k, none⟩) (Nat.le_refl _) _⟩
    ·by_cases e : j = k
     ·subst e
      rw [HN.out]
      exact World.cell?_setCell_same' _ _ _ (by rw [hc]; rfl)
     ·rw [bv_other _ _ _ _ e]
      exact (World.cell?_setCell_other _ _ _ _ (by intro e2; apply e; have := congrArg Addr.off e2; simpa using this.symm)).trans (HC.out j hj)
    ·rw [World.frozen?_setCell]; exact HF.out j hj
   case measure => simp [intOf]; omega
  ·obtain rfl : k = s.size := by omega
   have hcv := run_convert_bytes_back (P := Tryz.prog) wr 133 9 5 ⟨w.heap.size, 0, none⟩ cap (s.data.toList.map upB) Tryz.underlying133 Tryz.underlying5 Tryz.underlying9 (fun j hj => by
    have h2 : j < s.size := by rw [HS.out] at hj; exact hj
    have := HC.out j h2
    rw [bv_end _ _ j hj] at this
    rw [addr_add0]; exact this)
   rw [HS.out] at hcv
   go_wp2
   go_ret
   exact ⟨rfl, hb⟩
theorem low1_any (c : UInt8) (w : World) : Calls Tryz.prog 180 #[.int .u8 (c.toNat : Int)] w fun e w' => e = .returned (.int .u8 ((lowB c).toNat : Int)) ∧ w = w' := by
 have hc := UInt8.toNat_lt c
 unfold lowB
 by_cases h1 : 65 ≤ c.toNat
 ·by_cases h2 : c.toNat ≤ 90
  ·have t1 : decide ((65 : Int) ≤ (c.toNat : Int)) = true := by simp; omega
   have t2 : decide ((c.toNat : Int) ≤ 90) = true := by simp; omega
   have e1 : IntKind.u8.wrap ((c.toNat : Int) + 32) = ((UInt8.ofNat (c.toNat + 32)).toNat : Int) := by
    rw [UInt8.toNat_ofNat']
    simp [IntKind.wrap, IntKind.bits, IntKind.signed]
    try omega
   rw [decide_eq_true h1, decide_eq_true h2]
   simp only [Bool.and_self, cond_true]
   generalize c.toNat = n at *
   generalize ((UInt8.ofNat (n + 32)).toNat : Int) = m at *
   go_enter Tryz.func180, Tryz.ntmps180
   go_wp2
   go_ret
   exact ⟨rfl, rfl⟩
  ·have t1 : decide ((65 : Int) ≤ (c.toNat : Int)) = true := by simp; omega
   have t2 : decide ((c.toNat : Int) ≤ 90) = false := by simp; omega
   rw [decide_eq_true h1, decide_eq_false h2]
   simp only [Bool.and_false, cond_false]
   generalize c.toNat = n at *
   clear h2
   go_enter Tryz.func180, Tryz.ntmps180
   go_wp2
   go_ret
   exact ⟨rfl, rfl⟩
 ·have t1 : decide ((65 : Int) ≤ (c.toNat : Int)) = false := by simp; omega
  rw [decide_eq_false h1]
  simp only [Bool.false_and, cond_false]
  generalize c.toNat = n at *
  clear h1
  go_enter Tryz.func180, Tryz.ntmps180
  go_wp2
  go_ret
  exact ⟨rfl, rfl⟩
set_option maxHeartbeats 1000000 in
theorem low_each (s : ByteArray) (w : World) (hs : s.size ≤ 140737488351232) : Ret 178 #[.string s, .func (.func 180) #[] #[]] w (.string (eachS lowB s)) := by
 have hcv := fun (w : World) => run_bytes_of_string (P := Tryz.prog) w 9 133 5 s Tryz.underlying9 Tryz.underlying133 Tryz.underlying5
 have H1 := Lib.hid (fun c w => low1_any c w)
 have hsz : (s.data.toList.map lowB).length = s.size := by rw [List.length_map, Lib.size_eq]
 have HS := Lib.hid hsz
 clear hsz
 go_enter Tryz.func178, Tryz.ntmps178
 go_wp2
 clear hcv
 have hc0 : ∀ j, j < s.size → ((w.alloc (Obj.cells (bytesRow s (grownCap w s.size 0 5)) 5 ((bytesRow s (grownCap w s.size 0 5)).size, (bytesRow s (grownCap w s.size 0 5)).size + 1))).drew).cell? ⟨w.heap.size, j, none⟩ = some (.int .u8 (bv lowB s 0 j : Int)) := by
  intro j hj
  rw [cell_drew, World.cell?_alloc_mark, bytesRow_at s _ j hj]
  unfold bv
  rw [if_neg (by omega), List.getD_eq_getElem?_getD, List.getElem?_eq_getElem (by simpa using hj)]
  rfl
 have hf0 : ∀ j, j < s.size → ((w.alloc (Obj.cells (bytesRow s (grownCap w s.size 0 5)) 5 ((bytesRow s (grownCap w s.size 0 5)).size, (bytesRow s (grownCap w s.size 0 5)).size + 1))).drew).frozen? ⟨w.heap.size, j, none⟩ = false := by
  intro j hj
  rw [frozen_drew, World.frozen?_alloc_mark]
  have hsz : s.size ≤ (bytesRow s (grownCap w s.size 0 5)).size := by unfold bytesRow; simp
  rw [decide_eq_false (by omega)]; rfl
 have hb0 : Below w.heap.size w ((w.alloc (Obj.cells (bytesRow s (grownCap w s.size 0 5)) 5 ((bytesRow s (grownCap w s.size 0 5)).size, (bytesRow s (grownCap w s.size 0 5)).size + 1))).drew) := ((Below.refl _ w).alloc (Nat.le_refl _) _).drew
 generalize (w.alloc (Obj.cells (bytesRow s (grownCap w s.size 0 5)) 5 ((bytesRow s (grownCap w s.size 0 5)).size, (bytesRow s (grownCap w s.size 0 5)).size + 1))).drew = W0 at *
 generalize grownCap w s.size 0 5 = cap at *
 have HC0 := Lib.hid hc0
 have HF0 := Lib.hid hf0
 clear hc0 hf0
 go_loopw [11] (fun i wr => ∃ k : Nat, k ≤ s.size ∧ i = .int .i64 (k : Int) ∧ Hid (∀ j, j < s.size → wr.cell? ⟨w.heap.size, j, none⟩ = some (.int .u8 (bv lowB s k j : Int))) ∧ Hid (∀ j, j < s.size → wr.frozen? ⟨w.heap.size, j, none⟩ = false) ∧ Below w.heap.size w wr) (fun i _ => s.size - (intOf i).toNat)
 case atStart => exact ⟨0, Nat.zero_le _, rfl, HC0, HF0, hb0⟩
 case round =>
  obtain ⟨k, hk, rfl, HC, HF, hb⟩ := hrel
  by_cases hlt : k < s.size
  ·have hc := HC.out k hlt
   have hf := HF.out k hlt
   rw [bv_here] at hc
   have HN := Lib.hid (bv_next lowB s k)
   generalize s.data.toList.getD k 0 = c at *
   go_wp2_with (fail)
   refine (H1.out _ _).mono ?_
   rintro e w' ⟨rfl, rfl⟩
   go_wp2
   go_roundw
   case rel =>
    refine ⟨k + 1, by omega, by go_num, Lib.hid fun j hj => ?_, Lib.hid fun j hj => ?_, hb.setCell (p := ⟨w.heap.size, k, none⟩) (Nat.le_refl _) _⟩
    ·by_cases e : j = k
     ·subst e
      rw [HN.out]
      exact World.cell?_setCell_same' _ _ _ (by rw [hc]; rfl)
     ·rw [bv_other _ _ _ _ e]
      exact (World.cell?_setCell_other _ _ _ _ (by intro e2; apply e; have := congrArg Addr.off e2; simpa using this.symm)).trans (HC.out j hj)
    ·rw [World.frozen?_setCell]; exact HF.out j hj
   case measure => simp [intOf]; omega
  ·obtain rfl : k = s.size := by omega
   have hcv := run_convert_bytes_back (P := Tryz.prog) wr 133 9 5 ⟨w.heap.size, 0, none⟩ cap (s.data.toList.map lowB) Tryz.underlying133 Tryz.underlying5 Tryz.underlying9 (fun j hj => by
    have h2 : j < s.size := by rw [HS.out] at hj; exact hj
    have := HC.out j h2
    rw [bv_end _ _ j hj] at this
    rw [addr_add0]; exact this)
   rw [HS.out] at hcv
   go_wp2
   go_ret
   exact ⟨rfl, hb⟩
end Go.Proofs.YtpiiemneelkpkaaGreatDoor
namespace Go.Proofs.YtpiiemneelkpkaaGreatDoor
open Go.RowKit
set_option linter.unusedVariables false
theorem upper_any (s : ByteArray) (w : World) (hs : s.size ≤ 140737488351232) : Ret 132 #[.string s] w (.string (eachS upB s)) := by
 have H := Lib.hid (fun w => up_each s w hs)
 go_enter Tryz.func132, Tryz.ntmps132
 go_wp2_with (fail)
 refine (H.out _).mono ?_
 rintro e w1 ⟨rfl, hb⟩
 go_wp2
 go_ret
 exact ⟨rfl, hb⟩
theorem lower_any (s : ByteArray) (w : World) (hs : s.size ≤ 140737488351232) : Ret 133 #[.string s] w (.string (eachS lowB s)) := by
 have H := Lib.hid (fun w => low_each s w hs)
 go_enter Tryz.func133, Tryz.ntmps133
 go_wp2_with (fail)
 refine (H.out _).mono ?_
 rintro e w1 ⟨rfl, hb⟩
 go_wp2
 go_ret
 exact ⟨rfl, hb⟩
def trimS (s : ByteArray) : ByteArray := ⟨(Tr.trimL s.data.toList).toArray⟩
theorem blank_of (c : UInt8) (h : (c.toNat : Int) = 32) : c = 32 := UInt8.toNat_inj.1 (by rw [show c.toNat = 32 by omega]; rfl)
set_option maxHeartbeats 1000000 in
theorem trim_any (s : ByteArray) (w : World) (hs : s.size ≤ 140737488351232) : Ret 134 #[.string s] w (.string (trimS s)) := by
 have H1 := Lib.hid (fun w => Tryz.strings_Trim_one s 32 (by decide) w (by omega))
 have HE : Hid (∀ l, l = Tr.trimL s.data.toList → (⟨l.toArray⟩ : ByteArray) = trimS s) := Lib.hid (fun l h => by rw [h]; rfl)
 have hul : (Lib.trimB s.data.toList 32).length ≤ s.size := by have := Tr.trimB_length s.data.toList; rw [Lib.size_eq]; exact this
 have HF := Lib.hid (Tr.trimB_first s.data.toList)
 have HEnd := Lib.hid (Tr.sqk_end s.data.toList)
 obtain ⟨u, hu⟩ : ∃ u : ByteArray, u = ⟨(Lib.trimB s.data.toList 32).toArray⟩ := ⟨_, rfl⟩
 have hud : Lib.trimB s.data.toList 32 = u.data.toList := by rw [hu]
 rw [← hu] at H1
 rw [hud] at hul HF HEnd
 have hus : u.size ≤ 140737488351232 := by rw [Lib.size_eq]; omega
 have HUL : Hid (u.data.toList.length = u.size) := Lib.hid (Lib.size_eq u).symm
 clear hu hud hul
 go_enter Tryz.func134, Tryz.ntmps134
 go_wp2_with (fail)
 refine (H1.out _).mono ?_
 rintro e w1 ⟨rfl, hw1⟩
 have hb1 : Below w.heap.size w w1 := by
  rcases hw1 with rfl | rfl
  ·exact Below.refl _ _
  ·exact (Below.refl _ _).drew
 clear hw1
 go_wp2
 have hB0 := Lib.fresh_isBuilder 144 5 w1
 have hb2 : Below w.heap.size w (w1.alloc (.cells #[.pointer none, .slice none 0 0] 144)) := hb1.alloc hb1.size _
 have hz2 : w1.heap.size < (w1.alloc (.cells #[.pointer none, .slice none 0 0] 144)).heap.size := by simp
 generalize w1.alloc (.cells #[.pointer none, .slice none 0 0] 144) = W0 at *
 go_loopw [9] (fun i wr => ∃ k : Nat, k ≤ u.size ∧ i = .int .i64 (k : Int) ∧ Hid (Lib.IsBuilder 144 5 w1.heap.size w1.heap.size (Lib.byteCells (Tr.sqk u.data.toList k)) wr) ∧ Below w.heap.size w wr ∧ w1.heap.size ≤ wr.heap.size) (fun i _ => u.size - (intOf i).toNat)
 case atStart => exact ⟨0, Nat.zero_le _, rfl, Lib.hid hB0, hb2, by omega⟩
 case round =>
  obtain ⟨k, hk, rfl, HB, hb, hz⟩ := hrel
  by_cases hlt : k < u.size
  ·by_cases hc : u[k] = 32
   ·obtain ⟨m, rfl⟩ : ∃ m, k = m + 1 := by
     refine ⟨k - 1, ?_⟩
     rcases Nat.eq_zero_or_pos k with e | e
     ·exfalso; subst e
      exact HF.out (by rw [HUL.out]; exact hlt) hc
     ·omega
    by_cases hd : u[m] = 32
    ·have HS : Hid (Tr.sqk u.data.toList (m + 1 + 1) = Tr.sqk u.data.toList (m + 1)) := Lib.hid (Tr.sqk_skip _ m (by rw [HUL.out]; omega) hd hc)
     have t1 : ((u[m + 1].toNat : Int) != 32) = false := by rw [hc]; rfl
     have t2 : ((u[m].toNat : Int) != 32) = false := by rw [hd]; rfl
     clear hc hd
     go_wp2
     go_roundw
     case rel => exact ⟨m + 1 + 1, by omega, by go_num, Lib.hid (by rw [HS.out]; exact HB.out), hb, hz⟩
     case measure => simp [intOf]; omega
    ·have HS : Hid (Tr.sqk u.data.toList (m + 1 + 1) = Tr.sqk u.data.toList (m + 1) ++ [u.data.toList[m + 1]'(by rw [HUL.out]; omega)]) := Lib.hid (Tr.sqk_first _ m (by rw [HUL.out]; omega) hd)
     have t1 : ((u[m + 1].toNat : Int) != 32) = false := by rw [hc]; rfl
     have t2 : ((u[m].toNat : Int) != 32) = true := by rw [bne_iff_ne]; intro e; exact hd (blank_of _ e)
     clear hc hd
     have hlen := Tr.sqk_length u.data.toList (m + 1)
     have HW := Lib.hid (fun w hB hl hz => writeByte_any w1.heap.size w1.heap.size (Lib.byteCells (Tr.sqk u.data.toList (m + 1))) (u[m + 1].toNat : Int) w hB hl hz)
     have HL : Hid ((Lib.byteCells (Tr.sqk u.data.toList (m + 1))).length + 1 ≤ 140737488355328) := Lib.hid (by rw [Lib.byteCells_length]; omega)
     have HS2 : Hid (Lib.byteCells (Tr.sqk u.data.toList (m + 1)) ++ [.int .u8 (u[m + 1].toNat : Int)] = Lib.byteCells (Tr.sqk u.data.toList (m + 1 + 1))) := Lib.hid (by rw [HS.out]; simp [Lib.byteCells]; rfl)
     clear hlen
     go_wp2_with (fail)
     refine (HW.out _ HB.out HL.out hz).mono ?_
     rintro e w2 ⟨rfl, hB2, hb3⟩
     rw [HS2.out] at hB2
     have HB2 := Lib.hid hB2
     clear hB2
     have hz2 := hb3.size
     have hb4 := hb.trans (hb3.mono (by have := hb1.size; omega))
     clear hb3
     go_wp2
     go_roundw
     case rel => exact ⟨m + 1 + 1, by omega, by go_num, Lib.hid (.inr HB2.out), hb4, by omega⟩
     case measure => simp [intOf]; omega
   ·have HS : Hid (Tr.sqk u.data.toList (k + 1) = Tr.sqk u.data.toList k ++ [u.data.toList[k]'(by rw [HUL.out]; omega)]) := Lib.hid (Tr.sqk_keep _ k (by rw [HUL.out]; omega) hc)
    have t1 : ((u[k].toNat : Int) != 32) = true := by rw [bne_iff_ne]; intro e; exact hc (blank_of _ e)
    clear hc
    have hlen := Tr.sqk_length u.data.toList (k)
    have HW := Lib.hid (fun w hB hl hz => writeByte_any w1.heap.size w1.heap.size (Lib.byteCells (Tr.sqk u.data.toList (k))) (u[k].toNat : Int) w hB hl hz)
    have HL : Hid ((Lib.byteCells (Tr.sqk u.data.toList (k))).length + 1 ≤ 140737488355328) := Lib.hid (by rw [Lib.byteCells_length]; omega)
    have HS2 : Hid (Lib.byteCells (Tr.sqk u.data.toList (k)) ++ [.int .u8 (u[k].toNat : Int)] = Lib.byteCells (Tr.sqk u.data.toList (k + 1))) := Lib.hid (by rw [HS.out]; simp [Lib.byteCells]; rfl)
    clear hlen
    go_wp2_with (fail)
    refine (HW.out _ HB.out HL.out hz).mono ?_
    rintro e w2 ⟨rfl, hB2, hb3⟩
    rw [HS2.out] at hB2
    have HB2 := Lib.hid hB2
    clear hB2
    have hz2 := hb3.size
    have hb4 := hb.trans (hb3.mono (by have := hb1.size; omega))
    clear hb3
    go_wp2
    go_roundw
    case rel => exact ⟨k + 1, by omega, by go_num, Lib.hid (.inr HB2.out), hb4, by omega⟩
    case measure => simp [intOf]; omega
  ·obtain rfl : k = u.size := by omega
   have hs2 := HB.out
   rw [← HUL.out, HEnd.out] at hs2
   have H2 := Lib.hid (fun w hB hB2 => Tryz.Builder_String_any w1.heap.size w1.heap.size (Tr.trimL s.data.toList) w hB hB2)
   go_wp2_with (fail)
   refine (H2.out _ hs2 (by omega)).mono ?_
   rintro e w2 ⟨rfl, hb3⟩
   rw [HE.out _ rfl]
   go_wp2
   go_ret
   exact ⟨rfl, hb.trans (hb3.mono (by have := hb1.size; omega))⟩
end Go.Proofs.YtpiiemneelkpkaaGreatDoor
