/- quadrillelaw14.CalcTexts for every two texts and every number. -/
import Derived.Test.YtpiiemneelkpkaaGreatDoorCalTx
import Derived.Test.YtpiiemneelkpkaaGreatDoorCalTxP
namespace Go.Proofs.YtpiiemneelkpkaaGreatDoor
open Go.RowKit
set_option linter.unusedVariables false
theorem texts14 (s : ByteArray) (n : Int) (wi : ByteArray) (w : World) (hs : s.size ≤ 140737488351232) (hn : I64 n) (hw : wi.size ≤ 140737488351232) (hN : NumW w) (hT : TxtW w) :
    Calls Tryz.prog 6 #[.string s, .int .i64 n, .string wi] w fun e w' => e = .returned (.bool true) ∧ Below w.heap.size w w' := by
  have hbeg : Hid (∀ v, Below w.heap.size w v → Calls Tryz.prog 8 #[] v fun e w' => e = .returned (.bool true) ∧ Below v.heap.size v w') := Lib.hid fun v h => begun14 v (hN.below h) (hT.below rfl h)
  by_cases k1 : 10000 < s.size
  · exact texts_out0 s wi n w (decide_eq_true (by omega)) (decide_eq_true k1) hbeg
  by_cases k2 : 10000 < wi.size
  · exact texts_out1 s wi n w (decide_eq_false (by omega)) (decide_eq_false k1) (decide_eq_true (by omega)) (decide_eq_true k2) hbeg
  by_cases k3 : n < 0
  · exact texts_out2 s wi n w (decide_eq_false (by omega)) (decide_eq_false k1) (decide_eq_false (by omega)) (decide_eq_false k2) (decide_eq_true k3) hbeg
  by_cases k4 : 20000 < n
  · exact texts_out3 s wi n w (decide_eq_false (by omega)) (decide_eq_false k1) (decide_eq_false (by omega)) (decide_eq_false k2) (decide_eq_false k3) (decide_eq_true k4) hbeg
  obtain ⟨N, rfl⟩ := Int.eq_ofNat_of_zero_le (show 0 ≤ n by omega)
  have hcl := Run.cnt_le_size s
  obtain ⟨M, hM⟩ : ∃ M : Nat, M = min N (Run.cnt s 0) := ⟨_, rfl⟩
  have hMc : M ≤ Run.cnt s 0 := by omega
  have e0 : (⟨#[]⟩ : ByteArray).size = 0 := rfl
  have vt : ∀ t : ByteArray, t.size ≤ 100000 → VB (Cal.txt t) := fun t h => ⟨(by decide : (-9223372036854775808 : Int) ≤ 0), (by decide : (0 : Int) ≤ 9223372036854775807), (show t.size ≤ 140737488351232 by omega)⟩
  have vn : ∀ k : Int, -9223372036854775808 ≤ k → k ≤ 9223372036854775807 → VB (Cal.num k) := fun k h1 h2 => ⟨h1, h2, (by decide : (⟨#[]⟩ : ByteArray).size ≤ 140737488351232)⟩
  have hp1 := Cal.fore_size s M
  have hp2 := Cal.aft_size s M
  have hi1 : ∀ (f : Int) (x r : Val.V), VB x → Cal.callM f 1 (Cal.arg [x]) = (r, 0) → Hid (∀ v k, Below w.heap.size w v → v.heap[k]? = some (.cells (Cal.argC [x]).toArray 26 (0, 0)) → Calls Tryz.prog 11 #[.int .i64 f, .slice (some ⟨k, 0, none⟩) 1 1] v fun e w' => e = .returned (vv r) ∧ Below v.heap.size v w') :=
    fun f x r h1 hr => Lib.hid fun v k hv hk => is_at f [x] r hr (fun j hj => by match j, hj with | 0, _ => exact h1) w v k hk hv hN hT
  have hi2 : ∀ (f : Int) (x y r : Val.V), VB x → VB y → Cal.callM f 2 (Cal.arg [x, y]) = (r, 0) → Hid (∀ v k, Below w.heap.size w v → v.heap[k]? = some (.cells (Cal.argC [x, y]).toArray 26 (0, 0)) → Calls Tryz.prog 11 #[.int .i64 f, .slice (some ⟨k, 0, none⟩) 2 2] v fun e w' => e = .returned (vv r) ∧ Below v.heap.size v w') :=
    fun f x y r h1 h2 hr => Lib.hid fun v k hv hk => is_at f [x, y] r hr (fun j hj => by match j, hj with | 0, _ => exact h1 | 1, _ => exact h2) w v k hk hv hN hT
  have hi3 : ∀ (f : Int) (x y z r : Val.V), VB x → VB y → VB z → Cal.callM f 3 (Cal.arg [x, y, z]) = (r, 0) → Hid (∀ v k, Below w.heap.size w v → v.heap[k]? = some (.cells (Cal.argC [x, y, z]).toArray 26 (0, 0)) → Calls Tryz.prog 11 #[.int .i64 f, .slice (some ⟨k, 0, none⟩) 3 3] v fun e w' => e = .returned (vv r) ∧ Below v.heap.size v w') :=
    fun f x y z r h1 h2 h3 hr => Lib.hid fun v k hv hk => is_at f [x, y, z] r hr (fun j hj => by match j, hj with | 0, _ => exact h1 | 1, _ => exact h2 | 2, _ => exact h3) w v k hk hv hN hT
  have hi4 : ∀ (f : Int) (x y z u r : Val.V), VB x → VB y → VB z → VB u → Cal.callM f 4 (Cal.arg [x, y, z, u]) = (r, 0) → Hid (∀ v k, Below w.heap.size w v → v.heap[k]? = some (.cells (Cal.argC [x, y, z, u]).toArray 26 (0, 0)) → Calls Tryz.prog 11 #[.int .i64 f, .slice (some ⟨k, 0, none⟩) 4 4] v fun e w' => e = .returned (vv r) ∧ Below v.heap.size v w') :=
    fun f x y z u r h1 h2 h3 h4 hr => Lib.hid fun v k hv hk => is_at f [x, y, z, u] r hr (fun j hj => by match j, hj with | 0, _ => exact h1 | 1, _ => exact h2 | 2, _ => exact h3 | 3, _ => exact h4) w v k hk hv hN hT
  have hs1 : s.size ≤ 10000 := by omega
  have hw1 : wi.size ≤ 10000 := by omega
  have es : ∀ g, (eachS g s).size ≤ 10000 := fun g => by rw [eachS_size]; exact hs1
  obtain ⟨i, hi, hfind⟩ := Cal.t_find s M hMc hs1
  have H16 := hi1 16 _ _ (vt s (by omega)) (Cal.t_len s hs1)
  have H17 := hi2 17 _ _ _ (vt s (by omega)) (vn (M : Int) (by omega) (by omega)) (Cal.t_left s M hs1)
  have H18 := hi2 18 _ _ _ (vt s (by omega)) (vn ((Run.cnt s 0 : Int) - (M : Int)) (by omega) (by omega)) (Cal.t_right s M hMc hs1)
  have H19a := hi3 19 _ _ _ _ (vt s (by omega)) (vn 1 (by omega) (by omega)) (vn (M : Int) (by omega) (by omega)) (Cal.t_mid1 s M hs1)
  have H19b := hi3 19 _ _ _ _ (vt s (by omega)) (vn ((M : Int) + 1) (by omega) (by omega)) (vn (Run.cnt s 0 : Int) (by omega) (by omega)) (Cal.t_mid2 s M hs1)
  have H26a := hi4 26 _ _ _ _ _ (vt s (by omega)) (vn ((M : Int) + 1) (by omega) (by omega)) (vn 0 (by omega) (by omega)) (vt wi (by omega)) (Cal.t_rep1 s wi M hs1 hw1)
  have H26b := hi4 26 _ _ _ _ _ (vt s (by omega)) (vn 1 (by omega) (by omega)) (vn (M : Int) (by omega) (by omega)) (vt wi (by omega)) (Cal.t_rep2 s wi M hs1 hw1)
  have H21 := hi1 21 _ _ (vt s (by omega)) (Cal.t_low s hs1)
  have H20a := hi1 20 _ _ (vt _ (Nat.le_trans (es lowB) (by decide))) ((Cal.t_up (eachS lowB s) (es lowB)).trans (by rw [Cal.up_low]))
  have H20b := hi1 20 _ _ (vt s (by omega)) (Cal.t_up s hs1)
  have H24 := hi2 24 _ _ _ (vt _ (by omega)) (vt s (by omega)) hfind
  have HJ : Hid (∀ v, Below w.heap.size w v → Calls Tryz.prog 13 #[.int .i64 6, vv (Cal.txt (Cal.fore s M)), vv (Cal.txt (Cal.aft s M))] v fun e w' => e = .returned (vv (Cal.txt s)) ∧ Below v.heap.size v w') := Lib.hid fun v h => by
    have := bin_any 6 (Cal.txt (Cal.fore s M)) (Cal.txt (Cal.aft s M)) v (vt _ (by omega)) (vt _ (by omega)) (hN.below h)
    rw [Cal.t_join s M hs1] at this
    exact this
  have hab := Cal.fore_aft s M
  have hmin : min (N : Int) (Run.cnt s 0 : Int) = (M : Int) := by omega
  have e1 : IntKind.i64.wrap ((Run.cnt s 0 : Int) - (M : Int)) = (Run.cnt s 0 : Int) - (M : Int) := by rw [IntKind.wrap_i64]; omega
  have e2 : IntKind.i64.wrap ((M : Int) + 1) = (M : Int) + 1 := by rw [IntKind.wrap_i64]; omega
  obtain ⟨R8, hR8⟩ : ∃ R8 : Nat, R8 = N % 8 := ⟨_, rfl⟩
  have e3 : ((N : Nat) : Int).tmod 8 = (R8 : Int) := by rw [Int.tmod_eq_emod_of_nonneg (by omega)]; omega
  have hmul : s.size * R8 ≤ 10000 * 7 := Nat.mul_le_mul (by omega) (by omega)
  obtain ⟨PZ, hPZ⟩ : ∃ PZ : Nat, PZ = s.size * R8 := ⟨_, rfl⟩
  have e4 : IntKind.i64.wrap ((s.size : Int) * (R8 : Int)) = (PZ : Int) := by
    have : (s.size : Int) * (R8 : Int) = (PZ : Int) := by rw [hPZ]; exact (Int.natCast_mul _ _).symm
    rw [this, IntKind.wrap_i64]; omega
  have ht := Cal.t_times s R8 hs1
  have hsz : s.size = (Cal.fore s M).size + (Cal.aft s M).size := by
    have := congrArg ByteArray.size hab
    rw [ByteArray.size_append] at this
    exact this.symm
  have d1 : decide ((10000 : Int) < (s.size : Int)) = false := decide_eq_false (by omega)
  have d2 : decide ((10000 : Int) < (wi.size : Int)) = false := decide_eq_false (by omega)
  have d5 : decide ((Run.cnt s 0 : Int) < 0) = false := decide_eq_false (by omega)
  have d6 : decide ((s.size : Int) < (Run.cnt s 0 : Int)) = false := decide_eq_false (by omega)
  have f1 : decide ((M : Int) + 1 < (i : Int) + 1) = false := decide_eq_false (by omega)
  have f2 : decide ((i : Int) + 1 < 1) = false := decide_eq_false (by omega)
  have HSO : Hid (∀ v, Calls Tryz.prog 21 #[.string s] v fun e w' => e = .returned (.bool (Tu.soundB s)) ∧ Below v.heap.size v w') := Lib.hid fun v => sound_any s _ rfl v hs
  have H23a := hi1 23 _ _ (vt s (by omega)) (Cal.t_turn s hs1)
  have hts : (turned s).size ≤ 10000 := by rw [turned_size]; exact hs1
  have H23b : Hid (Tu.soundB s = true → _) := Lib.hid fun hz => (hi1 23 _ _ (vt _ (Nat.le_trans hts (by decide))) ((Cal.t_turn (turned s) hts).trans (by rw [Tu.sound_turned (Tu.soundB_true hz)]))).out
  obtain ⟨r, hr, ho⟩ : ∃ r : Val.V, Cal.callM 27 2 (Cal.arg [Cal.txt s, Cal.num (R8 : Int)]) = (r, 0) ∧ ((decide ((32767 : Int) < (PZ : Int)) = true ∧ r.k = 4 ∧ r.n = 4 ∧ r.t = ⟨#[]⟩) ∨ (decide ((32767 : Int) < (PZ : Int)) = false ∧ r.k = 3 ∧ ((r.t.size : Int) == (PZ : Int)) = true)) := by
    rcases ht with ⟨ho, hr⟩ | ⟨ho, t, htz, hr⟩
    · exact ⟨_, hr, .inl ⟨decide_eq_true (by omega), rfl, rfl, rfl⟩⟩
    · exact ⟨_, hr, .inr ⟨decide_eq_false (by omega), rfl, (by rw [beq_iff_eq]; show (t.size : Int) = _; omega)⟩⟩
  obtain ⟨rk, rn, rt⟩ := r
  exact texts_all s wi (Cal.fore s M) (Cal.aft s M) _ _ (turned s) _ _ rt (N : Int) (M : Int) (Run.cnt s 0 : Int) _ _ _ _ (PZ : Int) rk rn (Tu.soundB s) w d1 d2 (decide_eq_false k1) (decide_eq_false k2) (decide_eq_false k3) (decide_eq_false k4) d5 d6 hmin e1 e2 (by omega) (by omega) (by omega) (by omega) hab rfl rfl f1 f2 e3 e4 (Lib.hid ho) hbeg HSO HJ H17 H18 H19a H19b H26a H26b (Lib.hid fun _ => H23a.out) H23b H21 H20a H20b H24 (hi2 27 _ _ _ (vt s (by omega)) (vn (R8 : Int) (by omega) (by omega)) hr) H16
end Go.Proofs.YtpiiemneelkpkaaGreatDoor
