/- quadrillelaw14.CalcOrder for every two values. -/
import Derived.Test.YtpiiemneelkpkaaGreatDoorCalOr
import Derived.Test.YtpiiemneelkpkaaGreatDoorGvr
namespace Go.Proofs.YtpiiemneelkpkaaGreatDoor
open Go.RowKit
set_option linter.unusedVariables false
theorem bin_left (op : Int) (x y : Val.V) (h1 : 1 ≤ op) (h2 : op ≤ 12) (h : ((Val.good x).k == 4) = true) : Cal.bin op x y = Val.good x := by
  unfold Cal.bin
  rw [if_neg (by omega), h]
  rfl
theorem bin_right (op : Int) (x y : Val.V) (h1 : 1 ≤ op) (h2 : op ≤ 12) (h : ((Val.good x).k == 4) = false) (h' : ((Val.good y).k == 4) = true) : Cal.bin op x y = Val.good y := by
  unfold Cal.bin
  rw [if_neg (by omega), h, h']
  rfl
theorem bin_cmp (op : Int) (x y : Val.V) (h1 : 7 ≤ op) (h2 : op ≤ 12) (h : ((Val.good x).k == 4) = false) (h' : ((Val.good y).k == 4) = false) : Cal.bin op x y = Cal.tru (Cal.related op (Val.cmpG (Val.good x) (Val.good y))) := by
  unfold Cal.bin
  rw [if_neg (by omega), h, h']
  show Cal.two op (Val.good x) (Val.good y) = _
  unfold Cal.two
  rw [show (op == 6) = false by rw [beq_eq_false_iff_ne]; omega, show decide (7 ≤ op) = true from decide_eq_true h1, good_good, good_good]
  rfl
theorem good_bad {v : Val.V} (h : Val.mayB v = false) : Val.good v = ⟨4, 4, ⟨#[]⟩⟩ := by unfold Val.good; rw [h]; rfl
theorem good_same {v : Val.V} (h : Val.mayB v = true) : Val.good v = v := by unfold Val.good; rw [h]; rfl
theorem order_any14 (x y : Val.V) (w : World) (hx : VB x) (hy : VB y) (hN : NumW w) (hT : TxtW w) :
    Calls Tryz.prog 7 #[vv x, vv y] w fun e w' => e = .returned (.bool true) ∧ Below w.heap.size w w' := by
  refine order14 x y (fun op => Cal.bin op x y) (fun op => Cal.bin op y x) w hN hT (Lib.hid fun op v hb => bin_any op x y v hx hy (hN.below hb)) (Lib.hid fun op v hb => bin_any op y x v hy hx (hN.below hb)) (Lib.hid fun v => vmay_any x v) (Lib.hid fun v => vmay_any y v) (Lib.hid ?_)
  have e4 : ((⟨4, 4, ⟨#[]⟩⟩ : Val.V).k == 4) = true := rfl
  cases mx : Val.mayB x with
  | false =>
    refine .inl ⟨rfl, fun op h1 h2 => ?_⟩
    show Cal.bin op x y = _
    rw [bin_left op x y h1 h2 (by rw [good_bad mx]; exact e4), good_bad mx]
  | true =>
    have gx := good_same mx
    by_cases kx : x.k = 4
    · refine .inr (.inl ⟨rfl, kx, fun op h1 h2 => ?_⟩)
      show Cal.bin op x y = _
      rw [bin_left op x y h1 h2 (by rw [gx, kx]; rfl), gx]
    · have kx' : (x.k == 4) = false := by simpa using kx
      cases my : Val.mayB y with
      | false =>
        refine .inr (.inr (.inl ⟨rfl, kx', rfl, fun op h1 h2 => ?_⟩))
        show Cal.bin op x y = _
        rw [bin_right op x y h1 h2 (by rw [gx, kx']) (by rw [good_bad my]; exact e4), good_bad my]
      | true =>
        have gy := good_same my
        by_cases ky : y.k = 4
        · refine .inr (.inr (.inr (.inl ⟨rfl, kx', rfl, ky, fun op h1 h2 => ?_⟩)))
          show Cal.bin op x y = _
          rw [bin_right op x y h1 h2 (by rw [gx, kx']) (by rw [gy, ky]; rfl), gy]
        · have ky' : (y.k == 4) = false := by simpa using ky
          refine .inr (.inr (.inr (.inr ⟨rfl, kx', rfl, ky', Val.cmpG (Val.good x) (Val.good y), ?_, fun op h1 h2 => bin_cmp op x y h1 h2 (by rw [gx, kx']) (by rw [gy, ky']), fun op h => ?_⟩)))
          · rcases Val.cmpT_cases (Val.asV (Val.good x) (Val.good y)) (Val.asV (Val.good y) (Val.good x)) with ⟨h, _⟩ | ⟨h, _⟩ | ⟨h, _⟩
            · exact .inl h
            · exact .inr (.inl h)
            · exact .inr (.inr h)
          · show Cal.bin op y x = _
            rw [bin_cmp op y x (by omega) (by omega) (by rw [gy, ky']) (by rw [gx, kx'])]
            have : Val.cmpG (Val.good y) (Val.good x) = -Val.cmpG (Val.good x) (Val.good y) := Val.cmpT_neg _ _
            rw [this]
end Go.Proofs.YtpiiemneelkpkaaGreatDoor
