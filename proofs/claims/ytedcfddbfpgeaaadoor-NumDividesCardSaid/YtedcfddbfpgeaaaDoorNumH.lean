/- The walk of quadrillelaw1.NumDivides: true at every two numbers of 64 bits. -/
import Derived.Test.YtedcfddbfpgeaaaDoorNumG
namespace Go.Proofs.YtedcfddbfpgeaaaDoor
open Go.RowKit
set_option linter.unusedVariables false

set_option maxRecDepth 100000 in
theorem divides_zero (x : Int) (w : World) (hN : NumW w) :
    Calls Tryd.prog 8 #[.int .i64 x, .int .i64 0] w fun e w' => e = .returned (.bool true) ∧ Below w.heap.size w w' := by
  have H1 := Lib.hid (fun w => quo_zero x w)
  have H2 := Lib.hid (fun w => mod_zero x w)
  go_enter Tryd.func8, Tryd.ntmps8
  go_wp2_with (fail)
  refine (begun1 w hN).mono ?_
  rintro e w1 ⟨rfl, hb1⟩
  go_wp2_with (fail)
  refine (H1.out _).mono ?_
  rintro e w' ⟨rfl, rfl⟩
  go_wp2_with (fail)
  refine (H2.out _).mono ?_
  rintro e w' ⟨rfl, rfl⟩
  go_wp2
  go_ret
  exact ⟨rfl, hb1⟩
set_option maxRecDepth 100000 in
theorem divides_over (w : World) (hN : NumW w) :
    Calls Tryd.prog 8 #[.int .i64 (-9223372036854775808), .int .i64 (-1)] w fun e w' => e = .returned (.bool true) ∧ Below w.heap.size w w' := by
  have H1 := Lib.hid (fun w => quo_over w)
  have H2 := Lib.hid (fun w => mod_one (-9223372036854775808) w)
  go_enter Tryd.func8, Tryd.ntmps8
  go_wp2_with (fail)
  refine (begun1 w hN).mono ?_
  rintro e w1 ⟨rfl, hb1⟩
  go_wp2_with (fail)
  refine (H1.out _).mono ?_
  rintro e w' ⟨rfl, rfl⟩
  go_wp2_with (fail)
  refine (H2.out _).mono ?_
  rintro e w' ⟨rfl, rfl⟩
  go_wp2
  go_ret
  exact ⟨rfl, hb1⟩

set_option maxRecDepth 100000 in
set_option maxHeartbeats 800000 in
theorem divides_0 (x y q m r p : Int) (w : World) (hN : NumW w) (hQ : ∀ w, Calls Tryd.prog 30 #[.int .i64 x, .int .i64 y] w fun e w' => e = .returned (.tuple #[.int .i64 q, .int .i64 0]) ∧ w = w') (hM : ∀ w, Calls Tryd.prog 31 #[.int .i64 x, .int .i64 y] w fun e w' => e = .returned (.tuple #[.int .i64 m, .int .i64 0]) ∧ w = w')
    (hp : IntKind.i64.wrap (q * y) = p) (hr : IntKind.i64.wrap (x - p) = r) (hy1 : -9223372036854775808 ≤ y) (hy2 : y ≤ 9223372036854775807) (hr1 : r < y ∨ r < -y) (hr2 : y < r ∨ -y < r)
    (c0 : 0 < y) (c1 : x = 0) (c2 : q = 0) (c3 : r = 0) (c4 : m = r) (hx : (x == -9223372036854775808) = false ∨ ((x == -9223372036854775808) = true ∧ (y == -1) = false)) (hrr : (0 < y → -y < r ∧ r < y) ∧ (y < 0 → y < r ∧ r < -y)) :
    Calls Tryd.prog 8 #[.int .i64 x, .int .i64 y] w fun e w' => e = .returned (.bool true) ∧ Below w.heap.size w w' := by
  have H1 := Lib.hid hQ
  have H2 := Lib.hid hM
  have t0 : (y == 0) = false := by rw [beq_eq_false_iff_ne]; omega
  have t1 : (m != 0) = false := by simp; omega
  have t2 : decide (m < 0) = false := by simp; omega
  have t3 : decide (y < 0) = false := by simp; omega
  have t4 : decide (0 < y) = true := by simp; omega
  have t5 : decide (y ≤ m) = false := by simp; omega
  have t6 : decide (m ≤ y) = true := by simp; omega
  have t7 : (r != 0) = false := by simp; omega
  have t8 : decide (r < 0) = false := by simp; omega
  have t9 : decide (x < 0) = false := by simp; omega
  have t10 : (q != 0) = false := by simp; omega
  have t11 : decide (q < 0) = false := by simp; omega
  have t12 : (r == m) = true := by rw [beq_iff_eq]; omega
  have t13 : decide (y < r) = false := by simp; omega
  have t14 : decide (r < y) = true := by simp; omega
  have t15 : decide (-y < r) = true := by simp; omega
  have y1 : 0 < y := c0
  have y2 : -y < r := by omega
  have y3 : r < y := by omega
  clear c0 c1 c2 c3 c4 hrr hQ hM hr1 hr2
  rcases hx with hx | ⟨hx, hx2⟩
  all_goals
    go_enter Tryd.func8, Tryd.ntmps8
    go_wp2_with (fail)
    refine (begun1 w hN).mono ?_
    rintro e w1 ⟨rfl, hb1⟩
    go_wp2_with (fail)
    refine (H1.out _).mono ?_
    rintro e w' ⟨rfl, rfl⟩
    go_wp2_with (fail)
    refine (H2.out _).mono ?_
    rintro e w' ⟨rfl, rfl⟩
    go_wp2
    go_ret
    exact ⟨rfl, hb1⟩
set_option maxRecDepth 100000 in
set_option maxHeartbeats 800000 in
theorem divides_1 (x y q m r p : Int) (w : World) (hN : NumW w) (hQ : ∀ w, Calls Tryd.prog 30 #[.int .i64 x, .int .i64 y] w fun e w' => e = .returned (.tuple #[.int .i64 q, .int .i64 0]) ∧ w = w') (hM : ∀ w, Calls Tryd.prog 31 #[.int .i64 x, .int .i64 y] w fun e w' => e = .returned (.tuple #[.int .i64 m, .int .i64 0]) ∧ w = w')
    (hp : IntKind.i64.wrap (q * y) = p) (hr : IntKind.i64.wrap (x - p) = r) (hy1 : -9223372036854775808 ≤ y) (hy2 : y ≤ 9223372036854775807) (hr1 : r < y ∨ r < -y) (hr2 : y < r ∨ -y < r)
    (c0 : 0 < y) (c1 : 0 < x) (c2 : 0 < q) (c3 : r = 0) (c4 : m = r) (hx : (x == -9223372036854775808) = false ∨ ((x == -9223372036854775808) = true ∧ (y == -1) = false)) (hrr : (0 < y → -y < r ∧ r < y) ∧ (y < 0 → y < r ∧ r < -y)) :
    Calls Tryd.prog 8 #[.int .i64 x, .int .i64 y] w fun e w' => e = .returned (.bool true) ∧ Below w.heap.size w w' := by
  have H1 := Lib.hid hQ
  have H2 := Lib.hid hM
  have t0 : (y == 0) = false := by rw [beq_eq_false_iff_ne]; omega
  have t1 : (m != 0) = false := by simp; omega
  have t2 : decide (m < 0) = false := by simp; omega
  have t3 : decide (y < 0) = false := by simp; omega
  have t4 : decide (0 < y) = true := by simp; omega
  have t5 : decide (y ≤ m) = false := by simp; omega
  have t6 : decide (m ≤ y) = true := by simp; omega
  have t7 : (r != 0) = false := by simp; omega
  have t8 : decide (r < 0) = false := by simp; omega
  have t9 : decide (x < 0) = false := by simp; omega
  have t10 : (q != 0) = true := by rw [bne_iff_ne]; omega
  have t11 : decide (q < 0) = false := by simp; omega
  have t12 : (r == m) = true := by rw [beq_iff_eq]; omega
  have t13 : decide (y < r) = false := by simp; omega
  have t14 : decide (r < y) = true := by simp; omega
  have t15 : decide (-y < r) = true := by simp; omega
  have y1 : 0 < y := c0
  have y2 : -y < r := by omega
  have y3 : r < y := by omega
  clear c0 c1 c2 c3 c4 hrr hQ hM hr1 hr2
  rcases hx with hx | ⟨hx, hx2⟩
  all_goals
    go_enter Tryd.func8, Tryd.ntmps8
    go_wp2_with (fail)
    refine (begun1 w hN).mono ?_
    rintro e w1 ⟨rfl, hb1⟩
    go_wp2_with (fail)
    refine (H1.out _).mono ?_
    rintro e w' ⟨rfl, rfl⟩
    go_wp2_with (fail)
    refine (H2.out _).mono ?_
    rintro e w' ⟨rfl, rfl⟩
    go_wp2
    go_ret
    exact ⟨rfl, hb1⟩
set_option maxRecDepth 100000 in
set_option maxHeartbeats 800000 in
theorem divides_2 (x y q m r p : Int) (w : World) (hN : NumW w) (hQ : ∀ w, Calls Tryd.prog 30 #[.int .i64 x, .int .i64 y] w fun e w' => e = .returned (.tuple #[.int .i64 q, .int .i64 0]) ∧ w = w') (hM : ∀ w, Calls Tryd.prog 31 #[.int .i64 x, .int .i64 y] w fun e w' => e = .returned (.tuple #[.int .i64 m, .int .i64 0]) ∧ w = w')
    (hp : IntKind.i64.wrap (q * y) = p) (hr : IntKind.i64.wrap (x - p) = r) (hy1 : -9223372036854775808 ≤ y) (hy2 : y ≤ 9223372036854775807) (hr1 : r < y ∨ r < -y) (hr2 : y < r ∨ -y < r)
    (c0 : 0 < y) (c1 : x < 0) (c2 : q < 0) (c3 : r = 0) (c4 : m = r) (hx : (x == -9223372036854775808) = false ∨ ((x == -9223372036854775808) = true ∧ (y == -1) = false)) (hrr : (0 < y → -y < r ∧ r < y) ∧ (y < 0 → y < r ∧ r < -y)) :
    Calls Tryd.prog 8 #[.int .i64 x, .int .i64 y] w fun e w' => e = .returned (.bool true) ∧ Below w.heap.size w w' := by
  have H1 := Lib.hid hQ
  have H2 := Lib.hid hM
  have t0 : (y == 0) = false := by rw [beq_eq_false_iff_ne]; omega
  have t1 : (m != 0) = false := by simp; omega
  have t2 : decide (m < 0) = false := by simp; omega
  have t3 : decide (y < 0) = false := by simp; omega
  have t4 : decide (0 < y) = true := by simp; omega
  have t5 : decide (y ≤ m) = false := by simp; omega
  have t6 : decide (m ≤ y) = true := by simp; omega
  have t7 : (r != 0) = false := by simp; omega
  have t8 : decide (r < 0) = false := by simp; omega
  have t9 : decide (x < 0) = true := by simp; omega
  have t10 : (q != 0) = true := by rw [bne_iff_ne]; omega
  have t11 : decide (q < 0) = true := by simp; omega
  have t12 : (r == m) = true := by rw [beq_iff_eq]; omega
  have t13 : decide (y < r) = false := by simp; omega
  have t14 : decide (r < y) = true := by simp; omega
  have t15 : decide (-y < r) = true := by simp; omega
  have y1 : 0 < y := c0
  have y2 : -y < r := by omega
  have y3 : r < y := by omega
  clear c0 c1 c2 c3 c4 hrr hQ hM hr1 hr2
  rcases hx with hx | ⟨hx, hx2⟩
  all_goals
    go_enter Tryd.func8, Tryd.ntmps8
    go_wp2_with (fail)
    refine (begun1 w hN).mono ?_
    rintro e w1 ⟨rfl, hb1⟩
    go_wp2_with (fail)
    refine (H1.out _).mono ?_
    rintro e w' ⟨rfl, rfl⟩
    go_wp2_with (fail)
    refine (H2.out _).mono ?_
    rintro e w' ⟨rfl, rfl⟩
    go_wp2
    go_ret
    exact ⟨rfl, hb1⟩
set_option maxRecDepth 100000 in
set_option maxHeartbeats 800000 in
theorem divides_3 (x y q m r p : Int) (w : World) (hN : NumW w) (hQ : ∀ w, Calls Tryd.prog 30 #[.int .i64 x, .int .i64 y] w fun e w' => e = .returned (.tuple #[.int .i64 q, .int .i64 0]) ∧ w = w') (hM : ∀ w, Calls Tryd.prog 31 #[.int .i64 x, .int .i64 y] w fun e w' => e = .returned (.tuple #[.int .i64 m, .int .i64 0]) ∧ w = w')
    (hp : IntKind.i64.wrap (q * y) = p) (hr : IntKind.i64.wrap (x - p) = r) (hy1 : -9223372036854775808 ≤ y) (hy2 : y ≤ 9223372036854775807) (hr1 : r < y ∨ r < -y) (hr2 : y < r ∨ -y < r)
    (c0 : 0 < y) (c1 : 0 < x) (c2 : q = 0) (c3 : 0 < r) (c4 : m = r) (hx : (x == -9223372036854775808) = false ∨ ((x == -9223372036854775808) = true ∧ (y == -1) = false)) (hrr : (0 < y → -y < r ∧ r < y) ∧ (y < 0 → y < r ∧ r < -y)) :
    Calls Tryd.prog 8 #[.int .i64 x, .int .i64 y] w fun e w' => e = .returned (.bool true) ∧ Below w.heap.size w w' := by
  have H1 := Lib.hid hQ
  have H2 := Lib.hid hM
  have t0 : (y == 0) = false := by rw [beq_eq_false_iff_ne]; omega
  have t1 : (m != 0) = true := by rw [bne_iff_ne]; omega
  have t2 : decide (m < 0) = false := by simp; omega
  have t3 : decide (y < 0) = false := by simp; omega
  have t4 : decide (0 < y) = true := by simp; omega
  have t5 : decide (y ≤ m) = false := by simp; omega
  have t6 : decide (m ≤ y) = true := by simp; omega
  have t7 : (r != 0) = true := by rw [bne_iff_ne]; omega
  have t8 : decide (r < 0) = false := by simp; omega
  have t9 : decide (x < 0) = false := by simp; omega
  have t10 : (q != 0) = false := by simp; omega
  have t11 : decide (q < 0) = false := by simp; omega
  have t12 : (r == m) = true := by rw [beq_iff_eq]; omega
  have t13 : decide (y < r) = false := by simp; omega
  have t14 : decide (r < y) = true := by simp; omega
  have t15 : decide (-y < r) = true := by simp; omega
  have y1 : 0 < y := c0
  have y2 : -y < r := by omega
  have y3 : r < y := by omega
  clear c0 c1 c2 c3 c4 hrr hQ hM hr1 hr2
  rcases hx with hx | ⟨hx, hx2⟩
  all_goals
    go_enter Tryd.func8, Tryd.ntmps8
    go_wp2_with (fail)
    refine (begun1 w hN).mono ?_
    rintro e w1 ⟨rfl, hb1⟩
    go_wp2_with (fail)
    refine (H1.out _).mono ?_
    rintro e w' ⟨rfl, rfl⟩
    go_wp2_with (fail)
    refine (H2.out _).mono ?_
    rintro e w' ⟨rfl, rfl⟩
    go_wp2
    go_ret
    exact ⟨rfl, hb1⟩
set_option maxRecDepth 100000 in
set_option maxHeartbeats 800000 in
theorem divides_4 (x y q m r p : Int) (w : World) (hN : NumW w) (hQ : ∀ w, Calls Tryd.prog 30 #[.int .i64 x, .int .i64 y] w fun e w' => e = .returned (.tuple #[.int .i64 q, .int .i64 0]) ∧ w = w') (hM : ∀ w, Calls Tryd.prog 31 #[.int .i64 x, .int .i64 y] w fun e w' => e = .returned (.tuple #[.int .i64 m, .int .i64 0]) ∧ w = w')
    (hp : IntKind.i64.wrap (q * y) = p) (hr : IntKind.i64.wrap (x - p) = r) (hy1 : -9223372036854775808 ≤ y) (hy2 : y ≤ 9223372036854775807) (hr1 : r < y ∨ r < -y) (hr2 : y < r ∨ -y < r)
    (c0 : 0 < y) (c1 : 0 < x) (c2 : 0 < q) (c3 : 0 < r) (c4 : m = r) (hx : (x == -9223372036854775808) = false ∨ ((x == -9223372036854775808) = true ∧ (y == -1) = false)) (hrr : (0 < y → -y < r ∧ r < y) ∧ (y < 0 → y < r ∧ r < -y)) :
    Calls Tryd.prog 8 #[.int .i64 x, .int .i64 y] w fun e w' => e = .returned (.bool true) ∧ Below w.heap.size w w' := by
  have H1 := Lib.hid hQ
  have H2 := Lib.hid hM
  have t0 : (y == 0) = false := by rw [beq_eq_false_iff_ne]; omega
  have t1 : (m != 0) = true := by rw [bne_iff_ne]; omega
  have t2 : decide (m < 0) = false := by simp; omega
  have t3 : decide (y < 0) = false := by simp; omega
  have t4 : decide (0 < y) = true := by simp; omega
  have t5 : decide (y ≤ m) = false := by simp; omega
  have t6 : decide (m ≤ y) = true := by simp; omega
  have t7 : (r != 0) = true := by rw [bne_iff_ne]; omega
  have t8 : decide (r < 0) = false := by simp; omega
  have t9 : decide (x < 0) = false := by simp; omega
  have t10 : (q != 0) = true := by rw [bne_iff_ne]; omega
  have t11 : decide (q < 0) = false := by simp; omega
  have t12 : (r == m) = true := by rw [beq_iff_eq]; omega
  have t13 : decide (y < r) = false := by simp; omega
  have t14 : decide (r < y) = true := by simp; omega
  have t15 : decide (-y < r) = true := by simp; omega
  have y1 : 0 < y := c0
  have y2 : -y < r := by omega
  have y3 : r < y := by omega
  clear c0 c1 c2 c3 c4 hrr hQ hM hr1 hr2
  rcases hx with hx | ⟨hx, hx2⟩
  all_goals
    go_enter Tryd.func8, Tryd.ntmps8
    go_wp2_with (fail)
    refine (begun1 w hN).mono ?_
    rintro e w1 ⟨rfl, hb1⟩
    go_wp2_with (fail)
    refine (H1.out _).mono ?_
    rintro e w' ⟨rfl, rfl⟩
    go_wp2_with (fail)
    refine (H2.out _).mono ?_
    rintro e w' ⟨rfl, rfl⟩
    go_wp2
    go_ret
    exact ⟨rfl, hb1⟩
set_option maxRecDepth 100000 in
set_option maxHeartbeats 800000 in
theorem divides_5 (x y q m r p : Int) (w : World) (hN : NumW w) (hQ : ∀ w, Calls Tryd.prog 30 #[.int .i64 x, .int .i64 y] w fun e w' => e = .returned (.tuple #[.int .i64 q, .int .i64 0]) ∧ w = w') (hM : ∀ w, Calls Tryd.prog 31 #[.int .i64 x, .int .i64 y] w fun e w' => e = .returned (.tuple #[.int .i64 m, .int .i64 0]) ∧ w = w')
    (hp : IntKind.i64.wrap (q * y) = p) (hr : IntKind.i64.wrap (x - p) = r) (hy1 : -9223372036854775808 ≤ y) (hy2 : y ≤ 9223372036854775807) (hr1 : r < y ∨ r < -y) (hr2 : y < r ∨ -y < r)
    (c0 : 0 < y) (c1 : x < 0) (c2 : q = 0) (c3 : r < 0) (c4 : m = r + y) (hx : (x == -9223372036854775808) = false ∨ ((x == -9223372036854775808) = true ∧ (y == -1) = false)) (hrr : (0 < y → -y < r ∧ r < y) ∧ (y < 0 → y < r ∧ r < -y)) :
    Calls Tryd.prog 8 #[.int .i64 x, .int .i64 y] w fun e w' => e = .returned (.bool true) ∧ Below w.heap.size w w' := by
  have H1 := Lib.hid hQ
  have H2 := Lib.hid hM
  have t0 : (y == 0) = false := by rw [beq_eq_false_iff_ne]; omega
  have t1 : (m != 0) = true := by rw [bne_iff_ne]; omega
  have t2 : decide (m < 0) = false := by simp; omega
  have t3 : decide (y < 0) = false := by simp; omega
  have t4 : decide (0 < y) = true := by simp; omega
  have t5 : decide (y ≤ m) = false := by simp; omega
  have t6 : decide (m ≤ y) = true := by simp; omega
  have t7 : (r != 0) = true := by rw [bne_iff_ne]; omega
  have t8 : decide (r < 0) = true := by simp; omega
  have t9 : decide (x < 0) = true := by simp; omega
  have t10 : (q != 0) = false := by simp; omega
  have t11 : decide (q < 0) = false := by simp; omega
  have t12 : (r == m) = false := by rw [beq_eq_false_iff_ne]; omega
  have t13 : decide (y < r) = false := by simp; omega
  have t14 : decide (r < y) = true := by simp; omega
  have t15 : decide (-y < r) = true := by simp; omega
  have hry : IntKind.i64.wrap (r + y) = m := by rw [IntKind.wrap_i64]; omega
  have y1 : 0 < y := c0
  have y2 : -y < r := by omega
  have y3 : r < y := by omega
  clear c0 c1 c2 c3 c4 hrr hQ hM hr1 hr2
  rcases hx with hx | ⟨hx, hx2⟩
  all_goals
    go_enter Tryd.func8, Tryd.ntmps8
    go_wp2_with (fail)
    refine (begun1 w hN).mono ?_
    rintro e w1 ⟨rfl, hb1⟩
    go_wp2_with (fail)
    refine (H1.out _).mono ?_
    rintro e w' ⟨rfl, rfl⟩
    go_wp2_with (fail)
    refine (H2.out _).mono ?_
    rintro e w' ⟨rfl, rfl⟩
    go_wp2
    go_ret
    exact ⟨rfl, hb1⟩
set_option maxRecDepth 100000 in
set_option maxHeartbeats 800000 in
theorem divides_6 (x y q m r p : Int) (w : World) (hN : NumW w) (hQ : ∀ w, Calls Tryd.prog 30 #[.int .i64 x, .int .i64 y] w fun e w' => e = .returned (.tuple #[.int .i64 q, .int .i64 0]) ∧ w = w') (hM : ∀ w, Calls Tryd.prog 31 #[.int .i64 x, .int .i64 y] w fun e w' => e = .returned (.tuple #[.int .i64 m, .int .i64 0]) ∧ w = w')
    (hp : IntKind.i64.wrap (q * y) = p) (hr : IntKind.i64.wrap (x - p) = r) (hy1 : -9223372036854775808 ≤ y) (hy2 : y ≤ 9223372036854775807) (hr1 : r < y ∨ r < -y) (hr2 : y < r ∨ -y < r)
    (c0 : 0 < y) (c1 : x < 0) (c2 : q < 0) (c3 : r < 0) (c4 : m = r + y) (hx : (x == -9223372036854775808) = false ∨ ((x == -9223372036854775808) = true ∧ (y == -1) = false)) (hrr : (0 < y → -y < r ∧ r < y) ∧ (y < 0 → y < r ∧ r < -y)) :
    Calls Tryd.prog 8 #[.int .i64 x, .int .i64 y] w fun e w' => e = .returned (.bool true) ∧ Below w.heap.size w w' := by
  have H1 := Lib.hid hQ
  have H2 := Lib.hid hM
  have t0 : (y == 0) = false := by rw [beq_eq_false_iff_ne]; omega
  have t1 : (m != 0) = true := by rw [bne_iff_ne]; omega
  have t2 : decide (m < 0) = false := by simp; omega
  have t3 : decide (y < 0) = false := by simp; omega
  have t4 : decide (0 < y) = true := by simp; omega
  have t5 : decide (y ≤ m) = false := by simp; omega
  have t6 : decide (m ≤ y) = true := by simp; omega
  have t7 : (r != 0) = true := by rw [bne_iff_ne]; omega
  have t8 : decide (r < 0) = true := by simp; omega
  have t9 : decide (x < 0) = true := by simp; omega
  have t10 : (q != 0) = true := by rw [bne_iff_ne]; omega
  have t11 : decide (q < 0) = true := by simp; omega
  have t12 : (r == m) = false := by rw [beq_eq_false_iff_ne]; omega
  have t13 : decide (y < r) = false := by simp; omega
  have t14 : decide (r < y) = true := by simp; omega
  have t15 : decide (-y < r) = true := by simp; omega
  have hry : IntKind.i64.wrap (r + y) = m := by rw [IntKind.wrap_i64]; omega
  have y1 : 0 < y := c0
  have y2 : -y < r := by omega
  have y3 : r < y := by omega
  clear c0 c1 c2 c3 c4 hrr hQ hM hr1 hr2
  rcases hx with hx | ⟨hx, hx2⟩
  all_goals
    go_enter Tryd.func8, Tryd.ntmps8
    go_wp2_with (fail)
    refine (begun1 w hN).mono ?_
    rintro e w1 ⟨rfl, hb1⟩
    go_wp2_with (fail)
    refine (H1.out _).mono ?_
    rintro e w' ⟨rfl, rfl⟩
    go_wp2_with (fail)
    refine (H2.out _).mono ?_
    rintro e w' ⟨rfl, rfl⟩
    go_wp2
    go_ret
    exact ⟨rfl, hb1⟩
set_option maxRecDepth 100000 in
set_option maxHeartbeats 800000 in
theorem divides_7 (x y q m r p : Int) (w : World) (hN : NumW w) (hQ : ∀ w, Calls Tryd.prog 30 #[.int .i64 x, .int .i64 y] w fun e w' => e = .returned (.tuple #[.int .i64 q, .int .i64 0]) ∧ w = w') (hM : ∀ w, Calls Tryd.prog 31 #[.int .i64 x, .int .i64 y] w fun e w' => e = .returned (.tuple #[.int .i64 m, .int .i64 0]) ∧ w = w')
    (hp : IntKind.i64.wrap (q * y) = p) (hr : IntKind.i64.wrap (x - p) = r) (hy1 : -9223372036854775808 ≤ y) (hy2 : y ≤ 9223372036854775807) (hr1 : r < y ∨ r < -y) (hr2 : y < r ∨ -y < r)
    (c0 : y < 0) (c1 : x = 0) (c2 : q = 0) (c3 : r = 0) (c4 : m = r) (hx : (x == -9223372036854775808) = false ∨ ((x == -9223372036854775808) = true ∧ (y == -1) = false)) (hrr : (0 < y → -y < r ∧ r < y) ∧ (y < 0 → y < r ∧ r < -y)) :
    Calls Tryd.prog 8 #[.int .i64 x, .int .i64 y] w fun e w' => e = .returned (.bool true) ∧ Below w.heap.size w w' := by
  have H1 := Lib.hid hQ
  have H2 := Lib.hid hM
  have t0 : (y == 0) = false := by rw [beq_eq_false_iff_ne]; omega
  have t1 : (m != 0) = false := by simp; omega
  have t2 : decide (m < 0) = false := by simp; omega
  have t3 : decide (y < 0) = true := by simp; omega
  have t4 : decide (0 < y) = false := by simp; omega
  have t5 : decide (y ≤ m) = true := by simp; omega
  have t6 : decide (m ≤ y) = false := by simp; omega
  have t7 : (r != 0) = false := by simp; omega
  have t8 : decide (r < 0) = false := by simp; omega
  have t9 : decide (x < 0) = false := by simp; omega
  have t10 : (q != 0) = false := by simp; omega
  have t11 : decide (q < 0) = false := by simp; omega
  have t12 : (r == m) = true := by rw [beq_iff_eq]; omega
  have t13 : decide (y < r) = true := by simp; omega
  have t14 : decide (r < y) = false := by simp; omega
  have hyl : (y == -9223372036854775808) = true ∨ ((y == -9223372036854775808) = false ∧ decide (r < -y) = true ∧ -9223372036854775807 ≤ y) := by
    by_cases e : y = -9223372036854775808
    · exact .inl (by simpa using e)
    · exact .inr ⟨by simpa using e, by simp; omega, by omega⟩
  have y1 : y < 0 := c0
  have y2 : y < r := by omega
  have y3 : r < 0 - y := by omega
  clear c0 c1 c2 c3 c4 hrr hQ hM hr1 hr2
  rcases hx with hx | ⟨hx, hx2⟩ <;> rcases hyl with hyl | ⟨hyl, hyl2, hyl3⟩
  all_goals
    go_enter Tryd.func8, Tryd.ntmps8
    go_wp2_with (fail)
    refine (begun1 w hN).mono ?_
    rintro e w1 ⟨rfl, hb1⟩
    go_wp2_with (fail)
    refine (H1.out _).mono ?_
    rintro e w' ⟨rfl, rfl⟩
    go_wp2_with (fail)
    refine (H2.out _).mono ?_
    rintro e w' ⟨rfl, rfl⟩
    go_wp2
    go_ret
    exact ⟨rfl, hb1⟩
set_option maxRecDepth 100000 in
set_option maxHeartbeats 800000 in
theorem divides_8 (x y q m r p : Int) (w : World) (hN : NumW w) (hQ : ∀ w, Calls Tryd.prog 30 #[.int .i64 x, .int .i64 y] w fun e w' => e = .returned (.tuple #[.int .i64 q, .int .i64 0]) ∧ w = w') (hM : ∀ w, Calls Tryd.prog 31 #[.int .i64 x, .int .i64 y] w fun e w' => e = .returned (.tuple #[.int .i64 m, .int .i64 0]) ∧ w = w')
    (hp : IntKind.i64.wrap (q * y) = p) (hr : IntKind.i64.wrap (x - p) = r) (hy1 : -9223372036854775808 ≤ y) (hy2 : y ≤ 9223372036854775807) (hr1 : r < y ∨ r < -y) (hr2 : y < r ∨ -y < r)
    (c0 : y < 0) (c1 : x < 0) (c2 : 0 < q) (c3 : r = 0) (c4 : m = r) (hx : (x == -9223372036854775808) = false ∨ ((x == -9223372036854775808) = true ∧ (y == -1) = false)) (hrr : (0 < y → -y < r ∧ r < y) ∧ (y < 0 → y < r ∧ r < -y)) :
    Calls Tryd.prog 8 #[.int .i64 x, .int .i64 y] w fun e w' => e = .returned (.bool true) ∧ Below w.heap.size w w' := by
  have H1 := Lib.hid hQ
  have H2 := Lib.hid hM
  have t0 : (y == 0) = false := by rw [beq_eq_false_iff_ne]; omega
  have t1 : (m != 0) = false := by simp; omega
  have t2 : decide (m < 0) = false := by simp; omega
  have t3 : decide (y < 0) = true := by simp; omega
  have t4 : decide (0 < y) = false := by simp; omega
  have t5 : decide (y ≤ m) = true := by simp; omega
  have t6 : decide (m ≤ y) = false := by simp; omega
  have t7 : (r != 0) = false := by simp; omega
  have t8 : decide (r < 0) = false := by simp; omega
  have t9 : decide (x < 0) = true := by simp; omega
  have t10 : (q != 0) = true := by rw [bne_iff_ne]; omega
  have t11 : decide (q < 0) = false := by simp; omega
  have t12 : (r == m) = true := by rw [beq_iff_eq]; omega
  have t13 : decide (y < r) = true := by simp; omega
  have t14 : decide (r < y) = false := by simp; omega
  have hyl : (y == -9223372036854775808) = true ∨ ((y == -9223372036854775808) = false ∧ decide (r < -y) = true ∧ -9223372036854775807 ≤ y) := by
    by_cases e : y = -9223372036854775808
    · exact .inl (by simpa using e)
    · exact .inr ⟨by simpa using e, by simp; omega, by omega⟩
  have y1 : y < 0 := c0
  have y2 : y < r := by omega
  have y3 : r < 0 - y := by omega
  clear c0 c1 c2 c3 c4 hrr hQ hM hr1 hr2
  rcases hx with hx | ⟨hx, hx2⟩ <;> rcases hyl with hyl | ⟨hyl, hyl2, hyl3⟩
  all_goals
    go_enter Tryd.func8, Tryd.ntmps8
    go_wp2_with (fail)
    refine (begun1 w hN).mono ?_
    rintro e w1 ⟨rfl, hb1⟩
    go_wp2_with (fail)
    refine (H1.out _).mono ?_
    rintro e w' ⟨rfl, rfl⟩
    go_wp2_with (fail)
    refine (H2.out _).mono ?_
    rintro e w' ⟨rfl, rfl⟩
    go_wp2
    go_ret
    exact ⟨rfl, hb1⟩
set_option maxRecDepth 100000 in
set_option maxHeartbeats 800000 in
theorem divides_9 (x y q m r p : Int) (w : World) (hN : NumW w) (hQ : ∀ w, Calls Tryd.prog 30 #[.int .i64 x, .int .i64 y] w fun e w' => e = .returned (.tuple #[.int .i64 q, .int .i64 0]) ∧ w = w') (hM : ∀ w, Calls Tryd.prog 31 #[.int .i64 x, .int .i64 y] w fun e w' => e = .returned (.tuple #[.int .i64 m, .int .i64 0]) ∧ w = w')
    (hp : IntKind.i64.wrap (q * y) = p) (hr : IntKind.i64.wrap (x - p) = r) (hy1 : -9223372036854775808 ≤ y) (hy2 : y ≤ 9223372036854775807) (hr1 : r < y ∨ r < -y) (hr2 : y < r ∨ -y < r)
    (c0 : y < 0) (c1 : 0 < x) (c2 : q < 0) (c3 : r = 0) (c4 : m = r) (hx : (x == -9223372036854775808) = false ∨ ((x == -9223372036854775808) = true ∧ (y == -1) = false)) (hrr : (0 < y → -y < r ∧ r < y) ∧ (y < 0 → y < r ∧ r < -y)) :
    Calls Tryd.prog 8 #[.int .i64 x, .int .i64 y] w fun e w' => e = .returned (.bool true) ∧ Below w.heap.size w w' := by
  have H1 := Lib.hid hQ
  have H2 := Lib.hid hM
  have t0 : (y == 0) = false := by rw [beq_eq_false_iff_ne]; omega
  have t1 : (m != 0) = false := by simp; omega
  have t2 : decide (m < 0) = false := by simp; omega
  have t3 : decide (y < 0) = true := by simp; omega
  have t4 : decide (0 < y) = false := by simp; omega
  have t5 : decide (y ≤ m) = true := by simp; omega
  have t6 : decide (m ≤ y) = false := by simp; omega
  have t7 : (r != 0) = false := by simp; omega
  have t8 : decide (r < 0) = false := by simp; omega
  have t9 : decide (x < 0) = false := by simp; omega
  have t10 : (q != 0) = true := by rw [bne_iff_ne]; omega
  have t11 : decide (q < 0) = true := by simp; omega
  have t12 : (r == m) = true := by rw [beq_iff_eq]; omega
  have t13 : decide (y < r) = true := by simp; omega
  have t14 : decide (r < y) = false := by simp; omega
  have hyl : (y == -9223372036854775808) = true ∨ ((y == -9223372036854775808) = false ∧ decide (r < -y) = true ∧ -9223372036854775807 ≤ y) := by
    by_cases e : y = -9223372036854775808
    · exact .inl (by simpa using e)
    · exact .inr ⟨by simpa using e, by simp; omega, by omega⟩
  have y1 : y < 0 := c0
  have y2 : y < r := by omega
  have y3 : r < 0 - y := by omega
  clear c0 c1 c2 c3 c4 hrr hQ hM hr1 hr2
  rcases hx with hx | ⟨hx, hx2⟩ <;> rcases hyl with hyl | ⟨hyl, hyl2, hyl3⟩
  all_goals
    go_enter Tryd.func8, Tryd.ntmps8
    go_wp2_with (fail)
    refine (begun1 w hN).mono ?_
    rintro e w1 ⟨rfl, hb1⟩
    go_wp2_with (fail)
    refine (H1.out _).mono ?_
    rintro e w' ⟨rfl, rfl⟩
    go_wp2_with (fail)
    refine (H2.out _).mono ?_
    rintro e w' ⟨rfl, rfl⟩
    go_wp2
    go_ret
    exact ⟨rfl, hb1⟩
set_option maxRecDepth 100000 in
set_option maxHeartbeats 800000 in
theorem divides_10 (x y q m r p : Int) (w : World) (hN : NumW w) (hQ : ∀ w, Calls Tryd.prog 30 #[.int .i64 x, .int .i64 y] w fun e w' => e = .returned (.tuple #[.int .i64 q, .int .i64 0]) ∧ w = w') (hM : ∀ w, Calls Tryd.prog 31 #[.int .i64 x, .int .i64 y] w fun e w' => e = .returned (.tuple #[.int .i64 m, .int .i64 0]) ∧ w = w')
    (hp : IntKind.i64.wrap (q * y) = p) (hr : IntKind.i64.wrap (x - p) = r) (hy1 : -9223372036854775808 ≤ y) (hy2 : y ≤ 9223372036854775807) (hr1 : r < y ∨ r < -y) (hr2 : y < r ∨ -y < r)
    (c0 : y < 0) (c1 : x < 0) (c2 : q = 0) (c3 : r < 0) (c4 : m = r) (hx : (x == -9223372036854775808) = false ∨ ((x == -9223372036854775808) = true ∧ (y == -1) = false)) (hrr : (0 < y → -y < r ∧ r < y) ∧ (y < 0 → y < r ∧ r < -y)) :
    Calls Tryd.prog 8 #[.int .i64 x, .int .i64 y] w fun e w' => e = .returned (.bool true) ∧ Below w.heap.size w w' := by
  have H1 := Lib.hid hQ
  have H2 := Lib.hid hM
  have t0 : (y == 0) = false := by rw [beq_eq_false_iff_ne]; omega
  have t1 : (m != 0) = true := by rw [bne_iff_ne]; omega
  have t2 : decide (m < 0) = true := by simp; omega
  have t3 : decide (y < 0) = true := by simp; omega
  have t4 : decide (0 < y) = false := by simp; omega
  have t5 : decide (y ≤ m) = true := by simp; omega
  have t6 : decide (m ≤ y) = false := by simp; omega
  have t7 : (r != 0) = true := by rw [bne_iff_ne]; omega
  have t8 : decide (r < 0) = true := by simp; omega
  have t9 : decide (x < 0) = true := by simp; omega
  have t10 : (q != 0) = false := by simp; omega
  have t11 : decide (q < 0) = false := by simp; omega
  have t12 : (r == m) = true := by rw [beq_iff_eq]; omega
  have t13 : decide (y < r) = true := by simp; omega
  have t14 : decide (r < y) = false := by simp; omega
  have hyl : (y == -9223372036854775808) = true ∨ ((y == -9223372036854775808) = false ∧ decide (r < -y) = true ∧ -9223372036854775807 ≤ y) := by
    by_cases e : y = -9223372036854775808
    · exact .inl (by simpa using e)
    · exact .inr ⟨by simpa using e, by simp; omega, by omega⟩
  have y1 : y < 0 := c0
  have y2 : y < r := by omega
  have y3 : r < 0 - y := by omega
  clear c0 c1 c2 c3 c4 hrr hQ hM hr1 hr2
  rcases hx with hx | ⟨hx, hx2⟩ <;> rcases hyl with hyl | ⟨hyl, hyl2, hyl3⟩
  all_goals
    go_enter Tryd.func8, Tryd.ntmps8
    go_wp2_with (fail)
    refine (begun1 w hN).mono ?_
    rintro e w1 ⟨rfl, hb1⟩
    go_wp2_with (fail)
    refine (H1.out _).mono ?_
    rintro e w' ⟨rfl, rfl⟩
    go_wp2_with (fail)
    refine (H2.out _).mono ?_
    rintro e w' ⟨rfl, rfl⟩
    go_wp2
    go_ret
    exact ⟨rfl, hb1⟩
set_option maxRecDepth 100000 in
set_option maxHeartbeats 800000 in
theorem divides_11 (x y q m r p : Int) (w : World) (hN : NumW w) (hQ : ∀ w, Calls Tryd.prog 30 #[.int .i64 x, .int .i64 y] w fun e w' => e = .returned (.tuple #[.int .i64 q, .int .i64 0]) ∧ w = w') (hM : ∀ w, Calls Tryd.prog 31 #[.int .i64 x, .int .i64 y] w fun e w' => e = .returned (.tuple #[.int .i64 m, .int .i64 0]) ∧ w = w')
    (hp : IntKind.i64.wrap (q * y) = p) (hr : IntKind.i64.wrap (x - p) = r) (hy1 : -9223372036854775808 ≤ y) (hy2 : y ≤ 9223372036854775807) (hr1 : r < y ∨ r < -y) (hr2 : y < r ∨ -y < r)
    (c0 : y < 0) (c1 : x < 0) (c2 : 0 < q) (c3 : r < 0) (c4 : m = r) (hx : (x == -9223372036854775808) = false ∨ ((x == -9223372036854775808) = true ∧ (y == -1) = false)) (hrr : (0 < y → -y < r ∧ r < y) ∧ (y < 0 → y < r ∧ r < -y)) :
    Calls Tryd.prog 8 #[.int .i64 x, .int .i64 y] w fun e w' => e = .returned (.bool true) ∧ Below w.heap.size w w' := by
  have H1 := Lib.hid hQ
  have H2 := Lib.hid hM
  have t0 : (y == 0) = false := by rw [beq_eq_false_iff_ne]; omega
  have t1 : (m != 0) = true := by rw [bne_iff_ne]; omega
  have t2 : decide (m < 0) = true := by simp; omega
  have t3 : decide (y < 0) = true := by simp; omega
  have t4 : decide (0 < y) = false := by simp; omega
  have t5 : decide (y ≤ m) = true := by simp; omega
  have t6 : decide (m ≤ y) = false := by simp; omega
  have t7 : (r != 0) = true := by rw [bne_iff_ne]; omega
  have t8 : decide (r < 0) = true := by simp; omega
  have t9 : decide (x < 0) = true := by simp; omega
  have t10 : (q != 0) = true := by rw [bne_iff_ne]; omega
  have t11 : decide (q < 0) = false := by simp; omega
  have t12 : (r == m) = true := by rw [beq_iff_eq]; omega
  have t13 : decide (y < r) = true := by simp; omega
  have t14 : decide (r < y) = false := by simp; omega
  have hyl : (y == -9223372036854775808) = true ∨ ((y == -9223372036854775808) = false ∧ decide (r < -y) = true ∧ -9223372036854775807 ≤ y) := by
    by_cases e : y = -9223372036854775808
    · exact .inl (by simpa using e)
    · exact .inr ⟨by simpa using e, by simp; omega, by omega⟩
  have y1 : y < 0 := c0
  have y2 : y < r := by omega
  have y3 : r < 0 - y := by omega
  clear c0 c1 c2 c3 c4 hrr hQ hM hr1 hr2
  rcases hx with hx | ⟨hx, hx2⟩ <;> rcases hyl with hyl | ⟨hyl, hyl2, hyl3⟩
  all_goals
    go_enter Tryd.func8, Tryd.ntmps8
    go_wp2_with (fail)
    refine (begun1 w hN).mono ?_
    rintro e w1 ⟨rfl, hb1⟩
    go_wp2_with (fail)
    refine (H1.out _).mono ?_
    rintro e w' ⟨rfl, rfl⟩
    go_wp2_with (fail)
    refine (H2.out _).mono ?_
    rintro e w' ⟨rfl, rfl⟩
    go_wp2
    go_ret
    exact ⟨rfl, hb1⟩
set_option maxRecDepth 100000 in
set_option maxHeartbeats 800000 in
theorem divides_12 (x y q m r p : Int) (w : World) (hN : NumW w) (hQ : ∀ w, Calls Tryd.prog 30 #[.int .i64 x, .int .i64 y] w fun e w' => e = .returned (.tuple #[.int .i64 q, .int .i64 0]) ∧ w = w') (hM : ∀ w, Calls Tryd.prog 31 #[.int .i64 x, .int .i64 y] w fun e w' => e = .returned (.tuple #[.int .i64 m, .int .i64 0]) ∧ w = w')
    (hp : IntKind.i64.wrap (q * y) = p) (hr : IntKind.i64.wrap (x - p) = r) (hy1 : -9223372036854775808 ≤ y) (hy2 : y ≤ 9223372036854775807) (hr1 : r < y ∨ r < -y) (hr2 : y < r ∨ -y < r)
    (c0 : y < 0) (c1 : 0 < x) (c2 : q = 0) (c3 : 0 < r) (c4 : m = r + y) (hx : (x == -9223372036854775808) = false ∨ ((x == -9223372036854775808) = true ∧ (y == -1) = false)) (hrr : (0 < y → -y < r ∧ r < y) ∧ (y < 0 → y < r ∧ r < -y)) :
    Calls Tryd.prog 8 #[.int .i64 x, .int .i64 y] w fun e w' => e = .returned (.bool true) ∧ Below w.heap.size w w' := by
  have H1 := Lib.hid hQ
  have H2 := Lib.hid hM
  have t0 : (y == 0) = false := by rw [beq_eq_false_iff_ne]; omega
  have t1 : (m != 0) = true := by rw [bne_iff_ne]; omega
  have t2 : decide (m < 0) = true := by simp; omega
  have t3 : decide (y < 0) = true := by simp; omega
  have t4 : decide (0 < y) = false := by simp; omega
  have t5 : decide (y ≤ m) = true := by simp; omega
  have t6 : decide (m ≤ y) = false := by simp; omega
  have t7 : (r != 0) = true := by rw [bne_iff_ne]; omega
  have t8 : decide (r < 0) = false := by simp; omega
  have t9 : decide (x < 0) = false := by simp; omega
  have t10 : (q != 0) = false := by simp; omega
  have t11 : decide (q < 0) = false := by simp; omega
  have t12 : (r == m) = false := by rw [beq_eq_false_iff_ne]; omega
  have t13 : decide (y < r) = true := by simp; omega
  have t14 : decide (r < y) = false := by simp; omega
  have hry : IntKind.i64.wrap (r + y) = m := by rw [IntKind.wrap_i64]; omega
  have hyl : (y == -9223372036854775808) = true ∨ ((y == -9223372036854775808) = false ∧ decide (r < -y) = true ∧ -9223372036854775807 ≤ y) := by
    by_cases e : y = -9223372036854775808
    · exact .inl (by simpa using e)
    · exact .inr ⟨by simpa using e, by simp; omega, by omega⟩
  have y1 : y < 0 := c0
  have y2 : y < r := by omega
  have y3 : r < 0 - y := by omega
  clear c0 c1 c2 c3 c4 hrr hQ hM hr1 hr2
  rcases hx with hx | ⟨hx, hx2⟩ <;> rcases hyl with hyl | ⟨hyl, hyl2, hyl3⟩
  all_goals
    go_enter Tryd.func8, Tryd.ntmps8
    go_wp2_with (fail)
    refine (begun1 w hN).mono ?_
    rintro e w1 ⟨rfl, hb1⟩
    go_wp2_with (fail)
    refine (H1.out _).mono ?_
    rintro e w' ⟨rfl, rfl⟩
    go_wp2_with (fail)
    refine (H2.out _).mono ?_
    rintro e w' ⟨rfl, rfl⟩
    go_wp2
    go_ret
    exact ⟨rfl, hb1⟩
set_option maxRecDepth 100000 in
set_option maxHeartbeats 800000 in
theorem divides_13 (x y q m r p : Int) (w : World) (hN : NumW w) (hQ : ∀ w, Calls Tryd.prog 30 #[.int .i64 x, .int .i64 y] w fun e w' => e = .returned (.tuple #[.int .i64 q, .int .i64 0]) ∧ w = w') (hM : ∀ w, Calls Tryd.prog 31 #[.int .i64 x, .int .i64 y] w fun e w' => e = .returned (.tuple #[.int .i64 m, .int .i64 0]) ∧ w = w')
    (hp : IntKind.i64.wrap (q * y) = p) (hr : IntKind.i64.wrap (x - p) = r) (hy1 : -9223372036854775808 ≤ y) (hy2 : y ≤ 9223372036854775807) (hr1 : r < y ∨ r < -y) (hr2 : y < r ∨ -y < r)
    (c0 : y < 0) (c1 : 0 < x) (c2 : q < 0) (c3 : 0 < r) (c4 : m = r + y) (hx : (x == -9223372036854775808) = false ∨ ((x == -9223372036854775808) = true ∧ (y == -1) = false)) (hrr : (0 < y → -y < r ∧ r < y) ∧ (y < 0 → y < r ∧ r < -y)) :
    Calls Tryd.prog 8 #[.int .i64 x, .int .i64 y] w fun e w' => e = .returned (.bool true) ∧ Below w.heap.size w w' := by
  have H1 := Lib.hid hQ
  have H2 := Lib.hid hM
  have t0 : (y == 0) = false := by rw [beq_eq_false_iff_ne]; omega
  have t1 : (m != 0) = true := by rw [bne_iff_ne]; omega
  have t2 : decide (m < 0) = true := by simp; omega
  have t3 : decide (y < 0) = true := by simp; omega
  have t4 : decide (0 < y) = false := by simp; omega
  have t5 : decide (y ≤ m) = true := by simp; omega
  have t6 : decide (m ≤ y) = false := by simp; omega
  have t7 : (r != 0) = true := by rw [bne_iff_ne]; omega
  have t8 : decide (r < 0) = false := by simp; omega
  have t9 : decide (x < 0) = false := by simp; omega
  have t10 : (q != 0) = true := by rw [bne_iff_ne]; omega
  have t11 : decide (q < 0) = true := by simp; omega
  have t12 : (r == m) = false := by rw [beq_eq_false_iff_ne]; omega
  have t13 : decide (y < r) = true := by simp; omega
  have t14 : decide (r < y) = false := by simp; omega
  have hry : IntKind.i64.wrap (r + y) = m := by rw [IntKind.wrap_i64]; omega
  have hyl : (y == -9223372036854775808) = true ∨ ((y == -9223372036854775808) = false ∧ decide (r < -y) = true ∧ -9223372036854775807 ≤ y) := by
    by_cases e : y = -9223372036854775808
    · exact .inl (by simpa using e)
    · exact .inr ⟨by simpa using e, by simp; omega, by omega⟩
  have y1 : y < 0 := c0
  have y2 : y < r := by omega
  have y3 : r < 0 - y := by omega
  clear c0 c1 c2 c3 c4 hrr hQ hM hr1 hr2
  rcases hx with hx | ⟨hx, hx2⟩ <;> rcases hyl with hyl | ⟨hyl, hyl2, hyl3⟩
  all_goals
    go_enter Tryd.func8, Tryd.ntmps8
    go_wp2_with (fail)
    refine (begun1 w hN).mono ?_
    rintro e w1 ⟨rfl, hb1⟩
    go_wp2_with (fail)
    refine (H1.out _).mono ?_
    rintro e w' ⟨rfl, rfl⟩
    go_wp2_with (fail)
    refine (H2.out _).mono ?_
    rintro e w' ⟨rfl, rfl⟩
    go_wp2
    go_ret
    exact ⟨rfl, hb1⟩
end Go.Proofs.YtedcfddbfpgeaaaDoor
