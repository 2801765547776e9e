/- A value that came in by value: opened and shut; how long its text may be. -/
import Derived.Test.YtdbjmjeiaajdiaaDoorFrame
import Derived.Lib.SmallJoins
namespace Go.Proofs.YtdbjmjeiaajdiaaDoor
open Go.ChangeShapes Go.WideShapes Go.ChangeAt Go.RowKit Go.Joins
section
variable {H : Type} {enc : TypeId × Value → H}
theorem valCells : Tryd.prog.cellsOf 26 = 3 := by kernel_rfl
set_option maxRecDepth 10000 in
theorem shut_val {W' : World} {b : Nat} {sp : Nat → Bool} {hd : Bool} {k n : Int} {t : ByteArray} (wk : (Lit.int .i64 k).wf = true) (wn : (Lit.int .i64 n).wf = true) (wt : t.size ≤ maxLen) :
    DataW.Trod enc Tryd.prog W' b sp hd 26 (.agg #[.int .i64 k, .int .i64 n, .string t]) (.agg [.lit (.int .i64 k), .lit (.int .i64 n), .lit (.string t.data.toList)]) [] := by
  simpa using shut_agg3 (enc := enc) (w := W') (base := b) (spare := sp) (held := hd) (y0 := (.lit (.int .i64 k), [])) (y1 := (.lit (.int .i64 n), [])) (y2 := (.lit (.string t.data.toList), [])) Tryd.underlying26 (by kernel_rfl) valCells
    ⟨1, by simp [DataW.trod, Tryd.underlying3, wk]⟩ ⟨1, by simp [DataW.trod, Tryd.underlying2, wn]⟩ ⟨1, by simp [DataW.trod, Tryd.underlying9, wt]⟩
set_option maxRecDepth 10000 in
theorem open_val {r : Reach} {b0 base : Nat} {W : World} {sp : Nat → Bool} {hd : Bool} {v : Value} {d : DataW H} {p : List MemPlace} (hv : Value.okWide Tryd.prog W r b0 26 v) (h : DataW.Trod enc Tryd.prog W base sp hd 26 v d p) :
    ∃ (k n : Int) (t : ByteArray), v = .agg #[.int .i64 k, .int .i64 n, .string t] ∧ d = .agg [.lit (.int .i64 k), .lit (.int .i64 n), .lit (.string t.data.toList)] ∧ p = [] ∧ (Lit.int .i64 k).wf = true ∧ (Lit.int .i64 n).wf = true ∧ t.size ≤ maxLen := by
  obtain ⟨c0, c1, c2, y0, y1, y2, m, rfl, rfl, rfl, hy0, hy1, hy2⟩ := open_agg3 Tryd.underlying26 (by kernel_rfl) valCells hv h
  obtain ⟨k, e0, rfl, wk⟩ := DataW.trod_int Tryd.underlying3 hy0
  obtain ⟨n, e1, rfl, wn⟩ := DataW.trod_int Tryd.underlying2 hy1
  obtain ⟨t, e2, rfl, wt⟩ := DataW.trod_string Tryd.underlying9 hy2
  simp only [List.cons.injEq, and_true] at e0 e1 e2
  subst e0 e1 e2
  exact ⟨k, n, t, rfl, rfl, rfl, wk, wn, wt⟩
theorem sized_field {P : Program} {ts : List TypeId} {ds : List (DataW H)} (h : (DataW.weightsEach P ts ds).all (· ≤ reachBytes) = true) {j : Nat} {e : TypeId} {parts : List (DataW H)} {fs : Array Field} (ht : ts[j]? = some e) (hd : ds[j]? = some (.agg parts))
    (he : P.underlying e = some (.struct fs)) {i : Nat} {T : TypeId} {bytes : List UInt8} (hi : (fs.toList.map (·.type))[i]? = some T) (hp : parts[i]? = some (.lit (.string bytes))) : bytes.length ≤ reachBytes := by
  have h1 : bytes.length ∈ (DataW.lit (H := H) (.string bytes)).weights P T := by simp [DataW.weights]
  have h2 : bytes.length ∈ (DataW.agg parts).weights P e := by
    unfold DataW.weights
    rw [he]
    exact DataW.weights_mem_each hi hp _ h1
  have h5 := DataW.weights_mem_each ht hd _ h2
  have := List.all_eq_true.1 h _ h5
  simpa using this
end
end Go.Proofs.YtdbjmjeiaajdiaaDoor
