/- Slices of structs of structs that came in: element by element, field by field; how long a text within may be. -/
import Derived.Test.YtpiiemneelkpkaaGreatDoorFrameS
namespace Go.Proofs.YtpiiemneelkpkaaGreatDoor
open Go.ChangeShapes Go.WideShapes Go.ChangeAt Go.RowKit Go.WideElems Go.Deep
section
variable {H : Type} {enc : TypeId × Value → H} {P : Program}
/-- A struct that was read: each field's own reading. -/
theorem struct_open {w : World} {base : Nat} {spare : Nat → Bool} {held : Bool} {e : TypeId} {fs : Array Field} {cs : List Value} {n : Nat} {D : DataW H × List MemPlace} (he : P.underlying e = some (.struct fs)) (ht : DataW.trod enc P w base spare held n e cs = some D) :
    ∃ (ys : List (DataW H × List MemPlace)) (m : Nat), D.1 = .agg (ys.map (·.1)) ∧ cs.length = P.cellsOf e ∧ ∀ (j : Nat) (f : Field), fs[j]? = some f → ∀ (T o k : Nat), f.type = T → f.offset = o → P.cellsOf T = k → ∃ y, ys[j]? = some y ∧ DataW.trod enc P w base spare held m T ((cs.drop o).take k) = some y := by
  obtain ⟨ys, m, _, hy, hlen, hyl, hf⟩ := DataW.trod_struct he ht
  refine ⟨ys, m, by rw [hy], hlen, fun j f hj T o k hT ho hk => ?_⟩
  have hjl : j < fs.size := (Array.getElem?_eq_some_iff.1 hj).1
  have h1 := hf j f hj
  rw [hT, ho, hk] at h1
  have hys : ys[j]? = some (ys[j]'(by omega)) := List.getElem?_eq_getElem (by omega)
  exact ⟨_, hys, h1.trans hys⟩
theorem weights_field {d : DataW H} {e : TypeId} {parts : List (DataW H)} {fs : Array Field} (he : P.underlying e = some (.struct fs)) (hd : d = .agg parts) {i : Nat} {T : TypeId} {c : DataW H} (hi : (fs.toList.map (·.type))[i]? = some T) (hp : parts[i]? = some c) {n : Nat} (hn : n ∈ c.weights P T) : n ∈ d.weights P e := by
  subst hd
  unfold DataW.weights
  rw [he]
  exact DataW.weights_mem_each hi hp _ hn
theorem weights_str {T : TypeId} {bytes : List UInt8} {d : DataW H} (hd : d = .lit (.string bytes)) : bytes.length ∈ d.weights P T := by subst hd; simp [DataW.weights]
/-- What an element of a slice weighs is within the reach. -/
theorem sized_in {ts : List TypeId} {ds : List (DataW H)} (h : (DataW.weightsEach P ts ds).all (· ≤ reachBytes) = true) {j : Nat} {t e : TypeId} {elems spare : List (DataW H)} {d : DataW H} (ht : ts[j]? = some t) (hd : ds[j]? = some (.slice elems spare))
    (hu : P.underlying t = some (.slice e)) (hm : d ∈ elems) {n : Nat} (hn : n ∈ d.weights P e) : n ≤ reachBytes := by
  have h3 := weightsAll_mem (P := P) (e := e) hm _ hn
  have h4 : n ∈ (DataW.slice elems spare).weights P t := by
    unfold DataW.weights
    rw [hu]
    exact List.mem_cons_of_mem _ (List.mem_append_left _ h3)
  have h5 := DataW.weights_mem_each ht hd _ h4
  have := List.all_eq_true.1 h _ h5
  simpa using this
theorem list8 {α : Type} {cs : List α} (h : cs.length = 8) : ∃ c0 c1 c2 c3 c4 c5 c6 c7, cs = [c0, c1, c2, c3, c4, c5, c6, c7] := by
  match cs, h with
  | [c0, c1, c2, c3, c4, c5, c6, c7], _ => exact ⟨c0, c1, c2, c3, c4, c5, c6, c7, rfl⟩
theorem list6 {α : Type} {cs : List α} (h : cs.length = 6) : ∃ c0 c1 c2 c3 c4 c5, cs = [c0, c1, c2, c3, c4, c5] := by
  match cs, h with
  | [c0, c1, c2, c3, c4, c5], _ => exact ⟨c0, c1, c2, c3, c4, c5, rfl⟩
theorem add_spot (b o i j : Nat) : ((⟨b, o, none⟩ : Addr).add i).add j = ⟨b, o + i + j, none⟩ := by
  unfold Addr.add
  by_cases h1 : i = 0 <;> by_cases h2 : j = 0 <;> simp [h1, h2]
end
end Go.Proofs.YtpiiemneelkpkaaGreatDoor
