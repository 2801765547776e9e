/- Arguments that lead to memory: behind a call that leaves all that was there alone they read as before; a slice of structs of one-cell fields, element by element; how long a text within may be. -/
import Derived.Test.YtpiiemneelkpkaaGreatDoorGfr
import Derived.Carry
import Derived.ChangeOld
import Derived.Deep.Slices
import Derived.Deep.Fields
import Derived.ChangeSame
namespace Go.Proofs.YtpiiemneelkpkaaGreatDoor
open Go.ChangeShapes Go.WideShapes Go.ChangeAt Go.RowKit Go.WideElems Go.Deep
section
variable {H : Type} {enc : TypeId × Value → H} {P : Program}
/-- The types can be read and are rows of the table. -/
def rowed (P : Program) (ts : List TypeId) : Bool := ts.all fun t => P.readableRec t && decide (t < P.types.size)
theorem trodAll_below (hl : laidOutB P = true) {W W' : World} (hb : Below W.heap.size W W') :
    ∀ {ts : List TypeId} {vs : List Value} {ds : List (DataW H)} {ps : List MemPlace}, rowed P ts = true → (∀ p ∈ ps, p.block < W.heap.size) → DataW.TrodAll enc P W 0 (fun _ => true) true ts vs ds ps →
      ∀ sp : Nat → Bool, (∀ p ∈ ps, sp p.block = true) → DataW.TrodAll enc P W' 0 sp true ts vs ds ps
  | [], [], [], _, _, _, h, _, _ => h
  | _ :: _, [], _, _, _, _, h, _, _ => h.elim
  | _ :: _, _ :: _, [], _, _, _, h, _, _ => h.elim
  | [], _ :: _, _, _, _, _, h, _, _ => h.elim
  | [], [], _ :: _, _, _, _, h, _, _ => h.elim
  | t :: ts, v :: vs, d :: ds, ps, hr, hp, h, sp, hs => by
    obtain ⟨p, q, ⟨fuel, h1⟩, h2, rfl⟩ := h
    simp only [rowed, List.all_cons, Bool.and_eq_true] at hr
    have hx : P.readableRec t = true ∧ t < P.types.size := by simpa using hr.1
    refine ⟨p, q, ⟨fuel, ?_⟩, trodAll_below hl hb (by simpa [rowed] using hr.2) (fun x hx => hp x (by simp [hx])) h2 sp (fun x hx => hs x (by simp [hx])), rfl⟩
    exact DataW.trod_stays (kids_book hl hx.1) (book_sized hx.1) (fun h => by cases h) ⟨hx.2, book_self t⟩ h1 (fun x hx => hb.same (hp x (by simp [hx]))) (fun x hx => hs x (by simp [hx]))
theorem weightsAll_mem {e : TypeId} : ∀ {l : List (DataW H)} {d : DataW H}, d ∈ l → ∀ n ∈ d.weights P e, n ∈ DataW.weightsAll P e l
  | [], _, h, _, _ => by cases h
  | x :: r, d, h, n, hn => by
    unfold DataW.weightsAll
    rcases List.mem_cons.1 h with rfl | h
    · exact List.mem_append_left _ hn
    · exact List.mem_append_right _ (weightsAll_mem h n hn)
/-- A text in an element of a slice of structs takes no more than the reach. -/
theorem sized_elem {ts : List TypeId} {ds : List (DataW H)} (h : (DataW.weightsEach P ts ds).all (· ≤ reachBytes) = true) {j : Nat} {t e : TypeId} {elems spare parts : List (DataW H)} {fs : Array Field} (ht : ts[j]? = some t) (hd : ds[j]? = some (.slice elems spare))
    (hu : P.underlying t = some (.slice e)) (he : P.underlying e = some (.struct fs)) (hm : DataW.agg parts ∈ elems) {i : Nat} {T : TypeId} {bytes : List UInt8} (hi : (fs.toList.map (·.type))[i]? = some T) (hp : parts[i]? = some (.lit (.string bytes))) : bytes.length ≤ reachBytes := by
  have h1 : bytes.length ∈ (DataW.lit (H := H) (.string bytes)).weights P T := by simp [DataW.weights]
  have h2 : bytes.length ∈ (DataW.agg parts).weights P e := by
    unfold DataW.weights
    rw [he]
    exact DataW.weights_mem_each hi hp _ h1
  have h3 := weightsAll_mem (P := P) (e := e) hm _ h2
  have h4 : bytes.length ∈ (DataW.slice elems spare).weights P t := by
    unfold DataW.weights
    rw [hu]
    exact List.mem_cons_of_mem _ (List.mem_append_left _ h3)
  have h5 := DataW.weights_mem_each ht hd _ h4
  have := List.all_eq_true.1 h _ h5
  simpa using this
/-- How long a slice may be. -/
theorem sized_len {ts : List TypeId} {ds : List (DataW H)} (h : (DataW.weightsEach P ts ds).all (· ≤ reachBytes) = true) {j : Nat} {t e : TypeId} {elems spare : List (DataW H)} (ht : ts[j]? = some t) (hd : ds[j]? = some (.slice elems spare))
    (hu : P.underlying t = some (.slice e)) : (elems.length + spare.length) * P.bytesOf e ≤ reachBytes := by
  have h4 : (elems.length + spare.length) * P.bytesOf e ∈ (DataW.slice elems spare).weights P t := by
    unfold DataW.weights
    rw [hu]
    exact List.mem_cons_self ..
  have h5 := DataW.weights_mem_each ht hd _ h4
  have := List.all_eq_true.1 h _ h5
  simpa using this
/-- A struct of one-cell fields that was read: each field's cell and its own reading. -/
theorem struct_cells {w : World} {base : Nat} {spare : Nat → Bool} {held : Bool} {e : TypeId} {fs : Array Field} {A : Addr} {cs : List Value} {n : Nat} {D : DataW H} {Pl : List MemPlace} (he : P.underlying e = some (.struct fs)) (hone : oneCellFields P fs = true) (hC : P.cellsOf e = fs.size)
    (hc : w.cells? base A (P.cellsOf e) = some cs) (ht : DataW.trod enc P w base spare held n e cs = some (D, Pl)) :
    ∃ (ys : List (DataW H × List MemPlace)) (m : Nat), D = .agg (ys.map (·.1)) ∧ ∀ (j : Nat) (f : Field), fs[j]? = some f → ∃ (v : Value) (y : DataW H × List MemPlace), w.cell? (A.add j) = some v ∧ ys[j]? = some y ∧ DataW.trod enc P w base spare held m f.type [v] = some y := by
  obtain ⟨ys, m, _, hy, hlen, hyl, hf⟩ := DataW.trod_struct he ht
  obtain ⟨_, _, hat⟩ := World.cells?_some hc
  simp only [Prod.mk.injEq] at hy
  refine ⟨ys, m, hy.1, fun j f hj => ?_⟩
  obtain ⟨ho, hk⟩ := hone_of hone j f hj
  have hjl : j < fs.size := (Array.getElem?_eq_some_iff.1 hj).1
  have hcl : j < cs.length := by rw [hlen, hC]; exact hjl
  have h1 := hf j f hj
  rw [ho, hk, List.drop_eq_getElem_cons hcl] at h1
  have hys : ys[j]? = some (ys[j]'(by omega)) := List.getElem?_eq_getElem (by omega)
  refine ⟨cs[j], ys[j]'(by omega), ?_, hys, h1.trans hys⟩
  rw [hat j (by rw [hC]; exact hjl), List.getElem?_eq_getElem hcl]
end
end Go.Proofs.YtpiiemneelkpkaaGreatDoor
