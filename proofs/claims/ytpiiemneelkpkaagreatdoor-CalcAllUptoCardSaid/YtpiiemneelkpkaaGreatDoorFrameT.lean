import Derived.Test.YtpiiemneelkpkaaGreatDoorFrameS
namespace Go.Proofs.YtpiiemneelkpkaaGreatDoor
open Go.ChangeShapes Go.WideShapes Go.ChangeAt Go.RowKit Go.WideElems Go.Deep
section
variable {H : Type} {enc : TypeId × Value → H} {P : Program}
theorem struct_open {w : World} {base : Nat} {spare : Nat → Bool} {held : Bool} {e : TypeId} {fs : Array Field} {cs : List Value} {n : Nat} {D : DataW H × List MemPlace} (he : P.underlying e = some (.struct fs)) (ht : DataW.trod enc P w base spare held n e cs = some D) :
  ∃ (ys : List (DataW H × List MemPlace)) (m : Nat), D.1 = .agg (ys.map (·.1)) ∧ cs.length = P.cellsOf e ∧ ∀ (j : Nat) (f : Field), fs[j]? = some f → ∀ (T o k : Nat), f.type = T → f.offset = o → P.cellsOf T = k → ∃ y, ys[j]? = some y ∧ DataW.trod enc P w base spare held m T ((cs.drop o).take k) = some y := by
 obtain ⟨ys, m, _, hy, hlen, hyl, hf⟩ := DataW.trod_struct he ht
 refine ⟨ys, m, by rw [hy], hlen, fun j f hj T o k hT ho hk => ?_⟩
 have hjl : j < fs.size := (Array.getElem?_eq_some_iff.1 hj).1
 have h1 := hf j f hj
 rw [hT, ho, hk] at h1
 have hys : ys[j]? = some (ys[j]'(by omega)) := List.getElem?_eq_getElem (by omega)
 exact ⟨_, hys, h1.trans hys⟩
theorem weights_field {d : DataW H} {e : TypeId} {parts : List (DataW H)} {fs : Array Field} (he : P.underlying e = some (.struct fs)) (hd : d = .agg parts) {i : Nat} {T : TypeId} {c : DataW H} (hi : (fs.toList.map (·.type))[i]? = some T) (hp : parts[i]? = some c) {n : Nat} (hn : n ∈ c.weights P T) : n ∈ d.weights P e := by
 subst hd
 unfold DataW.weights
 rw [he]
 exact DataW.weights_mem_each hi hp _ hn
theorem weights_str {T : TypeId} {bytes : List UInt8} {d : DataW H} (hd : d = .lit (.string bytes)) : bytes.length ∈ d.weights P T := by subst hd; simp [DataW.weights]
theorem add_spot (b o i j : Nat) : ((⟨b, o, none⟩ : Addr).add i).add j = ⟨b, o + i + j, none⟩ := by
 unfold Addr.add
 by_cases h1 : i = 0 <;> by_cases h2 : j = 0 <;> simp [h1, h2]
end
end Go.Proofs.YtpiiemneelkpkaaGreatDoor
