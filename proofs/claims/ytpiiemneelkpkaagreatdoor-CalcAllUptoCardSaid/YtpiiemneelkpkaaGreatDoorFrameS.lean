import Derived.Test.YtpiiemneelkpkaaGreatDoorGfr
import Derived.Carry
import Derived.ChangeOld
import Derived.Deep.Slices
import Derived.Deep.Fields
import Derived.ChangeSame
namespace Go.Proofs.YtpiiemneelkpkaaGreatDoor
open Go.ChangeShapes Go.WideShapes Go.ChangeAt Go.RowKit Go.WideElems Go.Deep
section
variable {H : Type} {enc : TypeId × Value → H} {P : Program}
def rowed (P : Program) (ts : List TypeId) : Bool := ts.all fun t => P.readableRec t && decide (t < P.types.size)
theorem trodAll_below (hl : laidOutB P = true) {W W' : World} (hb : Below W.heap.size W W') :
  ∀ {ts : List TypeId} {vs : List Value} {ds : List (DataW H)} {ps : List MemPlace}, rowed P ts = true → (∀ p ∈ ps, p.block < W.heap.size) → DataW.TrodAll enc P W 0 (fun _ => true) true ts vs ds ps →
   ∀ sp : Nat → Bool, (∀ p ∈ ps, sp p.block = true) → DataW.TrodAll enc P W' 0 sp true ts vs ds ps
 | [], [], [], _, _, _, h, _, _ => h
 | _ :: _, [], _, _, _, _, h, _, _ => h.elim
 | _ :: _, _ :: _, [], _, _, _, h, _, _ => h.elim
 | [], _ :: _, _, _, _, _, h, _, _ => h.elim
 | [], [], _ :: _, _, _, _, h, _, _ => h.elim
 | t :: ts, v :: vs, d :: ds, ps, hr, hp, h, sp, hs => by
  obtain ⟨p, q, ⟨fuel, h1⟩, h2, rfl⟩ := h
  simp only [rowed, List.all_cons, Bool.and_eq_true] at hr
  have hx : P.readableRec t = true ∧ t < P.types.size := by simpa using hr.1
  refine ⟨p, q, ⟨fuel, ?_⟩, trodAll_below hl hb (by simpa [rowed] using hr.2) (fun x hx => hp x (by simp [hx])) h2 sp (fun x hx => hs x (by simp [hx])), rfl⟩
  exact DataW.trod_stays (kids_book hl hx.1) (book_sized hx.1) (fun h => by cases h) ⟨hx.2, book_self t⟩ h1 (fun x hx => hb.same (hp x (by simp [hx]))) (fun x hx => hs x (by simp [hx]))
theorem weightsAll_mem {e : TypeId} : ∀ {l : List (DataW H)} {d : DataW H}, d ∈ l → ∀ n ∈ d.weights P e, n ∈ DataW.weightsAll P e l
 | [], _, h, _, _ => by cases h
 | x :: r, d, h, n, hn => by
  unfold DataW.weightsAll
  rcases List.mem_cons.1 h with rfl | h
  ·exact List.mem_append_left _ hn
  ·exact List.mem_append_right _ (weightsAll_mem h n hn)
end
end Go.Proofs.YtpiiemneelkpkaaGreatDoor
