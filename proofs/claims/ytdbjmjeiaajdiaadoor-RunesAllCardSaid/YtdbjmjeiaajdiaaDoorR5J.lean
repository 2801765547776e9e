/- quadrillelaw5.goes: the runes of a text, one by one, are the document's: a range over a function within another. -/
import Derived.Test.YtdbjmjeiaajdiaaDoorR5G
import Derived.Test.YtdbjmjeiaajdiaaDoorRunG
import Derived.RangeFuncNested
import Derived.Laws.EntriesVeiled
namespace Go.Proofs.YtdbjmjeiaajdiaaDoor
open Go.RowKit Go.Shelf
set_option linter.unusedVariables false
section
variable {F : Fence} {n : Nat} {P : Program}
/-- The law for a loop whose body holds another: the frame behind the assignment by a function. -/
theorem rangeH1 {α : Type} {g : Operand} {ps : Array Tmp} {assign body : Code} {Q : Exit → Act → World → Prop} {a : Act} {w : World}
    (hro : F.round = none) (h1 : 1 ≤ n) {gf : Nat} {lb : Array Value} (hg : a.eval g = .func (.func gf) #[] lb) (hFg : F.fn gf) (eg : ∀ args w, (callFunc gf args).run P w = .ok (.enter gf args) w)
    {encs : α → Array Value} {S Sp : List α → Prop} {N : Nat} {w0 : World} (hseq : SeqStopsK F (n - 1) P gf lb encs KeepsWalks S Sp N w0)
    (hb0 : Below w0.heap.size w0 w) (hps : ∀ x, (encs x).size = ps.size)
    (I : List α → World → Prop) (Ix : Code → List α → World → Prop) (hI : OwnFrom w.heap.size I) (hIx : ∀ c, OwnFrom w.heap.size (Ix c)) (h0 : I [] w) (a₁ : α → Act)
    (hassign : ∀ (l : Nat) (x : α) (W : World) (K : Act → World → Prop), K (a₁ x) W →
      assign.wpIn (F.inRound l) (n - 1 - 1) P (Exit.then K (fun _ _ _ => False)) { tmps := (ps.zip (encs x)).foldl (fun t (p, v) => t.setIfInBounds p v) a.tmps, defers := [] } W)
    (hbody : ∀ (l : Nat) (pre : List α) (x : α) (W : World), w.heap.size ≤ l → (∃ r, W.heap[l]? = some (.loop r)) → I pre W → pre.length < N → body.wpIn (F.inRound l) (n - 1 - 1) P (ownPostG w.heap.size KeepsWalks I Ix (pre ++ [x]) W) (a₁ x) W)
    (hdone : ∀ (D : Nat) (xs : List α) (W : World), w.heap.size ≤ D → S xs → I xs W → W.heap[D]? = some (.deferred (some [])) → Q .normal { a with defers := { target := .collected D, args := #[] } :: a.defers } W)
    (hstop : ∀ (D : Nat) (c : Code) (pre : List α) (W : World), w.heap.size ≤ D → Sp pre → Ix c pre W → W.heap[D]? = some (.deferred (some [])) → c.wpIn F n P Q { a with defers := { target := .collected D, args := #[] } :: a.defers } W) :
    (Code.rangeFunc g ps assign body).wpIn F n P Q a w :=
  wpIn_rangeFunc_ownH hro h1 hg hFg eg hseq walksK_t walksK_b hb0 hps I Ix hI hIx h0 (fun x a' _ => a' = a₁ x) (fun _ _ _ _ _ _ hs _ _ => hs)
    (fun l pre x W K hi hK => hassign l x W K (hK _ _ (KeepsFrom.refl _ _) (KeepsWalks.refl W) hi rfl)) (fun l pre x a' W h2 h3 hi e => by subst e; exact hbody l pre x W h2 h3 hi) hdone hstop
theorem rangeN1 {α : Type} {g : Operand} {ps : Array Tmp} {assign body : Code} {Q : Exit → Act → World → Prop} {a : Act} {w : World}
    {l₀ : Nat} {r₀ : Loop} (hro : F.round = some l₀) (hl₀ : w.heap[l₀]? = some (.loop r₀)) (h1 : 1 ≤ n) {gf : Nat} {lb : Array Value} (hg : a.eval g = .func (.func gf) #[] lb) (hFg : F.fn gf) (eg : ∀ args w, (callFunc gf args).run P w = .ok (.enter gf args) w)
    {encs : α → Array Value} {S Sp : List α → Prop} {N : Nat} {w0 : World} (hseq : SeqStopsK F (n - 1) P gf lb encs KeepsWalks S Sp N w0)
    (hb0 : Below w0.heap.size w0 w) (hps : ∀ x, (encs x).size = ps.size)
    (I : List α → World → Prop) (Ix : Code → List α → World → Prop) (hI : OwnFrom w.heap.size I) (hIx : ∀ c, OwnFrom w.heap.size (Ix c)) (h0 : I [] w) (a₁ : α → Act)
    (hassign : ∀ (l : Nat) (x : α) (W : World) (K : Act → World → Prop), K (a₁ x) W →
      assign.wpIn (F.inRound l) (n - 1 - 1) P (Exit.then K (fun _ _ _ => False)) { tmps := (ps.zip (encs x)).foldl (fun t (p, v) => t.setIfInBounds p v) a.tmps, defers := [] } W)
    (hbody : ∀ (l : Nat) (pre : List α) (x : α) (W : World), I pre W → pre.length < N → body.wpIn (F.inRound l) (n - 1 - 1) P (ownPostG w.heap.size KeepsWalks I Ix (pre ++ [x]) W) (a₁ x) W)
    (hdone : ∀ (xs : List α) (W : World), S xs → I xs W → Q .normal a W)
    (hstop : ∀ (c : Code) (pre : List α) (W : World), Sp pre → Ix c pre W → c.wpIn F n P Q a W) :
    (Code.rangeFunc g ps assign body).wpIn F n P Q a w :=
  wpIn_rangeFunc_ownN hro hl₀ h1 hg hFg eg hseq walksK_t walksK_b hb0 hps I Ix hI hIx h0 (fun x a' _ => a' = a₁ x) (fun _ _ _ _ _ _ hs _ _ => hs)
    (fun l pre x W K hi hK => hassign l x W K (hK _ _ (KeepsFrom.refl _ _) (KeepsWalks.refl W) hi rfl)) (fun l pre x a' W _ _ hi e => by subst e; exact hbody l pre x W hi) hdone hstop
/-- What a world keeps of the walks that lay in an elder one. -/
theorem ownFrom_walks {β : Type} {B : Nat} {w₀ : World} (hB : w₀.heap.size ≤ B) : OwnFrom B (fun (_ : β) W => KeepsWalks w₀ W) :=
  fun _ X Y row hs hg hr => ⟨Nat.le_trans hs.size hg.size, fun k o hk ho => by
    have hX := hs.same k o hk ho
    refine (hg.block k (Array.getElem?_eq_some_iff.1 hX).1 (fun e => ?_)).trans hX
    have h1 := (hr k e.symm).1
    have h2 := (Array.getElem?_eq_some_iff.1 hk).1
    omega⟩
theorem its_at (s : ByteArray) (k : Nat) : its s (k + 1) = its s k ++ [(Run.adv s k 0, (Utf8.decode s (Run.adv s k 0)).1)] := rfl
/-- What the loop sees of a pair. -/
def seen (x : Nat × Nat) : Nat × Int := (x.1, IntKind.i64.wrap (x.2 : Int))
def itI (s : ByteArray) (k : Nat) : List (Nat × Int) := (its s k).map fun x => (x.1, (x.2 : Int))
def Good (s : ByteArray) (pre : List (Nat × Nat)) : Prop := pre.map seen = itI s pre.length
def Good1 (s : ByteArray) (pre : List (Nat × Nat)) : Prop := pre.map (·.1) = (its s pre.length).map (·.1)
theorem seen_its (s : ByteArray) : ∀ k, (its s k).map seen = itI s k
  | 0 => rfl
  | k + 1 => by
    have h := seen_its s k
    have hd := decode_le s (Run.adv s k 0)
    have e : IntKind.i64.wrap (((Utf8.decode s (Run.adv s k 0)).1 : Nat) : Int) = (((Utf8.decode s (Run.adv s k 0)).1 : Nat) : Int) := by
      generalize (Utf8.decode s (Run.adv s k 0)).1 = d at *
      rw [IntKind.wrap_i64]
      omega
    rw [its_at, List.map_append, h]
    show itI s k ++ [(Run.adv s k 0, IntKind.i64.wrap (((Utf8.decode s (Run.adv s k 0)).1 : Nat) : Int))] = itI s (k + 1)
    rw [e]
    unfold itI
    rw [its_at, List.map_append]
    rfl
theorem good_its (s : ByteArray) (k : Nat) : Good s (its s k) := by
  unfold Good
  rw [its_length]
  exact seen_its s k
theorem good1_its (s : ByteArray) (k : Nat) : Good1 s (its s k) := by
  unfold Good1
  rw [its_length]
theorem good_nil (s : ByteArray) : Good s [] := rfl
theorem good1_nil (s : ByteArray) : Good1 s [] := rfl
theorem itI_at (s : ByteArray) (k : Nat) : itI s (k + 1) = itI s k ++ [(Run.adv s k 0, (((Utf8.decode s (Run.adv s k 0)).1 : Nat) : Int))] := by
  unfold itI
  rw [its_at, List.map_append]
  rfl
theorem good_next {s : ByteArray} {pre : List (Nat × Nat)} {x : Nat × Nat} {k : Nat} (hk : pre.length = k) (h : Good s pre) (h1 : x.1 = Run.adv s k 0) (h2 : IntKind.i64.wrap (x.2 : Int) = (((Utf8.decode s (Run.adv s k 0)).1 : Nat) : Int)) : Good s (pre ++ [x]) := by
  subst hk
  unfold Good at h ⊢
  rw [List.length_append]
  show (pre ++ [x]).map seen = itI s (pre.length + 1)
  rw [itI_at, List.map_append, h]
  congr 1
  show [seen x] = _
  unfold seen
  rw [h1, h2]
theorem good_not {s : ByteArray} {pre : List (Nat × Nat)} {x : Nat × Nat} {k : Nat} (hk : pre.length = k) (h : ¬ (x.1 = Run.adv s k 0 ∧ IntKind.i64.wrap (x.2 : Int) = (((Utf8.decode s (Run.adv s k 0)).1 : Nat) : Int))) (hp : Good s pre) : ¬ Good s (pre ++ [x]) := by
  subst hk
  intro e
  unfold Good at e hp
  rw [List.length_append] at e
  have e2 : (pre ++ [x]).map seen = itI s (pre.length + 1) := e
  rw [itI_at, List.map_append, hp] at e2
  have e3 := List.append_cancel_left e2
  have e4 : seen x = _ := List.head_eq_of_cons_eq e3
  unfold seen at e4
  exact h ⟨congrArg Prod.fst e4, congrArg Prod.snd e4⟩
theorem good1_next {s : ByteArray} {pre : List (Nat × Nat)} {x : Nat × Nat} {k : Nat} (hk : pre.length = k) (h : Good1 s pre) (h1 : x.1 = Run.adv s k 0) : Good1 s (pre ++ [x]) := by
  subst hk
  unfold Good1 at h ⊢
  rw [List.length_append]
  show (pre ++ [x]).map (·.1) = (its s (pre.length + 1)).map (·.1)
  rw [its_at, List.map_append, List.map_append, h]
  congr 1
  show [x.1] = _
  rw [h1]
  rfl
theorem good1_not {s : ByteArray} {pre : List (Nat × Nat)} {x : Nat × Nat} {k : Nat} (hk : pre.length = k) (h : ¬ x.1 = Run.adv s k 0) (hp : Good1 s pre) : ¬ Good1 s (pre ++ [x]) := by
  subst hk
  intro e
  unfold Good1 at e hp
  rw [List.length_append] at e
  have e2 : (pre ++ [x]).map (·.1) = (its s (pre.length + 1)).map (·.1) := e
  rw [its_at, List.map_append, List.map_append, hp] at e2
  have e3 := List.append_cancel_left e2
  exact h (List.head_eq_of_cons_eq e3)
theorem keepsFrom_below {B : Nat} {W W' : World} (h : Below W.heap.size W W') : KeepsFrom B W W' := ⟨h.size, fun k _ _ hk _ => (h.block k (Array.getElem?_eq_some_iff.1 hk).1).trans hk⟩
theorem keepsWalks_below {W W' : World} (h : Below W.heap.size W W') : KeepsWalks W W' := ⟨h.size, fun k _ hk _ => (h.block k (Array.getElem?_eq_some_iff.1 hk).1).trans hk⟩
theorem ownFrom_block {β : Type} {B D : Nat} {o : Obj} (hD : D < B) : OwnFrom B (fun (_ : β) W => W.heap[D]? = some o) :=
  fun _ X Y row hs hg hr => (hg.block D (Array.getElem?_eq_some_iff.1 hs).1 (fun e => by have := (hr D e.symm).1; omega)).trans hs
theorem Boxed.below5 {W W' : World} {n B : Nat} {t : TypeId} {v : Value} (h : Boxed W B t v) (hb : Below n W W') (hB : B < n) : Boxed W' B t v := (hb.block B hB).trans h
theorem setCell_block5 {W : World} {B D : Nat} {o : Obj} (h : W.heap[D]? = some o) (hne : D ≠ B) (u : Value) : (W.setCell ⟨B, 0, none⟩ u).heap[D]? = some o := by
  have hg := grownBy_setCell' W B u
  exact (hg.block D (Array.getElem?_eq_some_iff.1 h).1 (by simpa using hne)).trans h
end
end Go.Proofs.YtdbjmjeiaajdiaaDoor
