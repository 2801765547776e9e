import Derived.Orders
import Derived.Below
import Derived.Deep.RegionWith
import Derived.Lib.Hide
import Derived.RowKit
namespace Go.Proofs.YtpiiemneelkpkaaGreatDoor
open Go Go.RowKit
set_option linter.unusedVariables false
namespace Drw
variable {P : Program} {ops : Array Oper} {Q : Exit → Act → World → Prop}
def dst (ops : Array Oper) (j : Nat) : Option Tmp := (ops[j]?).bind (·.dst)
def putAll (ops : Array Oper) (f : Nat → Value) : List Nat → Act → Act
 | [], a => a
 | j :: js, a => putAll ops f js (a.put (dst ops j) (f j))
def giveUpon (P : Program) (R : Value → World → Prop) : Result Next → Prop
 | .ok (.value v) w' => R v w'
 | .ok .skip w' => R undef w'
 | .ok (.enter f args) w' => Calls P f args w' fun e w'' => ∃ v, e = .returned v ∧ R v w''
 | .ok (.row row args) w' => Rows P row args w' R
 | _ => False
def Give (P : Program) (ops : Array Oper) (o : Oper) (b : Act) (w : World) (R : Value → World → Prop) : Prop :=
 if Region.wanted o (yielded ops b.tmps) = true then giveUpon P R ((execOp b.eval o).run P w) else R undef w
theorem wpOp_of_give {i : Nat} {o : Oper} {a b : Act} {w : World} {R : Value → World → Prop} {K : Act → World → Prop} (ho : ops[i]? = some o) (hs : ∀ cs x, o.op ≠ .select cs x)
  (hl : ∀ t ∈ o.looksAt ops, a.tmps[t]? = b.tmps[t]?) (hK : ∀ v w', R v w' → K (a.put o.dst v) w') (h : Give P ops o b w R) : wpOp P ops Q i K a w := by
 have he : execOp a.eval o = execOp b.eval o := execOp_congr o hs fun x hx => by
  cases x with
  | tmp t =>
   have := hl t (List.mem_append_left _ (List.mem_filterMap.2 ⟨.tmp t, by simpa using hx, rfl⟩))
   simp [Act.eval, this]
  | _ => rfl
 have hw : Region.wanted o (yielded ops a.tmps) = Region.wanted o (yielded ops b.tmps) := by
  unfold Region.wanted
  cases hg : o.guard with
  | none => rfl
  | some gw =>
   obtain ⟨g, want⟩ := gw
   have hy : yielded ops a.tmps g = yielded ops b.tmps g := by
    unfold yielded
    cases ht : (ops[g]?).bind (·.dst) with
    | none => rfl
    | some t =>
     have := hl t (by simp [Oper.looksAt, hg, ht])
     simp [this]
   simp only [hy]
 unfold wpOp
 simp only [ho]
 unfold Give at h
 rw [hw]
 split
 ·rename_i hwd
  rw [if_pos hwd] at h
  refine .inl ?_
  unfold Oper.wp
  rw [he]
  generalize (execOp b.eval o).run P w = r at *
  cases r with
  | ok n w' =>
   cases n <;> simp only [giveUpon, Oper.upon] at h ⊢
   case value u => exact hK _ _ h
   case skip => exact hK _ _ h
   case enter f args => exact Calls.mono h fun e w'' ⟨v, he, hr⟩ => by subst he; exact hK _ _ hr
   case row row args => exact Rows.mono h fun v w'' hr => hK _ _ hr
  | halt x w' => cases x <;> simp only [giveUpon] at h
 ·rename_i hwd
  rw [if_neg hwd] at h
  exact hK _ _ h
def Blk (f : Nat → Value) (o : Obj) (v : Value) (w : World) : Prop := ∃ b, v = f b ∧ w.heap[b]? = some o
theorem own {f : Nat → Value} {o : Obj} {v : Value} {w : World} (h : Blk f o v w) : ∃ b, v = f b ∧ w.heap[b]? = some o := h
theorem val {v x : Value} (h : v = x) : v = x := h
theorem no {b : Bool} {p : Prop} (h : b = false) (k : b = true) : p := by rw [h] at k; cases k
theorem st {p : Value → Prop} (v : Value) (w w' : World) (h : Below w.heap.size w w') (hv : p v) : p v := hv
theorem lt_nil {p : Nat → Prop} : ∀ j, j < 0 → p j := fun j h => absurd h (Nat.not_lt_zero j)
theorem lt_succ {p : Nat → Prop} {n : Nat} (h : ∀ j, j < n → p j) (hn : p n) : ∀ j, j < n + 1 → p j := fun j hj => by
 by_cases e : j = n
 ·subst e; exact hn
 ·exact h j (by omega)
def blk : Value → Option Nat
 | .pointer (some p) => some p.block
 | .slice (some p) _ _ => some p.block
 | _ => none
def waits (ops : Array Oper) : Nat → Nat → Nat → Bool
 | 0, _, _ => false
 | k + 1, i, j => ((ops[i]?).map fun o => o.after.any fun e => Region.binds .any e && (e.on == j || waits ops k e.on j)).getD false
def needs (o : Oper) (j : Nat) : Bool := o.after.toList.any fun e => Region.binds .any e && e.on == j
def okOps (ops : Array Oper) (m : Nat) : Bool :=
 decide (m ≤ ops.size) && Region.noSelect ops &&
 (List.range ops.size).all (fun i => ((ops[i]?).map fun o => o.after.all fun e => !Region.binds .any e || decide (e.on < i)).getD true) &&
 (List.range m).all (fun i => ((ops[i]?).map fun o => (o.looksAt ops).all fun t => (List.range m).all fun j => dst ops j != some t || needs o j).getD true) &&
 (List.range m).all (fun j => (List.range m).all fun k => j == k || dst ops j == none || dst ops j != dst ops k) &&
 (List.range ops.size).all (fun i => decide (i < m) || (List.range m).all fun j => waits ops ops.size i j)
section
variable {m : Nat}
theorem ok_le (h : okOps ops m = true) : m ≤ ops.size := by
 unfold okOps at h; simp only [Bool.and_eq_true, decide_eq_true_eq] at h; exact h.1.1.1.1.1
theorem ok_sel (h : okOps ops m = true) {i : Nat} {o : Oper} (ho : ops[i]? = some o) : ∀ cs x, o.op ≠ .select cs x := by
 unfold okOps at h; simp only [Bool.and_eq_true] at h; exact fun cs x => Region.noSelect_spec h.1.1.1.1.2 i o cs x ho
theorem ok_back (h : okOps ops m = true) {i : Nat} {o : Oper} (ho : ops[i]? = some o) {e : Edge} (he : e ∈ o.after) (hb : Region.binds .any e = true) : e.on < i := by
 unfold okOps at h; simp only [Bool.and_eq_true] at h
 have h3 := h.1.1.1.2
 have hi : i < ops.size := (Array.getElem?_eq_some_iff.1 ho).1
 have := List.all_eq_true.1 h3 i (by simpa using hi)
 simp only [ho, Option.map_some, Option.getD_some] at this
 have := Array.all_eq_true_iff_forall_mem.1 this e he
 simpa [hb] using this
theorem ok_ground (h : okOps ops m = true) {i : Nat} (hi : i < m) {o : Oper} (ho : ops[i]? = some o) {t : Tmp} (ht : t ∈ o.looksAt ops) {j : Nat} (hj : j < m) (hd : dst ops j = some t) : needs o j = true := by
 unfold okOps at h; simp only [Bool.and_eq_true] at h
 have h3 := h.1.1.2
 have := List.all_eq_true.1 h3 i (by simpa using hi)
 simp only [ho, Option.map_some, Option.getD_some] at this
 have := List.all_eq_true.1 (List.all_eq_true.1 this t ht) j (by simpa using hj)
 simpa [hd] using this
theorem ok_one (h : okOps ops m = true) {j k : Nat} (hj : j < m) (hk : k < m) {t : Tmp} (h1 : dst ops j = some t) (h2 : dst ops k = some t) : j = k := by
 unfold okOps at h; simp only [Bool.and_eq_true] at h
 have := List.all_eq_true.1 (List.all_eq_true.1 h.1.2 j (by simpa using hj)) k (by simpa using hk)
 simpa [h1, h2] using this
theorem ok_late (h : okOps ops m = true) {i : Nat} (hi : i < ops.size) (hm : m ≤ i) {j : Nat} (hj : j < m) : waits ops ops.size i j = true := by
 unfold okOps at h; simp only [Bool.and_eq_true] at h
 have := List.all_eq_true.1 h.2 i (by simpa using hi)
 simp only [Bool.or_eq_true, decide_eq_true_eq] at this
 rcases this with h | h
 ·omega
 ·exact List.all_eq_true.1 h j (by simpa using hj)
theorem putAll_defers (f : Nat → Value) : ∀ (js : List Nat) (a : Act), (putAll ops f js a).defers = a.defers
 | [], a => rfl
 | j :: js, a => by
  unfold putAll
  rw [putAll_defers f js]
  cases dst ops j <;> rfl
theorem put_size (a : Act) (x : Option Tmp) (v : Value) : (a.put x v).tmps.size = a.tmps.size := by cases x <;> simp [Act.put]
theorem putAll_size (f : Nat → Value) : ∀ (js : List Nat) (a : Act), (putAll ops f js a).tmps.size = a.tmps.size
 | [], a => rfl
 | j :: js, a => by
  unfold putAll
  rw [putAll_size f js, put_size]
theorem put_other (a : Act) (x : Option Tmp) (v : Value) (t : Tmp) (h : x ≠ some t) : (a.put x v).tmps[t]? = a.tmps[t]? := by
 cases x with
 | none => rfl
 | some d =>
  have : d ≠ t := fun e => h (by rw [e])
  simp [Act.put, Array.getElem?_setIfInBounds_ne this]
theorem put_self (a : Act) (v : Value) (t : Tmp) (h : t < a.tmps.size) : (a.put (some t) v).tmps[t]? = some v := by
 simp [Act.put, h]
theorem putAll_other (f : Nat → Value) (t : Tmp) : ∀ (js : List Nat) (a : Act), (∀ j ∈ js, dst ops j ≠ some t) → (putAll ops f js a).tmps[t]? = a.tmps[t]?
 | [], a, _ => rfl
 | j :: js, a, h => by
  unfold putAll
  rw [putAll_other f t js _ (fun k hk => h k (List.mem_cons_of_mem _ hk)), put_other _ _ _ _ (h j (List.mem_cons_self ..))]
theorem putAll_self (f : Nat → Value) (t : Tmp) (j : Nat) (hd : dst ops j = some t) : ∀ (js : List Nat) (a : Act), t < a.tmps.size → j ∈ js → (∀ k ∈ js, dst ops k = some t → k = j) → (putAll ops f js a).tmps[t]? = some (f j)
 | [], a, _, h, _ => by cases h
 | k :: js, a, ht, h, hu => by
  unfold putAll
  by_cases hj : j ∈ js
  ·exact putAll_self f t j hd js _ (by rw [put_size]; exact ht) hj (fun k hk => hu k (List.mem_cons_of_mem _ hk))
  ·obtain rfl : j = k := by
    rcases List.mem_cons.1 h with h | h
    ·exact h
    ·exact absurd h hj
   rw [putAll_other f t js _ (fun k hk e => hj (hu k (List.mem_cons_of_mem _ hk) e ▸ hk)), hd, put_self _ _ _ ht]
end
structure Inv (ops : Array Oper) (m : Nat) (S : World → Prop) (V : Nat → Value → World → Prop) (mk : Nat → Bool) (a0 : Act) (z : Nat) (listed : Array Bool) (f : Nat → Value) (a : Act) (w : World) : Prop where
 hz : z ≤ w.heap.size
 sz : listed.size = ops.size
 late : ∀ i, m ≤ i → listed.getD i false = false
 closed : ∀ k, listed.getD k false = true → ∀ o, ops[k]? = some o → ∀ e ∈ o.after, Region.binds .any e = true → listed.getD e.on false = true
 df : a.defers = a0.defers
 ts : a.tmps.size = a0.tmps.size
 at1 : ∀ j, j < m → listed.getD j false = true → ∀ t, dst ops j = some t → t < a0.tmps.size → a.tmps[t]? = some (f j)
 at2 : ∀ t, (∀ j, j < m → listed.getD j false = true → dst ops j ≠ some t) → a.tmps[t]? = a0.tmps[t]?
 s : S w
 v : ∀ j, j < m → listed.getD j false = true → V j (f j) w
 b : ∀ j, j < m → listed.getD j false = true → mk j = true → ∃ b, blk (f j) = some b ∧ z ≤ b ∧ b < w.heap.size
 d : ∀ j k, j < m → k < m → listed.getD j false = true → listed.getD k false = true → mk j = true → mk k = true → j ≠ k → blk (f j) ≠ blk (f k)
def Ob (P : Program) (ops : Array Oper) (m : Nat) (S : World → Prop) (V : Nat → Value → World → Prop) (mk : Nat → Bool) (A : (Nat → Value) → Act) (i : Nat) (o : Oper) : Prop :=
 ∀ f w, S w → (∀ j, needs o j = true → V j (f j) w) → ∀ K : Value → World → Prop,
  Hid (∀ v w', V i v w' → Below w.heap.size w w' → (mk i = true → ∃ b, blk v = some b ∧ w.heap.size ≤ b ∧ b < w'.heap.size) → K v w') → Give P ops o (A f) w K
def Obs (P : Program) (ops : Array Oper) (m : Nat) (S : World → Prop) (V : Nat → Value → World → Prop) (mk : Nat → Bool) (A : (Nat → Value) → Act) : Nat → List Oper → Prop
 | _, [] => True
 | i, o :: l => Ob P ops m S V mk A i o ∧ Obs P ops m S V mk A (i + 1) l
section
variable {m : Nat} {S : World → Prop} {V : Nat → Value → World → Prop} {mk : Nat → Bool} {A : (Nat → Value) → Act}
theorem Obs.nil {i : Nat} : Obs P ops m S V mk A i [] := trivial
theorem Obs.cons {i : Nat} {o : Oper} {l : List Oper} (h : Ob P ops m S V mk A i o) (hs : Obs P ops m S V mk A (i + 1) l) : Obs P ops m S V mk A i (o :: l) := ⟨h, hs⟩
theorem Obs.get : ∀ {l : List Oper} {i : Nat}, Obs P ops m S V mk A i l → ∀ {j : Nat} {o : Oper}, l[j]? = some o → Ob P ops m S V mk A (i + j) o
 | [], _, _, j, o, ho => by simp at ho
 | x :: l, i, h, 0, o, ho => by
  simp only [List.getElem?_cons_zero, Option.some.injEq] at ho
  subst ho
  exact h.1
 | x :: l, i, h, j + 1, o, ho => by
  have := Obs.get h.2 (j := j) (o := o) (by simpa using ho)
  rw [show i + (j + 1) = i + 1 + j by omega]
  exact this
theorem waits_listed {listed : Array Bool} (hc : ∀ k, listed.getD k false = true → ∀ o, ops[k]? = some o → ∀ e ∈ o.after, Region.binds .any e = true → listed.getD e.on false = true) :
  ∀ (n i j : Nat), waits ops n i j = true → (∀ o, ops[i]? = some o → ∀ e ∈ o.after, Region.binds .any e = true → listed.getD e.on false = true) → listed.getD j false = true
 | 0, i, j, h, _ => by cases h
 | n + 1, i, j, h, hi => by
  unfold waits at h
  cases ho : ops[i]? with
  | none => rw [ho] at h; cases h
  | some o =>
   rw [ho] at h
   simp only [Option.map_some, Option.getD_some] at h
   obtain ⟨k, hk, he⟩ := Array.any_eq_true.1 h
   simp only [Bool.and_eq_true, Bool.or_eq_true, beq_iff_eq] at he
   have hl := hi o ho _ (Array.getElem_mem hk) he.1
   rcases he.2 with h2 | h2
   ·rw [h2] at hl; exact hl
   ·exact waits_listed hc n _ j h2 (hc _ hl)
theorem getD_tf {listed : Array Bool} {j : Nat} (h : j < listed.size) : listed.getD j true = listed.getD j false := by simp [Array.getD, h]
theorem getD_set {listed : Array Bool} {i j : Nat} (h : i < listed.size) : (listed.setIfInBounds i true).getD j false = (if i = j then true else listed.getD j false) := by
 by_cases e : i = j
 ·subst e; simp [Array.getD, h]
 ·rw [if_neg e]; simp [Array.getElem?_setIfInBounds_ne e]
theorem all_marks {listed : Array Bool} {n : Nat} (hs : listed.size = n) (hm : m ≤ n) (h1 : ∀ j, j < m → listed.getD j false = true) (h2 : ∀ i, m ≤ i → listed.getD i false = false) :
  listed = Array.replicate m true ++ Array.replicate (n - m) false := by
 apply Array.ext
 ·simp; omega
 ·intro i hi _
  rw [Array.getElem_append]
  have : listed.getD i false = listed[i] := by simp [Array.getD, hi]
  by_cases h : i < m
  ·rw [dif_pos (by simpa using h)]
   rw [← this, h1 i h]; simp
  ·rw [dif_neg (by simpa using h)]
   rw [← this, h2 i (by omega)]; simp
theorem count_set : ∀ (l : List Bool) (i : Nat), i < l.length → l[i]? = some false → ((l.set i true).filter id).length = (l.filter id).length + 1
 | [], i, h, _ => by simp at h
 | x :: l, 0, _, h => by
  simp only [List.getElem?_cons_zero, Option.some.injEq] at h
  subst h
  simp
 | x :: l, i + 1, h, h2 => by
  have := count_set l i (by simpa using h) (by simpa using h2)
  cases x <;> simp [this]
theorem count_lt : ∀ (l : List Bool) (i : Nat), l[i]? = some false → (l.filter id).length < l.length
 | [], i, h => by simp at h
 | x :: l, 0, h => by
  simp only [List.getElem?_cons_zero, Option.some.injEq] at h
  subst h
  simp only [List.filter_cons, id, Bool.false_eq_true, if_false, List.length_cons]
  have := List.length_filter_le id l
  omega
 | x :: l, i + 1, h => by
  have := count_lt l i (by simpa using h)
  cases x
  ·simp only [List.filter_cons, id, Bool.false_eq_true, if_false, List.length_cons]; omega
  ·simp only [List.filter_cons, id, if_true, List.length_cons]; omega
theorem first_ready (hok : okOps ops m = true) {listed : Array Bool} (hs : listed.size = ops.size) : ∀ (n j : Nat), j < n → j < m → listed.getD j false = false → ∃ i, i ∈ Region.ready .any ops listed
 | 0, j, h, _, _ => by omega
 | n + 1, j, h, hj, hl => by
  by_cases hx : ∃ k, k < j ∧ listed.getD k false = false
  ·obtain ⟨k, hk, hk2⟩ := hx
   exact first_ready hok hs n k (by omega) (by omega) hk2
  ·have hm := ok_le hok
   refine ⟨j, mem_ready.2 ⟨by rw [getD_tf (by omega)]; exact hl, ops[j]'(by omega), Array.getElem?_eq_getElem (by omega), fun e he hb => ?_⟩⟩
   have := ok_back hok (Array.getElem?_eq_getElem (by omega)) he hb
   cases h2 : listed.getD e.on false with
   | true => rfl
   | false => exact absurd ⟨e.on, this, h2⟩ hx
theorem inv_goes {a0 : Act} {z : Nat} (hok : okOps ops m = true) (hA : ∀ f, A f = putAll ops f (List.range m) a0)
    (hSs : ∀ w w', Below w.heap.size w w' → S w → S w') (hVs : ∀ j, j < m → ∀ v w w', Below w.heap.size w w' → V j v w → V j v w') (hob : Obs P ops m S V mk A 0 (ops.toList.take m))
    (hfin : ∀ f w, S w → (∀ j, j < m → V j (f j) w) → (∀ j k, j < m → k < m → mk j = true → mk k = true → j ≠ k → blk (f j) ≠ blk (f k)) → (∀ j, j < m → mk j = true → ∃ b, blk (f j) = some b ∧ z ≤ b) →
      wpAny P .any ops Q (ops.size - m) (Array.replicate m true ++ Array.replicate (ops.size - m) false) (A f) w)
    (fuel : Nat) (listed : Array Bool) (f : Nat → Value) (a : Act) (w : World) (I : Inv ops m S V mk a0 z listed f a w) (hf : fuel + (listed.toList.filter id).length = ops.size) : wpAny P .any ops Q fuel listed a w := by
  have hm := ok_le hok
  by_cases hall : ∀ j, j < m → listed.getD j false = true
  · have e := all_marks I.sz hm hall I.late
    have ea : a = A f := by
      rw [hA]
      obtain ⟨tm, df⟩ := a
      have h1 := I.df
      have : tm = (putAll ops f (List.range m) a0).tmps := by
        apply Array.ext_getElem?
        intro t
        by_cases hd : ∃ j, j < m ∧ dst ops j = some t
        · obtain ⟨j, hj, hd⟩ := hd
          by_cases ht : t < a0.tmps.size
          · rw [putAll_self f t j hd _ _ ht (by simpa using hj) (fun k hk hk2 => ok_one hok (by simpa using hk) hj hk2 hd)]
            exact I.at1 j hj (hall j hj) t hd ht
          · rw [Array.getElem?_eq_none (by have := I.ts; simp only at this; omega), Array.getElem?_eq_none (by rw [putAll_size]; omega)]
        · rw [putAll_other f t _ _ (fun j hj e => hd ⟨j, by simpa using hj, e⟩)]
          exact I.at2 t fun j hj _ e => hd ⟨j, hj, e⟩
      have h2 := putAll_defers (ops := ops) f (List.range m) a0
      generalize putAll ops f (List.range m) a0 = b at *
      obtain ⟨tb, db⟩ := b
      simp only at h1 h2 this
      rw [this, h1, h2]
    have hz : fuel = ops.size - m := by
      rw [e] at hf
      simp only [Array.toList_append, List.filter_append, Array.toList_replicate, List.filter_replicate, id, if_true, Bool.false_eq_true, if_false, List.append_nil, List.length_replicate] at hf
      omega
    have := hfin f w I.s (fun j hj => I.v j hj (hall j hj)) (fun j k hj hk => I.d j k hj hk (hall j hj) (hall k hk)) (fun j hj hk => (I.b j hj (hall j hj) hk).imp fun b h => ⟨h.1, h.2.1⟩)
    rw [← hz, ← ea] at this
    rw [hz] at this ⊢
    rw [← e] at this
    exact this
  · obtain ⟨j, hj⟩ := Classical.not_forall.1 hall
    obtain ⟨hj, hj2⟩ := Classical.not_imp.1 hj
    have hjl : listed.getD j false = false := by simpa using hj2
    clear hall hj2
    have hc : (listed.toList.filter id).length < listed.toList.length := count_lt _ j (by
      have hz : j < listed.size := by have := I.sz; omega
      have : listed.getD j false = listed[j] := by simp [Array.getD, hz]
      rw [this] at hjl
      rw [Array.getElem?_toList, Array.getElem?_eq_getElem hz, hjl])
    rw [show listed.toList.length = ops.size by rw [← I.sz]; rfl] at hc
    obtain ⟨fuel, rfl⟩ : ∃ n, fuel = n + 1 := ⟨fuel - 1, by omega⟩
    refine ⟨fun h0 => ?_, fun i hi => ?_⟩
    · obtain ⟨i, hi⟩ := first_ready hok I.sz (j + 1) j (by omega) hj hjl
      rw [h0] at hi
      cases hi
    · obtain ⟨hu, o, ho, haft⟩ := mem_ready.1 hi
      have hio : i < ops.size := (Array.getElem?_eq_some_iff.1 ho).1
      have hil : i < listed.size := by rw [I.sz]; exact hio
      rw [getD_tf hil] at hu
      by_cases him : i < m
      · have hgive := (hob.get (j := i) (o := o) (by rw [List.getElem?_take, if_pos him]; simpa using ho)) f w I.s
          (fun j hn => by
            unfold needs at hn
            obtain ⟨x, hk, he⟩ := List.any_eq_true.1 hn
            rw [Array.mem_toList_iff] at hk
            simp only [Bool.and_eq_true, beq_iff_eq] at he
            have h2 := haft _ hk he.1
            have h3 := ok_back hok ho hk he.1
            rw [he.2] at h2 h3
            exact I.v j (by omega) h2) (fun v w' => V i v w' ∧ Below w.heap.size w w' ∧ (mk i = true → ∃ b, blk v = some b ∧ w.heap.size ≤ b ∧ b < w'.heap.size)) (Lib.hid fun v w' hv hb hmk => ⟨by rw [Nat.zero_add] at hv; exact hv, hb, by rw [Nat.zero_add] at hmk; exact hmk⟩)
        refine wpOp_of_give (R := fun v w' => V i v w' ∧ Below w.heap.size w w' ∧ (mk i = true → ∃ b, blk v = some b ∧ w.heap.size ≤ b ∧ b < w'.heap.size)) ho (ok_sel hok ho) (fun t ht => ?_) (fun v w' ⟨hv, hb, hmk⟩ => ?_) hgive
        · rw [hA]
          by_cases hd : ∃ j, j < m ∧ dst ops j = some t
          · obtain ⟨k, hk, hd⟩ := hd
            have hn := ok_ground hok him ho ht hk hd
            unfold needs at hn
            obtain ⟨x, hq, he⟩ := List.any_eq_true.1 hn
            rw [Array.mem_toList_iff] at hq
            simp only [Bool.and_eq_true, beq_iff_eq] at he
            have h2 := haft _ hq he.1
            rw [he.2] at h2
            by_cases ht : t < a0.tmps.size
            · rw [I.at1 k hk h2 t hd ht, putAll_self f t k hd _ _ ht (by simpa using hk) (fun k' hk' hk2 => ok_one hok (by simpa using hk') hk hk2 hd)]
            · rw [Array.getElem?_eq_none (by rw [I.ts]; exact Nat.le_of_not_lt ht), Array.getElem?_eq_none (by rw [putAll_size]; exact Nat.le_of_not_lt ht)]
          · rw [putAll_other f t _ _ (fun j hj e => hd ⟨j, by simpa using hj, e⟩)]
            exact I.at2 t fun j hj _ e => hd ⟨j, hj, e⟩
        · have hdi : dst ops i = o.dst := by unfold dst; rw [ho]; rfl
          have hne : ∀ {k}, listed.getD k false = true → k ≠ i := fun h e => by rw [e, hu] at h; cases h
          refine inv_goes hok hA hSs hVs hob hfin fuel (listed.setIfInBounds i true) (fun k => if k = i then v else f k) _ w' ?_ ?_
          · have hg : ∀ {k}, (listed.setIfInBounds i true).getD k false = true → k = i ∨ (k ≠ i ∧ listed.getD k false = true) := fun {k} h => by
              rw [getD_set hil] at h
              by_cases e : i = k
              · exact .inl e.symm
              · rw [if_neg e] at h; exact .inr ⟨fun e2 => e e2.symm, h⟩
            refine ⟨Nat.le_trans I.hz hb.size, by simp [I.sz], fun k hk => ?_, fun k hk o' ho' e he hb => ?_, ?_, ?_, fun k hk hl t hd ht => ?_, fun t hd => ?_, hSs _ _ hb I.s, fun k hk hl => ?_, fun k hk hl hmk2 => ?_, fun k l hk hl h1 h2 h3 h4 h5 => ?_⟩
            · rw [getD_set hil, if_neg (by omega)]; exact I.late k hk
            · rw [getD_set hil]
              split
              · rfl
              · rcases hg hk with rfl | ⟨_, hk⟩
                · rw [ho] at ho'; cases ho'; exact haft e he hb
                · exact I.closed k hk o' ho' e he hb
            · rw [← I.df]; cases o.dst <;> rfl
            · rw [put_size]; exact I.ts
            · rcases hg hl with rfl | ⟨hki, hl⟩
              · rw [hdi] at hd
                rw [if_pos rfl, hd]
                exact put_self _ _ _ (by rw [I.ts]; exact ht)
              · rw [if_neg hki, put_other _ _ _ _ (fun e => hki (ok_one hok hk him hd (hdi.trans e)))]
                exact I.at1 k hk hl t hd ht
            · rw [put_other _ _ _ _ (fun e => hd i him (by rw [getD_set hil, if_pos rfl]) (hdi.trans e))]
              exact I.at2 t fun k hk hl => hd k hk (by rw [getD_set hil]; split <;> first | rfl | exact hl)
            · rcases hg hl with rfl | ⟨hki, hl⟩
              · rw [if_pos rfl]; exact hv
              · rw [if_neg hki]; exact hVs k hk _ _ _ hb (I.v k hk hl)
            · rcases hg hl with rfl | ⟨hki, hl⟩
              · rw [if_pos rfl]
                obtain ⟨b, h1, h2, h3⟩ := hmk hmk2
                exact ⟨b, h1, Nat.le_trans I.hz h2, h3⟩
              · rw [if_neg hki]
                obtain ⟨b, h1, h2, h3⟩ := I.b k hk hl hmk2
                exact ⟨b, h1, h2, Nat.lt_of_lt_of_le h3 hb.size⟩
            · rcases hg h1 with rfl | ⟨hki, g1⟩ <;> rcases hg h2 with rfl | ⟨hli, g2⟩
              · exact absurd rfl h5
              · rw [if_pos rfl, if_neg hli]
                obtain ⟨b, q1, q2, _⟩ := hmk h3
                obtain ⟨c, q4, _, q5⟩ := I.b l hl g2 h4
                rw [q1, q4]
                intro e
                have := Option.some.inj e
                omega
              · rw [if_pos rfl, if_neg hki]
                obtain ⟨b, q1, q2, _⟩ := hmk h4
                obtain ⟨c, q4, _, q5⟩ := I.b k hk g1 h3
                rw [q1, q4]
                intro e
                have := Option.some.inj e
                omega
              · rw [if_neg hki, if_neg hli]
                exact I.d k l hk hl g1 g2 h3 h4 h5
          · rw [Array.toList_setIfInBounds, count_set _ i (by simpa using hil) (by rw [Array.getElem?_toList, Array.getElem?_eq_getElem hil]; have : listed.getD i false = listed[i] := by simp [Array.getD, hil]
                                                                                   rw [← this, hu])]
            omega
      · have := waits_listed I.closed ops.size i j (ok_late hok hio (by omega) hj) (fun o' ho' e he hb => by rw [ho] at ho'; cases ho'; exact haft e he hb)
        rw [hjl] at this
        cases this
termination_by fuel
theorem wpAny_one {i : Nat} {o : Oper} {fuel : Nat} {listed : Array Bool} {a : Act} {w : World} (hr : Region.ready .any ops listed = [i]) (ho : ops[i]? = some o)
  (h : ∀ K' : Act → World → Prop, Hid (∀ a w, wpAny P .any ops Q fuel (listed.setIfInBounds i true) a w → K' a w) → if Region.wanted o (yielded ops a.tmps) = true then Oper.wp P o a w K' Q else K' (a.put o.dst undef) w) : wpAny P .any ops Q (fuel + 1) listed a w := by
 refine ⟨fun h0 => (by rw [hr] at h0; cases h0), fun j hj => ?_⟩
 rw [hr] at hj
 obtain rfl := List.mem_singleton.1 hj
 exact wpOp_step ho fun K' hK => h K' (Lib.hid hK)
theorem region_values {id : Nat} {a0 : Act} {w0 : World} (m : Nat) (A : (Nat → Value) → Act) (S : World → Prop) (V : Nat → Value → World → Prop) (mk : Nat → Bool) (hA : ∀ f, A f = putAll ops f (List.range m) a0)
  (hm : P.follows .mixedOrders = true) (hok : okOps ops m = true) (hS0 : S w0.drew)
  (hSs : ∀ w w', Below w.heap.size w w' → S w → S w') (hVs : ∀ j, j < m → ∀ v w w', Below w.heap.size w w' → V j v w → V j v w') (hob : Obs P ops m S V mk A 0 (ops.toList.take m))
  (hfin : ∀ f w, S w → (∀ j, j < m → V j (f j) w) → (∀ j k, j < m → k < m → mk j = true → mk k = true → j ≠ k → blk (f j) ≠ blk (f k)) → (∀ j, j < m → mk j = true → ∃ b, blk (f j) = some b ∧ w0.heap.size ≤ b) →
   wpAny P .any ops Q (ops.size - m) (Array.replicate m true ++ Array.replicate (ops.size - m) false) (A f) w) : (Code.region id ops true).wp P Q a0 w0 := by
 refine wp_region_any hm (inv_goes hok hA hSs hVs hob hfin ops.size _ (fun _ => undef) a0 _ ?_ ?_)
 ·have h0 : ∀ k, (Array.replicate ops.size false).getD k false = false := fun k => by
   by_cases h : k < ops.size <;> simp [Array.getD, h]
  have h1 : ∀ {p : Prop} k, (Array.replicate ops.size false).getD k false = true → p := fun k h => by rw [h0] at h; cases h
  exact ⟨Nat.le_refl _, by simp, fun k _ => h0 k, fun k h => h1 k h, rfl, rfl, fun j _ h => h1 j h, fun t _ => rfl, hS0, fun j _ h => h1 j h, fun j _ h => h1 j h, fun j k _ _ h => h1 j h⟩
 ·simp
theorem region_values_all {id : Nat} {a0 : Act} {w0 : World} (m : Nat) (A : (Nat → Value) → Act) (S : World → Prop) (V : Nat → Value → World → Prop) (mk : Nat → Bool) (hA : ∀ f, A f = putAll ops f (List.range m) a0)
  (hm : P.follows .mixedOrders = true) (hok : okOps ops m = true) (hsz : ops.size = m) (hS0 : S w0.drew)
  (hSs : ∀ w w', Below w.heap.size w w' → S w → S w') (hVs : ∀ j, j < m → ∀ v w w', Below w.heap.size w w' → V j v w → V j v w') (hob : Obs P ops m S V mk A 0 (ops.toList.take m))
  (hfin : ∀ f w, S w → (∀ j, j < m → V j (f j) w) → (∀ j k, j < m → k < m → mk j = true → mk k = true → j ≠ k → blk (f j) ≠ blk (f k)) → (∀ j, j < m → mk j = true → ∃ b, blk (f j) = some b ∧ w0.heap.size ≤ b) → Q .normal (A f) w) : (Code.region id ops true).wp P Q a0 w0 := by
 refine region_values m A S V mk hA hm hok hS0 hSs hVs hob fun f w h1 h2 h3 h4 => ?_
 have e : ops.size - m = 0 := by omega
 rw [e]
 refine ⟨?_, hfin f w h1 h2 h3 h4⟩
 rw [List.eq_nil_iff_forall_not_mem]
 intro i hi
 have hi2 := mem_ready.1 hi
 obtain ⟨hu, o, ho, _⟩ := hi2
 have hio : i < ops.size := (Array.getElem?_eq_some_iff.1 ho).1
 simp [Array.getD, show i < m by omega] at hu
end
end Drw
end Go.Proofs.YtpiiemneelkpkaaGreatDoor
