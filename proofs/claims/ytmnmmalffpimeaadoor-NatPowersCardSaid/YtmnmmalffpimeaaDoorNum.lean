/- Plain facts on natural numbers as lists of limbs of 32 bits, the lowest first; no program is named here. -/
namespace Go.Proofs.YtmnmmalffpimeaaDoor

/-- what a list of limbs is worth -/
def val : List Int → Int
  | [] => 0
  | x :: xs => x + 4294967296 * val xs
/-- each limb is one -/
def Limbs (l : List Int) : Prop := ∀ x ∈ l, 0 ≤ x ∧ x < 4294967296
/-- no limb 0 at the end -/
def Tip : List Int → Prop
  | [] => True
  | [x] => x ≠ 0
  | _ :: y :: ys => Tip (y :: ys)
def Nrm (l : List Int) : Prop := Limbs l ∧ Tip l
/-- without limbs 0 at the end -/
def trim : List Int → List Int
  | [] => []
  | x :: xs => if trim xs = [] then (if x = 0 then [] else [x]) else x :: trim xs

theorem Limbs.tail {x : Int} {xs : List Int} (h : Limbs (x :: xs)) : Limbs xs := fun y hy => h y (List.mem_cons_of_mem _ hy)
theorem Limbs.head {x : Int} {xs : List Int} (h : Limbs (x :: xs)) : 0 ≤ x ∧ x < 4294967296 := h x List.mem_cons_self
theorem Limbs.nil : Limbs [] := fun _ h => by cases h
theorem Limbs.cons {x : Int} {xs : List Int} (hx : 0 ≤ x ∧ x < 4294967296) (h : Limbs xs) : Limbs (x :: xs) := by
  intro y hy
  rcases List.mem_cons.1 hy with rfl | hy
  · exact hx
  · exact h y hy
theorem Limbs.append {l m : List Int} (h : Limbs l) (k : Limbs m) : Limbs (l ++ m) := by
  intro x hx
  rcases List.mem_append.1 hx with hx | hx
  · exact h x hx
  · exact k x hx
theorem Limbs.take {l : List Int} (h : Limbs l) (n : Nat) : Limbs (l.take n) := fun x hx => h x (List.mem_of_mem_take hx)
theorem Limbs.drop {l : List Int} (h : Limbs l) (n : Nat) : Limbs (l.drop n) := fun x hx => h x (List.mem_of_mem_drop hx)
theorem Limbs.getD {l : List Int} (h : Limbs l) (i : Nat) : 0 ≤ l.getD i 0 ∧ l.getD i 0 < 4294967296 := by
  by_cases hi : i < l.length
  · rw [List.getD_eq_getElem?_getD, List.getElem?_eq_getElem hi]; exact h _ (List.getElem_mem hi)
  · rw [List.getD_eq_getElem?_getD, List.getElem?_eq_none (by omega)]; exact ⟨by decide, by decide⟩
theorem Limbs.replicate (n : Nat) : Limbs (List.replicate n 0) := by
  intro x hx
  rw [(List.mem_replicate.1 hx).2]
  exact ⟨by decide, by decide⟩

theorem val_nonneg : ∀ {l : List Int}, Limbs l → 0 ≤ val l
  | [], _ => by simp [val]
  | x :: xs, h => by
    have := val_nonneg h.tail
    have := h.head
    simp only [val]; omega
theorem Nrm.tail {x : Int} {xs : List Int} (h : Nrm (x :: xs)) : Nrm xs := by
  refine ⟨h.1.tail, ?_⟩
  cases xs with
  | nil => trivial
  | cons y ys => exact h.2
theorem Nrm.zero : ∀ {l : List Int}, Nrm l → val l = 0 → l = []
  | [], _, _ => rfl
  | x :: xs, h, hv => by
    exfalso
    have h0 := val_nonneg h.1.tail
    have h1 := h.1.head
    simp only [val] at hv
    have hx : xs = [] := Nrm.zero h.tail (by omega)
    subst hx
    have := h.2
    simp only [Tip, val] at this hv
    omega
/-- two normal lists of one worth are one -/
theorem Nrm.inj : ∀ {l m : List Int}, Nrm l → Nrm m → val l = val m → l = m
  | [], m, _, hm, hv => (Nrm.zero hm (by simpa [val] using hv.symm)).symm
  | x :: xs, [], hl, _, hv => by
    have := Nrm.zero hl (by simpa [val] using hv)
    cases this
  | x :: xs, y :: ys, hl, hm, hv => by
    have h1 := hl.1.head
    have h2 := hm.1.head
    simp only [val] at hv
    have hx : x = y := by omega
    have ht : val xs = val ys := by omega
    rw [hx, Nrm.inj hl.tail hm.tail ht]

theorem trim_limbs : ∀ {l : List Int}, Limbs l → Limbs (trim l)
  | [], _ => Limbs.nil
  | x :: xs, h => by
    simp only [trim]
    split
    · split
      · exact Limbs.nil
      · exact Limbs.cons h.head Limbs.nil
    · exact Limbs.cons h.head (trim_limbs h.tail)
theorem trim_tip : ∀ (l : List Int), Tip (trim l)
  | [] => trivial
  | x :: xs => by
    have ih := trim_tip xs
    simp only [trim]
    split
    · split
      · trivial
      · rename_i h; exact h
    · rename_i h
      match ht : trim xs, h with
      | y :: ys, _ => rw [ht] at ih; exact ih
theorem trim_nrm {l : List Int} (h : Limbs l) : Nrm (trim l) := ⟨trim_limbs h, trim_tip l⟩
theorem trim_val : ∀ (l : List Int), val (trim l) = val l
  | [] => rfl
  | x :: xs => by
    have ih := trim_val xs
    simp only [trim]
    split
    · rename_i h
      rw [h] at ih
      split
      · rename_i hx; simp only [val] at ih ⊢; omega
      · simp only [val] at ih ⊢; omega
    · simp only [val]; rw [ih]
theorem trim_of_tip : ∀ {l : List Int}, Tip l → trim l = l
  | [], _ => rfl
  | [x], h => by simp only [trim, if_pos trivial]; rw [if_neg h]
  | x :: y :: ys, h => by
    have ih := trim_of_tip (l := y :: ys) h
    rw [trim, ih, if_neg (by simp)]
theorem trim_length_le : ∀ (l : List Int), (trim l).length ≤ l.length
  | [] => Nat.le_refl _
  | x :: xs => by
    have := trim_length_le xs
    simp only [trim]
    split
    · split <;> simp
    · simp only [List.length_cons]; omega
theorem trim_take : ∀ (l : List Int), l.take (trim l).length = trim l
  | [] => rfl
  | x :: xs => by
    have ih := trim_take xs
    simp only [trim]
    split
    · split
      · rfl
      · rfl
    · simp only [List.length_cons, List.take_succ_cons]; rw [ih]
theorem trim_append_zero : ∀ (l : List Int), trim (l ++ [0]) = trim l
  | [] => by simp [trim]
  | x :: xs => by simp only [List.cons_append, trim]; rw [trim_append_zero xs]
theorem tip_append_ne : ∀ (l : List Int) {x : Int}, x ≠ 0 → Tip (l ++ [x])
  | [], _, h => h
  | [y], _, h => h
  | y :: z :: zs, _, h => by
    have := tip_append_ne (z :: zs) h
    exact this
theorem take_snoc_int (l : List Int) (k : Nat) (h : k < l.length) : l.take (k + 1) = l.take k ++ [l.getD k 0] := by
  rw [List.take_succ_eq_append_getElem h, List.getD_eq_getElem?_getD, List.getElem?_eq_getElem h]; rfl
/-- norm's loop: the last limb is 0 -/
theorem trim_step {l : List Int} {k : Nat} (h : k < l.length) (h0 : l.getD k 0 = 0) : trim (l.take (k + 1)) = trim (l.take k) := by
  rw [take_snoc_int l k h, h0, trim_append_zero]
/-- .. or not -/
theorem trim_done {l : List Int} {k : Nat} (h : k < l.length) (h0 : l.getD k 0 ≠ 0) : trim (l.take (k + 1)) = l.take (k + 1) := by
  rw [take_snoc_int l k h]; exact trim_of_tip (tip_append_ne _ h0)

theorem val_append : ∀ (l m : List Int), val (l ++ m) = val l + 4294967296 ^ l.length * val m
  | [], m => by simp [val]
  | x :: xs, m => by
    simp only [List.cons_append, val, List.length_cons, val_append xs m]
    rw [Int.pow_succ]; grind
theorem val_snoc (l : List Int) (x : Int) : val (l ++ [x]) = val l + 4294967296 ^ l.length * x := by
  rw [val_append]; simp [val]
theorem val_replicate (n : Nat) : val (List.replicate n 0) = 0 := by
  induction n with
  | zero => rfl
  | succ n ih => rw [List.replicate_succ]; simp only [val, ih]; rfl
theorem val_lt : ∀ {l : List Int}, Limbs l → val l < 4294967296 ^ l.length
  | [], _ => by simp [val]
  | x :: xs, h => by
    have := val_lt h.tail
    have := h.head
    simp only [val, List.length_cons]
    rw [Int.pow_succ]; omega
theorem val_take_succ (l : List Int) (k : Nat) (h : k < l.length) : val (l.take (k + 1)) = val (l.take k) + 4294967296 ^ k * l.getD k 0 := by
  rw [take_snoc_int l k h, val_snoc, List.length_take, Nat.min_eq_left (by omega)]

end Go.Proofs.YtmnmmalffpimeaaDoor
