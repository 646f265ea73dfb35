/- A part of the proof: A.Area. -/
import Derived.Test.YtgfeaeedlakmfaaABlk
set_option linter.unusedVariables false
set_option linter.unusedSimpArgs false
set_option linter.unusedSectionVars false
namespace Go.Proofs
open Go Go.Lf
section maps
variable {κ : Type} [DecidableEq κ]
theorem mget_mset (m : Ents κ) (k : κ) (v : Value) (c : Nat) (k' : κ) : mget (mset m k v c) k' = if k' = k then some v else mget m k' := by
  induction m with
  | nil =>
    simp only [mset, mget, List.find?_cons, List.find?_nil]
    by_cases h : k' = k <;> simp [h]
  | cons x m ih =>
    obtain ⟨k1, v1, b1⟩ := x
    unfold mset
    by_cases h : k = k1
    · rw [if_pos h]
      subst h
      simp only [mget, List.find?_cons]
      by_cases h : k' = k <;> simp [h]
    · rw [if_neg h]
      simp only [mget, List.find?_cons] at ih ⊢
      by_cases h' : k' = k1
      · have : k' ≠ k := fun e => h (e ▸ h')
        simp only [h', decide_true, Option.map_some]
        rw [if_neg (fun e => h e.symm)]
      · simp only [h', decide_false]
        exact ih
end maps
abbrev AE := BV × Nat
def AE.b (x : AE) : Blk := x.1.1
def ents (A : List AE) : Ents (List UInt8) := A.map fun x => (x.b.key, .agg (bcell x.1).toArray, x.2)
def AE.is (k : List UInt8) (x : AE) : Bool := decide (k = x.b.key)
theorem mget_ents (A : List AE) (k : List UInt8) : mget (ents A) k = (A.find? (AE.is k)).map fun x => .agg (bcell x.1).toArray := by
  unfold mget ents
  rw [List.find?_map, Option.map_map]
  rfl
theorem mdel_ents : ∀ (A : List AE) (k : List UInt8), (A.map fun x => x.b.key).Nodup → mdel (ents A) k = ents (A.filter fun x => !AE.is k x)
  | [], _, _ => rfl
  | x :: A, k, hn => by
    rw [List.map_cons, List.nodup_cons] at hn
    show mdel ((x.b.key, .agg (bcell x.1).toArray, x.2) :: ents A) k = _
    unfold mdel
    by_cases h : k = x.b.key
    · rw [if_pos h, List.filter_cons, if_neg (by simp [AE.is, h])]
      congr 1
      refine (List.filter_eq_self.2 fun y hy => ?_).symm
      have : k ≠ y.b.key := fun e => hn.1 (by rw [← h, e]; exact List.mem_map_of_mem (f := fun x : AE => x.b.key) hy)
      simpa [AE.is] using this
    · rw [if_neg h, List.filter_cons, if_pos (by simp [AE.is, h]), mdel_ents A k hn.2]
      rfl
theorem mset_ents_new : ∀ (A : List AE) (x : AE), A.find? (AE.is x.b.key) = none → mset (ents A) x.b.key (.agg (bcell x.1).toArray) x.2 = ents (A ++ [x])
  | [], _, _ => rfl
  | y :: A, x, h => by
    rw [List.find?_cons] at h
    split at h
    · cases h
    · rename_i h'
      have h'' : ¬ x.b.key = y.b.key := by simpa [AE.is] using h'
      show mset ((y.b.key, .agg (bcell y.1).toArray, y.2) :: ents A) x.b.key _ _ = _
      unfold mset
      rw [if_neg h'', mset_ents_new A x h]
      rfl
/-- the lease of what is there is lengthened -/
def relet (k : List UInt8) (e : Int) (x : AE) : AE := if x.b.key = k then (({ x.b with exp := max x.b.exp e }, x.1.2), x.2) else x
theorem relet_key (k : List UInt8) (e : Int) (x : AE) : (relet k e x).b.key = x.b.key := by unfold relet; split <;> rfl
theorem relet_born (k : List UInt8) (e : Int) (x : AE) : (relet k e x).2 = x.2 := by unfold relet; split <;> rfl
theorem relet_data (k : List UInt8) (e : Int) (x : AE) : (relet k e x).b.data = x.b.data ∧ (relet k e x).1.2 = x.1.2 ∧ (relet k e x).b.src = x.b.src := by unfold relet; split <;> exact ⟨rfl, rfl, rfl⟩
theorem mset_ents_old (e : Int) (c : Nat) : ∀ (A : List AE) (k : List UInt8) (x : AE), A.find? (AE.is k) = some x → (A.map fun x => x.b.key).Nodup →
    mset (ents A) k (.agg (bcell (relet k e x).1).toArray) c = ents (A.map (relet k e))
  | [], _, _, h, _ => by cases h
  | y :: A, k, x, h, hn => by
    rw [List.map_cons, List.nodup_cons] at hn
    rw [List.find?_cons] at h
    show mset ((y.b.key, .agg (bcell y.1).toArray, y.2) :: ents A) k _ _ = _
    unfold mset
    by_cases hk : k = y.b.key
    · rw [if_pos hk]
      have h1 : AE.is k y = true := by simp [AE.is, hk]
      rw [h1] at h
      simp only [Option.some.injEq] at h
      subst h
      have hrest : A.map (relet k e) = A := by
        refine List.map_congr_left (g := id) (fun z hz => ?_) |>.trans (List.map_id A)
        have : z.b.key ≠ k := fun e => hn.1 (by rw [← hk, ← e]; exact List.mem_map_of_mem (f := fun x : AE => x.b.key) hz)
        unfold relet; rw [if_neg this]; rfl
      rw [List.map_cons, hrest]
      show _ = ((relet k e y).b.key, Value.agg (bcell (relet k e y).1).toArray, (relet k e y).2) :: ents A
      rw [relet_key, relet_born]
    · rw [if_neg hk]
      have h1 : AE.is k y = false := by simp [AE.is, hk]
      rw [h1] at h
      rw [mset_ents_old e c A k x h hn.2]
      have : relet k e y = y := by unfold relet; rw [if_neg fun e => hk e.symm]
      show _ = ((relet k e y).b.key, Value.agg (bcell (relet k e y).1).toArray, (relet k e y).2) :: ents (A.map (relet k e))
      rw [this]
/-! ### sums -/
def lenOf (s : Int) (b : Blk) : Int := if b.src = s then (b.data.length : Int) else 0
def usedB (l : List Blk) (s : Int) : Int := (l.map (lenOf s)).sum
def totalB (l : List Blk) : Int := (l.map fun b => (b.data.length : Int)).sum
theorem sum_perm {l l' : List Int} (h : l.Perm l') : l.sum = l'.sum := by
  induction h with
  | nil => rfl
  | cons x _ ih => simp [ih]
  | swap x y l => simp only [List.sum_cons]; omega
  | trans _ _ ih1 ih2 => exact ih1.trans ih2
theorem used_perm {l l' : List Blk} (h : l.Perm l') (s : Int) : usedB l s = usedB l' s := sum_perm (h.map _)
theorem total_perm {l l' : List Blk} (h : l.Perm l') : totalB l = totalB l' := sum_perm (h.map _)
theorem used_cons (b : Blk) (l : List Blk) (s : Int) : usedB (b :: l) s = lenOf s b + usedB l s := by simp [usedB]
theorem total_cons (b : Blk) (l : List Blk) : totalB (b :: l) = (b.data.length : Int) + totalB l := by simp [totalB]
theorem used_append (l l' : List Blk) (s : Int) : usedB (l ++ l') s = usedB l s + usedB l' s := by simp [usedB]
theorem total_append (l l' : List Blk) : totalB (l ++ l') = totalB l + totalB l' := by simp [totalB]
theorem used_le (l : List Blk) (s : Int) : 0 ≤ usedB l s ∧ usedB l s ≤ totalB l := by
  induction l with
  | nil => exact ⟨Int.le_refl _, Int.le_refl _⟩
  | cons b l ih =>
    rw [used_cons, total_cons]; unfold lenOf
    split <;> omega
theorem total_nonneg (l : List Blk) : 0 ≤ totalB l := Int.le_trans (used_le l 0).1 (used_le l 0).2
abbrev bl (A : List AE) : List Blk := A.map AE.b
theorem find_mem {A : List AE} {k : List UInt8} {x : AE} (h : A.find? (AE.is k) = some x) : x ∈ A ∧ x.b.key = k := by
  refine ⟨List.mem_of_find?_eq_some h, ?_⟩
  have := List.find?_some h
  exact (of_decide_eq_true this).symm
theorem drop_perm : ∀ {A : List AE} {k : List UInt8} {x : AE}, (A.map fun x => x.b.key).Nodup → A.find? (AE.is k) = some x → (x :: A.filter fun y => !AE.is k y).Perm A
  | [], _, _, _, h => by cases h
  | a :: A, k, x, hn, h => by
    rw [List.map_cons, List.nodup_cons] at hn
    rw [List.find?_cons] at h
    cases hk : AE.is k a with
    | true =>
      rw [hk] at h
      simp only [Option.some.injEq] at h
      subst h
      have : A.filter (fun y => !AE.is k y) = A := List.filter_eq_self.2 fun y hy => by
        have hx : k = a.b.key := of_decide_eq_true hk
        have : k ≠ y.b.key := fun e => hn.1 (by rw [← hx, e]; exact List.mem_map_of_mem (f := fun x : AE => x.b.key) hy)
        simpa [AE.is] using this
      rw [List.filter_cons, if_neg (by simp [hk]), this]
    | false =>
      rw [hk] at h
      rw [List.filter_cons, if_pos (by simp [hk])]
      exact (List.Perm.swap a x _).trans ((drop_perm hn.2 h).cons a)
end Go.Proofs
