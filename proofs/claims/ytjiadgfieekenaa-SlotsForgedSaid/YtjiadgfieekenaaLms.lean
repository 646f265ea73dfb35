/- Parts of the proof: S.Lms. -/
import Derived.Test.YtjiadgfieekenaaL2
import Derived.Test.YtjiadgfieekenaaSha
set_option linter.unusedVariables false
set_option linter.unusedSimpArgs false
set_option linter.unusedSectionVars false
/- Signatures for once and trees of them, as plain functions on bytes. -/
namespace Go.Lf
def four (n : Int) : List UInt8 := [b8 (n / 16777216), b8 (n / 65536), b8 (n / 256), b8 n]
def two (n : Int) : List UInt8 := [b8 (n / 256), b8 n]
theorem four_length (n : Int) : (four n).length = 4 := rfl
theorem two_length (n : Int) : (two n).length = 2 := rfl
def headL (name : List UInt8) (q : Int) : List UInt8 := name ++ four q
theorem headL_length (name : List UInt8) (q : Int) : (headL name q).length = name.length + 4 := by simp [headL, four_length]
def hashL (name : List UInt8) (q mark by_ : Int) (t : List UInt8) : List UInt8 := sha (headL name q ++ two mark ++ [b8 by_] ++ t)
theorem hashL_length (name : List UInt8) (q mark by_ : Int) (t : List UInt8) : (hashL name q mark by_ t).length = 32 := sha_length _
def secretL (name : List UInt8) (q : Int) (i : Nat) (seed : List UInt8) : List UInt8 := hashL name q i 255 seed
/-- n steps of chain i, from step j on -/
def walkL (name : List UInt8) (q : Int) (i : Nat) : Nat → Nat → List UInt8 → List UInt8
  | _, 0, t => t
  | j, n + 1, t => walkL name q i (j + 1) n (hashL name q i j t)
theorem walkL_length (name : List UInt8) (q : Int) (i : Nat) : ∀ (n j : Nat) (t : List UInt8), t.length = 32 → (walkL name q i j n t).length = 32
  | 0, _, _, h => h
  | n + 1, j, t, _ => walkL_length name q i n (j + 1) _ (hashL_length _ _ _ _ _)
theorem walkL_next (name : List UInt8) (q : Int) (i : Nat) : ∀ (n j : Nat) (t : List UInt8), walkL name q i j (n + 1) t = hashL name q i ((j + n : Nat) : Int) (walkL name q i j n t)
  | 0, j, t => rfl
  | n + 1, j, t => by
    show walkL name q i (j + 1) (n + 1) (hashL name q i j t) = _
    rw [walkL_next name q i n (j + 1), show j + 1 + n = j + (n + 1) by omega]; rfl
theorem walkL_add (name : List UInt8) (q : Int) (i : Nat) : ∀ (n m j : Nat) (t : List UInt8), walkL name q i j (n + m) t = walkL name q i (j + n) m (walkL name q i j n t)
  | 0, m, j, t => by simp [walkL]
  | n + 1, m, j, t => by
    rw [show n + 1 + m = (n + m) + 1 by omega]
    show walkL name q i (j + 1) (n + m) (hashL name q i j t) = _
    rw [walkL_add name q i n m (j + 1), show j + 1 + n = j + (n + 1) by omega]; rfl
def endsL (name : List UInt8) (q : Int) (f : Nat → List UInt8) : List UInt8 := sha (headL name q ++ [0x80, 0x80] ++ (List.range 133).flatMap f)
def publicL (name : List UInt8) (q : Int) (seed : List UInt8) : List UInt8 := endsL name q fun i => walkL name q i 0 3 (secretL name q i seed)
/-- two bits -/
def digitL (b : List UInt8) (i : Nat) : Nat := (shr8 (b.getD (i / 4) 0) (6 - 2 * (i % 4))).toNat % 4
theorem digitL_lt (b : List UInt8) (i : Nat) : digitL b i < 4 := Nat.mod_lt _ (by decide)
def lackL (b : List UInt8) : Nat → Nat
  | 0 => 0
  | i + 1 => lackL b i + 3 - digitL b i
theorem lackL_le (b : List UInt8) : ∀ n, lackL b n ≤ 3 * n
  | 0 => Nat.le_refl _
  | n + 1 => by have := lackL_le b n; unfold lackL; omega
def digestL (name : List UInt8) (q : Int) (c msg : List UInt8) : List UInt8 := sha (headL name q ++ [0x81, 0x81] ++ c ++ msg)
def digitsL (name : List UInt8) (q : Int) (c msg : List UInt8) : List Nat :=
  let b := digestL name q c msg
  (List.range 133).map (digitL (b ++ two ((64 * lackL b 128 : Nat) : Int)))
theorem digitsL_length (name : List UInt8) (q : Int) (c msg : List UInt8) : (digitsL name q c msg).length = 133 := by simp [digitsL]
theorem digitsL_le (name : List UInt8) (q : Int) (c msg : List UInt8) (i : Nat) : (digitsL name q c msg).getD i 0 ≤ 3 := by
  unfold digitsL
  rw [List.getD_eq_getElem?_getD, List.getElem?_map]
  cases (List.range 133)[i]? with
  | none => simp
  | some j => simp only [Option.map_some, Option.getD_some]; have := digitL_lt (digestL name q c msg ++ two ((64 * lackL (digestL name q c msg) 128 : Nat) : Int)) j; omega
def saltL (name : List UInt8) (q : Int) (seed : List UInt8) : List UInt8 := hashL name q 65533 255 seed
def zL (name : List UInt8) (q : Int) (seed msg : List UInt8) (i : Nat) : List UInt8 := walkL name q i 0 ((digitsL name q (saltL name q seed) msg).getD i 0) (secretL name q i seed)
def signL (name : List UInt8) (q : Int) (seed msg : List UInt8) : List UInt8 := four 2 ++ saltL name q seed ++ (List.range 133).flatMap (zL name q seed msg)
/-- a signature's part -/
def partL (sig : List UInt8) (i : Nat) : List UInt8 := (sig.drop (36 + 32 * i)).take 32
def backL (name : List UInt8) (q : Int) (msg sig : List UInt8) : List UInt8 :=
  endsL name q fun i => walkL name q i ((digitsL name q ((sig.drop 4).take 32) msg).getD i 0) (3 - (digitsL name q ((sig.drop 4).take 32) msg).getD i 0) (partL sig i)
theorem zL_length (name : List UInt8) (q : Int) (seed msg : List UInt8) (i : Nat) : (zL name q seed msg i).length = 32 := walkL_length _ _ _ _ _ _ (hashL_length _ _ _ _ _)
theorem flat32_length (f : Nat → List UInt8) (hf : ∀ i, (f i).length = 32) (n : Nat) : ((List.range n).flatMap f).length = 32 * n := by
  induction n with
  | zero => rfl
  | succ n ih => rw [List.range_succ, List.flatMap_append, List.length_append, ih]; simp [hf]; omega
theorem flat32_part (f : Nat → List UInt8) (hf : ∀ i, (f i).length = 32) (n i : Nat) (h : i < n) : (((List.range n).flatMap f).drop (32 * i)).take 32 = f i := by
  have e : List.range n = List.range i ++ (List.range (n - i)).map (i + ·) := by rw [← List.range_add]; congr 1; omega
  rw [e, List.flatMap_append, List.drop_left' (flat32_length f hf i), show n - i = (n - i - 1) + 1 by omega, List.range_succ_eq_map, List.map_cons, List.flatMap_cons, List.take_left' (hf _), Nat.add_zero]
theorem flat_congr {α β : Type} (f g : α → List β) : ∀ l : List α, (∀ x, x ∈ l → f x = g x) → l.flatMap f = l.flatMap g
  | [], _ => rfl
  | x :: l, h => by rw [List.flatMap_cons, List.flatMap_cons, h x (by simp), flat_congr f g l fun y hy => h y (by simp [hy])]
theorem signL_length (name : List UInt8) (q : Int) (seed msg : List UInt8) : (signL name q seed msg).length = 4292 := by
  unfold signL
  rw [List.length_append, List.length_append, flat32_length _ (zL_length name q seed msg), four_length, saltL, hashL_length]
theorem signL_salt (name : List UInt8) (q : Int) (seed msg : List UInt8) : ((signL name q seed msg).drop 4).take 32 = saltL name q seed := by
  unfold signL
  rw [List.append_assoc, List.drop_left' (four_length 2), List.take_left' (by unfold saltL; exact hashL_length _ _ _ _ _)]
theorem signL_part (name : List UInt8) (q : Int) (seed msg : List UInt8) (i : Nat) (h : i < 133) : partL (signL name q seed msg) i = zL name q seed msg i := by
  unfold partL signL
  rw [← List.drop_drop, List.drop_left' (by rw [List.length_append, four_length, saltL, hashL_length]), flat32_part _ (zL_length name q seed msg) _ _ h]
/-- what is signed comes back to the public key -/
theorem back_sign (name : List UInt8) (q : Int) (seed msg : List UInt8) : backL name q msg (signL name q seed msg) = publicL name q seed := by
  unfold backL publicL endsL
  rw [signL_salt]
  congr 2
  refine flat_congr _ _ _ fun i hi => ?_
  have hi' : i < 133 := by simpa using hi
  rw [signL_part _ _ _ _ _ hi', zL]
  have hle := digitsL_le name q (saltL name q seed) msg i
  have := walkL_add name q i ((digitsL name q (saltL name q seed) msg).getD i 0) (3 - (digitsL name q (saltL name q seed) msg).getD i 0) 0 (secretL name q i seed)
  rw [Nat.zero_add, show (digitsL name q (saltL name q seed) msg).getD i 0 + (3 - (digitsL name q (saltL name q seed) msg).getD i 0) = 3 by omega] at this
  exact this.symm
def nodeL (name : List UInt8) (r : Int) (kind : UInt8) (b : List UInt8) : List UInt8 := sha (name ++ four r ++ [kind, kind] ++ b)
theorem nodeL_length (name : List UInt8) (r : Int) (kind : UInt8) (b : List UInt8) : (nodeL name r kind b).length = 32 := sha_length _
/-- the tree of height 1 -/
def leafL (name seed : List UInt8) (q : Nat) : List UInt8 := nodeL name ((2 + q : Nat) : Int) 0x82 (publicL name q seed)
theorem leafL_length (name seed : List UInt8) (q : Nat) : (leafL name seed q).length = 32 := sha_length _
def topL (name seed : List UInt8) : List UInt8 := nodeL name 1 0x83 (leafL name seed 0 ++ leafL name seed 1)
theorem topL_length (name seed : List UInt8) : (topL name seed).length = 32 := sha_length _
def pubL (name seed : List UInt8) : List UInt8 := four 1 ++ four 2 ++ name ++ topL name seed
def sig6L (name seed : List UInt8) (q : Nat) (msg : List UInt8) : List UInt8 := four q ++ signL name q seed msg ++ four 1 ++ leafL name seed (1 - q)
def upL (name : List UInt8) (q : Nat) (t side : List UInt8) : List UInt8 := nodeL name 1 0x83 (if q = 0 then t ++ side else side ++ t)
def rootL (name : List UInt8) (q : Nat) (msg osig side : List UInt8) : List UInt8 := upL name q (nodeL name ((2 + q : Nat) : Int) 0x82 (backL name q msg osig)) side
/-- what is signed is right -/
theorem root_sign (name seed : List UInt8) (q : Nat) (hq : q ≤ 1) (msg : List UInt8) : rootL name q msg (signL name q seed msg) (leafL name seed (1 - q)) = topL name seed := by
  unfold rootL
  rw [back_sign]
  unfold upL topL
  match q, hq with
  | 0, _ => rfl
  | 1, _ => rfl
end Go.Lf
