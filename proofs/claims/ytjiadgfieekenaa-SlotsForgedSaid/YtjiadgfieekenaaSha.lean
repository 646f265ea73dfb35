/- Parts of the proof: S.Sha. -/
import Derived.Test.YtjiadgfieekenaaL2
import Derived.Test.YtjiadgfieekenaaL1
set_option linter.unusedVariables false
set_option linter.unusedSimpArgs false
set_option linter.unusedSectionVars false
/- SHA-256, as a plain function on bytes. -/
namespace Go.Lf
def rotr (x : UInt32) (n : Nat) : UInt32 := shl32 x (32 - n) ||| shr32 x n
def sig0 (x : UInt32) : UInt32 := rotr x 7 ^^^ rotr x 18 ^^^ shr32 x 3
def sig1 (x : UInt32) : UInt32 := rotr x 17 ^^^ rotr x 19 ^^^ shr32 x 10
def Sig0 (x : UInt32) : UInt32 := rotr x 2 ^^^ rotr x 13 ^^^ rotr x 22
def Sig1 (x : UInt32) : UInt32 := rotr x 6 ^^^ rotr x 11 ^^^ rotr x 25
def K256 : List UInt32 := [
  0x428a2f98, 0x71374491, 0xb5c0fbcf, 0xe9b5dba5, 0x3956c25b, 0x59f111f1, 0x923f82a4, 0xab1c5ed5,
  0xd807aa98, 0x12835b01, 0x243185be, 0x550c7dc3, 0x72be5d74, 0x80deb1fe, 0x9bdc06a7, 0xc19bf174,
  0xe49b69c1, 0xefbe4786, 0x0fc19dc6, 0x240ca1cc, 0x2de92c6f, 0x4a7484aa, 0x5cb0a9dc, 0x76f988da,
  0x983e5152, 0xa831c66d, 0xb00327c8, 0xbf597fc7, 0xc6e00bf3, 0xd5a79147, 0x06ca6351, 0x14292967,
  0x27b70a85, 0x2e1b2138, 0x4d2c6dfc, 0x53380d13, 0x650a7354, 0x766a0abb, 0x81c2c92e, 0x92722c85,
  0xa2bfe8a1, 0xa81a664b, 0xc24b8b70, 0xc76c51a3, 0xd192e819, 0xd6990624, 0xf40e3585, 0x106aa070,
  0x19a4c116, 0x1e376c08, 0x2748774c, 0x34b0bcb5, 0x391c0cb3, 0x4ed8aa4a, 0x5b9cca4f, 0x682e6ff3,
  0x748f82ee, 0x78a5636f, 0x84c87814, 0x8cc70208, 0x90befffa, 0xa4506ceb, 0xbef9a3f7, 0xc67178f2]
def Init256 : List UInt32 := [0x6a09e667, 0xbb67ae85, 0x3c6ef372, 0xa54ff53a, 0x510e527f, 0x9b05688c, 0x1f83d9ab, 0x5be0cd19]
def wordAt (b : List UInt8) (t : Nat) : UInt32 :=
  shl32 (b32 ((b.getD (4 * t) 0).toNat : Int)) 24 ||| shl32 (b32 ((b.getD (4 * t + 1) 0).toNat : Int)) 16 ||| shl32 (b32 ((b.getD (4 * t + 2) 0).toNat : Int)) 8 ||| b32 ((b.getD (4 * t + 3) 0).toNat : Int)
/-- the first n words of a piece -/
def wl (b : List UInt8) : Nat → List UInt32
  | 0 => []
  | n + 1 => wl b n ++ [if n < 16 then wordAt b n else sig1 ((wl b n).getD (n - 2) 0) + (wl b n).getD (n - 7) 0 + sig0 ((wl b n).getD (n - 15) 0) + (wl b n).getD (n - 16) 0]
theorem wl_length (b : List UInt8) : ∀ n, (wl b n).length = n
  | 0 => rfl
  | n + 1 => by unfold wl; rw [List.length_append, wl_length b n]; rfl
structure St8 where
  a : UInt32
  b : UInt32
  c : UInt32
  d : UInt32
  e : UInt32
  f : UInt32
  g : UInt32
  h : UInt32
def St8.list (s : St8) : List UInt32 := [s.a, s.b, s.c, s.d, s.e, s.f, s.g, s.h]
def St8.of (l : List UInt32) : St8 := ⟨l.getD 0 0, l.getD 1 0, l.getD 2 0, l.getD 3 0, l.getD 4 0, l.getD 5 0, l.getD 6 0, l.getD 7 0⟩
def t1 (s : St8) (k w : UInt32) : UInt32 := s.h + Sig1 s.e + (s.e &&& s.f ^^^ ~~~ s.e &&& s.g) + k + w
def t2 (s : St8) : UInt32 := Sig0 s.a + (s.a &&& s.b ^^^ s.a &&& s.c ^^^ s.b &&& s.c)
def rnd (s : St8) (k w : UInt32) : St8 := ⟨t1 s k w + t2 s, s.a, s.b, s.c, s.d + t1 s k w, s.e, s.f, s.g⟩
def rounds (b : List UInt8) (s : St8) : Nat → St8
  | 0 => s
  | n + 1 => rnd (rounds b s n) (K256.getD n 0) ((wl b 64).getD n 0)
def mixF (l : List UInt32) (b : List UInt8) : List UInt32 :=
  let s := St8.of l; let r := rounds b s 64
  [s.a + r.a, s.b + r.b, s.c + r.c, s.d + r.d, s.e + r.e, s.f + r.f, s.g + r.g, s.h + r.h]
theorem mixF_length (l : List UInt32) (b : List UInt8) : (mixF l b).length = 8 := rfl
/-- the state behind n pieces -/
def mixN (all : List UInt8) : Nat → List UInt32
  | 0 => Init256
  | n + 1 => mixF (mixN all n) ((all.drop (64 * n)).take 64)
theorem mixN_length (all : List UInt8) : ∀ n, (mixN all n).length = 8
  | 0 => rfl
  | _ + 1 => rfl
def be8 (n : Nat) : List UInt8 := (List.range 8).map fun i => b8 ((n : Int) / 2 ^ (8 * (7 - i)))
def zeros (n : Nat) : Nat := (119 - n % 64) % 64
def pad (m : List UInt8) : List UInt8 := m ++ [0x80] ++ List.replicate (zeros m.length) 0 ++ be8 (8 * m.length)
theorem be8_length (n : Nat) : (be8 n).length = 8 := by simp [be8]
theorem pad_length (m : List UInt8) : (pad m).length = (m.length + 8) / 64 * 64 + 64 := by
  simp only [pad, List.length_append, List.length_cons, List.length_nil, List.length_replicate, be8_length, zeros]; omega
def outB (l : List UInt32) : List UInt8 := l.flatMap fun x => [b8 ((shr32 x 24).toNat : Int), b8 ((shr32 x 16).toNat : Int), b8 ((shr32 x 8).toNat : Int), b8 (x.toNat : Int)]
theorem outB_length (l : List UInt32) : (outB l).length = 4 * l.length := by
  unfold outB
  induction l with
  | nil => rfl
  | cons x l ih => simp only [List.flatMap_cons, List.length_append, List.length_cons, List.length_nil, ih]; omega
def sha (m : List UInt8) : List UInt8 := outB (mixN (pad m) ((pad m).length / 64))
theorem sha_length (m : List UInt8) : (sha m).length = 32 := by unfold sha; rw [outB_length, mixN_length]
theorem shr32_zero (x : UInt32) : shr32 x 0 = x := by
  unfold shr32; simp
end Go.Lf
namespace Go.Lf
theorem flat_getB {α β : Type} (f : α → List β) (z : Nat) : ∀ (L : List α), (∀ x ∈ L, (f x).length = z) → ∀ (i : Nat) (x : α), L[i]? = some x → ∀ j, j < z → (L.flatMap f)[i * z + j]? = (f x)[j]?
  | [], _, i, x, h, j, _ => by simp at h
  | y :: L, hL, 0, x, h, j, hj => by
    simp at h; subst h
    rw [List.flatMap_cons, List.getElem?_append_left (by rw [hL y (by simp)]; omega)]; simp
  | y :: L, hL, i + 1, x, h, j, hj => by
    rw [List.flatMap_cons, List.getElem?_append_right (by rw [hL y (by simp), Nat.succ_mul]; omega), hL y (by simp), show (i + 1) * z + j - z = i * z + j by rw [Nat.succ_mul]; omega]
    exact flat_getB f z L (fun y hy => hL y (by simp [hy])) i x (by simpa using h) j hj
theorem outB_getD (S : List UInt32) (i k : Nat) (hi : i < S.length) (hk : k < 4) : (outB S).getD (4 * i + k) 0 = b8 ((shr32 (S.getD i 0) (24 - 8 * k)).toNat : Int) := by
  have h := flat_getB (fun x : UInt32 => [b8 ((shr32 x 24).toNat : Int), b8 ((shr32 x 16).toNat : Int), b8 ((shr32 x 8).toNat : Int), b8 (x.toNat : Int)]) 4 S (fun _ _ => rfl) i S[i] (List.getElem?_eq_getElem hi) k hk
  rw [List.getD_eq_getElem?_getD, show 4 * i + k = i * 4 + k by omega]
  unfold outB
  rw [h, List.getD_eq_getElem?_getD, List.getElem?_eq_getElem hi]
  match k, hk with
  | 0, _ => rfl
  | 1, _ => rfl
  | 2, _ => rfl
  | 3, _ => show b8 _ = b8 ((shr32 S[i] 0).toNat : Int); rw [shr32_zero]
theorem be8_getD (n i : Nat) (hi : i < 8) : (be8 n).getD i 0 = b8 ((n : Int) / 2 ^ (8 * (7 - i))) := by
  unfold be8
  rw [List.getD_eq_getElem?_getD, List.getElem?_map, List.getElem?_range hi]; rfl
theorem pad_low (m : List UInt8) (j : Nat) (h : j < (pad m).length - 8) : (pad m).getD j 0 = (m ++ [0x80]).getD j 0 := by
  have hl := pad_length m
  unfold pad at *
  simp only [List.length_append, List.length_cons, List.length_nil, List.length_replicate, be8_length] at hl h
  rw [List.getD_eq_getElem?_getD, List.getElem?_append_left (by simp; omega), List.getElem?_append, List.getD_eq_getElem?_getD]
  split
  · rfl
  · rename_i h1
    simp only [List.length_append, List.length_cons, List.length_nil] at h1
    rw [List.getElem?_replicate, if_pos (by simp; omega), List.getElem?_eq_none (by simp; omega)]
    rfl
theorem pad_high (m : List UInt8) (i : Nat) (h : i < 8) : (pad m).getD ((pad m).length - 1 - i) 0 = b8 (((8 * m.length : Nat) : Int) / 2 ^ (8 * i)) := by
  have e : (pad m).length = (m ++ [0x80] ++ List.replicate (zeros m.length) 0).length + 8 := by unfold pad; rw [List.length_append, be8_length]
  have e2 : (pad m).length - 1 - i = (m ++ [0x80] ++ List.replicate (zeros m.length) 0).length + (7 - i) := by omega
  rw [e2, List.getD_eq_getElem?_getD]
  unfold pad
  rw [List.getElem?_append_right (by omega), Nat.add_sub_cancel_left, ← List.getD_eq_getElem?_getD, be8_getD _ _ (by omega), show 7 - (7 - i) = i by omega]
end Go.Lf
