/- A part of the proof: A.P22. -/
import Derived.Test.YtgfeaeedlakmfaaAP21
set_option linter.unusedVariables false
set_option linter.unusedSimpArgs false
set_option linter.unusedSectionVars false
namespace Go.Proofs
open Go Go.Lf
set_option maxRecDepth 20000
set_option maxHeartbeats 2000000
set_option linter.unusedSimpArgs false
set_option linter.unusedVariables false
abbrev okI (n : Int) : Prop := -9223372036854775808 ≤ n ∧ n ≤ 9223372036854775807
/-- where the blocks' bytes may lie -/
def QL (p mb ub x L H : Nat) (b : Nat) : Prop := b ≠ p ∧ b ≠ mb ∧ b ≠ ub ∧ b ≠ x ∧ (b < L ∨ H ≤ b)
def M4 (p mb ub x : Nat) (b : Nat) : Prop := b = p ∨ b = mb ∨ b = ub ∨ b = x
structure Fix (w0 : World) (p mb ub x : Nat) (room quota : Int) : Prop where
  lo : sz w0 ≤ p ∧ sz w0 ≤ mb ∧ sz w0 ≤ ub ∧ sz w0 ≤ x
  ne : x ≠ p ∧ x ≠ mb ∧ x ≠ ub
  room : 0 ≤ room ∧ room ≤ 1073741824
  quota : 0 ≤ quota ∧ quota ≤ 1073741824
/-- the area and the reference stand for the same blocks -/
structure PlC (W : World) (p mb ub x : Nat) (room quota : Int) (L H : Nat) (A : List AE) (R : List BV) (s : Value) (soon : Int) (cm : Nat) (us : Ents Int) (cu : Nat) : Prop where
  a : AreaC W p mb ub room quota soon cm A (QL p mb ub x L H) us cu
  so : ∀ y ∈ A, soon ≤ y.b.exp
  r : RefC W x room quota s R (QL p mb ub x L H)
  rel : RelB (bl A) (bR R)
  keys : ∀ y ∈ A, y.b.key ∈ keys12
def PlS (W : World) (p mb ub x : Nat) (room quota : Int) (L H : Nat) : Prop := ∃ A R s soon cm us cu, PlC W p mb ub x room quota L H A R s soon cm us cu
section
variable {w0 W : World} {p mb ub x : Nat} {room quota : Int} {L H : Nat} {A : List AE} {R : List BV} {s : Value} {soon : Int} {cm : Nat} {us : Ents Int} {cu : Nat}
theorem PlC.len (h : PlC W p mb ub x room quota L H A R s soon cm us cu) : A.length ≤ 12 ∧ R.length = A.length := by
  constructor
  · have := nodup_len (l := A.map fun y => y.b.key) (m := keys12) h.a.good.keys fun k hk => by
      obtain ⟨y, hy, rfl⟩ := List.mem_map.1 hk; exact h.keys y hy
    rw [List.length_map] at this; exact this
  · have := h.rel.perm.length_eq
    simp only [bl, bR, List.length_map] at this; exact this.symm
theorem PlC.ext (h : PlC W p mb ub x room quota L H A R s soon cm us cu) {W' : World} {M : Nat → Prop} (hx : Ext M W W') (hM : ∀ b, b < sz W → QL p mb ub x L H b ∨ M4 p mb ub x b → ¬ M b) : PlC W' p mb ub x room quota L H A R s soon cm us cu :=
  ⟨h.a.ext hx fun b hb hq => hM b hb (hq.imp id fun h => by rcases h with h | h | h <;> simp [M4, h]), h.so, h.r.ext hx fun b hb hq => hM b hb (hq.imp id fun h => by simp [M4, h]), h.rel, h.keys⟩
theorem PlC.mono (h : PlC W p mb ub x room quota L H A R s soon cm us cu) {L' H' : Nat} (hM : ∀ b, b < sz W → (b < L ∨ H ≤ b) → (b < L' ∨ H' ≤ b)) : PlC W p mb ub x room quota L' H' A R s soon cm us cu := by
  have hq : ∀ b, b < sz W → QL p mb ub x L H b → QL p mb ub x L' H' b := fun b hb hq => ⟨hq.1, hq.2.1, hq.2.2.1, hq.2.2.2.1, hM b hb hq.2.2.2.2⟩
  exact ⟨h.a.mono hq fun b hb => ⟨hb.1, hb.2.1, hb.2.2.1⟩, h.so, ⟨h.r.hp, h.r.sl.mono hq, h.r.klen, fun y hy => Vec.mono (h.r.data y hy) hq, fun b hb => hb.2.2.2.1, h.r.htot⟩, h.rel, h.keys⟩
theorem PlS.ext (h : PlS W p mb ub x room quota L H) {W' : World} {M : Nat → Prop} (hx : Ext M W W') (hM : ∀ b, b < sz W → QL p mb ub x L H b ∨ M4 p mb ub x b → ¬ M b) : PlS W' p mb ub x room quota L H := by
  obtain ⟨A, R, s, soon, cm, us, cu, h⟩ := h
  exact ⟨A, R, s, soon, cm, us, cu, h.ext hx hM⟩
theorem PlC.lt (h : PlC W p mb ub x room quota L H A R s soon cm us cu) : p < sz W ∧ mb < sz W ∧ ub < sz W ∧ x < sz W := ⟨Hp_lt h.a.hp, Hp_lt h.a.hm, Hp_lt h.a.hu, Hp_lt h.r.hp⟩
theorem putB_keys {P : List UInt8 → Prop} {now : Int} {b : Blk} {l : List Blk} (hb : P b.key) (hl : ∀ y ∈ l, P y.key) : ∀ y ∈ (putB room quota now b l).2, P y.key := by
  have hs : ∀ y ∈ sweepB now l, P y.key := fun y hy => hl y (List.mem_filter.1 hy).1
  intro y hy
  unfold putB at hy
  split at hy
  · exact hl y hy
  · split at hy
    · exact hl y hy
    · split at hy
      · obtain ⟨z, hz, rfl⟩ := List.mem_map.1 hy
        rw [reletB_key]; exact hs z hz
      · split at hy
        · exact hs y hy
        · split at hy
          · exact hs y hy
          · rcases List.mem_append.1 hy with hy | hy
            · exact hs y hy
            · rw [List.mem_singleton.1 hy]; exact hb
theorem bl_keys {A : List AE} {P : List UInt8 → Prop} : (∀ y ∈ A, P y.b.key) ↔ ∀ y ∈ bl A, P y.key :=
  ⟨fun h y hy => by obtain ⟨z, hz, rfl⟩ := List.mem_map.1 hy; exact h z hz, fun h y hy => h y.b (List.mem_map_of_mem hy)⟩
/-- The area has put, the reference not yet. -/
structure MidP (W : World) (p mb ub x : Nat) (room quota : Int) (L H : Nat) (now : Int) (b : Blk) (A : List AE) (R : List BV) (s : Value) (A' : List AE) (soon : Int) (cm : Nat) (us : Ents Int) (cu : Nat) : Prop where
  a : AreaC W p mb ub room quota soon cm A' (QL p mb ub x L H) us cu
  so : ∀ y ∈ A', soon ≤ y.b.exp
  r : RefC W x room quota s R (QL p mb ub x L H)
  rel : RelB (bl A) (bR R)
  keys : ∀ y ∈ A, y.b.key ∈ keys12
  len : R.length ≤ 12
  eq : bl A' = (putB room quota now b (bl A)).2
theorem put_first (f : Fix w0 p mb ub x room quota) (h : PlC W p mb ub x room quota L H A R s soon cm us cu) (hH : H ≤ sz W) (now : Int) (b : Blk) (hk : b.key.length = 32) {d : Value} {Qd : Nat → Prop} (hd : Bytes 5 W d b.data Qd)
    (hQd : ∀ b, Qd b → ¬ M4 p mb ub x b) (hdl : b.data.length ≤ 1000000) :
    Calls Try.prog 10 #[ptr p 0, .agg ((bc b.key).toArray ++ #[d, i64 b.src, i64 b.exp]), i64 now] W (retK fun v W1 => v = i64 (putB room quota now b (bl A)).1 ∧ Ext (M4 p mb ub x) W W1 ∧ ∃ A' soon' cm' us' cu', MidP W1 p mb ub x room quota L H now b A R s A' soon' cm' us' cu') := by
  have hl := h.len
  have hlt := h.lt
  refine Calls.ret_mono (put_spec h.a h.so now (by omega) b d hd hk (fun c hc hm => hQd c hc (by rcases hm with e | e | e <;> simp [M4, e])) hdl (fun c hc => ⟨by omega, by omega, by omega, by omega, .inr (by omega)⟩) (fun c hc hm => hm.elim hc.1 fun hm => hm.elim hc.2.1 hc.2.2.1)) ?_
  rintro v W1 ⟨rfl, hx, A', soon', cm', us', cu', heq, hso, hA⟩
  refine ⟨rfl, hx.mono fun c _ hm => by rcases hm with e | e | e <;> simp [M4, e], A', soon', cm', us', cu', hA, hso, h.r.ext hx fun c _ hq hm => ?_, h.rel, h.keys, by omega, heq⟩
  rcases hq with hq | rfl
  · rcases hm with e | e | e
    · exact hq.1 e
    · exact hq.2.1 e
    · exact hq.2.2.1 e
  · rcases hm with e | e | e
    · exact f.ne.1 e
    · exact f.ne.2.1 e
    · exact f.ne.2.2 e
theorem put_second (f : Fix w0 p mb ub x room quota) {now : Int} {b : Blk} {A' : List AE} (h : MidP W p mb ub x room quota L H now b A R s A' soon cm us cu) (hH : H ≤ sz W) (hk : b.key.length = 32) (hk12 : b.key ∈ keys12) {d : Value} {Qd : Nat → Prop} (hd : Bytes 5 W d b.data Qd)
    (hQd : ∀ b, Qd b → ¬ M4 p mb ub x b) (hdl : b.data.length ≤ 1000000) :
    Calls Try.prog 11 #[ptr x 0, .agg ((bc b.key).toArray ++ #[d, i64 b.src, i64 b.exp]), i64 now] W (retK fun v W1 => v = i64 (putB room quota now b (bl A)).1 ∧ Ext (M4 p mb ub x) W W1 ∧ PlS W1 p mb ub x room quota L H) := by
  have hl := h.len
  have hl1 := Hp_lt h.a.hp
  have hl2 := Hp_lt h.a.hm
  have hl3 := Hp_lt h.a.hu
  have hl4 := Hp_lt h.r.hp
  refine Calls.ret_mono (rput_spec h.r f.room.2 now (by omega) b d hd hk (fun c hc e => hQd c hc (by simp [M4, e])) hdl (fun c hc => ⟨by omega, by omega, by omega, by omega, .inr (by omega)⟩)) ?_
  rintro v W1 ⟨c, R', s', rfl, hx, hr, hput⟩
  obtain ⟨h1, h2⟩ := put_rel h.rel hput
  refine ⟨by rw [h1], hx.mono fun c _ e => by simp [M4, e], A', R', s', soon, cm, us, cu, h.a.ext hx fun c _ hq e => ?_, h.so, hr, by rw [h.eq]; exact h2, ?_⟩
  · subst e
    rcases hq with hq | hq
    · exact hq.2.2.2.1 rfl
    · rcases hq with e | e | e
      · exact f.ne.1 e
      · exact f.ne.2.1 e
      · exact f.ne.2.2 e
  · rw [bl_keys (P := fun k => k ∈ keys12), h.eq]
    exact putB_keys (P := fun k => k ∈ keys12) hk12 (bl_keys.1 h.keys)
end
end Go.Proofs
