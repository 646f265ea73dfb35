/- Parts of the proof: S.P13, S.P14, S.P15, S.P16, S.P17, S.P18, S.P19, S.P20, S.P21, S.P22, S.P23, S.P24. -/
import Derived.Test.YtjiadgfieekenaaL2
import Derived.Test.YtjiadgfieekenaaP0
set_option linter.unusedVariables false
set_option linter.unusedSimpArgs false
set_option linter.unusedSectionVars false
namespace Go.Proofs
open Go Go.Lf
set_option maxRecDepth 20000
set_option maxHeartbeats 2000000
set_option linter.unusedSimpArgs false
set_option linter.unusedVariables false
theorem p_and3 {t : Nat} (x : Int) (h0 : 0 ≤ x) (h1 : x < 9223372036854775808) (K : Value → Prop) : PRun Try.prog (binOp .and t (i64 x) (.int .i64 3)) K = K (i64 (x % 4)) := PRun_eq (fun w => by
  show Result.ok (Value.int .i64 (wr ((BitVec.ofInt 64 x &&& BitVec.ofInt 64 3).toNat : Int))) w = _
  have e1 : (BitVec.ofInt 64 x).toNat = x.toNat := by
    rw [BitVec.toNat_ofInt]
    show (x % (2 ^ 64 : Nat)).toNat = x.toNat
    congr 1
    exact Int.emod_eq_of_lt h0 (by omega)
  have e2 : (BitVec.ofInt 64 3).toNat = 2 ^ 2 - 1 := by decide
  have e3 : ((BitVec.ofInt 64 x &&& BitVec.ofInt 64 3).toNat : Int) = x % 4 := by
    rw [BitVec.toNat_and, e1, e2, Nat.and_two_pow_sub_one_eq_mod]; omega
  rw [e3, wr_in _ (by omega)]) K
theorem digit_spec {w : World} {v : Value} {b : List UInt8} {Q : Nat → Prop} (hb : BIn w v b Q) (i : Nat) (hi : i / 4 < b.length) (hib : i ≤ 1000) :
    Calls Try.prog 70 #[v, i64 (i : Int)] w (retK fun v w' => v = i64 (digitL b i : Int) ∧ w' = w) := by
  refine F70_ok _ _ _ _ ?_
  unfold F70
  rcases hb with ⟨rfl, rfl⟩ | ⟨B, o, cap, row, U, fr, rfl, hrow, hcells, -⟩
  · simp at hi
  have q1 : (i : Int).tdiv 4 = ((i / 4 : Nat) : Int) := by rw [Int.tdiv_eq_ediv_of_nonneg (by omega)]; omega
  have q2 : (i : Int).tmod 4 = ((i % 4 : Nat) : Int) := by rw [Int.tmod_eq_emod_of_nonneg (by omega)]; omega
  have hg : row[o + i / 4]? = some (u8v (b.getD (i / 4) 0)) := by rw [hcells _ hi, ← bc_getD b _ hi, List.getElem?_toArray]
  have e1 : ((i % 4 : Nat) : Int) % 18446744073709551616 = ((i % 4 : Nat) : Int) := by omega
  have e2 : (2 * ((i % 4 : Nat) : Int)) % 18446744073709551616 = 2 * ((i % 4 : Nat) : Int) := by omega
  have e3 : (6 - 2 * ((i % 4 : Nat) : Int)) % 18446744073709551616 = 6 - 2 * ((i % 4 : Nat) : Int) := by omega
  have n1 : (6 - 2 * ((i % 4 : Nat) : Int)).toNat = 6 - 2 * (i % 4) := by omega
  have hu := UInt8.toNat_lt (shr8 (b.getD (i / 4) 0) (6 - 2 * (i % 4)))
  simp (maxSteps := 2000000) (disch := first | exact dT_ | fail) only [q1, q2, hrow, hg, e1, e2, e3, n1, p_and3, p_rem, p_quo, L1_cells, Option.elim_some, and_true, u64w, i64w, wr_in, Int.toNat_natCast, Nat.mul_one, p_shr8, p_sub64u, p_mul64u, ix30, cv3_69, cv5_3, ld5]
  have hm : (((shr8 (b.getD (i / 4) 0) (6 - 2 * (i % 4))).toNat : Int)) % 4 = (digitL b i : Int) := by unfold digitL; omega
  rw [hm]
theorem take_set_nextG {α : Type} (W : List α) (i : Nat) (x : α) (h : i < W.length) : (W.set i x).take (i + 1) = W.take i ++ [x] := by
  apply List.ext_getElem?
  intro j
  rw [List.getElem?_take, List.getElem?_set, List.getElem?_append, List.length_take, Nat.min_eq_left (by omega)]
  by_cases h1 : j < i
  · rw [if_pos (by omega), if_neg (by omega), if_pos h1, List.getElem?_take, if_pos h1]
  · by_cases h2 : j = i
    · subst h2; rw [if_pos (by omega), if_pos rfl, if_pos h, if_neg (by omega), Nat.sub_self]; rfl
    · rw [if_neg (by omega), if_neg (by omega), List.getElem?_eq_none (by simp; omega)]
def digD (name : List UInt8) (q : Int) (c msg : List UInt8) : List Int := (digitsL name q c msg).map fun n : Nat => (n : Int)
theorem digD_length (name : List UInt8) (q : Int) (c msg : List UInt8) : (digD name q c msg).length = 133 := by unfold digD; rw [List.length_map, digitsL_length]
theorem digD_getD (name : List UInt8) (q : Int) (c msg : List UInt8) (i : Nat) : (digD name q c msg).getD i 0 = (((digitsL name q c msg).getD i 0 : Nat) : Int) := by
  unfold digD
  rw [List.getD_eq_getElem?_getD, List.getElem?_map, List.getD_eq_getElem?_getD]
  cases (digitsL name q c msg)[i]? <;> rfl
theorem ext_ic0 {k : List Int} {n : Nat} (h : k.length = n) : ((ic k).toArray).extract 0 n = (ic k).toArray := by
  have e : n = (ic k).toArray.size := by simp [ic_length, h]
  rw [e]; exact Array.extract_size
theorem rgAppL {w0 w : World} {m : Nat} {c : Value} {l : List UInt8} {P : List Nat} {K : Value → World → Prop} (hR : Rg w0 m c l P w) (l' : List UInt8) {cs : Array Value} {n : Nat} (hcs : cs = (bc l').toArray) (hn : n = l'.length) (hl : l.length + l'.length ≤ 1000000000) {R : TypeId} (hk : ∀ c w', Rg w0 m c (l ++ l') P w' → RgX m P w w' → K c w') :
    Run Try.prog (Builtin.append_ #[30, 30] R #[c, .slice (some ⟨sz w, 0, none⟩) n n]) (w.alloc (.cells cs 5)) K := by
  refine apLQ _ hR.1 hcs hn hR.fresh hl ?_
  intro v' w' h1 h2
  exact hk v' w' (hR.next h1 h2) h2
theorem digits5_spec {w : World} {name c msg : List UInt8} {cv mv : Value} {Q1 Q2 : Nat → Prop} (hn : name.length = 16) (hc : BIn w cv c Q1) (hm : BIn w mv msg Q2) (hcl : c.length ≤ 10000) (hml : msg.length ≤ 100000) (q : Int) :
    Calls Try.prog 54 #[idv name, i64 q, cv, mv] w (retK fun v w' => v = .agg (ic (digD name q c msg)).toArray ∧ Ext (fun _ => False) w w') := by
  refine F54_ok _ _ _ _ _ _ ?_
  unfold F54
  simp (maxSteps := 2000000) (disch := first | exact dT_ | fail) only [hn, ext_bc0 hn, r_box, Ln_cells, Hp_alloc_new, Hp_alloc_old, sz_alloc, cells_agg, Nat.zero_add, List.size_toArray, Nat.reduceLeDiff, if_pos, forall_const, bc_length, slA25, ld49, bs30_0, bs30_2, al25, al91, zv25, zv91]
  obtain ⟨w2, hw2⟩ : ∃ w2, w2 = (w.alloc (Obj.cells (bc name).toArray 49)).alloc (Obj.cells (ic (List.replicate 133 0)).toArray 91) := ⟨_, rfl⟩
  have hx2 : Ext (fun _ => False) w w2 := by rw [hw2]; exact ((Ext.refl _ _).alloc _).alloc _
  have h82 : Hp w2 (sz w + 1) = some (Obj.cells (ic (List.replicate 133 0)).toArray 91) := by rw [hw2]; (first | exact hpt_ | fail)
  have hs2 : sz w2 = sz w + 1 + 1 := by rw [hw2]; (first | exact szT_ | fail)
  try rw [← hw2]
  clear hw2
  obtain ⟨m, hmm⟩ : ∃ m, m = sz w2 := ⟨_, rfl⟩
  have hx := Rg.start m hmm
  refine rgHead hx (q := q) rfl rfl hn ?_
  intro c1 w3 hR hX
  have hc2 : BIn w2 cv c Q1 := hc.ext hx2 fun _ _ _ => not_false
  have hm2 : BIn w2 mv msg Q2 := hm.ext hx2 fun _ _ _ => not_false
  refine rgAppL hR [0x81, 0x81] rfl rfl (by rw [headL_length]; simp; omega) ?_
  intro c2 w4 hR hX
  refine rgApp hR (hc2.ext hR.2.2.2 fun b hb _ h => by omega).of (by simp [headL_length]; omega) ?_
  intro c3 w5 hR hX
  refine rgApp hR (hm2.ext hR.2.2.2 fun b hb _ h => by omega).of (by simp [headL_length]; omega) ?_
  intro c4 w6 hR hX
  refine rgSum hR (by simp [headL_length]; omega) ?_
  intro w7 hR hX
  have e : sha (headL name q ++ [0x81, 0x81] ++ c ++ msg) = digestL name q c msg := rfl
  rw [e]
  have hl : (digestL name q c msg).length = 32 := sha_length _
  have hD : digitsL name q c msg = (List.range 133).map (digitL (digestL name q c msg ++ two ((64 * lackL (digestL name q c msg) 128 : Nat) : Int))) := rfl
  have hDl := digD_length name q c msg
  have hDd : ∀ i, i < 133 → (digD name q c msg).getD i 0 = (digitL (digestL name q c msg ++ two ((64 * lackL (digestL name q c msg) 128 : Nat) : Int)) i : Int) := by
    intro i hi
    rw [digD_getD, hD, List.getD_eq_getElem?_getD, List.getElem?_map, List.getElem?_range hi]; rfl
  clear hD
  generalize digD name q c msg = D at *
  generalize digestL name q c msg = S at *
  have h32 : (List.replicate 32 (0 : UInt8)).length = 32 := by simp
  have s1 : splice (bc (List.replicate 32 0)).toArray 0 (bc S).toArray = (bc S).toArray := splice_bc_all (by rw [h32, hl])
  simp (maxSteps := 2000000) (disch := first | exact dT_ | fail) only [h32, hl, s1, put_allocN, St_cells, Hp_alloc_new, sz_alloc, cells_agg, Nat.zero_add, List.size_toArray, Nat.reduceLeDiff, if_pos, and_self, bc_length, st25]
  obtain ⟨w10, hw10⟩ : ∃ w10, w10 = w7.alloc (Obj.cells (bc S).toArray 25) := ⟨_, rfl⟩
  have hx10 : Ext (fun _ => False) w7 w10 := by rw [hw10]; exact (Ext.refl _ _).alloc _
  have hq10 : Hp w10 (sz w7) = some (Obj.cells (bc S).toArray 25) := by rw [hw10]; (first | exact hpt_ | fail)
  have hs10 : sz w10 = sz w7 + 1 := by rw [hw10]; (first | exact szT_ | fail)
  try rw [← hw10]
  try rw [← hs10]
  clear hw10
  have hs7 := hR.2.2.1
  have hxa : Ext (fun b => m ≤ b) w2 w10 := hR.2.2.2.trans hx10 fun _ _ h => h.elim
  clear hR hX
  have hxn : Ext (fun _ => False) w10 (w10.alloc (Obj.cells #[] 5)) := (Ext.refl _ _).alloc _
  have h0 : BOwn 5 (w10.alloc (Obj.cells #[] 5)) (.slice (some ⟨sz w10, 0, none⟩) 0 0) [] (sz w10) := BOwn.fresh (l := []) [] rfl rfl (Nat.le_refl _) (Nat.le_refl _) (Nat.le_refl _)
  refine apQ _ (Q := fun b => m ≤ b) (Vec.mono h0 fun b _ hb => by omega) (BIn.arr (n := 32) (cap := 32) (hxn.at hq10 not_false) hl).of (fun b hb => by rw [sz_alloc] at hb; omega) (by simp; omega) ?_
  intro v27 w12 hv27 hx12
  rw [List.nil_append] at hv27
  have hx12' : Ext (fun b => m ≤ b) w2 w12 := (hxa.trans hxn fun _ _ h => h.elim).trans hx12 fun _ _ h => h
  clear h0 hx12 hxn hxa hx10 hq10
  have hs12 := hx12'.size
  obtain ⟨J, hJ⟩ : ∃ J : Value → Value → World → Prop, J = fun u v w' => ∃ i : Nat, i ≤ 128 ∧ u = i64 (lackL S i : Int) ∧ v = i64 (i : Int) ∧ w' = w12 := ⟨_, rfl⟩
  refine Loop2 J (fun _ v _ => 128 - (match v with | .int _ n => n.toNat | _ => 0)) (by rw [hJ]; exact ⟨0, by omega, rfl, rfl, rfl⟩) ?_
  intro u v w13 hj
  rw [hJ] at hj
  obtain ⟨i, hi, rfl, rfl, rfl⟩ := hj
  unfold F54x2
  have hlk := lackL_le S i
  by_cases hlt : i < 128
  · have hlt' : (i : Int) < 128 := by omega
    simp (maxSteps := 2000000) (disch := first | exact dT_ | fail) only [hlt', p_add, p_mul, p_lss, cells_agg, Branch_bool, and_true, Bool.true_eq_false, false_implies, forall_const, wr_in, Int.toNat_natCast, decide_true, al91, zv91]
    refine CallF_by Try.call70 (digit_spec (Bytes.bin hv27) i (by omega) (by omega)) ?_
    rintro _ w14 ⟨rfl, rfl⟩
    have hd := digitL_lt S i
    simp (maxSteps := 2000000) (disch := first | exact dT_ | fail) only [p_sub, wr_in]
    refine ⟨?_, by omega⟩
    rw [hJ]
    refine ⟨i + 1, by omega, ?_, by congr 1, rfl⟩
    congr 1
    show _ = ((lackL S i + 3 - digitL S i : Nat) : Int)
    omega
  obtain rfl : i = 128 := by omega
  have hlt' : ¬ ((128 : Nat) : Int) < 128 := by omega
  have e64 : (64 : Int) * (lackL S 128 : Int) = ((64 * lackL S 128 : Nat) : Int) := by omega
  simp (maxSteps := 2000000) (disch := first | exact dT_ | fail) only [hlt', e64, p_add, p_mul, p_lss, cells_agg, Branch_bool, true_and, Bool.false_eq_true, false_implies, forall_const, Nat.sub_self, wr_in, Int.toNat_natCast, decide_false, al91, zv91]
  clear hJ J
  refine CallF_by Try.call52 (two_spec hv27 (fun b hb => by omega) (by omega) _) ?_
  rintro v41 w15 ⟨hv41, hx15⟩
  generalize hT : S ++ two ((64 * lackL S 128 : Nat) : Int) = T at *
  have hTl : T.length = 34 := by rw [← hT, List.length_append, hl, two_length]
  have hD0 : (List.replicate 133 (0 : Int)).length = 133 := by simp
  have hx15' : Ext (fun b => m ≤ b) w2 w15 := hx12'.trans hx15 fun _ _ h => h
  have hs15 := hx15'.size
  obtain ⟨w16, hw16⟩ : ∃ w16, w16 = w15.alloc (Obj.cells (ic (List.replicate 133 0)).toArray 91) := ⟨_, rfl⟩
  have hx16 : Ext (fun _ => False) w15 w16 := by rw [hw16]; exact (Ext.refl _ _).alloc _
  have hq16 : Hp w16 (sz w15) = some (Obj.cells (ic (List.replicate 133 0)).toArray 91) := by rw [hw16]; (first | exact hpt_ | fail)
  rw [← hw16]
  clear hw16
  have hv16 := Vec.ext (Vec.mono hv41 (Q' := fun b => b ≠ sz w15) fun b hb _ => by omega) hx16 fun _ _ _ => not_false
  obtain ⟨J, hJ⟩ : ∃ J : Value → World → Prop, J = fun v w' => ∃ (i : Nat) (A : List Int), i ≤ 133 ∧ v = i64 (i : Int) ∧ A.length = 133 ∧ A.take i = D.take i ∧ Ext (fun b => b = sz w15) w16 w' ∧ Hp w' (sz w15) = some (Obj.cells (ic A).toArray 91) := ⟨_, rfl⟩
  refine Loop1 J (fun v _ => 133 - (match v with | .int _ n => n.toNat | _ => 0)) (by rw [hJ]; exact ⟨0, _, by omega, rfl, hD0, rfl, Ext.refl _ _, hq16⟩) ?_
  intro v w17 hj
  rw [hJ] at hj
  obtain ⟨i, A, hi, rfl, hA, htk, hx17, hq17⟩ := hj
  have hl17 := Hp_lt hq17
  unfold F54x1
  by_cases hlt : i < 133
  · have hlt' : (i : Int) < 133 := by omega
    simp (maxSteps := 2000000) (disch := first | exact dT_ | fail) only [hlt', p_add, p_lss, Branch_bool, Nat.zero_add, and_true, Bool.true_eq_false, false_implies, forall_const, wr_in, Int.toNat_natCast, Nat.mul_one, decide_true, ix91, ld91]
    refine CallF_by Try.call70 (digit_spec (Bytes.bin (Vec.ext hv16 hx17 fun b _ h e => h e)) i (by omega) (by omega)) ?_
    rintro _ w18 ⟨rfl, rfl⟩
    simp (maxSteps := 2000000) (disch := first | exact dT_ | fail) only [hq17, hA, St_cells, cells_int, Nat.zero_add, List.size_toArray, List.length_cons, List.length_nil, Nat.reduceLeDiff, if_pos, true_and, ic_length, ic_set, st3]
    refine ⟨?_, by omega⟩
    rw [hJ]
    refine ⟨i + 1, _, by omega, by congr 1, by rw [List.length_set]; exact hA, ?_, hx17.put _ _ fun _ => rfl, Hp_put_same _ _ _ hl17⟩
    rw [take_set_nextG _ _ _ (by omega), htk, List.take_add_one, List.getElem?_eq_getElem (by omega)]
    have := hDd i hlt
    rw [List.getD_eq_getElem?_getD, List.getElem?_eq_getElem (by omega)] at this
    simp only [Option.getD_some] at this
    rw [this]; rfl
  · obtain rfl : i = 133 := by omega
    have hlt' : ¬ ((133 : Nat) : Int) < 133 := by omega
    have hAD : A = D := by
      have e1 := List.take_of_length_le (i := 133) (l := A) (by omega)
      have e2 := List.take_of_length_le (i := 133) (l := D) (by omega)
      rw [← e1, htk, e2]
    rw [hAD] at hq17
    have h8 := hx17.at (hx16.at (hx15'.at h82 (by omega)) not_false) (by omega)
    have hl8 := Hp_lt h8
    have s2 : splice (ic (List.replicate 133 (0 : Int))).toArray 0 (ic D).toArray = (ic D).toArray := splice_all _ _ (by simp [ic_length, hDl])
    simp (maxSteps := 2000000) (disch := first | exact dT_ | fail) only [hlt', hq17, h8, hDl, hD0, s2, ext_ic0 hDl, p_add, p_lss, Ln_cells, St_cells, Hp_put_same, cells_agg, Branch_bool, Nat.zero_add, List.size_toArray, Nat.reduceLeDiff, if_pos, true_and, and_self, Bool.false_eq_true, false_implies, forall_const, Nat.sub_self, wr_in, Int.toNat_natCast, ic_length, decide_false, ld91, st91]
    exact (((hx2.trans2 hx15' (fun _ _ h => h) fun b hb h => by omega).trans hx16 fun _ _ h => h).trans hx17 fun b hb h => by omega).put _ _ fun h => by omega
end Go.Proofs
namespace Go.Proofs
open Go Go.Lf
set_option maxRecDepth 20000
set_option maxHeartbeats 2000000
set_option linter.unusedSimpArgs false
set_option linter.unusedVariables false
theorem sign_loop {w4 : World} {p4 p5 p9 p10 : Nat} {name seed S msg : List UInt8} {K : Value → World → Prop} (hn : name.length = 16) (hs : seed.length = 32) (hS : S.length = 32) (q : Int)
    (h44 : Hp w4 p4 = some (Obj.cells (bc name).toArray 49)) (h54 : Hp w4 p5 = some (Obj.cells (bc seed).toArray 25)) (h94 : Hp w4 p9 = some (Obj.cells (bc S).toArray 25)) (h104 : Hp w4 p10 = some (Obj.cells (ic (digD name q S msg)).toArray 91))
    (hk : ∀ v w', Bytes 5 w' v (four 2 ++ S ++ (List.range 133).flatMap fun i => walkL name q i 0 ((digitsL name q S msg).getD i 0) (secretL name q i seed)) (fun b => sz w4 ≤ b) → Ext (fun _ => False) w4 w' → K v w') :
    F34x3 (ptr p9 0) w4 (ptr p4 0) (ptr p10 0) (ptr p5 0) (i64 q) K := by
  unfold F34x3
  simp (maxSteps := 2000000) (disch := first | exact dT_ | fail) only [Hp_drew, forall_const, slA25, ld25, ld49]
  obtain ⟨m, hm⟩ : ∃ m, m = sz w4.drew := ⟨_, rfl⟩
  have hsd : sz w4.drew = sz w4 := sz_drew _
  refine CallF_by Try.call55 (four5_spec (l := []) (Q := fun b => m ≤ b) (BOwn.nil 5 w4.drew m) (fun b hb => by omega) (Nat.zero_le _) 2) ?_
  rintro v28 w5 ⟨hv28, hx5⟩
  rw [List.nil_append] at hv28
  have hx45 : Ext (fun b => m ≤ b) w4 w5 := ((Ext.refl _ _).drew).trans hx5 fun _ _ h => h
  have hs5 := hx45.size
  refine apQ _ hv28 (BIn.arr (n := 32) (cap := 32) (hx45.at h94 (by have := Hp_lt h94; omega)) hS).of (fun b hb => by omega) (by rw [four_length]; omega) ?_
  intro v30 w6 hv30 hx6
  have hx46 : Ext (fun b => m ≤ b) w4 w6 := hx45.trans hx6 fun _ _ h => h
  clear hv28 hx5 hx45 hx6
  obtain ⟨f, hf⟩ : ∃ f : Nat → List UInt8, f = fun i => walkL name q i 0 ((digitsL name q S msg).getD i 0) (secretL name q i seed) := ⟨_, rfl⟩
  have hfl : ∀ i, (f i).length = 32 := fun i => by rw [hf]; exact walkL_length _ _ _ _ _ _ (hashL_length _ _ _ _ _)
  rw [← hf] at hk
  have hDl := digD_length name q S msg
  have h32 : (List.replicate 32 (0 : UInt8)).length = 32 := by simp
  have hl4 := Hp_lt h44
  have hl5 := Hp_lt h54
  have hl10 := Hp_lt h104
  obtain ⟨J, hJ⟩ : ∃ J : Value → Value → World → Prop, J = fun u v w' => ∃ i : Nat, i ≤ 133 ∧ v = i64 (i : Int) ∧ Bytes 5 w' u (four 2 ++ S ++ (List.range i).flatMap f) (fun b => m ≤ b) ∧ Ext (fun b => m ≤ b) w4 w' := ⟨_, rfl⟩
  refine Loop2 J (fun _ v _ => 133 - (match v with | .int _ n => n.toNat | _ => 0)) (by rw [hJ]; exact ⟨0, by omega, rfl, by simpa using hv30, hx46⟩) ?_
  clear hv30 hx46
  intro u v w7 hj
  rw [hJ] at hj
  obtain ⟨i, hi, rfl, hv, hx7⟩ := hj
  have hln : (four 2 ++ S ++ (List.range i).flatMap f).length = 36 + 32 * i := by
    rw [List.length_append, flat32_length f hfl, List.length_append, four_length, hS]
  have h4 := hx7.at h44 (by omega)
  have h5 := hx7.at h54 (by omega)
  have h40 := hx7.at h104 (by omega)
  have hs7 := hx7.size
  by_cases hlt : i < 133
  · have hlt' : (i : Int) < 133 := by omega
    simp (maxSteps := 2000000) (disch := first | exact dT_ | fail) only [hlt', h4, h5, h40, hn, hs, ext_bc0 hn, ext_bc0 hs, p_lss, L1_cells, Ln_cells, Hp_drew, Branch_bool, List.getElem?_toArray, Option.elim_some, Nat.zero_add, List.size_toArray, Nat.reduceLeDiff, if_pos, and_true, Bool.true_eq_false, false_implies, forall_const, bc_length, Nat.reduceSub, Int.toNat_natCast, Nat.mul_one, ic_getL, decide_true, ix91, ld3]
    have hR : Rg w4 m u (four 2 ++ S ++ (List.range i).flatMap f) [] w7.drew := ⟨Vec.mono (Vec.ext hv ((Ext.refl (fun _ => False) w7).drew) fun _ _ _ => not_false) fun b _ h => ⟨h, by simp⟩, (fun _ h => by cases h), by rw [sz_drew]; omega, hx7.drew⟩
    replace h4 : Hp w7.drew p4 = some (Obj.cells (bc name).toArray 49) := h4
    replace h5 : Hp w7.drew p5 = some (Obj.cells (bc seed).toArray 25) := h5
    replace h40 : Hp w7.drew p10 = some (Obj.cells (ic (digD name q S msg)).toArray 91) := h40
    have hdd := digD_getD name q S msg i
    have hd3 := digitsL_le name q S msg i
    have hfi : f i = walkL name q i 0 ((digitsL name q S msg).getD i 0) (secretL name q i seed) := by rw [hf]
    have hiD : i < (digD name q S msg).length := by omega
    generalize hdv : (digitsL name q S msg).getD i 0 = d at *
    have hT : ∀ {c : Value} {P : List Nat} {w' : World} {p : Nat}, Rg w4 m c (four 2 ++ S ++ (List.range i).flatMap f) P w' → p ∈ P → Hp w' p = some (Obj.cells (bc (List.replicate 32 0)).toArray 25) →
        Run Try.prog (Instr.storeAt 25 (ptr p 0) (idv (walkL name q i 0 d (secretL name q i seed)))) w' fun _ w10 => F34x1 (ptr p 0) c w10 (i64 (i : Int)) fun u' v' w' => J u' v' w' ∧ 133 - (match v' with | .int _ n => n.toNat | _ => 0) < 133 - i := by
      intro c P w' p hR hp h9
      rw [← hfi]
      have hl := hfl i
      have hl9 := Hp_lt h9
      obtain ⟨Z, hZ⟩ : ∃ Z, Z = f i := ⟨_, rfl⟩
      rw [← hZ] at hl ⊢
      have s1 : splice (bc (List.replicate 32 0)).toArray 0 (bc Z).toArray = (bc Z).toArray := splice_bc_all (by rw [h32, hl])
      unfold F34x1
      simp (maxSteps := 2000000) (disch := first | exact dT_ | fail) only [h9, h32, hl, s1, p_add, St_cells, cells_agg, Nat.zero_add, List.size_toArray, Nat.reduceLeDiff, if_pos, and_self, bc_length, wr_in, slA25, st25]
      refine rgApp (hR.wr hp _) (BIn.arr (n := 32) (cap := 32) (Hp_put_same _ _ _ hl9) hl).of (by rw [hln]; omega) ?_
      intro c' w'' hR' hX
      refine ⟨?_, by omega⟩
      rw [hJ]
      refine ⟨i + 1, by omega, by simp, ?_, hR'.2.2.2⟩
      rw [range_next, ← hZ, ← List.append_assoc]
      exact Vec.mono hR'.1 fun _ _ h => h.1
    unfold F34x2
    have hsec : (secretL name q i seed).length = 32 := hashL_length _ _ _ _ _
    repeat' (first | ((with_reducible refine rgLd h4 hn ?_); rfl) | ((with_reducible refine rgLdI h5 hs ?_); rfl) | ((with_reducible refine rgLd3 h40 ?_ ?_); assumption; rfl) | with_reducible refine And.intro ?_ ?_ | ((with_reducible refine rgSec hR (name := name) (seed := seed) (q := q) (i := i) ?_ ?_ ?_ ?_ hn hs ?_); rfl; rfl; rfl; rfl; intro w' hR' hX; ((replace h4 := hX.at h4 (.inr (by omega)); replace h5 := hX.at h5 (by first | (refine .inr ?_; omega) | (refine .inl ?_; simp; done)); (try replace h40 := hX.at h40 (.inr (by omega))); (try replace h9 := hX.at h9 (.inl (by simp))); replace hR := hR'; clear hX hR'))) | ((with_reducible refine rgWalk hR (name := name) (t := (secretL name q i seed)) (q := q) (i := i) (f := 0) (n := d) ?_ ?_ ?_ ?_ ?_ ?_ hn hsec ?_ ?_); (first | rfl | (congr 1; omega) | (refine congrArg (Value.int .i64) ?_; omega)); (first | rfl | (congr 1; omega) | (refine congrArg (Value.int .i64) ?_; omega)); (first | rfl | (congr 1; omega) | (refine congrArg (Value.int .i64) ?_; omega)); (first | rfl | (congr 1; omega) | (refine congrArg (Value.int .i64) ?_; omega)); (first | rfl | (congr 1; omega) | (refine congrArg (Value.int .i64) ?_; omega)); (first | rfl | (congr 1; omega) | (refine congrArg (Value.int .i64) ?_; omega)); omega; intro w' hR' hX; ((replace h4 := hX.at h4 (.inr (by omega)); replace h5 := hX.at h5 (by first | (refine .inr ?_; omega) | (refine .inl ?_; simp; done)); (try replace h40 := hX.at h40 (.inr (by omega))); (try replace h9 := hX.at h9 (.inl (by simp))); replace hR := hR'; clear hX hR'))) | ((with_reducible refine rgId hR ?_); intro w' hR' hX h9; ((replace h4 := hX.at h4 (.inr (by omega)); replace h5 := hX.at h5 (by first | (refine .inr ?_; omega) | (refine .inl ?_; simp; done)); (try replace h40 := hX.at h40 (.inr (by omega))); (try replace h9 := hX.at h9 (.inl (by simp))); replace hR := hR'; clear hX hR'))))
    all_goals exact hT hR (by simp) h9
  · obtain rfl : i = 133 := by omega
    have hlt' : ¬ ((133 : Nat) : Int) < 133 := by omega
    simp (maxSteps := 2000000) (disch := first | exact dT_ | fail) only [hlt', p_lss, Branch_bool, true_and, Bool.false_eq_true, false_implies, forall_const, Nat.sub_self, Int.toNat_natCast, decide_false]
    exact hk _ _ (Vec.mono hv fun b _ h => by omega) (hx7.mono fun b hb h => by omega)
end Go.Proofs
namespace Go.Proofs
open Go Go.Lf
set_option maxRecDepth 20000
set_option maxHeartbeats 2000000
set_option linter.unusedSimpArgs false
set_option linter.unusedVariables false
theorem sign_tail {w1 : World} {p4 p5 p9 : Nat} {name seed S msg : List UInt8} {mv : Value} {Qm : Nat → Prop} {K : Value → World → Prop} (hn : name.length = 16) (hs : seed.length = 32) (hS : S.length = 32) (q : Int)
    (h41 : Hp w1 p4 = some (Obj.cells (bc name).toArray 49)) (h51 : Hp w1 p5 = some (Obj.cells (bc seed).toArray 25)) (h91 : Hp w1 p9 = some (Obj.cells (bc S).toArray 25)) (hmsg : BIn w1 mv msg Qm) (hml : msg.length ≤ 100000)
    (hk : ∀ v w', Bytes 5 w' v (four 2 ++ S ++ (List.range 133).flatMap fun i => walkL name q i 0 ((digitsL name q S msg).getD i 0) (secretL name q i seed)) (fun b => sz w1 ≤ b) → Ext (fun _ => False) w1 w' → K v w') :
    F34x5 (ptr p4 0) w1 (ptr p9 0) (i64 q) mv (ptr p5 0) K := by
  unfold F34x5
  simp (maxSteps := 2000000) (disch := first | exact dT_ | fail) only [h41, hn, ext_bc0 hn, Ln_cells, Hp_drew, Nat.zero_add, List.size_toArray, Nat.reduceLeDiff, if_pos, bc_length, slA25, ld49]
  have hd0 : (List.replicate 133 (0 : Int)).length = 133 := by simp
  have hDl := digD_length name q S msg
  have hxd : Ext (fun _ => False) w1 w1.drew := (Ext.refl _ _).drew
  have hT : ∀ {w' : World} {p : Nat}, Ext (fun b => sz w1 ≤ b) w1 w' → sz w1 ≤ p → Hp w' p = some (Obj.cells (ic (List.replicate 133 0)).toArray 91) →
      Run Try.prog (Instr.storeAt 91 (ptr p 0) (.agg (ic (digD name q S msg)).toArray)) w' fun _ w'' => F34x3 (ptr p9 0) w'' (ptr p4 0) (ptr p 0) (ptr p5 0) (i64 q) K := by
    intro w' p hx hp h10
    have hl10 := Hp_lt h10
    have hl9 := Hp_lt h91
    have hl4 := Hp_lt h41
    have hl5 := Hp_lt h51
    have hs' := hx.size
    have s1 : splice (ic (List.replicate 133 (0 : Int))).toArray 0 (ic (digD name q S msg)).toArray = (ic (digD name q S msg)).toArray := splice_all _ _ (by simp [ic_length, hDl])
    simp (maxSteps := 2000000) (disch := first | exact dT_ | fail) only [h10, hd0, hDl, s1, St_cells, cells_agg, Nat.zero_add, List.size_toArray, Nat.reduceLeDiff, if_pos, and_self, ic_length, st91]
    have hx2 : Ext (fun b => sz w1 ≤ b) w1 (put w' p (Obj.cells (ic (digD name q S msg)).toArray 91)) := hx.put _ _ fun _ => hp
    refine sign_loop hn hs hS q (hx2.at h41 (by omega)) (hx2.at h51 (by omega)) (hx2.at h91 (by omega)) (Hp_put_same _ _ _ hl10) ?_
    intro v w'' hv hx''
    exact hk v w'' (Vec.mono hv fun b _ h => by rw [sz_put] at h; omega) ((hx2.trans hx'' fun _ _ h => h.elim).mono fun b hb h => by omega)
  unfold F34x4
  refine ⟨?_, ?_⟩
  · refine CallF_by Try.call54 (digits5_spec hn (BIn.arr (n := 32) (cap := 32) (hxd.at h91 not_false) hS) (hmsg.ext hxd fun _ _ _ => not_false) (by omega) hml q) ?_
    rintro _ w2 ⟨rfl, hx2⟩
    have hx2' : Ext (fun b => sz w1 ≤ b) w1 w2 := (hxd.mono fun _ _ h => h.elim).trans hx2 fun _ _ h => h.elim
    have hs2 := hx2'.size
    rw [al91, zc91]
    exact hT (hx2'.alloc _) hs2 (Hp_alloc_new _ _ _ rfl)
  · rw [al91, zc91]
    obtain ⟨w2, hw2⟩ : ∃ w2, w2 = w1.drew.alloc (Obj.cells (ic (List.replicate 133 0)).toArray 91) := ⟨_, rfl⟩
    have hx2 : Ext (fun _ => False) w1 w2 := by rw [hw2]; exact hxd.alloc _
    have h10 : Hp w2 (sz w1) = some (Obj.cells (ic (List.replicate 133 0)).toArray 91) := by rw [hw2]; exact Hp_alloc_new _ _ _ rfl
    show (QRun Try.prog (Instr.loadAt 49 (ptr p4 0)) (w1.drew.alloc _) _) ∧ CallF Try.prog 54 _ (w1.drew.alloc _) _
    rw [← hw2]
    refine ⟨rgLd (hx2.at h41 not_false) hn rfl, ?_⟩
    refine CallF_by Try.call54 (digits5_spec hn (BIn.arr (n := 32) (cap := 32) (hx2.at h91 not_false) hS) (hmsg.ext hx2 fun _ _ _ => not_false) (by omega) hml q) ?_
    rintro _ w3 ⟨rfl, hx3⟩
    exact hT ((hx2.mono fun _ _ h => h.elim).trans hx3 fun _ _ h => h.elim) (Nat.le_refl _) (hx3.at h10 not_false)
theorem sign5_spec {w : World} {name seed msg : List UInt8} {mv : Value} {Qm : Nat → Prop} (hn : name.length = 16) (hs : seed.length = 32) (hmsg : BIn w mv msg Qm) (hml : msg.length ≤ 100000) (q : Int) :
    Calls Try.prog 34 #[idv name, i64 q, idv seed, mv] w (retK fun v w' => Bytes 5 w' v (signL name q seed msg) (fun b => sz w ≤ b) ∧ Ext (fun _ => False) w w') := by
  refine F34_ok _ _ _ _ _ _ ?_
  unfold F34
  simp (maxSteps := 2000000) (disch := first | exact dT_ | fail) only [hn, ext_bc0 hn, r_box, Ln_cells, Hp_drew, Hp_alloc_new, Hp_alloc_old, sz_alloc, cells_agg, Nat.zero_add, List.size_toArray, Nat.reduceLeDiff, if_pos, bc_length, slA25, ld49]
  obtain ⟨w2, hw2⟩ : ∃ w2, w2 = ((w.alloc (Obj.cells (bc name).toArray 49)).alloc (Obj.cells (bc seed).toArray 25)).drew := ⟨_, rfl⟩
  have hx2 : Ext (fun _ => False) w w2 := by rw [hw2]; exact (((Ext.refl _ _).alloc _).alloc _).drew
  have h4 : Hp w2 (sz w) = some (Obj.cells (bc name).toArray 49) := by rw [hw2]; (first | exact hpt_ | fail)
  have h7 : Hp w2 (sz w + 1) = some (Obj.cells (bc seed).toArray 25) := by rw [hw2]; (first | exact hpt_ | fail)
  have hs2 : sz w2 = sz w + 1 + 1 := by rw [hw2]; (first | exact szT_ | fail)
  rw [← hw2]
  clear hw2
  have h32 : (List.replicate 32 (0 : UInt8)).length = 32 := by simp
  obtain ⟨m, hm⟩ : ∃ m, m = sz w2 := ⟨_, rfl⟩
  have hR := Rg.start m hm
  have hT : ∀ {c : Value} {P : List Nat} {w' : World} {p : Nat}, Rg w2 m c (headL name q ++ two 65533 ++ [255] ++ seed) P w' → p ∈ P → Hp w' p = some (Obj.cells (bc (List.replicate 32 0)).toArray 25) → Hp w' (sz w) = some (Obj.cells (bc name).toArray 49) → Hp w' (sz w + 1) = some (Obj.cells (bc seed).toArray 25) →
      Run Try.prog (Instr.storeAt 25 (ptr p 0) (idv (sha (headL name q ++ two 65533 ++ [255] ++ seed)))) w' fun _ w10 => F34x5 (ptr (sz w) 0) w10 (ptr p 0) (i64 q) mv (ptr (sz w + 1) 0) fun v w' => Bytes 5 w' v (signL name q seed msg) (fun b => sz w ≤ b) ∧ Ext (fun _ => False) w w' := by
    intro c P w' p hR hp h9 h4 h7
    have hl9 := Hp_lt h9
    have hpm := hR.2.1 p hp
    have e : sha (headL name q ++ two 65533 ++ [255] ++ seed) = saltL name q seed := rfl
    rw [e]
    have hl : (saltL name q seed).length = 32 := hashL_length _ _ _ _ _
    have hsg : signL name q seed msg = four 2 ++ saltL name q seed ++ (List.range 133).flatMap fun i => walkL name q i 0 ((digitsL name q (saltL name q seed) msg).getD i 0) (secretL name q i seed) := rfl
    rw [hsg]
    generalize saltL name q seed = S at *
    have s1 : splice (bc (List.replicate 32 0)).toArray 0 (bc S).toArray = (bc S).toArray := splice_bc_all (by rw [h32, hl])
    simp (maxSteps := 2000000) (disch := first | exact dT_ | fail) only [h9, h32, hl, s1, St_cells, cells_agg, Nat.zero_add, List.size_toArray, Nat.reduceLeDiff, if_pos, and_self, bc_length, st25]
    have hxp : Ext (fun b => m ≤ b) w2 (put w' p (Obj.cells (bc S).toArray 25)) := hR.2.2.2.put _ _ fun _ => hpm.1
    refine sign_tail hn hs hl q ((Hp_put_other _ _ _ _ (by omega)).trans h4) ((Hp_put_other _ _ _ _ (by omega)).trans h7) (Hp_put_same _ _ _ hl9) ((hmsg.ext hx2 fun _ _ _ => not_false).ext hxp fun b hb _ h => by omega) hml ?_
    intro v w'' hv hx''
    have hsz := hxp.size
    refine ⟨Vec.mono hv fun b _ h => by omega, ?_⟩
    exact (hx2.trans2 hxp (fun _ _ h => h) fun b hb h => by omega).trans hx'' fun _ _ h => h
  unfold F34x6
  repeat' (first | (first | ((with_reducible refine rgLd h4 hn ?_); rfl) | with_reducible refine And.intro ?_ ?_ | ((with_reducible refine rgHead hR (name := name) (q := q) ?_ ?_ hn ?_); rfl; rfl; intro c w' hR' hX; ((replace h4 := hX.at h4 (.inr (by omega)); replace h7 := hX.at h7 (.inr (by omega)); (try replace h18 := hX.at h18 (.inl (by simp))); (try replace h9 := hX.at h9 (by first | exact .inl (by simp) | exact .inr (by omega))); (try replace h8 := hX.at h8 (.inr (by omega))); replace hR := hR'; clear hX hR'))) | ((with_reducible refine rgTwo hR (n := 65533) ?_ ?_ ?_); rfl; ((simp only [headL_length, two_length, four_length, List.length_append, List.length_cons, List.length_nil, hn, hs]; omega)); intro c w' hR' hX; ((replace h4 := hX.at h4 (.inr (by omega)); replace h7 := hX.at h7 (.inr (by omega)); (try replace h18 := hX.at h18 (.inl (by simp))); (try replace h9 := hX.at h9 (by first | exact .inl (by simp) | exact .inr (by omega))); (try replace h8 := hX.at h8 (.inr (by omega))); replace hR := hR'; clear hX hR'))) | ((with_reducible refine rgLit hR 255 ?_ ?_); rfl; intro w' hR' hX h18; ((replace h4 := hX.at h4 (.inr (by omega)); replace h7 := hX.at h7 (.inr (by omega)); (try replace h18 := hX.at h18 (.inl (by simp))); (try replace h9 := hX.at h9 (by first | exact .inl (by simp) | exact .inr (by omega))); (try replace h8 := hX.at h8 (.inr (by omega))); replace hR := hR'; clear hX hR'))) | ((with_reducible refine rgApp hR (BIn.arr (n := 1) (cap := 1) h18 rfl).of ?_ ?_); ((simp only [headL_length, two_length, four_length, List.length_append, List.length_cons, List.length_nil, hn, hs]; omega)); intro c w' hR' hX; ((replace h4 := hX.at h4 (.inr (by omega)); replace h7 := hX.at h7 (.inr (by omega)); (try replace h18 := hX.at h18 (.inl (by simp))); (try replace h9 := hX.at h9 (by first | exact .inl (by simp) | exact .inr (by omega))); (try replace h8 := hX.at h8 (.inr (by omega))); replace hR := hR'; clear hX hR'))) | ((with_reducible refine rgApp hR (BIn.arr (n := 32) (cap := 32) h7 hs).of ?_ ?_); ((simp only [headL_length, two_length, four_length, List.length_append, List.length_cons, List.length_nil, hn, hs]; omega)); intro c w' hR' hX; ((replace h4 := hX.at h4 (.inr (by omega)); replace h7 := hX.at h7 (.inr (by omega)); (try replace h18 := hX.at h18 (.inl (by simp))); (try replace h9 := hX.at h9 (by first | exact .inl (by simp) | exact .inr (by omega))); (try replace h8 := hX.at h8 (.inr (by omega))); replace hR := hR'; clear hX hR'))) | ((with_reducible refine rgSum hR ?_ ?_); ((simp only [headL_length, two_length, four_length, List.length_append, List.length_cons, List.length_nil, hn, hs]; omega)); intro w' hR' hX; ((replace h4 := hX.at h4 (.inr (by omega)); replace h7 := hX.at h7 (.inr (by omega)); (try replace h18 := hX.at h18 (.inl (by simp))); (try replace h9 := hX.at h9 (by first | exact .inl (by simp) | exact .inr (by omega))); (try replace h8 := hX.at h8 (.inr (by omega))); replace hR := hR'; clear hX hR')))) | ((with_reducible refine rgId hR ?_); intro w' hR' hX h9; ((replace h4 := hX.at h4 (.inr (by omega)); replace h7 := hX.at h7 (.inr (by omega)); (try replace h18 := hX.at h18 (.inl (by simp))); (try replace h9 := hX.at h9 (by first | exact .inl (by simp) | exact .inr (by omega))); (try replace h8 := hX.at h8 (.inr (by omega))); replace hR := hR'; clear hX hR'))))
  all_goals exact hT hR (by simp) h9 h4 h7
end Go.Proofs
namespace Go.Proofs
open Go Go.Lf
set_option maxRecDepth 20000
set_option maxHeartbeats 2000000
set_option linter.unusedSimpArgs false
set_option linter.unusedVariables false
theorem BIn.part {w : World} {B o n cap : Nat} {l : List UInt8} {Q : Nat → Prop} (h : BIn w (.slice (some ⟨B, o, none⟩) n cap) l Q) (i m cap' : Nat) (hi : i + m ≤ l.length) : BIn w (.slice (some ⟨B, o + i, none⟩) m cap') ((l.drop i).take m) Q := by
  rcases h with ⟨h1, _⟩ | ⟨b, o', c, row, U, fr, h1, h2, h3, h4⟩
  · cases h1
  · simp only [Value.slice.injEq, Option.some.injEq, Addr.mk.injEq] at h1
    obtain ⟨⟨rfl, rfl, -⟩, -, -⟩ := h1
    refine .inr ⟨B, o + i, cap', row, U, fr, ?_, h2, fun j hj => ?_, h4⟩
    · congr 1; simp; omega
    · simp only [List.length_take, List.length_drop] at hj
      rw [Nat.add_assoc, h3 _ (by omega), bc_get, bc_get, List.getElem?_take, if_pos (by omega), List.getElem?_drop]
theorem BIn.row {w : World} {B o n cap : Nat} {l : List UInt8} {Q : Nat → Prop} (h : BIn w (.slice (some ⟨B, o, none⟩) n cap) l Q) : n = l.length ∧ Q B ∧ ∃ row U fr, Hp w B = some (.cells row U fr) ∧ ∀ j, j < l.length → row[o + j]? = some (u8v (l.getD j 0)) := by
  rcases h with ⟨h1, _⟩ | ⟨b, o', c, row, U, fr, h1, h2, h3, h4⟩
  · cases h1
  · simp only [Value.slice.injEq, Option.some.injEq, Addr.mk.injEq] at h1
    obtain ⟨⟨rfl, rfl, -⟩, hn, -⟩ := h1
    refine ⟨hn, h4, row, U, fr, h2, fun j hj => ?_⟩
    rw [h3 j hj, ← bc_getD l j hj, List.getElem?_toArray]
theorem take_eq_of {α : Type} (A B : List α) (n : Nat) (hA : A.length = n) (hB : B.length = n) (h : A.take n = B.take n) : A = B := by
  rw [← List.take_of_length_le (i := n) (l := A) (by omega), h, List.take_of_length_le (by omega)]
theorem back_loop {w4 : World} {p4 p8 p10 B o cap : Nat} {name sig c msg : List UInt8} {Qs : Nat → Prop} {K : Value → World → Prop} (hn : name.length = 16) (q : Int)
    (h44 : Hp w4 p4 = some (Obj.cells (bc name).toArray 49)) (h84 : Hp w4 p8 = some (Obj.cells (bc (List.replicate 32 0)).toArray 25)) (h104 : Hp w4 p10 = some (Obj.cells (ic (digD name q c msg)).toArray 91))
    (hsig : BIn w4 (.slice (some ⟨B, o, none⟩) 4292 cap) sig Qs)
    (hk : ∀ w', Ext (fun b => b = p8) w4 w' → K (.tuple #[idv (endsL name q fun i => walkL name q i ((digitsL name q c msg).getD i 0) (3 - (digitsL name q c msg).getD i 0) (partL sig i)), i64 0]) w') :
    F48x4 (ptr p4 0) w4 (i64 q) (.slice (some ⟨B, o, none⟩) 4292 cap) (ptr p10 0) (ptr p8 0) K := by
  unfold F48x4
  simp (maxSteps := 2000000) (disch := first | exact dT_ | fail) only [h44, hn, ext_bc0 hn, Ln_cells, cells_agg, Nat.zero_add, List.size_toArray, Nat.reduceLeDiff, if_pos, forall_const, bc_length, ld25, ld49, bs30_2, al25, zv25]
  obtain ⟨m, hm⟩ : ∃ m, m = sz w4 := ⟨_, rfl⟩
  obtain ⟨hsl, -, row, U, fr, hrow4, hcg⟩ := BIn.row hsig
  refine CallF_by Try.call53 (head_spec hn q) ?_
  rintro v12 w5 ⟨hv12, hx5⟩
  rw [← hm] at hv12
  have hs5 := hx5.size
  refine apLQ _ (l' := [0x80, 0x80]) hv12 rfl rfl (fun b hb => by omega) (by rw [headL_length]; simp; omega) ?_
  intro v30 w6 hv30 hx6
  have hx46 : Ext (fun b => m ≤ b) w4 w6 := hx5.trans2 hx6 (fun _ _ h => h.elim) fun _ _ h => h
  clear hv12 hx5 hx6
  obtain ⟨f, hf⟩ : ∃ f : Nat → List UInt8, f = fun i => walkL name q i ((digitsL name q c msg).getD i 0) (3 - (digitsL name q c msg).getD i 0) (partL sig i) := ⟨_, rfl⟩
  have hpl : ∀ i, i < 133 → (partL sig i).length = 32 := fun i hi => by unfold partL; rw [List.length_take, List.length_drop]; omega
  have hfl : ∀ i, i < 133 → (f i).length = 32 := fun i hi => by rw [hf]; exact walkL_length _ _ _ _ _ _ (hpl i hi)
  have hfn : ∀ i, i ≤ 133 → ((List.range i).flatMap f).length = 32 * i := by
    intro i
    induction i with
    | zero => intro _; rfl
    | succ i ih => intro hi; rw [range_next, List.length_append, ih (by omega), hfl i (by omega)]; omega
  rw [← hf] at hk
  have hDl := digD_length name q c msg
  have h32 : (List.replicate 32 (0 : UInt8)).length = 32 := by simp
  have hl4 := Hp_lt h44
  have hl8 := Hp_lt h84
  have hl10 := Hp_lt h104
  have hlB := Hp_lt hrow4
  obtain ⟨J, hJ⟩ : ∃ J : Value → Value → World → Prop, J = fun u v w' => ∃ i : Nat, i ≤ 133 ∧ v = i64 (i : Int) ∧ Bytes 5 w' u (headL name q ++ [0x80, 0x80] ++ (List.range i).flatMap f) (fun b => m ≤ b) ∧ Ext (fun b => m ≤ b) w4 w' := ⟨_, rfl⟩
  refine Loop2 J (fun _ v _ => 133 - (match v with | .int _ n => n.toNat | _ => 0)) (by rw [hJ]; exact ⟨0, by omega, rfl, by simpa using hv30, hx46⟩) ?_
  clear hv30 hx46
  intro u v w7 hj
  rw [hJ] at hj
  obtain ⟨i, hi, rfl, hv, hx7⟩ := hj
  have hln : (headL name q ++ [0x80, 0x80] ++ (List.range i).flatMap f).length = 22 + 32 * i := by
    rw [List.length_append, hfn i hi, List.length_append, headL_length, hn]; rfl
  have hs7 := hx7.size
  by_cases hlt : i < 133
  · have hlt' : (i : Int) < 133 := by omega
    simp (maxSteps := 2000000) (disch := first | exact dT_ | fail) only [hlt', p_lss, Branch_bool, and_true, Bool.true_eq_false, false_implies, forall_const, Int.toNat_natCast, decide_true]
    obtain ⟨w8, hw8⟩ : ∃ w8, w8 = w7.alloc (Obj.cells (bc (List.replicate 32 0)).toArray 25) := ⟨_, rfl⟩
    have hx8 : Ext (fun _ => False) w7 w8 := by rw [hw8]; exact (Ext.refl _ _).alloc _
    have hq8 : Hp w8 (sz w7) = some (Obj.cells (bc (List.replicate 32 0)).toArray 25) := by rw [hw8]; (first | exact hpt_ | fail)
    have hs8 : sz w8 = sz w7 + 1 := by rw [hw8]; (first | exact szT_ | fail)
    rw [← hw8]
    clear hw8
    obtain ⟨J2, hJ2⟩ : ∃ J2 : Value → World → Prop, J2 = fun v w' => ∃ (k : Nat) (Z : List UInt8), k ≤ 32 ∧ v = i64 (k : Int) ∧ Z.length = 32 ∧ Z.take k = (partL sig i).take k ∧ Ext (fun b => b = sz w7) w8 w' ∧ Hp w' (sz w7) = some (Obj.cells (bc Z).toArray 25) := ⟨_, rfl⟩
    refine Loop1 J2 (fun v _ => 32 - (match v with | .int _ n => n.toNat | _ => 0)) (by rw [hJ2]; exact ⟨0, _, by omega, rfl, h32, rfl, Ext.refl _ _, hq8⟩) ?_
    clear hq8
    intro v w9 hj
    rw [hJ2] at hj
    obtain ⟨k, Z, hk', rfl, hZl, hZt, hx9, hq9⟩ := hj
    have hl9 := Hp_lt hq9
    have hs9 := hx9.size
    have hxa : Ext (fun b => m ≤ b) w4 w9 := (hx7.trans hx8 fun _ _ h => h.elim).trans hx9 fun b hb e => by omega
    unfold F48x3
    by_cases hlk : k < 32
    · have hlk' : (k : Int) < 32 := by omega
      have n1 : ((36 : Int) + 32 * (i : Int) + (k : Int)).toNat = 36 + 32 * i + k := by omega
      have hr9 := hxa.at hrow4 (by omega)
      have hg := hcg (36 + 32 * i + k) (by omega)
      simp (maxSteps := 2000000) (disch := first | exact dT_ | fail) only [hlk', n1, hr9, hg, hq9, hZl, p_add, p_mul, p_lss, L1_cells, Ln_cells, St_cells, Hp_drew, cells_int, Branch_bool, Option.elim_some, Nat.zero_add, List.size_toArray, List.length_cons, List.length_nil, Nat.reduceLeDiff, if_pos, and_true, true_and, Bool.true_eq_false, false_implies, forall_const, ext_bc0, splice_lit, bc_length, Nat.reduceSub, wr_in, Int.toNat_natCast, Nat.mul_one, decide_true, ix25, ix30, ix91, ld3, ld5, ld25, ld49, st5]
      refine ⟨?_, by omega⟩
      rw [hJ2, set_bc]
      refine ⟨k + 1, Z.set k (sig.getD (36 + 32 * i + k) 0), by omega, by congr 1, by rw [List.length_set]; exact hZl, ?_, hx9.put _ _ fun _ => rfl, Hp_put_same _ _ _ hl9⟩
      have hpk := hpl i hlt
      rw [take_set_nextB _ _ _ (by omega), hZt, take_nextB _ _ (by omega)]
      congr 2
      unfold partL
      rw [List.getD_eq_getElem?_getD, List.getD_eq_getElem?_getD, List.getElem?_take, if_pos hlk, List.getElem?_drop]
    obtain rfl : k = 32 := by omega
    have hlk' : ¬ ((32 : Nat) : Int) < 32 := by omega
    have hs := hpl i hlt
    obtain rfl := take_eq_of _ _ 32 hZl hs hZt
    have h4 := hxa.at h44 (by omega)
    have h40 := hxa.at h104 (by omega)
    simp (maxSteps := 2000000) (disch := first | exact dT_ | fail) only [hlk', h4, hq9, h40, hn, hs, ext_bc0 hn, ext_bc0 hs, p_add, p_mul, p_lss, L1_cells, Ln_cells, Hp_drew, Branch_bool, List.getElem?_toArray, Option.elim_some, Nat.zero_add, List.size_toArray, Nat.reduceLeDiff, if_pos, true_and, Bool.false_eq_true, false_implies, forall_const, bc_length, Nat.sub_self, Nat.reduceSub, wr_in, Int.toNat_natCast, Nat.mul_one, ic_getL, decide_false, ix91, ld3, ld25, ld49]
    have hvv : Bytes 5 w9.drew u (headL name q ++ [0x80, 0x80] ++ (List.range i).flatMap f) (fun b => m ≤ b ∧ b ∉ [sz w7]) := by
      refine Vec.ext (Vec.ext (Vec.mono hv (Q' := fun b => m ≤ b ∧ b ∉ [sz w7]) fun b hb h => ⟨h, by simp; omega⟩) hx8 fun _ _ _ => not_false) hx9.drew fun b _ h e => h.2 (by simp [e])
    have hR : Rg w4 m u (headL name q ++ [0x80, 0x80] ++ (List.range i).flatMap f) [sz w7] w9.drew := ⟨hvv, (fun p h => by have := List.mem_singleton.1 h; rw [sz_drew]; omega), by rw [sz_drew]; omega, hxa.drew⟩
    replace h4 : Hp w9.drew p4 = some (Obj.cells (bc name).toArray 49) := h4
    have h5 : Hp w9.drew (sz w7) = some (Obj.cells (bc (partL sig i)).toArray 25) := hq9
    replace h40 : Hp w9.drew p10 = some (Obj.cells (ic (digD name q c msg)).toArray 91) := h40
    have hdd := digD_getD name q c msg i
    have hd3 := digitsL_le name q c msg i
    have hfi : f i = walkL name q i ((digitsL name q c msg).getD i 0) (3 - (digitsL name q c msg).getD i 0) (partL sig i) := by rw [hf]
    have hiD : i < (digD name q c msg).length := by omega
    generalize hdv : (digitsL name q c msg).getD i 0 = d at *
    have hT : ∀ {c : Value} {P : List Nat} {w' : World} {p : Nat}, Rg w4 m c (headL name q ++ [0x80, 0x80] ++ (List.range i).flatMap f) P w' → p ∈ P → Hp w' p = some (Obj.cells (bc (List.replicate 32 0)).toArray 25) →
        Run Try.prog (Instr.storeAt 25 (ptr p 0) (idv (walkL name q i d (3 - d) (partL sig i)))) w' fun _ w10 => F48x1 (ptr p 0) c w10 (i64 (i : Int)) fun u' v' w' => J u' v' w' ∧ 133 - (match v' with | .int _ n => n.toNat | _ => 0) < 133 - i := by
      intro c P w' p hR hp h9
      rw [← hfi]
      have hl := hfl i hlt
      have hl9 := Hp_lt h9
      obtain ⟨Z, hZ⟩ : ∃ Z, Z = f i := ⟨_, rfl⟩
      rw [← hZ] at hl ⊢
      have s1 : splice (bc (List.replicate 32 0)).toArray 0 (bc Z).toArray = (bc Z).toArray := splice_bc_all (by rw [h32, hl])
      unfold F48x1
      simp (maxSteps := 2000000) (disch := first | exact dT_ | fail) only [h9, h32, hl, s1, p_add, St_cells, cells_agg, Nat.zero_add, List.size_toArray, Nat.reduceLeDiff, if_pos, and_self, bc_length, wr_in, slA25, st25]
      refine rgApp (hR.wr hp _) (BIn.arr (n := 32) (cap := 32) (Hp_put_same _ _ _ hl9) hl).of (by rw [hln]; omega) ?_
      intro c' w'' hR' hX
      refine ⟨?_, by omega⟩
      rw [hJ]
      refine ⟨i + 1, by omega, by simp, ?_, hR'.2.2.2⟩
      rw [range_next, ← hZ, ← List.append_assoc]
      exact Vec.mono hR'.1 fun _ _ h => h.1
    unfold F48x2
    repeat' (first | ((with_reducible refine rgLd h4 hn ?_); rfl) | ((with_reducible refine rgLdI h5 hs ?_); rfl) | ((with_reducible refine rgLd3 h40 ?_ ?_); assumption; rfl) | with_reducible refine And.intro ?_ ?_ | ((with_reducible refine rgSec hR (name := name) (seed := seed) (q := q) (i := i) ?_ ?_ ?_ ?_ hn hs ?_); rfl; rfl; rfl; rfl; intro w' hR' hX; ((replace h4 := hX.at h4 (.inr (by omega)); replace h5 := hX.at h5 (by first | (refine .inr ?_; omega) | (refine .inl ?_; simp; done)); (try replace h40 := hX.at h40 (.inr (by omega))); (try replace h9 := hX.at h9 (.inl (by simp))); replace hR := hR'; clear hX hR'))) | ((with_reducible refine rgWalk hR (name := name) (t := (partL sig i)) (q := q) (i := i) (f := d) (n := (3 - d)) ?_ ?_ ?_ ?_ ?_ ?_ hn hs ?_ ?_); (first | rfl | (congr 1; omega) | (refine congrArg (Value.int .i64) ?_; omega)); (first | rfl | (congr 1; omega) | (refine congrArg (Value.int .i64) ?_; omega)); (first | rfl | (congr 1; omega) | (refine congrArg (Value.int .i64) ?_; omega)); (first | rfl | (congr 1; omega) | (refine congrArg (Value.int .i64) ?_; omega)); (first | rfl | (congr 1; omega) | (refine congrArg (Value.int .i64) ?_; omega)); (first | rfl | (congr 1; omega) | (refine congrArg (Value.int .i64) ?_; omega)); omega; intro w' hR' hX; ((replace h4 := hX.at h4 (.inr (by omega)); replace h5 := hX.at h5 (by first | (refine .inr ?_; omega) | (refine .inl ?_; simp; done)); (try replace h40 := hX.at h40 (.inr (by omega))); (try replace h9 := hX.at h9 (.inl (by simp))); replace hR := hR'; clear hX hR'))) | ((with_reducible refine rgId hR ?_); intro w' hR' hX h9; ((replace h4 := hX.at h4 (.inr (by omega)); replace h5 := hX.at h5 (by first | (refine .inr ?_; omega) | (refine .inl ?_; simp; done)); (try replace h40 := hX.at h40 (.inr (by omega))); (try replace h9 := hX.at h9 (.inl (by simp))); replace hR := hR'; clear hX hR'))))
    all_goals exact hT hR (by simp) h9
  · obtain rfl : i = 133 := by omega
    have hlt' : ¬ ((133 : Nat) : Int) < 133 := by omega
    have h8 := hx7.at h84 (by omega)
    simp (maxSteps := 2000000) (disch := first | exact dT_ | fail) only [hlt', p_lss, Branch_bool, true_and, Bool.false_eq_true, false_implies, forall_const, Nat.sub_self, Int.toNat_natCast, decide_false]
    refine CallF_by Try.call51 (refsum_spec (Bytes.bin hv) (by rw [hln]; omega)) ?_
    rintro _ w8 ⟨rfl, hx8⟩
    have e : sha (headL name q ++ [0x80, 0x80] ++ (List.range 133).flatMap f) = endsL name q f := rfl
    rw [e]
    have hl : (endsL name q f).length = 32 := sha_length _
    generalize endsL name q f = S at *
    have h88 := hx8.at h8 not_false
    have hl88 := Hp_lt h88
    have s1 : splice (bc (List.replicate 32 0)).toArray 0 (bc S).toArray = (bc S).toArray := splice_bc_all (by rw [h32, hl])
    simp (maxSteps := 2000000) (disch := first | exact dT_ | fail) only [h88, h32, hl, s1, ext_bc0 hl, Ln_cells, St_cells, Hp_put_same, cells_agg, Nat.zero_add, List.size_toArray, Nat.reduceLeDiff, if_pos, and_self, bc_length, st25]
    exact hk _ (((hx7.mono fun b hb h => by omega).trans hx8 fun _ _ h => h.elim).put _ _ fun _ => rfl)
end Go.Proofs
namespace Go.Proofs
open Go Go.Lf
set_option maxRecDepth 20000
set_option maxHeartbeats 2000000
set_option linter.unusedSimpArgs false
set_option linter.unusedVariables false
theorem q_toStr {w : World} {v : Value} {l : List UInt8} (h : BOf w v l) (K : Value → Prop) : QRun Try.prog (convert 30 9 v) w K = K (str l) := QRun_eq (run_toStrB h _ _ Try.runUnderlying30 Try.runUnderlying9 Try.runUnderlying5) K
theorem back5_spec {w : World} {B o cap : Nat} {name sig msg : List UInt8} {mv : Value} {Qm Qs : Nat → Prop} (hn : name.length = 16) (hsig : BIn w (.slice (some ⟨B, o, none⟩) 4292 cap) sig Qs) (hcap : 4292 ≤ cap) (h2 : sig.take 4 = four 2) (hmsg : BIn w mv msg Qm) (hml : msg.length ≤ 100000) (q : Int) :
    Calls Try.prog 48 #[idv name, i64 q, mv, .slice (some ⟨B, o, none⟩) 4292 cap] w (retK fun v w' => v = .tuple #[idv (backL name q msg sig), i64 0] ∧ Ext (fun _ => False) w w') := by
  refine F48_ok _ _ _ _ _ _ ?_
  unfold F48
  obtain ⟨hsl, -, -⟩ := BIn.row hsig
  have hq4 : ∀ {w' : World}, Ext (fun b => sz w ≤ b) w w' → ∀ K : Value → Prop, QRun Try.prog (convert 30 9 (.slice (some ⟨B, o, none⟩) 4 cap)) w' K = K (str (four 2)) := fun hx K => by
    have hp := BIn.part hsig 0 4 cap (by omega)
    rw [List.drop_zero, h2] at hp
    exact q_toStr (hp.ext hx fun b hb _ h => by omega).of K
  obtain ⟨w2, hw2⟩ : ∃ w2, w2 = (w.alloc (Obj.cells (bc name).toArray 49)).alloc (Obj.cells (bc (List.replicate 32 0)).toArray 25) := ⟨_, rfl⟩
  have hx2 : Ext (fun _ => False) w w2 := by rw [hw2]; exact ((Ext.refl _ _).alloc _).alloc _
  have h4 : Hp w2 (sz w) = some (Obj.cells (bc name).toArray 49) := by rw [hw2]; (first | exact hpt_ | fail)
  have h8 : Hp w2 (sz w + 1) = some (Obj.cells (bc (List.replicate 32 0)).toArray 25) := by rw [hw2]; (first | exact hpt_ | fail)
  have hs2 : sz w2 = sz w + 1 + 1 := by rw [hw2]; (first | exact szT_ | fail)
  have hx2' : Ext (fun b => sz w ≤ b) w w2 := hx2.mono fun _ _ h => h.elim
  have hqd := hq4 hx2'.drew
  rw [hw2] at hqd
  have h42 : decide (((4292 : Nat) : Int) = 4292) = true := by decide
  simp (maxSteps := 2000000) (disch := first | exact dT_ | fail) only [hqd, h42, Pick_bool, cond_false, p_neq, r_box, Hp_drew, sz_alloc, cells_agg, Gdn_true, GdEn_true, Nat.add_zero, Bool.not_true, forall_const, Nat.reduceSub, cutAt_some, Nat.mul_one, Int.reduceToNat, slLH30, slH30, len30, ld25, ld49, al25, zv25]
  rw [← hw2]
  clear hw2 hqd
  obtain ⟨m, hm⟩ : ∃ m, m = sz w2 := ⟨_, rfl⟩
  refine CallF_by Try.call55 (four5_spec (l := []) (Q := fun b => m ≤ b) (BOwn.nil 5 w2.drew m) (fun b hb => by rw [sz_drew] at hb; omega) (Nat.zero_le _) 2) ?_
  rintro v23 w3 ⟨hv23, hx3⟩
  rw [List.nil_append] at hv23
  have hx3' : Ext (fun b => m ≤ b) w2 w3 := ((Ext.refl _ _).drew).trans hx3 fun _ _ h => h
  have hq3 := hq4 (hx2'.trans hx3' fun b _ h => by omega)
  have hq3' := q_toStr (Bytes.of hv23)
  have h43 := hx3'.at h4 (by omega)
  simp (maxSteps := 2000000) (disch := first | exact dT_ | fail) only [hq3, hq3', h43, hn, ext_bc0 hn, Ln_cells, Branch_bool, Nat.zero_add, List.size_toArray, Nat.reduceLeDiff, if_pos, Bool.not_true, true_and, Bool.false_eq_true, false_implies, forall_const, bc_length, p_neqStr, decide_true]
  have hd0 : (List.replicate 133 (0 : Int)).length = 133 := by simp
  have hc32 : ((sig.drop 4).take 32).length = 32 := by rw [List.length_take, List.length_drop]; omega
  have hx3a : Ext (fun b => sz w ≤ b) w w3 := hx2'.trans hx3' fun b _ h => by omega
  have h83 := hx3'.at h8 (by omega)
  have hs3 := hx3'.size
  clear hq4 hq3 hq3' hv23 hx3
  have hbk : ∀ c, c = (sig.drop 4).take 32 → endsL name q (fun i => walkL name q i ((digitsL name q c msg).getD i 0) (3 - (digitsL name q c msg).getD i 0) (partL sig i)) = backL name q msg sig := by rintro _ rfl; rfl
  generalize hc : (sig.drop 4).take 32 = c at *
  have hbk' := hbk c rfl
  have hDl := digD_length name q c msg
  have hpt4 : ∀ {w' : World}, Ext (fun b => sz w ≤ b) w w' → BIn w' (.slice (some ⟨B, o + 4, none⟩) 32 (cap - 4)) c Qs := fun hx => by
    have hp := BIn.part hsig 4 32 (cap - 4) (by omega)
    rw [hc] at hp
    exact hp.ext hx fun b hb _ h => by omega
  have hT : ∀ {w' : World} {p : Nat}, Ext (fun b => sz w3 ≤ b) w3 w' → sz w3 ≤ p → Hp w' p = some (Obj.cells (ic (List.replicate 133 0)).toArray 91) →
      Run Try.prog (Instr.storeAt 91 (ptr p 0) (.agg (ic (digD name q c msg)).toArray)) w' fun _ w'' => F48x4 (ptr (sz w) 0) w'' (i64 q) (.slice (some ⟨B, o, none⟩) 4292 cap) (ptr p 0) (ptr (sz w + 1) 0) fun v w' => v = .tuple #[idv (backL name q msg sig), i64 0] ∧ Ext (fun _ => False) w w' := by
    intro w' p hx hp h10
    have hl10 := Hp_lt h10
    have hs' := hx.size
    have s1 : splice (ic (List.replicate 133 (0 : Int))).toArray 0 (ic (digD name q c msg)).toArray = (ic (digD name q c msg)).toArray := splice_all _ _ (by simp [ic_length, hDl])
    simp (maxSteps := 2000000) (disch := first | exact dT_ | fail) only [h10, hd0, hDl, s1, St_cells, cells_agg, Nat.zero_add, List.size_toArray, Nat.reduceLeDiff, if_pos, and_self, ic_length, st91]
    have hxp : Ext (fun b => sz w3 ≤ b) w3 (put w' p (Obj.cells (ic (digD name q c msg)).toArray 91)) := hx.put _ _ fun _ => hp
    have hxw : Ext (fun b => sz w ≤ b) w (put w' p (Obj.cells (ic (digD name q c msg)).toArray 91)) := hx3a.trans hxp fun b _ h => by omega
    refine back_loop hn q (hxp.at h43 (by omega)) (hxp.at h83 (by omega)) (Hp_put_same _ _ _ hl10) (hsig.ext hxw fun b hb _ h => by omega) ?_
    intro w'' hx''
    rw [hbk']
    refine ⟨rfl, ?_⟩
    exact hxw.trans2 (M := fun _ => False) hx'' (fun b hb h => by omega) fun b hb h => by omega
  have hxd : Ext (fun b => sz w ≤ b) w w3.drew := hx3a.drew
  unfold F48x5
  refine ⟨?_, ?_⟩
  · refine CallF_by Try.call54 (digits5_spec hn (hpt4 hxd) (hmsg.ext hxd fun b hb _ h => by omega) (by omega) hml q) ?_
    rintro _ w4 ⟨rfl, hx4⟩
    have hx4' : Ext (fun b => sz w3 ≤ b) w3 w4 := ((Ext.refl _ _).drew).trans hx4 fun _ _ h => h.elim
    have hs4 := hx4'.size
    rw [al91, zc91]
    exact hT (hx4'.alloc _) hs4 (Hp_alloc_new _ _ _ rfl)
  · rw [al91, zc91]
    obtain ⟨w4, hw4⟩ : ∃ w4, w4 = w3.drew.alloc (Obj.cells (ic (List.replicate 133 0)).toArray 91) := ⟨_, rfl⟩
    have hx4 : Ext (fun _ => False) w3 w4 := by rw [hw4]; exact ((Ext.refl _ _).drew).alloc _
    have h10 : Hp w4 (sz w3) = some (Obj.cells (ic (List.replicate 133 0)).toArray 91) := by rw [hw4]; exact Hp_alloc_new _ _ _ rfl
    show (QRun Try.prog (Instr.loadAt 49 (ptr (sz w) 0)) (w3.drew.alloc _) _) ∧ CallF Try.prog 54 _ (w3.drew.alloc _) _
    rw [← hw4]
    refine ⟨rgLd (hx4.at h43 not_false) hn rfl, ?_⟩
    have hxw4 : Ext (fun b => sz w ≤ b) w w4 := hx3a.trans hx4 fun _ _ h => h.elim
    refine CallF_by Try.call54 (digits5_spec hn (hpt4 hxw4) (hmsg.ext hxw4 fun b hb _ h => by omega) (by omega) hml q) ?_
    rintro _ w5 ⟨rfl, hx5⟩
    exact hT ((hx4.mono fun _ _ h => h.elim).trans hx5 fun _ _ h => h.elim) (Nat.le_refl _) (hx5.at h10 not_false)
end Go.Proofs
namespace Go.Proofs
open Go Go.Lf
set_option maxRecDepth 20000
set_option maxHeartbeats 2000000
set_option linter.unusedSimpArgs false
set_option linter.unusedVariables false
theorem node6_spec {w : World} {name b : List UInt8} {bv : Value} {Q : Nat → Prop} (hn : name.length = 16) (hb : BIn w bv b Q) (hbl : b.length ≤ 100000) (r : Int) (kind : UInt8) :
    Calls Try.prog 49 #[idv name, i64 r, u8v kind, bv] w (retK fun v w' => v = idv (nodeL name r kind b) ∧ Ext (fun _ => False) w w') := by
  refine F49_ok _ _ _ _ _ _ ?_
  unfold F49
  simp (maxSteps := 2000000) (disch := first | exact dT_ | fail) only [bsU2, r_box, sz_alloc, cells_agg, slA49, ld25, bs30_0, al25, zv25]
  obtain ⟨w2, hw2⟩ : ∃ w2, w2 = (w.alloc (Obj.cells (bc name).toArray 49)).alloc (Obj.cells (bc (List.replicate 32 0)).toArray 25) := ⟨_, rfl⟩
  have hx2 : Ext (fun _ => False) w w2 := by rw [hw2]; exact ((Ext.refl _ _).alloc _).alloc _
  have h4 : Hp w2 (sz w) = some (Obj.cells (bc name).toArray 49) := by rw [hw2]; (first | exact hpt_ | fail)
  have h8 : Hp w2 (sz w + 1) = some (Obj.cells (bc (List.replicate 32 0)).toArray 25) := by rw [hw2]; (first | exact hpt_ | fail)
  have hs2 : sz w2 = sz w + 1 + 1 := by rw [hw2]; (first | exact szT_ | fail)
  rw [← hw2, ← hs2]
  clear hw2
  obtain ⟨m, hm⟩ : ∃ m, m = sz w2 := ⟨_, rfl⟩
  have hb2 := hb.ext hx2 fun _ _ _ => not_false
  have hxn : Ext (fun _ => False) w2 (w2.alloc (Obj.cells #[] 5)) := (Ext.refl _ _).alloc _
  have h0 : BOwn 5 (w2.alloc (Obj.cells #[] 5)) (.slice (some ⟨sz w2, 0, none⟩) 0 0) [] (sz w2) := BOwn.fresh (l := []) [] rfl rfl (Nat.le_refl _) (Nat.le_refl _) (Nat.le_refl _)
  refine apQ _ (Q := fun b => m ≤ b) (Vec.mono h0 fun b _ hb => by omega) (BIn.arr (hxn.at h4 not_false) hn).of (fun b hb => by rw [sz_alloc] at hb; omega) (by simp; omega) ?_
  intro v12 w3 hv hx3
  rw [List.nil_append] at hv
  have hx23 : Ext (fun b => m ≤ b) w2 w3 := (hxn.mono fun _ _ h => h.elim).trans hx3 fun _ _ h => h
  have hs3 := hx23.size
  clear h0 hxn hx3
  refine CallF_by Try.call33 (four6_spec hv (fun b hb => by omega) (by omega) r) ?_
  rintro v14 w4 ⟨hv4, hx4⟩
  have hs4 := hx4.size
  refine apLQ _ (l' := [kind, kind]) hv4 rfl rfl (fun b hb => by omega) (by simp [four_length]; omega) ?_
  intro v18 w5 hv5 hx5
  have hs5 := hx5.size
  have hx25 : Ext (fun b => m ≤ b) w2 w5 := (hx23.trans hx4 fun _ _ h => h).trans hx5 fun _ _ h => h
  refine apQ _ hv5 (hb2.ext hx25 fun b hb _ h => by omega).of (fun b hb => by omega) (by simp [four_length]; omega) ?_
  intro v21 w6 hv6 hx6
  have hx26 : Ext (fun b => m ≤ b) w2 w6 := hx25.trans hx6 fun _ _ h => h
  refine CallF_by Try.call51 (refsum_spec (Bytes.bin hv6) (by simp [four_length]; omega)) ?_
  rintro _ w7 ⟨rfl, hx7⟩
  have e : sha (name ++ four r ++ [kind, kind] ++ b) = nodeL name r kind b := rfl
  rw [e]
  have hl : (nodeL name r kind b).length = 32 := sha_length _
  generalize nodeL name r kind b = S at *
  have h32 : (List.replicate 32 (0 : UInt8)).length = 32 := by simp
  have h88 := hx7.at (hx26.at h8 (by omega)) not_false
  have hl88 := Hp_lt h88
  have s1 : splice (bc (List.replicate 32 0)).toArray 0 (bc S).toArray = (bc S).toArray := splice_bc_all (by rw [h32, hl])
  simp (maxSteps := 2000000) (disch := first | exact dT_ | fail) only [h88, h32, hl, s1, ext_bc0 hl, Ln_cells, St_cells, Hp_put_same, cells_agg, Nat.zero_add, List.size_toArray, Nat.reduceLeDiff, if_pos, true_and, and_self, bc_length, st25]
  exact ((hx2.trans2 hx26 (fun _ _ h => h) fun b hb h => by omega).trans hx7 fun _ _ h => h).put _ _ fun h => by omega
/-- the rows of the tree of height 1 -/
def rows3 (a b c : List UInt8) : List UInt8 := List.replicate 32 0 ++ a ++ b ++ c
theorem rows3_length {a b c : List UInt8} (ha : a.length = 32) (hb : b.length = 32) (hc : c.length = 32) : (rows3 a b c).length = 128 := by simp [rows3, ha, hb, hc]
theorem mid3 {p q s x : List UInt8} {o k : Nat} (hp : p.length = o) (hq : q.length = k) : (p ++ q ++ s).take o ++ x ++ (p ++ q ++ s).drop (o + k) = p ++ x ++ s := by
  subst hp hq
  rw [List.append_assoc p q s, List.take_left, ← List.append_assoc p q s, ← List.length_append, List.drop_left]
theorem rows3_a {a b c x : List UInt8} (ha : a.length = 32) (hb : b.length = 32) (hc : c.length = 32) (hx : x.length = 32) : splice (bc (rows3 a b c)).toArray 32 (bc x).toArray = (bc (rows3 x b c)).toArray := by
  rw [splice_bcs _ _ _ (by rw [rows3_length ha hb hc]; omega), hx]
  have := mid3 (p := List.replicate 32 0) (q := a) (s := b ++ c) (x := x) (o := 32) (k := 32) (by simp) ha
  unfold rows3
  simp only [← List.append_assoc] at this ⊢
  rw [this]
theorem rows3_b {a b c x : List UInt8} (ha : a.length = 32) (hb : b.length = 32) (hc : c.length = 32) (hx : x.length = 32) : splice (bc (rows3 a b c)).toArray 64 (bc x).toArray = (bc (rows3 a x c)).toArray := by
  rw [splice_bcs _ _ _ (by rw [rows3_length ha hb hc]; omega), hx]
  have := mid3 (p := List.replicate 32 0 ++ a) (q := b) (s := c) (x := x) (o := 64) (k := 32) (by simp [ha]) hb
  unfold rows3
  rw [this]
theorem rows3_c {a b c x : List UInt8} (ha : a.length = 32) (hb : b.length = 32) (hc : c.length = 32) (hx : x.length = 32) : splice (bc (rows3 a b c)).toArray 96 (bc x).toArray = (bc (rows3 a b x)).toArray := by
  rw [splice_bcs _ _ _ (by rw [rows3_length ha hb hc]; omega), hx]
  have := mid3 (p := List.replicate 32 0 ++ a ++ b) (q := c) (s := []) (x := x) (o := 96) (k := 32) (by simp [ha, hb]) hc
  unfold rows3
  simp only [List.append_nil] at this
  rw [this]
theorem rows3_getA {a b c : List UInt8} (ha : a.length = 32) : ((rows3 a b c).drop 32).take 32 = a := by
  unfold rows3
  rw [List.append_assoc, List.append_assoc, List.drop_left' (by simp), List.take_left' ha]
theorem rows3_getB {a b c : List UInt8} (ha : a.length = 32) (hb : b.length = 32) : ((rows3 a b c).drop 64).take 32 = b := by
  unfold rows3
  rw [List.append_assoc, List.drop_left' (by simp [ha]), List.take_left' hb]
theorem rows3_getC {a b c : List UInt8} (ha : a.length = 32) (hb : b.length = 32) (hc : c.length = 32) : ((rows3 a b c).drop 96).take 32 = c := by
  unfold rows3
  rw [List.drop_left' (by simp [ha, hb]), List.take_of_length_le (by omega)]
theorem mkId4 (w : World) (K : Value → World → Prop) : Run Try.prog (Instr.makeSlice 72 (i64 4) (i64 4)) w K = K (.slice (some ⟨sz w, 0, none⟩) 4 4) (w.alloc (.cells (bc (rows3 (List.replicate 32 0) (List.replicate 32 0) (List.replicate 32 0))).toArray 25)) :=
  (r_makeSlice (z := .agg (bc (List.replicate 32 0)).toArray) Try.underlying72 Try.type25 (by kernel_rfl) .i64 .i64 4 4 w K (by omega) (by omega) (by rw [show Try.t25.size = 32 from by kernel_rfl]; decide) (by rw [show Try.t25.bytes = 32 from by kernel_rfl]; decide) (by omega)).trans (by
    have e : madeCells (Value.cells (.agg (bc (List.replicate 32 0)).toArray)) ((4 : Int).toNat * Try.t25.size) = (bc (rows3 (List.replicate 32 0) (List.replicate 32 0) (List.replicate 32 0))).toArray := by kernel_rfl
    rw [e]; rfl)
theorem tree6_spec {w : World} {name seed : List UInt8} (hn : name.length = 16) (hs : seed.length = 32) :
    Calls Try.prog 32 #[idv name, idv seed, i64 1] w (retK fun v w' => ∃ B, v = .slice (some ⟨B, 0, none⟩) 4 4 ∧ sz w ≤ B ∧ Hp w' B = some (.cells (bc (rows3 (topL name seed) (leafL name seed 0) (leafL name seed 1))).toArray 25 (0, 0)) ∧ Ext (fun _ => False) w w') := by
  refine F32_ok _ _ _ _ _ ?_
  unfold F32
  have e1 : (1 : Int) % 18446744073709551616 = 1 := by omega
  have e2 : (1 : Int) * 2 = 2 := rfl
  have e3 : (2 : Int) * 2 = 4 := rfl
  simp (maxSteps := 2000000) (disch := first | exact dT_ | fail) only [e1, e2, e3, mkId4, p_mul, r_box, sz_alloc, cells_agg, forall_const, u64w, wr_in, p_shli, Int.reduceToNat, Int.reducePow, cv3_69]
  have h32 : (List.replicate 32 (0 : UInt8)).length = 32 := by simp
  obtain ⟨z, hz⟩ : ∃ z, z = List.replicate 32 (0 : UInt8) := ⟨_, rfl⟩
  have hzl : z.length = 32 := by rw [hz]; exact h32
  obtain ⟨w3, hw3⟩ : ∃ w3, w3 = ((w.alloc (Obj.cells (bc name).toArray 49)).alloc (Obj.cells (bc seed).toArray 25)).alloc (Obj.cells (bc (rows3 z z z)).toArray 25) := ⟨_, rfl⟩
  have hx3 : Ext (fun _ => False) w w3 := by rw [hw3]; exact (((Ext.refl _ _).alloc _).alloc _).alloc _
  have h43 : Hp w3 (sz w) = some (Obj.cells (bc name).toArray 49) := by rw [hw3]; (first | exact hpt_ | fail)
  have h53 : Hp w3 (sz w + 1) = some (Obj.cells (bc seed).toArray 25) := by rw [hw3]; (first | exact hpt_ | fail)
  have h63 : Hp w3 (sz w + 1 + 1) = some (Obj.cells (bc (rows3 z z z)).toArray 25) := by rw [hw3]; (first | exact hpt_ | fail)
  have hs3 : sz w3 = sz w + 1 + 1 + 1 := by rw [hw3]; (first | exact szT_ | fail)
  rw [← hz, ← hw3]
  clear hw3
  have hl0 := leafL_length name seed 0
  have hl1 := leafL_length name seed 1
  obtain ⟨B, hB⟩ : ∃ B, B = sz w + 1 + 1 := ⟨_, rfl⟩
  rw [← hB] at h63 ⊢
  obtain ⟨J, hJ⟩ : ∃ J : Value → World → Prop, J = fun v w' => ∃ (i : Nat) (R : List UInt8), i ≤ 2 ∧ v = i64 (i : Int) ∧ R = rows3 z (if 1 ≤ i then leafL name seed 0 else z) (if 2 ≤ i then leafL name seed 1 else z) ∧ Ext (fun b => b = B) w3 w' ∧ Hp w' B = some (Obj.cells (bc R).toArray 25) := ⟨_, rfl⟩
  refine Loop1 J (fun v _ => 2 - (match v with | .int _ n => n.toNat | _ => 0)) (by rw [hJ]; exact ⟨0, _, by omega, rfl, rfl, Ext.refl _ _, h63⟩) ?_
  clear h63
  intro v w4 hj
  rw [hJ] at hj
  obtain ⟨i, R, hi, rfl, hR, hx4, h6⟩ := hj
  have h4 := hx4.at h43 (by omega)
  have h5 := hx4.at h53 (by omega)
  have hs4 := hx4.size
  have hRl : R.length = 128 := by rw [hR]; refine rows3_length hzl ?_ ?_ <;> split <;> assumption
  unfold F32x3
  by_cases hlt : i < 2
  · have hlt' : (i : Int) < 2 := by omega
    simp (maxSteps := 2000000) (disch := first | exact dT_ | fail) only [hlt', p_sub, p_lss, Branch_bool, and_true, Bool.true_eq_false, false_implies, forall_const, wr_in, Int.toNat_natCast, decide_true]
    unfold F32x2
    simp (maxSteps := 2000000) (disch := first | exact dT_ | fail) only [h4, h5, hn, hs, ext_bc0 hn, ext_bc0 hs, p_add, Ln_cells, Hp_drew, cells_agg, Nat.zero_add, List.size_toArray, Nat.reduceLeDiff, if_pos, bc_length, wr_in, slA25, ix72, ld25, ld49, al25, zv25]
    refine CallF_by Try.call50 (public5_spec hn hs i) ?_
    rintro _ w5 ⟨rfl, hx5⟩
    have hp : (publicL name i seed).length = 32 := sha_length _
    have hlf : leafL name seed i = nodeL name ((2 + i : Nat) : Int) 0x82 (publicL name i seed) := rfl
    generalize publicL name i seed = p at *
    have s1 : splice (bc (List.replicate 32 0)).toArray 0 (bc p).toArray = (bc p).toArray := splice_bc_all (by rw [h32, hp])
    have h45 := hx5.at h4 not_false
    have n1 : ((2 : Int) + (i : Int)).toNat = 2 + i := by omega
    simp (maxSteps := 2000000) (disch := first | exact dT_ | fail) only [h32, hp, s1, n1, put_allocN, St_cells, Hp_alloc_new, cells_agg, Nat.zero_add, List.size_toArray, Nat.reduceLeDiff, if_pos, and_self, bc_length, st25]
    obtain ⟨w6, hw6⟩ : ∃ w6, w6 = (w5.alloc (Obj.cells (bc p).toArray 25)).drew := ⟨_, rfl⟩
    have hx6 : Ext (fun _ => False) w5 w6 := by rw [hw6]; exact ((Ext.refl _ _).alloc _).drew
    have hp6 : Hp w6 (sz w5) = some (Obj.cells (bc p).toArray 25) := by rw [hw6]; exact Hp_alloc_new _ _ _ rfl
    have h46 : Hp (w5.alloc (Obj.cells (bc p).toArray 25)) (sz w) = some (Obj.cells (bc name).toArray 49) := by rw [Hp_alloc_old _ _ _ (Hp_lt h45)]; exact h45
    simp (maxSteps := 2000000) (disch := first | exact dT_ | fail) only [h46, hn, ext_bc0 hn, Ln_cells, Nat.zero_add, List.size_toArray, Nat.reduceLeDiff, if_pos, bc_length]
    rw [← hw6]
    have er : (2 : Int) + (i : Int) = ((2 + i : Nat) : Int) := by omega
    rw [er]
    refine CallF_by Try.call49 (node6_spec hn (BIn.arr (n := 32) (cap := 32) hp6 hp) (by omega) _ 0x82) ?_
    rintro _ w8 ⟨rfl, hx8⟩
    rw [← hlf]
    have hll : (leafL name seed i).length = 32 := leafL_length _ _ _
    have hx48 : Ext (fun _ => False) w4 w8 := (hx5.trans hx6 fun _ _ h => h).trans hx8 fun _ _ h => h
    have h68 := hx48.at h6 not_false
    have hl68 := Hp_lt h68
    have hbd : (2 + i) * 32 + 32 ≤ 128 := by omega
    simp (maxSteps := 2000000) (disch := first | exact dT_ | fail) only [h68, hRl, St_cells, cells_agg, List.size_toArray, Nat.reduceLeDiff, if_pos, bc_length, st25]
    refine ⟨?_, by omega⟩
    rw [hJ]
    match i, hlt with
    | 0, _ =>
      have hR' : R = rows3 z z z := hR
      rw [hR', rows3_b hzl hzl hzl hll]
      exact ⟨1, _, by omega, rfl, rfl, (hx4.trans hx48 fun _ _ h => h.elim).put _ _ fun _ => rfl, Hp_put_same _ _ _ hl68⟩
    | 1, _ =>
      have hR' : R = rows3 z (leafL name seed 0) z := hR
      rw [hR', rows3_c hzl hl0 hzl hll]
      exact ⟨2, _, by omega, rfl, rfl, (hx4.trans hx48 fun _ _ h => h.elim).put _ _ fun _ => rfl, Hp_put_same _ _ _ hl68⟩
  · obtain rfl : i = 2 := by omega
    have hlt' : ¬ ((2 : Nat) : Int) < 2 := by omega
    simp (maxSteps := 2000000) (disch := first | exact dT_ | fail) only [hlt', p_sub, p_lss, Branch_bool, true_and, Bool.false_eq_true, false_implies, forall_const, Nat.sub_self, wr_in, Int.toNat_natCast, decide_false]
    clear hJ J
    have hR' : R = rows3 z (leafL name seed 0) (leafL name seed 1) := hR
    subst hR'
    have e5 : (2 : Int) - 1 = 1 := rfl
    rw [e5]
    have htl := topL_length name seed
    obtain ⟨J, hJ⟩ : ∃ J : Value → World → Prop, J = fun v w' => (v = i64 1 ∧ w' = w4) ∨ (v = i64 0 ∧ Ext (fun b => b = B) w4 w' ∧ Hp w' B = some (Obj.cells (bc (rows3 (topL name seed) (leafL name seed 0) (leafL name seed 1))).toArray 25)) := ⟨_, rfl⟩
    refine Loop1 J (fun v _ => (match v with | .int _ n => n.toNat | _ => 0)) (by rw [hJ]; exact .inl ⟨rfl, rfl⟩) ?_
    intro v w10 hj
    rw [hJ] at hj
    rcases hj with ⟨rfl, rfl⟩ | ⟨rfl, hx10, h610⟩
    · have ht : (0 : Int) < 1 := by omega
      simp (maxSteps := 2000000) (disch := first | exact dT_ | fail) only [ht, p_gtr, Branch_bool, and_true, Bool.true_eq_false, false_implies, forall_const, decide_true, Int.reduceToNat]
      unfold F32x1
      simp (maxSteps := 2000000) (disch := first | exact dT_ | fail) only [h4, hn, ext_bc0 hn, p_add, p_sub, p_mul, Ln_cells, Hp_drew, Hp_alloc_old, sz_drew, Nat.zero_add, List.size_toArray, Nat.reduceLeDiff, if_pos, true_and, bc_length, wr_in, Int.reduceToNat, Nat.reduceMul, slA25, ix72, ld49, bs30_0]
      have e6 : ((2 : Int) * 1).toNat * 32 = 64 := rfl
      have e7 : ((2 : Int) * 1 + 1).toNat * 32 = 96 := rfl
      simp only [e6, e7]
      generalize hl0e : leafL name seed 0 = l0 at *
      generalize hl1e : leafL name seed 1 = l1 at *
      have hte : topL name seed = nodeL name 1 0x83 (l0 ++ l1) := by rw [← hl0e, ← hl1e]; rfl
      obtain ⟨m, hm⟩ : ∃ m, m = sz w10 := ⟨_, rfl⟩
      have hlB := Hp_lt h6
      have hl4 := Hp_lt h4
      have hpB : ∀ {w' : World}, Ext (fun b => m ≤ b) w10 w' → BIn w' (.slice (some ⟨B, 64, none⟩) 32 32) l0 (fun x => x = B) := fun hx => by
        have h := BIn.part (BIn.arr (n := 128) (cap := 128) (hx.at h6 (by omega)) (rows3_length hzl hl0 hl1)) 64 32 32 (by rw [rows3_length hzl hl0 hl1]; decide)
        rw [rows3_getB hzl hl0] at h; exact h
      have hpC : ∀ {w' : World}, Ext (fun b => m ≤ b) w10 w' → BIn w' (.slice (some ⟨B, 96, none⟩) 32 32) l1 (fun x => x = B) := fun hx => by
        have h := BIn.part (BIn.arr (n := 128) (cap := 128) (hx.at h6 (by omega)) (rows3_length hzl hl0 hl1)) 96 32 32 (by rw [rows3_length hzl hl0 hl1]; decide)
        rw [rows3_getC hzl hl0 hl1] at h; exact h
      have hxn : Ext (fun b => m ≤ b) w10 (w10.drew.alloc (Obj.cells #[] 5)) := ((Ext.refl _ _).drew).alloc _
      have h0 : BOwn 5 (w10.drew.alloc (Obj.cells #[] 5)) (.slice (some ⟨sz w10.drew, 0, none⟩) 0 0) [] (sz w10.drew) := BOwn.fresh (l := []) [] rfl rfl (Nat.le_refl _) (Nat.le_refl _) (Nat.le_refl _)
      rw [sz_drew] at h0
      refine apQ _ (Q := fun b => m ≤ b) (Vec.mono h0 fun b _ hb => by omega) (hpB hxn).of (fun b hb => by rw [sz_alloc, sz_drew] at hb; omega) (by rw [hl0]; decide) ?_
      intro v54 w12 hv12 hx12
      rw [List.nil_append] at hv12
      have hxa := hxn.trans hx12 fun _ _ h => h
      have hs12 := hxa.size
      have h412 := hxa.at h4 (by omega)
      simp (maxSteps := 2000000) (disch := first | exact dT_ | fail) only [h412, hn, ext_bc0 hn, Ln_cells, Nat.zero_add, List.size_toArray, Nat.reduceLeDiff, if_pos, true_and, bc_length]
      refine apQ _ hv12 (hpC hxa).of (fun b hb => by omega) (by rw [hl0, hl1]; decide) ?_
      intro v61 w13 hv13 hx13
      have hxb := hxa.trans hx13 fun _ _ h => h
      have h413 := hxb.at h4 (by omega)
      simp (maxSteps := 2000000) (disch := first | exact dT_ | fail) only [h413, hn, ext_bc0 hn, Ln_cells, Nat.zero_add, List.size_toArray, Nat.reduceLeDiff, if_pos, true_and, bc_length]
      refine CallF_by Try.call49 (node6_spec hn (Bytes.bin hv13) (by rw [List.length_append, hl0, hl1]; decide) 1 0x83) ?_
      rintro _ w14 ⟨rfl, hx14⟩
      rw [← hte]
      have h614 := hx14.at (hxb.at h6 (by omega)) not_false
      have hl614 := Hp_lt h614
      have hr3 := rows3_length hzl hl0 hl1
      simp (maxSteps := 2000000) (disch := first | exact dT_ | fail) only [h614, hr3, htl, St_cells, cells_agg, List.size_toArray, Nat.reduceAdd, Nat.reduceLeDiff, if_pos, and_self, bc_length, st25]
      refine ⟨?_, by decide⟩
      rw [hJ, rows3_a hzl hl0 hl1 htl]
      refine .inr ⟨rfl, ?_, Hp_put_same _ _ _ hl614⟩
      exact ((hxb.trans hx14 fun _ _ h => h.elim).mono fun b hb h => by omega).put _ _ fun _ => rfl
    · have ht : ¬ (0 : Int) < 0 := by omega
      simp (maxSteps := 2000000) (disch := first | exact dT_ | fail) only [ht, p_gtr, Branch_bool, true_and, Bool.false_eq_true, false_implies, forall_const, decide_false, Int.reduceToNat]
      exact ⟨B, rfl, by omega, h610, (hx3.trans2 hx4 (fun _ _ h => h) fun b hb e => by omega).trans hx10 fun b hb e => by omega⟩
end Go.Proofs
namespace Go.Proofs
open Go Go.Lf
set_option maxRecDepth 20000
set_option maxHeartbeats 2000000
set_option linter.unusedSimpArgs false
set_option linter.unusedVariables false
theorem rows_partA {w : World} {B : Nat} {a b c : List UInt8} (h : Hp w B = some (.cells (bc (rows3 a b c)).toArray 25 (0, 0))) (ha : a.length = 32) (hb : b.length = 32) (hc : c.length = 32) : BIn w (.slice (some ⟨B, 32, none⟩) 32 32) a (fun x => x = B) := by
  have h := BIn.part (BIn.arr (n := 128) (cap := 128) h (rows3_length ha hb hc)) 32 32 32 (by rw [rows3_length ha hb hc]; decide)
  rw [rows3_getA ha] at h; exact h
theorem rows_partB {w : World} {B : Nat} {a b c : List UInt8} (h : Hp w B = some (.cells (bc (rows3 a b c)).toArray 25 (0, 0))) (ha : a.length = 32) (hb : b.length = 32) (hc : c.length = 32) : BIn w (.slice (some ⟨B, 64, none⟩) 32 32) b (fun x => x = B) := by
  have h := BIn.part (BIn.arr (n := 128) (cap := 128) h (rows3_length ha hb hc)) 64 32 32 (by rw [rows3_length ha hb hc]; decide)
  rw [rows3_getB ha hb] at h; exact h
theorem rows_partC {w : World} {B : Nat} {a b c : List UInt8} (h : Hp w B = some (.cells (bc (rows3 a b c)).toArray 25 (0, 0))) (ha : a.length = 32) (hb : b.length = 32) (hc : c.length = 32) : BIn w (.slice (some ⟨B, 96, none⟩) 32 32) c (fun x => x = B) := by
  have h := BIn.part (BIn.arr (n := 128) (cap := 128) h (rows3_length ha hb hc)) 96 32 32 (by rw [rows3_length ha hb hc]; decide)
  rw [rows3_getC ha hb hc] at h; exact h
theorem public6_spec {w : World} {name seed : List UInt8} (hn : name.length = 16) (hs : seed.length = 32) :
    Calls Try.prog 15 #[idv name, idv seed, i64 1] w (retK fun v w' => ∃ u, v = .tuple #[u, i64 0] ∧ Bytes 5 w' u (pubL name seed) (fun b => sz w ≤ b) ∧ Ext (fun _ => False) w w') := by
  refine F15_ok _ _ _ _ _ ?_
  unfold F15
  have e1 : ¬ (1 : Int) < 1 := by omega
  have e2 : ¬ (1 : Int) > 5 := by omega
  simp (maxSteps := 2000000) (disch := first | exact dT_ | fail) only [hn, hs, e1, e2, ext_bc0 hn, ext_bc0 hs, Pick_bool, cond_false, p_lss, p_gtr, r_box, Ln_cells, Hp_alloc_new, Hp_alloc_old, cells_agg, Branch_bool, Gdn_true, Nat.zero_add, List.size_toArray, Nat.reduceLeDiff, if_pos, true_and, Bool.false_eq_true, false_implies, forall_const, bc_length, decide_false, slA49, ld25, ld49]
  obtain ⟨w2, hw2⟩ : ∃ w2, w2 = (w.alloc (Obj.cells (bc name).toArray 49)).alloc (Obj.cells (bc seed).toArray 25) := ⟨_, rfl⟩
  have hx2 : Ext (fun _ => False) w w2 := by rw [hw2]; exact ((Ext.refl _ _).alloc _).alloc _
  have h4 : Hp w2 (sz w) = some (Obj.cells (bc name).toArray 49) := by rw [hw2]; (first | exact hpt_ | fail)
  rw [← hw2]
  clear hw2
  refine CallF_by Try.call32 (tree6_spec hn hs) ?_
  rintro _ w3 ⟨B, rfl, hB, hrow, hx3⟩
  have hl0 := leafL_length name seed 0
  have hl1 := leafL_length name seed 1
  have htl := topL_length name seed
  have hs2 := hx2.size
  have hs3 := hx3.size
  have hlB := Hp_lt hrow
  have hl4 := Hp_lt h4
  simp (maxSteps := 2000000) (disch := first | exact dT_ | fail) only [Nat.zero_add, Int.reduceToNat, Nat.reduceMul, slA25, ix72]
  obtain ⟨m, hm⟩ : ∃ m, m = sz w3 := ⟨_, rfl⟩
  have hxd : Ext (fun b => m ≤ b) w3 w3.drew := (Ext.refl _ _).drew
  refine CallF_by Try.call33 (four6_spec (l := []) (Q := fun b => m ≤ b) (BOwn.nil 5 w3.drew m) (fun b hb => by rw [sz_drew] at hb; omega) (Nat.zero_le _) 1) ?_
  rintro v20 w4 ⟨hv4, hx4⟩
  rw [List.nil_append] at hv4
  have hxa := hxd.trans hx4 fun _ _ h => h
  have hsa := hxa.size
  refine CallF_by Try.call33 (four6_spec hv4 (fun b hb => by omega) (by rw [four_length]; decide) 2) ?_
  rintro v21 w5 ⟨hv5, hx5⟩
  have hxb := hxa.trans hx5 fun _ _ h => h
  have hsb := hxb.size
  refine apQ _ hv5 (BIn.arr (n := 16) (cap := 16) (hxb.at (hx3.at h4 not_false) (by omega)) hn).of (fun b hb => by omega) (by simp [four_length]; omega) ?_
  intro v23 w6 hv6 hx6
  have hxc := hxb.trans hx6 fun _ _ h => h
  have hsc := hxc.size
  refine apQ _ hv6 (rows_partA (hxc.at hrow (by omega)) htl hl0 hl1).of (fun b hb => by omega) (by simp [four_length]; omega) ?_
  intro v27 w7 hv7 hx7
  refine ⟨_, rfl, Vec.mono hv7 fun b _ h => by omega, ?_⟩
  exact (hx2.trans hx3 fun _ _ h => h).trans (hxc.trans hx7 fun _ _ h => h) fun b hb h => by omega
theorem x21 (K : Value → Prop) : PRun Try.prog (binOp .xor 3 (i64 2) (.int .i64 1)) K = K (i64 3) := PRun_eq (fun _ => rfl) K
theorem x31 (K : Value → Prop) : PRun Try.prog (binOp .xor 3 (i64 3) (.int .i64 1)) K = K (i64 2) := PRun_eq (fun _ => rfl) K
theorem sign6_spec {w : World} {name seed msg : List UInt8} {mv : Value} {Qm : Nat → Prop} (hn : name.length = 16) (hs : seed.length = 32) (hmsg : BIn w mv msg Qm) (hml : msg.length ≤ 100000) (q : Nat) (hq : q ≤ 1) :
    Calls Try.prog 16 #[idv name, idv seed, i64 1, i64 (q : Int), mv] w (retK fun v w' => ∃ u, v = .tuple #[u, i64 0] ∧ Bytes 5 w' u (sig6L name seed q msg) (fun b => sz w ≤ b) ∧ Ext (fun _ => False) w w') := by
  refine F16_ok _ _ _ _ _ _ _ ?_
  unfold F16
  have e1 : ¬ (1 : Int) < 1 := by omega
  have e2 : ¬ (1 : Int) > 5 := by omega
  have e3 : ¬ (q : Int) < 0 := by omega
  have e4 : (1 : Int) % 18446744073709551616 = 1 := by omega
  have e5 : (1 : Int) * 2 = 2 := rfl
  have e6 : ¬ (q : Int) ≥ 2 := by omega
  simp (maxSteps := 2000000) (disch := first | exact dT_ | fail) only [e1, e2, Pick_bool, cond_false, p_lss, p_gtr, r_box, sz_alloc, cells_agg, Branch_bool, Gdn_true, true_and, Bool.false_eq_true, false_implies, forall_const, decide_false]
  unfold F16x2
  simp (maxSteps := 2000000) (disch := first | exact dT_ | fail) only [e3, e4, e5, e6, Pick_bool, cond_false, p_lss, p_geq, Branch_bool, Gdn_true, true_and, Bool.false_eq_true, false_implies, forall_const, u64w, wr_in, p_shli, decide_false, Int.reduceToNat, Int.reducePow, cv3_69]
  unfold F16x1
  obtain ⟨w2, hw2⟩ : ∃ w2, w2 = (w.alloc (Obj.cells (bc name).toArray 49)).alloc (Obj.cells (bc seed).toArray 25) := ⟨_, rfl⟩
  have hx2 : Ext (fun _ => False) w w2 := by rw [hw2]; exact ((Ext.refl _ _).alloc _).alloc _
  have h4 : Hp w2 (sz w) = some (Obj.cells (bc name).toArray 49) := by rw [hw2]; (first | exact hpt_ | fail)
  have h5 : Hp w2 (sz w + 1) = some (Obj.cells (bc seed).toArray 25) := by rw [hw2]; (first | exact hpt_ | fail)
  rw [← hw2]
  clear hw2
  simp (maxSteps := 2000000) (disch := first | exact dT_ | fail) only [hn, hs, h4, h5, e4, e5, ext_bc0 hn, ext_bc0 hs, p_add, Ln_cells, Hp_drew, Nat.zero_add, List.size_toArray, Nat.reduceLeDiff, if_pos, forall_const, bc_length, u64w, wr_in, p_shli, Int.reduceToNat, Int.reducePow, cv3_69, ld25, ld49]
  refine CallF_by Try.call32 (tree6_spec hn hs) ?_
  rintro _ w3 ⟨B, rfl, hB, hrow, hx3⟩
  have hl0 := leafL_length name seed 0
  have hl1 := leafL_length name seed 1
  have htl := topL_length name seed
  have hs2 := hx2.size
  have hs3 := hx3.size
  have hlB := Hp_lt hrow
  have hl4 := Hp_lt h4
  have hl5 := Hp_lt h5
  have h43 := hx3.at h4 not_false
  have h53 := hx3.at h5 not_false
  simp (maxSteps := 2000000) (disch := first | exact dT_ | fail) only [hn, hs, h43, h53, ext_bc0 hn, ext_bc0 hs, Ln_cells, Nat.zero_add, List.size_toArray, Nat.reduceLeDiff, if_pos, bc_length]
  obtain ⟨m, hm⟩ : ∃ m, m = sz w3 := ⟨_, rfl⟩
  have hxd : Ext (fun b => m ≤ b) w3 w3.drew := (Ext.refl _ _).drew
  refine CallF_by Try.call33 (four6_spec (l := []) (Q := fun b => m ≤ b) (BOwn.nil 5 w3.drew m) (fun b hb => by rw [sz_drew] at hb; omega) (Nat.zero_le _) q) ?_
  rintro v35 w4 ⟨hv4, hx4⟩
  rw [List.nil_append] at hv4
  have hxa := hxd.trans hx4 fun _ _ h => h
  have hsa := hxa.size
  have h44 := hxa.at h43 (by omega)
  have h54 := hxa.at h53 (by omega)
  simp (maxSteps := 2000000) (disch := first | exact dT_ | fail) only [hn, hs, h44, h54, ext_bc0 hn, ext_bc0 hs, Ln_cells, Nat.zero_add, List.size_toArray, Nat.reduceLeDiff, if_pos, true_and, bc_length]
  have hmsg4 : BIn w4 mv msg Qm := (((hmsg.ext hx2 fun _ _ _ => not_false).ext hx3 fun _ _ _ => not_false).ext hxa fun b hb hQ h => by omega)
  refine CallF_by Try.call34 (sign5_spec hn hs hmsg4 hml q) ?_
  rintro v40 w5 ⟨hv40, hx5⟩
  have hv5 : Bytes 5 w5 v35 (four q) (fun b => m ≤ b) := Vec.ext hv4 hx5 fun _ _ _ => not_false
  have hxb := hxa.trans hx5 fun _ _ h => h.elim
  have hsb := hxb.size
  have hsl := signL_length name q seed msg
  refine apQ _ hv5 (Bytes.of hv40) (fun b hb => by omega) (by rw [four_length, hsl]; decide) ?_
  intro v41 w6 hv6 hx6
  have hxc := hxb.trans hx6 fun _ _ h => h
  have hsc := hxc.size
  refine CallF_by Try.call33 (four6_spec hv6 (fun b hb => by omega) (by rw [List.length_append, four_length, hsl]; decide) 1) ?_
  rintro v44 w7 ⟨hv7, hx7⟩
  have hxe := hxc.trans hx7 fun _ _ h => h
  have hse := hxe.size
  obtain ⟨J, hJ⟩ : ∃ J : Value → Value → World → Prop, J = fun u v w' => (v = i64 (2 + (q : Int)) ∧ u = v44 ∧ w' = w7) ∨ (v = i64 1 ∧ Bytes 5 w' u (sig6L name seed q msg) (fun b => m ≤ b) ∧ Ext (fun b => m ≤ b) w3 w') := ⟨_, rfl⟩
  refine Loop2 J (fun _ v _ => (match v with | .int _ n => n.toNat | _ => 0)) (by rw [hJ]; exact .inl ⟨rfl, rfl, rfl⟩) ?_
  intro u v w8 hj
  rw [hJ] at hj
  rcases hj with ⟨rfl, rfl, rfl⟩ | ⟨rfl, hv8, hx8⟩
  · have hg : 2 + (q : Int) > 1 := by omega
    have hrow8 := hxe.at hrow (by omega)
    match q, hq with
    | 0, _ =>
      have c1 : (2 : Int) + ((0 : Nat) : Int) = 2 := rfl
      have d1 : (2 : Int).tdiv 2 = 1 := rfl
      have n3 : (3 : Int).toNat * 32 = 96 := rfl
      have g2 : (2 : Int) > 1 := by omega
      rw [c1]
      simp (maxSteps := 2000000) (disch := first | exact dT_ | fail) only [g2, x21, d1, p_gtr, p_quo, Branch_bool, Nat.zero_add, Nat.reduceLT, and_true, Bool.true_eq_false, false_implies, forall_const, wr_in, decide_true, Int.reduceToNat, Nat.reduceMul, slA25, ix72]
      refine apQ _ hv7 (rows_partC hrow8 htl hl0 hl1).of (fun b hb => by omega) (by rw [List.length_append, List.length_append, four_length, four_length, hsl, hl1]; decide) ?_
      intro v60 w9 hv9 hx9
      rw [hJ]
      exact .inr ⟨rfl, hv9, hxe.trans hx9 fun _ _ h => h⟩
    | 1, _ =>
      have c1 : (2 : Int) + ((1 : Nat) : Int) = 3 := rfl
      have d1 : (3 : Int).tdiv 2 = 1 := rfl
      have n3 : (2 : Int).toNat * 32 = 64 := rfl
      have g2 : (3 : Int) > 1 := by omega
      rw [c1]
      simp (maxSteps := 2000000) (disch := first | exact dT_ | fail) only [g2, x31, d1, p_gtr, p_quo, Branch_bool, Nat.zero_add, Nat.reduceLT, and_true, Bool.true_eq_false, false_implies, forall_const, wr_in, decide_true, Int.reduceToNat, Nat.reduceMul, slA25, ix72]
      refine apQ _ hv7 (rows_partB hrow8 htl hl0 hl1).of (fun b hb => by omega) (by rw [List.length_append, List.length_append, four_length, four_length, hsl, hl0]; decide) ?_
      intro v60 w9 hv9 hx9
      rw [hJ]
      exact .inr ⟨rfl, hv9, hxe.trans hx9 fun _ _ h => h⟩
  · have hg : ¬ (1 : Int) > 1 := by omega
    simp (maxSteps := 2000000) (disch := first | exact dT_ | fail) only [hg, p_gtr, p_quo, Branch_bool, true_and, Bool.false_eq_true, false_implies, forall_const, wr_in, decide_false, Int.reduceToNat]
    refine ⟨_, rfl, Vec.mono hv8 fun b _ h => by omega, ?_⟩
    exact (hx2.trans hx3 fun _ _ h => h).trans hx8 fun b hb h => by omega
end Go.Proofs
namespace Go.Proofs
open Go Go.Lf
set_option maxRecDepth 20000
set_option maxHeartbeats 2000000
set_option linter.unusedSimpArgs false
set_option linter.unusedVariables false
theorem p_orN {t : Nat} (x y k : Nat) (hy : y < 2 ^ k) (hxy : x * 2 ^ k + y < 9223372036854775808) (K : Value → Prop) : PRun Try.prog (binOp .or t (i64 ((x * 2 ^ k : Nat) : Int)) (i64 (y : Int))) K = K (i64 ((x * 2 ^ k + y : Nat) : Int)) := PRun_eq (fun w => by
  show Result.ok (Value.int .i64 (wr ((BitVec.ofInt 64 ((x * 2 ^ k : Nat) : Int) ||| BitVec.ofInt 64 (y : Int)).toNat : Int))) w = _
  have e1 : ∀ n : Nat, n < 9223372036854775808 → (BitVec.ofInt 64 (n : Int)).toNat = n := by
    intro n hn
    rw [BitVec.toNat_ofInt]
    show ((n : Int) % (2 ^ 64 : Nat)).toNat = n
    omega
  rw [BitVec.toNat_or, e1 _ (by omega), e1 _ (by omega)]
  have e2 : x * 2 ^ k ||| y = x * 2 ^ k + y := by
    have := Nat.shiftLeft_add_eq_or_of_lt hy x
    rw [Nat.shiftLeft_eq] at this
    exact this.symm
  rw [e2, wr_in _ (by omega)]) K
theorem p_orI {t : Nat} (x y : Int) (k : Nat) (M : Int) (hM : M = ((2 ^ k : Nat) : Int)) (h0 : 0 ≤ x) (hx : x % M = 0) (hy0 : 0 ≤ y) (hy : y < M) (hb : x + y < 9223372036854775808) (K : Value → Prop) : PRun Try.prog (binOp .or t (i64 x) (i64 y)) K = K (i64 (x + y)) := by
  subst hM
  obtain ⟨y', rfl⟩ := Int.eq_ofNat_of_zero_le hy0
  obtain ⟨c, hc⟩ := Int.dvd_of_emod_eq_zero hx
  have hp : (0 : Int) < ((2 ^ k : Nat) : Int) := by have := Nat.two_pow_pos k; omega
  have hc0 : 0 ≤ c := by
    rcases Int.lt_or_le c 0 with h | h
    · have := Int.mul_neg_of_pos_of_neg hp h; omega
    · exact h
  obtain ⟨c', rfl⟩ := Int.eq_ofNat_of_zero_le hc0
  have e1 : x = ((c' * 2 ^ k : Nat) : Int) := by rw [hc, Int.mul_comm, Int.natCast_mul]
  rw [e1] at hb ⊢
  exact p_orN c' y' k (by omega) (by omega) K
def num4 (b : List UInt8) : Nat := (((b.getD 0 0).toNat * 256 + (b.getD 1 0).toNat) * 256 + (b.getD 2 0).toNat) * 256 + (b.getD 3 0).toNat
theorem num4_four (n : Nat) (h : n < 4294967296) (r : List UInt8) : num4 (four n ++ r) = n := by
  have e : ∀ x : Int, (b8 x).toNat = (x % 256).toNat := fun x => by have := b8_toNat x; omega
  show ((((b8 ((n : Int) / 16777216)).toNat * 256 + (b8 ((n : Int) / 65536)).toNat) * 256 + (b8 ((n : Int) / 256)).toNat) * 256 + (b8 (n : Int)).toNat) = n
  rw [e, e, e, e]
  omega
theorem get6_spec {w : World} {v : Value} {b : List UInt8} {Q : Nat → Prop} (hb : BIn w v b Q) (hl : 4 ≤ b.length) :
    Calls Try.prog 47 #[v] w (retK fun v w' => v = i64 (num4 b : Int) ∧ Ext (fun _ => False) w w') := by
  refine F47_ok _ _ _ ?_
  unfold F47
  rcases hb with ⟨rfl, rfl⟩ | ⟨B, o, cap, row, U, fr, rfl, hrow, hcells, -⟩
  · simp at hl
  have hg : ∀ j, j < b.length → row[o + j]? = some (u8v (b.getD j 0)) := fun j hj => by rw [hcells _ hj, ← bc_getD b _ hj, List.getElem?_toArray]
  have g0 := hg 0 (by omega)
  have g1 := hg 1 (by omega)
  have g2 := hg 2 (by omega)
  have g3 := hg 3 (by omega)
  have t0 := UInt8.toNat_lt (b.getD 0 0)
  have t1 := UInt8.toNat_lt (b.getD 1 0)
  have t2 := UInt8.toNat_lt (b.getD 2 0)
  have t3 := UInt8.toNat_lt (b.getD 3 0)
  rw [Nat.add_zero] at g0
  simp (maxSteps := 2000000) (disch := first | exact dT_ | fail) only [hrow, g0, g1, g2, g3, L1_cells, Hp_drew, Option.elim_some, Nat.add_zero, i64w, wr_in, Nat.mul_one, p_shli, Int.reduceToNat, Int.reducePow, ix30, cv5_3, ld5]
  have f1 := fun K => p_orI (t := 3) ((b.getD 0 0).toNat * 16777216 : Int) ((b.getD 1 0).toNat * 65536 : Int) 24 16777216 rfl (by omega) (by omega) (by omega) (by omega) (by omega) K
  have f2 := fun K => p_orI (t := 3) ((b.getD 0 0).toNat * 16777216 + (b.getD 1 0).toNat * 65536 : Int) ((b.getD 2 0).toNat * 256 : Int) 16 65536 rfl (by omega) (by omega) (by omega) (by omega) (by omega) K
  have f3 := fun K => p_orI (t := 3) ((b.getD 0 0).toNat * 16777216 + (b.getD 1 0).toNat * 65536 + (b.getD 2 0).toNat * 256 : Int) ((b.getD 3 0).toNat : Int) 8 256 rfl (by omega) (by omega) (by omega) (by omega) (by omega) K
  rw [f1, f2, f3]
  refine ⟨?_, (Ext.refl _ _).drew⟩
  refine congrArg (Value.int .i64) ?_
  unfold num4; omega
theorem get9_spec {w : World} {v : Value} {b : List UInt8} {Q : Nat → Prop} (hb : BIn w v b Q) (hl : 4 ≤ b.length) :
    Calls Try.prog 28 #[v] w (retK fun v w' => v = i64 (num4 b : Int) ∧ Ext (fun _ => False) w w') := by
  refine F28_ok _ _ _ ?_
  unfold F28
  rcases hb with ⟨rfl, rfl⟩ | ⟨B, o, cap, row, U, fr, rfl, hrow, hcells, -⟩
  · simp at hl
  have hg : ∀ j, j < b.length → row[o + j]? = some (u8v (b.getD j 0)) := fun j hj => by rw [hcells _ hj, ← bc_getD b _ hj, List.getElem?_toArray]
  have g0 := hg 0 (by omega)
  have g1 := hg 1 (by omega)
  have g2 := hg 2 (by omega)
  have g3 := hg 3 (by omega)
  have t0 := UInt8.toNat_lt (b.getD 0 0)
  have t1 := UInt8.toNat_lt (b.getD 1 0)
  have t2 := UInt8.toNat_lt (b.getD 2 0)
  have t3 := UInt8.toNat_lt (b.getD 3 0)
  rw [Nat.add_zero] at g0
  simp (maxSteps := 2000000) (disch := first | exact dT_ | fail) only [hrow, g0, g1, g2, g3, L1_cells, Hp_drew, Option.elim_some, Nat.add_zero, i64w, wr_in, Nat.mul_one, p_shli, Int.reduceToNat, Int.reducePow, ix30, cv5_3, ld5]
  have f1 := fun K => p_orI (t := 3) ((b.getD 0 0).toNat * 16777216 : Int) ((b.getD 1 0).toNat * 65536 : Int) 24 16777216 rfl (by omega) (by omega) (by omega) (by omega) (by omega) K
  have f2 := fun K => p_orI (t := 3) ((b.getD 0 0).toNat * 16777216 + (b.getD 1 0).toNat * 65536 : Int) ((b.getD 2 0).toNat * 256 : Int) 16 65536 rfl (by omega) (by omega) (by omega) (by omega) (by omega) K
  have f3 := fun K => p_orI (t := 3) ((b.getD 0 0).toNat * 16777216 + (b.getD 1 0).toNat * 65536 + (b.getD 2 0).toNat * 256 : Int) ((b.getD 3 0).toNat : Int) 8 256 rfl (by omega) (by omega) (by omega) (by omega) (by omega) K
  rw [f1, f2, f3]
  refine ⟨?_, (Ext.refl _ _).drew⟩
  refine congrArg (Value.int .i64) ?_
  unfold num4; omega
theorem number_spec {w : World} {v : Value} {b : List UInt8} {Q : Nat → Prop} (hb : BIn w v b Q) (hl : 4 ≤ b.length) :
    Calls Try.prog 36 #[v] w (retK fun v w' => v = i64 (num4 b : Int) ∧ Ext (fun _ => False) w w') := by
  refine F36_ok _ _ _ ?_
  unfold F36
  rcases hb with ⟨rfl, rfl⟩ | ⟨B, o, cap, row, U, fr, rfl, hrow, hcells, -⟩
  · simp at hl
  have hg : ∀ j, j < b.length → row[o + j]? = some (u8v (b.getD j 0)) := fun j hj => by rw [hcells _ hj, ← bc_getD b _ hj, List.getElem?_toArray]
  have g0 := hg 0 (by omega)
  have g1 := hg 1 (by omega)
  have g2 := hg 2 (by omega)
  have g3 := hg 3 (by omega)
  have t0 := UInt8.toNat_lt (b.getD 0 0)
  have t1 := UInt8.toNat_lt (b.getD 1 0)
  have t2 := UInt8.toNat_lt (b.getD 2 0)
  have t3 := UInt8.toNat_lt (b.getD 3 0)
  rw [Nat.add_zero] at g0
  simp (maxSteps := 2000000) (disch := first | exact dT_ | fail) only [hrow, g0, g1, g2, g3, L1_cells, Hp_drew, Option.elim_some, Nat.add_zero, i64w, wr_in, Nat.mul_one, p_shli, Int.reduceToNat, Int.reducePow, ix30, cv5_3, ld5]
  have f1 := fun K => p_orI (t := 3) ((b.getD 0 0).toNat * 16777216 : Int) ((b.getD 1 0).toNat * 65536 : Int) 24 16777216 rfl (by omega) (by omega) (by omega) (by omega) (by omega) K
  have f2 := fun K => p_orI (t := 3) ((b.getD 0 0).toNat * 16777216 + (b.getD 1 0).toNat * 65536 : Int) ((b.getD 2 0).toNat * 256 : Int) 16 65536 rfl (by omega) (by omega) (by omega) (by omega) (by omega) K
  have f3 := fun K => p_orI (t := 3) ((b.getD 0 0).toNat * 16777216 + (b.getD 1 0).toNat * 65536 + (b.getD 2 0).toNat * 256 : Int) ((b.getD 3 0).toNat : Int) 8 256 rfl (by omega) (by omega) (by omega) (by omega) (by omega) K
  rw [f1, f2, f3]
  refine ⟨?_, (Ext.refl _ _).drew⟩
  refine congrArg (Value.int .i64) ?_
  unfold num4; omega
end Go.Proofs
namespace Go.Proofs
open Go Go.Lf
set_option maxRecDepth 20000
set_option maxHeartbeats 2000000
set_option linter.unusedSimpArgs false
set_option linter.unusedVariables false
/-- the way up, and whether it comes to the top -/
theorem up6 {W : World} {p8 p14 Bs os cs Bp op cp : Nat} {name t side top sig pub : List UInt8} {Qs Qp : Nat → Prop} {K : Value → World → Prop} (hn : name.length = 16) (ht : t.length = 32) (hside : side.length = 32) (htop : top.length = 32) (q : Nat) (hq : q ≤ 1)
    (h8 : Hp W p8 = some (.cells (bc name).toArray 49 (0, 0))) (h14 : Hp W p14 = some (.cells (bc t).toArray 25 (0, 0))) (hne : p8 ≠ p14)
    (hs : BIn W (.slice (some ⟨Bs, os, none⟩) 4332 cs) sig Qs) (hcs : 4332 ≤ cs) (hsd : (sig.drop 4300).take 32 = side) (hp : BIn W (.slice (some ⟨Bp, op, none⟩) 56 cp) pub Qp) (hcp : 56 ≤ cp) (hpd : (pub.drop 24).take 32 = top) (hQ : ¬ Qs p14 ∧ ¬ Qp p14)
    (hK : ∀ W', Ext (fun b => b = p14) W W' → K (i64 (if upL name q t side = top then 0 else 12)) W') :
    LoopF 2 [(i64 (2 + (q : Int))), (Value.int .i64 0)] W fun v13_2 v15_2 w19 k2 => F30x4 v13_2 v15_2 (.slice (some ⟨Bs, os, none⟩) 4332 cs) (ptr p8 0) w19 (ptr p14 0) k2 (.slice (some ⟨Bp, op, none⟩) 56 cp) K := by
  have hlp8 := Hp_lt h8
  have hlp14 := Hp_lt h14
  obtain ⟨hsl, -, -⟩ := BIn.row hs
  obtain ⟨hpl, -, -⟩ := BIn.row hp
  have hul : (upL name q t side).length = 32 := sha_length _
  obtain ⟨J, hJ⟩ : ∃ J : Value → Value → World → Prop, J = fun u v w' => (u = i64 (2 + (q : Int)) ∧ v = i64 0 ∧ w' = W) ∨ (u = i64 1 ∧ v = i64 1 ∧ Ext (fun b => b = p14) W w' ∧ Hp w' p14 = some (.cells (bc (upL name q t side)).toArray 25 (0, 0))) := ⟨_, rfl⟩
  refine Loop2 J (fun u _ _ => (match u with | .int _ n => n.toNat | _ => 0)) (by rw [hJ]; exact .inl ⟨rfl, rfl, rfl⟩) ?_
  intro u v w8 hj
  rw [hJ] at hj
  unfold F30x4
  rcases hj with ⟨rfl, rfl, rfl⟩ | ⟨rfl, rfl, hx8, h148⟩
  · have hg : 2 + (q : Int) > 1 := by omega
    simp (maxSteps := 2000000) (disch := first | exact dT_ | fail) only [hg, p_gtr, Branch_bool, and_true, Bool.true_eq_false, false_implies, forall_const, Nat.reduceSub, cutAt_some, Nat.mul_one, decide_true, Int.reduceToNat, slA25, slL30]
    unfold F30x3
    have c1 : (4300 : Int) + 32 * 0 = 4300 := rfl
    have c2 : (4332 : Int) + 32 * 0 = 4332 := rfl
    have hsub : Bs = Bs := rfl
    have hcs' : 4300 < cs := by omega
    simp (maxSteps := 2000000) (disch := first | exact dT_ | fail) only [c1, c2, p_add, p_mul, p_eql, p_rem, p_quo, Branch_bool, decide_eq_true_eq, decide_eq_false_iff_not, forall_const, Nat.reduceSub, cutAt_some, wr_in, Nat.mul_one, Int.reduceToNat, slLH30]
    have hd1 : (2 + (q : Int)).tdiv 2 = 1 := by rw [Int.tdiv_eq_ediv_of_nonneg (by omega)]; omega
    have hend : ∀ {w' : World}, Ext (fun b => sz w8 ≤ b ∨ b = p14) w8 w' → Hp w' p14 = some (.cells (bc (upL name q t side)).toArray 25 (0, 0)) → J (i64 1) (i64 1) w' := fun hx h => by
      rw [hJ]; exact .inr ⟨rfl, rfl, hx.mono fun b hb h => by omega, h⟩
    obtain ⟨m, hm⟩ : ∃ m, m = sz w8 := ⟨_, rfl⟩
    have hbs : ∀ {w' : World}, Ext (fun b => m ≤ b) w8 w' → BIn w' (.slice (some ⟨Bs, os + 4300, none⟩) 32 (cs - 4300)) side Qs := fun hx => by
      have h := BIn.part hs 4300 32 (cs - 4300) (by omega)
      rw [hsd] at h
      exact h.ext hx fun b hb _ h => by omega
    have hbt : ∀ {w' : World}, Ext (fun b => m ≤ b) w8 w' → BIn w' (.slice (some ⟨p14, 0, none⟩) 32 32) t (fun b => b = p14) := fun hx => BIn.arr (hx.at h14 (by omega)) ht
    have hwr : wr ((2 + (q : Int)).tdiv 2) = 1 := by rw [hd1]; rfl
    rw [hwr]
    refine Join0 (fun w' => Ext (fun b => sz w8 ≤ b ∨ b = p14) w8 w' ∧ Hp w' p14 = some (.cells (bc (upL name q t side)).toArray 25 (0, 0))) ?_ ?_
    rotate_left
    · rintro w' ⟨h1, h2⟩
      exact ⟨hend h1 h2, by show (1 : Int).toNat < _; omega⟩
    have hfin : ∀ {l : List UInt8} {c : Value} {w' : World} {R : World → Prop}, Bytes 5 w' c l (fun b => m ≤ b) → l.length = 64 → nodeL name 1 0x83 l = upL name q t side → Ext (fun b => m ≤ b) w8 w' → (∀ w'', Ext (fun b => sz w8 ≤ b ∨ b = p14) w8 w'' → Hp w'' p14 = some (.cells (bc (upL name q t side)).toArray 25 (0, 0)) → R w'') →
        CallF Try.prog 49 #[idv name, i64 1, u8v 0x83, c] w' fun v112 w23 => Run Try.prog (Instr.storeAt 25 (ptr p14 0) v112) w23 fun _ w24 => R w24 := by
      intro l c w' R hc hl he hx hR
      refine CallF_by Try.call49 (node6_spec hn (Bytes.bin hc) (by omega) 1 0x83) ?_
      rintro _ w9 ⟨rfl, hx9⟩
      rw [he]
      have h149 := hx9.at (hx.at h14 (by omega)) not_false
      have hl149 := Hp_lt h149
      have s1 : splice (bc t).toArray 0 (bc (upL name q t side)).toArray = (bc (upL name q t side)).toArray := splice_bc_all (by rw [ht, hul])
      generalize upL name q t side = S at *
      simp (maxSteps := 2000000) (disch := first | exact dT_ | fail) only [h149, ht, hul, s1, St_cells, cells_agg, Nat.zero_add, List.size_toArray, Nat.reduceLeDiff, if_pos, and_self, bc_length, st25]
      refine hR _ ?_ (Hp_put_same _ _ _ hl149)
      exact ((hx.mono fun b _ h => .inl (by omega)).trans hx9 fun _ _ h => h.elim).put _ _ fun _ => .inr rfl
    have hxn : Ext (fun b => m ≤ b) w8 (w8.drew.alloc (Obj.cells #[] 5)) := ((Ext.refl _ _).drew).alloc _
    have h0 : BOwn 5 (w8.drew.alloc (Obj.cells #[] 5)) (.slice (some ⟨sz w8.drew, 0, none⟩) 0 0) [] (sz w8.drew) := BOwn.fresh (l := []) [] rfl rfl (Nat.le_refl _) (Nat.le_refl _) (Nat.le_refl _)
    rw [sz_drew] at h0
    match q, hq with
    | 0, _ =>
      have d1 : (2 + ((0 : Nat) : Int)).tmod 2 = 0 := rfl
      refine ⟨fun _ => ?_, fun h => absurd d1 h⟩
      unfold F30x1
      simp (maxSteps := 2000000) (disch := first | exact dT_ | fail) only [h8, hn, ext_bc0 hn, hd1, p_quo, Ln_cells, Hp_drew, Hp_alloc_old, sz_drew, Nat.zero_add, List.size_toArray, Nat.reduceLeDiff, if_pos, true_and, bc_length, wr_in, slA25, ld49, bs30_0]
      refine apQ _ (Q := fun b => m ≤ b) (Vec.mono h0 fun b _ hb => by omega) (hbt hxn).of (fun b hb => by rw [sz_alloc, sz_drew] at hb; omega) (by rw [ht]; decide) ?_
      intro v12 w12 hv12 hx12
      rw [List.nil_append] at hv12
      have hxa := hxn.trans hx12 fun _ _ h => h
      have hsa := hxa.size
      have h812 := hxa.at h8 (by omega)
      simp (maxSteps := 2000000) (disch := first | exact dT_ | fail) only [h812, hn, ext_bc0 hn, Ln_cells, Nat.zero_add, List.size_toArray, Nat.reduceLeDiff, if_pos, true_and, bc_length]
      refine apQ _ hv12 (hbs hxa).of (fun b hb => by omega) (by rw [ht, hside]; decide) ?_
      intro v13 w13 hv13 hx13
      have hxb := hxa.trans hx13 fun _ _ h => h
      have h813 := hxb.at h8 (by omega)
      simp (maxSteps := 2000000) (disch := first | exact dT_ | fail) only [h813, hn, ext_bc0 hn, Ln_cells, Nat.zero_add, List.size_toArray, Nat.reduceLeDiff, if_pos, true_and, bc_length]
      exact hfin hv13 (by rw [List.length_append, ht, hside]) rfl hxb fun w'' h1 h2 => ⟨h1, h2⟩
    | 1, _ =>
      have d1 : ¬ (2 + ((1 : Nat) : Int)).tmod 2 = 0 := by decide
      refine ⟨fun h => absurd h d1, fun _ => ?_⟩
      unfold F30x2
      simp (maxSteps := 2000000) (disch := first | exact dT_ | fail) only [h8, hn, ext_bc0 hn, hd1, p_quo, Ln_cells, Hp_drew, Hp_alloc_old, sz_drew, Nat.zero_add, List.size_toArray, Nat.reduceLeDiff, if_pos, true_and, bc_length, wr_in, slA25, ld49, bs30_0]
      refine apQ _ (Q := fun b => m ≤ b) (Vec.mono h0 fun b _ hb => by omega) (hbs hxn).of (fun b hb => by rw [sz_alloc, sz_drew] at hb; omega) (by rw [hside]; decide) ?_
      intro v12 w12 hv12 hx12
      rw [List.nil_append] at hv12
      have hxa := hxn.trans hx12 fun _ _ h => h
      have hsa := hxa.size
      have h812 := hxa.at h8 (by omega)
      simp (maxSteps := 2000000) (disch := first | exact dT_ | fail) only [h812, hn, ext_bc0 hn, Ln_cells, Nat.zero_add, List.size_toArray, Nat.reduceLeDiff, if_pos, true_and, bc_length]
      refine apQ _ hv12 (hbt hxa).of (fun b hb => by omega) (by rw [ht, hside]; decide) ?_
      intro v13 w13 hv13 hx13
      have hxb := hxa.trans hx13 fun _ _ h => h
      have h813 := hxb.at h8 (by omega)
      simp (maxSteps := 2000000) (disch := first | exact dT_ | fail) only [h813, hn, ext_bc0 hn, Ln_cells, Nat.zero_add, List.size_toArray, Nat.reduceLeDiff, if_pos, true_and, bc_length]
      exact hfin hv13 (by rw [List.length_append, ht, hside]) rfl hxb fun w'' h1 h2 => ⟨h1, h2⟩
  · have hg : ¬ (1 : Int) > 1 := by omega
    have c3 : (24 : Int).toNat = 24 := rfl
    have hcp' : 24 < cp := by omega
    have hxd : Ext (fun b => b = p14) W w8.drew := hx8.drew
    have hq1 := q_toStr (BIn.arr (n := 32) (cap := 32) (w := w8.drew) ((Hp_drew _ _).trans h148) hul).of
    have hq2 := q_toStr (w := w8.drew) (v := .slice (some ⟨Bp, op + 24, none⟩) 32 (cp - 24)) (l := top) (by
      have h := BIn.part hp 24 32 (cp - 24) (by omega)
      rw [hpd] at h
      exact (h.ext hxd fun b _ hQ' e => by subst e; exact hQ.2 hQ').of)
    simp (maxSteps := 2000000) (disch := first | exact dT_ | fail) only [hg, hq1, hq2, p_gtr, Branch_bool, decide_eq_true_eq, decide_eq_false_iff_not, Bool.not_eq_true', Bool.not_eq_false', true_and, Bool.false_eq_true, false_implies, forall_const, Nat.reduceSub, p_neqStr, cutAt_some, Nat.mul_one, decide_false, Int.reduceToNat, slA25, slL30]
    have hKd := hK _ hxd
    refine ⟨fun h => ?_, fun h => ?_⟩
    · rw [if_neg h] at hKd; exact hKd
    · rw [if_pos h] at hKd; exact hKd
end Go.Proofs
namespace Go.Proofs
open Go Go.Lf
set_option maxRecDepth 20000
set_option maxHeartbeats 2000000
set_option linter.unusedSimpArgs false
set_option linter.unusedVariables false
theorem pub_facts {pub name top : List UInt8} (h : pub = four 1 ++ four 2 ++ name ++ top) (hn : name.length = 16) (ht : top.length = 32) :
    pub.length = 56 ∧ num4 pub = 1 ∧ num4 ((pub.drop 4).take 52) = 2 ∧ (pub.drop 24).take 32 = top ∧ (pub.drop 8).take 16 = name := by
  subst h
  refine ⟨by simp [four_length, hn, ht], ?_, ?_, ?_, ?_⟩
  · rw [List.append_assoc, List.append_assoc]; exact num4_four 1 (by omega) _
  · rw [List.append_assoc, List.append_assoc, List.drop_left' (four_length 1), List.take_of_length_le (by simp [four_length, hn, ht])]; exact num4_four 2 (by omega) _
  · rw [List.drop_left' (by simp [four_length, hn]), List.take_of_length_le (by omega)]
  · rw [List.append_assoc, List.drop_left' (by simp [four_length]), List.take_left' hn]
theorem sig_facts {sig osig side : List UInt8} {q : Nat} (hq : q ≤ 1) (h : sig = four q ++ osig ++ four 1 ++ side) (ho : osig.length = 4292) (hs : side.length = 32) :
    sig.length = 4332 ∧ num4 sig = q ∧ num4 ((sig.drop 4296).take 36) = 1 ∧ (sig.drop 4).take 4292 = osig ∧ (sig.drop 4300).take 32 = side := by
  subst h
  refine ⟨by simp [four_length, ho, hs], ?_, ?_, ?_, ?_⟩
  · rw [List.append_assoc, List.append_assoc]; exact num4_four q (by omega) _
  · rw [List.append_assoc, List.drop_left' (by simp [four_length, ho]), List.take_of_length_le (by simp [four_length, hs])]; exact num4_four 1 (by omega) _
  · rw [List.append_assoc, List.append_assoc, List.drop_left' (four_length _), List.take_left' ho]
  · rw [List.drop_left' (by simp [four_length, ho]), List.take_of_length_le (by omega)]
theorem part_getD {l p : List UInt8} {o n : Nat} (h : (l.drop o).take n = p) (i : Nat) (hi : i < n) : l.getD (o + i) 0 = p.getD i 0 := by
  subst h
  rw [List.getD_eq_getElem?_getD, List.getD_eq_getElem?_getD, List.getElem?_take, if_pos hi, List.getElem?_drop]
section
variable {w : World} {Bp op cp Bs os cs : Nat} {pub sig name top osig side msg : List UInt8} {mv : Value} {Qp Qs Qm : Nat → Prop} {q : Nat}
/-- from the leaf's signature on -/
theorem mid6 {W : World} {p8 p11 : Nat} {K : Value → World → Prop} (hn : name.length = 16) (htop : top.length = 32) (hside : side.length = 32) (hq : q ≤ 1)
    (h8 : Hp W p8 = some (.cells (bc name).toArray 49 (0, 0))) (k : List UInt8) (hk : k.length = 32) (h11 : Hp W p11 = some (.cells (bc k).toArray 25 (0, 0)))
    (hs : BIn W (.slice (some ⟨Bs, os, none⟩) 4332 cs) sig Qs) (hcs : 4332 ≤ cs) (hsd : (sig.drop 4300).take 32 = side) (hp : BIn W (.slice (some ⟨Bp, op, none⟩) 56 cp) pub Qp) (hcp : 56 ≤ cp) (hpd : (pub.drop 24).take 32 = top) (hQ : ∀ b, sz W ≤ b → ¬ Qs b ∧ ¬ Qp b)
    (hK : ∀ W', Ext (fun _ => False) W W' → K (i64 (if upL name q (nodeL name ((2 + q : Nat) : Int) 0x82 k) side = top then 0 else 12)) W') :
    F30x6 (i64 0) K W (i64 1) (i64 (q : Int)) (ptr p8 0) (ptr p11 0) (.slice (some ⟨Bs, os, none⟩) 4332 cs) (.slice (some ⟨Bp, op, none⟩) 56 cp) := by
  unfold F30x6
  have e0 : decide ((0 : Int) = 0) = true := rfl
  have e4 : (1 : Int) % 18446744073709551616 = 1 := by omega
  have e5 : (1 : Int) * 2 = 2 := rfl
  have hl8 := Hp_lt h8
  have hl11 := Hp_lt h11
  have h32 : (List.replicate 32 (0 : UInt8)).length = 32 := by simp
  simp (maxSteps := 2000000) (disch := first | exact dT_ | fail) only [e4, e5, h8, hn, ext_bc0 hn, p_add, p_neq, Ln_cells, Hp_drew, Branch_bool, Nat.zero_add, List.size_toArray, Nat.reduceLeDiff, if_pos, Bool.not_true, true_and, Bool.false_eq_true, false_implies, forall_const, bc_length, u64w, wr_in, p_shli, decide_true, Int.reduceToNat, Int.reducePow, slA25, cv3_69, ld49]
  unfold F30x5
  obtain ⟨t, ht⟩ : ∃ t, t = nodeL name ((2 + q : Nat) : Int) 0x82 k := ⟨_, rfl⟩
  rw [← ht] at hK
  have htl : t.length = 32 := by rw [ht]; exact nodeL_length _ _ _ _
  have er : (2 : Int) + (q : Int) = ((2 + q : Nat) : Int) := by omega
  have hT : ∀ {w' : World} {p : Nat}, Ext (fun b => sz W ≤ b) W w' → sz W ≤ p → Hp w' p = some (.cells (bc (List.replicate 32 0)).toArray 25 (0, 0)) →
      Run Try.prog (Instr.storeAt 25 (ptr p 0) (idv t)) w' fun _ w17 => LoopF 2 [(i64 (2 + (q : Int))), (Value.int .i64 0)] w17 fun v13_2 v15_2 w19 k2 => ∀ _ : Env, F30x4 v13_2 v15_2 (.slice (some ⟨Bs, os, none⟩) 4332 cs) (ptr p8 0) w19 (ptr p 0) k2 (.slice (some ⟨Bp, op, none⟩) 56 cp) K := by
    intro w' p hx hp0 h14
    have hl14 := Hp_lt h14
    have s1 : splice (bc (List.replicate 32 0)).toArray 0 (bc t).toArray = (bc t).toArray := splice_bc_all (by rw [h32, htl])
    simp (maxSteps := 2000000) (disch := first | exact dT_ | fail) only [h14, h32, htl, s1, St_cells, cells_agg, Nat.zero_add, List.size_toArray, Nat.reduceLeDiff, if_pos, and_self, forall_const, bc_length, st25]
    have hxp : Ext (fun b => sz W ≤ b) W (put w' p (.cells (bc t).toArray 25 (0, 0))) := hx.put _ _ fun _ => hp0
    refine up6 hn htl hside htop q hq (hxp.at h8 (by omega)) (Hp_put_same _ _ _ hl14) (by omega) (hs.ext hxp fun b hb _ h => by omega) hcs hsd (hp.ext hxp fun b hb _ h => by omega) hcp hpd (hQ p hp0) ?_
    intro W' hx'
    exact hK W' (hxp.trans2 (M := fun _ => False) hx' (fun b hb h => by omega) fun b hb h => by omega)
  rw [er]
  refine ⟨?_, ?_⟩
  · refine CallF_by Try.call49 (node6_spec hn (BIn.arr (n := 32) (cap := 32) ((Hp_drew _ _).trans h11) hk) (by omega) _ 0x82) ?_
    rintro _ w2 ⟨rfl, hx2⟩
    rw [← ht]
    have hx2' : Ext (fun b => sz W ≤ b) W w2 := ((Ext.refl _ _).drew).trans hx2 fun _ _ h => h.elim
    rw [al25, zc25, ← er]
    exact hT (hx2'.alloc _) hx2'.size (Hp_alloc_new _ _ _ rfl)
  · rw [al25, zc25]
    obtain ⟨w2, hw2⟩ : ∃ w2, w2 = W.drew.alloc (.cells (bc (List.replicate 32 0)).toArray 25 (0, 0)) := ⟨_, rfl⟩
    have hx2 : Ext (fun _ => False) W w2 := by rw [hw2]; exact ((Ext.refl _ _).drew).alloc _
    have h10 : Hp w2 (sz W) = some (.cells (bc (List.replicate 32 0)).toArray 25 (0, 0)) := by rw [hw2]; exact Hp_alloc_new _ _ _ rfl
    show (QRun Try.prog (Instr.loadAt 49 (ptr p8 0)) (W.drew.alloc _) _) ∧ CallF Try.prog 49 _ (W.drew.alloc _) _
    rw [← hw2]
    refine ⟨rgLd (hx2.at h8 not_false) hn rfl, ?_⟩
    refine CallF_by Try.call49 (node6_spec hn (BIn.arr (n := 32) (cap := 32) (hx2.at h11 not_false) hk) (by omega) _ 0x82) ?_
    rintro _ w3 ⟨rfl, hx3⟩
    rw [← ht, ← er]
    exact hT ((hx2.mono fun _ _ h => h.elim).trans hx3 fun _ _ h => h.elim) (Nat.le_refl _) (hx3.at h10 not_false)
end
end Go.Proofs
namespace Go.Proofs
open Go Go.Lf
set_option maxRecDepth 20000
set_option maxHeartbeats 2000000
set_option linter.unusedSimpArgs false
set_option linter.unusedVariables false
/-- a slice's bytes, and that more lies behind -/
theorem check6_spec {w : World} {Bp op cp Bs os cs : Nat} {pub sig name top osig side msg : List UInt8} {mv : Value} {Qp Qs Qm : Nat → Prop} {q : Nat} (hn : name.length = 16) (htop : top.length = 32) (hside : side.length = 32) (ho : osig.length = 4292) (ho4 : osig.take 4 = four 2) (hq : q ≤ 1)
    (hpub : pub = four 1 ++ four 2 ++ name ++ top) (hsig : sig = four q ++ osig ++ four 1 ++ side)
    (hp : BIn w (.slice (some ⟨Bp, op, none⟩) 56 cp) pub Qp) (hcp : 56 ≤ cp) (hs : BIn w (.slice (some ⟨Bs, os, none⟩) 4332 cs) sig Qs) (hcs : 4332 ≤ cs) (hQp : ∀ b, Qp b → b < sz w) (hQs : ∀ b, Qs b → b < sz w) (hm : BIn w mv msg Qm) (hml : msg.length ≤ 100000) :
    Calls Try.prog 30 #[.slice (some ⟨Bp, op, none⟩) 56 cp, mv, .slice (some ⟨Bs, os, none⟩) 4332 cs] w (retK fun v w' => v = i64 (if rootL name q msg osig side = top then 0 else 12) ∧ Ext (fun _ => False) w w') := by
  refine F30_ok _ _ _ _ _ ?_
  unfold F30
  obtain ⟨hpl, p1, p2, p3, p4⟩ := pub_facts hpub hn htop
  obtain ⟨hsl, s1, s2, s3, s4⟩ := sig_facts hq hsig ho hside
  have d56 : decide (((56 : Nat) : Int) = 56) = true := by decide
  simp (maxSteps := 2000000) (disch := first | exact dT_ | fail) only [d56, p_neq, Branch_bool, Bool.not_true, true_and, Bool.false_eq_true, false_implies, forall_const, len30]
  unfold F30x10
  refine CallF_by Try.call47 (get6_spec hp (by omega)) ?_
  rintro _ w1 ⟨rfl, hx1⟩
  rw [p1]
  have a1 : ¬ ((1 : Nat) : Int) < 1 := by omega
  have a2 : ¬ ((1 : Nat) : Int) > 5 := by omega
  have hcp4 : 4 < cp := by omega
  simp (maxSteps := 2000000) (disch := first | exact dT_ | fail) only [a1, a2, Pick_bool, cond_false, p_lss, p_gtr, Gdn_true, GdEn_true, Nat.reduceSub, cutAt_some, Nat.mul_one, decide_false, Int.reduceToNat, slL30]
  have hp4 : BIn w1 (.slice (some ⟨Bp, op + 4, none⟩) 52 (cp - 4)) ((pub.drop 4).take 52) Qp := (BIn.part hp 4 52 (cp - 4) (by omega)).ext hx1 fun _ _ _ => not_false
  refine CallF_by Try.call47 (get6_spec hp4 (by rw [List.length_take, List.length_drop]; omega)) ?_
  rintro _ w2 ⟨rfl, hx2⟩
  rw [p2]
  have d2 : decide (((2 : Nat) : Int) = 2) = true := by decide
  have hcs1 : 4296 < cs := by omega
  have hcs2 : 4 < cs := by omega
  simp (maxSteps := 2000000) (disch := first | exact dT_ | fail) only [d2, p_neq, Branch_bool, Bool.not_true, true_and, Bool.false_eq_true, false_implies, forall_const]
  unfold F30x9
  have c0 : (4300 : Int) + 32 * ((1 : Nat) : Int) = 4332 := rfl
  have d3 : decide (((4332 : Nat) : Int) = 4332) = true := by decide
  simp (maxSteps := 2000000) (disch := first | exact dT_ | fail) only [c0, d3, Pick_bool, cond_false, p_add, p_mul, p_neq, cells_agg, Gdn_true, GdEn_true, Bool.not_true, forall_const, Nat.reduceSub, cutAt_some, wr_in, Nat.mul_one, Int.reduceToNat, slL30, len30, al49, zv49]
  have hx02 := hx1.trans hx2 fun _ _ h => h
  have hsA : BIn w2 (.slice (some ⟨Bs, os + 4296, none⟩) 36 (cs - 4296)) ((sig.drop 4296).take 36) Qs := (BIn.part hs 4296 36 (cs - 4296) (by omega)).ext hx02 fun _ _ _ => not_false
  refine CallF_by Try.call47 (get6_spec hsA (by rw [List.length_take, List.length_drop]; omega)) ?_
  rintro _ w3 ⟨rfl, hx3⟩
  rw [s2]
  have d4 : decide (((1 : Nat) : Int) = ((1 : Nat) : Int)) = true := by decide
  simp (maxSteps := 2000000) (disch := first | exact dT_ | fail) only [Pick_bool, cond_false, p_neq, Gdn_true, GdEn_true, Bool.not_true, u64w, wr_in, p_shli, decide_true, cv3_69]
  have hx03 := hx02.trans hx3 fun _ _ h => h
  refine CallF_by Try.call47 (get6_spec (hs.ext hx03 fun _ _ _ => not_false) (by omega)) ?_
  rintro _ w4 ⟨rfl, hx4⟩
  rw [s1]
  have hx04 := hx03.trans hx4 fun _ _ h => h
  have e4 : ((1 : Nat) : Int) % 18446744073709551616 = 1 := by omega
  have e5 : (1 : Int) * 2 = 2 := rfl
  have e6 : ¬ (q : Int) ≥ 2 := by omega
  simp (maxSteps := 2000000) (disch := first | exact dT_ | fail) only [e4, e5, e6, p_geq, Branch_bool, true_and, Bool.false_eq_true, false_implies, forall_const, decide_false, Int.reduceToNat, Int.reducePow]
  have h16 : (List.replicate 16 (0 : UInt8)).length = 16 := by simp
  obtain ⟨w5, hw5⟩ : ∃ w5, w5 = w4.alloc (Obj.cells (bc (List.replicate 16 0)).toArray 49) := ⟨_, rfl⟩
  have hx5 : Ext (fun _ => False) w4 w5 := by rw [hw5]; exact (Ext.refl _ _).alloc _
  have h85 : Hp w5 (sz w4) = some (Obj.cells (bc (List.replicate 16 0)).toArray 49) := by rw [hw5]; (first | exact hpt_ | fail)
  rw [← hw5]
  clear hw5
  have hx05 := hx04.trans hx5 fun _ _ h => h
  have hs4 := hx04.size
  obtain ⟨-, hqp, row, U, fr, hrow, hcg⟩ := BIn.row hp
  have hlr := Hp_lt hrow
  obtain ⟨J, hJ⟩ : ∃ J : Value → World → Prop, J = fun v w' => ∃ (i : Nat) (N : List UInt8), i ≤ 16 ∧ v = i64 (i : Int) ∧ N.length = 16 ∧ N.take i = name.take i ∧ Ext (fun b => b = sz w4) w5 w' ∧ Hp w' (sz w4) = some (Obj.cells (bc N).toArray 49) := ⟨_, rfl⟩
  refine Loop1 J (fun v _ => 16 - (match v with | .int _ n => n.toNat | _ => 0)) (by rw [hJ]; exact ⟨0, _, by omega, rfl, h16, rfl, Ext.refl _ _, h85⟩) ?_
  intro v w6 hj
  rw [hJ] at hj
  obtain ⟨i, N, hi, rfl, hNl, hNt, hx6, h86⟩ := hj
  have hl86 := Hp_lt h86
  have hx06 : Ext (fun b => sz w4 ≤ b) w w6 := (hx05.mono fun _ _ h => h.elim).trans hx6 fun b _ e => by omega
  have hr6 := hx06.at hrow (by omega)
  unfold F30x8
  by_cases hlt : i < 16
  · have hlt' : (i : Int) < 16 := by omega
    have n1 : ((8 : Int) + (i : Int)).toNat = 8 + i := by omega
    have hg := hcg (8 + i) (by omega)
    simp (maxSteps := 2000000) (disch := first | exact dT_ | fail) only [hlt', n1, hr6, hg, h86, hNl, p_add, p_lss, L1_cells, St_cells, Hp_drew, cells_int, Branch_bool, Option.elim_some, Nat.zero_add, List.size_toArray, List.length_cons, List.length_nil, Nat.reduceLeDiff, if_pos, and_true, true_and, Bool.true_eq_false, false_implies, forall_const, splice_lit, bc_length, Nat.reduceSub, cutAt_some, wr_in, Int.toNat_natCast, Nat.mul_one, decide_true, Int.reduceToNat, ix30, slLH30, ix49, ld5, ld49, st5]
    refine ⟨?_, by omega⟩
    rw [hJ, set_bc]
    refine ⟨i + 1, N.set i (pub.getD (8 + i) 0), by omega, by congr 1, by rw [List.length_set]; exact hNl, ?_, hx6.put _ _ fun _ => rfl, Hp_put_same _ _ _ hl86⟩
    rw [take_set_nextB _ _ _ (by omega), hNt, take_nextB _ _ (by omega), part_getD p4 i hlt]
  obtain rfl : i = 16 := by omega
  have hlt' : ¬ ((16 : Nat) : Int) < 16 := by omega
  obtain rfl := take_eq_of _ _ 16 hNl hn hNt
  simp (maxSteps := 2000000) (disch := first | exact dT_ | fail) only [hlt', p_add, p_lss, Hp_drew, Branch_bool, true_and, Bool.false_eq_true, false_implies, forall_const, Nat.sub_self, Nat.reduceSub, cutAt_some, wr_in, Int.toNat_natCast, Nat.mul_one, decide_false, Int.reduceToNat, ix30, slLH30, ld5, ld49]
  clear hJ J
  refine CallF_by Try.call47 (get6_spec (hs.ext hx06 fun b hb _ h => by omega) (by omega)) ?_
  rintro _ w7 ⟨rfl, hx7⟩
  rw [s1]
  have h87 := hx7.at h86 not_false
  have hx07 : Ext (fun b => sz w4 ≤ b) w w7 := hx06.trans hx7 fun _ _ h => h.elim
  have hs7 := hx07.size
  simp (maxSteps := 2000000) (disch := first | exact dT_ | fail) only [h87, hNl, ext_bc0 hNl, Ln_cells, Nat.zero_add, List.size_toArray, Nat.reduceLeDiff, if_pos, bc_length]
  have hlt8 := Hp_lt h87
  have h32 : (List.replicate 32 (0 : UInt8)).length = 32 := by simp
  obtain ⟨k, hk⟩ : ∃ k, k = backL N q msg osig := ⟨_, rfl⟩
  have hkl : k.length = 32 := by rw [hk]; exact sha_length _
  have hroot : rootL N q msg osig side = upL N q (nodeL N ((2 + q : Nat) : Int) 0x82 k) side := by rw [hk]; rfl
  rw [hroot]
  have hT : ∀ {w' : World} {p : Nat}, Ext (fun b => sz w7 ≤ b) w7 w' → sz w7 ≤ p → Hp w' p = some (.cells (bc (List.replicate 32 0)).toArray 25 (0, 0)) →
      Run Try.prog (Instr.storeAt 25 (ptr p 0) (idv k)) w' fun _ w12 => F30x6 (i64 0) (fun v w' => v = i64 (if upL N q (nodeL N ((2 + q : Nat) : Int) 0x82 k) side = top then 0 else 12) ∧ Ext (fun _ => False) w w') w12 (i64 ((1 : Nat) : Int)) (i64 (q : Int)) (ptr (sz w4) 0) (ptr p 0) (.slice (some ⟨Bs, os, none⟩) 4332 cs) (.slice (some ⟨Bp, op, none⟩) 56 cp) := by
    intro w' p hx hp0 h11
    have hl11 := Hp_lt h11
    have s5 : splice (bc (List.replicate 32 0)).toArray 0 (bc k).toArray = (bc k).toArray := splice_bc_all (by rw [h32, hkl])
    simp (maxSteps := 2000000) (disch := first | exact dT_ | fail) only [h11, h32, hkl, s5, St_cells, cells_agg, Nat.zero_add, List.size_toArray, Nat.reduceLeDiff, if_pos, and_self, bc_length, st25]
    have hxp : Ext (fun b => sz w7 ≤ b) w7 (put w' p (.cells (bc k).toArray 25 (0, 0))) := hx.put _ _ fun _ => hp0
    have hxw : Ext (fun b => sz w4 ≤ b) w (put w' p (.cells (bc k).toArray 25 (0, 0))) := hx07.trans hxp fun b _ h => by omega
    refine mid6 hNl htop hside hq (hxp.at h87 (by omega)) k hkl (Hp_put_same _ _ _ hl11) (hs.ext hxw fun b hb _ h => by omega) hcs s4 (hp.ext hxw fun b hb _ h => by omega) hcp p3 (fun b hb => ?_) ?_
    · have hz := hxw.size
      exact ⟨fun h => by have := hQs b h; omega, fun h => by have := hQp b h; omega⟩
    · intro W' hx'
      refine ⟨rfl, ?_⟩
      exact (hxw.trans hx' fun _ _ h => h.elim).mono fun b hb h => by omega
  have hbk : ∀ {w' : World}, Ext (fun b => sz w4 ≤ b) w w' → Calls Try.prog 48 #[idv N, i64 (q : Int), mv, .slice (some ⟨Bs, os + 4, none⟩) 4292 (cs - 4)] w' (retK fun v w'' => v = .tuple #[idv k, i64 0] ∧ Ext (fun _ => False) w' w'') := fun hx => by
    have h := BIn.part hs 4 4292 (cs - 4) (by omega)
    rw [s3] at h
    rw [hk]
    exact back5_spec hNl (h.ext hx fun b hb _ h => by omega) (by omega) ho4 (hm.ext hx fun b hb _ h => by omega) hml q
  unfold F30x7
  refine ⟨?_, ?_⟩
  · refine CallF_by Try.call48 (hbk hx07.drew) ?_
    rintro _ w10 ⟨rfl, hx10⟩
    have hx10' : Ext (fun b => sz w7 ≤ b) w7 w10 := ((Ext.refl _ _).drew).trans hx10 fun _ _ h => h.elim
    simp only [p_extract0, p_extract1]
    rw [al25, zc25]
    exact hT (hx10'.alloc _) hx10'.size (Hp_alloc_new _ _ _ rfl)
  · rw [al25, zc25]
    obtain ⟨w10, hw10⟩ : ∃ w10, w10 = w7.drew.alloc (.cells (bc (List.replicate 32 0)).toArray 25 (0, 0)) := ⟨_, rfl⟩
    have hx10 : Ext (fun _ => False) w7 w10 := by rw [hw10]; exact ((Ext.refl _ _).drew).alloc _
    have h10 : Hp w10 (sz w7) = some (.cells (bc (List.replicate 32 0)).toArray 25 (0, 0)) := by rw [hw10]; exact Hp_alloc_new _ _ _ rfl
    show (QRun Try.prog (Instr.loadAt 49 (ptr (sz w4) 0)) (w7.drew.alloc _) _) ∧ CallF Try.prog 48 _ (w7.drew.alloc _) _
    rw [← hw10]
    refine ⟨rgLd (hx10.at h87 not_false) hNl rfl, ?_⟩
    refine CallF_by Try.call48 (hbk (hx07.trans hx10 fun _ _ h => h.elim)) ?_
    rintro _ w11 ⟨rfl, hx11⟩
    simp only [p_extract0, p_extract1]
    exact hT ((hx10.mono fun _ _ h => h.elim).trans hx11 fun _ _ h => h.elim) (Nat.le_refl _) (hx11.at h10 not_false)
end Go.Proofs
namespace Go.Proofs
open Go Go.Lf
set_option maxRecDepth 20000
set_option maxHeartbeats 2000000
set_option linter.unusedSimpArgs false
set_option linter.unusedVariables false
/-- a key's cells -/
def kc (name : List UInt8) (q : Int) : List Value := bc name ++ [i64 q]
theorem kc_length {name : List UInt8} (hn : name.length = 16) (q : Int) : (kc name q).length = 17 := by simp [kc, bc_length, hn]
theorem kc_size {name : List UInt8} (hn : name.length = 16) (q : Int) : (kc name q).toArray.size = 17 := by rw [List.size_toArray, kc_length hn]
theorem kc_q {name : List UInt8} (hn : name.length = 16) (q : Int) : (kc name q)[16]? = some (i64 q) := by
  unfold kc; rw [List.getElem?_append_right (by rw [bc_length]; omega), bc_length, hn]; rfl
theorem kc_one (name : List UInt8) (q : Int) : allOne (kc name q).toArray := by
  intro v hv
  have hv' : v ∈ kc name q := by simpa using hv
  rcases List.mem_append.1 hv' with h | h
  · exact bc_one _ v h
  · rw [List.mem_singleton.1 h]; trivial
theorem ext_kc {name : List UInt8} (hn : name.length = 16) (q : Int) : ((kc name q).toArray).extract 0 17 = (kc name q).toArray := by
  have e : 17 = (kc name q).toArray.size := (kc_size hn q).symm
  rw [e]; exact Array.extract_size
theorem kc_name {w : World} {name : List UInt8} (hn : name.length = 16) {q : Int} {p U cap : Nat} (h : Hp w p = some (.cells (kc name q).toArray U (0, 0))) : BIn w (.slice (some ⟨p, 0, none⟩) 16 cap) name (fun b => b = p) := by
  refine .inr ⟨p, 0, cap, _, U, (0, 0), by rw [hn], h, fun j hj => ?_, rfl⟩
  rw [Nat.zero_add, List.getElem?_toArray]; unfold kc
  rw [List.getElem?_append_left (by rw [bc_length]; exact hj)]
theorem phead_spec {w : World} {name : List UInt8} (hn : name.length = 16) (q mark : Int) : Calls Try.prog 71 #[.agg (kc name q).toArray, i64 mark] w (retK fun v' w' => Bytes 5 w' v' (headL name q ++ two mark) (fun b => sz w ≤ b) ∧ Ext (fun _ => False) w w') := by
  refine F71_ok _ _ _ _ ?_
  unfold F71
  have hb : IntKind.i64.bits = 64 := rfl
  simp (maxSteps := 2000000) (disch := first | exact dT_ | fail) only [r_box, sz_alloc, cells_agg, Nat.zero_add, Nat.add_zero, u8b, p_shri, Int.reduceToNat, Int.reducePow, slA49, fld96_0, fld96_1, cv3_5, ld3, mk30]
  obtain ⟨w1, hw1⟩ : ∃ w1, w1 = w.alloc (Obj.cells (kc name q).toArray 96) := ⟨_, rfl⟩
  have hx1 : Ext (fun _ => False) w w1 := by rw [hw1]; exact (Ext.refl _ _).alloc _
  have h1 : Hp w1 (sz w) = some (Obj.cells (kc name q).toArray 96) := by rw [hw1]; (first | exact hpt_ | fail)
  have hs1 : sz w1 = sz w + 1 := by rw [hw1]; (first | exact szT_ | fail)
  rw [← hs1, ← hw1]
  clear hw1
  have hxn : Ext (fun _ => False) w1 (w1.alloc (Obj.cells (bc (List.replicate 4292 0)).toArray 5)) := (Ext.refl _ _).alloc _
  have h0 : BOwn 5 (w1.alloc (Obj.cells (bc (List.replicate 4292 0)).toArray 5)) (.slice (some ⟨sz w1, 0, none⟩) 0 4292) [] (sz w1) := BOwn.fresh (l := []) (bc (List.replicate 4292 0)) rfl rfl (by rw [bc_length, List.length_replicate]; decide) (Nat.zero_le _) (Nat.le_refl _)
  refine apQ _ (Q := fun b => sz w1 ≤ b) h0 (kc_name hn (hxn.at h1 not_false)).of (fun b hb => by rw [sz_alloc] at hb; omega) (by rw [hn]; decide) ?_
  intro v7 w3 hv hx3
  rw [List.nil_append] at hv
  have hx13 : Ext (fun b => sz w1 ≤ b) w1 w3 := (hxn.mono fun _ _ h => h.elim).trans hx3 fun _ _ h => h
  have hs3 := hx13.size
  have h13 := hx13.at h1 (by omega)
  have hq := kc_q hn q
  have hb6 : ∀ (a b c d e f : UInt8) (w : World) (K : Value → World → Prop), Run Try.prog (Instr.buildSlice 30 6 #[(0, u8v a), (1, u8v b), (2, u8v c), (3, u8v d), (4, u8v e), (5, u8v f)]) w K = K (.slice (some ⟨sz w, 0, none⟩) 6 6) (w.alloc (.cells (bc [a, b, c, d, e, f]).toArray 5)) := bsU6
  simp (maxSteps := 2000000) (disch := first | exact dT_ | fail) only [h13, hq, hb6, L1_cells, List.getElem?_toArray, Option.elim_some, u8b, p_shri, Int.reduceToNat, Int.reducePow, cv3_5]
  refine apLQ _ (l' := four q ++ two mark) hv rfl rfl (fun b hb => by omega) (by rw [hn]; simp [four_length, two_length]) ?_
  intro v8 w5 hv5 hx5
  refine ⟨?_, ?_⟩
  · have e : headL name q ++ two mark = name ++ (four q ++ two mark) := by unfold headL; rw [List.append_assoc]
    rw [e]
    exact Vec.mono hv5 fun b _ h => by omega
  · exact hx1.trans (hx13.trans hx5 fun _ _ h => h) fun b hb h => by omega
end Go.Proofs
