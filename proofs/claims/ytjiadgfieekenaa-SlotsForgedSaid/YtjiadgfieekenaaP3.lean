/- Parts of the proof: S.P41, S.P42, S.P43, S.P44, S.P45, S.P46, S.P47, S.P48, S.P49, S.P50. -/
import Derived.Test.YtjiadgfieekenaaL2
import Derived.Test.YtjiadgfieekenaaP2
import Derived.Test.YtjiadgfieekenaaF5
import Derived.Test.YtjiadgfieekenaaL1
set_option linter.unusedVariables false
set_option linter.unusedSimpArgs false
set_option linter.unusedSectionVars false
namespace Go.Proofs
open Go Go.Lf
set_option maxRecDepth 20000
set_option maxHeartbeats 2000000
set_option linter.unusedSimpArgs false
set_option linter.unusedVariables false
theorem ldI_Ln {w : World} {p : Nat} {a : List UInt8} (h : Hp w p = some (.cells (bc a).toArray 25)) (ha : a.length = 32) (K : Value → Prop) :
    Ln Try.prog 25 32 w p 0 (Hp w p) K = K (idv a) := by
  rw [h, Ln_cells, bc_size, if_pos (by omega), Nat.zero_add, ext_bc0 ha]
theorem ldN_Ln {w : World} {p : Nat} {a : List UInt8} (h : Hp w p = some (.cells (bc a).toArray 49)) (ha : a.length = 16) (K : Value → Prop) :
    Ln Try.prog 49 16 w p 0 (Hp w p) K = K (idv a) := by
  rw [h, Ln_cells, bc_size, if_pos (by omega), Nat.zero_add, ext_bc0 ha]
theorem pcheck_spec {w : World} {Bp op cp Bs os cs : Nat} {pub sig name top osig side msg : List UInt8} {mv : Value} {Qp Qs Qm : Nat → Prop} {q : Nat} (hn : name.length = 16) (htop : top.length = 32) (hside : side.length = 32) (ho : osig.length = 4292) (ho4 : osig.take 4 = four 2) (hq : q ≤ 1)
    (hpub : pub = four 1 ++ four 2 ++ name ++ top) (hsig : sig = four q ++ osig ++ four 1 ++ side)
    (hp : BIn w (.slice (some ⟨Bp, op, none⟩) 56 cp) pub Qp) (hcp : 56 ≤ cp) (hs : BIn w (.slice (some ⟨Bs, os, none⟩) 4332 cs) sig Qs) (hcs : 4332 ≤ cs) (hQp : ∀ b, Qp b → b < sz w) (hQs : ∀ b, Qs b → b < sz w) (hm : BIn w mv msg Qm) (hml : msg.length ≤ 100000) :
    Calls Try.prog 19 #[.slice (some ⟨Bp, op, none⟩) 56 cp, mv, .slice (some ⟨Bs, os, none⟩) 4332 cs] w (retK fun v w' => v = i64 (if rootL name q msg osig side = top then 0 else 12) ∧ Ext (fun _ => False) w w') := by
  refine F19_ok _ _ _ _ _ ?_
  unfold F19
  obtain ⟨hpl, p1, p2, p3, p4⟩ := pub_facts hpub hn htop
  obtain ⟨hsl, s1, s2, s3, s4⟩ := sig_facts hq hsig ho hside
  have d56 : decide (((56 : Nat) : Int) = 56) = true := by decide
  simp (maxSteps := 2000000) (disch := first | exact dT_ | fail) only [d56, Pick_bool, cond_false, p_neq, Gdn_true, GdEn_true, Bool.not_true, len30]
  refine CallF_by Try.call36 (number_spec hp (by omega)) ?_
  rintro _ w1 ⟨rfl, hx1⟩
  rw [p1]
  have a1 : ¬ ((1 : Nat) : Int) < 1 := by omega
  have a2 : ¬ (5 : Int) < ((1 : Nat) : Int) := by omega
  have hcp4 : 4 < cp := by omega
  simp (maxSteps := 2000000) (disch := first | exact dT_ | fail) only [a1, Pick_bool, cond_false, p_lss, Gdn_true, GdEn_true, decide_false]
  refine CallF_by Try.call36 (number_spec (hp.ext hx1 fun _ _ _ => not_false) (by omega)) ?_
  rintro _ w2 ⟨rfl, hx2⟩
  have hx02 := hx1.trans hx2 fun _ _ h => h
  rw [p1]
  simp (maxSteps := 2000000) (disch := first | exact dT_ | fail) only [a2, Pick_bool, cond_false, p_gtr, Gdn_true, GdEn_true, Nat.reduceSub, cutAt_some, Nat.mul_one, decide_false, Int.reduceToNat, slL30]
  have hp4 : BIn w2 (.slice (some ⟨Bp, op + 4, none⟩) 52 (cp - 4)) ((pub.drop 4).take 52) Qp := (BIn.part hp 4 52 (cp - 4) (by omega)).ext hx02 fun _ _ _ => not_false
  refine CallF_by Try.call36 (number_spec hp4 (by rw [List.length_take, List.length_drop]; omega)) ?_
  rintro _ w3 ⟨rfl, hx3⟩
  have hx03 := hx02.trans hx3 fun _ _ h => h
  rw [p2]
  have d2 : decide (((2 : Nat) : Int) = 2) = true := by decide
  simp (maxSteps := 2000000) (disch := first | exact dT_ | fail) only [d2, p_neq, Branch_bool, Bool.not_true, true_and, Bool.false_eq_true, false_implies, forall_const]
  unfold F19x5
  refine CallF_by Try.call36 (number_spec (hp.ext hx03 fun _ _ _ => not_false) (by omega)) ?_
  rintro _ w4 ⟨rfl, hx4⟩
  have hx04 := hx03.trans hx4 fun _ _ h => h
  rw [p1]
  have hcs1 : 4296 < cs := by omega
  have hcs2 : 4 < cs := by omega
  have c0 : (4300 : Int) + 32 * ((1 : Nat) : Int) = 4332 := rfl
  have d3 : decide (((4332 : Nat) : Int) = 4332) = true := by decide
  simp (maxSteps := 2000000) (disch := first | exact dT_ | fail) only [c0, d3, Pick_bool, cond_false, p_add, p_mul, p_neq, Hp_drew, cells_agg, Gdn_true, GdEn_true, Bool.not_true, Nat.reduceSub, cutAt_some, wr_in, Nat.mul_one, Int.reduceToNat, slLH30, slL30, len30, slA49, ld49, al49, zv49]
  have hx04d := hx04.drew
  have hsA : BIn w4.drew (.slice (some ⟨Bs, os + 4296, none⟩) 36 (cs - 4296)) ((sig.drop 4296).take 36) Qs := (BIn.part hs 4296 36 (cs - 4296) (by omega)).ext hx04d fun _ _ _ => not_false
  refine CallF_by Try.call36 (number_spec hsA (by rw [List.length_take, List.length_drop]; omega)) ?_
  rintro _ w5 ⟨rfl, hx5⟩
  have hx05 := hx04d.trans hx5 fun _ _ h => h
  rw [s2]
  have d4 : decide (((1 : Nat) : Int) = ((1 : Nat) : Int)) = true := by decide
  simp (maxSteps := 2000000) (disch := first | exact dT_ | fail) only [Pick_bool, cond_false, p_neq, Gdn_true, GdEn_true, Bool.not_true, wr_in, Int.toNat_natCast, p_shli, decide_true, Int.reducePow]
  refine CallF_by Try.call36 (number_spec (hs.ext hx05 fun _ _ _ => not_false) (by omega)) ?_
  rintro _ w6 ⟨rfl, hx6⟩
  have hx06 := hx05.trans hx6 fun _ _ h => h
  have hs6 := hx06.size
  rw [s1]
  have e1 : ((1 : Nat) : Int).toNat = 1 := rfl
  have e5 : (1 : Int) * 2 = 2 := rfl
  have e6 : ¬ (2 : Int) ≤ (q : Int) := by omega
  simp (maxSteps := 2000000) (disch := first | exact dT_ | fail) only [e5, e6, p_geq, Branch_bool, true_and, Bool.false_eq_true, false_implies, forall_const, decide_false]
  have h16 : (List.replicate 16 (0 : UInt8)).length = 16 := by simp
  obtain ⟨w7, hw7⟩ : ∃ w7, w7 = (w6.alloc (Obj.cells (bc (List.replicate 16 0)).toArray 49)).drew := ⟨_, rfl⟩
  have hx7 : Ext (fun _ => False) w6 w7 := by rw [hw7]; exact ((Ext.refl _ _).alloc _).drew
  have h87 : Hp w7 (sz w6) = some (Obj.cells (bc (List.replicate 16 0)).toArray 49) := by rw [hw7]; (first | exact hpt_ | fail)
  rw [← hw7]
  clear hw7
  have hx07 := hx06.trans hx7 fun _ _ h => h
  have hb8 : BIn w7 (.slice (some ⟨Bp, op + 8, none⟩) 48 (cp - 8)) ((pub.drop 8).take 48) Qp := (BIn.part hp 8 48 (cp - 8) (by omega)).ext hx07 fun _ _ _ => not_false
  have en : ((pub.drop 8).take 48).take 16 = name := by rw [List.take_take, Nat.min_eq_left (by omega)]; exact p4
  rw [r_copy Try.runUnderlying30 Try.sizeOf5 3 h87 (by rw [bc_size, h16]; decide) hb8.of, en, splice_bc_all (by rw [h16, hn])]
  obtain ⟨w8, hw8⟩ : ∃ w8, w8 = put w7 (sz w6) (.cells (bc name).toArray 49) := ⟨_, rfl⟩
  have hx68 : Ext (fun _ => False) w6 w8 := by rw [hw8]; exact hx7.put _ _ fun h => by omega
  have h88 : Hp w8 (sz w6) = some (Obj.cells (bc name).toArray 49) := by rw [hw8]; exact Hp_put_same _ _ _ (Hp_lt h87)
  rw [← hw8]
  clear hw8
  have hx08 := hx06.trans hx68 fun _ _ h => h
  refine CallF_by Try.call36 (number_spec (hs.ext hx08 fun _ _ _ => not_false) (by omega)) ?_
  rintro _ w9' ⟨rfl, hx9⟩
  rw [s1]
  obtain ⟨w9, hw9⟩ : ∃ w9, w9 = w9'.drew := ⟨_, rfl⟩
  have hx89 : Ext (fun _ => False) w8 w9 := by rw [hw9]; exact hx9.drew
  have h89 := hx89.at h88 not_false
  have hx09 := hx08.trans hx89 fun _ _ h => h
  have hH : Hp w9' (sz w6) = Hp w9 (sz w6) := by rw [hw9]; rfl
  have hs9 := hx09.size
  have hlt8 := Hp_lt h89
  rw [← hw9, hH, h89, Ln_cells, bc_size, if_pos (by omega), Nat.zero_add, ext_bc0 hn]
  clear hw9 hH hx9
  obtain ⟨k, hk⟩ : ∃ k, k = backL name q msg osig := ⟨_, rfl⟩
  have hkl : k.length = 32 := by rw [hk]; exact sha_length _
  have hroot : rootL name q msg osig side = upL name q (nodeL name ((2 + q : Nat) : Int) 0x82 k) side := by rw [hk]; rfl
  rw [hroot]
  obtain ⟨t, ht⟩ : ∃ t, t = nodeL name ((2 + q : Nat) : Int) 0x82 k := ⟨_, rfl⟩
  have htl : t.length = 32 := by rw [ht]; exact nodeL_length _ _ _ _
  have hbk : ∀ {w' : World}, Ext (fun _ => False) w w' → Calls Try.prog 37 #[idv name, i64 (q : Int), mv, .slice (some ⟨Bs, os + 4, none⟩) 4292 (cs - 4)] w' (retK fun v w'' => v = .tuple #[idv k, i64 0] ∧ Ext (fun _ => False) w' w'') := fun hx => by
    have h := BIn.part hs 4 4292 (cs - 4) (by omega)
    rw [s3] at h
    rw [hk]
    exact pback_spec hn (h.ext hx fun b hb _ => not_false) (by omega) ho4 (hm.ext hx fun b hb _ => not_false) hml q
  have hT : ∀ {w' : World} {p : Nat}, Ext (fun _ => False) w w' → sz w ≤ p → p ≠ sz w6 → Hp w' (sz w6) = some (.cells (bc name).toArray 49) → Hp w' p = some (.cells (bc (List.replicate 32 0)).toArray 25 (0, 0)) →
      Run Try.prog (Instr.storeAt 25 (ptr p 0) (idv k)) w' fun _ w12 => F19x3 (i64 0) (fun v w' => v = i64 (if upL name q (nodeL name ((2 + q : Nat) : Int) 0x82 k) side = top then 0 else 12) ∧ Ext (fun _ => False) w w') w12 (i64 ((1 : Nat) : Int)) (i64 (q : Int)) (ptr (sz w6) 0) (ptr p 0) (.slice (some ⟨Bs, os, none⟩) 4332 cs) (.slice (some ⟨Bp, op, none⟩) 56 cp) := by
    intro w' p hx hp0 hpne h8 h10
    rw [stI h10 zero32 hkl]
    obtain ⟨w12, hw12⟩ : ∃ w12, w12 = put w' p (.cells (bc k).toArray 25) := ⟨_, rfl⟩
    have hx12 : Ext (fun _ => False) w w12 := by rw [hw12]; exact hx.put _ _ fun h => by omega
    have h10' : Hp w12 p = some (.cells (bc k).toArray 25) := by rw [hw12]; exact Hp_put_same _ _ _ (Hp_lt h10)
    have h8' : Hp w12 (sz w6) = some (.cells (bc name).toArray 49) := by rw [hw12, Hp_put_other _ _ _ _ (by omega)]; exact h8
    rw [← hw12]
    clear hw12
    unfold F19x3
    have d0 : decide ((0 : Int) = 0) = true := rfl
    have er : (2 : Int) + (q : Int) = ((2 + q : Nat) : Int) := by omega
    simp (maxSteps := 2000000) (disch := first | exact dT_ | fail) only [e1, e5, p_add, p_neq, cells_agg, Branch_bool, Bool.not_true, true_and, Bool.false_eq_true, false_implies, forall_const, Nat.reduceSub, cutAt_some, wr_in, Nat.mul_one, p_shli, decide_true, Int.reduceToNat, Int.reducePow, slL30, ld25, ld49, al25, zv25]
    rw [ldN_Ln h8' hn, ldI_Ln h10' hkl]
    have eb : Run Try.prog (Instr.buildSlice 72 1 #[(0, idv k)]) w12 = fun K => K (.slice (some ⟨sz w12, 0, none⟩) 1 1) (w12.alloc (.cells (bc k).toArray 25)) := by
      funext K
      have := r_buildSlice (z := 32) (zv := z25) Try.runUnderlying72 Try.sizeOf25 hz25 (by rw [zc25, bc_size, zero32]) [idv k] (by intro v hv; rw [List.mem_singleton.1 hv, idv_cells, bc_size, hkl]) (by simp) w12 K
      have e : (catC [idv k]).toArray = (bc k).toArray := by unfold catC; rw [List.flatMap_cons, List.flatMap_nil, List.append_nil, idv_cells]
      rw [e] at this
      exact this
    rw [eb]
    have hxb : Ext (fun _ => False) w12 (w12.alloc (.cells (bc k).toArray 25)) := (Ext.refl _ _).alloc _
    have hs12 := hx12.size
    rw [er]
    refine CallF_by Try.call38 (lnode_spec (n := 1) (L := k) hn _ 0x82 (by omega) (by omega) (Hp_alloc_new _ _ _ rfl) (fun j hj => by rw [Nat.zero_add, List.getElem?_toArray]) (by omega)) ?_
    rintro _ w16 ⟨rfl, hx16⟩
    have hx16' := hxb.trans hx16 fun _ _ h => h
    have hs16 := hx16'.size
    rw [← ht, stI (Hp_alloc_new _ _ _ rfl) zero32 htl, ← er]
    obtain ⟨w18, hw18⟩ : ∃ w18, w18 = put (w16.alloc (.cells (bc (List.replicate 32 0)).toArray 25)) (sz w16) (.cells (bc t).toArray 25) := ⟨_, rfl⟩
    have hx1218 : Ext (fun _ => False) w12 w18 := by rw [hw18]; exact (hx16'.alloc _).put _ _ fun h => by omega
    have h18 : Hp w18 (sz w16) = some (.cells (bc t).toArray 25) := by rw [hw18]; exact Hp_put_same _ _ _ (by rw [sz_alloc]; omega)
    rw [← hw18]
    clear hw18
    have hlt6 := Hp_lt h8'
    have hx018 := hx12.trans hx1218 fun _ _ h => h
    refine pup hn htl hside htop q hq (hx1218.at h8' not_false) h18 (by omega) (hs.ext hx018 fun _ _ _ => not_false) hcs s4 (hp.ext hx018 fun _ _ _ => not_false) hcp p3 ⟨fun h => by have := hQs _ h; omega, fun h => by have := hQp _ h; omega⟩ ?_
    intro W' hx'
    refine ⟨rfl, hx018.trans2 hx' (fun _ _ h => h) fun b hb h => by omega⟩
  unfold F19x4
  refine ⟨?_, ?_⟩
  · refine CallF_by Try.call37 (hbk hx09) ?_
    rintro _ w11 ⟨rfl, hx11⟩
    have hxz := hx09.trans hx11 fun _ _ h => h
    have hs11 := hx11.size
    have hxa : Ext (fun _ => False) w11 (w11.alloc (.cells (bc (List.replicate 32 0)).toArray 25)) := (Ext.refl _ _).alloc _
    simp only [p_extract0, p_extract1]
    rw [alI]
    exact hT (hxz.alloc _) (by omega) (by omega) (hxa.at (hx11.at h89 not_false) not_false) (Hp_alloc_new _ _ _ rfl)
  · rw [alI]
    have hxa : Ext (fun _ => False) w9 (w9.alloc (.cells (bc (List.replicate 32 0)).toArray 25)) := (Ext.refl _ _).alloc _
    refine ⟨rgLd (hxa.at h89 not_false) hn rfl, ?_⟩
    have hxz := hx09.trans hxa fun _ _ h => h
    refine CallF_by Try.call37 (hbk hxz) ?_
    rintro _ w11 ⟨rfl, hx11⟩
    simp only [p_extract0, p_extract1]
    exact hT (hxz.trans hx11 fun _ _ h => h) (by omega) (by omega) (hx11.at (hxa.at h89 not_false) not_false) (hx11.at (Hp_alloc_new _ _ _ rfl) not_false)
end Go.Proofs
namespace Go.Proofs
open Go Go.Lf
set_option maxRecDepth 20000
set_option maxHeartbeats 2000000
set_option linter.unusedSimpArgs false
set_option linter.unusedVariables false
section
variable {pub node sig : List UInt8} {ver : Int} (hp : pub.length = 56) (hn : node.length = 32) (hs : sig.length ≤ 5000) (hs1 : 1 ≤ sig.length) (hv0 : 1 ≤ ver) (hv1 : ver ≤ 2147483647)
include hp hn hs hv0 hv1
theorem root9_spec {w : World} {p s : Value} (hpb : BOf w p pub) (hsb : BOf w s sig) :
    Calls Try.prog 13 #[.agg (rootV p ver node s)] w (retK fun v w' => ∃ u, v = .tuple #[u, i64 0] ∧ Bytes 5 w' u (rootB pub ver node sig) (fun x => sz w ≤ x) ∧ Ext (fun _ => False) w w') := by
  refine F13_ok _ _ _ ?_
  obtain ⟨pa, pc, rfl⟩ : ∃ a c, p = .slice a 56 c := by
    rcases hpb with ⟨rfl, rfl⟩ | ⟨b, o, c, row, U, fr, rfl, -⟩
    · simp at hp
    · rw [hp]; exact ⟨_, _, rfl⟩
  obtain ⟨sa, sc, rfl⟩ : ∃ a c, s = .slice a sig.length c := by
    rcases hsb with ⟨rfl, rfl⟩ | ⟨b, o, c, row, U, fr, rfl, -⟩
    · exact ⟨_, _, rfl⟩
    · exact ⟨_, _, rfl⟩
  unfold F13
  rw [r_box, cells_agg]
  obtain ⟨w1, hw1⟩ : ∃ w1, w1 = w.alloc (.cells (rootV (.slice pa 56 pc) ver node (.slice sa sig.length sc)) 39) := ⟨_, rfl⟩
  have hx1 : Ext (fun _ => False) w w1 := by rw [hw1]; exact (Ext.refl _ _).alloc _
  have h1 : Hp w1 (sz w) = some (.cells (rootV (.slice pa 56 pc) ver node (.slice sa sig.length sc)) 39) := by rw [hw1]; (first | exact hpt_ | fail)
  have hs1' : sz w1 = sz w + 1 := by rw [hw1]; (first | exact szT_ | fail)
  rw [← hw1]
  clear hw1
  have r34 := rv_34 (p := .slice pa 56 pc) (ver := ver) (s := .slice sa sig.length sc) hn
  have g0 : decide (((56 : Nat) : Int) = 56) = true := by decide
  have g1 : ¬ ver < 1 := by omega
  have g2 : ¬ (2147483647 : Int) < ver := by omega
  have g3 : ¬ (5000 : Int) < (sig.length : Int) := by omega
  simp (maxSteps := 2000000) (disch := first | exact dT_ | fail) only [h1, rv_0, rv_1, r34, g0, g1, g2, g3, Pick_bool, cond_false, p_lss, p_gtr, p_neq, L1_cells, Branch_bool, Gdn_true, Option.elim_some, Nat.zero_add, Nat.add_zero, Bool.not_true, true_and, Bool.false_eq_true, false_implies, forall_const, decide_false, len30, fld39_0, fld39_1, fld39_3, ld3, ld30]
  unfold F13x1
  simp (maxSteps := 2000000) (disch := first | exact dT_ | fail) only [h1, rv_0, L1_cells, Hp_drew, Hp_alloc_old, Option.elim_some, Nat.zero_add, Nat.add_zero, slA25, fld39_0, fld39_1, fld39_2, fld39_3, ld3, ld30, bs30_1]
  obtain ⟨m, hm⟩ : ∃ m, m = sz w1 := ⟨_, rfl⟩
  have ec : (catC [Value.int .u8 114]).toArray = (bc [114]).toArray := rfl
  rw [ec]
  have hxn : Ext (fun b => m ≤ b) w1 (w1.alloc (.cells (bc [114]).toArray 5)) := (Ext.refl _ _).alloc _
  have hv0' : Bytes 5 (w1.alloc (.cells (bc [114]).toArray 5)) (.slice (some ⟨sz w1, 0, none⟩) 1 1) [114] (fun b => m ≤ b) := BOwn.fresh (l := [114]) [] rfl rfl (by simp) (Nat.le_refl _) (Nat.le_of_eq hm)
  refine apQ _ hv0' (BOf_ext (BOf_ext hpb hx1) ((Ext.refl _ _).alloc _)) (fun b hb => by rw [sz_alloc] at hb; omega) (by rw [hp]; decide) ?_
  intro v26 w3 hv3 hx3
  have hx13 := hxn.trans hx3 fun _ _ h => h
  have hs3 := hx13.size
  have h3 := hx13.at h1 (by omega)
  simp (maxSteps := 2000000) (disch := first | exact dT_ | fail) only [h3, rv_1, L1_cells, Option.elim_some]
  refine CallF_by Try.call31 (four9_spec (Vec.ext hv3 ((Ext.refl (fun _ => False) _).drew) fun _ _ _ => not_false) (fun b hb => by rw [sz_drew] at hb; omega) (by rw [List.length_append, hp]; decide) ver) ?_
  rintro v30 w4 ⟨hv4, hx4⟩
  have hx14 := (hx13.drew).trans hx4 fun _ _ h => h
  have hs4 := hx14.size
  have h4 := hx14.at h1 (by omega)
  have hnd : BOf w4 (.slice (some ⟨sz w, 2, none⟩) 32 32) node := by
    refine .inr ⟨sz w, 2, 32, _, _, _, by rw [hn], h4, fun j hj => ?_⟩
    rw [rv_get hn, if_neg (by omega), if_pos (by omega), show 2 + j - 2 = j by omega]
  refine apQ _ hv4 hnd (fun b hb => by omega) (by rw [List.length_append, List.length_append, hp, four_length, hn]; decide) ?_
  intro v33 w5 hv5 hx5
  have hx15 := hx14.trans hx5 fun _ _ h => h
  have hs5 := hx15.size
  have h5 := hx15.at h1 (by omega)
  have hb : IntKind.i64.bits = 64 := rfl
  simp (maxSteps := 2000000) (disch := first | exact dT_ | fail) only [h5, r34, bsU2, L1_cells, Option.elim_some, u8b, p_shri, Int.reduceToNat, Int.reducePow, len30, cv3_5]
  refine apLQ _ (l' := two sig.length) hv5 ?_ rfl (fun b hb => by omega) (by simp only [List.length_append, hp, four_length, hn, two_length]; decide) ?_
  · rfl
  intro v45 w7 hv7 hx7
  have hx17 := hx15.trans hx7 fun _ _ h => h
  have hs7 := hx17.size
  have h7 := hx17.at h1 (by omega)
  simp (maxSteps := 2000000) (disch := first | exact dT_ | fail) only [h7, r34, L1_cells, Option.elim_some]
  have hlt : ∀ b o c row U fr, Value.slice sa sig.length sc = .slice (some ⟨b, o, none⟩) sig.length c → Hp w b = some (.cells row U fr) → b < sz w := fun b _ _ _ _ _ _ h => Hp_lt h
  have hsb7 : BOf w7 (.slice sa sig.length sc) sig := by
    rcases hsb with ⟨e, h⟩ | ⟨b, o, c, row, U, fr, e, hrow, hcells⟩
    · exact .inl ⟨e, h⟩
    · exact .inr ⟨b, o, c, row, U, fr, e, hx17.at (hx1.at hrow not_false) (by have := Hp_lt hrow; omega), hcells⟩
  refine apQ _ hv7 hsb7 (fun b hb => by omega) (by simp only [List.length_append, hp, four_length, hn, two_length, List.length_cons, List.length_nil]; omega) ?_
  intro v49 w8 hv8 hx8
  refine ⟨v49, rfl, Vec.mono hv8 fun b _ hb => by omega, ?_⟩
  exact hx1.trans2 (hx17.trans hx8 fun _ _ h => h) (fun _ _ h => h) fun b hb h => by omega
end
end Go.Proofs
namespace Go.Proofs
open Go Go.Lf
set_option maxRecDepth 20000
set_option maxHeartbeats 2000000
set_option linter.unusedSimpArgs false
set_option linter.unusedVariables false
theorem rv_bld012 (a : Option Addr) (n c : Nat) (v : Int) {node : List UInt8} (hn : node.length = 32) (K : Value → Prop) : PRun Try.prog (Instr.build 39 #[(0, .slice a n c), (1, i64 v), (2, idv node)]) K = K (.agg (rootV (.slice a n c) v node (.slice none 0 0))) := by
  rw [bld39_0_1_2 _ _ _ rfl rfl (by rw [idv_cells, bc_size, hn])]
  show K (.agg (splice (splice (splice (rootV _ _ _ _) 0 _) 1 _) 2 _)) = _
  rw [cells_sl, cells_int, idv_cells, rv_put0 zero32, rv_put1 zero32, rv_putN zero32 hn]
theorem bs0 (w : World) (K : Value → World → Prop) : Run Try.prog (Instr.buildSlice 30 0 #[]) w K = K (.slice (some ⟨sz w, 0, none⟩) 0 0) (w.alloc (.cells #[] 5)) := by
  simp (maxSteps := 2000000) (disch := first | exact dT_ | fail) only [bs30_0]
section
variable {pub node sig : List UInt8} {ver : Int} (hp : pub.length = 56) (hn : node.length = 32) (hs : sig.length ≤ 5000) (hs1 : 1 ≤ sig.length) (hv0 : 1 ≤ ver) (hv1 : ver ≤ 2147483647)
include hp hn hs hs1 hv0 hv1
theorem parse9_x2 {w8 : World} {D : Value} {Q : Nat → Prop} {p2 p4 : Nat} {a : Option Addr} {c : Nat} {K : Value → World → Prop} (hD : Bytes 5 w8 D (rootB pub ver node sig) Q)
    (h4 : Hp w8 p4 = some (.cells (rootV (.slice a 56 c) ver node (.slice none 0 0)) 39)) (h2 : Hp w8 p2 = some (.cells (rootV (.slice none 0 0) 0 (List.replicate 32 0) (.slice none 0 0)) 39)) (h24 : p2 ≠ p4) (hQ : ∀ b, Q b → b ≠ p2 ∧ b ≠ p4)
    (hk : ∀ s w', Bytes 5 w' s sig (fun x => sz w8 ≤ x) → Ext (fun b => b = p2 ∨ b = p4) w8 w' → K (.tuple #[.agg (rootV (.slice a 56 c) ver node s), i64 0]) w') : F11x2 D w8 (ptr p4 0) (ptr p2 0) K := by
  have hbl := rootB_length (ver := ver) (sig := sig) hp hn
  rcases hD.2 with ⟨rfl, h0⟩ | ⟨B, o, cap, row, rfl, hc, hrow, hsz, hcells, hqb⟩
  · rw [hbl] at h0; omega
  have hcL := rootB_len (sig := sig) (ver := ver) hp hn
  have hcS := Bytes.cut hD 95 ((rootB pub ver node sig).length - 95) (cap - 95) (by omega)
  have hbS := rootB_sig (sig := sig) (ver := ver) hp hn
  rw [hbS, List.take_of_length_le (by omega)] at hcS
  have hb0 : row[o]? = some (u8v 114) := by
    have := hcells 0 (by omega)
    rw [Nat.add_zero] at this
    rw [this]; rfl
  have hg : ∀ j, j < 2 → row[o + (93 + j)]? = some (u8v ((two sig.length).getD j 0)) := fun j hj => by
    rw [hcells _ (by omega), bc_getL _ _ (by omega), ← hcL, List.getD_eq_getElem?_getD, List.getD_eq_getElem?_getD, List.getElem?_take, if_pos (by omega), List.getElem?_drop]
  have g93 : row[o + 93]? = some (u8v (b8 ((sig.length : Int) / 256))) := hg 0 (by omega)
  have g94 : row[o + 94]? = some (u8v (b8 (sig.length : Int))) := hg 1 (by omega)
  obtain ⟨b, hb⟩ : ∃ b, b = rootB pub ver node sig := ⟨_, rfl⟩
  rw [← hb] at hbl hc hcells hcS ⊢
  clear hD hg hcL
  have hbB := hQ B hqb
  have n1 : ((b8 ((sig.length : Int) / 256)).toNat : Int) = (sig.length : Int) / 256 := by rw [b8_toNat]; omega
  have n2 : ((b8 (sig.length : Int)).toNat : Int) = (sig.length : Int) % 256 := b8_toNat _
  have f1 := fun K => p_orI (t := 3) ((sig.length : Int) / 256 * 256) ((sig.length : Int) % 256) 8 256 rfl (by omega) (by omega) (by omega) (by omega) (by omega) K
  have f2 : (sig.length : Int) / 256 * 256 + (sig.length : Int) % 256 = (sig.length : Int) := by omega
  have f3 : wr ((sig.length : Int) / 256 * 256) = (sig.length : Int) / 256 * 256 := wr_in _ (by omega)
  have g1 : ¬ ver < 1 := by omega
  have g2 : ¬ (2147483647 : Int) < ver := by omega
  have g3 : ¬ (5000 : Int) < (sig.length : Int) := by omega
  have g4 : wr (95 + (sig.length : Int)) = (b.length : Int) := by rw [wr_in _ (by omega), hbl]; omega
  have g5 : ¬ (b.length : Int) < (b.length : Int) := by omega
  have g6 : Value.int .u8 114 = u8v 114 := rfl
  have hl1 : ∀ (x y : UInt8), Value.int .u8 x.toNat = u8v x := fun _ _ => rfl
  unfold F11x2
  rw [g6]
  simp (maxSteps := 2000000) (disch := first | exact dT_ | fail) only [hrow, hb0, g93, g94, n1, n2, f1, f2, f3, h4, rv_1, g1, g2, g3, g4, g5, Pick_bool, cond_false, p_add, p_lss, p_gtr, p_neq, L1_cells, Hp_drew, Branch_bool, Gdn_true, Option.elim_some, Nat.zero_add, Nat.add_zero, Bool.not_true, true_and, Bool.false_eq_true, false_implies, forall_const, i64w, wr_in, Nat.mul_one, p_shli, decide_true, decide_false, Int.reduceToNat, Int.reducePow, ix30, len30, fld39_1, bld39_, cv5_3, ld3, ld5, ld39, st39]
  unfold F11x1
  simp (maxSteps := 2000000) (disch := first | exact dT_ | fail) only [g4, g5, p_add, p_gtr, Hp_drew, sz_drew, Branch_bool, Nat.zero_add, true_and, Bool.false_eq_true, false_implies, forall_const, cutAt_some, Nat.mul_one, decide_false, Int.reduceToNat, slL30, len30, fld39_3, bld39_, ld39, bs30_0, st39]
  change Run Try.prog (Builtin.append_ _ _ _) (w8.drew.alloc (.cells (bc []).toArray 5)) _
  obtain ⟨wa, hwa⟩ : ∃ wa, wa = w8.drew.alloc (.cells (bc []).toArray 5) := ⟨_, rfl⟩
  have hxa : Ext (fun _ => False) w8 wa := by rw [hwa]; exact ((Ext.refl _ _).drew).alloc _
  have hva : BOf wa (.slice (some ⟨sz w8, 0, none⟩) 0 0) [] := by rw [hwa]; exact .inr ⟨_, 0, 0, _, _, _, rfl, Hp_alloc_new _ _ _ rfl, fun j hj => by simp at hj⟩
  rw [← hwa]
  clear hwa
  have hsa := hxa.size
  refine apFullK (l := []) _ rfl hva (BOf_ext hcS.of hxa) (by simp; omega) (by simp; omega) ?_
  intro s w15 hs15 hx15
  rw [List.nil_append] at hs15
  obtain ⟨sa, sc, rfl⟩ := Vec.slice hs15
  have hx815 := hxa.trans hx15 fun _ _ h => h
  have h44 := hx815.at h4 not_false
  have h42 := hx815.at h2 not_false
  have l4 := Hp_lt h44
  have l2 := Hp_lt h42
  have r1 := rv_size (p := .slice a 56 c) (ver := ver) (s := .slice none 0 0) hn
  have r2 := rv_put34 (p := .slice a 56 c) (ver := ver) (s := .slice none 0 0) hn (.slice sa sig.length sc)
  have r3 := rv_size (p := .slice a 56 c) (ver := ver) (s := .slice sa sig.length sc) hn
  have r4 := rv_all (p := .slice a 56 c) (ver := ver) (s := .slice sa sig.length sc) hn
  have r5 := rv_over (p := .slice none 0 0) (ver := 0) (s := .slice none 0 0) (p' := .slice a 56 c) (ver' := ver) (s' := .slice sa sig.length sc) zero32 hn
  have r6 := rv_size (p := .slice none 0 0) (ver := 0) (s := .slice none 0 0) zero32
  have r7 : allOne (rootV (.slice a 56 c) ver node (.slice sa sig.length sc)) := rv_one trivial trivial
  simp (maxSteps := 2000000) (disch := first | exact dT_ | fail) only [h44, h42, r1, r2, r3, r4, r5, r6, Ln_cells, St_cells, Hp_put_same, Hp_put_other, cells_agg, cells_sl, Nat.zero_add, List.size_toArray, List.length_cons, List.length_nil, Nat.reduceAdd, Nat.reduceLeDiff, if_pos, and_self, st30, st39]
  have l9 := Hp_lt h4
  have l92 := Hp_lt h2
  have hfin : Ext (fun b => b = p2 ∨ b = p4) w15 (put (put w15 p4 (Obj.cells (rootV (Value.slice a 56 c) ver node (Value.slice sa sig.length sc)) 39)) p2 (Obj.cells (rootV (Value.slice a 56 c) ver node (Value.slice sa sig.length sc)) 39)) :=
    ((Ext.refl _ _).put _ _ fun _ => .inr rfl).put _ _ fun _ => .inl rfl
  have hv1 : Bytes 5 w15 (.slice sa sig.length sc) sig (fun x => sz w8 ≤ x ∧ x ≠ p2 ∧ x ≠ p4) := Vec.mono hs15 fun x _ hx => by omega
  have hv2 := Vec.ext hv1 hfin fun x _ hx => by omega
  refine hk _ _ (Vec.mono hv2 fun x _ hx => hx.1) ?_
  exact (hx815.mono fun _ _ h => h.elim).trans hfin fun _ _ h => h
theorem parse9_spec {w : World} {D : Value} {Q : Nat → Prop} (hD : Bytes 5 w D (rootB pub ver node sig) Q) :
    Calls Try.prog 11 #[D] w (retK fun v w' => ∃ p s m, v = .tuple #[.agg (rootV p ver node s), i64 0] ∧ sz w ≤ m ∧ Bytes 5 w' p pub (fun x => sz w ≤ x ∧ x < m) ∧ Bytes 5 w' s sig (fun x => m ≤ x) ∧ Ext (fun _ => False) w w') := by
  refine F11_ok _ _ _ ?_
  have hbl := rootB_length (ver := ver) (sig := sig) hp hn
  have hD0 := Vec.mono (Q' := fun x => x < sz w) hD fun x h _ => h
  rcases hD0.2 with ⟨rfl, h0⟩ | ⟨B, o, cap, row, rfl, hc, hrow, hsz, hcells, hqb⟩
  · rw [hbl] at h0; omega
  have hcP := Bytes.cut hD 1 56 (cap - 1) (by omega)
  have hcV := Bytes.cut hD 57 ((rootB pub ver node sig).length - 57) (cap - 57) (by omega)
  have hcN := Bytes.cut hD 61 ((rootB pub ver node sig).length - 61) (cap - 61) (by omega)
  rw [rootB_pub hp hn] at hcP
  obtain ⟨vN, rfl⟩ := Int.eq_ofNat_of_zero_le (show 0 ≤ ver by omega)
  have eV : ((rootB pub (vN : Int) node sig).drop 57).take ((rootB pub (vN : Int) node sig).length - 57) = four (vN : Int) ++ (node ++ two sig.length ++ sig) := by
    rw [List.take_of_length_le (by rw [List.length_drop]; omega)]
    have e : rootB pub (vN : Int) node sig = ([114] ++ pub) ++ (four (vN : Int) ++ (node ++ two sig.length ++ sig)) := by simp [rootB]
    rw [e, List.drop_left' (by simp [hp])]
  rw [eV] at hcV
  have hnum := num4_four vN (by omega) (node ++ two sig.length ++ sig)
  have eN : (((rootB pub (vN : Int) node sig).drop 61).take ((rootB pub (vN : Int) node sig).length - 61)).take 32 = node := by
    rw [List.take_take, Nat.min_eq_left (by omega)]; exact rootB_node hp hn
  have lN : 32 ≤ (((rootB pub (vN : Int) node sig).drop 61).take ((rootB pub (vN : Int) node sig).length - 61)).length := by rw [List.length_take, List.length_drop]; omega
  obtain ⟨N', hN'⟩ : ∃ N', N' = ((rootB pub (vN : Int) node sig).drop 61).take ((rootB pub (vN : Int) node sig).length - 61) := ⟨_, rfl⟩
  rw [← hN'] at hcN eN lN
  clear hN' eV
  obtain ⟨V', hV'⟩ : ∃ V', V' = four (vN : Int) ++ (node ++ two sig.length ++ sig) := ⟨_, rfl⟩
  have lV : 4 ≤ V'.length := by rw [hV', List.length_append, four_length]; omega
  rw [← hV'] at hcV hnum
  clear hV'
  obtain ⟨b, hb⟩ : ∃ b, b = rootB pub (vN : Int) node sig := ⟨_, rfl⟩
  rw [← hb] at hbl hc hcells hD hD0 hcV hcN
  have g1 : ¬ (b.length : Int) < 95 := by omega
  unfold F11
  rw [← hb, rv_new]
  simp (maxSteps := 2000000) (disch := first | exact dT_ | fail) only [g1, p_lss, put_allocN, Ln_cells, St_cells, Hp_alloc_new, cells_agg, Branch_bool, Nat.zero_add, List.size_toArray, List.length_cons, List.length_nil, Nat.reduceAdd, if_pos, true_and, Bool.false_eq_true, false_implies, forall_const, bc_length, Array.size_append, Nat.reduceSub, List.length_replicate, cutAt_some, Nat.mul_one, decide_false, Int.reduceToNat, slLH30, slL30, len30, bld39_, ld39, st39]
  obtain ⟨w1, hw1⟩ : ∃ w1, w1 = (w.alloc (Obj.cells (rootV (.slice none 0 0) 0 (List.replicate 32 0) (.slice none 0 0)) 39)).drew := ⟨_, rfl⟩
  have hx1 : Ext (fun _ => False) w w1 := by rw [hw1]; exact ((Ext.refl _ _).alloc _).drew
  have h1 : Hp w1 (sz w) = some (Obj.cells (rootV (.slice none 0 0) 0 (List.replicate 32 0) (.slice none 0 0)) 39) := by rw [hw1]; (first | exact hpt_ | fail)
  have hs1' : sz w1 = sz w + 1 := by rw [hw1]; (first | exact szT_ | fail)
  rw [← hw1]
  clear hw1
  have hD1 := Vec.ext hD0 hx1 fun _ _ _ => not_false
  have fin : ∀ {w7 : World} {a : Option Addr} {c p4 : Nat}, Ext (fun x => False) w1 w7 → sz w < p4 → Hp w7 p4 = some (.cells (rootV (.slice a 56 c) (vN : Int) node (.slice none 0 0)) 39) → Bytes 5 w7 (.slice a 56 c) pub (fun x => sz w < x ∧ x ≠ p4) →
      F11x2 (.slice (some ⟨B, o, none⟩) b.length cap) w7 (ptr p4 0) (ptr (sz w) 0) fun v w' => ∃ p s m, v = .tuple #[.agg (rootV p (vN : Int) node s), i64 0] ∧ sz w ≤ m ∧ Bytes 5 w' p pub (fun x => sz w ≤ x ∧ x < m) ∧ Bytes 5 w' s sig (fun x => m ≤ x) ∧ Ext (fun _ => False) w w' := by
    intro w7 a c p4 hx7 hp4 h4 hb7
    have hs7 := hx7.size
    have hD8 : Bytes 5 w7 (.slice (some ⟨B, o, none⟩) b.length cap) (rootB pub (vN : Int) node sig) (fun x => x < sz w) := by rw [← hb]; exact Vec.ext hD1 hx7 fun x _ h => not_false
    refine parse9_x2 hp hn hs hs1 hv0 hv1 hD8 h4 (hx7.at h1 not_false) (by omega) (fun x hx => by omega) ?_
    intro s w' hs' hx'
    have hb7' := Vec.mono (Q' := fun x => sz w < x ∧ x ≠ p4 ∧ x < sz w7) hb7 fun x h h' => ⟨h'.1, h'.2, h⟩
    refine ⟨_, s, sz w7, rfl, by omega, Vec.mono (Vec.ext hb7' hx' fun x _ h => by omega) fun x _ h => by omega, hs', ?_⟩
    exact (hx1.trans hx7 fun _ _ h => h).trans2 hx' (fun _ _ h => h) fun x hx h => by omega
  have getC : ∀ {W : World} {K : Value → World → Prop}, Ext (fun _ => False) w1 W → (∀ W', Ext (fun _ => False) W W' → K (i64 (vN : Int)) W') → CallF Try.prog 28 #[.slice (some ⟨B, o + 57, none⟩) (b.length - 57) (cap - 57)] W K := by
    intro W K hx hk
    refine CallF_by Try.call28 (get9_spec ((hcV.ext hx1 fun _ _ _ => not_false).ext hx fun _ _ _ => not_false) lV) ?_
    rintro _ W' ⟨rfl, hx'⟩
    rw [hnum]
    exact hk W' hx'
  have idC : ∀ {W : World} {K : Value → World → Prop}, Ext (fun _ => False) w1 W → (∀ W', Ext (fun _ => False) W W' → K (idv node) W') → CallF Try.prog 29 #[.slice (some ⟨B, o + 61, none⟩) (b.length - 61) (cap - 61)] W K := by
    intro W K hx hk
    refine CallF_by Try.call29 (id9_spec ((hcN.ext hx1 fun _ _ _ => not_false).ext hx fun _ _ _ => not_false) lN) ?_
    rintro _ W' ⟨rfl, hx'⟩
    rw [eN]
    exact hk W' hx'
  have apC : ∀ {W : World} {p : Nat} {K : Value → World → Prop}, Ext (fun _ => False) w1 W → Hp W p = some (.cells #[] 5) → (∀ a c W', Bytes 5 W' (.slice a 56 c) pub (fun x => x = sz W) → Ext (fun _ => False) W W' → K (.slice a 56 c) W') → Run Try.prog (Builtin.append_ #[30, 30] 30 #[.slice (some ⟨p, 0, none⟩) 0 0, .slice (some ⟨B, o + 1, none⟩) 56 (cap - 1)]) W K := by
    intro W p K hx hP hk
    have hva : BOf W (.slice (some ⟨p, 0, none⟩) 0 0) [] := .inr ⟨_, 0, 0, _, _, _, rfl, hP, fun j hj => by simp at hj⟩
    refine apFullK (l := []) _ rfl hva ((hcP.ext hx1 fun _ _ _ => not_false).ext hx fun _ _ _ => not_false).of (by simp; omega) (by simp; omega) ?_
    intro s w15 hs15 hx15
    rw [List.nil_append] at hs15
    obtain ⟨sa, sc, rfl⟩ := Vec.slice hs15
    rw [hp] at hs15 ⊢
    exact hk _ _ _ (by rw [← hp] at hs15 ⊢; exact hs15) hx15
  unfold F11x3
  have x0 : Ext (fun _ => False) w1 w1 := Ext.refl _ _
  refine ⟨?_, ?_⟩
  · rw [bs0]
    obtain ⟨W1, hW1⟩ : ∃ W, W = w1.alloc (.cells #[] 5) := ⟨_, rfl⟩
    have y1 : Ext (fun _ => False) w1 W1 := by rw [hW1]; exact (Ext.refl _ _).alloc _
    have hB : Hp W1 (sz w1) = some (.cells #[] 5) := by rw [hW1]; exact Hp_alloc_new _ _ _ rfl
    rw [← hW1]; clear hW1
    have z1 := y1.size
    have x1 := x0.trans y1 fun _ _ h => h
    refine ⟨?_, ?_⟩
    · refine apC x1 hB ?_
      intro a c W2 hP y2
      have hP := Vec.mono (Q' := fun x => x = sz W1 ∧ x < sz W2) hP fun x h1 h2 => ⟨h2, h1⟩
      have z2 := y2.size
      have x2 := x1.trans y2 fun _ _ h => h
      refine ⟨?_, ?_⟩
      · refine getC x2 ?_
        intro W3 y3
        have z3 := y3.size
        have hP := Vec.ext hP y3 fun _ _ _ => not_false
        have x3 := x2.trans y3 fun _ _ h => h
        refine ⟨?_, ?_⟩
        · refine idC x3 ?_
          intro W4 y4
          have z4 := y4.size
          have hP := Vec.ext hP y4 fun _ _ _ => not_false
          have x4 := x3.trans y4 fun _ _ h => h
          rw [rv_bld012 _ _ _ _ hn, rv_new]
          obtain ⟨W5, hW5⟩ : ∃ W, W = W4.alloc (.cells (rootV (.slice none 0 0) 0 (List.replicate 32 0) (.slice none 0 0)) 39) := ⟨_, rfl⟩
          have y5 : Ext (fun _ => False) W4 W5 := by rw [hW5]; exact (Ext.refl _ _).alloc _
          have hA : Hp W5 (sz W4) = some (.cells (rootV (.slice none 0 0) 0 (List.replicate 32 0) (.slice none 0 0)) 39) := by rw [hW5]; exact Hp_alloc_new _ _ _ rfl
          have hA0 : sz W4 < sz W5 := Hp_lt hA
          rw [← hW5]; clear hW5
          have z5 := y5.size
          have hP := Vec.ext hP y5 fun _ _ _ => not_false
          have x5 := x4.trans y5 fun _ _ h => h
          have hAl := Hp_lt hA
          rw [rv_st (p' := .slice a 56 c) (s' := .slice none 0 0) hA zero32 hn trivial trivial]
          refine fin (p4 := sz W4) (x5.put _ _ fun h => by omega) (by omega) (Hp_put_same _ _ _ hAl) (Vec.ext (Vec.mono (Q' := fun x => sz w < x ∧ x ≠ sz W4) hP fun x h1 h2 => by omega) ((Ext.refl (fun x => x = sz W4) _).put _ _ fun _ => rfl) fun x _ h => h.2)
        · rw [rv_new]
          obtain ⟨W4, hW4⟩ : ∃ W, W = W3.alloc (.cells (rootV (.slice none 0 0) 0 (List.replicate 32 0) (.slice none 0 0)) 39) := ⟨_, rfl⟩
          have y4 : Ext (fun _ => False) W3 W4 := by rw [hW4]; exact (Ext.refl _ _).alloc _
          have hA : Hp W4 (sz W3) = some (.cells (rootV (.slice none 0 0) 0 (List.replicate 32 0) (.slice none 0 0)) 39) := by rw [hW4]; exact Hp_alloc_new _ _ _ rfl
          have hA0 : sz W3 < sz W4 := Hp_lt hA
          rw [← hW4]; clear hW4
          have z4 := y4.size
          have hP := Vec.ext hP y4 fun _ _ _ => not_false
          have x4 := x3.trans y4 fun _ _ h => h
          refine idC x4 ?_
          intro W5 y5
          have z5 := y5.size
          have hA := y5.at hA not_false
          have hP := Vec.ext hP y5 fun _ _ _ => not_false
          have x5 := x4.trans y5 fun _ _ h => h
          have hAl := Hp_lt hA
          rw [rv_bld012 _ _ _ _ hn, rv_st (p' := .slice a 56 c) (s' := .slice none 0 0) hA zero32 hn trivial trivial]
          refine fin (p4 := sz W3) (x5.put _ _ fun h => by omega) (by omega) (Hp_put_same _ _ _ hAl) (Vec.ext (Vec.mono (Q' := fun x => sz w < x ∧ x ≠ sz W3) hP fun x h1 h2 => by omega) ((Ext.refl (fun x => x = sz W3) _).put _ _ fun _ => rfl) fun x _ h => h.2)
      · rw [rv_new]
        obtain ⟨W3, hW3⟩ : ∃ W, W = W2.alloc (.cells (rootV (.slice none 0 0) 0 (List.replicate 32 0) (.slice none 0 0)) 39) := ⟨_, rfl⟩
        have y3 : Ext (fun _ => False) W2 W3 := by rw [hW3]; exact (Ext.refl _ _).alloc _
        have hA : Hp W3 (sz W2) = some (.cells (rootV (.slice none 0 0) 0 (List.replicate 32 0) (.slice none 0 0)) 39) := by rw [hW3]; exact Hp_alloc_new _ _ _ rfl
        have hA0 : sz W2 < sz W3 := Hp_lt hA
        rw [← hW3]; clear hW3
        have z3 := y3.size
        have hP := Vec.ext hP y3 fun _ _ _ => not_false
        have x3 := x2.trans y3 fun _ _ h => h
        refine getC x3 ?_
        intro W4 y4
        have z4 := y4.size
        have hA := y4.at hA not_false
        have hP := Vec.ext hP y4 fun _ _ _ => not_false
        have x4 := x3.trans y4 fun _ _ h => h
        refine idC x4 ?_
        intro W5 y5
        have z5 := y5.size
        have hA := y5.at hA not_false
        have hP := Vec.ext hP y5 fun _ _ _ => not_false
        have x5 := x4.trans y5 fun _ _ h => h
        have hAl := Hp_lt hA
        rw [rv_bld012 _ _ _ _ hn, rv_st (p' := .slice a 56 c) (s' := .slice none 0 0) hA zero32 hn trivial trivial]
        refine fin (p4 := sz W2) (x5.put _ _ fun h => by omega) (by omega) (Hp_put_same _ _ _ hAl) (Vec.ext (Vec.mono (Q' := fun x => sz w < x ∧ x ≠ sz W2) hP fun x h1 h2 => by omega) ((Ext.refl (fun x => x = sz W2) _).put _ _ fun _ => rfl) fun x _ h => h.2)
    · rw [rv_new]
      obtain ⟨W2, hW2⟩ : ∃ W, W = W1.alloc (.cells (rootV (.slice none 0 0) 0 (List.replicate 32 0) (.slice none 0 0)) 39) := ⟨_, rfl⟩
      have y2 : Ext (fun _ => False) W1 W2 := by rw [hW2]; exact (Ext.refl _ _).alloc _
      have hA : Hp W2 (sz W1) = some (.cells (rootV (.slice none 0 0) 0 (List.replicate 32 0) (.slice none 0 0)) 39) := by rw [hW2]; exact Hp_alloc_new _ _ _ rfl
      have hA0 : sz W1 < sz W2 := Hp_lt hA
      rw [← hW2]; clear hW2
      have z2 := y2.size
      have hB := y2.at hB not_false
      have x2 := x1.trans y2 fun _ _ h => h
      refine apC x2 hB ?_
      intro a c W3 hP y3
      have hP := Vec.mono (Q' := fun x => x = sz W2 ∧ x < sz W3) hP fun x h1 h2 => ⟨h2, h1⟩
      have z3 := y3.size
      have hA := y3.at hA not_false
      have x3 := x2.trans y3 fun _ _ h => h
      refine getC x3 ?_
      intro W4 y4
      have z4 := y4.size
      have hA := y4.at hA not_false
      have hP := Vec.ext hP y4 fun _ _ _ => not_false
      have x4 := x3.trans y4 fun _ _ h => h
      refine idC x4 ?_
      intro W5 y5
      have z5 := y5.size
      have hA := y5.at hA not_false
      have hP := Vec.ext hP y5 fun _ _ _ => not_false
      have x5 := x4.trans y5 fun _ _ h => h
      have hAl := Hp_lt hA
      rw [rv_bld012 _ _ _ _ hn, rv_st (p' := .slice a 56 c) (s' := .slice none 0 0) hA zero32 hn trivial trivial]
      refine fin (p4 := sz W1) (x5.put _ _ fun h => by omega) (by omega) (Hp_put_same _ _ _ hAl) (Vec.ext (Vec.mono (Q' := fun x => sz w < x ∧ x ≠ sz W1) hP fun x h1 h2 => by omega) ((Ext.refl (fun x => x = sz W1) _).put _ _ fun _ => rfl) fun x _ h => h.2)
  · rw [rv_new]
    obtain ⟨W1, hW1⟩ : ∃ W, W = w1.alloc (.cells (rootV (.slice none 0 0) 0 (List.replicate 32 0) (.slice none 0 0)) 39) := ⟨_, rfl⟩
    have y1 : Ext (fun _ => False) w1 W1 := by rw [hW1]; exact (Ext.refl _ _).alloc _
    have hA : Hp W1 (sz w1) = some (.cells (rootV (.slice none 0 0) 0 (List.replicate 32 0) (.slice none 0 0)) 39) := by rw [hW1]; exact Hp_alloc_new _ _ _ rfl
    have hA0 : sz w1 < sz W1 := Hp_lt hA
    rw [← hW1]; clear hW1
    have z1 := y1.size
    have x1 := x0.trans y1 fun _ _ h => h
    rw [bs0]
    obtain ⟨W2, hW2⟩ : ∃ W, W = W1.alloc (.cells #[] 5) := ⟨_, rfl⟩
    have y2 : Ext (fun _ => False) W1 W2 := by rw [hW2]; exact (Ext.refl _ _).alloc _
    have hB : Hp W2 (sz W1) = some (.cells #[] 5) := by rw [hW2]; exact Hp_alloc_new _ _ _ rfl
    rw [← hW2]; clear hW2
    have z2 := y2.size
    have hA := y2.at hA not_false
    have x2 := x1.trans y2 fun _ _ h => h
    refine apC x2 hB ?_
    intro a c W3 hP y3
    have hP := Vec.mono (Q' := fun x => x = sz W2 ∧ x < sz W3) hP fun x h1 h2 => ⟨h2, h1⟩
    have z3 := y3.size
    have hA := y3.at hA not_false
    have x3 := x2.trans y3 fun _ _ h => h
    refine getC x3 ?_
    intro W4 y4
    have z4 := y4.size
    have hA := y4.at hA not_false
    have hP := Vec.ext hP y4 fun _ _ _ => not_false
    have x4 := x3.trans y4 fun _ _ h => h
    refine idC x4 ?_
    intro W5 y5
    have z5 := y5.size
    have hA := y5.at hA not_false
    have hP := Vec.ext hP y5 fun _ _ _ => not_false
    have x5 := x4.trans y5 fun _ _ h => h
    have hAl := Hp_lt hA
    rw [rv_bld012 _ _ _ _ hn, rv_st (p' := .slice a 56 c) (s' := .slice none 0 0) hA zero32 hn trivial trivial]
    refine fin (p4 := sz w1) (x5.put _ _ fun h => by omega) (by omega) (Hp_put_same _ _ _ hAl) (Vec.ext (Vec.mono (Q' := fun x => sz w < x ∧ x ≠ sz w1) hP fun x h1 h2 => by omega) ((Ext.refl (fun x => x = sz w1) _).put _ _ fun _ => rfl) fun x _ h => h.2)
end
end Go.Proofs
namespace Go.Proofs
open Go Go.Lf
set_option maxRecDepth 20000
set_option maxHeartbeats 2000000
set_option linter.unusedSimpArgs false
set_option linter.unusedVariables false
/-- a slice of known bytes, opened -/
theorem Bytes.open {w : World} {v : Value} {l : List UInt8} {Q : Nat → Prop} (h : Bytes 5 w v l Q) (hl : l ≠ []) : ∃ B o cap, v = .slice (some ⟨B, o, none⟩) l.length cap ∧ l.length ≤ cap ∧ BIn w v l (fun b => b < sz w ∧ Q b) := by
  have h' := Vec.mono (Q' := fun b => b < sz w ∧ Q b) h fun b hb hq => ⟨hb, hq⟩
  rcases h'.2 with ⟨rfl, h0⟩ | ⟨B, o, cap, row, rfl, hc, -⟩
  · exact absurd (List.eq_nil_of_length_eq_zero h0) hl
  · exact ⟨B, o, cap, rfl, hc, Bytes.bin h'⟩
section
variable {pub sig name top osig side node : List UInt8} {q : Nat} (hn : name.length = 16) (htop : top.length = 32) (hside : side.length = 32) (ho : osig.length = 4292) (ho4 : osig.take 4 = four 2) (hq : q ≤ 1)
    (hpub : pub = four 1 ++ four 2 ++ name ++ top) (hsig : sig = four q ++ osig ++ four 1 ++ side) (hnode : node.length = 32)
include hn htop hside ho ho4 hq hpub hsig hnode
theorem right_spec {w : World} {p s : Value} {Qp Qs : Nat → Prop} (hp : Bytes 5 w p pub Qp) (hs : Bytes 5 w s sig Qs) (ver : Int) :
    Calls Try.prog 12 #[.agg (rootV p ver node s)] w (retK fun v w' => v = i64 (if rootL name q (claimL ver node) osig side = top then 0 else 12) ∧ Ext (fun _ => False) w w') := by
  refine F12_ok _ _ _ ?_
  have hpl : pub.length = 56 := by rw [hpub]; simp [four_length, hn, htop]
  have hsl : sig.length = 4332 := by rw [hsig]; simp [four_length, ho, hside]
  obtain ⟨Bp, op, cp, rfl, hcp, hbp⟩ := Bytes.open hp (by rintro rfl; simp at hpl)
  obtain ⟨Bs, os, cs, rfl, hcs, hbs⟩ := Bytes.open hs (by rintro rfl; simp at hsl)
  rw [hpl] at hcp hbp ⊢
  rw [hsl] at hcs hbs ⊢
  unfold F12
  rw [r_box, cells_agg]
  obtain ⟨w1, hw1⟩ : ∃ w1, w1 = (w.alloc (.cells (rootV (.slice (some ⟨Bp, op, none⟩) 56 cp) ver node (.slice (some ⟨Bs, os, none⟩) 4332 cs)) 39)) := ⟨_, rfl⟩
  have hx1 : Ext (fun _ => False) w w1 := by rw [hw1]; exact (Ext.refl _ _).alloc _
  have h1 : Hp w1 (sz w) = some (.cells (rootV (.slice (some ⟨Bp, op, none⟩) 56 cp) ver node (.slice (some ⟨Bs, os, none⟩) 4332 cs)) 39) := by rw [hw1]; (first | exact hpt_ | fail)
  rw [← hw1]
  clear hw1
  have r34 := rv_34 (p := .slice (some ⟨Bp, op, none⟩) 56 cp) (ver := ver) (s := .slice (some ⟨Bs, os, none⟩) 4332 cs) hnode
  have rn := rv_node (p := .slice (some ⟨Bp, op, none⟩) 56 cp) (ver := ver) (s := .slice (some ⟨Bs, os, none⟩) 4332 cs) hnode
  have rs := rv_size (p := .slice (some ⟨Bp, op, none⟩) 56 cp) (ver := ver) (s := .slice (some ⟨Bs, os, none⟩) 4332 cs) hnode
  have g1 : 2 + 32 ≤ (rootV (.slice (some ⟨Bp, op, none⟩) 56 cp) ver node (.slice (some ⟨Bs, os, none⟩) 4332 cs)).size := by rw [rs]; decide
  simp (maxSteps := 2000000) (disch := first | exact dT_ | fail) only [h1, rv_0, rv_1, r34, rn, g1, L1_cells, Ln_cells, Hp_drew, Option.elim_some, Nat.zero_add, Nat.add_zero, Nat.reduceAdd, if_pos, fld39_0, fld39_1, fld39_2, fld39_3, ld3, ld25, ld30]
  refine CallF_by Try.call17 (claim9_spec hnode ver) ?_
  rintro mv w2 ⟨hm2, hx2⟩
  have hx02 : Ext (fun _ => False) w w2 := (hx1.drew).trans hx2 fun _ _ h => h
  have h2 : Hp w2 (sz w) = some (.cells (rootV (.slice (some ⟨Bp, op, none⟩) 56 cp) ver node (.slice (some ⟨Bs, os, none⟩) 4332 cs)) 39) := hx2.at h1 not_false
  simp (maxSteps := 2000000) (disch := first | exact dT_ | fail) only [h2, rv_0, r34, L1_cells, Option.elim_some, true_and]
  have hs02 := hx02.size
  refine CallF_by Try.call30 (check6_spec hn htop hside ho ho4 hq hpub hsig (hbp.ext hx02 fun _ _ _ => not_false) hcp (hbs.ext hx02 fun _ _ _ => not_false) hcs (fun b hb => by have := hb.1; omega) (fun b hb => by have := hb.1; omega) (Bytes.bin hm2) (by rw [claimL_length _ hnode]; decide)) ?_
  rintro _ w3 ⟨rfl, hx3⟩
  exact ⟨rfl, hx02.trans hx3 fun _ _ h => h⟩
end
def seedL (who : Int) : List UInt8 := b8 who :: List.replicate 31 0
def nameL (who : Int) : List UInt8 := b8 who :: List.replicate 15 0
theorem seedL_length (who : Int) : (seedL who).length = 32 := by simp [seedL]
theorem nameL_length (who : Int) : (nameL who).length = 16 := by simp [nameL]
theorem seed_spec {w : World} (who : Int) : Calls Try.prog 14 #[i64 who] w (retK fun v w' => v = .tuple #[idv (seedL who), idv (nameL who)] ∧ Ext (fun _ => False) w w') := by
  refine F14_ok _ _ _ ?_
  unfold F14
  have h32 : (List.replicate 32 (0 : UInt8)).length = 32 := by simp
  have h16 : (List.replicate 16 (0 : UInt8)).length = 16 := by simp
  have e1 : (List.replicate 32 (0 : UInt8)).set 0 (b8 who) = seedL who := rfl
  have e2 : (List.replicate 16 (0 : UInt8)).set 0 (b8 who) = nameL who := rfl
  have l1 := seedL_length who
  have l2 := nameL_length who
  have s32 : (bc (List.replicate 32 0)).set 0 (Value.int .u8 ((b8 who).toNat : Int)) = bc (seedL who) := by rw [set_bc]; rfl
  have s16 : (bc (List.replicate 16 0)).set 0 (Value.int .u8 ((b8 who).toNat : Int)) = bc (nameL who) := by rw [set_bc]; rfl
  have t32 : splice (bc (List.replicate 32 0)).toArray 0 (bc (seedL who)).toArray = (bc (seedL who)).toArray := splice_bc_all (by rw [h32, l1])
  have t16 : splice (bc (List.replicate 16 0)).toArray 0 (bc (nameL who)).toArray = (bc (nameL who)).toArray := splice_bc_all (by rw [h16, l2])
  simp (maxSteps := 2000000) (disch := first | exact dT_ | fail) only [h32, h16, s32, s16, t32, t16, l1, l2, ext_bc0 l1, ext_bc0 l2, put_allocN, Ln_cells, St_cells, Hp_drew, Hp_alloc_new, Hp_alloc_old, Hp_put_same, Hp_put_other, sz_alloc, cells_agg, cells_int, Nat.zero_add, Nat.add_zero, List.size_toArray, List.length_cons, List.length_nil, Nat.reduceLeDiff, if_pos, true_and, and_self, splice_lit, bc_length, u8b, Nat.mul_one, Int.reduceToNat, ix25, ix49, cv3_5, ld25, ld49, st5, st25, st49, al25, al49, zv25, zv49]
  exact (((((((((Ext.refl _ _).alloc _).alloc _).alloc _).alloc _).put _ _ fun h => by omega).put _ _ fun h => by omega).drew).put _ _ fun h => by omega).put _ _ fun h => by omega
theorem within_spec {w : World} (a : Int) (n : Nat) (hn : 0 < n) (hn2 : n ≤ 1000000) : Calls Try.prog 6 #[i64 a, i64 (n : Int)] w (retK fun v w' => (∃ k : Nat, k < n ∧ (k : Int) = a % n ∧ v = i64 (k : Int)) ∧ w' = w) := by
  refine F6_ok _ _ _ _ ?_
  unfold F6
  have h0 : (n : Int) ≠ 0 := by omega
  rw [p_rem _ _ _ _ h0, p_lss, Branch_bool]
  have ht := Int.tmod_eq_emod (a := a) (b := (n : Int))
  have hlt := Int.emod_lt_of_pos a (b := (n : Int)) (by omega)
  have hge := Int.emod_nonneg a h0
  obtain ⟨k, hk⟩ := Int.eq_ofNat_of_zero_le hge
  have hkn : k < n := by omega
  refine ⟨fun h => ?_, fun h => ?_⟩
  · have h' : a.tmod n < 0 := of_decide_eq_true h
    have e : wr (a.tmod n + n) = (k : Int) := by
      rw [wr_in _ (by split at ht <;> omega), ← hk]
      split at ht <;> omega
    rw [p_add, e]
    exact ⟨⟨k, hkn, hk.symm, rfl⟩, rfl⟩
  · have h' : ¬ a.tmod n < 0 := of_decide_eq_false h
    have e : a.tmod n = (k : Int) := by
      rw [← hk]
      split at ht <;> omega
    rw [e]
    exact ⟨⟨k, hkn, hk.symm, rfl⟩, rfl⟩
end Go.Proofs
namespace Go.Proofs
open Go Go.Lf
set_option maxRecDepth 20000
set_option maxHeartbeats 2000000
set_option linter.unusedSimpArgs false
set_option linter.unusedVariables false
theorem pubL_length {name seed : List UInt8} (hn : name.length = 16) : (pubL name seed).length = 56 := by simp [pubL, four_length, hn, topL_length]
theorem sig6L_length {name seed msg : List UInt8} (q : Nat) : (sig6L name seed q msg).length = 4332 := by simp [sig6L, four_length, signL_length, leafL_length]
/-- the root of a publisher -/
def signedL (who : Int) (q : Nat) (node : List UInt8) : List UInt8 := rootB (pubL (nameL who) (seedL who)) ((q + 1 : Nat) : Int) node (sig6L (nameL who) (seedL who) q (claimL ((q + 1 : Nat) : Int) node))
theorem rv_bld0123 (a : Option Addr) (n c : Nat) (v : Int) {node : List UInt8} (hn : node.length = 32) (a' : Option Addr) (n' c' : Nat) (K : Value → Prop) : PRun Try.prog (Instr.build 39 #[(0, .slice a n c), (1, i64 v), (2, idv node), (3, .slice a' n' c')]) K = K (.agg (rootV (.slice a n c) v node (.slice a' n' c'))) := by
  rw [bld39_0_1_2_3 _ _ _ _ rfl rfl (by rw [idv_cells, bc_size, hn]) rfl]
  show K (.agg (splice (splice (splice (splice (rootV _ _ _ _) 0 _) 1 _) 2 _) 34 _)) = _
  rw [cells_sl, cells_int, idv_cells, cells_sl, rv_put0 zero32, rv_put1 zero32, rv_putN zero32 hn, rv_put34 hn]
theorem signed_spec {w : World} (who : Int) (q : Nat) (hq : q ≤ 1) {node : List UInt8} (hnode : node.length = 32) :
    Calls Try.prog 8 #[i64 who, i64 ((q + 1 : Nat) : Int), idv node] w (retK fun v w' => Bytes 5 w' v (signedL who q node) (fun b => sz w ≤ b) ∧ Ext (fun _ => False) w w') := by
  refine F8_ok _ _ _ _ _ ?_
  unfold F8
  have l1 := seedL_length who
  have l2 := nameL_length who
  have h16 : (List.replicate 16 (0 : UInt8)).length = 16 := by simp
  rw [r_box, idv_cells]
  obtain ⟨w1, hw1⟩ : ∃ w1, w1 = (w.alloc (.cells (bc node).toArray 25)) := ⟨_, rfl⟩
  have hx1 : Ext (fun _ => False) w w1 := by rw [hw1]; exact (Ext.refl _ _).alloc _
  have h1 : Hp w1 (sz w) = some (.cells (bc node).toArray 25) := by rw [hw1]; (first | exact hpt_ | fail)
  rw [← hw1]
  clear hw1
  refine CallF_by Try.call14 (seed_spec who) ?_
  rintro _ w2 ⟨rfl, hx2⟩
  simp only [p_extract0, p_extract1]
  have hx02 := hx1.trans hx2 fun _ _ h => h
  have h2 := hx2.at h1 not_false
  obtain ⟨sd, hsd⟩ : ∃ sd, sd = seedL who := ⟨_, rfl⟩
  obtain ⟨nm, hnm⟩ : ∃ nm, nm = nameL who := ⟨_, rfl⟩
  unfold signedL
  rw [← hsd] at l1 ⊢
  rw [← hnm] at l2 ⊢
  have t32 : splice (bc (List.replicate 32 0)).toArray 0 (bc sd).toArray = (bc sd).toArray := splice_bc_all (by rw [zero32, l1])
  have t16 : splice (bc (List.replicate 16 0)).toArray 0 (bc nm).toArray = (bc nm).toArray := splice_bc_all (by rw [h16, l2])
  have z32 := zero32
  simp (maxSteps := 2000000) (disch := first | exact dT_ | fail) only [t32, t16, l1, l2, z32, h16, ext_bc0 l1, ext_bc0 l2, p_sub, put_allocN, Ln_cells, St_cells, Hp_drew, Hp_alloc_new, Hp_alloc_old, Hp_put_same, Hp_put_other, sz_alloc, cells_agg, cells_int, Nat.zero_add, List.size_toArray, Nat.reduceLeDiff, if_pos, and_self, bc_length, wr_in, bld39_0_1_2_3, ld25, ld49, st25, st49, al25, al49, zv25, zv49]
  obtain ⟨w6, hw6⟩ : ∃ w6, w6 = (put (put ((w2.alloc (Obj.cells (bc (List.replicate 32 0)).toArray 25)).alloc (Obj.cells (bc (List.replicate 16 0)).toArray 49)) (sz w2) (Obj.cells (bc sd).toArray 25)) (sz w2 + 1) (Obj.cells (bc nm).toArray 49)) := ⟨_, rfl⟩
  have hx6 : Ext (fun _ => False) w2 w6 := by rw [hw6]; exact ((((Ext.refl _ _).alloc _).alloc _).put _ _ fun h => by omega).put _ _ fun h => by omega
  have h67 : Hp w6 (sz w2) = some (.cells (bc sd).toArray 25) := by rw [hw6]; (first | exact hpt_ | fail)
  have h68 : Hp w6 (sz w2 + 1) = some (.cells (bc nm).toArray 49) := by rw [hw6]; (first | exact hpt_ | fail)
  rw [← hw6]
  clear hw6
  have h6 := hx6.at h2 not_false
  have hx06 := hx02.trans hx6 fun _ _ h => h
  refine CallF_by Try.call15 (public6_spec l2 l1) ?_
  rintro _ w7 ⟨pv, rfl, hpv, hx7⟩
  simp only [p_extract0, p_extract1]
  have h7 := hx7.at h6 not_false
  have h77 := hx7.at h67 not_false
  have h78 := hx7.at h68 not_false
  have g1 : wr ((((q + 1 : Nat)) : Int) - 1) = (q : Int) := by rw [wr_in _ (by omega)]; omega
  have g2 : (((q + 1 : Nat)) : Int) - 1 = (q : Int) := by omega
  simp (maxSteps := 2000000) (disch := first | exact dT_ | fail) only [h7, h77, h78, l1, l2, hnode, g2, ext_bc0 l1, ext_bc0 l2, ext_bc0 hnode, Ln_cells, cells_int, Nat.zero_add, List.size_toArray, Nat.reduceLeDiff, if_pos, bc_length, bld39_0_1_2_3]
  have hx07 := (hx06.trans hx7 fun _ _ h => h).drew
  refine CallF_by Try.call17 (claim9_spec hnode _) ?_
  rintro mv w8 ⟨hm8, hx8⟩
  have h8 := hx8.at ((Hp_drew _ _).trans h7) not_false
  have h87 := hx8.at ((Hp_drew _ _).trans h77) not_false
  have h88 := hx8.at ((Hp_drew _ _).trans h78) not_false
  have hx08 := hx07.trans hx8 fun _ _ h => h
  have hs8 := hx08.size
  simp (maxSteps := 2000000) (disch := first | exact dT_ | fail) only [h87, h88, l1, l2, ext_bc0 l1, ext_bc0 l2, Ln_cells, Nat.zero_add, List.size_toArray, Nat.reduceLeDiff, if_pos, true_and, bc_length]
  refine CallF_by Try.call16 (sign6_spec l2 l1 (Bytes.bin hm8) (by rw [claimL_length _ hnode]; decide) q hq) ?_
  rintro _ w9 ⟨sv, rfl, hsv, hx9⟩
  simp only [p_extract0, p_extract1]
  have h9 := hx9.at h8 not_false
  have hx09 := hx08.trans hx9 fun _ _ h => h
  obtain ⟨pa, pc, rfl⟩ := Vec.slice hpv
  obtain ⟨sa, sc, rfl⟩ := Vec.slice hsv
  rw [ldI_Ln h9 hnode, rv_bld0123 _ _ _ _ hnode]
  have hpv9 := Vec.ext (Vec.ext (Vec.ext hpv ((Ext.refl (fun _ => False) _).drew) fun _ _ _ => not_false) hx8 fun _ _ _ => not_false) hx9 fun _ _ _ => not_false
  refine CallF_by Try.call13 (root9_spec (pubL_length l2) hnode (by rw [sig6L_length]; decide) (by omega) (by omega) (Bytes.of hpv9) (Bytes.of hsv)) ?_
  rintro _ w10 ⟨u, rfl, hu, hx10⟩
  simp only [p_extract0, p_extract1]
  have hs09 := hx09.size
  exact ⟨Vec.mono hu fun b _ h => by omega, hx09.trans hx10 fun _ _ h => h⟩
theorem new_spec {w : World} : Calls Try.prog 7 #[i64 2] w (retK fun v w' => v = .tuple #[ptr (sz w + 1) 0, i64 0] ∧ Hp w' (sz w + 1) = some (.cells #[i64 2, .map (some (sz w))] 48) ∧ Hp w' (sz w) = some (.map #[] 0) ∧ Ext (fun _ => False) w w') := by
  refine F7_ok _ _ _ ?_
  unfold F7
  have g1 : ¬ (2 : Int) < 1 := by omega
  have g2 : ¬ (100 : Int) < 2 := by omega
  simp (maxSteps := 2000000) (disch := first | exact dT_ | fail) only [g1, g2, Pick_bool, cond_false, p_lss, p_gtr, r_box, r_makeMap, Hp_alloc_new, Hp_alloc_old, sz_alloc, cells_agg, cells_int, cells_map, Branch_bool, Gdn_true, true_and, Bool.false_eq_true, false_implies, forall_const, splice_lit, List.set_cons_zero, List.set_cons_succ, decide_false, bld48_0_1]
  exact ((Ext.refl _ _).alloc _).alloc _
end Go.Proofs
namespace Go.Proofs
open Go Go.Lf
set_option maxRecDepth 20000
set_option maxHeartbeats 2000000
set_option linter.unusedSimpArgs false
set_option linter.unusedVariables false
set_option linter.unusedSectionVars false
theorem perm_pick {α β : Type} [DecidableEq β] (f : α → β) : ∀ (l : List α) (x : α), x ∈ l → (l.map f).Nodup → (x :: l.filter fun y => !decide (f y = f x)).Perm l := by
  intro l
  induction l with
  | nil => intro x h; cases h
  | cons a l ih =>
    intro x h hn
    rw [List.map_cons, List.nodup_cons] at hn
    rcases List.mem_cons.1 h with rfl | h
    · have : l.filter (fun y => !decide (f y = f x)) = l := List.filter_eq_self.2 fun y hy => by
        have : f y ≠ f x := fun e => hn.1 (e ▸ List.mem_map_of_mem hy)
        simpa using this
      rw [List.filter_cons, if_neg (by simp), this]
    · have hne : f a ≠ f x := fun e => hn.1 (e ▸ List.mem_map_of_mem h)
      rw [List.filter_cons, if_pos (by simpa using hne)]
      exact (List.Perm.swap a x _).trans ((ih x h hn.2).cons a)
variable {κ : Type} [DecidableEq κ]
theorem mleft_push (m : Ents κ) (seen : Array Nat) (b : Nat) : mleft m (seen.push b) = (mleft m seen).filter fun y => !decide (y.2.2 = b) := by
  unfold mleft
  rw [List.filter_filter]
  refine List.filter_congr fun y _ => ?_
  simp only [Array.contains_push, Bool.not_or]
  rw [Bool.and_comm]
  congr 2
theorem mleft_nil (m : Ents κ) : mleft m #[] = m := by unfold mleft; simp
theorem mleft_step {m vis : Ents κ} {x : κ × Value × Nat} (hn : (m.map (·.2.2)).Nodup) (hp : (vis ++ mleft m (vis.map (·.2.2)).toArray).Perm m) (hx : x ∈ mleft m (vis.map (·.2.2)).toArray) :
    ((vis ++ [x]) ++ mleft m ((vis ++ [x]).map (·.2.2)).toArray).Perm m := by
  have e : ((vis ++ [x]).map (·.2.2)).toArray = ((vis.map (·.2.2)).toArray).push x.2.2 := by simp
  rw [e, mleft_push, List.append_assoc]
  refine (List.Perm.append_left vis ?_).trans hp
  refine perm_pick (fun y : κ × Value × Nat => y.2.2) _ x hx ?_
  exact (List.Sublist.map _ List.filter_sublist).nodup hn
def seenOf (w : World) (it : Nat) : Nat := match Hp w it with | some (.mapIter _ _ seen _) => seen.size | _ => 0
theorem born_inj {m : Ents κ} (hn : (m.map (·.2.2)).Nodup) {x : κ × Value × Nat} (hx : x ∈ m) : ∀ y ∈ m, y.2.2 = x.2.2 → y = x := by
  intro y hy e
  induction m with
  | nil => cases hx
  | cons a m ih =>
    rw [List.map_cons, List.nodup_cons] at hn
    rcases List.mem_cons.1 hx with h1 | h1 <;> rcases List.mem_cons.1 hy with h2 | h2
    · rw [h1, h2]
    · subst h1; exact absurd (e ▸ List.mem_map_of_mem (f := fun y : κ × Value × Nat => y.2.2) h2) hn.1
    · subst h2; exact absurd (e ▸ List.mem_map_of_mem (f := fun y : κ × Value × Nat => y.2.2) h1) hn.1
    · exact ih hn.2 h1 h2
/-- maps.Values(m)'s iterator -/
theorem values_gives {w : World} {bm mb c : Nat} {m : Ents (List UInt8)} (hb : Hp w bm = some (.cells #[.map (some mb)] 46 (0, 0))) (hm : MapAt w mb idv m c) (hc : ∀ x ∈ m, x.2.2 < c)
    (hn : (m.map (·.2.2)).Nodup) (hv : ∀ x ∈ m, ∃ cs, x.2.1 = .agg cs ∧ cs.size = 36 ∧ allOne cs) :
    Gives Try.prog 45 #[ptr bm 0] (fun x : Value => x) (fun x => ∃ cs, x = .agg cs ∧ cs.size = 36 ∧ allOne cs) m.length (fun xs => xs.Perm (m.map (·.2.1))) w := by
  intro l J W hx hJ hY h0
  have hb' := hx.at hb not_false
  have hm' : MapAt W mb idv m c := hx.at hm not_false
  have hlm := Hp_lt hm'
  show Calls Try.prog 45 #[.func (.yield l) #[] #[], ptr bm 0] W _
  refine F45_ok _ _ _ _ ?_
  unfold F45
  simp (maxSteps := 2000000) (disch := first | exact dT_ | fail) only [hb', r_rangeMap Try.runUnderlying46 hm', L1_cells, List.getElem?_toArray, List.getElem?_cons_zero, Option.elim_some, forall_const, ld46]
  refine Loop0 (fun w2 => ∃ vis : Ents (List UInt8), (vis ++ mleft m (vis.map (·.2.2)).toArray).Perm m ∧ J (vis.map (·.2.1)) w2 ∧ Hp w2 mb = some (.map (entsOf idv m) c) ∧
    Hp w2 (sz W) = some (.mapIter (some mb) c (vis.map (·.2.2)).toArray c)) (fun w2 => m.length - seenOf w2 (sz W)) ⟨[], ?_, ?_, ?_, ?_⟩ ?_
  · simp [mleft_nil]
  · exact hJ _ _ _ (fun _ => False) h0 ((Ext.refl _ _).alloc _) fun _ _ h => h.elim
  · rw [Hp_alloc_old _ _ _ hlm]; exact hm'
  · exact Hp_alloc_new _ _ _ rfl
  rintro w2 ⟨vis, hp, hj, hmb, hit⟩
  refine r_nextMap (m := m) (enc := idv) hmb hit hc 0 ?_ ?_
  · intro hnil
    simp (maxSteps := 2000000) (disch := first | exact dT_ | fail) only [p_extract0, Branch_bool, true_and, Bool.false_eq_true, false_implies, forall_const]
    refine ⟨vis.map (·.2.1), ?_, hj⟩
    rw [hnil, List.append_nil] at hp
    exact hp.map _
  · intro x hxl w3 hw3
    have hxm : x ∈ m := (List.mem_filter.1 hxl).1
    obtain ⟨cs, hcs, hsz, hone⟩ := hv x hxm
    have hlt2 : sz W < sz w2 := Hp_lt hit
    have hmb2 : mb < sz w2 := Hp_lt hmb
    have hs3 : sz w3 = sz w2 := by rcases hw3 with rfl | rfl <;> rfl
    have hmb3 : Hp w3 mb = some (.map (entsOf idv m) c) := by rcases hw3 with rfl | rfl <;> exact hmb
    have hx3 : Ext (fun _ => False) w2 w3 := by rcases hw3 with rfl | rfl; exact Ext.refl _ _; exact (Ext.refl _ _).drew
    have hne : mb ≠ sz W := fun e => by rw [e] at hlm; exact absurd hlm (Nat.lt_irrefl _)
    have hit4 := Hp_put_same w3 (sz W) (.mapIter (some mb) c ((vis.map (·.2.2)).toArray.push x.2.2) c) (by omega)
    have hj4 := hJ _ _ (put w3 (sz W) (.mapIter (some mb) c ((vis.map (·.2.2)).toArray.push x.2.2) c)) (fun b => b = sz W) hj ((hx3.mono fun _ _ h => h.elim).put _ _ fun _ => rfl) (fun b _ e => by subst e; exact ⟨Nat.le_refl _, _, hit, rfl⟩)
    have hmb4 := (Hp_put_other w3 (sz W) mb (.mapIter (some mb) c ((vis.map (·.2.2)).toArray.push x.2.2) c) hne).trans hmb3
    have hs4 := sz_put w3 (sz W) (.mapIter (some mb) c ((vis.map (·.2.2)).toArray.push x.2.2) c)
    generalize put w3 (sz W) (.mapIter (some mb) c ((vis.map (·.2.2)).toArray.push x.2.2) c) = w4 at *
    have hsp : splice ((bc (List.replicate 32 0)).toArray ++ #[i64 0, Value.slice none 0 0, i64 0, i64 0]) 0 cs = cs := splice_all _ _ (by rw [hsz]; rfl)
    have hex : cs.extract 0 36 = cs := by rw [← hsz]; exact Array.extract_size
    have hz : ((bc (List.replicate 32 0)).toArray ++ #[i64 0, Value.slice none 0 0, i64 0, i64 0]).size = 36 := rfl
    rw [hcs]
    simp (maxSteps := 2000000) (disch := first | exact dT_ | fail) only [p_extract0, Branch_bool, and_true, Bool.true_eq_false, false_implies, forall_const]
    unfold F45x1
    simp (maxSteps := 2000000) (disch := first | exact dT_ | fail) only [q_entry (m := m) (enc := idv) hmb4 hit4 hxm (by simp) (born_inj hn hxm), hcs, hsp, hsz, hz, hex, p_extract1, put_allocN, Ln_cells, St_cells, Hp_alloc_new, cells_agg, Nat.zero_add, Nat.reduceLeDiff, if_pos, and_self, ld36, st36, al36, zv36]
    have hx5 : Ext (fun _ => False) w4 (w4.alloc (.cells cs 36 (0, 0))) := (Ext.refl _ _).alloc _
    have hj5 := hJ _ _ (w4.alloc (.cells cs 36 (0, 0))) (fun _ => False) hj4 hx5 fun _ _ h => h.elim
    have hmb5 := hx5.at hmb4 not_false
    have hit5 := hx5.at hit4 not_false
    obtain ⟨fn, tmps, assign, body, hr, hR⟩ := hY _ (.agg cs) _ ⟨cs, rfl, hsz, hone⟩ (by rw [List.length_map]; have := (mleft_step hn hp hxl).length_eq; simp at this; omega) hj5
    refine ⟨fn, tmps, assign, body, hr, hR.mono ?_⟩
    rintro e B ⟨rfl, hj6, hk6⟩
    have e6 : seenOf B (sz W) = vis.length + 1 := by unfold seenOf; rw [hk6.2 _ _ hit5 rfl]; simp
    have e2 : seenOf w2 (sz W) = vis.length := by unfold seenOf; rw [hit]; simp
    have hlen := (mleft_step hn hp hxl).length_eq
    show PRun _ _ _
    simp (maxSteps := 2000000) (disch := first | exact dT_ | fail) only [p_not, Branch_bool, Bool.not_true, true_and, Bool.false_eq_true, false_implies, forall_const]
    refine ⟨⟨vis ++ [x], mleft_step hn hp hxl, ?_, hk6.2 _ _ hmb5 rfl, ?_⟩, ?_⟩
    · rw [List.map_append, List.map_cons, List.map_nil, hcs]; exact hj6
    · have := hk6.2 _ _ hit5 rfl
      rw [this]; simp
    · rw [e6, e2]; simp at hlen; omega
def O65_0 : List Oper := [(Oper.mk (some 2) (Op.box 33 (Operand.tmp 0)) 0 "iter.go:50" #[] none), (Oper.mk (some 4) (Op.assign (Operand.const (Value.slice none 0 0))) 33 "iter.go:50" #[] none)]
def O65_1 : List Oper := [(Oper.mk (some 6) (Op.move (Operand.tmp 1)) 64 "iter.go:51" #[] none)]
def O65_2 : List Oper := [(Oper.mk (some 5) (Op.alloc 36) 0 "iter.go:51" #[] none), (Oper.mk none (Op.store 36 (Operand.tmp 5) (Operand.tmp 7)) 0 "iter.go:51" #[(Edge.mk 0 Ground.data), (Edge.mk 0 Ground.phase)] none)]
def O65_3 : List Oper := [(Oper.mk (some 8) (Op.load 33 (Operand.tmp 2)) 33 "iter.go:52" #[] none), (Oper.mk (some 9) (Op.load 36 (Operand.tmp 5)) 36 "iter.go:52" #[] none), (Oper.mk (some 10) (Op.buildSlice 33 1 #[(0, (Operand.tmp 9))]) 33 "iter.go:52" #[(Edge.mk 1 Ground.data)] none), (Oper.mk (some 11) (Op.call (Call.mk (Callee.builtin Builtin.append) #[(Operand.tmp 8), (Operand.tmp 10)] #[33, 33])) 33 "iter.go:52" #[(Edge.mk 0 Ground.data), (Edge.mk 2 Ground.data)] none), (Oper.mk none (Op.store 33 (Operand.tmp 2) (Operand.tmp 11)) 0 "iter.go:52" #[(Edge.mk 3 Ground.data), (Edge.mk 3 Ground.chain), (Edge.mk 0 Ground.phase), (Edge.mk 1 Ground.phase), (Edge.mk 2 Ground.phase), (Edge.mk 3 Ground.phase)] none)]
def O65_4 : List Oper := [(Oper.mk (some 12) (Op.load 33 (Operand.tmp 2)) 33 "iter.go:54" #[] none), (Oper.mk (some 4) (Op.assign (Operand.tmp 12)) 33 "iter.go:54" #[(Edge.mk 0 Ground.data), (Edge.mk 0 Ground.phase)] none)]
noncomputable def C65 : Code := Try.f65.body.getD .skip
theorem B65 : Try.f65.body = some C65 := by kernel_rfl
theorem S65 : C65 = (Code.seq (Code.region 0 O65_0.toArray false) (Code.seq (Code.seq (Code.region 1 O65_1.toArray false) (Code.block 0 (Code.rangeFunc (Operand.tmp 6) #[7] (Code.region 2 O65_2.toArray false) (Code.block 1 (Code.region 3 O65_3.toArray false))))) (Code.seq (Code.region 4 O65_4.toArray false) Code.ret))) := by kernel_rfl
def ok36 (x : Value) : Prop := ∃ cs, x = .agg cs ∧ cs.size = 36 ∧ allOne cs
theorem r65_0 (E : Env) (w : World) (K : Env → World → Prop) : seqF Try.prog 13 O65_0 K O65_0 [.e, .p] E w =
    Run Try.prog (Instr.box 33 (E 0)) w fun v2 w1 => K ((E.set 2 v2).set 4 (.slice none 0 0)) w1 := by kernel_rfl
theorem r65_1 (E : Env) (w : World) (K : Env → World → Prop) : seqF Try.prog 13 O65_1 K O65_1 [.p] E w = K (E.set 6 (E 1)) w := by kernel_rfl
theorem r65_2 (E : Env) (w : World) (K : Env → World → Prop) : seqF Try.prog 13 O65_2 K O65_2 [.e, .e] E w =
    Run Try.prog (Instr.alloc 36 true (.tuple #[])) w fun v5 w1 => Run Try.prog (Instr.storeAt 36 v5 (E 7)) w1 fun _ w2 => K (E.set 5 v5) w2 := by kernel_rfl
theorem r65_3 (E : Env) (w : World) (K : Env → World → Prop) : seqF Try.prog 13 O65_3 K O65_3 [.q, .q, .e, .e, .e] E w =
    QRun Try.prog (Instr.loadAt 33 (E 2)) w fun v8 => QRun Try.prog (Instr.loadAt 36 (E 5)) w fun v9 => Run Try.prog (Instr.buildSlice 33 1 #[(0, v9)]) w fun v10 w1 =>
    Run Try.prog (Builtin.append_ #[33, 33] 33 #[v8, v10]) w1 fun v11 w2 => Run Try.prog (Instr.storeAt 33 (E 2) v11) w2 fun _ w3 => K ((((E.set 8 v8).set 9 v9).set 10 v10).set 11 v11) w3 := by kernel_rfl
theorem catC_snoc (l : List Value) (cs : Array Value) : catC (l ++ [.agg cs]) = catC l ++ cs.toList := by simp [catC, cells_agg]
theorem catC_one (cs : Array Value) : catC [.agg cs] = cs.toList := by simp [catC, cells_agg]
theorem appendSeq_spec {w : World} {gf N : Nat} {lb : Array Value} {S : List Value → Prop} (eg : ∀ args w, (callFunc gf args).run Try.prog w = .ok (.enter gf args) w)
    (hG : ∀ W, Ext (fun _ => False) w W → Gives Try.prog gf lb (fun x : Value => x) ok36 N S W) (hN : N ≤ 1000000000) :
    Calls Try.prog 65 #[.slice none 0 0, .func (.func gf) #[] lb] w (retK fun v w' => ∃ xs, S xs ∧ (∀ x ∈ xs, ok36 x) ∧ Vec w' 36 36 v xs.length (catC xs) (fun b => sz w ≤ b) ∧ Ext (fun _ => False) w w') := by
  refine (callsIn_wide (n := 0)).1 (callsIn_of_wp_marks (F := Fence.wide) Try.func65 B65 trivial ?_)
  rw [show ({ tmps := #[.slice none 0 0, .func (.func gf) #[] lb] ++ Array.replicate (Try.f65.ntmps - (#[.slice none 0 0, .func (.func gf) #[] lb] : Array Value).size) undef, defers := [] } : Act) = act 13 (envOf [.slice none 0 0, .func (.func gf) #[] lb] 0) from by
    rw [Try.ntmps65]; exact act_init [.slice none 0 0, .func (.func gf) #[] lb] 13 (by simp), S65]
  let E0 : Env := envOf [.slice none 0 0, .func (.func gf) #[] lb] 0
  let w1 := w.alloc (.cells #[.slice none 0 0] 33 (0, 0))
  let E1 : Env := ((E0.set 2 (ptr (sz w) 0)).set 4 (.slice none 0 0)).set 6 (E0 1)
  have hx1 : Ext (fun _ => False) w w1 := (Ext.refl _ w).alloc _
  have hs1 : sz w1 = sz w + 1 := sz_alloc _ _
  refine wpIn_seq ?_
  refine region_seq (r := none) (K := fun E' w' => E' = (E0.set 2 (ptr (sz w) 0)).set 4 (.slice none 0 0) ∧ w' = w1) (cs := [.e, .p]) rfl ?_ ?_
  rotate_left
  · rw [r65_0]
    simp (maxSteps := 2000000) (disch := first | exact dT_ | fail) only [r_box]
    exact ⟨rfl, rfl⟩
  rintro E' w' _ ⟨rfl, rfl⟩
  show Code.wpIn _ _ _ _ _ _ _
  refine wpIn_seq (wpIn_seq ?_)
  refine region_seq (r := none) (K := fun E' w' => E' = E1 ∧ w' = w1) (cs := [.p]) rfl ?_ ?_
  rotate_left
  · rw [r65_1]; exact ⟨rfl, rfl⟩
  rintro E' w' _ ⟨rfl, rfl⟩
  show Code.wpIn _ _ _ _ _ _ _
  refine wpIn_block ?_
  refine rf_law (gf := gf) (lb := lb) (ok := ok36) (N := N) (S := S) (enc := fun x : Value => x) rfl eg (hG w1 hx1)
    (fun pre A => ∃ v, Hp A (sz w) = some (.cells #[v] 33 (0, 0)) ∧ Vec A 36 36 v pre.length (catC pre) (fun b => sz w < b) ∧ Ext (fun _ => False) w A ∧ ∀ x ∈ pre, ok36 x) ?_ ?_ ?_ ?_
  · rintro pre A B M ⟨v, h1, h2, h3, h4⟩ hx hM
    refine ⟨v, hx.at h1 fun hm => ?_, ?_, h3.trans hx (fun b hb hm => ?_), h4⟩
    · have := (hM _ (Hp_lt h1) hm).1; omega
    · obtain ⟨hl, hv⟩ := h2
      refine ⟨hl, hv.imp id ?_⟩
      rintro ⟨b, o, cap, row, e1, e2, e3, e4, e5, e6⟩
      refine ⟨b, o, cap, row, e1, e2, hx.at e3 fun hm => ?_, e4, e5, e6⟩
      obtain ⟨_, ob, ho, hc⟩ := hM _ (Hp_lt e3) hm
      rw [e3] at ho; cases ho; cases hc
    · have := (hM b (Nat.lt_of_lt_of_le hb h3.size) hm).1; omega
  · exact ⟨_, Hp_alloc_new _ _ _ rfl, Vec.nil _ _ _ _, hx1, by simp⟩
  · rintro l pre x A ⟨cs, rfl, hsz, hone⟩ hlen ⟨v, h1, h2, h3, h4⟩
    have hsp : splice ((bc (List.replicate 32 0)).toArray ++ #[i64 0, Value.slice none 0 0, i64 0, i64 0]) 0 cs = cs := splice_all _ _ (by rw [hsz]; rfl)
    have hex : cs.extract 0 36 = cs := by rw [← hsz]; exact Array.extract_size
    have hz : ((bc (List.replicate 32 0)).toArray ++ #[i64 0, Value.slice none 0 0, i64 0, i64 0]).size = 36 := rfl
    refine region_seq (r := some l) (K := fun E' w' => E' = (E1.set 7 (.agg cs)).set 5 (ptr (sz A) 0) ∧ w' = A.alloc (.cells cs 36 (0, 0))) (cs := [.e, .e]) rfl ?_ ?_
    rotate_left
    · rw [r65_2]
      simp (maxSteps := 2000000) (disch := first | exact dT_ | fail) only [show (E1.set 7 (.agg cs)) 7 = .agg cs from rfl, hsp, hsz, hz, put_allocN, St_cells, Hp_alloc_new, cells_agg, Nat.zero_add, Nat.reduceLeDiff, if_pos, true_and, and_self, st36, al36, zv36]
    rintro E' w' _ ⟨rfl, rfl⟩
    refine ⟨⟨by rw [sz_alloc]; omega, fun b o hb _ => by rw [Hp_alloc_old _ _ _ (Hp_lt hb)]; exact hb⟩, ?_⟩
    intro A2 hx2 ⟨ol, hol, hcl⟩ hll
    refine wpIn_block ?_
    have hA : Ext (fun _ => False) A (A.alloc (.cells cs 36 (0, 0))) := (Ext.refl _ A).alloc _
    have hlA : Hp A2 (sz A) = some (.cells cs 36 (0, 0)) := hx2.at (Hp_alloc_new _ _ _ rfl) fun e => by
      subst e; rw [Hp_alloc_new _ _ _ rfl] at hol; cases hol; cases hcl
    have h1A : Hp A2 (sz w) = some (.cells #[v] 33 (0, 0)) := hx2.at (hA.at h1 not_false) fun e => by
      subst e; rw [hA.at h1 not_false] at hol; cases hol; cases hcl
    have h2A : Vec A2 36 36 v pre.length (catC pre) (fun b => sz w < b) := by
      obtain ⟨hl, hv⟩ := h2
      refine ⟨hl, hv.imp id ?_⟩
      rintro ⟨b, o, cap, row, e1, e2, e3, e4, e5, e6⟩
      refine ⟨b, o, cap, row, e1, e2, hx2.at (hA.at e3 not_false) fun e => ?_, e4, e5, e6⟩
      subst e; rw [hA.at e3 not_false] at hol; cases hol; cases hcl
    have h3A : Ext (fun _ => False) w A2 := (h3.trans hA fun _ _ h => h).trans hx2 fun b hb e => by subst e; omega
    refine region_seq (r := some l) (K := fun E' B => keepO A2 B ∧ ∃ v, Hp B (sz w) = some (.cells #[v] 33 (0, 0)) ∧ Vec B 36 36 v (pre ++ [Value.agg cs]).length (catC (pre ++ [Value.agg cs])) (fun b => sz w < b) ∧ Ext (fun _ => False) w B ∧ ∀ x ∈ pre ++ [Value.agg cs], ok36 x)
      (cs := [.q, .q, .e, .e, .e]) rfl ?_ ?_
    · rintro E' B _ hk; exact ⟨rfl, hk⟩
    rw [r65_3]
    rw [show ((E1.set 7 (.agg cs)).set 5 (ptr (sz A) 0)) 2 = ptr (sz w) 0 from rfl, show ((E1.set 7 (.agg cs)).set 5 (ptr (sz A) 0)) 5 = ptr (sz A) 0 from rfl]
    have hcc : ∀ v ∈ [Value.agg cs], v.cells.size = 36 := by simp [cells_agg, hsz]
    simp (maxSteps := 2000000) (disch := first | exact dT_ | fail) only [h1A, hlA, hsz, hex, bs33_1 _ hcc, L1_cells, Ln_cells, List.getElem?_toArray, List.getElem?_cons_zero, Option.elim_some, Nat.zero_add, Nat.reduceLeDiff, if_pos, forall_const, ld33, ld36, bs33_1]
    have hxB : Ext (fun _ => False) A2 (A2.alloc (.cells (catC [Value.agg cs]).toArray 36 (0, 0))) := (Ext.refl _ _).alloc _
    have hlw : sz w < sz A2 := Hp_lt h1A
    refine ap33 33 (h2A.ext hxB fun _ _ _ => not_false) (Vec.fresh (e := 36) (z := 36) (n := 1) (catC [Value.agg cs]).toArray (by simp [catC_one, hsz])).src (by rw [catC_one, List.toList_toArray]; exact hone) (by omega) ?_
    intro v' B hv' hxB'
    have h1B : Hp B (sz w) = some (.cells #[v] 33 (0, 0)) := hxB'.at (hxB.at h1A not_false) fun e => by have := (h2A.block e).1; omega
    have hltB := Hp_lt h1B
    have hv'' : Vec B 36 36 v' (pre.length + 1) (catC pre ++ (catC [Value.agg cs]).toArray.toList) (fun b => sz w < b) := hv'.mono fun b _ h => by
      rcases h with h | h
      · exact (h2A.block h).1
      · rw [h, sz_alloc]; omega
    obtain ⟨sa, sc, rfl⟩ := hv''.slice
    simp (maxSteps := 2000000) (disch := first | exact dT_ | fail) only [h1B, St_cells, Hp_put_same, cells_sl, Nat.zero_add, List.size_toArray, List.length_cons, List.length_nil, Nat.reduceLeDiff, if_pos, and_self, forall_const, splice_lit, List.set_cons_zero, st33]
    have hxP : Ext (fun b => b = sz w) B (put B (sz w) (.cells #[.slice sa (pre.length + 1) sc] 33 (0, 0))) := (Ext.refl _ _).put _ _ fun _ => rfl
    refine ⟨⟨?_, fun b o hb hc => ?_⟩, _, rfl, ?_, ?_, ?_⟩
    · rw [sz_put]; exact Nat.le_trans hxB.size hxB'.size
    · refine hxP.at (hxB'.at (hxB.at hb not_false) fun e => ?_) fun e => ?_
      · obtain ⟨_, row, hr⟩ := h2A.block e
        rw [hb] at hr; cases hr; cases hc
      · subst e; rw [h1A] at hb; cases hb; cases hc
    · have := hv''.ext hxP fun b _ h e => by omega
      rw [List.length_append, catC_snoc]
      simpa [catC_one] using this
    · refine ((h3A.trans hxB fun _ _ h => h).trans hxB' (M' := fun b => some b = blockOf v) fun b hb e => ?_).trans hxP fun b hb e => ?_
      · have := (h2A.block e).1; omega
      · omega
    · intro x hx
      rcases List.mem_append.1 hx with h | h
      · exact h4 x h
      · rw [List.mem_singleton.1 h]; exact ⟨cs, rfl, hsz, hone⟩
  · rintro D xs A hS ⟨v, h1, h2, h3, h4⟩ hD hDl
    show Code.wpIn _ _ _ _ _ _ _
    refine wpIn_seq (wpIn_region ?_)
    have hev : ({ act 13 E1 with defers := [{ target := .collected D, args := #[] }] } : Act).eval = ev 13 E1 := evalD _ _ _
    have hb0 : (Instr.loadAt 33 (ptr (sz w) 0)).run Try.prog A = .ok v A := by
      have h : QRun Try.prog (Instr.loadAt 33 (ptr (sz w) 0)) A fun u => u = v := by simp (maxSteps := 2000000) (disch := first | exact dT_ | fail) only [h1, L1_cells, List.getElem?_toArray, List.getElem?_cons_zero, Option.elim_some, ld33]
      exact QRun.at h
    show wpOpsIn _ _ _ _ _ [0, 1] _ _
    rw [wpOpsIn_cons]
    refine wpOp_val (n := 13) (E := E1) (v := v) rfl rfl hev (fun c h => by cases h) hb0 ?_
    rw [putD, wpOpsIn_cons]
    refine wpOp_val (n := 13) (E := E1.set 12 v) (v := v) rfl rfl (evalD _ _ _) (fun c h => by cases h) rfl ?_
    rw [putD]
    show Code.wpIn _ _ _ _ _ _ _
    refine wpIn_ret ⟨by simp, .inl ⟨D, _, rfl, run_takeDeferred hD, ?_⟩⟩
    have hres : resV Try.prog 13 ((E1.set 12 v).set 4 v) Try.f65.results.toList (put A D (.deferred none)) fun vs => vs = [v] := by
      rw [show Try.f65.results.toList = [.tmp 4] from by kernel_rfl]; exact rfl
    obtain ⟨vs, hr, rfl⟩ := resV_results hres
    refine ⟨v, hr, xs, hS, h4, ?_, ?_⟩
    · refine (h2.extc ((Ext.refl (fun b => b = D) A).put D (.deferred none) fun _ => rfl) fun b row hb _ e => ?_).mono fun b _ h => Nat.le_of_lt h
      subst e; rw [hD] at hb; cases hb
    · exact h3.put _ _ fun h => by omega
end Go.Proofs
namespace Go.Proofs
open Go Go.Lf
set_option maxRecDepth 20000
set_option maxHeartbeats 2000000
set_option linter.unusedSimpArgs false
set_option linter.unusedVariables false
structure SD where
  ver : Int
  data : List UInt8
  src : Int
  exp : Int
/-- a slot's cells -/
def scell (key : List UInt8) (d : SD) (dv : Value) : Array Value := (bc key).toArray ++ #[i64 d.ver, dv, i64 d.src, i64 d.exp]
section
variable {key : List UInt8} (hk : key.length = 32) {d : SD} {dv : Value}
theorem sc_form : scell key d dv = (bc key ++ [i64 d.ver, dv, i64 d.src, i64 d.exp]).toArray := by simp [scell]
include hk
theorem sc_size : (scell key d dv).size = 36 := by rw [sc_form]; simp [bc_length, hk]
theorem sc_at (j : Nat) (x : Value) (hx : [i64 d.ver, dv, i64 d.src, i64 d.exp][j]? = some x) : (scell key d dv)[32 + j]? = some x := by
  rw [sc_form, List.getElem?_toArray, List.getElem?_append_right (by rw [bc_length]; omega), bc_length, hk]
  rw [show 32 + j - 32 = j by omega]; exact hx
theorem sc_32 : (scell key d dv)[32]? = some (i64 d.ver) := sc_at hk 0 _ rfl
theorem sc_33 : (scell key d dv)[33]? = some dv := sc_at hk 1 _ rfl
theorem sc_34 : (scell key d dv)[34]? = some (i64 d.src) := sc_at hk 2 _ rfl
theorem sc_35 : (scell key d dv)[35]? = some (i64 d.exp) := sc_at hk 3 _ rfl
theorem sc_key : (scell key d dv).extract 0 32 = (bc key).toArray := ext_bc _ hk
theorem sc_all : (scell key d dv).extract 0 36 = scell key d dv := by rw [← sc_size hk (d := d) (dv := dv)]; exact Array.extract_size
theorem sc_put (j : Nat) (x : Value) (hj : j < 4) : splice (scell key d dv) (32 + j) #[x] = (bc key ++ [i64 d.ver, dv, i64 d.src, i64 d.exp].set j x).toArray := by
  rw [splice_one _ _ _ (by rw [sc_size hk]; omega), sc_form]
  simp only [List.setIfInBounds_toArray]
  rw [List.set_append_right _ _ (by rw [bc_length]; omega), bc_length, hk, show 32 + j - 32 = j by omega]
theorem sc_putD (dv' : Value) : splice (scell key d dv) 33 #[dv'] = scell key d dv' := by rw [show 33 = 32 + 1 from rfl, sc_put hk 1 _ (by omega), sc_form]; rfl
theorem sc_putE (e : Int) : splice (scell key d dv) 35 #[i64 e] = scell key { d with exp := e } dv := by rw [show 35 = 32 + 3 from rfl, sc_put hk 3 _ (by omega), sc_form]; rfl
omit hk in
theorem sc_one (hd : oneCell dv) : allOne (scell key d dv) := allOne_app _ _ (allOne_bc _) (allOne_int _ _ _ (allOne_cons _ _ hd (allOne_int _ _ _ (allOne_int _ _ _ allOne_nil))))
theorem sc_over {key' : List UInt8} (hk' : key'.length = 32) {d' : SD} {dv' : Value} : splice (scell key d dv) 0 (scell key' d' dv') = scell key' d' dv' := splice_all _ _ (by rw [sc_size hk, sc_size hk'])
theorem sc_bld (a : Option Addr) (n c : Nat) (v s e : Int) (K : Value → Prop) : PRun Try.prog (Instr.build 36 #[(0, idv key), (1, i64 v), (2, .slice a n c), (3, i64 s), (4, i64 e)]) K = K (.agg (scell key ⟨v, [], s, e⟩ (.slice a n c))) := by
  rw [bld36_0_1_2_3_4 _ _ _ _ _ (by rw [idv_cells, bc_size, hk]) rfl rfl rfl rfl]
  have e0 : splice ((bc (List.replicate 32 0)).toArray ++ #[i64 0, .slice none 0 0, i64 0, i64 0]) 0 (bc key).toArray = scell key ⟨0, [], 0, 0⟩ (.slice none 0 0) := splice_id _ (by rw [zero32, hk])
  rw [idv_cells, cells_int, cells_sl, cells_int, cells_int]
  show K (.agg (splice (splice (splice (splice (splice ((bc (List.replicate 32 0)).toArray ++ #[i64 0, .slice none 0 0, i64 0, i64 0]) 0 (bc key).toArray) (32 + 0) _) (32 + 1) _) (32 + 2) _) (32 + 3) _)) = _
  rw [e0, sc_put hk 0 _ (by omega)]
  have f1 : ∀ (d : SD) (dv : Value), (bc key ++ [i64 d.ver, dv, i64 d.src, i64 d.exp]).toArray = scell key d dv := fun d dv => sc_form.symm
  have g1 : ([i64 0, Value.slice none 0 0, i64 0, i64 0].set 0 (i64 v)) = [i64 v, .slice none 0 0, i64 0, i64 0] := rfl
  simp only []
  rw [g1, f1 ⟨v, [], 0, 0⟩, sc_put hk 1 _ (by omega)]
  have g2 : ([i64 v, Value.slice none 0 0, i64 0, i64 0].set 1 (.slice a n c)) = [i64 v, .slice a n c, i64 0, i64 0] := rfl
  simp only []
  rw [g2, f1 ⟨v, [], 0, 0⟩, sc_put hk 2 _ (by omega)]
  have g3 : ([i64 v, Value.slice a n c, i64 0, i64 0].set 2 (i64 s)) = [i64 v, .slice a n c, i64 s, i64 0] := rfl
  simp only []
  rw [g3, f1 ⟨v, [], s, 0⟩, sc_put hk 3 _ (by omega)]
  have g4 : ([i64 v, Value.slice a n c, i64 s, i64 0].set 3 (i64 e)) = [i64 v, .slice a n c, i64 s, i64 e] := rfl
  simp only []
  rw [g4, f1 ⟨v, [], s, e⟩]
end
/-- what a map of at most one slot holds -/
abbrev Ent := Option (SD × Value × Nat)
def entL (key : List UInt8) : Ent → Ents (List UInt8)
  | none => []
  | some (d, v, b) => [(key, .agg (scell key d v), b)]
structure SlC (w : World) (p mb : Nat) (key : List UInt8) (o : Ent) (c : Nat) (Q : Nat → Prop) : Prop where
  hp : Hp w p = some (.cells #[i64 2, .map (some mb)] 48)
  hm : Hp w mb = some (.map (entsOf idv (entL key o)) c)
  data : ∀ d v b, o = some (d, v, b) → Bytes 5 w v d.data Q ∧ b < c ∧ d.data.length ≤ 10000
theorem SlC.ext {w w' : World} {p mb c : Nat} {key : List UInt8} {o : Ent} {Q M : Nat → Prop} (h : SlC w p mb key o c Q) (x : Ext M w w') (hM : ∀ b, b < sz w → b = p ∨ b = mb ∨ Q b → ¬ M b) : SlC w' p mb key o c Q :=
  ⟨x.at h.hp (hM _ (Hp_lt h.hp) (.inl rfl)), x.at h.hm (hM _ (Hp_lt h.hm) (.inr (.inl rfl))), fun d v b e => ⟨Vec.ext (h.data d v b e).1 x fun b hb hq => hM b hb (.inr (.inr hq)), (h.data d v b e).2⟩⟩
theorem SlC.ext0 {w w' : World} {p mb c : Nat} {key : List UInt8} {o : Ent} {Q : Nat → Prop} (h : SlC w p mb key o c Q) (x : Ext (fun _ => False) w w') : SlC w' p mb key o c Q := h.ext x fun _ _ _ => not_false
end Go.Proofs
namespace Go.Proofs
open Go Go.Lf
set_option maxRecDepth 20000
set_option maxHeartbeats 2000000
set_option linter.unusedSimpArgs false
set_option linter.unusedVariables false
theorem sweep1_spec {w : World} {b3 : Nat} {key : List UInt8} (hk : key.length = 32) {d : SD} {dv : Value} (hd : oneCell dv) (hn : Hp w b3 = some (.cells #[i64 0] 3)) (he : 0 < d.exp) :
    Calls Try.prog 41 #[idv key, .agg (scell key d dv), ptr b3 0] w (retK fun v w' => v = .bool false ∧ Ext (fun _ => False) w w') := by
  refine F41_ok _ _ _ _ _ ?_
  unfold F41
  have h1 := sc_35 hk (d := d) (dv := dv)
  have hl := Hp_lt hn
  have g : ¬ d.exp ≤ 0 := by omega
  simp (maxSteps := 2000000) (disch := first | exact dT_ | fail) only [h1, hn, g, p_leq, r_box, L1_cells, Hp_alloc_new, Hp_alloc_old, cells_agg, List.getElem?_toArray, List.getElem?_cons_zero, Option.elim_some, Nat.zero_add, true_and, decide_false, fld36_4, ld3]
  exact ((Ext.refl _ _).alloc _).alloc _
/-- nothing is over: nothing goes -/
theorem delfn_spec {w : World} {p mb c b3 : Nat} {key : List UInt8} {o : Ent} {Q : Nat → Prop} (hk : key.length = 32) (h : SlC w p mb key o c Q) (hn : Hp w b3 = some (.cells #[i64 0] 3)) (he : ∀ d v b, o = some (d, v, b) → 0 < d.exp) :
    Calls Try.prog 40 #[.map (some mb), .func (.func 41) #[] #[ptr b3 0]] w (retK fun v w' => v = .tuple #[] ∧ Ext (fun _ => False) w w') := by
  refine F40_ok _ _ _ _ ?_
  unfold F40
  obtain ⟨m, hm⟩ : ∃ m, m = entL key o := ⟨_, rfl⟩
  have hmb := h.hm
  rw [← hm] at hmb
  have hlm := Hp_lt hmb
  have hc : ∀ x ∈ m, x.2.2 < c := by
    intro x hx
    rw [hm] at hx
    match o, hx with
    | some (d, v, b), hx => rw [List.mem_singleton.1 hx]; exact (h.data d v b rfl).2.1
  have hnd : (m.map (·.2.2)).Nodup := by
    rw [hm]
    match o with
    | none => simp [entL]
    | some (d, v, b) => simp [entL]
  have hv : ∀ x ∈ m, ∃ d dv, x.1 = key ∧ x.2.1 = .agg (scell key d dv) ∧ oneCell dv ∧ 0 < d.exp := by
    intro x hx
    rw [hm] at hx
    match o, hx with
    | some (d, v, b), hx =>
      rw [List.mem_singleton.1 hx]
      obtain ⟨a, c', e⟩ := Vec.slice (h.data d v b rfl).1
      exact ⟨d, v, rfl, rfl, by rw [e]; trivial, he d v b rfl⟩
  simp (maxSteps := 2000000) (disch := first | exact dT_ | fail) only [r_rangeMap Try.runUnderlying46 hmb, true_and, forall_const]
  refine Loop0 (fun w2 => ∃ vis : Ents (List UInt8), (vis ++ mleft m (vis.map (·.2.2)).toArray).Perm m ∧ Ext (fun _ => False) w w2 ∧ Hp w2 mb = some (.map (entsOf idv m) c) ∧
    Hp w2 (sz w) = some (.mapIter (some mb) c (vis.map (·.2.2)).toArray c)) (fun w2 => m.length - seenOf w2 (sz w)) ⟨[], ?_, ?_, ?_, ?_⟩ ?_
  · simp [mleft_nil]
  · exact (Ext.refl _ _).alloc _
  · rw [Hp_alloc_old _ _ _ hlm]; exact hmb
  · exact Hp_alloc_new _ _ _ rfl
  rintro w2 ⟨vis, hp, hx2, hmb2, hit⟩
  refine r_nextMap (m := m) (enc := idv) hmb2 hit hc 0 ?_ ?_
  · intro hnil
    simp (maxSteps := 2000000) (disch := first | exact dT_ | fail) only [p_extract0, Branch_bool, true_and, Bool.false_eq_true, false_implies, forall_const]
    exact hx2
  · intro x hxl w3 hw3
    have hxm : x ∈ m := (List.mem_filter.1 hxl).1
    obtain ⟨d, dv, hx1, hx2', hone, hexp⟩ := hv x hxm
    have hlt2 : sz w < sz w2 := Hp_lt hit
    have hs3 : sz w3 = sz w2 := by rcases hw3 with rfl | rfl <;> rfl
    have hmb3 : Hp w3 mb = some (.map (entsOf idv m) c) := by rcases hw3 with rfl | rfl <;> exact hmb2
    have hx3 : Ext (fun _ => False) w w3 := by rcases hw3 with rfl | rfl; exact hx2; exact hx2.drew
    have hit4 := Hp_put_same w3 (sz w) (.mapIter (some mb) c ((vis.map (·.2.2)).toArray.push x.2.2) c) (by omega)
    have hx4 : Ext (fun _ => False) w (put w3 (sz w) (.mapIter (some mb) c ((vis.map (·.2.2)).toArray.push x.2.2) c)) := hx3.put _ _ fun h => by omega
    have hmb4 := (Hp_put_other w3 (sz w) mb (.mapIter (some mb) c ((vis.map (·.2.2)).toArray.push x.2.2) c) (by omega)).trans hmb3
    generalize put w3 (sz w) (.mapIter (some mb) c ((vis.map (·.2.2)).toArray.push x.2.2) c) = w4 at *
    rw [hx1, hx2']
    simp (maxSteps := 2000000) (disch := first | exact dT_ | fail) only [p_extract0, Branch_bool, and_true, Bool.true_eq_false, false_implies, forall_const]
    unfold F40x1
    have s1 : splice (bc (List.replicate 32 0)).toArray 0 (bc key).toArray = (bc key).toArray := splice_bc_all (by rw [zero32, hk])
    have s2 : splice ((bc (List.replicate 32 0)).toArray ++ #[i64 0, Value.slice none 0 0, i64 0, i64 0]) 0 (scell key d dv) = scell key d dv := splice_all _ _ (by rw [sc_size hk]; rfl)
    have z1 : ((bc (List.replicate 32 0)).toArray ++ #[i64 0, Value.slice none 0 0, i64 0, i64 0]).size = 36 := rfl
    have z2 := sc_size hk (d := d) (dv := dv)
    have z3 := sc_all hk (d := d) (dv := dv)
    have z4 := sc_one (key := key) (d := d) hone
    have z5 := zero32
    have hlt4 := Hp_lt hit4
    simp (maxSteps := 2000000) (disch := first | exact dT_ | fail) only [q_entry (m := m) (enc := idv) hmb4 hit4 hxm (by simp) (born_inj hnd hxm), hx1, hx2', s1, s2, z1, z2, z3, z5, hk, ext_bc0 hk, p_extract0, p_extract1, put_allocN, Ln_cells, St_cells, Hp_alloc_new, Hp_alloc_old, Hp_put_same, Hp_put_other, sz_alloc, cells_agg, Nat.zero_add, List.size_toArray, Nat.reduceLeDiff, if_pos, and_self, bc_length, ld25, ld36, st25, st36, al25, al36, zv25, zv36]
    obtain ⟨w7, hw7⟩ : ∃ w7, w7 = put (put ((w4.alloc (Obj.cells (bc (List.replicate 32 0)).toArray 25)).alloc (Obj.cells ((bc (List.replicate 32 0)).toArray ++ #[i64 0, Value.slice none 0 0, i64 0, i64 0]) 36)) (sz w4) (Obj.cells (bc key).toArray 25)) (sz w4 + 1) (Obj.cells (scell key d dv) 36) := ⟨_, rfl⟩
    have hx7 : Ext (fun _ => False) w4 w7 := by rw [hw7]; exact ((((Ext.refl _ _).alloc _).alloc _).put _ _ fun h => by omega).put _ _ fun h => by omega
    rw [← hw7]
    clear hw7
    have hx07 := hx4.trans hx7 fun _ _ h => h
    show CallF Try.prog 41 #[idv key, .agg (scell key d dv), ptr b3 0] w7 _
    refine CallF_by Try.call41 (sweep1_spec hk hone (hx07.at hn not_false) hexp) ?_
    rintro _ w8 ⟨rfl, hx8⟩
    rw [Branch_false]
    have hx48 := hx7.trans hx8 fun _ _ h => h
    have hit8 := hx48.at hit4 not_false
    have hlen := (mleft_step hnd hp hxl).length_eq
    have e6 : seenOf w8 (sz w) = vis.length + 1 := by unfold seenOf; rw [hit8]; simp
    have e2 : seenOf w2 (sz w) = vis.length := by unfold seenOf; rw [hit]; simp
    refine ⟨⟨vis ++ [x], mleft_step hnd hp hxl, hx4.trans hx48 fun _ _ h => h, hx48.at hmb4 not_false, ?_⟩, ?_⟩
    · rw [hit8]; simp
    · rw [e6, e2]; simp at hlen; omega
theorem sweep_spec {w : World} {p mb c : Nat} {key : List UInt8} {o : Ent} {Q : Nat → Prop} (hk : key.length = 32) (h : SlC w p mb key o c Q) (he : ∀ d v b, o = some (d, v, b) → 0 < d.exp) :
    Calls Try.prog 21 #[ptr p 0, i64 0] w (retK fun v w' => Ext (fun _ => False) w w') := by
  refine F21_ok _ _ _ _ ?_
  unfold F21
  have hp := h.hp
  have hm := h.hm
  have hx1 : Ext (fun _ => False) w (w.alloc (.cells #[i64 0] 3)) := (Ext.refl _ _).alloc _
  have hln : ∀ (w' : World) (K : Value → Prop), Hp w' mb = some (.map (entsOf idv (entL key o)) c) → QRun Try.prog (Builtin.len_ #[46] 3 #[.map (some mb)]) w' K = K (i64 (entL key o).length) := fun w' K h => q_lenMap (κ := List UInt8) (enc := idv) Try.runUnderlying46 h _ K
  obtain ⟨n, hn⟩ : ∃ n, n = (entL key o).length := ⟨_, rfl⟩
  have hx2 := hx1
  have hm1 := hx1.at hm not_false
  have hp1 := hx1.at hp not_false
  rw [r_box, cells_int]
  obtain ⟨w1, hw1⟩ : ∃ w1, w1 = w.alloc (.cells #[i64 0] 3) := ⟨_, rfl⟩
  have hb1 : Hp w1 (sz w) = some (.cells #[i64 0] 3) := by rw [hw1]; (first | exact hpt_ | fail)
  rw [← hw1] at hx1 hm1 hp1 ⊢
  clear hw1
  have q1 := fun K => hln w1 K hm1
  simp (maxSteps := 2000000) (disch := first | exact dT_ | fail) only [hp1, q1, NilCk_ptr, p_makeFunc, L1_cells, List.getElem?_toArray, List.getElem?_cons_zero, List.getElem?_cons_succ, Option.elim_some, Nat.zero_add, fld48_1, ld46]
  refine CallF_by Try.call40 (delfn_spec hk (h.ext0 hx1) hb1 he) ?_
  rintro _ w2 ⟨rfl, hx2⟩
  have hp2 := hx2.at hp1 not_false
  have q2 := fun K => hln w2 K (hx2.at hm1 not_false)
  simp (maxSteps := 2000000) (disch := first | exact dT_ | fail) only [hp2, q2, p_sub, L1_cells, List.getElem?_toArray, List.getElem?_cons_zero, List.getElem?_cons_succ, Option.elim_some]
  exact hx1.trans hx2 fun _ _ h => h
end Go.Proofs
namespace Go.Proofs
open Go Go.Lf
set_option maxRecDepth 20000
set_option maxHeartbeats 2000000
set_option linter.unusedSimpArgs false
set_option linter.unusedVariables false
/-- what setting a root does to the slot of its key -/
def setE (o : Option SD) (n : SD) : Int × Option SD :=
  match o with
  | none => (0, some n)
  | some d => if n.ver < d.ver then (14, some d) else if d.ver = n.ver then (0, some { d with exp := max d.exp n.exp }) else (0, some n)
def SlS (w : World) (p mb : Nat) (key : List UInt8) (s : Option SD) (Q : Nat → Prop) : Prop := ∃ o c, SlC w p mb key o c Q ∧ o.map (·.1) = s
theorem SlC.mono {w : World} {p mb c : Nat} {key : List UInt8} {o : Ent} {Q Q' : Nat → Prop} (h : SlC w p mb key o c Q) (hq : ∀ b, b < sz w → Q b → Q' b) : SlC w p mb key o c Q' :=
  ⟨h.hp, h.hm, fun d v b e => ⟨Vec.mono (h.data d v b e).1 hq, (h.data d v b e).2⟩⟩
theorem entL_ok {key : List UInt8} (hk : key.length = 32) (o : Ent) : ∀ x ∈ entL key o, x.1.length = 32 := by
  intro x hx
  match o, hx with
  | some (d, v, b), hx => rw [List.mem_singleton.1 hx]; exact hk
theorem set_end {w : World} {p mb c p14 : Nat} {key : List UInt8} (hk : key.length = 32) {o : Ent} {Q : Nat → Prop} (h : SlC w p mb key o c Q) {n : SD} {dv : Value} (h14 : Hp w p14 = some (.cells (scell key n dv) 36)) (hdv : oneCell dv) (hne : mb ≠ p14) {K : Value → World → Prop}
    (hK : ∀ b' c', b' < c' → K (i64 0) (put w.drew mb (.map (entsOf idv (entL key (some (n, dv, b')))) c'))) :
    L1 Try.prog 46 w.drew p 1 (Hp w p) fun v110 =>
      Ln Try.prog 25 32 w.drew p14 0 (Hp w p14) fun v112 =>
      Ln Try.prog 36 36 w.drew p14 0 (Hp w p14) fun v113 =>
      Run Try.prog (Instr.mapUpdate 46 v110 v112 v113) w.drew fun _ w18 =>
      K (.int .i64 0) w18 := by
  have hp := h.hp
  have hm := h.hm
  have hmd : MapAt w.drew mb idv (entL key o) c := hm
  have z2 := sc_size hk (d := n) (dv := dv)
  have z3 := sc_all hk (d := n) (dv := dv)
  have z6 := sc_key hk (d := n) (dv := dv)
  have z7 : 32 ≤ (scell key n dv).size := by rw [z2]; decide
  simp (maxSteps := 2000000) (disch := first | exact dT_ | fail) only [hp, h14, z2, z3, z6, r_mapUpdate key25 Try.runUnderlying46 hmd key hk (entL_ok hk o), L1_cells, Ln_cells, List.getElem?_toArray, List.getElem?_cons_zero, List.getElem?_cons_succ, Option.elim_some, Nat.zero_add, Nat.reduceLeDiff, if_pos]
  match o, h, hm, hmd, hK with
  | none, h, hm, hmd, hK =>
    exact hK c (c + 1) (by omega)
  | some (d, v, b), h, hm, hmd, hK =>
    have := hK b c (h.data d v b rfl).2.1
    have e1 : mset (entL key (some (d, v, b))) key (.agg (scell key n dv)) c = entL key (some (n, dv, b)) := by simp [entL, mset]
    have e2 : mclock (entL key (some (d, v, b))) key c = c := by simp [entL, mclock, mget]
    rw [e1, e2]
    exact this
theorem set_x3 {w : World} {p mb c p14 p11 : Nat} {key : List UInt8} (hk : key.length = 32) {o : Ent} {Q : Nat → Prop} (h : SlC w p mb key o c Q) {n : SD} {dv pv sv : Value} {node : List UInt8} (hnode : node.length = 32) (h14 : Hp w p14 = some (.cells (scell key n dv) 36)) (h11 : Hp w p11 = some (.cells (rootV pv n.ver node sv) 39))
    (hdv : Bytes 5 w dv n.data Q) (hnl : n.data.length ≤ 10000) (hne : p ≠ p14 ∧ mb ≠ p14 ∧ p11 ≠ p14 ∧ p ≠ mb) (hQ : ∀ b, Q b → b ≠ mb ∧ b ≠ p14) {K : Value → World → Prop}
    (hK : ∀ w', SlS w' p mb key (setE (o.map (·.1)) n).2 Q → Ext (fun b => b = mb ∨ b = p14) w w' → K (i64 (setE (o.map (·.1)) n).1) w') :
    F9x3 (ptr p 0) w (ptr p14 0) (ptr p11 0) K (i64 n.exp) := by
  unfold F9x3
  have hp := h.hp
  have hm := h.hm
  have hmd : MapAt w.drew mb idv (entL key o) c := hm
  have z2 := sc_size hk (d := n) (dv := dv)
  have z3 := sc_all hk (d := n) (dv := dv)
  have z6 := sc_key hk (d := n) (dv := dv)
  have z7 : 32 ≤ (scell key n dv).size := by rw [z2]; decide
  have hlk : ∀ (w' : World), Hp w' mb = some (.map (entsOf idv (entL key o)) c) → ∀ K, QRun Try.prog (Instr.lookup 46 (.map (some mb)) (idv key) true) w' K = K (.tuple #[(mget (entL key o) key).getD z36, .bool (mget (entL key o) key).isSome]) := fun w' h K => q_lookup2 key25 Try.runUnderlying46 hz36 h key hk (entL_ok hk o) K
  have q1 := hlk w.drew hm
  simp (maxSteps := 2000000) (disch := first | exact dT_ | fail) only [hp, h14, z2, z6, q1, NilCk_ptr, Pick_bool, p_extract0, p_extract1, L1_cells, Ln_cells, Hp_drew, Hp_alloc_new, sz_drew, cells_agg, List.getElem?_toArray, List.getElem?_cons_zero, List.getElem?_cons_succ, Option.elim_some, Nat.zero_add, Nat.add_zero, List.size_toArray, List.length_cons, List.length_nil, Nat.reduceAdd, Nat.reduceLeDiff, if_pos, forall_const, ext_bc, bc_length, Array.size_append, List.length_replicate, fld36_0, fld36_1, fld39_1, fld48_1, ld25, ld36, ld46, al36, zv36]
  obtain ⟨w13, hw13⟩ : ∃ w13, w13 = w.drew.alloc (.cells ((bc (List.replicate 32 0)).toArray ++ #[i64 0, Value.slice none 0 0, i64 0, i64 0]) 36) := ⟨_, rfl⟩
  have hx13 : Ext (fun _ => False) w w13 := by rw [hw13]; exact ((Ext.refl _ _).drew).alloc _
  have h13 : Hp w13 (sz w) = some (.cells ((bc (List.replicate 32 0)).toArray ++ #[i64 0, Value.slice none 0 0, i64 0, i64 0]) 36) := by rw [hw13]; exact Hp_alloc_new _ _ _ rfl
  rw [← hw13]
  clear hw13
  have hp13 := hx13.at hp not_false
  have hm13 := hx13.at hm not_false
  have h1413 := hx13.at h14 not_false
  have h1113 := hx13.at h11 not_false
  have q2 := hlk w13 hm13
  have lp := Hp_lt hp
  have lm := Hp_lt hm
  have l14 := Hp_lt h14
  have l11 := Hp_lt h11
  have zz : ((bc (List.replicate 32 0)).toArray ++ #[i64 0, Value.slice none 0 0, i64 0, i64 0]).size = 36 := rfl
  simp (maxSteps := 2000000) (disch := first | exact dT_ | fail) only [q2, hp13, h1413, z2, z6, L1_cells, Ln_cells, List.getElem?_toArray, List.getElem?_cons_zero, List.getElem?_cons_succ, Option.elim_some, Nat.zero_add, Nat.reduceLeDiff, if_pos, true_and, zv36]
  match o, h, hm, hm13, hK with
  | none, h, hm, hm13, hK =>
    have e1 : mget (entL key none) key = none := rfl
    have zo : allOne ((bc (List.replicate 32 0)).toArray ++ #[i64 0, Value.slice none 0 0, i64 0, i64 0]) := by (first | exact allOneT_ | fail)
    have zs : splice ((bc (List.replicate 32 0)).toArray ++ #[i64 0, Value.slice none 0 0, i64 0, i64 0]) 0 ((bc (List.replicate 32 0)).toArray ++ #[i64 0, Value.slice none 0 0, i64 0, i64 0]) = (bc (List.replicate 32 0)).toArray ++ #[i64 0, Value.slice none 0 0, i64 0, i64 0] := splice_all _ _ rfl
    rw [e1]
    simp (maxSteps := 2000000) (disch := first | exact dT_ | fail) only [Option.getD_none, Option.isSome_none, h13, zz, zs, cond_false, St_cells, cells_agg, Branch_bool, Gd_false, Nat.zero_add, Nat.reduceLeDiff, if_pos, true_and, and_self, Bool.false_eq_true, false_implies, forall_const, st36]
    obtain ⟨w14, hw14⟩ : ∃ w14, w14 = put w13 (sz w) (Obj.cells ((bc (List.replicate 32 0)).toArray ++ #[i64 0, Value.slice none 0 0, i64 0, i64 0]) 36) := ⟨_, rfl⟩
    have hx14 : Ext (fun _ => False) w w14 := by rw [hw14]; exact hx13.put _ _ fun h => by omega
    rw [← hw14]
    clear hw14
    have hp14 := hx14.at hp not_false
    have hm14 := hx14.at hm not_false
    refine Join0 (fun w' => w' = w14.drew) ?_ ?_
    · unfold F9x2
      simp (maxSteps := 2000000) (disch := first | exact dT_ | fail) only [Pick_bool, cond_false, Branch_bool, Gd_false, Nat.zero_add, true_and, Bool.false_eq_true, false_implies, forall_const, fld36_1, fld36_4, fld39_1, ld3, ld36]
      unfold F9x1
      have hln : ∀ K, QRun Try.prog (Builtin.len_ #[46] 3 #[.map (some mb)]) w14.drew K = K (i64 ((entL key none).length : Nat)) := fun K => q_lenMap (κ := List UInt8) (enc := idv) (w := w14.drew) (m := entL key none) (c := c) Try.runUnderlying46 hm14 _ K
      have e0 : (((entL key none).length : Nat) : Int) = 0 := rfl
      have e2 : ¬ (2 : Int) ≤ 0 := by omega
      rw [e0] at hln
      simp (maxSteps := 2000000) (disch := first | exact dT_ | fail) only [hp14, hln, e2, NilCk_ptr, Pick_bool, cond_true, p_geq, p_not, L1_cells, Hp_drew, Branch_bool, Gd_true, List.getElem?_toArray, List.getElem?_cons_zero, List.getElem?_cons_succ, Option.elim_some, Nat.zero_add, Nat.add_zero, Bool.not_false, and_self, Bool.false_eq_true, false_implies, implies_true, decide_false, fld48_0, fld48_1, ld3, ld46]
    · rintro w17 rfl
      refine set_end hk (h.ext0 hx14.drew) (hx14.drew.at h14 not_false) (by obtain ⟨a, c', e⟩ := Vec.slice hdv; rw [e]; trivial) hne.2.1 ?_
      intro b' c' hbc
      have hxe : Ext (fun b => b = mb) w (put w14.drew.drew mb (.map (entsOf idv (entL key (some (n, dv, b')))) c')) := ((hx14.mono fun _ _ h => h.elim).drew.drew).put _ _ fun _ => rfl
      refine hK _ ⟨some (n, dv, b'), c', ⟨hxe.at hp hne.2.2.2, Hp_put_same _ _ _ (Hp_lt hm14), ?_⟩, rfl⟩ (hxe.mono fun _ _ h => .inl h)
      intro d v b e
      cases e
      exact ⟨Vec.ext hdv hxe fun b _ hq => (hQ b hq).1, hbc, hnl⟩
  | some (d, v, b), h, hm, hm13, hK =>
    have e1 : mget (entL key (some (d, v, b))) key = some (.agg (scell key d v)) := by simp [entL, mget]
    have y2 := sc_size hk (d := d) (dv := v)
    have y3 := sc_all hk (d := d) (dv := v)
    have y4 : splice ((bc (List.replicate 32 0)).toArray ++ #[i64 0, Value.slice none 0 0, i64 0, i64 0]) 0 (scell key d v) = scell key d v := splice_all _ _ (by rw [y2]; rfl)
    have y5 : allOne (scell key d v) := sc_one (by obtain ⟨a, c', e⟩ := Vec.slice (h.data d v b rfl).1; rw [e]; trivial)
    rw [e1]
    simp (maxSteps := 2000000) (disch := first | exact dT_ | fail) only [Option.getD_some, Option.isSome_some, h13, zz, y2, y4, cond_true, St_cells, Hp_put_other, cells_agg, Gd_true, Nat.zero_add, Nat.reduceLeDiff, if_pos, and_self, ld3, st36]
    obtain ⟨w14, hw14⟩ : ∃ w14, w14 = put w13 (sz w) (Obj.cells (scell key d v) 36) := ⟨_, rfl⟩
    have hx14 : Ext (fun _ => False) w w14 := by rw [hw14]; exact hx13.put _ _ fun h => by omega
    have h15 : Hp w14 (sz w) = some (Obj.cells (scell key d v) 36) := by rw [hw14]; exact Hp_put_same _ _ _ (Hp_lt h13)
    have h1114 := hx14.at h11 not_false
    have e11 : Hp w13 p11 = Hp w14 p11 := by rw [h1114, h1113]
    rw [← hw14, e11]
    clear hw14
    have hp14 := hx14.at hp not_false
    have hm14 := hx14.at hm not_false
    have h1414 := hx14.at h14 not_false
    have y32 := sc_32 hk (d := d) (dv := v)
    have y35 := sc_35 hk (d := d) (dv := v)
    have l15 := Hp_lt h15
    have hone : oneCell v := by obtain ⟨a, c', e⟩ := Vec.slice (h.data d v b rfl).1; rw [e]; trivial
    have hdone : oneCell dv := by obtain ⟨a, c', e⟩ := Vec.slice hdv; rw [e]; trivial
    simp (maxSteps := 2000000) (disch := first | exact dT_ | fail) only [h15, y32, h1114, rv_1, p_gtr, L1_cells, Branch_bool, Option.elim_some, decide_eq_true_eq, decide_eq_false_iff_not]
    by_cases g1 : n.ver < d.ver
    · have e : setE (Option.map (fun x => x.1) (some (d, v, b))) n = (14, some d) := by simp [setE, g1]
      rw [e] at hK
      refine Join0 (fun _ => False) ?_ (fun _ h => h.elim)
      simp (maxSteps := 2000000) (disch := first | exact dT_ | fail) only [g1, forall_const]
      exact ⟨hK _ ⟨_, c, h.ext0 hx14, rfl⟩ (hx14.mono fun _ _ h => h.elim), fun h => absurd trivial h⟩
    · by_cases g2 : d.ver = n.ver
      · have e : setE (Option.map (fun x => x.1) (some (d, v, b))) n = (0, some { d with exp := max d.exp n.exp }) := by simp [setE, g2]
        rw [e] at hK
        have u1 := sc_putE hk (d := d) (dv := v) (max d.exp n.exp)
        have u2 := sc_size hk (d := { d with exp := max d.exp n.exp }) (dv := v)
        have u3 := sc_all hk (d := { d with exp := max d.exp n.exp }) (dv := v)
        have u4 := sc_over hk (d := n) (dv := dv) hk (d' := { d with exp := max d.exp n.exp }) (dv' := v)
        have u5 := sc_one (key := key) (d := { d with exp := max d.exp n.exp }) hone
        obtain ⟨d', hd'⟩ : ∃ d', d' = { d with exp := max d.exp n.exp } := ⟨_, rfl⟩
        rw [← hd'] at u1 u2 u3 u4 u5 hK
        have g3 : decide (d.ver = n.ver) = true := by simp [g2]
        refine Join0 (fun w' => Ext (fun b => b = p14) w w' ∧ Hp w' p14 = some (.cells (scell key d' v) 36)) ?_ ?_
        · simp (maxSteps := 2000000) (disch := first | exact dT_ | fail) only [g1, true_and, false_implies]
          unfold F9x2
          simp (maxSteps := 2000000) (disch := first | exact dT_ | fail) only [h15, y32, h1114, rv_1, g3, y35, y2, u1, u2, u3, u4, h1414, z2, Pick_bool, cond_true, p_eql, p_max, L1_cells, Ln_cells, St_cells, Hp_put_same, Hp_put_other, cells_agg, cells_int, Branch_bool, Gd_true, Option.elim_some, Nat.zero_add, List.size_toArray, List.length_cons, List.length_nil, Nat.reduceAdd, Nat.reduceLeDiff, if_pos, and_true, and_self, Bool.true_eq_false, false_implies, forall_const, fld36_1, fld36_4, fld39_1, ld3, ld36, st3, st36]
          exact fun _ => ((hx14.mono fun _ _ h => h.elim).put _ _ fun h => by omega).put _ _ fun _ => rfl
        · rintro w17 ⟨hx17, h1417⟩
          refine set_end hk (h.ext hx17 fun b _ hb => ?_) h1417 hone hne.2.1 ?_
          · rcases hb with rfl | rfl | hb
            · exact hne.1
            · exact hne.2.1
            · exact (hQ _ hb).2
          intro b' c' hbc
          have hxe : Ext (fun b => b = mb ∨ b = p14) w (put w17.drew mb (.map (entsOf idv (entL key (some (d', v, b')))) c')) := ((hx17.mono fun _ _ h => .inr h).drew).put _ _ fun _ => .inl rfl
          refine hK _ ⟨some (d', v, b'), c', ⟨hxe.at hp (by have := hne.1; have := hne.2.2.2; omega), Hp_put_same _ _ _ (by have := hx17.size; show mb < sz w17; omega), ?_⟩, rfl⟩ hxe
          intro d2 v2 b2 e
          cases e
          refine ⟨?_, hbc, by rw [hd']; exact (h.data d v b rfl).2.2⟩
          have := Vec.ext (h.data d v b rfl).1 hxe fun b _ hq => by have := hQ b hq; omega
          have hdd : d'.data = d.data := by rw [hd']
          rw [hdd]; exact this
      · have e : setE (Option.map (fun x => x.1) (some (d, v, b))) n = (0, some n) := by simp [setE, g1, g2]
        rw [e] at hK
        have g3 : decide (d.ver = n.ver) = false := by simp [g2]
        refine Join0 (fun w' => w' = w14.drew) ?_ ?_
        · simp (maxSteps := 2000000) (disch := first | exact dT_ | fail) only [g1, true_and, false_implies]
          unfold F9x2
          simp (maxSteps := 2000000) (disch := first | exact dT_ | fail) only [h15, y32, h1114, rv_1, g3, Pick_bool, cond_true, p_eql, L1_cells, Branch_bool, Gd_true, Option.elim_some, Nat.zero_add, true_and, Bool.false_eq_true, false_implies, forall_const, fld36_1, fld36_4, fld39_1, ld3, ld36]
          unfold F9x1
          simp (maxSteps := 2000000) (disch := first | exact dT_ | fail) only [Pick_bool, cond_false, p_not, Branch_bool, Gd_false, Bool.not_true, and_self, Bool.false_eq_true, false_implies, implies_true]
        · rintro w17 rfl
          refine set_end hk (h.ext0 hx14.drew) (hx14.drew.at h14 not_false) hdone hne.2.1 ?_
          intro b' c' hbc
          have hxe : Ext (fun b => b = mb) w (put w14.drew.drew mb (.map (entsOf idv (entL key (some (n, dv, b')))) c')) := ((hx14.mono fun _ _ h => h.elim).drew.drew).put _ _ fun _ => rfl
          refine hK _ ⟨some (n, dv, b'), c', ⟨hxe.at hp hne.2.2.2, Hp_put_same _ _ _ (Hp_lt hm14), ?_⟩, rfl⟩ (hxe.mono fun _ _ h => .inl h)
          intro d v b e
          cases e
          exact ⟨Vec.ext hdv hxe fun b _ hq => (hQ b hq).1, hbc, hnl⟩
end Go.Proofs
namespace Go.Proofs
open Go Go.Lf
set_option maxRecDepth 20000
set_option maxHeartbeats 2000000
set_option linter.unusedSimpArgs false
set_option linter.unusedVariables false
theorem parse_nil {w : World} : Calls Try.prog 18 #[.slice none 0 0] w (retK fun v w' => v = .tuple #[.agg (rootV (.slice none 0 0) 0 (List.replicate 32 0) (.slice none 0 0)), i64 8] ∧ Ext (fun _ => False) w w') := by
  refine F18_ok _ _ _ ?_
  unfold F18
  rw [rv_new]
  have g : ((0 : Nat) : Int) < 95 := by omega
  have r4 := rv_all (p := .slice none 0 0) (ver := 0) (s := .slice none 0 0) zero32
  have r5 := rv_over (p := .slice none 0 0) (ver := 0) (s := .slice none 0 0) (p' := .slice none 0 0) (ver' := 0) (s' := .slice none 0 0) zero32 zero32
  have r6 := rv_size (p := .slice none 0 0) (ver := 0) (s := .slice none 0 0) zero32
  have r7 : allOne (rootV (.slice none 0 0) 0 (List.replicate 32 0) (.slice none 0 0)) := rv_one trivial trivial
  have r5' : splice (rootV (.slice none 0 0) 0 (List.replicate 32 0) (.slice none 0 0)) 0 (#[Value.slice none 0 0, i64 0] ++ (bc (List.replicate 32 0)).toArray ++ #[Value.slice none 0 0]) = rootV (.slice none 0 0) 0 (List.replicate 32 0) (.slice none 0 0) := r5
  simp (maxSteps := 2000000) (disch := first | exact dT_ | fail) only [g, r4, r5', r6, p_lss, put_allocN, Ln_cells, St_cells, Hp_alloc_new, cells_agg, Branch_bool, Nat.zero_add, List.size_toArray, List.length_cons, List.length_nil, Nat.reduceAdd, Nat.reduceLeDiff, if_pos, and_true, true_and, and_self, Bool.true_eq_false, false_implies, forall_const, bc_length, Array.size_append, List.length_replicate, decide_true, len30, bld39_, ld39, st39]
  exact (Ext.refl _ _).alloc _
/-- the bytes of a root are not taken as one -/
theorem set_nil {w : World} {p : Nat} {src exp : Int} (hs : 0 ≤ src) (he : 0 < exp) : Calls Try.prog 9 #[ptr p 0, .slice none 0 0, i64 src, i64 exp, i64 0] w (retK fun v w' => v = i64 8 ∧ Ext (fun _ => False) w w') := by
  refine F9_ok _ _ _ _ _ _ _ ?_
  unfold F9
  have g1 : ¬ src < 0 := by omega
  have g2 : ¬ exp ≤ 0 := by omega
  simp (maxSteps := 2000000) (disch := first | exact dT_ | fail) only [g1, g2, Pick_bool, cond_false, p_lss, p_leq, cells_agg, Branch_bool, Gdn_true, true_and, Bool.false_eq_true, false_implies, forall_const, decide_false, al39, zv39]
  refine CallF_by Try.call18 parse_nil ?_
  rintro _ w1 ⟨rfl, hx1⟩
  have r4 := rv_all (p := .slice none 0 0) (ver := 0) (s := .slice none 0 0) zero32
  have r5 := rv_over (p := .slice none 0 0) (ver := 0) (s := .slice none 0 0) (p' := .slice none 0 0) (ver' := 0) (s' := .slice none 0 0) zero32 zero32
  have r6 := rv_size (p := .slice none 0 0) (ver := 0) (s := .slice none 0 0) zero32
  have r7 : allOne (rootV (.slice none 0 0) 0 (List.replicate 32 0) (.slice none 0 0)) := rv_one trivial trivial
  simp only [p_extract0, p_extract1]
  change Run Try.prog (Instr.storeAt 39 (ptr (sz w1) 0) (.agg (rootV (.slice none 0 0) 0 (List.replicate 32 0) (.slice none 0 0)))) (w1.alloc (Obj.cells (rootV (.slice none 0 0) 0 (List.replicate 32 0) (.slice none 0 0)) 39)) _
  rw [rv_st (p' := .slice none 0 0) (s' := .slice none 0 0) (Hp_alloc_new _ _ _ rfl) zero32 zero32 trivial trivial]
  have d8 : decide ((8 : Int) = 0) = false := by decide
  simp (maxSteps := 2000000) (disch := first | exact dT_ | fail) only [d8, p_neq, put_allocN, Branch_bool, Bool.not_false, and_true, true_and, Bool.true_eq_false, false_implies, forall_const]
  exact hx1.alloc _
section
variable {pub sig name top osig side node : List UInt8} {q : Nat} {ver : Int} (hn : name.length = 16) (htop : top.length = 32) (hside : side.length = 32) (ho : osig.length = 4292) (ho4 : osig.take 4 = four 2) (hq : q ≤ 1)
    (hpub : pub = four 1 ++ four 2 ++ name ++ top) (hsig : sig = four q ++ osig ++ four 1 ++ side) (hnode : node.length = 32) (hv0 : 1 ≤ ver) (hv1 : ver ≤ 2147483647)
include hn htop hside ho ho4 hq hpub hsig hnode hv0 hv1
theorem set_spec {w : World} {p mb c : Nat} {o : Ent} {Q Qd : Nat → Prop} (h : SlC w p mb (sha pub) o c Q) (hlive : ∀ d v b, o = some (d, v, b) → 0 < d.exp) {D : Value} (hD : Bytes 5 w D (rootB pub ver node sig) Qd) (hpm : p ≠ mb) (hQ : ∀ b, Q b → b ≠ mb) (hQd : ∀ b, Qd b → b ≠ mb) {src exp : Int} (hs : 0 ≤ src) (he : 0 < exp) :
    Calls Try.prog 9 #[ptr p 0, D, i64 src, i64 exp, i64 0] w (retK fun v w' =>
      if rootL name q (claimL ver node) osig side = top then v = i64 (setE (o.map (·.1)) ⟨ver, rootB pub ver node sig, src, exp⟩).1 ∧ SlS w' p mb (sha pub) (setE (o.map (·.1)) ⟨ver, rootB pub ver node sig, src, exp⟩).2 (fun b => Q b ∨ sz w ≤ b) ∧ Ext (fun b => b = mb) w w'
      else v = i64 12 ∧ Ext (fun _ => False) w w') := by
  refine F9_ok _ _ _ _ _ _ _ ?_
  obtain ⟨K, hK⟩ : ∃ K : Value → World → Prop, K = fun v w' => if rootL name q (claimL ver node) osig side = top then v = i64 (setE (o.map (·.1)) ⟨ver, rootB pub ver node sig, src, exp⟩).1 ∧ SlS w' p mb (sha pub) (setE (o.map (·.1)) ⟨ver, rootB pub ver node sig, src, exp⟩).2 (fun b => Q b ∨ sz w ≤ b) ∧ Ext (fun b => b = mb) w w'
      else v = i64 12 ∧ Ext (fun _ => False) w w' := ⟨_, rfl⟩
  rw [← hK]
  unfold F9
  have hpl : pub.length = 56 := by rw [hpub]; simp [four_length, hn, htop]
  have hsl : sig.length = 4332 := by rw [hsig]; simp [four_length, ho, hside]
  have hk : (sha pub).length = 32 := sha_length _
  have g1 : ¬ src < 0 := by omega
  have g2 : ¬ exp ≤ 0 := by omega
  simp (maxSteps := 2000000) (disch := first | exact dT_ | fail) only [g1, g2, Pick_bool, cond_false, p_lss, p_leq, cells_agg, Branch_bool, Gdn_true, true_and, Bool.false_eq_true, false_implies, forall_const, decide_false, al39, zv39]
  refine CallF_by Try.call18 (parse_spec hpl hnode (by omega) (by omega) hv0 hv1 hD) ?_
  rintro _ w1 ⟨pv, sv, rfl, hpv1, hsv1, hx1⟩
  simp only [p_extract0, p_extract1]
  change Run Try.prog (Instr.storeAt 39 (ptr (sz w1) 0) (.agg (rootV pv ver node sv))) (w1.alloc (Obj.cells (rootV (.slice none 0 0) 0 (List.replicate 32 0) (.slice none 0 0)) 39)) _
  have ho1 : oneCell pv := by obtain ⟨a, c', e⟩ := Vec.slice hpv1; rw [e]; trivial
  have ho2 : oneCell sv := by obtain ⟨a, c', e⟩ := Vec.slice hsv1; rw [e]; trivial
  rw [rv_st (Hp_alloc_new _ _ _ rfl) zero32 hnode ho1 ho2]
  obtain ⟨w3, hw3⟩ : ∃ w3, w3 = put (w1.alloc (.cells (rootV (.slice none 0 0) 0 (List.replicate 32 0) (.slice none 0 0)) 39)) (sz w1) (.cells (rootV pv ver node sv) 39) := ⟨_, rfl⟩
  have hx13 : Ext (fun _ => False) w1 w3 := by rw [hw3]; exact ((Ext.refl _ _).alloc _).put _ _ fun h => by omega
  have h11 : Hp w3 (sz w1) = some (.cells (rootV pv ver node sv) 39) := by rw [hw3]; exact Hp_put_same _ _ _ (by rw [sz_alloc]; omega)
  rw [← hw3]
  clear hw3
  have hx03 := hx1.trans hx13 fun _ _ h => h
  have hs01 := hx1.size
  have hpv3 := Vec.ext hpv1 hx13 fun _ _ _ => not_false
  have hsv3 := Vec.ext hsv1 hx13 fun _ _ _ => not_false
  have d0 : decide ((0 : Int) = 0) = true := rfl
  simp (maxSteps := 2000000) (disch := first | exact dT_ | fail) only [p_neq, Branch_bool, Bool.not_true, true_and, Bool.false_eq_true, false_implies, forall_const, decide_true]
  unfold F9x5
  have r34 := rv_34 (p := pv) (ver := ver) (s := sv) hnode
  have rn := rv_node (p := pv) (ver := ver) (s := sv) hnode
  have g3 : 2 + 32 ≤ (rootV pv ver node sv).size := by rw [rv_size hnode]; decide
  simp (maxSteps := 2000000) (disch := first | exact dT_ | fail) only [h11, rv_0, rv_1, r34, rn, g3, L1_cells, Ln_cells, Hp_drew, Option.elim_some, Nat.zero_add, Nat.add_zero, Nat.reduceAdd, if_pos, fld39_0, fld39_1, fld39_2, fld39_3, ld3, ld25, ld30]
  refine CallF_by Try.call20 (claim_spec hnode ver) ?_
  rintro mv w4 ⟨hm4, hx4⟩
  have hx34 : Ext (fun _ => False) w3 w4 := ((Ext.refl _ _).drew).trans hx4 fun _ _ h => h
  have h114 := hx34.at h11 not_false
  simp (maxSteps := 2000000) (disch := first | exact dT_ | fail) only [h114, rv_0, r34, L1_cells, Option.elim_some, true_and]
  have hpv4 := Vec.ext hpv3 hx34 fun _ _ _ => not_false
  have hsv4 := Vec.ext hsv3 hx34 fun _ _ _ => not_false
  obtain ⟨Bp, op, cp, rfl, hcp, hbp⟩ := Bytes.open hpv4 (by rintro rfl; simp at hpl)
  obtain ⟨Bs, os, cs, rfl, hcs, hbs⟩ := Bytes.open hsv4 (by rintro rfl; simp at hsl)
  rw [hpl] at hcp hbp
  rw [hsl] at hcs hbs
  have ep : pub.length = 56 := hpl
  have es : sig.length = 4332 := hsl
  rw [ep, es]
  refine CallF_by Try.call19 (pcheck_spec hn htop hside ho ho4 hq hpub hsig hbp hcp hbs hcs (fun b hb => hb.1) (fun b hb => hb.1) (Bytes.bin hm4) (by rw [claimL_length _ hnode]; decide)) ?_
  rintro _ w5 ⟨rfl, hx5⟩
  have hx05 : Ext (fun _ => False) w w5 := (hx03.trans hx34 fun _ _ h => h).trans hx5 fun _ _ h => h
  have h115 := hx5.at h114 not_false
  by_cases hr : rootL name q (claimL ver node) osig side = top
  rotate_left
  · rw [if_neg hr]
    have d12 : decide ((12 : Int) = 0) = false := by decide
    simp (maxSteps := 2000000) (disch := first | exact dT_ | fail) only [d12, p_neq, Branch_bool, Bool.not_false, and_true, Bool.true_eq_false, false_implies, forall_const]
    rw [hK]
    show if rootL name q (claimL ver node) osig side = top then _ else _
    rw [if_neg hr]
    exact ⟨rfl, hx05⟩
  rw [if_pos hr]
  simp (maxSteps := 2000000) (disch := first | exact dT_ | fail) only [p_neq, Branch_bool, Bool.not_true, true_and, Bool.false_eq_true, false_implies, forall_const, decide_true]
  have hSC := h.ext0 hx05
  refine CallF_by Try.call21 (sweep_spec hk hSC hlive) ?_
  rintro v47 w6 hx6
  have hx06 : Ext (fun _ => False) w w6 := hx05.trans hx6 fun _ _ h => h
  have h116 := hx6.at h115 not_false
  simp (maxSteps := 2000000) (disch := first | exact dT_ | fail) only [h116, rv_0, rv_1, L1_cells, Option.elim_some]
  obtain ⟨w7, hw7⟩ : ∃ w7, w7 = w6.drew := ⟨_, rfl⟩
  have hx67 : Ext (fun _ => False) w6 w7 := by rw [hw7]; exact (Ext.refl _ _).drew
  rw [← hw7]
  clear hw7
  have hx07 : Ext (fun _ => False) w w7 := hx06.trans hx67 fun _ _ h => h
  have h117 := hx67.at h116 not_false
  have hSC7 := h.ext0 hx07
  have hs07 := hx07.size
  have hD7 := Vec.ext hD hx07 fun _ _ _ => not_false
  have hbp7 : BOf w7 (.slice (some ⟨Bp, op, none⟩) 56 cp) pub := BOf_ext (BOf_ext (BOf_ext hbp.of hx5) hx6) hx67
  have lmb := Hp_lt h.hm
  have lp := Hp_lt h.hp
  have l117 := Hp_lt h117
  have hbl := rootB_length (ver := ver) (sig := sig) hpl hnode
  have fin : ∀ {w12 : World} {p14 : Nat} {dv : Value}, Ext (fun _ => False) w7 w12 → sz w7 ≤ p14 → Hp w12 p14 = some (.cells (scell (sha pub) ⟨ver, [], src, exp⟩ dv) 36) → Bytes 5 w12 dv (rootB pub ver node sig) (fun b => sz w7 ≤ b ∧ b ≠ p14) →
      F9x3 (ptr p 0) w12 (ptr p14 0) (ptr (sz w1) 0) K (i64 exp) := by
    intro w12 p14 dv hx hp14 h14 hdv
    have hx012 := hx07.trans hx fun _ _ h => h
    have hSC12 : SlC w12 p mb (sha pub) o c (fun b => (Q b ∧ b < sz w) ∨ (sz w7 ≤ b ∧ b ≠ p14)) := (((h.mono (Q' := fun b => Q b ∧ b < sz w) fun b hb hq => ⟨hq, hb⟩).ext0 hx012).mono fun b _ hb => .inl hb)
    have hs12 := hx.size
    refine set_x3 hk hSC12 (n := ⟨ver, rootB pub ver node sig, src, exp⟩) hnode h14 (hx.at h117 not_false) (Vec.mono hdv fun b _ hb => .inr hb) (by show (rootB pub ver node sig).length ≤ _; omega) ⟨by omega, by omega, by omega, hpm⟩ ?_ ?_
    · rintro b (⟨hb, hb'⟩ | hb)
      · exact ⟨hQ b hb, by omega⟩
      · exact ⟨by omega, hb.2⟩
    · rintro w' ⟨o', c', hs', he'⟩ hx'
      rw [hK]
      show if rootL name q (claimL ver node) osig side = top then _ else _
      rw [if_pos hr]
      refine ⟨rfl, ⟨o', c', hs'.mono fun b _ hb => ?_, he'⟩, hx012.trans2 hx' (fun _ _ h => h.elim) fun b hb h => by omega⟩
      rcases hb with hb | hb
      · exact .inl hb.1
      · exact .inr (by omega)
  rw [ep]
  unfold F9x4
  have hcl : ∀ {W : World}, Ext (fun _ => False) w7 W → Calls Try.prog 23 #[D] W (retK fun v' w' => Bytes 5 w' v' (rootB pub ver node sig) (fun x => sz W ≤ x) ∧ Ext (fun _ => False) W w') := fun hx => clone_spec (BOf_ext (Bytes.of hD7) hx) (by omega)
  have hsum : ∀ {W : World}, Ext (fun _ => False) w7 W → Calls Try.prog 22 #[.slice (some ⟨Bp, op, none⟩) 56 cp] W (retK fun v' w' => v' = idv (sha pub) ∧ Ext (fun _ => False) W w') := fun hx => sum_spec (BOf_ext hbp7 hx) (by omega)
  have ld : ∀ {W : World}, Ext (fun _ => False) w7 W → QRun Try.prog (Instr.loadAt 3 (ptr (sz w1) 1)) W fun u => u = i64 ver := fun hx => by
    have := hx.at h117 not_false
    simp (maxSteps := 2000000) (disch := first | exact dT_ | fail) only [this, rv_1, L1_cells, Option.elim_some, ld3]
  have zn : ∀ (W : World) (K : Value → World → Prop), Run Try.prog (Instr.alloc 36 true (.tuple #[])) W K = K (ptr (sz W) 0) (W.alloc (.cells (scell (List.replicate 32 0) ⟨0, [], 0, 0⟩ (.slice none 0 0)) 36)) := fun W K => by
    rw [al36, zc36]; rfl
  have stn : ∀ {W : World} {p14 : Nat} {dv : Value}, Hp W p14 = some (.cells (scell (List.replicate 32 0) ⟨0, [], 0, 0⟩ (.slice none 0 0)) 36) → oneCell dv → ∀ K : Unit → World → Prop, Run Try.prog (Instr.storeAt 36 (ptr p14 0) (.agg (scell (sha pub) ⟨ver, [], src, exp⟩ dv))) W K = K () (put W p14 (.cells (scell (sha pub) ⟨ver, [], src, exp⟩ dv) 36)) := fun h hd K => by
    rw [st36 _ _ _ _ _ (sc_one hd), h, St_cells, cells_agg, sc_size hk, sc_size zero32, if_pos (by decide), sc_over zero32 hk]
  refine ⟨?_, ?_⟩
  · refine CallF_by Try.call22 (hsum (Ext.refl _ _)) ?_
    rintro _ w8 ⟨rfl, hx8⟩
    refine ⟨ld hx8, ?_, ?_⟩
    · refine CallF_by Try.call23 (hcl hx8) ?_
      rintro dv w9 ⟨hdv, hx9⟩
      obtain ⟨da, dc, rfl⟩ := Vec.slice hdv
      have hx79 := hx8.trans hx9 fun _ _ h => h
      have s9 := hx79.size
      have s8 := hx8.size
      refine ⟨ld hx79, ?_⟩
      rw [sc_bld hk, zn]
      refine ⟨ld (hx79.alloc _), ?_⟩
      rw [stn (dv := .slice da _ dc) (Hp_alloc_new _ _ _ rfl) trivial]
      refine fin (p14 := sz w9) ((hx79.alloc _).put _ _ fun h => by omega) (by omega) (Hp_put_same _ _ _ (by rw [sz_alloc]; omega)) ?_
      exact Vec.ext (Vec.mono (Q' := fun b => sz w7 ≤ b ∧ b ≠ sz w9) hdv fun b hb h => by omega) (((Ext.refl (fun b => b = sz w9) _).alloc _).put _ _ fun _ => rfl) fun b _ h => h.2
    · rw [zn]
      have hxa : Ext (fun _ => False) w8 (w8.alloc (.cells (scell (List.replicate 32 0) ⟨0, [], 0, 0⟩ (.slice none 0 0)) 36)) := (Ext.refl _ _).alloc _
      have hx7a := hx8.trans hxa fun _ _ h => h
      refine ⟨ld hx7a, ?_⟩
      refine CallF_by Try.call23 (hcl hx7a) ?_
      rintro dv w9 ⟨hdv, hx9⟩
      obtain ⟨da, dc, rfl⟩ := Vec.slice hdv
      have hx79 := hx7a.trans hx9 fun _ _ h => h
      have s9 := hx9.size
      have s8 := hx8.size
      rw [sz_alloc] at s9 hdv
      refine ⟨ld hx79, ?_⟩
      rw [sc_bld hk, stn (dv := .slice da _ dc) (hx9.at (Hp_alloc_new _ _ _ rfl) not_false) trivial]
      refine fin (p14 := sz w8) (hx79.put _ _ fun h => by omega) (by omega) (Hp_put_same _ _ _ (by omega)) ?_
      exact Vec.ext (Vec.mono (Q' := fun b => sz w7 ≤ b ∧ b ≠ sz w8) hdv fun b hb h => by omega) ((Ext.refl (fun b => b = sz w8) _).put _ _ fun _ => rfl) fun b _ h => h.2
  · rw [zn]
    have hxa : Ext (fun _ => False) w7 (w7.alloc (.cells (scell (List.replicate 32 0) ⟨0, [], 0, 0⟩ (.slice none 0 0)) 36)) := (Ext.refl _ _).alloc _
    refine ⟨ld hxa, ?_, ?_⟩
    · have := hxa.at h117 not_false
      simp (maxSteps := 2000000) (disch := first | exact dT_ | fail) only [this, rv_0, L1_cells, Option.elim_some, ld30]
      rw [ep]
    refine CallF_by Try.call22 (hsum hxa) ?_
    rintro _ w8 ⟨rfl, hx8⟩
    have hx78 := hxa.trans hx8 fun _ _ h => h
    refine ⟨ld hx78, ?_⟩
    refine CallF_by Try.call23 (hcl hx78) ?_
    rintro dv w9 ⟨hdv, hx9⟩
    obtain ⟨da, dc, rfl⟩ := Vec.slice hdv
    have hx79 := hx78.trans hx9 fun _ _ h => h
    have s8 := hx8.size
    rw [sz_alloc] at s8
    have s9 := hx9.size
    refine ⟨ld hx79, ?_⟩
    rw [sc_bld hk, stn (dv := .slice da _ dc) (hx9.at (hx8.at (Hp_alloc_new _ _ _ rfl) not_false) not_false) trivial]
    refine fin (p14 := sz w7) (hx79.put _ _ fun h => by omega) (by omega) (Hp_put_same _ _ _ (by omega)) ?_
    exact Vec.ext (Vec.mono (Q' := fun b => sz w7 ≤ b ∧ b ≠ sz w7) hdv fun b hb h => by omega) ((Ext.refl (fun b => b = sz w7) _).put _ _ fun _ => rfl) fun b _ h => h.2
end
end Go.Proofs
