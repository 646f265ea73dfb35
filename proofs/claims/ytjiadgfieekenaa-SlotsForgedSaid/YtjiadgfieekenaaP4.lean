/- Parts of the proof: S.P51, S.P52, S.P53, S.P54, S.P55. -/
import Derived.Test.YtjiadgfieekenaaL2
import Derived.Test.YtjiadgfieekenaaP3
set_option linter.unusedVariables false
set_option linter.unusedSimpArgs false
set_option linter.unusedSectionVars false
namespace Go.Proofs
open Go Go.Lf
set_option maxRecDepth 20000
set_option maxHeartbeats 2000000
set_option linter.unusedSimpArgs false
set_option linter.unusedVariables false
theorem values_spec (w : World) (mb : Nat) : Calls Try.prog 25 #[.map (some mb)] w (retK fun v w' => v = .func (.func 45) #[] #[ptr (sz w) 0] ∧ w' = w.alloc (.cells #[.map (some mb)] 46)) := by
  refine F25_ok _ _ _ ?_
  unfold F25
  simp (maxSteps := 2000000) (disch := first | exact dT_ | fail) only [p_makeFunc, r_box, cells_map, and_self]
theorem collect_spec {w : World} {p mb c bm : Nat} {key : List UInt8} (hk : key.length = 32) {o : Ent} {Q : Nat → Prop} (h : SlC w p mb key o c Q) (hb : Hp w bm = some (.cells #[.map (some mb)] 46)) :
    Calls Try.prog 43 #[.func (.func 45) #[] #[ptr bm 0]] w (retK fun v w' => Vec w' 36 36 v (entL key o).length (catC ((entL key o).map (·.2.1))) (fun b => sz w ≤ b) ∧ Ext (fun _ => False) w w') := by
  refine F43_ok _ _ _ ?_
  unfold F43
  have hlen : (entL key o).length ≤ 1 := by match o with | none => simp [entL] | some (d, v, b) => simp [entL]
  refine CallF_by Try.call65 (appendSeq_spec (gf := 45) (lb := #[ptr bm 0]) (N := (entL key o).length) (S := fun xs => xs.Perm ((entL key o).map (·.2.1))) Try.call45 (fun W hx => ?_) (by omega)) ?_
  · refine values_gives (hx.at hb not_false) (hx.at h.hm not_false) (fun x hx => ?_) ?_ fun x hx => ?_
    · match o, hx, h with
      | some (d, v, b), hx, h => rw [List.mem_singleton.1 hx]; exact (h.data d v b rfl).2.1
    · match o with
      | none => simp [entL]
      | some (d, v, b) => simp [entL]
    · match o, hx, h with
      | some (d, v, b), hx, h =>
        rw [List.mem_singleton.1 hx]
        exact ⟨_, rfl, sc_size hk, sc_one (by obtain ⟨a, c', e⟩ := Vec.slice (h.data d v b rfl).1; rw [e]; trivial)⟩
  · rintro v w' ⟨xs, hS, hok, hv, hx⟩
    have e : xs = (entL key o).map (·.2.1) := by
      match o, hS with
      | none, hS => exact List.Perm.eq_nil hS
      | some (d, v, b), hS => exact List.perm_singleton.1 hS
    rw [e, List.length_map] at hv
    exact ⟨hv, hx⟩
theorem big87_size : big87.size = 256 := by kernel_rfl
set_option maxRecDepth 10000 in
theorem len64_spec (x : Int) (h : 0 ≤ x ∧ x ≤ 255) (w : World) : Calls Try.prog 87 #[.int .u64 x] w (retK fun v w' => (∃ n : Int, v = i64 n) ∧ w' = w) := by
  refine F87_ok _ _ _ ?_
  unfold F87
  have hb := big87_size
  simp (maxSteps := 2000000) (disch := first | exact dT_ | fail) only [p_geq, Branch_bool, decide_eq_true_eq, decide_eq_false_iff_not, forall_const, p_shri, Int.reduceToNat, Int.reducePow]
  refine Join2 (fun a b w' => a = .int .u64 x ∧ (∃ n, b = i64 n) ∧ w' = w) ⟨fun h' => by omega, fun _ => ⟨rfl, ⟨_, rfl⟩, rfl⟩⟩ ?_
  rintro _ _ w1 ⟨rfl, ⟨n1, rfl⟩, e1⟩
  refine Join2 (fun a b w' => a = .int .u64 x ∧ (∃ n, b = i64 n) ∧ w' = w) ?_ ?_
  · simp (maxSteps := 2000000) (disch := first | exact dT_ | fail) only [p_add, p_geq, Branch_bool, decide_eq_true_eq, decide_eq_false_iff_not, true_and, p_shri, Int.reduceToNat, Int.reducePow]
    exact ⟨fun h' => by omega, fun _ => ⟨⟨_, rfl⟩, e1⟩⟩
  rintro _ _ w1 ⟨rfl, ⟨n1, rfl⟩, e1⟩
  unfold F87x1
  refine Join2 (fun a b w' => a = .int .u64 x ∧ (∃ n, b = i64 n) ∧ w' = w) ?_ ?_
  · simp (maxSteps := 2000000) (disch := first | exact dT_ | fail) only [p_add, p_geq, Branch_bool, decide_eq_true_eq, decide_eq_false_iff_not, true_and, p_shri, Int.reduceToNat, Int.reducePow]
    exact ⟨fun h' => by omega, fun _ => ⟨⟨_, rfl⟩, e1⟩⟩
  rintro _ _ w1 ⟨rfl, ⟨n1, rfl⟩, e1⟩
  have hbt := b8_toNat x
  have hw : ((b8 x).toNat : Int) < (big87.size : Int) := by omega
  have hw0 : 0 ≤ ((b8 x).toNat : Int) := by omega
  simp (maxSteps := 2000000) (disch := first | exact dT_ | fail) only [p_add, forall_const, u8b, i64w, Int.toNat_natCast, ixs9, cv5_3, cv103_5]
  exact ⟨⟨_, rfl⟩, e1⟩
theorem len_spec (x : Int) (h : 0 ≤ x ∧ x ≤ 255) (w : World) : Calls Try.prog 67 #[.int .u64 x] w (retK fun v w' => (∃ n : Int, v = i64 n) ∧ w' = w) := by
  refine F67_ok _ _ _ ?_
  unfold F67
  simp (maxSteps := 2000000) (disch := first | exact dT_ | fail) only [Branch_bool, true_and, Bool.false_eq_true, false_implies, forall_const, u32b, cv69_104]
  refine CallF_by Try.call87 (len64_spec x h w) ?_
  rintro v w' ⟨⟨n, rfl⟩, rfl⟩
  exact ⟨⟨_, rfl⟩, rfl⟩
theorem isort1_spec {w : World} {v : Value} (n : Nat) (hn : n ≤ 1) : Calls Try.prog 78 #[v, i64 0, i64 (n : Int), .func (.func 26) #[] #[]] w (retK fun u w' => u = .tuple #[] ∧ w' = w) := by
  refine F78_ok _ _ _ _ _ _ ?_
  unfold F78
  simp (maxSteps := 2000000) (disch := first | exact dT_ | fail) only [p_add, true_and, forall_const, wr_in]
  refine Loop1 (fun v w1 => v = i64 1 ∧ w1 = w) (fun _ _ => 0) ⟨rfl, rfl⟩ ?_
  rintro _ _ ⟨rfl, rfl⟩
  have hlt : ¬ (1 : Int) < (n : Int) := by omega
  simp (maxSteps := 2000000) (disch := first | exact dT_ | fail) only [hlt, p_lss, Branch_bool, Nat.reduceLT, and_self, Bool.false_eq_true, false_implies, implies_true, decide_false]
theorem pdq1_spec {w : World} {v : Value} (n : Nat) (hn : n ≤ 1) (q : Int) : Calls Try.prog 66 #[v, i64 0, i64 (n : Int), i64 q, .func (.func 26) #[] #[]] w (retK fun u w' => u = .tuple #[] ∧ w' = w) := by
  refine F66_ok _ _ _ _ _ _ _ ?_
  unfold F66
  refine Loop5 (fun a b c d e w1 => a = i64 0 ∧ b = i64 (n : Int) ∧ w1 = w) (fun _ _ _ _ _ _ => 0) ⟨rfl, rfl, rfl⟩ ?_
  rintro _ _ v3 v10 v11 w1 ⟨rfl, rfl, rfl⟩ _
  rw [p_sub, wr_in _ (by omega), p_leq, show decide ((n : Int) - 0 ≤ 12) = true from by rw [decide_eq_true_eq]; omega, Branch_true]
  refine CallF_by Try.call78 (isort1_spec n hn) ?_
  rintro u w' ⟨rfl, hh⟩
  exact ⟨rfl, hh⟩
theorem sort1_spec {w : World} {a : Option Addr} (n cap : Nat) (hn : n ≤ 1) : Calls Try.prog 44 #[.slice a n cap, .func (.func 26) #[] #[]] w (retK fun u w' => w' = w) := by
  refine F44_ok _ _ _ _ ?_
  unfold F44
  have e : IntKind.u64.wrap (n : Int) = (n : Int) := by
    show (n : Int) % 18446744073709551616 = _
    omega
  simp (maxSteps := 2000000) (disch := first | exact dT_ | fail) only [u64w, len33, cv3_69]
  refine CallF_by Try.call67 (len_spec _ (by omega) w) ?_
  rintro _ w1 ⟨⟨q, rfl⟩, rfl⟩
  refine CallF_by Try.call66 (pdq1_spec n hn q) ?_
  rintro u w' ⟨rfl, hh⟩
  exact hh
theorem sorted_spec {w : World} {p mb c bm : Nat} {key : List UInt8} (hk : key.length = 32) {o : Ent} {Q : Nat → Prop} (h : SlC w p mb key o c Q) (hb : Hp w bm = some (.cells #[.map (some mb)] 46)) :
    Calls Try.prog 24 #[.func (.func 45) #[] #[ptr bm 0], .func (.func 26) #[] #[]] w (retK fun v w' => Vec w' 36 36 v (entL key o).length (catC ((entL key o).map (·.2.1))) (fun b => sz w ≤ b) ∧ Ext (fun _ => False) w w') := by
  refine F24_ok _ _ _ _ ?_
  unfold F24
  have hlen : (entL key o).length ≤ 1 := by match o with | none => simp [entL] | some (d, v, b) => simp [entL]
  refine CallF_by Try.call43 (collect_spec hk h hb) ?_
  rintro v w1 ⟨hv, hx⟩
  obtain ⟨a, cap, rfl⟩ := Vec.slice hv
  refine CallF_by Try.call44 (sort1_spec _ cap hlen) ?_
  rintro u w2 rfl
  exact ⟨hv, hx⟩
theorem all_spec {w : World} {p mb c : Nat} {key : List UInt8} (hk : key.length = 32) {o : Ent} {Q : Nat → Prop} (h : SlC w p mb key o c Q) :
    Calls Try.prog 10 #[ptr p 0] w (retK fun v w' => Ext (fun _ => False) w w' ∧ match o.map (·.1) with
      | none => ∃ a c, v = .slice a 0 c
      | some d => ∃ dv, Vec w' 36 36 v 1 (scell key d dv).toList (fun b => sz w ≤ b) ∧ Bytes 5 w' dv d.data (fun b => sz w ≤ b)) := by
  refine F10_ok _ _ _ ?_
  unfold F10
  have hp := h.hp
  simp (maxSteps := 2000000) (disch := first | exact dT_ | fail) only [hp, NilCk_ptr, L1_cells, List.getElem?_toArray, List.getElem?_cons_zero, List.getElem?_cons_succ, Option.elim_some, Nat.zero_add, forall_const, fld48_1, ld46]
  refine CallF_by Try.call25 (values_spec w mb) ?_
  rintro _ w1 ⟨rfl, rfl⟩
  have hx1 : Ext (fun _ => False) w (w.alloc (.cells #[.map (some mb)] 46)) := (Ext.refl _ _).alloc _
  refine CallF_by Try.call24 (sorted_spec hk (h.ext0 hx1) (Hp_alloc_new _ _ _ rfl)) ?_
  rintro v w2 ⟨hv, hx2⟩
  have hx02 := hx1.trans hx2 fun _ _ h => h
  match o, h, hv with
  | none, h, hv =>
    obtain ⟨a, cap, rfl⟩ := Vec.slice hv
    simp (maxSteps := 2000000) (disch := first | exact dT_ | fail) only [len33]
    refine Loop1 (fun v w' => v = i64 0 ∧ w' = w2) (fun _ _ => 0) ⟨rfl, rfl⟩ ?_
    rintro _ _ ⟨rfl, rfl⟩
    have e0 : ¬ (0 : Int) < ((entL key none).length : Int) := by simp [entL]
    simp (maxSteps := 2000000) (disch := first | exact dT_ | fail) only [e0, p_lss, Branch_bool, Nat.reduceLT, true_and, Bool.false_eq_true, false_implies, forall_const, decide_false]
    exact ⟨hx02, _, _, rfl⟩
  | some (d, dv, b), h, hv =>
    have hv' : Vec w2 36 36 v 1 (scell key d dv).toList (fun b => sz w ≤ b) := by
      have e : catC ((entL key (some (d, dv, b))).map (·.2.1)) = (scell key d dv).toList := by simp [entL, catC_one]
      rw [e] at hv
      exact Vec.mono hv fun b _ h => by rw [sz_alloc] at h; omega
    obtain ⟨hvl, ⟨-, hv0⟩ | ⟨B, o', cap, row, rfl, hcap, hrow, hsz, hcells, hQ⟩⟩ := hv'
    · cases hv0
    simp (maxSteps := 2000000) (disch := first | exact dT_ | fail) only [len33]
    have hone : oneCell dv := by obtain ⟨a, c', e⟩ := Vec.slice (h.data d dv b rfl).1; rw [e]; trivial
    have z2 := sc_size hk (d := d) (dv := dv)
    have hext : row.extract o' (o' + 36) = scell key d dv := by
      apply Array.ext_getElem?
      intro j
      rw [Array.getElem?_extract]
      by_cases hj : j < 36
      · rw [if_pos (by omega), hcells _ (by omega), Array.getElem?_toList]
      · rw [if_neg (by omega), Array.getElem?_eq_none (by omega)]
    obtain ⟨J, hJ⟩ : ∃ J : Value → World → Prop, J = fun v w' => (v = i64 0 ∧ w' = w2) ∨ (v = i64 1 ∧ Ext (fun _ => False) w w' ∧ ∃ dv', Vec w' 36 36 (.slice (some ⟨B, o', none⟩) 1 cap) 1 (scell key d dv').toList (fun b => sz w ≤ b) ∧ Bytes 5 w' dv' d.data (fun b => sz w ≤ b)) := ⟨_, rfl⟩
    refine Loop1 J (fun v _ => 1 - (match v with | .int _ n => n.toNat | _ => 0)) (by rw [hJ]; exact .inl ⟨rfl, rfl⟩) ?_
    intro v w3 hj
    rw [hJ] at hj
    rcases hj with ⟨rfl, rfl⟩ | ⟨rfl, hx3, dv', hv3, hb3⟩
    · have e1 : (0 : Int) < ((1 : Nat) : Int) := by omega
      simp (maxSteps := 2000000) (disch := first | exact dT_ | fail) only [e1, p_lss, Branch_bool, and_true, Bool.true_eq_false, false_implies, forall_const, Nat.reduceSub, decide_true, Int.reduceToNat]
      unfold F10x1
      have hlB := Hp_lt hrow
      have s2 : splice ((bc (List.replicate 32 0)).toArray ++ #[i64 0, Value.slice none 0 0, i64 0, i64 0]) 0 (scell key d dv) = scell key d dv := splice_all _ _ (by rw [sc_size hk]; rfl)
      have z1 : ((bc (List.replicate 32 0)).toArray ++ #[i64 0, Value.slice none 0 0, i64 0, i64 0]).size = 36 := rfl
      have z4 := sc_one (key := key) (d := d) hone
      have z33 := sc_33 hk (d := d) (dv := dv)
      have e2 : (0 : Int).toNat * 36 = 0 := rfl
      have hos : o' + 36 ≤ row.size := by omega
      simp (maxSteps := 2000000) (disch := first | exact dT_ | fail) only [hrow, hext, hos, s2, z1, z2, z33, p_add, put_allocN, L1_cells, Ln_cells, St_cells, Hp_alloc_new, cells_agg, Option.elim_some, Nat.zero_add, Nat.add_zero, Nat.reduceLeDiff, if_pos, and_self, wr_in, Int.reduceToNat, Nat.reduceMul, ix33, fld36_2, ld30, ld36, st36, al36, zv36]
      have hxa : Ext (fun _ => False) w3 (w3.alloc (.cells (scell key d dv) 36)) := (Ext.refl _ _).alloc _
      have hdv : BOf (w3.alloc (.cells (scell key d dv) 36)) dv d.data := BOf_ext (BOf_ext (Bytes.of (h.data d dv b rfl).1) hx02) hxa
      refine CallF_by Try.call23 (clone_spec hdv (by have := (h.data d dv b rfl).2.2; omega)) ?_
      rintro dv' w6 ⟨hdv', hx6⟩
      have hx36 := hxa.trans hx6 fun _ _ h => h
      have hrow6 := hx36.at hrow not_false
      have hos2 : o' + 33 + 1 ≤ row.size := by omega
      have hst : ∀ K : Unit → World → Prop, K () (put w6 B (.cells (splice row (o' + 33) #[dv']) 36)) → Run Try.prog (Instr.storeAt 30 (ptr B (o' + 33)) dv') w6 K := by
        intro K hK
        obtain ⟨a, c', e⟩ := Vec.slice hdv'
        subst e
        rw [st30, hrow6, St_cells, cells_sl, if_pos ⟨rfl, hos2⟩]
        exact hK
      refine hst _ ?_
      refine ⟨?_, by show 1 - (0 + 1 : Int).toNat < 1; decide⟩
      rw [hJ]
      have hs3 := hx02.size
      have hs6 := hx36.size
      rw [sz_alloc] at hdv'
      have hxp : Ext (fun x => x = B) w6 (put w6 B (.cells (splice row (o' + 33) #[dv']) 36)) := (Ext.refl _ _).put _ _ fun _ => rfl
      refine .inr ⟨rfl, ((hx02.trans hx36 fun _ _ h => h)).trans2 hxp (fun _ _ h => h) fun x hx e => by omega, dv', ⟨by simp [sc_size hk], .inr ⟨B, o', cap, _, rfl, hcap, Hp_put_same _ _ _ (Hp_lt hrow6), ?_, ?_, hQ⟩⟩, ?_⟩
      · rw [splice_size (by show o' + 33 + 1 ≤ _; omega)]; exact hsz
      · intro j hj
        rw [splice_get (by show o' + 33 + 1 ≤ _; omega), ← sc_putD hk (d := d) (dv := dv) dv', Array.getElem?_toList, splice_get (by rw [z2]; show 33 + 1 ≤ 36; omega)]
        show (if o' + 33 ≤ o' + j ∧ o' + j < o' + 33 + 1 then #[dv'][o' + j - (o' + 33)]? else row[o' + j]?) = if 33 ≤ j ∧ j < 33 + 1 then #[dv'][j - 33]? else (scell key d dv)[j]?
        by_cases h33 : j = 33
        · subst h33
          rw [if_pos (by omega), if_pos (by omega), show o' + 33 - (o' + 33) = 33 - 33 by omega]
        · rw [if_neg (by omega), if_neg (by omega), hcells j hj, Array.getElem?_toList]
      · exact Vec.mono (Vec.ext (Vec.mono (Q' := fun x => sz w ≤ x ∧ x ≠ B) hdv' fun x _ hx => by omega) hxp fun x _ hx => hx.2) fun x _ hx => hx.1
    · have e1 : ¬ (1 : Int) < ((1 : Nat) : Int) := by omega
      simp (maxSteps := 2000000) (disch := first | exact dT_ | fail) only [e1, p_lss, Branch_bool, true_and, Bool.false_eq_true, false_implies, forall_const, Nat.sub_self, decide_false, Int.reduceToNat]
      exact ⟨hx3, dv', hv3, hb3⟩
end Go.Proofs
namespace Go.Proofs
open Go Go.Lf
set_option maxRecDepth 20000
set_option maxHeartbeats 2000000
set_option linter.unusedSimpArgs false
set_option linter.unusedVariables false
theorem signed1 {w : World} (who : Int) {node : List UInt8} (hnode : node.length = 32) :
    Calls Try.prog 8 #[i64 who, i64 1, idv node] w (retK fun v w' => Bytes 5 w' v (signedL who 0 node) (fun b => sz w ≤ b) ∧ Ext (fun _ => False) w w') := signed_spec who 0 (by omega) hnode
theorem signed2 {w : World} (who : Int) {node : List UInt8} (hnode : node.length = 32) :
    Calls Try.prog 8 #[i64 who, i64 2, idv node] w (retK fun v w' => Bytes 5 w' v (signedL who 1 node) (fun b => sz w ≤ b) ∧ Ext (fun _ => False) w w') := signed_spec who 1 (by omega) hnode
/-- the key of a publisher's slot -/
def keyL (who : Int) : List UInt8 := sha (pubL (nameL who) (seedL who))
theorem keyL_length (who : Int) : (keyL who).length = 32 := sha_length _
def sdL (who : Int) (q : Nat) (node : List UInt8) (src exp : Int) : SD := ⟨((q + 1 : Nat) : Int), signedL who q node, src, exp⟩
theorem set_signed {w : World} {p mb c : Nat} {who : Int} {q : Nat} (hq : q ≤ 1) {node : List UInt8} (hnode : node.length = 32) {o : Ent} {Q Qd : Nat → Prop} (h : SlC w p mb (keyL who) o c Q) (hlive : ∀ d v b, o = some (d, v, b) → 0 < d.exp) {D : Value} (hD : Bytes 5 w D (signedL who q node) Qd) (hpm : p ≠ mb) (hQ : ∀ b, Q b → b ≠ mb) (hQd : ∀ b, Qd b → b ≠ mb) {src exp : Int} (hs : 0 ≤ src) (he : 0 < exp) :
    Calls Try.prog 9 #[ptr p 0, D, i64 src, i64 exp, i64 0] w (retK fun v w' =>
      v = i64 (setE (o.map (·.1)) (sdL who q node src exp)).1 ∧ SlS w' p mb (keyL who) (setE (o.map (·.1)) (sdL who q node src exp)).2 (fun b => Q b ∨ sz w ≤ b) ∧ Ext (fun b => b = mb) w w') := by
  have hr := root_sign (nameL who) (seedL who) q hq (claimL ((q + 1 : Nat) : Int) node)
  have h4 : (signL (nameL who) (q : Int) (seedL who) (claimL ((q + 1 : Nat) : Int) node)).take 4 = four 2 := by
    unfold signL; rw [List.append_assoc, List.take_left' (four_length 2)]
  refine Calls.ret_mono (set_spec (nameL_length who) (topL_length _ _) (leafL_length (nameL who) (seedL who) (1 - q)) (signL_length _ _ _ _) h4 hq (pub := pubL (nameL who) (seedL who)) rfl (sig := sig6L (nameL who) (seedL who) q (claimL ((q + 1 : Nat) : Int) node)) rfl hnode (by omega) (by omega) h hlive hD hpm hQ hQd hs he) ?_
  intro v w' hh
  rw [if_pos hr] at hh
  exact hh
theorem slc_new {w : World} {p mb : Nat} (key : List UInt8) (hp : Hp w p = some (.cells #[i64 2, .map (some mb)] 48)) (hm : Hp w mb = some (.map #[] 0)) : SlC w p mb key none 0 (fun _ => False) :=
  ⟨hp, hm, fun d v b e => by cases e⟩
theorem bldI0 (K : Value → Prop) : PRun Try.prog (Instr.build 25 #[]) K = K (idv (List.replicate 32 0)) := PRun_eq (fun w => by
  unfold Instr.build
  simp only [Sem.run_bind, hz25, Result.andThen_ok, Try.runUnderlying25, Try.sizeOf5]
  rw [zc25]
  rfl) K
theorem known_spec {w : World} : Calls Try.prog 5 #[] w (retK fun v w' => v = .bool true ∧ Ext (fun _ => False) w w') := by
  refine F5_ok _ _ ?_
  unfold F5
  refine CallF_by Try.call7 new_spec ?_
  rintro _ w1 ⟨rfl, hp1, hm1, hx1⟩
  have d0 : decide ((0 : Int) = 0) = true := rfl
  simp only [p_extract0, p_extract1]
  simp (maxSteps := 2000000) (disch := first | exact dT_ | fail) only [p_eqlNilP Try.runUnderlying26, Option.isNone_some, Pick_bool, cond_false, p_neq, Branch_bool, Gdn_true, Bool.not_true, true_and, Bool.false_eq_true, false_implies, forall_const, decide_true]
  unfold F5x1
  rw [bldI0]
  refine CallF_by Try.call8 (signed1 0 zero32) ?_
  rintro D w2 ⟨hD, hx2⟩
  refine CallF_by Try.call9 (set_nil (by omega) (by omega)) ?_
  rintro _ w3 ⟨rfl, hx3⟩
  have d8 : decide ((8 : Int) = 8) = true := rfl
  simp (maxSteps := 2000000) (disch := first | exact dT_ | fail) only [Pick_bool, cond_true, p_eql, Gd_true, GdE_true, decide_true]
  have hx13 := hx2.trans hx3 fun _ _ h => h
  have hS : SlC w3 (sz w + 1) (sz w) (keyL 0) none 0 (fun _ => False) := slc_new _ (hx13.at hp1 not_false) (hx13.at hm1 not_false)
  have hD3 := Vec.ext hD hx3 fun _ _ _ => not_false
  have l1 := Hp_lt hp1
  refine CallF_by Try.call9 (set_signed (by omega) zero32 hS (fun d v b e => by cases e) hD3 (by omega) (fun b h => h.elim) (fun b h => by omega) (src := 0) (exp := 9) (by omega) (by omega)) ?_
  rintro _ w4 ⟨rfl, ⟨o', c', hS4, ho4⟩, hx4⟩
  have e1 : setE (Option.map (fun x => x.1) (none : Ent)) (sdL 0 0 (List.replicate 32 0) 0 9) = (0, some (sdL 0 0 (List.replicate 32 0) 0 9)) := rfl
  rw [e1] at ho4 ⊢
  simp (maxSteps := 2000000) (disch := first | exact dT_ | fail) only [Pick_bool, cond_true, p_eql, Gd_true, GdE_true, decide_true]
  refine CallF_by Try.call10 (all_spec (keyL_length 0) hS4) ?_
  rintro v w5 ⟨hx5, hA⟩
  rw [ho4] at hA
  obtain ⟨dv, hv, hb⟩ := hA
  obtain ⟨a, cap, rfl⟩ := Vec.slice hv
  have d1 : decide (((1 : Nat) : Int) = 1) = true := rfl
  simp (maxSteps := 2000000) (disch := first | exact dT_ | fail) only [d1, p_eql, true_and, len33]
  have hs1 := hx1.size
  have hs3 := hx13.size
  exact ((hx1.trans hx13 fun _ _ h => h).trans2 hx4 (fun _ _ h => h) fun b hb e => by omega).trans hx5 fun _ _ h => h
end Go.Proofs
namespace Go.Proofs
open Go Go.Lf
set_option maxRecDepth 20000
set_option maxHeartbeats 2000000
set_option linter.unusedSimpArgs false
set_option linter.unusedVariables false
def nodeN (x : UInt8) : List UInt8 := x :: List.replicate 31 0
theorem nodeN_length (x : UInt8) : (nodeN x).length = 32 := by simp [nodeN]
theorem signedL_ne {who : Int} {q : Nat} {node : List UInt8} (hnode : node.length = 32) : (signedL who q node).length = 4427 := by
  unfold signedL; rw [rootB_length (pubL_length (nameL_length who)) hnode, sig6L_length]
section
variable {W : World} {B o' cap : Nat} {row : Array Value} {key : List UInt8} (hk : key.length = 32) {d : SD} {dv tw : Value} {l : List UInt8} (hrow : Hp W B = some (.cells row 36)) (hsz : o' + cap * 36 ≤ row.size) (hcap : 1 ≤ cap)
    (hcells : ∀ j, j < 1 * 36 → row[o' + j]? = (scell key d dv).toList[j]?) (hdv : BOf W dv l) (htw : BOf W tw l)
include hk hrow hcells hdv htw
theorem same_x1 {p : Nat} {one : Value} (h2 : d.ver = 2) (h4 : d.src = 4) {e : Int} (he : d.exp = e) {R : World → Prop} {K : Value → World → Prop} (hset : CallF Try.prog 9 #[ptr p 0, one, i64 3, i64 90, i64 0] W.drew (fun v w => v = i64 14 ∧ R w)) (hK : ∀ w, R w → K (.bool true) w) :
    F3x1 (.slice (some ⟨B, o', none⟩) 1 cap) W tw (i64 e) (ptr p 0) one K := by
  have c32 : row[o' + 32]? = some (i64 2) := by rw [hcells 32 (by omega), Array.getElem?_toList, sc_32 hk, h2]
  have c33 : row[o' + 33]? = some dv := by rw [hcells 33 (by omega), Array.getElem?_toList, sc_33 hk]
  have c34 : row[o' + 34]? = some (i64 4) := by rw [hcells 34 (by omega), Array.getElem?_toList, sc_34 hk, h4]
  have c35 : row[o' + 35]? = some (i64 e) := by rw [hcells 35 (by omega), Array.getElem?_toList, sc_35 hk, he]
  have q1 := q_toStr (BOf_ext hdv ((Ext.refl (fun _ => False) W).drew))
  have q2 := q_toStr (BOf_ext htw ((Ext.refl (fun _ => False) W).drew))
  clear hcells hdv htw
  have e2 : (0 : Int).toNat * 36 = 0 := rfl
  have dl : decide (l = l) = true := by simp
  have t2 : decide ((2 : Int) = 2) = true := rfl
  have t4 : decide ((4 : Int) = 4) = true := rfl
  have te : decide (e = e) = true := by simp
  have h01 : (0 : Int) < ((1 : Nat) : Int) := by omega
  unfold F3x1
  simp (maxSteps := 2000000) (disch := first | exact dT_ | fail) only [hrow, c32, c33, c34, c35, q1, q2, Pick_bool, cond_true, p_eql, L1_cells, Hp_drew, Gd_true, GdE_true, Option.elim_some, Nat.add_zero, p_eqlStr, decide_true, Int.reduceToNat, Nat.reduceMul, ix33, fld36_1, fld36_2, fld36_3, fld36_4, ld3, ld30]
  refine hset.mono ?_
  rintro _ w ⟨rfl, hR⟩
  have t14 : decide ((14 : Int) = 14) = true := rfl
  simp (maxSteps := 2000000) (disch := first | exact dT_ | fail) only [p_eql, decide_true]
  exact hK w hR
theorem same_x2 (h2 : d.ver = 1) (h4 : d.src = 3) {e e' : Int} (he : d.exp = max e e') {K : Value → World → Prop} (hK : K (.bool true) W.drew) :
    F3x2 (.slice (some ⟨B, o', none⟩) 1 cap) W tw (i64 e) (i64 e') K := by
  have c32 : row[o' + 32]? = some (i64 1) := by rw [hcells 32 (by omega), Array.getElem?_toList, sc_32 hk, h2]
  have c33 : row[o' + 33]? = some dv := by rw [hcells 33 (by omega), Array.getElem?_toList, sc_33 hk]
  have c34 : row[o' + 34]? = some (i64 3) := by rw [hcells 34 (by omega), Array.getElem?_toList, sc_34 hk, h4]
  have c35 : row[o' + 35]? = some (i64 (max e e')) := by rw [hcells 35 (by omega), Array.getElem?_toList, sc_35 hk, he]
  have q1 := q_toStr (BOf_ext hdv ((Ext.refl (fun _ => False) W).drew))
  have q2 := q_toStr (BOf_ext htw ((Ext.refl (fun _ => False) W).drew))
  clear hcells hdv htw
  have e2 : (0 : Int).toNat * 36 = 0 := rfl
  have dl : decide (l = l) = true := by simp
  have t2 : decide ((1 : Int) = 1) = true := rfl
  have t4 : decide ((3 : Int) = 3) = true := rfl
  have te : decide (max e e' = max e e') = true := by simp
  have h01 : (0 : Int) < ((1 : Nat) : Int) := by omega
  unfold F3x2
  simp (maxSteps := 2000000) (disch := first | exact dT_ | fail) only [hrow, c32, c33, c34, c35, q1, q2, Pick_bool, cond_true, p_eql, p_max, L1_cells, Hp_drew, Gd_true, Option.elim_some, Nat.add_zero, p_eqlStr, decide_true, Int.reduceToNat, Nat.reduceMul, ix33, fld36_1, fld36_2, fld36_3, fld36_4, ld3, ld30]
  exact hK
end
theorem same_tail {nw : Bool} {W : World} {a : Option Addr} {cap : Nat} {A B : Prop} {K : Value → World → Prop} (h : (nw = true → A) ∧ (nw = false → B)) :
    PRun Try.prog (eqS .neq 27 (.tmp 47) (.const (Value.int .i64 0)) (i64 0) (Value.int .i64 0)) fun v48 =>
    Gd v48 false (fun k => k (i64 0)) fun v50 =>
    Gd v48 false (fun k => PRun Try.prog (eqS .neq 27 (.tmp 50) (.const (Value.int .i64 0)) v50 (Value.int .i64 0)) k) fun v51 =>
    Pick v48 (Value.bool true) v51 fun v52 =>
    Gd v52 false (fun k => k (.slice a 1 cap)) fun v54 =>
    Gd v52 false (fun k => PRun Try.prog (Builtin.len_ #[33] 3 #[v54]) k) fun v55 =>
    Gd v52 false (fun k => PRun Try.prog (eqS .neq 3 (.tmp 55) (.const (Value.int .i64 1)) v55 (Value.int .i64 1)) k) fun v56 =>
    Pick v52 (Value.bool true) v56 fun v57 =>
    Branch v57 (K (Value.bool false) W) (Branch (.bool nw) A B) := by
  have d0 : decide ((0 : Int) = 0) = true := rfl
  have d1 : decide (((1 : Nat) : Int) = 1) = true := rfl
  simp (maxSteps := 2000000) (disch := first | exact dT_ | fail) only [d1, Pick_bool, cond_false, p_neq, Branch_bool, Gdn_true, Bool.not_true, true_and, Bool.false_eq_true, false_implies, forall_const, decide_true, len33]
  exact h
theorem same_spec {w : World} (a0 a1 : Int) (nw : Bool) : Calls Try.prog 3 #[i64 a0, i64 a1, .bool nw] w (retK fun v w' => v = .bool true ∧ Ext (fun _ => False) w w') := by
  refine F3_ok _ _ _ _ _ ?_
  unfold F3
  refine CallF_by Try.call5 known_spec ?_
  rintro _ w1 ⟨rfl, hx1⟩
  rw [p_not, Bool.not_true, Branch_false]
  unfold F3x4
  refine CallF_by Try.call6 (within_spec a0 50 (by omega) (by omega)) ?_
  rintro _ w2 ⟨⟨k0, hk0, -, rfl⟩, rfl⟩
  rw [p_add, wr_in _ (by omega)]
  refine CallF_by Try.call6 (within_spec a1 50 (by omega) (by omega)) ?_
  rintro _ w3 ⟨⟨k1, hk1, -, rfl⟩, rfl⟩
  rw [p_add, wr_in _ (by omega)]
  have s1 : (bc (List.replicate 32 0)).set 0 (Value.int .u8 1) = bc (nodeN 1) := rfl
  have s2 : (bc (List.replicate 32 0)).set 0 (Value.int .u8 2) = bc (nodeN 2) := rfl
  have z32 := zero32
  simp (maxSteps := 2000000) (disch := first | exact dT_ | fail) only [s1, s2, z32, put_allocN, St_cells, Hp_alloc_new, Hp_alloc_old, Hp_put_other, sz_alloc, cells_agg, cells_int, Branch_bool, Nat.zero_add, Nat.add_zero, List.size_toArray, List.length_cons, List.length_nil, Nat.reduceLeDiff, if_pos, and_self, forall_const, splice_lit, bc_length, Nat.mul_one, Int.reduceToNat, ix25, ld25, st5, al25, zv25]
  obtain ⟨w7, hw7⟩ : ∃ w7, w7 = (put (put ((w3.alloc (Obj.cells (bc (List.replicate 32 0)).toArray 25)).alloc (Obj.cells (bc (List.replicate 32 0)).toArray 25)) (sz w3) (Obj.cells (bc (nodeN 1)).toArray 25)) (sz w3 + 1) (Obj.cells (bc (nodeN 2)).toArray 25)) := ⟨_, rfl⟩
  have hx7 : Ext (fun _ => False) w3 w7 := by rw [hw7]; exact ((((Ext.refl _ _).alloc _).alloc _).put _ _ fun h => by omega).put _ _ fun h => by omega
  have h7a : Hp w7 (sz w3) = some (.cells (bc (nodeN 1)).toArray 25) := by rw [hw7]; (first | exact hpt_ | fail)
  have h7b : Hp w7 (sz w3 + 1) = some (.cells (bc (nodeN 2)).toArray 25) := by rw [hw7]; (first | exact hpt_ | fail)
  rw [← hw7]
  clear hw7
  have n1 := nodeN_length 1
  have n2 := nodeN_length 2
  have hx07 := hx1.trans hx7 fun _ _ h => h
  refine CallF_by Try.call7 new_spec ?_
  rintro _ w8 ⟨rfl, hp8, hm8, hx8⟩
  simp only [p_extract0, p_extract1]
  have hx08 := hx07.trans hx8 fun _ _ h => h
  rw [ldI_Ln (hx8.at h7a not_false) n1]
  refine CallF_by Try.call8 (signed1 2 n1) ?_
  rintro one w9 ⟨hone9, hx9⟩
  have h9b := hx9.at (hx8.at h7b not_false) not_false
  rw [ldI_Ln h9b n2]
  refine CallF_by Try.call8 (signed1 2 n2) ?_
  rintro two w10 ⟨htwo10, hx10⟩
  have hx810 := hx9.trans hx10 fun _ _ h => h
  have h10b := hx10.at h9b not_false
  have hone10 := Vec.ext hone9 hx10 fun _ _ _ => not_false
  have l8 := Hp_lt hp8
  have s9 := hx9.size
  obtain ⟨q2, hq2⟩ : ∃ q2 : Nat, q2 = if nw then 1 else 0 := ⟨_, rfl⟩
  have hq2l : q2 ≤ 1 := by rw [hq2]; split <;> omega
  refine Join1 (fun v w' => Bytes 5 w' v (signedL 2 q2 (nodeN 2)) (fun b => sz w8 ≤ b) ∧ Ext (fun _ => False) w8 w' ∧ Bytes 5 w' one (signedL 2 0 (nodeN 1)) (fun b => sz w8 ≤ b)) ?_ ?_
  · refine ⟨fun h => ?_, fun h => ?_⟩
    · rw [if_pos h] at hq2
      rw [ldI_Ln h10b n2, hq2]
      refine CallF_by Try.call8 (signed2 2 n2) ?_
      rintro tw w11 ⟨htw, hx11⟩
      have s10 := hx810.size
      exact ⟨Vec.mono htw fun b _ hb => by omega, hx810.trans hx11 fun _ _ h => h, Vec.ext hone10 hx11 fun _ _ _ => not_false⟩
    · rw [if_neg (by rw [h]; exact Bool.false_ne_true)] at hq2
      rw [hq2]
      exact ⟨Vec.mono htwo10 fun b _ hb => by omega, hx810, hone10⟩
  rintro tw w12 ⟨htw12, hx812, hone12⟩
  clear hone10 h10b h9b htwo10 hone9 h7a h7b hx810 hx10 hx9 s9
  unfold F3x3
  have hS : SlC w12 (sz w7 + 1) (sz w7) (keyL 2) none 0 (fun _ => False) := slc_new _ (hx812.at hp8 not_false) (hx812.at hm8 not_false)
  have s12 := hx812.size
  refine CallF_by Try.call9 (set_signed (by omega) n1 hS (fun d v b e => by cases e) hone12 (by omega) (fun b h => h.elim) (fun b h => by omega) (src := 3) (exp := 1 + k0) (by omega) (by omega)) ?_
  rintro v13 w13 ⟨hv13, ⟨o1, c1, hS13, ho1⟩, hx13⟩
  obtain rfl : v13 = i64 0 := hv13
  have ho1' : o1.map (·.1) = some (sdL 2 0 (nodeN 1) 3 (1 + k0)) := ho1
  clear ho1
  have s13 := hx13.size
  have htw13 := Vec.ext htw12 hx13 fun b _ hb => by omega
  have hone13 := Vec.ext hone12 hx13 fun b _ hb => by omega
  refine CallF_by Try.call9 (set_signed hq2l n2 hS13 (fun d v b e => ?_) htw13 (by omega) (fun b h => by rcases h with h | h; exact h.elim; omega) (fun b h => by omega) (src := 4) (exp := 1 + k1) (by omega) (by omega)) ?_
  · rw [e] at ho1'
    cases ho1'
    show (0 : Int) < 1 + k0
    omega
  rintro v14 w14 ⟨hv14, ⟨o2, c2, hS14, ho2⟩, hx14⟩
  rw [ho1'] at ho2 hv14
  have s14 := hx14.size
  have htw14 := Vec.ext htw13 hx14 fun b _ hb => by omega
  have hone14 := Vec.ext hone13 hx14 fun b _ hb => by omega
  refine CallF_by Try.call10 (all_spec (keyL_length 2) hS14) ?_
  rintro v w15 ⟨hx15, hA⟩
  have hxw12 : Ext (fun _ => False) w w12 := hx08.trans hx812 fun _ _ h => h
  have s8 := hx08.size
  have s07 := hx07.size
  have hxw15 : Ext (fun b => b = sz w7) w w15 := (((hxw12.mono fun _ _ h => h.elim).trans hx13 fun _ _ h => h).trans hx14 fun _ _ h => h).trans hx15 fun _ _ h => h.elim
  have hxw : Ext (fun _ => False) w w15 := hxw15.mono fun b hb h => by omega
  have s015 := hxw.size
  have s15 := hx15.size
  have htw15 := Vec.ext htw14 hx15 fun _ _ _ => not_false
  have hone15 := Vec.ext hone14 hx15 fun _ _ _ => not_false
  have hS15 := hS14.ext0 hx15
  have d0 : decide ((0 : Int) = 0) = true := rfl
  have d1 : decide (((1 : Nat) : Int) = 1) = true := rfl
  have hkl := keyL_length 2
  cases nw with
  | true =>
    rw [if_pos rfl] at hq2
    subst hq2
    obtain rfl : v14 = i64 0 := hv14
    have ho2' : o2.map (·.1) = some (sdL 2 1 (nodeN 2) 4 (1 + k1)) := ho2
    clear ho2
    rw [ho2'] at hA
    obtain ⟨dv, hv, hb⟩ := hA
    obtain ⟨hvl, ⟨-, hv0⟩ | ⟨B, o', cap, row, rfl, hcap, hrow, hsz, hcells, hQ⟩⟩ := hv
    · cases hv0
    have hfin : F3x1 (.slice (some ⟨B, o', none⟩) 1 cap) w15 tw (i64 (1 + (k1 : Int))) (ptr (sz w7 + 1) 0) one fun v w' => v = .bool true ∧ Ext (fun _ => False) w w' := by
      refine same_x1 hkl hrow hcells (Bytes.of hb) (Bytes.of htw15) rfl rfl rfl (R := fun w' => Ext (fun _ => False) w w') ?_ fun w' h => ⟨rfl, h⟩
      have hxd : Ext (fun _ => False) w15 w15.drew := (Ext.refl _ _).drew
      refine CallF_by Try.call9 (set_signed (by omega) n1 (hS15.ext0 hxd) (fun d v b e => ?_) (Vec.ext hone15 hxd fun _ _ _ => not_false) (by omega) (fun b h => by rcases h with (h | h) | h; exact h.elim; omega; omega) (fun b h => by omega) (src := 3) (exp := 90) (by omega) (by omega)) ?_
      · rw [e] at ho2'
        cases ho2'
        show (0 : Int) < 1 + k1
        omega
      · rintro v w' ⟨hv, -, hx⟩
        rw [ho2'] at hv
        obtain rfl : v = i64 14 := hv
        exact ⟨rfl, (hxw.drew).trans2 hx (fun _ _ h => h) fun b hb h => by omega⟩
    refine same_tail (nw := true) (W := w15) (K := fun v w' => v = Value.bool true ∧ Ext (fun _ => False) w w') ⟨fun _ => hfin, fun h => ?_⟩
    cases h
  | false =>
    rw [if_neg Bool.false_ne_true] at hq2
    subst hq2
    obtain rfl : v14 = i64 0 := hv14
    have ho2' : o2.map (·.1) = some { sdL 2 0 (nodeN 1) 3 (1 + k0) with exp := max (1 + (k0 : Int)) (1 + k1) } := ho2
    clear ho2
    rw [ho2'] at hA
    obtain ⟨dv, hv, hb⟩ := hA
    obtain ⟨hvl, ⟨-, hv0⟩ | ⟨B, o', cap, row, rfl, hcap, hrow, hsz, hcells, hQ⟩⟩ := hv
    · cases hv0
    have hfin : F3x2 (.slice (some ⟨B, o', none⟩) 1 cap) w15 one (i64 (1 + (k0 : Int))) (i64 (1 + (k1 : Int))) fun v w' => v = .bool true ∧ Ext (fun _ => False) w w' :=
      same_x2 hkl hrow hcells (Bytes.of hb) (Bytes.of hone15) rfl rfl rfl ⟨rfl, hxw.drew⟩
    refine same_tail (nw := false) (W := w15) (K := fun v w' => v = Value.bool true ∧ Ext (fun _ => False) w w') ⟨fun h => ?_, fun _ => hfin⟩
    cases h
end Go.Proofs
namespace Go.Proofs
open Go Go.Lf
set_option maxRecDepth 20000
set_option maxHeartbeats 2000000
set_option linter.unusedSimpArgs false
set_option linter.unusedVariables false
theorem rv_getN {p s : Value} {ver : Int} {node : List UInt8} (hn : node.length = 32) (k : Nat) (hk : k < 32) : (rootV p ver node s)[2 + k]? = some (u8v (node.getD k 0)) := by
  rw [rv_get hn, if_neg (by omega), if_pos (by omega), show 2 + k - 2 = k by omega, bc_getL _ _ (by omega)]
theorem rv_setN {p s : Value} {ver : Int} {node : List UInt8} (hn : node.length = 32) (k : Nat) (hk : k < 32) (x : UInt8) : splice (rootV p ver node s) (2 + k) #[u8v x] = rootV p ver (node.set k x) s := by
  have hl : (node.set k x).length = 32 := by rw [List.length_set]; exact hn
  have hsz : 2 + k + (#[u8v x] : Array Value).size ≤ (rootV p ver node s).size := by rw [rv_size hn]; show 2 + k + 1 ≤ 35; omega
  apply Array.ext_getElem?
  intro i
  rw [splice_get hsz, rv_get hn, rv_get hl, ← set_bc, List.getElem?_set]
  show (if 2 + k ≤ i ∧ i < 2 + k + 1 then #[u8v x][i - (2 + k)]? else _) = _
  by_cases h1 : i < 2
  · rw [if_neg (by omega), if_pos h1, if_pos h1]
  · by_cases h2 : i = 2 + k
    · subst h2
      rw [if_pos (by omega), if_neg (by omega), if_pos (by omega), if_pos (by omega), if_pos (by rw [bc_length]; omega)]
      simp
    · rw [if_neg (by omega), if_neg h1, if_neg h1]
      by_cases h3 : i < 34
      · rw [if_pos h3, if_pos h3, if_neg (by omega)]
      · rw [if_neg h3, if_neg h3]
/-- one byte of a slice is written -/
theorem Bytes.put {w : World} {B o cap n : Nat} {row : Array Value} {l : List UInt8} (hc : n ≤ cap) (hn : n = l.length) (hrow : Hp w B = some (.cells row 5)) (hsz : o + cap * 1 ≤ row.size) (hcells : ∀ j, j < l.length * 1 → row[o + j]? = (bc l)[j]?) {Q : Nat → Prop} (hQ : Q B) {i : Nat} (hi : i < l.length) (x : UInt8) :
    Bytes 5 (put w B (.cells (splice row (o + i) #[u8v x]) 5)) (.slice (some ⟨B, o, none⟩) n cap) (l.set i x) Q := by
  subst hn
  have hl : (l.set i x).length = l.length := List.length_set
  have hsp : o + i + (#[u8v x] : Array Value).size ≤ row.size := by show o + i + 1 ≤ _; omega
  refine ⟨by rw [bc_length]; omega, .inr ⟨B, o, cap, _, by rw [hl], by omega, Hp_put_same _ _ _ (Hp_lt hrow), by rw [splice_size hsp]; exact hsz, fun j hj => ?_, hQ⟩⟩
  rw [splice_get hsp, ← set_bc, List.getElem?_set, hcells j (by omega)]
  show (if o + i ≤ o + j ∧ o + j < o + i + 1 then #[u8v x][o + j - (o + i)]? else _) = _
  by_cases h : i = j
  · subst h
    rw [if_pos (by omega), if_pos rfl, if_pos (by rw [bc_length]; exact hi)]
    simp
  · rw [if_neg (by omega), if_neg h]
/-- public keys and signatures of the one shape -/
def PubOk (pub : List UInt8) : Prop := pub.length = 56 ∧ pub.take 8 = four 1 ++ four 2
def SigOk (sig : List UInt8) : Prop := sig.length = 4332 ∧ sig.take 8 = four 0 ++ four 2 ∧ (sig.drop 4296).take 4 = four 1
theorem PubOk.parts {pub : List UInt8} (h : PubOk pub) : ∃ name top, name.length = 16 ∧ top.length = 32 ∧ pub = four 1 ++ four 2 ++ name ++ top := by
  refine ⟨(pub.drop 8).take 16, pub.drop 24, by rw [List.length_take, List.length_drop, h.1]; decide, by rw [List.length_drop, h.1], ?_⟩
  rw [← h.2, List.append_assoc]
  have e : (pub.drop 8).take 16 ++ pub.drop 24 = pub.drop 8 := by
    rw [show pub.drop 24 = (pub.drop 8).drop 16 by rw [List.drop_drop]]
    exact List.take_append_drop _ _
  rw [e]; exact (List.take_append_drop _ _).symm
theorem SigOk.parts {sig : List UInt8} (h : SigOk sig) : ∃ osig side, osig.length = 4292 ∧ side.length = 32 ∧ osig.take 4 = four 2 ∧ sig = four ((0 : Nat) : Int) ++ osig ++ four 1 ++ side := by
  have h0 : sig.take 4 = four 0 := by
    have := congrArg (List.take 4) h.2.1
    rwa [List.take_take, List.take_left' (four_length 0)] at this
  have h1 : ((sig.drop 4).take 4292).take 4 = four 2 := by
    have := congrArg (List.drop 4) h.2.1
    rw [List.drop_take, List.drop_left' (four_length 0)] at this
    rw [List.take_take]; exact this
  refine ⟨(sig.drop 4).take 4292, sig.drop 4300, by rw [List.length_take, List.length_drop, h.1]; decide, by rw [List.length_drop, h.1], h1, ?_⟩
  have e3 : four 1 ++ sig.drop 4300 = sig.drop 4296 := by
    rw [← h.2.2, show sig.drop 4300 = (sig.drop 4296).drop 4 by rw [List.drop_drop]]
    exact List.take_append_drop _ _
  have e2 : (sig.drop 4).take 4292 ++ sig.drop 4296 = sig.drop 4 := by
    rw [show sig.drop 4296 = (sig.drop 4).drop 4292 by rw [List.drop_drop]]
    exact List.take_append_drop _ _
  show sig = four 0 ++ _ ++ four 1 ++ _
  rw [List.append_assoc, List.append_assoc, e3, e2, ← h0]
  exact (List.take_append_drop _ _).symm
theorem take_set_ge {l : List UInt8} {i n : Nat} {x : UInt8} (h : n ≤ i) : (l.set i x).take n = l.take n := by
  rw [List.take_set, List.set_eq_of_length_le]
  rw [List.length_take]; omega
theorem PubOk.set {pub : List UInt8} (h : PubOk pub) {i : Nat} (hi : 8 ≤ i) (x : UInt8) : PubOk (pub.set i x) := ⟨by rw [List.length_set]; exact h.1, by rw [take_set_ge hi]; exact h.2⟩
theorem SigOk.set {sig : List UInt8} (h : SigOk sig) {i : Nat} (hi : 8 ≤ i) (hi2 : i < 4296) (x : UInt8) : SigOk (sig.set i x) := by
  refine ⟨by rw [List.length_set]; exact h.1, by rw [take_set_ge hi]; exact h.2.1, ?_⟩
  rw [List.drop_set, if_pos hi2]; exact h.2.2
theorem pubL_ok (name seed : List UInt8) (hn : name.length = 16) : PubOk (pubL name seed) := by
  refine ⟨pubL_length hn, ?_⟩
  unfold pubL
  rw [List.append_assoc, List.take_left' (by simp [four_length])]
theorem sig6L_ok (name seed msg : List UInt8) : SigOk (sig6L name seed 0 msg) := by
  refine ⟨sig6L_length 0, ?_, ?_⟩
  · have e : sig6L name seed 0 msg = (four 0 ++ four 2) ++ (saltL name 0 seed ++ (List.range 133).flatMap (zL name 0 seed msg) ++ four 1 ++ leafL name seed 1) := by
      unfold sig6L signL; simp [List.append_assoc]
    rw [e, List.take_left' (by simp [four_length])]
  · unfold sig6L
    rw [List.append_assoc, List.drop_left' (by rw [List.length_append, four_length, signL_length]), List.take_left' (four_length 1)]
end Go.Proofs
namespace Go.Proofs
open Go Go.Lf
set_option maxRecDepth 20000
set_option maxHeartbeats 2000000
set_option linter.unusedSimpArgs false
set_option linter.unusedVariables false
/-- the root in hand, after it was turned -/
structure RJ (w0 w : World) (p7 m : Nat) (ver : Int) (pub node sig : List UInt8) (p s : Value) : Prop where
  r : Hp w p7 = some (.cells (rootV p ver node s) 39)
  pb : Bytes 5 w p pub (fun x => sz w0 ≤ x ∧ x < m)
  sb : Bytes 5 w s sig (fun x => m ≤ x ∧ x < p7)
  pk : PubOk pub
  sk : SigOk sig
  nl : node.length = 32
  v0 : 1 ≤ ver
  v1 : ver ≤ 2147483647
  hm : sz w0 ≤ m ∧ m ≤ p7
  x : Ext (fun _ => False) w0 w
theorem forged_turn {w0 w : World} {p7 m : Nat} {ver : Int} {pub node sig : List UInt8} {p s : Value} (h : RJ w0 w p7 m ver pub node sig p s) (a1 : Int) (b : UInt8) (k : Nat) (hk : k < 4) {R : World → Prop} (hR : ∀ w' ver' pub' node' sig', RJ w0 w' p7 m ver' pub' node' sig' p s → R w') :
    PRun Try.prog (eqS .eql 3 (.tmp 24) (.const (Value.int .i64 0)) (i64 (k : Int)) (Value.int .i64 0)) fun v26 =>
    Branch v26 (
      PRun Try.prog (convert 5 3 (u8v b)) fun v28 =>
      PRun Try.prog (binOp .add 3 (Value.int .i64 2) v28) fun v29 =>
      PRun Try.prog (Instr.fieldAt 39 (ptr p7 0) 1) fun v30 =>
      Run Try.prog (Instr.storeAt 3 v30 v29) w fun _ w7 =>
      R w7
    ) (
      F4x3 (i64 (k : Int)) (i64 a1) w (ptr p7 0) (u8v b) R
    ) := by
  have hr := h.r
  have l7 := Hp_lt hr
  have hn := h.nl
  have hb8 := UInt8.toNat_lt b
  match k, hk with
  | 0, _ =>
    have d0 : decide (((0 : Nat) : Int) = 0) = true := rfl
    have r1 := rv_put1 (p := p) (ver := ver) (s := s) hn (2 + (b.toNat : Int))
    have r2 := rv_size (p := p) (ver := ver) (s := s) hn
    have e1 : wr (b.toNat : Int) = (b.toNat : Int) := wr_in _ (by omega)
    have e2 : wr (2 + (b.toNat : Int)) = 2 + (b.toNat : Int) := wr_in _ (by omega)
    simp (maxSteps := 2000000) (disch := first | exact dT_ | fail) only [d0, hr, r1, r2, e1, e2, p_add, p_eql, St_cells, cells_int, Branch_bool, Nat.zero_add, List.size_toArray, List.length_cons, List.length_nil, Nat.reduceAdd, Nat.reduceLeDiff, if_pos, and_true, and_self, Bool.true_eq_false, false_implies, forall_const, i64w, fld39_1, cv5_3, st3]
    have hx : Ext (fun x => x = p7) w (put w p7 (Obj.cells (rootV p (2 + (b.toNat : Int)) node s) 39)) := (Ext.refl _ _).put _ _ fun _ => rfl
    exact hR _ _ _ _ _ ⟨Hp_put_same _ _ _ l7, Vec.ext h.pb hx fun x _ h' => by have := h.hm; omega, Vec.ext h.sb hx fun x _ h' => by omega, h.pk, h.sk, hn, by omega, by omega, h.hm, h.x.put _ _ fun h' => by have := h.hm; omega⟩
  | 1, _ =>
    have d0 : decide (((1 : Nat) : Int) = 0) = false := rfl
    have d1 : decide (((1 : Nat) : Int) = 1) = true := rfl
    simp (maxSteps := 2000000) (disch := first | exact dT_ | fail) only [d0, p_add, p_eql, Branch_bool, Nat.zero_add, true_and, Bool.false_eq_true, false_implies, forall_const, i64w, wr_in, fld39_1, cv5_3, st3]
    unfold F4x3
    simp (maxSteps := 2000000) (disch := first | exact dT_ | fail) only [d1, p_eql, Branch_bool, Nat.zero_add, and_true, Bool.true_eq_false, false_implies, forall_const, fld39_2]
    refine CallF_by Try.call6 (within_spec a1 32 (by omega) (by omega)) ?_
    rintro _ w' ⟨⟨k, hk, -, rfl⟩, rfl⟩
    have g1 := rv_getN (p := p) (ver := ver) (s := s) hn k hk
    have g2 := rv_setN (p := p) (ver := ver) (s := s) hn k hk (node.getD k 0 ^^^ b)
    have r2 := rv_size (p := p) (ver := ver) (s := s) hn
    have hk' : (k : Int) < ((32 : Nat) : Int) := by omega
    have hk2 : 2 + k + 1 ≤ 35 := by omega
    simp (maxSteps := 2000000) (disch := first | exact dT_ | fail) only [hr, g1, g2, r2, hk2, L1_cells, St_cells, cells_int, Option.elim_some, Nat.zero_add, List.size_toArray, List.length_cons, List.length_nil, if_pos, and_self, Int.toNat_natCast, Nat.mul_one, p_xor8, ix25, ld5, st5]
    have hx : Ext (fun x => x = p7) w' (put w' p7 (Obj.cells (rootV p ver (node.set k (node.getD k 0 ^^^ b)) s) 39)) := (Ext.refl _ _).put _ _ fun _ => rfl
    exact hR _ _ _ _ _ ⟨Hp_put_same _ _ _ l7, Vec.ext h.pb hx fun x _ h' => by have := h.hm; omega, Vec.ext h.sb hx fun x _ h' => by omega, h.pk, h.sk, by rw [List.length_set]; exact hn, h.v0, h.v1, h.hm, h.x.put _ _ fun h' => by have := h.hm; omega⟩
  | 2, _ =>
    have d0 : decide (((2 : Nat) : Int) = 0) = false := rfl
    have d1 : decide (((2 : Nat) : Int) = 1) = false := rfl
    have d2 : decide (((2 : Nat) : Int) = 2) = true := rfl
    simp (maxSteps := 2000000) (disch := first | exact dT_ | fail) only [d0, p_add, p_eql, Branch_bool, Nat.zero_add, true_and, Bool.false_eq_true, false_implies, forall_const, i64w, wr_in, fld39_1, cv5_3, st3]
    unfold F4x3
    simp (maxSteps := 2000000) (disch := first | exact dT_ | fail) only [d1, p_eql, Branch_bool, Nat.zero_add, true_and, Bool.false_eq_true, false_implies, forall_const, fld39_2]
    unfold F4x2
    simp (maxSteps := 2000000) (disch := first | exact dT_ | fail) only [d2, hr, rv_0, p_eql, L1_cells, Hp_drew, Branch_bool, Option.elim_some, Nat.add_zero, and_true, Bool.true_eq_false, false_implies, forall_const, fld39_0, ld30]
    refine CallF_by Try.call6 (within_spec a1 48 (by omega) (by omega)) ?_
    rintro _ w' ⟨⟨k, hk, -, rfl⟩, hw'⟩
    have hpl := h.pk.1
    have hpb := h.pb
    obtain ⟨-, ⟨-, h0⟩ | ⟨B, o, cap, row, rfl, hc, hrow, hsz, hcells, hQ⟩⟩ := hpb
    · omega
    have hr' : Hp w' p7 = some (.cells (rootV (.slice (some ⟨B, o, none⟩) pub.length cap) ver node s) 39) := by rw [hw']; exact hr
    have hrow' : Hp w' B = some (.cells row 5) := by rw [hw']; exact hrow
    have e1 : wr (8 + (k : Int)) = 8 + (k : Int) := wr_in _ (by omega)
    have e2 : (8 + (k : Int)).toNat = 8 + k := by omega
    have hg : row[o + (8 + k)]? = some (u8v (pub.getD (8 + k) 0)) := by rw [hcells _ (by omega), bc_getL _ _ (by omega)]
    have hk' : 8 + (k : Int) < (pub.length : Int) := by omega
    have hsz1 : o + (8 + k) + 1 ≤ row.size := by omega
    simp (maxSteps := 2000000) (disch := first | exact dT_ | fail) only [hr', rv_0, e1, e2, hrow', hg, hsz1, p_add, L1_cells, St_cells, cells_int, Option.elim_some, Nat.zero_add, List.size_toArray, List.length_cons, List.length_nil, if_pos, true_and, and_self, Nat.mul_one, p_xor8, ix30, ld5, st5]
    have hx : Ext (fun x => x = B) w' (put w' B (Obj.cells (splice row (o + (8 + k)) #[u8v (pub.getD (8 + k) 0 ^^^ b)]) 5)) := (Ext.refl _ _).put _ _ fun _ => rfl
    have hxw : Ext (fun _ => False) w w' := by rw [hw']; exact (Ext.refl _ _).drew
    have hm := h.hm
    have hne : p7 ≠ B := by omega
    refine hR _ ver (pub.set (8 + k) (pub.getD (8 + k) 0 ^^^ b)) node sig ⟨hx.at hr' hne, Bytes.put hc rfl hrow' hsz hcells hQ (by omega) _, Vec.ext (Vec.ext h.sb hxw fun _ _ _ => not_false) hx fun x _ h' => by omega, h.pk.set (by omega) _, h.sk, hn, h.v0, h.v1, hm, (h.x.trans hxw fun _ _ h => h).trans2 hx (fun _ _ h => h) fun x hx' e => by omega⟩
  | 3, _ =>
    have d0 : decide (((3 : Nat) : Int) = 0) = false := rfl
    have d1 : decide (((3 : Nat) : Int) = 1) = false := rfl
    have d2 : decide (((3 : Nat) : Int) = 2) = false := rfl
    have d3 : decide (((3 : Nat) : Int) = 3) = true := rfl
    have r34 := rv_34 (p := p) (ver := ver) (s := s) hn
    simp (maxSteps := 2000000) (disch := first | exact dT_ | fail) only [d0, p_add, p_eql, Branch_bool, Nat.zero_add, true_and, Bool.false_eq_true, false_implies, forall_const, i64w, wr_in, fld39_1, cv5_3, st3]
    unfold F4x3
    simp (maxSteps := 2000000) (disch := first | exact dT_ | fail) only [d1, p_eql, Branch_bool, Nat.zero_add, true_and, Bool.false_eq_true, false_implies, forall_const, fld39_2]
    unfold F4x2
    simp (maxSteps := 2000000) (disch := first | exact dT_ | fail) only [d2, p_eql, Hp_drew, Branch_bool, Nat.add_zero, true_and, Bool.false_eq_true, false_implies, forall_const, fld39_0, ld30]
    unfold F4x1
    simp (maxSteps := 2000000) (disch := first | exact dT_ | fail) only [d3, hr, r34, p_eql, L1_cells, Hp_drew, Branch_bool, Option.elim_some, Nat.zero_add, and_true, Bool.true_eq_false, false_implies, forall_const, fld39_3, ld30]
    refine CallF_by Try.call6 (within_spec a1 4000 (by omega) (by omega)) ?_
    rintro _ w' ⟨⟨k, hk, -, rfl⟩, hw'⟩
    have hpl := h.sk.1
    have hpb := h.sb
    obtain ⟨-, ⟨-, h0⟩ | ⟨B, o, cap, row, rfl, hc, hrow, hsz, hcells, hQ⟩⟩ := hpb
    · omega
    have hr' : Hp w' p7 = some (.cells (rootV p ver node (.slice (some ⟨B, o, none⟩) sig.length cap)) 39) := by rw [hw']; exact hr
    have hrow' : Hp w' B = some (.cells row 5) := by rw [hw']; exact hrow
    have e1 : wr (36 + (k : Int)) = 36 + (k : Int) := wr_in _ (by omega)
    have e2 : (36 + (k : Int)).toNat = 36 + k := by omega
    have hg : row[o + (36 + k)]? = some (u8v (sig.getD (36 + k) 0)) := by rw [hcells _ (by omega), bc_getL _ _ (by omega)]
    have hk' : 36 + (k : Int) < (sig.length : Int) := by omega
    have hsz1 : o + (36 + k) + 1 ≤ row.size := by omega
    simp (maxSteps := 2000000) (disch := first | exact dT_ | fail) only [hr', r34, e1, e2, hrow', hg, hsz1, p_add, L1_cells, St_cells, cells_int, Option.elim_some, Nat.zero_add, List.size_toArray, List.length_cons, List.length_nil, if_pos, true_and, and_self, Nat.mul_one, p_xor8, ix30, ld5, st5]
    have hx : Ext (fun x => x = B) w' (put w' B (Obj.cells (splice row (o + (36 + k)) #[u8v (sig.getD (36 + k) 0 ^^^ b)]) 5)) := (Ext.refl _ _).put _ _ fun _ => rfl
    have hxw : Ext (fun _ => False) w w' := by rw [hw']; exact (Ext.refl _ _).drew
    have hm := h.hm
    have hne : p7 ≠ B := by omega
    refine hR _ ver pub node (sig.set (36 + k) (sig.getD (36 + k) 0 ^^^ b)) ⟨hx.at hr' hne, Vec.ext (Vec.ext h.pb hxw fun _ _ _ => not_false) hx fun x _ h' => by omega, Bytes.put hc rfl hrow' hsz hcells hQ (by omega) _, h.pk, h.sk.set (by omega) (by omega) _, hn, h.v0, h.v1, hm, (h.x.trans hxw fun _ _ h => h).trans2 hx (fun _ _ h => h) fun x hx' e => by omega⟩
theorem forged_spec {w : World} (a0 a1 : Int) (b : UInt8) : Calls Try.prog 4 #[i64 a0, i64 a1, u8v b] w (retK fun v w' => v = .bool true ∧ Ext (fun _ => False) w w') := by
  refine F4_ok _ _ _ _ _ ?_
  unfold F4
  refine CallF_by Try.call5 known_spec ?_
  rintro _ w1 ⟨rfl, hx1⟩
  rw [p_not, Bool.not_true, Branch_false, p_eql, Branch_bool]
  refine ⟨fun _ => ⟨rfl, hx1⟩, fun _ => ?_⟩
  unfold F4x5
  rw [bldI0]
  refine CallF_by Try.call8 (signed1 1 zero32) ?_
  rintro D w2 ⟨hD, hx2⟩
  have hpok := pubL_ok (nameL 1) (seedL 1) (nameL_length 1)
  have hsok := sig6L_ok (nameL 1) (seedL 1) (claimL ((0 + 1 : Nat) : Int) (List.replicate 32 0))
  obtain ⟨pub, hpub⟩ : ∃ x, x = pubL (nameL 1) (seedL 1) := ⟨_, rfl⟩
  obtain ⟨sig, hsig⟩ : ∃ x, x = sig6L (nameL 1) (seedL 1) 0 (claimL ((0 + 1 : Nat) : Int) (List.replicate 32 0)) := ⟨_, rfl⟩
  have hD' : Bytes 5 w2 D (rootB pub ((0 + 1 : Nat) : Int) (List.replicate 32 0) sig) (fun b => sz w1 ≤ b) := by rw [hpub, hsig]; exact hD
  rw [← hpub] at hpok
  rw [← hsig] at hsok
  clear hD hpub hsig
  refine CallF_by Try.call11 (parse9_spec hpok.1 zero32 (by rw [hsok.1]; decide) (by rw [hsok.1]; decide) (by decide) (by decide) hD') ?_
  rintro _ w3 ⟨p, s, m, rfl, hm, hpv, hsv, hx3⟩
  simp only [p_extract0, p_extract1]
  rw [rv_new]
  have ho1 : oneCell p := by obtain ⟨a, c', e⟩ := Vec.slice hpv; rw [e]; trivial
  have ho2 : oneCell s := by obtain ⟨a, c', e⟩ := Vec.slice hsv; rw [e]; trivial
  rw [rv_st (Hp_alloc_new _ _ _ rfl) zero32 zero32 ho1 ho2]
  obtain ⟨w5, hw5⟩ : ∃ w5, w5 = put (w3.alloc (.cells (rootV (.slice none 0 0) 0 (List.replicate 32 0) (.slice none 0 0)) 39)) (sz w3) (.cells (rootV p ((0 + 1 : Nat) : Int) (List.replicate 32 0) s) 39) := ⟨_, rfl⟩
  have hx35 : Ext (fun _ => False) w3 w5 := by rw [hw5]; exact ((Ext.refl _ _).alloc _).put _ _ fun h => by omega
  have h57 : Hp w5 (sz w3) = some (.cells (rootV p ((0 + 1 : Nat) : Int) (List.replicate 32 0) s) 39) := by rw [hw5]; exact Hp_put_same _ _ _ (by rw [sz_alloc]; omega)
  rw [← hw5]
  clear hw5
  have hx05 := ((hx1.trans hx2 fun _ _ h => h).trans hx3 fun _ _ h => h).trans hx35 fun _ _ h => h
  have s1 := hx1.size
  have s2 := hx2.size
  have s3 := hx3.size
  have hmle : m ≤ sz w3 := by
    obtain ⟨a, c', e⟩ := Vec.slice hsv
    obtain ⟨-, ⟨-, h0⟩ | ⟨B, o, cap, row, e2, hc, hrow, -, -, hQ⟩⟩ := hsv
    · have := hsok.1; omega
    · have := Hp_lt hrow; omega
  have hRJ : RJ w w5 (sz w3) m ((0 + 1 : Nat) : Int) pub (List.replicate 32 0) sig p s := ⟨h57, Vec.mono (Vec.ext hpv hx35 fun _ _ _ => not_false) fun x _ h => ⟨by omega, h.2⟩, Vec.mono (Vec.ext (Vec.mono (Q' := fun x => m ≤ x ∧ x < sz w3) hsv fun x h h' => ⟨h', h⟩) hx35 fun _ _ _ => not_false) fun x _ h => h, hpok, hsok, zero32, by decide, by decide, ⟨by omega, hmle⟩, hx05⟩
  refine Join0 (fun w' => ∃ ver' pub' node' sig', RJ w w' (sz w3) m ver' pub' node' sig' p s) ?_ ?_
  · refine CallF_by Try.call6 (within_spec a0 4 (by omega) (by omega)) ?_
    rintro _ w6 ⟨⟨k, hk, -, rfl⟩, rfl⟩
    exact forged_turn hRJ a1 b k hk fun w' ver' pub' node' sig' h => ⟨ver', pub', node', sig', h⟩
  clear hRJ hx05 h57 hx35 hsv hpv hD' hpok hsok hx3 hx2 hx1 s1 s2 s3 hm hmle
  rintro w14 ⟨ver, pub, node, sig, h⟩ _
  obtain ⟨name, top, hnl, htl, hpe⟩ := h.pk.parts
  obtain ⟨osig, side, hol, hsl, ho4, hse⟩ := h.sk.parts
  have hpl := h.pk.1
  have hsgl := h.sk.1
  have hr := h.r
  have r1 := rv_size (p := p) (ver := ver) (s := s) h.nl
  have r2 := rv_all (p := p) (ver := ver) (s := s) h.nl
  have hld : ∀ {W : World} {K : Value → Prop}, Hp W (sz w3) = some (.cells (rootV p ver node s) 39) → K (.agg (rootV p ver node s)) → QRun Try.prog (Instr.loadAt 39 (ptr (sz w3) 0)) W K := fun h hK => by
    rw [ld39, h, Ln_cells, r1, if_pos (by decide), Nat.zero_add, r2]; exact hK
  refine hld hr ?_
  refine CallF_by Try.call12 (right_spec hnl htl hsl hol ho4 (by omega) hpe hse h.nl h.pb h.sb ver) ?_
  rintro _ w15 ⟨rfl, hx15⟩
  by_cases hroot : rootL name 0 (claimL ver node) osig side = top
  · rw [if_pos hroot, p_eql, show decide ((0 : Int) = 0) = true from rfl, Branch_true]
    exact ⟨trivial, h.x.trans hx15 fun _ _ h => h⟩
  rw [if_neg hroot, p_eql, show decide ((12 : Int) = 0) = false from rfl, Branch_false]
  unfold F4x4
  refine hld (hx15.at hr not_false) ?_
  have hx015 := h.x.trans hx15 fun _ _ h => h
  refine CallF_by Try.call13 (root9_spec hpl h.nl (by omega) h.v0 h.v1 (BOf_ext (Bytes.of h.pb) hx15) (BOf_ext (Bytes.of h.sb) hx15)) ?_
  rintro _ w16 ⟨u, rfl, hu, hx16⟩
  simp only [p_extract0, p_extract1]
  refine CallF_by Try.call7 new_spec ?_
  rintro _ w17 ⟨rfl, hp17, hm17, hx17⟩
  simp only [p_extract0, p_extract1]
  have hx017 := (hx015.trans hx16 fun _ _ h => h).trans hx17 fun _ _ h => h
  have hu17 := Vec.ext hu hx17 fun _ _ _ => not_false
  have hS : SlC w17 (sz w16 + 1) (sz w16) (sha pub) none 0 (fun _ => False) := slc_new _ hp17 hm17
  have l17 := Hp_lt hp17
  have hu17' := Vec.ext (Vec.mono (Q' := fun b => b < sz w16) hu fun x hx _ => hx) hx17 fun _ _ _ => not_false
  have d0 : decide ((0 : Int) = 0) = true := rfl
  have d12 : decide ((12 : Int) = 12) = true := rfl
  have dn : decide (((0 : Nat) : Int) = 0) = true := rfl
  simp (maxSteps := 2000000) (disch := first | exact dT_ | fail) only [Pick_bool, cond_true, p_eql, Gd_true, GdE_true, decide_true]
  refine CallF_by Try.call9 (set_spec hnl htl hsl hol ho4 (Nat.zero_le 1) hpe hse h.nl h.v0 h.v1 hS (fun d v b e => by cases e) hu17' (by omega) (fun b h => h.elim) (fun b h => by omega) (src := 0) (exp := 9) (by omega) (by omega)) ?_
  intro v18 w18 hh
  rw [if_neg hroot] at hh
  obtain ⟨rfl, hx18⟩ := hh
  simp (maxSteps := 2000000) (disch := first | exact dT_ | fail) only [Pick_bool, cond_true, p_eql, Gd_true, GdE_true, decide_true]
  refine CallF_by Try.call10 (all_spec (sha_length pub) (hS.ext0 hx18)) ?_
  rintro v w19 ⟨hx19, a, c, rfl⟩
  simp (maxSteps := 2000000) (disch := first | exact dT_ | fail) only [dn, p_eql, true_and, len33]
  exact (hx017.trans hx18 fun _ _ h => h).trans hx19 fun _ _ h => h
end Go.Proofs
