/- A part of the proof: A.Ty. -/
import Derived.Test.YtgfeaeedlakmfaaLBuild
import Derived.Test.YtgfeaeedlakmfaaProg
set_option linter.unusedVariables false
set_option linter.unusedSimpArgs false
set_option linter.unusedSectionVars false
namespace Go.Proofs
open Go Go.Lf
theorem mixed : Try.prog.follows .mixedOrders = true := by kernel_rfl
theorem ld3 (w : World) (b o : Nat) (K : Value → Prop) : QRun Try.prog (Instr.loadAt 3 (ptr b o)) w K = L1 Try.prog 3 w b o (Hp w b) K := q_load1 Try.isAgg3 w b o K
theorem st3 (w : World) (b o : Nat) (k : IntKind) (n : Int) (K : Unit → World → Prop) : Run Try.prog (Instr.storeAt 3 (ptr b o) (.int k n)) w K = St Try.prog 3 1 w b o (.int k n) (Hp w b) K := r_store1 Try.sizeOf3 w b o _ K trivial
noncomputable def z3 : Value := ((Try.t3).zero).getD undef
theorem al3 (w : World) (x : Value) (K : Value → World → Prop) : Run Try.prog (Instr.alloc 3 true x) w K = K (ptr (sz w) 0) (w.alloc (.cells (z3).cells 3)) := r_alloc (z := z3) (fun w => (Try.zeroValue3 w).trans (by kernel_rfl)) w x K
theorem zc3 : (z3).cells = #[(Value.int .i64 0)] := by kernel_rfl
theorem zv3 : z3 = (Value.int .i64 0) := by kernel_rfl
theorem hz3 (w : World) : (zeroValue 3).run Try.prog w = .ok z3 w := (Try.zeroValue3 w).trans (by kernel_rfl)
theorem key3 : KeyLaw Try.prog 3 (fun _ : Int => True) (fun n => .int .i64 n) := key_int Try.runUnderlying3
theorem ld4 (w : World) (b o : Nat) (K : Value → Prop) : QRun Try.prog (Instr.loadAt 4 (ptr b o)) w K = L1 Try.prog 4 w b o (Hp w b) K := q_load1 Try.isAgg4 w b o K
theorem st4 (w : World) (b o : Nat) (x : Bool) (K : Unit → World → Prop) : Run Try.prog (Instr.storeAt 4 (ptr b o) (.bool x)) w K = St Try.prog 4 1 w b o (.bool x) (Hp w b) K := r_store1 Try.sizeOf4 w b o _ K trivial
noncomputable def z4 : Value := ((Try.t4).zero).getD undef
theorem al4 (w : World) (x : Value) (K : Value → World → Prop) : Run Try.prog (Instr.alloc 4 true x) w K = K (ptr (sz w) 0) (w.alloc (.cells (z4).cells 4)) := r_alloc (z := z4) (fun w => (Try.zeroValue4 w).trans (by kernel_rfl)) w x K
theorem zc4 : (z4).cells = #[(Value.bool false)] := by kernel_rfl
theorem zv4 : z4 = (Value.bool false) := by kernel_rfl
theorem hz4 (w : World) : (zeroValue 4).run Try.prog w = .ok z4 w := (Try.zeroValue4 w).trans (by kernel_rfl)
theorem ld5 (w : World) (b o : Nat) (K : Value → Prop) : QRun Try.prog (Instr.loadAt 5 (ptr b o)) w K = L1 Try.prog 5 w b o (Hp w b) K := q_load1 Try.isAgg5 w b o K
theorem st5 (w : World) (b o : Nat) (k : IntKind) (n : Int) (K : Unit → World → Prop) : Run Try.prog (Instr.storeAt 5 (ptr b o) (.int k n)) w K = St Try.prog 5 1 w b o (.int k n) (Hp w b) K := r_store1 Try.sizeOf5 w b o _ K trivial
noncomputable def z5 : Value := ((Try.t5).zero).getD undef
theorem al5 (w : World) (x : Value) (K : Value → World → Prop) : Run Try.prog (Instr.alloc 5 true x) w K = K (ptr (sz w) 0) (w.alloc (.cells (z5).cells 5)) := r_alloc (z := z5) (fun w => (Try.zeroValue5 w).trans (by kernel_rfl)) w x K
theorem zc5 : (z5).cells = #[(Value.int .u8 0)] := by kernel_rfl
theorem zv5 : z5 = (Value.int .u8 0) := by kernel_rfl
theorem hz5 (w : World) : (zeroValue 5).run Try.prog w = .ok z5 w := (Try.zeroValue5 w).trans (by kernel_rfl)
theorem key5 : KeyLaw Try.prog 5 (fun _ : Int => True) (fun n => .int .u8 n) := key_int Try.runUnderlying5
theorem ld9 (w : World) (b o : Nat) (K : Value → Prop) : QRun Try.prog (Instr.loadAt 9 (ptr b o)) w K = L1 Try.prog 9 w b o (Hp w b) K := q_load1 Try.isAgg9 w b o K
theorem st9 (w : World) (b o : Nat) (x : ByteArray) (K : Unit → World → Prop) : Run Try.prog (Instr.storeAt 9 (ptr b o) (.string x)) w K = St Try.prog 9 1 w b o (.string x) (Hp w b) K := r_store1 Try.sizeOf9 w b o _ K trivial
noncomputable def z9 : Value := ((Try.t9).zero).getD undef
theorem al9 (w : World) (x : Value) (K : Value → World → Prop) : Run Try.prog (Instr.alloc 9 true x) w K = K (ptr (sz w) 0) (w.alloc (.cells (z9).cells 9)) := r_alloc (z := z9) (fun w => (Try.zeroValue9 w).trans (by kernel_rfl)) w x K
theorem zc9 : (z9).cells = #[(Value.string (ByteArray.mk #[]))] := by kernel_rfl
theorem zv9 : z9 = (Value.string (ByteArray.mk #[])) := by kernel_rfl
theorem hz9 (w : World) : (zeroValue 9).run Try.prog w = .ok z9 w := (Try.zeroValue9 w).trans (by kernel_rfl)
theorem ixs9 (s : ByteArray) (k : IntKind) (i : Int) (K : Value → Prop) (h0 : 0 ≤ i) (h1 : i < s.size) : PRun Try.prog (Instr.index 9 (.string s) (.int k i)) K = K (.int .u8 ((s[i.toNat]?).getD 0).toNat) := p_indexStr Try.runUnderlying9 s k i K h0 h1
theorem len9 (R : TypeId) (x : ByteArray) (K : Value → Prop) : PRun Try.prog (Builtin.len_ #[9] R #[.string x]) K = K (i64 x.size) := p_lenString Try.runUnderlying9 R x K
theorem ld22 (w : World) (b o : Nat) (K : Value → Prop) : QRun Try.prog (Instr.loadAt 22 (ptr b o)) w K = L1 Try.prog 22 w b o (Hp w b) K := q_load1 Try.isAgg22 w b o K
theorem st22 (w : World) (b o : Nat) (a : Option Addr) (n c : Nat) (K : Unit → World → Prop) : Run Try.prog (Instr.storeAt 22 (ptr b o) (.slice a n c)) w K = St Try.prog 22 1 w b o (.slice a n c) (Hp w b) K := r_store1 Try.sizeOf22 w b o _ K trivial
noncomputable def z22 : Value := ((Try.t22).zero).getD undef
theorem al22 (w : World) (x : Value) (K : Value → World → Prop) : Run Try.prog (Instr.alloc 22 true x) w K = K (ptr (sz w) 0) (w.alloc (.cells (z22).cells 22)) := r_alloc (z := z22) (fun w => (Try.zeroValue22 w).trans (by kernel_rfl)) w x K
theorem zc22 : (z22).cells = #[(Value.slice none 0 0)] := by kernel_rfl
theorem zv22 : z22 = (Value.slice none 0 0) := by kernel_rfl
theorem hz22 (w : World) : (zeroValue 22).run Try.prog w = .ok z22 w := (Try.zeroValue22 w).trans (by kernel_rfl)
theorem eqln22 (x y : Operand) (a : Option Addr) (n c : Nat) (K : Value → Prop) : PRun Try.prog (eqS .eql 22 x y (.slice a n c) (.slice none 0 0)) K = K (.bool (a.isNone)) := p_eqlNilS Try.runUnderlying22 x y a n c K
theorem neqn22 (x y : Operand) (a : Option Addr) (n c : Nat) (K : Value → Prop) : PRun Try.prog (eqS .neq 22 x y (.slice a n c) (.slice none 0 0)) K = K (.bool (!a.isNone)) := p_neqNilS Try.runUnderlying22 x y a n c K
theorem ix22 (b o len cap : Nat) (i : Int) (K : Value → Prop) (h0 : 0 ≤ i) (h1 : i < len) : PRun Try.prog (Instr.indexAt 22 (.slice (some ⟨b, o, none⟩) len cap) (i64 i)) K = K (ptr b (o + i.toNat * 5)) := p_indexSlice Try.runUnderlying22 Try.sizeOf33 b o len cap i K h0 h1
theorem slLH22 (a : Option Addr) (len cap : Nat) (K : Value → Prop) (l h : Int) (h0 : 0 ≤ l) (h1 : l ≤ h) (h2 : h ≤ cap) : PRun Try.prog (Instr.sliceAt 22 (.slice a len cap) (some (i64 l)) (some (i64 h)) none) K = K (.slice (cutAt a cap l.toNat 5) (h.toNat - l.toNat) (cap - l.toNat)) := p_sliceLH Try.runUnderlying22 Try.sizeOf33 a len cap K l h h0 h1 h2
theorem slL22 (a : Option Addr) (len cap : Nat) (K : Value → Prop) (l : Int) (h0 : 0 ≤ l) (h1 : l ≤ len) : PRun Try.prog (Instr.sliceAt 22 (.slice a len cap) (some (i64 l)) none none) K = K (.slice (cutAt a cap l.toNat 5) (len - l.toNat) (cap - l.toNat)) := p_sliceL Try.runUnderlying22 Try.sizeOf33 a len cap K l h0 h1
theorem slH22 (a : Option Addr) (len cap : Nat) (K : Value → Prop) (h : Int) (h0 : 0 ≤ h) (h2 : h ≤ cap) : PRun Try.prog (Instr.sliceAt 22 (.slice a len cap) none (some (i64 h)) none) K = K (.slice (cutAt a cap 0 5) h.toNat cap) := p_sliceH Try.runUnderlying22 Try.sizeOf33 a len cap K h h0 h2
theorem slN22 (a : Option Addr) (len cap : Nat) (K : Value → Prop) : PRun Try.prog (Instr.sliceAt 22 (.slice a len cap) none none none) K = K (.slice (cutAt a cap 0 5) len cap) := p_sliceN Try.runUnderlying22 Try.sizeOf33 a len cap K
theorem len22 (R : TypeId) (a : Option Addr) (len cap : Nat) (K : Value → Prop) : PRun Try.prog (Builtin.len_ #[22] R #[.slice a len cap]) K = K (i64 len) := p_lenSlice Try.runUnderlying22 R a len cap K
theorem ld24 (w : World) (b o : Nat) (K : Value → Prop) : QRun Try.prog (Instr.loadAt 24 (ptr b o)) w K = L1 Try.prog 24 w b o (Hp w b) K := q_load1 Try.isAgg24 w b o K
theorem st24 (w : World) (b o : Nat) (r : Option Addr) (K : Unit → World → Prop) : Run Try.prog (Instr.storeAt 24 (ptr b o) (.pointer r)) w K = St Try.prog 24 1 w b o (.pointer r) (Hp w b) K := r_store1 Try.sizeOf24 w b o _ K trivial
noncomputable def z24 : Value := ((Try.t24).zero).getD undef
theorem al24 (w : World) (x : Value) (K : Value → World → Prop) : Run Try.prog (Instr.alloc 24 true x) w K = K (ptr (sz w) 0) (w.alloc (.cells (z24).cells 24)) := r_alloc (z := z24) (fun w => (Try.zeroValue24 w).trans (by kernel_rfl)) w x K
theorem zc24 : (z24).cells = #[(Value.pointer none)] := by kernel_rfl
theorem zv24 : z24 = (Value.pointer none) := by kernel_rfl
theorem hz24 (w : World) : (zeroValue 24).run Try.prog w = .ok z24 w := (Try.zeroValue24 w).trans (by kernel_rfl)
theorem ld25 (w : World) (b o : Nat) (K : Value → Prop) : QRun Try.prog (Instr.loadAt 25 (ptr b o)) w K = L1 Try.prog 25 w b o (Hp w b) K := q_load1 Try.isAgg25 w b o K
theorem st25 (w : World) (b o : Nat) (k : IntKind) (n : Int) (K : Unit → World → Prop) : Run Try.prog (Instr.storeAt 25 (ptr b o) (.int k n)) w K = St Try.prog 25 1 w b o (.int k n) (Hp w b) K := r_store1 Try.sizeOf25 w b o _ K trivial
noncomputable def z25 : Value := ((Try.t25).zero).getD undef
theorem al25 (w : World) (x : Value) (K : Value → World → Prop) : Run Try.prog (Instr.alloc 25 true x) w K = K (ptr (sz w) 0) (w.alloc (.cells (z25).cells 25)) := r_alloc (z := z25) (fun w => (Try.zeroValue25 w).trans (by kernel_rfl)) w x K
theorem zc25 : (z25).cells = #[(Value.int .i64 0)] := by kernel_rfl
theorem zv25 : z25 = (Value.int .i64 0) := by kernel_rfl
theorem hz25 (w : World) : (zeroValue 25).run Try.prog w = .ok z25 w := (Try.zeroValue25 w).trans (by kernel_rfl)
theorem key25 : KeyLaw Try.prog 25 (fun _ : Int => True) (fun n => .int .i64 n) := key_int Try.runUnderlying25
theorem fld33_0 (b o : Nat) (K : Value → Prop) : PRun Try.prog (Instr.fieldAt 33 (ptr b o) 0) K = K (ptr b (o + 0)) := p_field (n := 0) (i := 0) (ft := 3) (off := 0) Try.runUnderlying33 rfl Try.sizeOf3 b o K
theorem fld33_1 (b o : Nat) (K : Value → Prop) : PRun Try.prog (Instr.fieldAt 33 (ptr b o) 1) K = K (ptr b (o + 1)) := p_field (n := 0) (i := 1) (ft := 3) (off := 1) Try.runUnderlying33 rfl Try.sizeOf3 b o K
theorem fld33_2 (b o : Nat) (K : Value → Prop) : PRun Try.prog (Instr.fieldAt 33 (ptr b o) 2) K = K (ptr b (o + 2)) := p_field (n := 0) (i := 2) (ft := 3) (off := 2) Try.runUnderlying33 rfl Try.sizeOf3 b o K
theorem fld33_3 (b o : Nat) (K : Value → Prop) : PRun Try.prog (Instr.fieldAt 33 (ptr b o) 3) K = K (ptr b (o + 3)) := p_field (n := 0) (i := 3) (ft := 3) (off := 3) Try.runUnderlying33 rfl Try.sizeOf3 b o K
theorem fld33_4 (b o : Nat) (K : Value → Prop) : PRun Try.prog (Instr.fieldAt 33 (ptr b o) 4) K = K (ptr b (o + 4)) := p_field (n := 0) (i := 4) (ft := 3) (off := 4) Try.runUnderlying33 rfl Try.sizeOf3 b o K
theorem ld33 (w : World) (b o : Nat) (K : Value → Prop) : QRun Try.prog (Instr.loadAt 33 (ptr b o)) w K = Ln Try.prog 33 5 w b o (Hp w b) K := q_loadn Try.isAgg33 Try.sizeOf33 w b o K
theorem st33 (w : World) (b o : Nat) (vs : Array Value) (K : Unit → World → Prop) (hv : allOne vs) : Run Try.prog (Instr.storeAt 33 (ptr b o) (.agg vs)) w K = St Try.prog 33 5 w b o (.agg vs) (Hp w b) K := r_storen Try.sizeOf33 w b o vs K hv
noncomputable def z33 : Value := ((Try.t33).zero).getD undef
theorem al33 (w : World) (x : Value) (K : Value → World → Prop) : Run Try.prog (Instr.alloc 33 true x) w K = K (ptr (sz w) 0) (w.alloc (.cells (z33).cells 33)) := r_alloc (z := z33) (fun w => (Try.zeroValue33 w).trans (by kernel_rfl)) w x K
theorem zc33 : (z33).cells = #[(Value.int .i64 0), (Value.int .i64 0), (Value.int .i64 0), (Value.int .i64 0), (Value.int .i64 0)] := by kernel_rfl
theorem zv33 : z33 = .agg (#[(Value.int .i64 0), (Value.int .i64 0), (Value.int .i64 0), (Value.int .i64 0), (Value.int .i64 0)]) := by kernel_rfl
theorem hz33 (w : World) : (zeroValue 33).run Try.prog w = .ok z33 w := (Try.zeroValue33 w).trans (by kernel_rfl)
theorem ld35 (w : World) (b o : Nat) (K : Value → Prop) : QRun Try.prog (Instr.loadAt 35 (ptr b o)) w K = Ln Try.prog 35 32 w b o (Hp w b) K := q_loadn Try.isAgg35 Try.sizeOf35 w b o K
theorem st35 (w : World) (b o : Nat) (vs : Array Value) (K : Unit → World → Prop) (hv : allOne vs) : Run Try.prog (Instr.storeAt 35 (ptr b o) (.agg vs)) w K = St Try.prog 35 32 w b o (.agg vs) (Hp w b) K := r_storen Try.sizeOf35 w b o vs K hv
noncomputable def z35 : Value := ((Try.t35).zero).getD undef
theorem al35 (w : World) (x : Value) (K : Value → World → Prop) : Run Try.prog (Instr.alloc 35 true x) w K = K (ptr (sz w) 0) (w.alloc (.cells (z35).cells 35)) := r_alloc (z := z35) (fun w => (Try.zeroValue35 w).trans (by kernel_rfl)) w x K
theorem zc35 : (z35).cells = (bc (List.replicate 32 0)).toArray := by kernel_rfl
theorem zv35 : z35 = .agg ((bc (List.replicate 32 0)).toArray) := by kernel_rfl
theorem hz35 (w : World) : (zeroValue 35).run Try.prog w = .ok z35 w := (Try.zeroValue35 w).trans (by kernel_rfl)
theorem eqb35 (a b : List UInt8) (ha : a.length = 32) (hb : b.length = 32) (w : World) : (Op.equal 35 (idv a) (idv b)).run Try.prog w = .ok (decide (a = b)) w := run_equalBytes (i := Try.t5) Try.underlying35 Try.type5 rfl Try.runUnderlying5 Try.isAgg5 a b ha hb w
theorem eqlb35 (x y : Operand) (a b : List UInt8) (K : Value → Prop) (ha : a.length = 32) (hb : b.length = 32) : PRun Try.prog (eqS .eql 35 x y (idv a) (idv b)) K = K (.bool (decide (a = b))) := p_eqlAgg Try.eqGuardType35 (fun w => eqb35 a b ha hb w) x y K
theorem neqb35 (x y : Operand) (a b : List UInt8) (K : Value → Prop) (ha : a.length = 32) (hb : b.length = 32) : PRun Try.prog (eqS .neq 35 x y (idv a) (idv b)) K = K (.bool (!decide (a = b))) := p_neqAgg Try.eqGuardType35 (fun w => eqb35 a b ha hb w) x y K
theorem key35 : KeyLaw Try.prog 35 (fun l : List UInt8 => l.length = 32) idv := key_bytes (i := Try.t5) Try.underlying35 Try.runUnderlying35 Try.type5 rfl Try.sizeOf5 Try.runUnderlying5 Try.isAgg5
theorem slA35 (b o : Nat) (K : Value → Prop) : PRun Try.prog (Instr.sliceAt 35 (ptr b o) none none none) K = K (.slice (some ⟨b, o, none⟩) 32 32) := p_sliceArr Try.runUnderlying35 Try.sizeOf5 b o K
theorem ix35 (b o : Nat) (i : Int) (K : Value → Prop) (h0 : 0 ≤ i) (h1 : i < 32) : PRun Try.prog (Instr.indexAt 35 (ptr b o) (i64 i)) K = K (ptr b (o + i.toNat * 1)) := p_indexArr Try.runUnderlying35 Try.sizeOf5 b o i K h0 h1
theorem ld37 (w : World) (b o : Nat) (K : Value → Prop) : QRun Try.prog (Instr.loadAt 37 (ptr b o)) w K = L1 Try.prog 37 w b o (Hp w b) K := q_load1 Try.isAgg37 w b o K
theorem st37 (w : World) (b o : Nat) (a : Option Addr) (n c : Nat) (K : Unit → World → Prop) : Run Try.prog (Instr.storeAt 37 (ptr b o) (.slice a n c)) w K = St Try.prog 37 1 w b o (.slice a n c) (Hp w b) K := r_store1 Try.sizeOf37 w b o _ K trivial
noncomputable def z37 : Value := ((Try.t37).zero).getD undef
theorem al37 (w : World) (x : Value) (K : Value → World → Prop) : Run Try.prog (Instr.alloc 37 true x) w K = K (ptr (sz w) 0) (w.alloc (.cells (z37).cells 37)) := r_alloc (z := z37) (fun w => (Try.zeroValue37 w).trans (by kernel_rfl)) w x K
theorem zc37 : (z37).cells = #[(Value.slice none 0 0)] := by kernel_rfl
theorem zv37 : z37 = (Value.slice none 0 0) := by kernel_rfl
theorem hz37 (w : World) : (zeroValue 37).run Try.prog w = .ok z37 w := (Try.zeroValue37 w).trans (by kernel_rfl)
theorem eqln37 (x y : Operand) (a : Option Addr) (n c : Nat) (K : Value → Prop) : PRun Try.prog (eqS .eql 37 x y (.slice a n c) (.slice none 0 0)) K = K (.bool (a.isNone)) := p_eqlNilS Try.runUnderlying37 x y a n c K
theorem neqn37 (x y : Operand) (a : Option Addr) (n c : Nat) (K : Value → Prop) : PRun Try.prog (eqS .neq 37 x y (.slice a n c) (.slice none 0 0)) K = K (.bool (!a.isNone)) := p_neqNilS Try.runUnderlying37 x y a n c K
theorem ix37 (b o len cap : Nat) (i : Int) (K : Value → Prop) (h0 : 0 ≤ i) (h1 : i < len) : PRun Try.prog (Instr.indexAt 37 (.slice (some ⟨b, o, none⟩) len cap) (i64 i)) K = K (ptr b (o + i.toNat * 1)) := p_indexSlice Try.runUnderlying37 Try.sizeOf5 b o len cap i K h0 h1
theorem slLH37 (a : Option Addr) (len cap : Nat) (K : Value → Prop) (l h : Int) (h0 : 0 ≤ l) (h1 : l ≤ h) (h2 : h ≤ cap) : PRun Try.prog (Instr.sliceAt 37 (.slice a len cap) (some (i64 l)) (some (i64 h)) none) K = K (.slice (cutAt a cap l.toNat 1) (h.toNat - l.toNat) (cap - l.toNat)) := p_sliceLH Try.runUnderlying37 Try.sizeOf5 a len cap K l h h0 h1 h2
theorem slL37 (a : Option Addr) (len cap : Nat) (K : Value → Prop) (l : Int) (h0 : 0 ≤ l) (h1 : l ≤ len) : PRun Try.prog (Instr.sliceAt 37 (.slice a len cap) (some (i64 l)) none none) K = K (.slice (cutAt a cap l.toNat 1) (len - l.toNat) (cap - l.toNat)) := p_sliceL Try.runUnderlying37 Try.sizeOf5 a len cap K l h0 h1
theorem slH37 (a : Option Addr) (len cap : Nat) (K : Value → Prop) (h : Int) (h0 : 0 ≤ h) (h2 : h ≤ cap) : PRun Try.prog (Instr.sliceAt 37 (.slice a len cap) none (some (i64 h)) none) K = K (.slice (cutAt a cap 0 1) h.toNat cap) := p_sliceH Try.runUnderlying37 Try.sizeOf5 a len cap K h h0 h2
theorem slN37 (a : Option Addr) (len cap : Nat) (K : Value → Prop) : PRun Try.prog (Instr.sliceAt 37 (.slice a len cap) none none none) K = K (.slice (cutAt a cap 0 1) len cap) := p_sliceN Try.runUnderlying37 Try.sizeOf5 a len cap K
theorem len37 (R : TypeId) (a : Option Addr) (len cap : Nat) (K : Value → Prop) : PRun Try.prog (Builtin.len_ #[37] R #[.slice a len cap]) K = K (i64 len) := p_lenSlice Try.runUnderlying37 R a len cap K
theorem fld39_0 (b o : Nat) (K : Value → Prop) : PRun Try.prog (Instr.fieldAt 39 (ptr b o) 0) K = K (ptr b (o + 0)) := p_field (n := 31) (i := 0) (ft := 35) (off := 0) Try.runUnderlying39 rfl Try.sizeOf35 b o K
theorem fld39_1 (b o : Nat) (K : Value → Prop) : PRun Try.prog (Instr.fieldAt 39 (ptr b o) 1) K = K (ptr b (o + 32)) := p_field (n := 0) (i := 1) (ft := 37) (off := 32) Try.runUnderlying39 rfl Try.sizeOf37 b o K
theorem fld39_2 (b o : Nat) (K : Value → Prop) : PRun Try.prog (Instr.fieldAt 39 (ptr b o) 2) K = K (ptr b (o + 33)) := p_field (n := 0) (i := 2) (ft := 3) (off := 33) Try.runUnderlying39 rfl Try.sizeOf3 b o K
theorem fld39_3 (b o : Nat) (K : Value → Prop) : PRun Try.prog (Instr.fieldAt 39 (ptr b o) 3) K = K (ptr b (o + 34)) := p_field (n := 0) (i := 3) (ft := 3) (off := 34) Try.runUnderlying39 rfl Try.sizeOf3 b o K
theorem ld39 (w : World) (b o : Nat) (K : Value → Prop) : QRun Try.prog (Instr.loadAt 39 (ptr b o)) w K = Ln Try.prog 39 35 w b o (Hp w b) K := q_loadn Try.isAgg39 Try.sizeOf39 w b o K
theorem st39 (w : World) (b o : Nat) (vs : Array Value) (K : Unit → World → Prop) (hv : allOne vs) : Run Try.prog (Instr.storeAt 39 (ptr b o) (.agg vs)) w K = St Try.prog 39 35 w b o (.agg vs) (Hp w b) K := r_storen Try.sizeOf39 w b o vs K hv
noncomputable def z39 : Value := ((Try.t39).zero).getD undef
theorem al39 (w : World) (x : Value) (K : Value → World → Prop) : Run Try.prog (Instr.alloc 39 true x) w K = K (ptr (sz w) 0) (w.alloc (.cells (z39).cells 39)) := r_alloc (z := z39) (fun w => (Try.zeroValue39 w).trans (by kernel_rfl)) w x K
theorem zc39 : (z39).cells = (bc (List.replicate 32 0)).toArray ++ #[(Value.slice none 0 0), (Value.int .i64 0), (Value.int .i64 0)] := by kernel_rfl
theorem zv39 : z39 = .agg ((bc (List.replicate 32 0)).toArray ++ #[(Value.slice none 0 0), (Value.int .i64 0), (Value.int .i64 0)]) := by kernel_rfl
theorem hz39 (w : World) : (zeroValue 39).run Try.prog w = .ok z39 w := (Try.zeroValue39 w).trans (by kernel_rfl)
theorem ld47 (w : World) (b o : Nat) (K : Value → Prop) : QRun Try.prog (Instr.loadAt 47 (ptr b o)) w K = L1 Try.prog 47 w b o (Hp w b) K := q_load1 Try.isAgg47 w b o K
theorem st47 (w : World) (b o : Nat) (a : Option Addr) (n c : Nat) (K : Unit → World → Prop) : Run Try.prog (Instr.storeAt 47 (ptr b o) (.slice a n c)) w K = St Try.prog 47 1 w b o (.slice a n c) (Hp w b) K := r_store1 Try.sizeOf47 w b o _ K trivial
noncomputable def z47 : Value := ((Try.t47).zero).getD undef
theorem al47 (w : World) (x : Value) (K : Value → World → Prop) : Run Try.prog (Instr.alloc 47 true x) w K = K (ptr (sz w) 0) (w.alloc (.cells (z47).cells 47)) := r_alloc (z := z47) (fun w => (Try.zeroValue47 w).trans (by kernel_rfl)) w x K
theorem zc47 : (z47).cells = #[(Value.slice none 0 0)] := by kernel_rfl
theorem zv47 : z47 = (Value.slice none 0 0) := by kernel_rfl
theorem hz47 (w : World) : (zeroValue 47).run Try.prog w = .ok z47 w := (Try.zeroValue47 w).trans (by kernel_rfl)
theorem eqln47 (x y : Operand) (a : Option Addr) (n c : Nat) (K : Value → Prop) : PRun Try.prog (eqS .eql 47 x y (.slice a n c) (.slice none 0 0)) K = K (.bool (a.isNone)) := p_eqlNilS Try.runUnderlying47 x y a n c K
theorem neqn47 (x y : Operand) (a : Option Addr) (n c : Nat) (K : Value → Prop) : PRun Try.prog (eqS .neq 47 x y (.slice a n c) (.slice none 0 0)) K = K (.bool (!a.isNone)) := p_neqNilS Try.runUnderlying47 x y a n c K
theorem ix47 (b o len cap : Nat) (i : Int) (K : Value → Prop) (h0 : 0 ≤ i) (h1 : i < len) : PRun Try.prog (Instr.indexAt 47 (.slice (some ⟨b, o, none⟩) len cap) (i64 i)) K = K (ptr b (o + i.toNat * 35)) := p_indexSlice Try.runUnderlying47 Try.sizeOf39 b o len cap i K h0 h1
theorem slLH47 (a : Option Addr) (len cap : Nat) (K : Value → Prop) (l h : Int) (h0 : 0 ≤ l) (h1 : l ≤ h) (h2 : h ≤ cap) : PRun Try.prog (Instr.sliceAt 47 (.slice a len cap) (some (i64 l)) (some (i64 h)) none) K = K (.slice (cutAt a cap l.toNat 35) (h.toNat - l.toNat) (cap - l.toNat)) := p_sliceLH Try.runUnderlying47 Try.sizeOf39 a len cap K l h h0 h1 h2
theorem slL47 (a : Option Addr) (len cap : Nat) (K : Value → Prop) (l : Int) (h0 : 0 ≤ l) (h1 : l ≤ len) : PRun Try.prog (Instr.sliceAt 47 (.slice a len cap) (some (i64 l)) none none) K = K (.slice (cutAt a cap l.toNat 35) (len - l.toNat) (cap - l.toNat)) := p_sliceL Try.runUnderlying47 Try.sizeOf39 a len cap K l h0 h1
theorem slH47 (a : Option Addr) (len cap : Nat) (K : Value → Prop) (h : Int) (h0 : 0 ≤ h) (h2 : h ≤ cap) : PRun Try.prog (Instr.sliceAt 47 (.slice a len cap) none (some (i64 h)) none) K = K (.slice (cutAt a cap 0 35) h.toNat cap) := p_sliceH Try.runUnderlying47 Try.sizeOf39 a len cap K h h0 h2
theorem slN47 (a : Option Addr) (len cap : Nat) (K : Value → Prop) : PRun Try.prog (Instr.sliceAt 47 (.slice a len cap) none none none) K = K (.slice (cutAt a cap 0 35) len cap) := p_sliceN Try.runUnderlying47 Try.sizeOf39 a len cap K
theorem len47 (R : TypeId) (a : Option Addr) (len cap : Nat) (K : Value → Prop) : PRun Try.prog (Builtin.len_ #[47] R #[.slice a len cap]) K = K (i64 len) := p_lenSlice Try.runUnderlying47 R a len cap K
theorem fld50_0 (b o : Nat) (K : Value → Prop) : PRun Try.prog (Instr.fieldAt 50 (ptr b o) 0) K = K (ptr b (o + 0)) := p_field (n := 0) (i := 0) (ft := 3) (off := 0) Try.runUnderlying50 rfl Try.sizeOf3 b o K
theorem fld50_1 (b o : Nat) (K : Value → Prop) : PRun Try.prog (Instr.fieldAt 50 (ptr b o) 1) K = K (ptr b (o + 1)) := p_field (n := 0) (i := 1) (ft := 3) (off := 1) Try.runUnderlying50 rfl Try.sizeOf3 b o K
theorem fld50_2 (b o : Nat) (K : Value → Prop) : PRun Try.prog (Instr.fieldAt 50 (ptr b o) 2) K = K (ptr b (o + 2)) := p_field (n := 0) (i := 2) (ft := 47) (off := 2) Try.runUnderlying50 rfl Try.sizeOf47 b o K
theorem ld50 (w : World) (b o : Nat) (K : Value → Prop) : QRun Try.prog (Instr.loadAt 50 (ptr b o)) w K = Ln Try.prog 50 3 w b o (Hp w b) K := q_loadn Try.isAgg50 Try.sizeOf50 w b o K
theorem st50 (w : World) (b o : Nat) (vs : Array Value) (K : Unit → World → Prop) (hv : allOne vs) : Run Try.prog (Instr.storeAt 50 (ptr b o) (.agg vs)) w K = St Try.prog 50 3 w b o (.agg vs) (Hp w b) K := r_storen Try.sizeOf50 w b o vs K hv
noncomputable def z50 : Value := ((Try.t50).zero).getD undef
theorem al50 (w : World) (x : Value) (K : Value → World → Prop) : Run Try.prog (Instr.alloc 50 true x) w K = K (ptr (sz w) 0) (w.alloc (.cells (z50).cells 50)) := r_alloc (z := z50) (fun w => (Try.zeroValue50 w).trans (by kernel_rfl)) w x K
theorem zc50 : (z50).cells = #[(Value.int .i64 0), (Value.int .i64 0), (Value.slice none 0 0)] := by kernel_rfl
theorem zv50 : z50 = .agg (#[(Value.int .i64 0), (Value.int .i64 0), (Value.slice none 0 0)]) := by kernel_rfl
theorem hz50 (w : World) : (zeroValue 50).run Try.prog w = .ok z50 w := (Try.zeroValue50 w).trans (by kernel_rfl)
theorem ld54 (w : World) (b o : Nat) (K : Value → Prop) : QRun Try.prog (Instr.loadAt 54 (ptr b o)) w K = L1 Try.prog 54 w b o (Hp w b) K := q_load1 Try.isAgg54 w b o K
theorem st54 (w : World) (b o : Nat) (r : Option Nat) (K : Unit → World → Prop) : Run Try.prog (Instr.storeAt 54 (ptr b o) (.map r)) w K = St Try.prog 54 1 w b o (.map r) (Hp w b) K := r_store1 Try.sizeOf54 w b o _ K trivial
noncomputable def z54 : Value := ((Try.t54).zero).getD undef
theorem al54 (w : World) (x : Value) (K : Value → World → Prop) : Run Try.prog (Instr.alloc 54 true x) w K = K (ptr (sz w) 0) (w.alloc (.cells (z54).cells 54)) := r_alloc (z := z54) (fun w => (Try.zeroValue54 w).trans (by kernel_rfl)) w x K
theorem zc54 : (z54).cells = #[(Value.map none)] := by kernel_rfl
theorem zv54 : z54 = (Value.map none) := by kernel_rfl
theorem hz54 (w : World) : (zeroValue 54).run Try.prog w = .ok z54 w := (Try.zeroValue54 w).trans (by kernel_rfl)
theorem ld55 (w : World) (b o : Nat) (K : Value → Prop) : QRun Try.prog (Instr.loadAt 55 (ptr b o)) w K = L1 Try.prog 55 w b o (Hp w b) K := q_load1 Try.isAgg55 w b o K
theorem st55 (w : World) (b o : Nat) (r : Option Nat) (K : Unit → World → Prop) : Run Try.prog (Instr.storeAt 55 (ptr b o) (.map r)) w K = St Try.prog 55 1 w b o (.map r) (Hp w b) K := r_store1 Try.sizeOf55 w b o _ K trivial
noncomputable def z55 : Value := ((Try.t55).zero).getD undef
theorem al55 (w : World) (x : Value) (K : Value → World → Prop) : Run Try.prog (Instr.alloc 55 true x) w K = K (ptr (sz w) 0) (w.alloc (.cells (z55).cells 55)) := r_alloc (z := z55) (fun w => (Try.zeroValue55 w).trans (by kernel_rfl)) w x K
theorem zc55 : (z55).cells = #[(Value.map none)] := by kernel_rfl
theorem zv55 : z55 = (Value.map none) := by kernel_rfl
theorem hz55 (w : World) : (zeroValue 55).run Try.prog w = .ok z55 w := (Try.zeroValue55 w).trans (by kernel_rfl)
theorem fld57_0 (b o : Nat) (K : Value → Prop) : PRun Try.prog (Instr.fieldAt 57 (ptr b o) 0) K = K (ptr b (o + 0)) := p_field (n := 0) (i := 0) (ft := 3) (off := 0) Try.runUnderlying57 rfl Try.sizeOf3 b o K
theorem fld57_1 (b o : Nat) (K : Value → Prop) : PRun Try.prog (Instr.fieldAt 57 (ptr b o) 1) K = K (ptr b (o + 1)) := p_field (n := 0) (i := 1) (ft := 3) (off := 1) Try.runUnderlying57 rfl Try.sizeOf3 b o K
theorem fld57_2 (b o : Nat) (K : Value → Prop) : PRun Try.prog (Instr.fieldAt 57 (ptr b o) 2) K = K (ptr b (o + 2)) := p_field (n := 0) (i := 2) (ft := 3) (off := 2) Try.runUnderlying57 rfl Try.sizeOf3 b o K
theorem fld57_3 (b o : Nat) (K : Value → Prop) : PRun Try.prog (Instr.fieldAt 57 (ptr b o) 3) K = K (ptr b (o + 3)) := p_field (n := 0) (i := 3) (ft := 54) (off := 3) Try.runUnderlying57 rfl Try.sizeOf54 b o K
theorem fld57_4 (b o : Nat) (K : Value → Prop) : PRun Try.prog (Instr.fieldAt 57 (ptr b o) 4) K = K (ptr b (o + 4)) := p_field (n := 0) (i := 4) (ft := 55) (off := 4) Try.runUnderlying57 rfl Try.sizeOf55 b o K
theorem fld57_5 (b o : Nat) (K : Value → Prop) : PRun Try.prog (Instr.fieldAt 57 (ptr b o) 5) K = K (ptr b (o + 5)) := p_field (n := 0) (i := 5) (ft := 3) (off := 5) Try.runUnderlying57 rfl Try.sizeOf3 b o K
theorem ld57 (w : World) (b o : Nat) (K : Value → Prop) : QRun Try.prog (Instr.loadAt 57 (ptr b o)) w K = Ln Try.prog 57 6 w b o (Hp w b) K := q_loadn Try.isAgg57 Try.sizeOf57 w b o K
theorem st57 (w : World) (b o : Nat) (vs : Array Value) (K : Unit → World → Prop) (hv : allOne vs) : Run Try.prog (Instr.storeAt 57 (ptr b o) (.agg vs)) w K = St Try.prog 57 6 w b o (.agg vs) (Hp w b) K := r_storen Try.sizeOf57 w b o vs K hv
noncomputable def z57 : Value := ((Try.t57).zero).getD undef
theorem al57 (w : World) (x : Value) (K : Value → World → Prop) : Run Try.prog (Instr.alloc 57 true x) w K = K (ptr (sz w) 0) (w.alloc (.cells (z57).cells 57)) := r_alloc (z := z57) (fun w => (Try.zeroValue57 w).trans (by kernel_rfl)) w x K
theorem zc57 : (z57).cells = #[(Value.int .i64 0), (Value.int .i64 0), (Value.int .i64 0), (Value.map none), (Value.map none), (Value.int .i64 0)] := by kernel_rfl
theorem zv57 : z57 = .agg (#[(Value.int .i64 0), (Value.int .i64 0), (Value.int .i64 0), (Value.map none), (Value.map none), (Value.int .i64 0)]) := by kernel_rfl
theorem hz57 (w : World) : (zeroValue 57).run Try.prog w = .ok z57 w := (Try.zeroValue57 w).trans (by kernel_rfl)
theorem ld74 (w : World) (b o : Nat) (K : Value → Prop) : QRun Try.prog (Instr.loadAt 74 (ptr b o)) w K = L1 Try.prog 74 w b o (Hp w b) K := q_load1 Try.isAgg74 w b o K
theorem st74 (w : World) (b o : Nat) (k : IntKind) (n : Int) (K : Unit → World → Prop) : Run Try.prog (Instr.storeAt 74 (ptr b o) (.int k n)) w K = St Try.prog 74 1 w b o (.int k n) (Hp w b) K := r_store1 Try.sizeOf74 w b o _ K trivial
noncomputable def z74 : Value := ((Try.t74).zero).getD undef
theorem al74 (w : World) (x : Value) (K : Value → World → Prop) : Run Try.prog (Instr.alloc 74 true x) w K = K (ptr (sz w) 0) (w.alloc (.cells (z74).cells 74)) := r_alloc (z := z74) (fun w => (Try.zeroValue74 w).trans (by kernel_rfl)) w x K
theorem zc74 : (z74).cells = #[(Value.int .u64 0)] := by kernel_rfl
theorem zv74 : z74 = (Value.int .u64 0) := by kernel_rfl
theorem hz74 (w : World) : (zeroValue 74).run Try.prog w = .ok z74 w := (Try.zeroValue74 w).trans (by kernel_rfl)
theorem key74 : KeyLaw Try.prog 74 (fun _ : Int => True) (fun n => .int .u64 n) := key_int Try.runUnderlying74
theorem ld76 (w : World) (b o : Nat) (K : Value → Prop) : QRun Try.prog (Instr.loadAt 76 (ptr b o)) w K = L1 Try.prog 76 w b o (Hp w b) K := q_load1 Try.isAgg76 w b o K
theorem st76 (w : World) (b o : Nat) (k : IntKind) (n : Int) (K : Unit → World → Prop) : Run Try.prog (Instr.storeAt 76 (ptr b o) (.int k n)) w K = St Try.prog 76 1 w b o (.int k n) (Hp w b) K := r_store1 Try.sizeOf76 w b o _ K trivial
noncomputable def z76 : Value := ((Try.t76).zero).getD undef
theorem al76 (w : World) (x : Value) (K : Value → World → Prop) : Run Try.prog (Instr.alloc 76 true x) w K = K (ptr (sz w) 0) (w.alloc (.cells (z76).cells 76)) := r_alloc (z := z76) (fun w => (Try.zeroValue76 w).trans (by kernel_rfl)) w x K
theorem zc76 : (z76).cells = #[(Value.int .i64 0)] := by kernel_rfl
theorem zv76 : z76 = (Value.int .i64 0) := by kernel_rfl
theorem hz76 (w : World) : (zeroValue 76).run Try.prog w = .ok z76 w := (Try.zeroValue76 w).trans (by kernel_rfl)
theorem key76 : KeyLaw Try.prog 76 (fun _ : Int => True) (fun n => .int .i64 n) := key_int Try.runUnderlying76
theorem ld84 (w : World) (b o : Nat) (K : Value → Prop) : QRun Try.prog (Instr.loadAt 84 (ptr b o)) w K = L1 Try.prog 84 w b o (Hp w b) K := q_load1 Try.isAgg84 w b o K
theorem st84 (w : World) (b o : Nat) (k : IntKind) (n : Int) (K : Unit → World → Prop) : Run Try.prog (Instr.storeAt 84 (ptr b o) (.int k n)) w K = St Try.prog 84 1 w b o (.int k n) (Hp w b) K := r_store1 Try.sizeOf84 w b o _ K trivial
noncomputable def z84 : Value := ((Try.t84).zero).getD undef
theorem al84 (w : World) (x : Value) (K : Value → World → Prop) : Run Try.prog (Instr.alloc 84 true x) w K = K (ptr (sz w) 0) (w.alloc (.cells (z84).cells 84)) := r_alloc (z := z84) (fun w => (Try.zeroValue84 w).trans (by kernel_rfl)) w x K
theorem zc84 : (z84).cells = #[(Value.int .u32 0)] := by kernel_rfl
theorem zv84 : z84 = (Value.int .u32 0) := by kernel_rfl
theorem hz84 (w : World) : (zeroValue 84).run Try.prog w = .ok z84 w := (Try.zeroValue84 w).trans (by kernel_rfl)
theorem key84 : KeyLaw Try.prog 84 (fun _ : Int => True) (fun n => .int .u32 n) := key_int Try.runUnderlying84
theorem ld86 (w : World) (b o : Nat) (K : Value → Prop) : QRun Try.prog (Instr.loadAt 86 (ptr b o)) w K = L1 Try.prog 86 w b o (Hp w b) K := q_load1 Try.isAgg86 w b o K
theorem st86 (w : World) (b o : Nat) (k : IntKind) (n : Int) (K : Unit → World → Prop) : Run Try.prog (Instr.storeAt 86 (ptr b o) (.int k n)) w K = St Try.prog 86 1 w b o (.int k n) (Hp w b) K := r_store1 Try.sizeOf86 w b o _ K trivial
noncomputable def z86 : Value := ((Try.t86).zero).getD undef
theorem al86 (w : World) (x : Value) (K : Value → World → Prop) : Run Try.prog (Instr.alloc 86 true x) w K = K (ptr (sz w) 0) (w.alloc (.cells (z86).cells 86)) := r_alloc (z := z86) (fun w => (Try.zeroValue86 w).trans (by kernel_rfl)) w x K
theorem zc86 : (z86).cells = #[(Value.int .u64 0)] := by kernel_rfl
theorem zv86 : z86 = (Value.int .u64 0) := by kernel_rfl
theorem hz86 (w : World) : (zeroValue 86).run Try.prog w = .ok z86 w := (Try.zeroValue86 w).trans (by kernel_rfl)
theorem key86 : KeyLaw Try.prog 86 (fun _ : Int => True) (fun n => .int .u64 n) := key_int Try.runUnderlying86
theorem ap22 (R : TypeId) {w : World} {s x : Value} {len n : Nat} {cells ys : List Value} {Q : Nat → Prop} {K : Value → World → Prop} (hv : Vec w 33 5 s len cells Q) (hy : Src Try.prog w 5 x n ys) (hone : ∀ y ∈ ys, oneCell y) (hsmall : (2 * (len + n) + 1000) * 40 ≤ 281474976710656) (hk : ∀ v w' , Vec w' 33 5 v (len + n) (cells ++ ys) (fun b => some b = blockOf s ∨ b = sz w) → Ext (fun b => some b = blockOf s) w w' → K v w') : Run Try.prog (Builtin.append_ #[22, 22] R #[s, x]) w K := r_append (ti := Try.t33) (zv := z33) Try.runUnderlying22 Try.sizeOf33 Try.runUnderlying22 (by simp) (fun w => run_typeInfo w Try.type33) (by rw [show Try.t33.bytes = 40 from by kernel_rfl]; decide) (fun w => (Try.zeroValue33 w).trans (by kernel_rfl)) (by kernel_rfl) R hv hy hone (by rw [show Try.t33.bytes = 40 from by kernel_rfl]; exact hsmall) hk
theorem bs22_0 (w : World) (K : Value → World → Prop) : Run Try.prog (Instr.buildSlice 22 0 #[]) w K = K (.slice (some ⟨sz w, 0, none⟩) 0 0) (w.alloc (.cells #[] 33)) := r_buildSlice (zv := z33) Try.runUnderlying22 Try.sizeOf33 (fun w => (Try.zeroValue33 w).trans (by kernel_rfl)) (by kernel_rfl) [] (by simp) (by simp) w K
theorem bs22_1 (v0 : Value) (hv : ∀ v ∈ [v0], v.cells.size = 5) (w : World) (K : Value → World → Prop) : Run Try.prog (Instr.buildSlice 22 1 #[(0, v0)]) w K = K (.slice (some ⟨sz w, 0, none⟩) 1 1) (w.alloc (.cells (catC [v0]).toArray 33)) := r_buildSlice (zv := z33) Try.runUnderlying22 Try.sizeOf33 (fun w => (Try.zeroValue33 w).trans (by kernel_rfl)) (by kernel_rfl) [v0] hv (by simp) w K
theorem ap37 (R : TypeId) {w : World} {s x : Value} {len n : Nat} {cells ys : List Value} {Q : Nat → Prop} {K : Value → World → Prop} (hv : Vec w 5 1 s len cells Q) (hy : Src Try.prog w 1 x n ys) (hone : ∀ y ∈ ys, oneCell y) (hsmall : (2 * (len + n) + 1000) * 1 ≤ 281474976710656) (hk : ∀ v w' , Vec w' 5 1 v (len + n) (cells ++ ys) (fun b => some b = blockOf s ∨ b = sz w) → Ext (fun b => some b = blockOf s) w w' → K v w') : Run Try.prog (Builtin.append_ #[37, 37] R #[s, x]) w K := r_append (ti := Try.t5) (zv := z5) Try.runUnderlying37 Try.sizeOf5 Try.runUnderlying37 (by simp) (fun w => run_typeInfo w Try.type5) (by rw [show Try.t5.bytes = 1 from by kernel_rfl]; decide) (fun w => (Try.zeroValue5 w).trans (by kernel_rfl)) (by kernel_rfl) R hv hy hone (by rw [show Try.t5.bytes = 1 from by kernel_rfl]; exact hsmall) hk
theorem bs37_0 (w : World) (K : Value → World → Prop) : Run Try.prog (Instr.buildSlice 37 0 #[]) w K = K (.slice (some ⟨sz w, 0, none⟩) 0 0) (w.alloc (.cells #[] 5)) := r_buildSlice (zv := z5) Try.runUnderlying37 Try.sizeOf5 (fun w => (Try.zeroValue5 w).trans (by kernel_rfl)) (by kernel_rfl) [] (by simp) (by simp) w K
theorem bs37_1 (v0 : Value) (hv : ∀ v ∈ [v0], v.cells.size = 1) (w : World) (K : Value → World → Prop) : Run Try.prog (Instr.buildSlice 37 1 #[(0, v0)]) w K = K (.slice (some ⟨sz w, 0, none⟩) 1 1) (w.alloc (.cells (catC [v0]).toArray 5)) := r_buildSlice (zv := z5) Try.runUnderlying37 Try.sizeOf5 (fun w => (Try.zeroValue5 w).trans (by kernel_rfl)) (by kernel_rfl) [v0] hv (by simp) w K
theorem bs37_3 (v0 v1 v2 : Value) (hv : ∀ v ∈ [v0, v1, v2], v.cells.size = 1) (w : World) (K : Value → World → Prop) : Run Try.prog (Instr.buildSlice 37 3 #[(0, v0), (1, v1), (2, v2)]) w K = K (.slice (some ⟨sz w, 0, none⟩) 3 3) (w.alloc (.cells (catC [v0, v1, v2]).toArray 5)) := r_buildSlice (zv := z5) Try.runUnderlying37 Try.sizeOf5 (fun w => (Try.zeroValue5 w).trans (by kernel_rfl)) (by kernel_rfl) [v0, v1, v2] hv (by simp) w K
theorem ap47 (R : TypeId) {w : World} {s x : Value} {len n : Nat} {cells ys : List Value} {Q : Nat → Prop} {K : Value → World → Prop} (hv : Vec w 39 35 s len cells Q) (hy : Src Try.prog w 35 x n ys) (hone : ∀ y ∈ ys, oneCell y) (hsmall : (2 * (len + n) + 1000) * 72 ≤ 281474976710656) (hk : ∀ v w' , Vec w' 39 35 v (len + n) (cells ++ ys) (fun b => some b = blockOf s ∨ b = sz w) → Ext (fun b => some b = blockOf s) w w' → K v w') : Run Try.prog (Builtin.append_ #[47, 47] R #[s, x]) w K := r_append (ti := Try.t39) (zv := z39) Try.runUnderlying47 Try.sizeOf39 Try.runUnderlying47 (by simp) (fun w => run_typeInfo w Try.type39) (by rw [show Try.t39.bytes = 72 from by kernel_rfl]; decide) (fun w => (Try.zeroValue39 w).trans (by kernel_rfl)) (by kernel_rfl) R hv hy hone (by rw [show Try.t39.bytes = 72 from by kernel_rfl]; exact hsmall) hk
theorem bs47_0 (w : World) (K : Value → World → Prop) : Run Try.prog (Instr.buildSlice 47 0 #[]) w K = K (.slice (some ⟨sz w, 0, none⟩) 0 0) (w.alloc (.cells #[] 39)) := r_buildSlice (zv := z39) Try.runUnderlying47 Try.sizeOf39 (fun w => (Try.zeroValue39 w).trans (by kernel_rfl)) (by kernel_rfl) [] (by simp) (by simp) w K
theorem bs47_1 (v0 : Value) (hv : ∀ v ∈ [v0], v.cells.size = 35) (w : World) (K : Value → World → Prop) : Run Try.prog (Instr.buildSlice 47 1 #[(0, v0)]) w K = K (.slice (some ⟨sz w, 0, none⟩) 1 1) (w.alloc (.cells (catC [v0]).toArray 39)) := r_buildSlice (zv := z39) Try.runUnderlying47 Try.sizeOf39 (fun w => (Try.zeroValue39 w).trans (by kernel_rfl)) (by kernel_rfl) [v0] hv (by simp) w K
theorem bld39_0_1_2_3 (v0 v1 v2 v3 : Value) (h0 : v0.cells.size = 32) (h1 : v1.cells.size = 1) (h2 : v2.cells.size = 1) (h3 : v3.cells.size = 1) (K : Value → Prop) : PRun Try.prog (Instr.build 39 #[(0, v0), (1, v1), (2, v2), (3, v3)]) K = K (.agg (splice (splice (splice (splice ((bc (List.replicate 32 0)).toArray ++ #[(Value.slice none 0 0), (Value.int .i64 0), (Value.int .i64 0)]) 0 v0.cells) 32 v1.cells) 33 v2.cells) 34 v3.cells)) := by rw [← zc39]; have hN : (z39).cells.size = 35 := (by kernel_rfl); exact p_buildS (places := #[(0, 32), (32, 1), (33, 1), (34, 1)]) hz39 Try.runUnderlying39 (fun w => by kernel_rfl) (fill_step rfl h0 hN (by decide) fun hN => (fill_step rfl h1 hN (by decide) fun hN => (fill_step rfl h2 hN (by decide) fun hN => (fill_step rfl h3 hN (by decide) fun hN => rfl)))) K
theorem bld39_0_2_3 (v0 v1 v2 : Value) (h0 : v0.cells.size = 32) (h1 : v1.cells.size = 1) (h2 : v2.cells.size = 1) (K : Value → Prop) : PRun Try.prog (Instr.build 39 #[(0, v0), (2, v1), (3, v2)]) K = K (.agg (splice (splice (splice ((bc (List.replicate 32 0)).toArray ++ #[(Value.slice none 0 0), (Value.int .i64 0), (Value.int .i64 0)]) 0 v0.cells) 33 v1.cells) 34 v2.cells)) := by rw [← zc39]; have hN : (z39).cells.size = 35 := (by kernel_rfl); exact p_buildS (places := #[(0, 32), (32, 1), (33, 1), (34, 1)]) hz39 Try.runUnderlying39 (fun w => by kernel_rfl) (fill_step rfl h0 hN (by decide) fun hN => (fill_step rfl h1 hN (by decide) fun hN => (fill_step rfl h2 hN (by decide) fun hN => rfl))) K
theorem bld39_1_3 (v0 v1 : Value) (h0 : v0.cells.size = 1) (h1 : v1.cells.size = 1) (K : Value → Prop) : PRun Try.prog (Instr.build 39 #[(1, v0), (3, v1)]) K = K (.agg (splice (splice ((bc (List.replicate 32 0)).toArray ++ #[(Value.slice none 0 0), (Value.int .i64 0), (Value.int .i64 0)]) 32 v0.cells) 34 v1.cells)) := by rw [← zc39]; have hN : (z39).cells.size = 35 := (by kernel_rfl); exact p_buildS (places := #[(0, 32), (32, 1), (33, 1), (34, 1)]) hz39 Try.runUnderlying39 (fun w => by kernel_rfl) (fill_step rfl h0 hN (by decide) fun hN => (fill_step rfl h1 hN (by decide) fun hN => rfl)) K
theorem bld50_0_1 (v0 v1 : Value) (h0 : v0.cells.size = 1) (h1 : v1.cells.size = 1) (K : Value → Prop) : PRun Try.prog (Instr.build 50 #[(0, v0), (1, v1)]) K = K (.agg (splice (splice (#[(Value.int .i64 0), (Value.int .i64 0), (Value.slice none 0 0)]) 0 v0.cells) 1 v1.cells)) := by rw [← zc50]; have hN : (z50).cells.size = 3 := (by kernel_rfl); exact p_buildS (places := #[(0, 1), (1, 1), (2, 1)]) hz50 Try.runUnderlying50 (fun w => by kernel_rfl) (fill_step rfl h0 hN (by decide) fun hN => (fill_step rfl h1 hN (by decide) fun hN => rfl)) K
theorem bld57_1_2_3_4 (v0 v1 v2 v3 : Value) (h0 : v0.cells.size = 1) (h1 : v1.cells.size = 1) (h2 : v2.cells.size = 1) (h3 : v3.cells.size = 1) (K : Value → Prop) : PRun Try.prog (Instr.build 57 #[(1, v0), (2, v1), (3, v2), (4, v3)]) K = K (.agg (splice (splice (splice (splice (#[(Value.int .i64 0), (Value.int .i64 0), (Value.int .i64 0), (Value.map none), (Value.map none), (Value.int .i64 0)]) 1 v0.cells) 2 v1.cells) 3 v2.cells) 4 v3.cells)) := by rw [← zc57]; have hN : (z57).cells.size = 6 := (by kernel_rfl); exact p_buildS (places := #[(0, 1), (1, 1), (2, 1), (3, 1), (4, 1), (5, 1)]) hz57 Try.runUnderlying57 (fun w => by kernel_rfl) (fill_step rfl h0 hN (by decide) fun hN => (fill_step rfl h1 hN (by decide) fun hN => (fill_step rfl h2 hN (by decide) fun hN => (fill_step rfl h3 hN (by decide) fun hN => rfl)))) K
theorem mk37 (kl kc : IntKind) (l c : Int) (w : World) (K : Value → World → Prop) (h0 : 0 ≤ l) (hlc : l ≤ c) (hc : c ≤ 16777216) : Run Try.prog (Instr.makeSlice 37 (.int kl l) (.int kc c)) w K = K (.slice (some ⟨sz w, 0, none⟩) l.toNat c.toNat) (w.alloc (.cells (bc (List.replicate c.toNat 0)).toArray 5)) := (r_makeSlice (z := (Value.int .u8 0)) Try.underlying37 Try.type5 (by kernel_rfl) kl kc l c w K h0 hlc (by rw [show Try.t5.size = 1 from by kernel_rfl]; omega) (by rw [show Try.t5.bytes = 1 from by kernel_rfl]; omega) (by omega)).trans (by rw [show Try.t5.size = 1 from by kernel_rfl, Nat.mul_one, show (Value.cells (Value.int .u8 0)) = #[(Value.int .u8 0)] from rfl, madeCells_u8])
theorem cv3_5 (k : IntKind) (n : Int) (K : Value → Prop) : PRun Try.prog (convert 3 5 (.int k n)) K = K (.int .u8 (IntKind.u8.wrap n)) := p_conv Try.runUnderlying3 Try.runUnderlying5 n K
theorem cv3_74 (k : IntKind) (n : Int) (K : Value → Prop) : PRun Try.prog (convert 3 74 (.int k n)) K = K (.int .u64 (IntKind.u64.wrap n)) := p_conv Try.runUnderlying3 Try.runUnderlying74 n K
theorem cv5_3 (k : IntKind) (n : Int) (K : Value → Prop) : PRun Try.prog (convert 5 3 (.int k n)) K = K (.int .i64 (IntKind.i64.wrap n)) := p_conv Try.runUnderlying5 Try.runUnderlying3 n K
theorem cv74_84 (k : IntKind) (n : Int) (K : Value → Prop) : PRun Try.prog (convert 74 84 (.int k n)) K = K (.int .u32 (IntKind.u32.wrap n)) := p_conv Try.runUnderlying74 Try.runUnderlying84 n K
theorem cv86_5 (k : IntKind) (n : Int) (K : Value → Prop) : PRun Try.prog (convert 86 5 (.int k n)) K = K (.int .u8 (IntKind.u8.wrap n)) := p_conv Try.runUnderlying86 Try.runUnderlying5 n K
end Go.Proofs
