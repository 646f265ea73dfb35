/- Entries of the model that stand for bodies without text: internal/bytealg.Compare. -/
import Derived.Test.YtgfeaeedlakmfaaLRF
import Derived.Laws.Externs
import Derived.Lib.Bytealg
set_option linter.unusedVariables false
set_option linter.unusedSimpArgs false
set_option linter.unusedSectionVars false
namespace Go.Lf
open Go
theorem run_loadBytes {P : Program} {w : World} {b : Nat} {row : Array Value} {U : TypeId} {fr : Nat × Nat} (h : Hp w b = some (.cells row U fr)) : ∀ (l : List UInt8) (o : Nat) (acc : ByteArray), (∀ j, j < l.length → row[o + j]? = (bc l)[j]?) →
    (Extern.Bytes.loadBytes ⟨b, o, none⟩ l.length acc).run P w = .ok ⟨acc.data ++ l.toArray⟩ w
  | [], o, acc, _ => by simp [Extern.Bytes.loadBytes]
  | x :: l, o, acc, hr => by
    have h0 : w.cell? ⟨b, o, none⟩ = some (.int .u8 x.toNat) := by
      rw [cell_Hp h]; simpa [bc] using hr 0 (by simp)
    have ih := run_loadBytes (P := P) h l (o + 1) (acc.push x) fun j hj => by
      have := hr (j + 1) (by simpa using hj)
      rw [show o + 1 + j = o + (j + 1) by omega, this]; simp [bc]
    simp only [List.length_cons, Extern.Bytes.loadBytes, Sem.run_bind, run_load, h0, Result.andThen]
    have e : (⟨b, o, none⟩ : Addr).add 1 = ⟨b, o + 1, none⟩ := addr_add _ _ _
    have e2 : ((x.toNat : Int).toNat.toUInt8) = x := by simp
    rw [e, e2, ih]
    congr 1
    apply ByteArray.ext
    simp [ByteArray.push]
/-- A slice value whose bytes are these. -/
def BOf (w : World) (v : Value) (l : List UInt8) : Prop :=
  (v = .slice none 0 0 ∧ l = []) ∨ ∃ b o cap row U fr, v = .slice (some ⟨b, o, none⟩) l.length cap ∧ Hp w b = some (.cells row U fr) ∧ ∀ j, j < l.length → row[o + j]? = (bc l)[j]?
theorem Bytes.of {u8 : Nat} {w : World} {v : Value} {l : List UInt8} {Q : Nat → Prop} (h : Bytes u8 w v l Q) : BOf w v l := by
  rcases h.2 with ⟨rfl, h2⟩ | ⟨b, o, cap, row, rfl, hn, hb, ho, hc, _⟩
  · exact .inl ⟨rfl, List.length_eq_zero_iff.1 h2⟩
  · exact .inr ⟨b, o, cap, row, _, _, rfl, hb, fun j hj => hc j (by omega)⟩
theorem run_bytesOf {P : Program} {w : World} {v : Value} {l : List UInt8} (h : BOf w v l) : (Extern.Bytes.bytesOf v).run P w = .ok ⟨l.toArray⟩ w := by
  rcases h with ⟨rfl, rfl⟩ | ⟨b, o, cap, row, U, fr, rfl, hb, hc⟩
  · rfl
  · show (Extern.Bytes.loadBytes ⟨b, o, none⟩ l.length .empty).run P w = _
    rw [run_loadBytes hb l o .empty hc]
    congr 1
    apply ByteArray.ext
    show (#[] : Array UInt8) ++ l.toArray = l.toArray
    simp
theorem run_compare {P : Program} {w : World} {x y : Value} {a b : List UInt8} (hx : BOf w x a) (hy : BOf w y b) :
    (Extern.BytealgCompare.compare #[x, y]).run P w = .ok (i64 (Lib.compareBytes a b)) w := by
  change Sem.run P (do pure (goInt (Extern.BytealgCompare.cmp (← Extern.Bytes.bytesOf x) (← Extern.Bytes.bytesOf y)))) w = _
  simp only [Sem.run_bind, Sem.run_pure, Result.andThen, run_bytesOf hx, run_bytesOf hy]
  rw [Lib.cmp_eq]
  rfl
theorem CallF_ext {P : Program} {f : FuncId} {fn : Func} {e : Array Value → Sem Value} (hf : P.funcs[f]? = some fn) (hname : (fn.name == "runtime.NumGoroutine") = false)
    (hb : fn.body.isNone = true) (hn : Extern.findNext fn = none) (he : Extern.find fn = some e) {args : Array Value} {w : World} {v : Value} (hr : (e args).run P w = .ok v w) (K : Value → World → Prop) : CallF P f args w K = K v w := by
  unfold CallF
  rw [run_callFunc_extern hf hname hb hn he, hr]
  rfl
/-- The first constant string that a body indexes. -/
def bigOps : List Oper → Option ByteArray
  | [] => none
  | o :: l => match o.op with
    | .index _ (.const (.string s)) _ => some s
    | _ => bigOps l
def bigOf : Code → Option ByteArray
  | .region _ ops _ => bigOps ops.toList
  | .seq x y => match bigOf x with | some s => some s | none => bigOf y
  | .cond _ x y => match bigOf x with | some s => some s | none => bigOf y
  | .block _ x => bigOf x
  | .loop x => bigOf x
  | .scope x => bigOf x
  | _ => none
theorem p_indexStr {P : Program} {T : Nat} (hu : ∀ w, (underlying T).run P w = .ok .string w) (s : ByteArray) (k : IntKind) (i : Int) (K : Value → Prop) (h0 : 0 ≤ i) (h1 : i < s.size) :
    PRun P (Instr.index T (.string s) (.int k i)) K = K (.int .u8 ((s[i.toNat]?).getD 0).toNat) := PRun_eq (fun w => by
  unfold Instr.index
  have e : s[i.toNat]? = some (s[i.toNat]'(by omega)) := getElem?_pos s i.toNat (by omega)
  simp only [asIntOf, Sem.run_bind, Sem.run_pure, Result.andThen_ok, hu]
  rw [if_pos h0, e]
  rfl) K
end Go.Lf
