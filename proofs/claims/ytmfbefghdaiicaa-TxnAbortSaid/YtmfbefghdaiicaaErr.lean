/- errors.Is between two errors that are numbers of type api.Errno, or nil. -/
import Derived.Test.YtmfbefghdaiicaaRows
import Derived.Test.YtmfbefghdaiicaaEB
import Derived.WalkKit
import Derived.LaidEql
import Derived.Stop.Asserts
import Derived.RowKitTokens
import Derived.Lib.Hide
namespace Go.Proofs.Ytmfbefghdaiicaa
open Go Go.E Go.RowKit Go.Extern.Stop Go.Stop Go.Extern
set_option linter.unusedVariables false
theorem run_equalIn_iface_int {P : Program} (w : World) (d : Nat) {ti tn : TypeId} {ms : Array (String × TypeId)} {i : TypeInfo} {k : IntKind} (a b : Int)
    (hi : P.underlying ti = some (.interface ms)) (hn : P.underlying tn = some (.int k)) (hinfo : P.info? tn = some i) (hcomp : i.comparable = true) :
    (Op.equalIn (d + 2) ti (.iface tn (.int k a)) (.iface tn (.int k b))).run P w = .ok (a == b) w := by
  simp [Op.equalIn, run_underlying hi, run_underlying hn, typeInfo, hinfo, hcomp]
theorem run_eql_iface_int {P : Program} (w : World) {ti tn : TypeId} {ms : Array (String × TypeId)} {i : TypeInfo} {k : IntKind} (a b : Int)
    (hi : P.underlying ti = some (.interface ms)) (hn : P.underlying tn = some (.int k)) (hinfo : P.info? tn = some i) (hcomp : i.comparable = true) :
    (binOp .eql ti (.iface tn (.int k a)) (.iface tn (.int k b))).run P w = .ok (.bool (a == b)) w := by
  simp only [binOp]
  simp [Op.equal, Op.maxDepth, run_equalIn_iface_int w 9998 a b hi hn hinfo hcomp]
theorem isTypeOf (v : Value) (w : World) : (Extern.ReflectliteType.typeOf #[.iface 68 v]).run Try.prog w = .ok (.iface 109 (.agg #[.pointer (some ⟨0, 68, none⟩)])) w := by kernel_rfl
def cmpFn : Array Value → Sem Value := Extern.ReflectliteType.method fun t => do Rtype.noPackHeld "Comparable" t; pure (.bool (← typeInfo t).comparable)
theorem isComparable (w : World) : (cmpFn #[.agg #[.pointer (some ⟨0, 68, none⟩)]]).run Try.prog w = .ok (.bool true) w := by kernel_rfl
theorem isMethodComparable (v : Value) (w : World) : (Go.method 263 109 v "Comparable").run Try.prog w = .ok (102, v) w := by kernel_rfl
theorem isComp : (Try.prog.info? 68).map (·.comparable) = some true := by kernel_rfl
theorem noIsE (v : Value) (xT : TypeId) (w : World) : (Instr.typeAssert (.iface 68 v) xT 111 true).run Try.prog w = .ok (.tuple #[.nilIface, .bool false]) w := run_typeAssert_lacksB Try.underlying111 (by kernel_rfl) (by kernel_rfl) v xT w
theorem noUnwrapE (v : Value) (xT : TypeId) (w : World) : (Instr.typeAssert (.iface 68 v) xT 114 true).run Try.prog w = .ok (.tuple #[.nilIface, .bool false]) w := run_typeAssert_lacksB Try.underlying114 (by kernel_rfl) (by kernel_rfl) v xT w
theorem noUnwrapsE (v : Value) (xT : TypeId) (w : World) : (Instr.typeAssert (.iface 68 v) xT 116 true).run Try.prog w = .ok (.tuple #[.nilIface, .bool false]) w := run_typeAssert_lacksB Try.underlying116 (by kernel_rfl) (by kernel_rfl) v xT w
set_option maxHeartbeats 1000000
set_option maxRecDepth 1000000
theorem is_errno (a b : Int) (w : World) : Calls Try.prog 33 #[.iface 68 (.int .i64 a), .iface 68 (.int .i64 b)] w fun e w' => e = .returned (.bool (decide (a = b))) ∧ w' = w := by
  obtain ⟨i, hi, hcmp⟩ := Option.map_eq_some_iff.1 isComp
  have h8 := @run_callFunc_extern Try.prog 56 _ Extern.ReflectliteType.typeOf Try.func56 (by kernel_rfl) (by kernel_rfl) (by kernel_rfl) (by kernel_rfl)
  have h32 := @run_callFunc_extern Try.prog 102 _ cmpFn Try.func102 (by kernel_rfl) (by kernel_rfl) (by kernel_rfl) (by kernel_rfl)
  have tT := isTypeOf
  have cT := isComparable
  have mR := isMethodComparable
  have nE := noIsE
  have uE := noUnwrapE
  have vE := noUnwrapsE
  by_cases hab : a = b
  · subst hab
    have heq := run_eql_iface_int (P := Try.prog) w a a Try.underlying32 Try.underlying68 hi hcmp
    rw [show (a == a) = true from by simp] at heq
    go_enter Try.func33, Try.ntmps33
    go_wp2
    refine wp_loop_rounds 1 ?_
    rw [rounds_succ]
    go_wp2
    go_ret
    exact ⟨by simp, rfl⟩
  · have heq := run_eql_iface_int (P := Try.prog) w a b Try.underlying32 Try.underlying68 hi hcmp
    rw [show (a == b) = false from by simpa using hab] at heq
    have hd : decide (a = b) = false := by simpa using hab
    rw [hd]
    have H : Hid (¬ a = b) := Lib.hid hab
    clear hab hd
    go_enter Try.func33, Try.ntmps33
    go_wp2
    refine wp_loop_rounds 1 ?_
    rw [rounds_succ]
    go_wp2
    go_ret
    exact ⟨rfl, rfl⟩
theorem is_nil (b : Int) (w : World) : Calls Try.prog 33 #[.nilIface, .iface 68 (.int .i64 b)] w fun e w' => e = .returned (.bool false) ∧ w' = w := by
  have hn := run_eql_iface_nil_left (P := Try.prog) w 68 (.int .i64 b) Try.underlying32
  go_enter Try.func33, Try.ntmps33
  go_wp2
  go_ret
  exact ⟨rfl, rfl⟩
theorem con_of_calls {P : Program} {f : FuncId} {args : Array Value} {w : World} {v : Value} (h : Calls P f args w fun e w' => e = .returned v ∧ w' = w) : Con P f args w (Is v []) :=
  Calls.mono h fun e w' ⟨h1, h2⟩ => ⟨v, [], h1, by rw [h2]; exact St.refl w, rfl, rfl⟩
theorem errIs_c (a b : Int) (w : World) (hb : b ≠ 0) : Con Try.prog 33 #[errV 68 a, errV 68 b] w (Is (.bool (decide (a = b))) []) := by
  rw [show errV 68 b = .iface 68 (.int .i64 b) from if_neg hb]
  by_cases ha : a = 0
  · subst ha
    rw [show errV 68 0 = .nilIface from rfl, show decide ((0 : Int) = b) = false from by simpa using fun e => hb e.symm]
    exact con_of_calls (is_nil b w)
  · rw [show errV 68 a = .iface 68 (.int .i64 a) from if_neg ha]
    exact con_of_calls (is_errno a b w)
end Go.Proofs.Ytmfbefghdaiicaa
