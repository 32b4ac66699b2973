/- errors.Is between two errors that are numbers of type api.Errno, or nil. -/
import Derived.Test.YtljklmlodfbdnaaGreatRows
import Derived.Test.YtljklmlodfbdnaaGreatEB
import Derived.WalkKit
import Derived.LaidEql
import Derived.Stop.Asserts
import Derived.RowKitTokens
import Derived.Lib.Hide
namespace Go.Proofs.YtljklmlodfbdnaaGreat
open Go Go.E Go.RowKit Go.Extern.Stop Go.Stop Go.Extern
set_option linter.unusedVariables false
theorem run_equalIn_iface_int {P : Program} (w : World) (d : Nat) {ti tn : TypeId} {ms : Array (String × TypeId)} {i : TypeInfo} {k : IntKind} (a b : Int)
    (hi : P.underlying ti = some (.interface ms)) (hn : P.underlying tn = some (.int k)) (hinfo : P.info? tn = some i) (hcomp : i.comparable = true) :
    (Op.equalIn (d + 2) ti (.iface tn (.int k a)) (.iface tn (.int k b))).run P w = .ok (a == b) w := by
  simp [Op.equalIn, run_underlying hi, run_underlying hn, typeInfo, hinfo, hcomp]
theorem run_eql_iface_int {P : Program} (w : World) {ti tn : TypeId} {ms : Array (String × TypeId)} {i : TypeInfo} {k : IntKind} (a b : Int)
    (hi : P.underlying ti = some (.interface ms)) (hn : P.underlying tn = some (.int k)) (hinfo : P.info? tn = some i) (hcomp : i.comparable = true) :
    (binOp .eql ti (.iface tn (.int k a)) (.iface tn (.int k b))).run P w = .ok (.bool (a == b)) w := by
  simp only [binOp]
  simp [Op.equal, Op.maxDepth, run_equalIn_iface_int w 9998 a b hi hn hinfo hcomp]
theorem isTypeOf (v : Value) (w : World) : (Extern.ReflectliteType.typeOf #[.iface 86 v]).run Tryz.prog w = .ok (.iface 182 (.agg #[.pointer (some ⟨0, 86, none⟩)])) w := by kernel_rfl
def cmpFn : Array Value → Sem Value := Extern.ReflectliteType.method fun t => do Rtype.noPackHeld "Comparable" t; pure (.bool (← typeInfo t).comparable)
theorem isComparable (w : World) : (cmpFn #[.agg #[.pointer (some ⟨0, 86, none⟩)]]).run Tryz.prog w = .ok (.bool true) w := by kernel_rfl
theorem isMethodComparable (v : Value) (w : World) : (Go.method 371 182 v "Comparable").run Tryz.prog w = .ok (197, v) w := by kernel_rfl
theorem isComp : (Tryz.prog.info? 86).map (·.comparable) = some true := by kernel_rfl
theorem noIsE (v : Value) (xT : TypeId) (w : World) : (Instr.typeAssert (.iface 86 v) xT 184 true).run Tryz.prog w = .ok (.tuple #[.nilIface, .bool false]) w := run_typeAssert_lacksB Tryz.underlying184 (by kernel_rfl) (by kernel_rfl) v xT w
theorem noUnwrapE (v : Value) (xT : TypeId) (w : World) : (Instr.typeAssert (.iface 86 v) xT 187 true).run Tryz.prog w = .ok (.tuple #[.nilIface, .bool false]) w := run_typeAssert_lacksB Tryz.underlying187 (by kernel_rfl) (by kernel_rfl) v xT w
theorem noUnwrapsE (v : Value) (xT : TypeId) (w : World) : (Instr.typeAssert (.iface 86 v) xT 189 true).run Tryz.prog w = .ok (.tuple #[.nilIface, .bool false]) w := run_typeAssert_lacksB Tryz.underlying189 (by kernel_rfl) (by kernel_rfl) v xT w
set_option maxHeartbeats 1000000
set_option maxRecDepth 1000000
theorem is_errno (a b : Int) (w : World) : Calls Tryz.prog 33 #[.iface 86 (.int .i64 a), .iface 86 (.int .i64 b)] w fun e w' => e = .returned (.bool (decide (a = b))) ∧ w' = w := by
  obtain ⟨i, hi, hcmp⟩ := Option.map_eq_some_iff.1 isComp
  have h8 := @run_callFunc_extern Tryz.prog 70 _ Extern.ReflectliteType.typeOf Tryz.func70 (by kernel_rfl) (by kernel_rfl) (by kernel_rfl) (by kernel_rfl)
  have h32 := @run_callFunc_extern Tryz.prog 197 _ cmpFn Tryz.func197 (by kernel_rfl) (by kernel_rfl) (by kernel_rfl) (by kernel_rfl)
  have tT := isTypeOf
  have cT := isComparable
  have mR := isMethodComparable
  have nE := noIsE
  have uE := noUnwrapE
  have vE := noUnwrapsE
  by_cases hab : a = b
  · subst hab
    have heq := run_eql_iface_int (P := Tryz.prog) w a a Tryz.underlying28 Tryz.underlying86 hi hcmp
    rw [show (a == a) = true from by simp] at heq
    go_enter Tryz.func33, Tryz.ntmps33
    go_wp2
    refine wp_loop_rounds 1 ?_
    rw [rounds_succ]
    go_wp2
    go_ret
    exact ⟨by simp, rfl⟩
  · have heq := run_eql_iface_int (P := Tryz.prog) w a b Tryz.underlying28 Tryz.underlying86 hi hcmp
    rw [show (a == b) = false from by simpa using hab] at heq
    have hd : decide (a = b) = false := by simpa using hab
    rw [hd]
    have H : Hid (¬ a = b) := Lib.hid hab
    clear hab hd
    go_enter Tryz.func33, Tryz.ntmps33
    go_wp2
    refine wp_loop_rounds 1 ?_
    rw [rounds_succ]
    go_wp2
    go_ret
    exact ⟨rfl, rfl⟩
theorem is_nil (b : Int) (w : World) : Calls Tryz.prog 33 #[.nilIface, .iface 86 (.int .i64 b)] w fun e w' => e = .returned (.bool false) ∧ w' = w := by
  have hn := run_eql_iface_nil_left (P := Tryz.prog) w 86 (.int .i64 b) Tryz.underlying28
  go_enter Tryz.func33, Tryz.ntmps33
  go_wp2
  go_ret
  exact ⟨rfl, rfl⟩
theorem con_of_calls {P : Program} {f : FuncId} {args : Array Value} {w : World} {v : Value} (h : Calls P f args w fun e w' => e = .returned v ∧ w' = w) : Con P f args w (Is v []) :=
  Calls.mono h fun e w' ⟨h1, h2⟩ => ⟨v, [], h1, by rw [h2]; exact St.refl w, rfl, rfl⟩
theorem errIs_c (a b : Int) (w : World) (hb : b ≠ 0) : Con Tryz.prog 33 #[errV 86 a, errV 86 b] w (Is (.bool (decide (a = b))) []) := by
  rw [show errV 86 b = .iface 86 (.int .i64 b) from if_neg hb]
  by_cases ha : a = 0
  · subst ha
    rw [show errV 86 0 = .nilIface from rfl, show decide ((0 : Int) = b) = false from by simpa using fun e => hb e.symm]
    exact con_of_calls (is_nil b w)
  · rw [show errV 86 a = .iface 86 (.int .i64 a) from if_neg ha]
    exact con_of_calls (is_errno a b w)
end Go.Proofs.YtljklmlodfbdnaaGreat
