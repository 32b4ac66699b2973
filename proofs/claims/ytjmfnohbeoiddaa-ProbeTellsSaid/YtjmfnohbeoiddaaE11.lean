/- The engine, part 11: small things that the printed walks use. -/
import Derived.Test.YtjmfnohbeoiddaaE10
namespace Go.E
open Go
theorem toNat_lt {i : Int} {n : Nat} (h : 0 ≤ i ∧ i < n) : i.toNat < n := by omega
theorem toNat_le {i : Int} {n : Nat} (h : 0 ≤ i ∧ i ≤ n) : i.toNat ≤ n := by omega
theorem toNat_mono {i j : Int} {n : Nat} (h : 0 ≤ i ∧ i ≤ j ∧ j ≤ n) : i.toNat ≤ j.toNat := by omega
theorem toNat_le2 {i j : Int} {n : Nat} (h : 0 ≤ i ∧ i ≤ j ∧ j ≤ n) : j.toNat ≤ n := by omega
theorem oneOf {v : Value} {n : Nat} (h : ∃ p c, v = .slice p n c) : v.oneCell' = true := by obtain ⟨p, c, rfl⟩ := h; rfl
theorem len_max {k b : Nat} (h : k * b ≤ 140737488355328) (hb : 0 < b) : k ≤ maxLen := by
  have : k * 1 ≤ k * b := Nat.mul_le_mul_left k hb
  have e : maxLen = 9223372036854775807 := by decide
  omega
theorem bnT {b : Bool} (h : (!b) = true) : b = false := by simpa using h
theorem bnF {b : Bool} (h : (!b) = false) : b = true := by simpa using h
theorem bne' {b : Bool} (h : b = false) : ¬ b = true := by simp [h]
def strAt (s : ByteArray) (i : Int) : Int := ((s[i.toNat]?).map fun b => (b.toNat : Int)).getD 0
def sc (x : ByteArray) : Nat → Value := fun _ => .string x
section
variable {P : Program} {n : Nat} {w0 : World} {env : Env} {H : GH} {Q : Exit → Act → World → Prop} {ops : Array Oper} {rest : List Oper}
variable {ty : TypeId} {pos : String} {af : Array Edge} {g : Option (Nat × Bool)} {t : TypeId} {x y : Operand}
theorem o_mkE {d : Option Nat} {i : Int} {ds : TypeDesc} (hx : ev env x = some (.int .i64 i)) (h1 : P.underlying t = some ds) (h2 : (match ds with | .interface _ => false | _ => true) = true) (hi : i ≠ 0) :
    OT P w0 env H ⟨d, .makeInterface t x, ty, pos, af, g⟩ (Is (errV t i) H) := by
  rw [show errV t i = .iface t (.int .i64 i) from if_neg hi]
  exact o_mki hx h1 h2
theorem o_ixStr {d : Option Nat} {s : ByteArray} {k : IntKind} {i : Int} (hu : P.underlying t = some .string) (hx : ev env x = some (.string s)) (hy : ev env y = some (.int k i)) (h0 : 0 ≤ i ∧ i < s.size) :
    OT P w0 env H ⟨d, .index t x y, ty, pos, af, g⟩ (Is (.int .u8 (strAt s i)) H) :=
  OT.pure fun a w ha => by
    have hlt : i.toNat < s.size := by omega
    have hs : s[i.toNat]? = some s[i.toNat] := getElem?_pos s i.toNat hlt
    simp only [execOp, ha.ev hx, ha.ev hy, Instr.index, asIntOf, Sem.run_bind, Sem.run_pure, Result.andThen_ok, run_underlying hu, if_pos h0.1, hs, strAt, Option.map_some, Option.getD_some]
theorem o_lenStr {d : Option Nat} {s : ByteArray} {ts : Array TypeId} (ht : ts = #[t]) (hu : P.underlying t = some .string) {args : Array Operand} (hargs : evL env args.toList = some [.string s]) :
    OT P w0 env H ⟨d, .call ⟨.builtin .len, args, ts⟩, ty, pos, af, g⟩ (Is (.int .i64 (s.size : Int)) H) :=
  OT.pure fun a w ha => by
    subst ht
    have e1 : args.map a.eval = #[.string s] := Array.toList_inj.1 (by simpa using evL_spec ha _ _ hargs)
    simp [execOp, resolve, invoke, builtin, e1, Builtin.len_, run_underlying hu, goInt]
theorem xcallvq {d : Nat} {f : FuncId} {first cap : List Value} {args : Array Operand} {ts : Array TypeId} {vs : List Value} {v : Value} (hd : Nat.blt d n = true) (hw : Wt ops env g) (hx : ev env x = some (.func (.func f) first.toArray cap.toArray)) (hf : IsFn P f) (hargs : evL env args.toList = some vs)
    (h : ∀ w, St w0 H w → Con P f (first ++ vs ++ cap).toArray w (Is v [])) (k : XO P n w0 ((d, v) :: env) H ops rest Q) :
    XO P n w0 env H ops (⟨some d, .call ⟨.value x, args, ts⟩, ty, pos, af, g⟩ :: rest) Q :=
  xcallv hd hw hx hf hargs h fun _ _ _ _ ⟨e1, e2⟩ => by subst e1 e2; exact ⟨H, .nil H, k⟩
end
end Go.E
