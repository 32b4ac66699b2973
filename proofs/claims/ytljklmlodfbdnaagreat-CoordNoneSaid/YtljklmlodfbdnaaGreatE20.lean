/- The engine, part 20: structs of ints and bools, as numbers (a bool is 0 or not). -/
import Derived.Test.YtljklmlodfbdnaaGreatEB
namespace Go.E
open Go
set_option linter.unusedVariables false

def nz (x : Int) : Bool := decide (x ≠ 0)
/-- The cells: where k says so, a bool. -/
def mv (k : Nat → Bool) (m : Nat → Int) : Nat → Value := fun i => if k i = true then .bool (nz (m i)) else .int .i64 (m i)
def bI (b : Bool) : Int := if b = true then 1 else 0
def kS (l : List Nat) : Nat → Bool := fun i => l.contains i
/-- Ints, and behind them elements of s cells each. -/
def kPA (a s : Nat) (k : Nat → Bool) : Nat → Bool := fun i => if i < a then false else k ((i - a) % s)
theorem mv_b {k : Nat → Bool} {m : Nat → Int} {i : Nat} (h : k i = true) : mv k m i = .bool (nz (m i)) := by unfold mv; rw [if_pos h]
theorem mv_i {k : Nat → Bool} {m : Nat → Int} {i : Nat} (h : k i = false) : mv k m i = .int .i64 (m i) := by unfold mv; rw [h]; rfl
theorem mv_one {k : Nat → Bool} {m : Nat → Int} {i : Nat} : (mv k m i).oneCell' = true := by unfold mv; split <;> rfl
theorem mv_sub {k k' : Nat → Bool} {m : Nat → Int} {o s : Nat} (h : ∀ i, i < s → k (o + i) = k' i) : ∀ i, i < s → mv k m (o + i) = mv k' (fun i => m (o + i)) i := fun i hi => by
  unfold mv; rw [h i hi]
theorem kpaE {a s : Nat} {k : Nat → Bool} {b : Bool} {X j r : Nat} (hX : X = a + (j * s + r)) (hr : r < s) (hb : k r = b) : kPA a s k X = b := by
  subst hX
  unfold kPA
  rw [if_neg (by omega), Nat.add_sub_cancel_left, Nat.mul_comm, Nat.mul_add_mod, Nat.mod_eq_of_lt hr]
  exact hb
theorem updI_at (m : Nat → Int) (o : Nat) (x : Int) : updI m o x o = x := if_pos rfl
theorem updI_ne {m : Nat → Int} {o i : Nat} {x : Int} (h : i ≠ o) : updI m o x i = m i := if_neg h
theorem upd_mvI {k : Nat → Bool} {m : Nat → Int} {o : Nat} {x : Int} (h : k o = false) : upd (mv k m) o (.int .i64 x) = mv k (updI m o x) := by
  funext i
  by_cases hi : i = o
  · subst hi
    rw [mv_i h, updI_at]
    exact if_pos rfl
  · show (if i = o then _ else mv k m i) = _
    rw [if_neg hi]
    unfold mv
    rw [updI_ne hi]
section
variable {P : Program} {w0 : World} {env : Env} {H H' : GH} {ty : TypeId} {pos : String} {af : Array Edge} {g : Option (Nat × Bool)} {d : Option Nat} {t : TypeId} {x y : Operand} {b o N s : Nat} {T : TypeId} {m : Nat → Int} {k : Nat → Bool}
theorem o_stMI {v : Int} (hx : ev env x = some (.pointer (some ⟨b, o, none⟩))) (hy : ev env y = some (.int .i64 v)) (ht : TyS P t 1 false) (hm : (b, BK N (mv k m) T) ∈ H) (ho : o < N) (hk : k o = false)
    (hu : Upd H b (BK N (mv k (updI m o v)) T) H') : OT P w0 env H ⟨none, .store t x y, ty, pos, af, g⟩ (Is undef H') :=
  o_st hx hy ht rfl hm ho (by rw [upd_mvI hk]; exact hu)
theorem o_buildM {ps : Array (Nat × Operand)} {zf f : Nat → Value} (hok : FldsOk P t) (hz : ZeroT P t (AG N zf)) (hf : Fill P t N env ps.toList zf f) (hl : ∀ i, i < N → f i = mv k m i) : OT P w0 env H ⟨d, .build t ps, ty, pos, af, g⟩ (Is (AG N (mv k m)) H) := by
  rw [← AG_ext hl]; exact o_build hok hz hf
end
end Go.E
