/- The engine, part 16: keys that are integers, and structs of integers; entries of maps. -/
import Derived.Test.YtjmfnohbeoiddaaE15
namespace Go.E
open Go
set_option linter.unusedVariables false
set_option linter.unusedSimpArgs false

section
variable {P : Program} {kt : TypeId}

theorem check_int (hu : P.underlying kt = some (.int .i64)) (b : Bool) (d : Nat) (k : Int) (w : World) : (Instr.checkKey b (d + 1) kt (.int .i64 k)).run P w = .ok () w := by
  simp [Instr.checkKey, run_underlying hu]

theorem keyT_int (hu : P.underlying kt = some (.int .i64)) : KeyT P kt (fun x => .int .i64 x) ieq := by
  refine ⟨fun b k w => ?_, fun k es ks w he => ?_, fun a b w h => ?_, fun a b h => ?_, fun a b c h1 h2 => ?_, fun a => by simp [ieq]⟩
  · exact check_int hu b 9999 k w
  · have key : ∀ (ks : List Int) (es : List MapEntry) (i : Nat), es.map (·.key) = ks.map (fun x => Value.int .i64 x) → Instr.findNow (.int .i64) (.int .i64 k) es i = some ((ks.findIdx? (ieq k)).bind fun j => (es[j]?).map fun e => (i + j, e.val)) := by
      intro ks
      induction ks with
      | nil => intro es i h; cases es with
        | nil => rfl
        | cons => simp at h
      | cons q ks ih =>
        intro es i h
        cases es with
        | nil => simp at h
        | cons e es =>
          simp only [List.map_cons, List.cons.injEq] at h
          simp only [Instr.findNow, h.1, Instr.sameNow, if_true, List.findIdx?_cons, ieq]
          by_cases hq : k = q
          · subst hq; simp
          · have hq' : (k == q) = false := by simpa using hq
            have e1 := ih es (i + 1) h.2
            simp only [hq', e1, Bool.false_eq_true, if_false, ieq]
            cases hf : ks.findIdx? fun b => k == b with
            | none =>
              have : ks.findIdx? (ieq k) = none := hf
              simp [this]
            | some j =>
              have : ks.findIdx? (ieq k) = some j := hf
              simp [this, Nat.add_assoc, Nat.add_comm 1 j]
    have := key ks es 0 he
    simp only [Nat.zero_add] at this
    simp only [Instr.findKey, Sem.run_bind, run_underlying hu, Result.andThen_ok, this, Sem.run_pure]
  · simp only [ieq, beq_iff_eq] at h
    subst h
    simp [Instr.keyThatStays, Instr.sameBits]
  · simp only [ieq, beq_iff_eq] at h
    rw [h]
  · simp only [ieq, beq_iff_eq] at h1 h2 ⊢
    omega

theorem flat_check (b : Bool) : ∀ (k d : Nat), k ≤ d → ∀ (t : TypeId) (n : Nat) (ag : Bool), flat P k t = some (n, ag) → ∀ (f : Nat → Int) (w : World), (Instr.checkKey b d t (fv ag n f)).run P w = .ok () w := by
  intro k
  induction k with
  | zero => intro d _ t n ag h; simp [flat] at h
  | succ k ih =>
    intro d hd t n ag h f w
    obtain ⟨d, rfl⟩ : ∃ d', d = d' + 1 := ⟨d - 1, by omega⟩
    simp only [flat] at h
    split at h
    · rename_i hu
      simp only [Option.some.injEq, Prod.mk.injEq] at h
      obtain ⟨rfl, rfl⟩ := h
      simp [Instr.checkKey, run_underlying hu, fv]
    · rename_i fs hu
      split at h
      · cases h
      · simp only [Option.map_eq_some_iff, Prod.mk.injEq] at h
        obtain ⟨m, hm, rfl, rfl⟩ := h
        show (Instr.checkKey b (d + 1) t (.agg (CV m (iv f)))).run P w = _
        rw [Instr.checkKey]
        simp only [Sem.run_bind, run_underlying hu, Result.andThen_ok]
        rw [← Array.forIn_toList]
        have each : ∀ (l : List Field) (o : Nat), flatFs P (flat P k) l o = some m → o ≤ m ∧ ∀ x ∈ l, x.name ≠ "_" ∧ ∃ s ag', flat P k x.type = some (s, ag') ∧ TyS P x.type s ag' ∧ x.offset + s ≤ m := by
          intro l
          induction l with
          | nil => intro o ho; simp only [flatFs, Option.some.injEq] at ho; subst ho; simp
          | cons x l ihl =>
            intro o ho
            simp only [flatFs] at ho
            split at ho
            · cases ho
            · rename_i hnm
              simp only [Bool.or_eq_true, beq_iff_eq, bne_iff_ne, ne_eq, not_or, Decidable.not_not] at hnm
              split at ho
              · rename_i s ag' hrec
                split at ho
                · rename_i hsz
                  simp only [Bool.and_eq_true, beq_iff_eq] at hsz
                  obtain ⟨hle, h2⟩ := ihl (o + s) ho
                  refine ⟨by omega, fun y hy => ?_⟩
                  rcases List.mem_cons.1 hy with rfl | hy
                  · exact ⟨hnm.1, s, ag', hrec, ⟨hsz.2, hsz.1⟩, by rw [hnm.2]; omega⟩
                  · exact h2 y hy
                · cases ho
              · cases ho
        have each := (each fs.toList 0 hm).2
        clear hm hu
        generalize fs.toList = L at each
        induction L with
        | nil => simp
        | cons x L ihl =>
          obtain ⟨hn, s, ag', hrec, hty, hle⟩ := each x List.mem_cons_self
          have h1 := ih d (by omega) x.type s ag' hrec (fun i => f (x.offset + i)) w
          have p1 := run_part_fv hty (flat_one hrec) hle f w
          simp only [List.forIn_cons, Sem.run_bind, ne_eq, hn, not_false_eq_true, if_true, Result.andThen_ok, p1, h1, Sem.run_pure]
          have h2 := ihl fun y hy => each y (List.mem_cons_of_mem _ hy)
          simp only [ne_eq, Sem.run_bind, Sem.run_pure] at h2
          exact h2
    · rename_i len e hu
      split at h
      · rename_i s ag' hrec
        split at h
        · rename_i hsz
          simp only [Bool.and_eq_true, beq_iff_eq] at hsz
          simp only [Option.some.injEq, Prod.mk.injEq] at h
          obtain ⟨rfl, rfl⟩ := h
          have hty : TyS P e s ag' := ⟨hsz.2, hsz.1⟩
          show (Instr.checkKey b (d + 1) t (.agg (CV (len * s) (iv f)))).run P w = _
          rw [Instr.checkKey]
          simp only [Sem.run_bind, run_underlying hu, Result.andThen_ok]
          simp only [Std.Legacy.Range.forIn_eq_forIn_range', Std.Legacy.Range.size, Nat.sub_zero, Nat.add_one_sub_one, Nat.div_one]
          have each : ∀ i ∈ List.range' 0 len, i < len := fun i hi => by simp at hi; omega
          clear hu
          generalize hm : len * s = m
          have hle : ∀ i, i < len → i * s + s ≤ m := fun i hi => by
            have := Nat.mul_le_mul_right s (show i + 1 ≤ len by omega)
            rw [Nat.add_mul, Nat.one_mul] at this
            omega
          generalize List.range' 0 len = L at each
          induction L with
          | nil => simp
          | cons j L ihl =>
            have h1 := ih d (by omega) e s ag' hrec (fun i => f (j * s + i)) w
            have p1 := run_part_fv hty (flat_one hrec) (hle j (each j List.mem_cons_self)) f w
            simp only [List.forIn_cons, Sem.run_bind, hty.sizeOf, Result.andThen_ok, p1, h1, Sem.run_pure]
            have h2 := ihl fun y hy => each y (List.mem_cons_of_mem _ hy)
            simp only [Sem.run_bind, Sem.run_pure] at h2
            exact h2
        · cases h
      · cases h
    · cases h

theorem sameBits_CV {n : Nat} {f g : Nat → Int} (h : eqN n f g = true) (d : Nat) : Instr.sameBits (d + 1) (AI n f) (AI n g) = true := by
  have h' := eqN_iff.1 h
  have e : CV n (iv f) = CV n (iv g) := by
    unfold CV
    congr 1
    exact List.map_congr_left fun i hi => by simp [iv, h' i (List.mem_range.1 hi)]
  show Instr.sameBits (d + 1) (.agg (CV n (iv f))) (.agg (CV n (iv g))) = true
  rw [e]
  simp only [Instr.sameBits, beq_self_eq_true, Bool.true_and, List.all_eq_true]
  intro q hq
  obtain ⟨i, hi⟩ := List.getElem?_of_mem hq
  rw [List.getElem?_zip_eq_some] at hi
  have h1 := hi.1.symm.trans hi.2
  simp only [Option.some.injEq] at h1
  have h2 := hi.1
  simp only [CV, List.getElem?_map] at h2
  obtain ⟨j, hj, hj'⟩ := Option.map_eq_some_iff.1 h2
  rw [← h1, ← hj']
  cases d <;> simp [iv, Instr.sameBits]

theorem keyT_flat {n : Nat} (hf : Flat P kt n) : KeyT P kt (fun m => AI n m) (eqN n) := by
  refine ⟨fun b k w => flat_check b 9 10000 (by omega) kt n true hf.1 k w, fun k es ks w he => ?_, fun a b w h => ?_, fun a b h => ?_, fun a b c h1 h2 => ?_, fun a => eqN_refl n a⟩
  · have hu : ∃ td, P.underlying kt = some td ∧ ∀ a b, Instr.sameNow td (.agg a) b = none := by
      have h := hf.1
      simp only [flat] at h
      split at h
      · simp at h
      · rename_i fs hu; exact ⟨_, hu, fun a b => by cases b <;> rfl⟩
      · rename_i l e hu; exact ⟨_, hu, fun a b => by cases b <;> rfl⟩
      · cases h
    obtain ⟨td, hu, hno⟩ := hu
    have key : ∀ (ks : List (Nat → Int)) (es : List MapEntry) (i : Nat), es.map (·.key) = ks.map (fun m => AI n m) → (Instr.findAsking kt (AI n k) es i).run P w = .ok ((ks.findIdx? (eqN n k)).bind fun j => (es[j]?).map fun e => (i + j, e.val)) w := by
      intro ks
      induction ks with
      | nil => intro es i h; cases es with
        | nil => simp [Instr.findAsking]
        | cons => simp at h
      | cons q ks ih =>
        intro es i h
        cases es with
        | nil => simp at h
        | cons e es =>
          simp only [List.map_cons, List.cons.injEq] at h
          have heq := hf.equal k q w
          simp only [Instr.findAsking, h.1, Sem.run_bind, Op.equal, Op.maxDepth, heq, Result.andThen_ok, List.findIdx?_cons]
          cases hq : eqN n k q
          · simp only [Bool.false_eq_true, if_false]
            have e1 := ih es (i + 1) h.2
            rw [e1]
            cases hf : ks.findIdx? (eqN n k) with
            | none => simp
            | some j => simp [Nat.add_assoc, Nat.add_comm 1 j]
          · simp
    simp only [Instr.findKey, Sem.run_bind, run_underlying hu, Result.andThen_ok]
    cases es with
    | nil => cases ks with
      | nil => simp [Instr.findNow]
      | cons => simp at he
    | cons e es =>
      have : Instr.findNow td (AI n k) (e :: es) 0 = none := by
        simp only [Instr.findNow]
        rw [show Instr.sameNow td (AI n k) e.key = none from hno _ _]
      rw [this]
      have h := key ks (e :: es) 0 he
      simp only [Nat.zero_add] at h
      exact h
  · have e : eqN n b a = true := eqN_iff.2 fun i hi => (eqN_iff.1 h i hi).symm
    simp [Instr.keyThatStays, sameBits_CV e]
  · show Value.agg _ = Value.agg _
    congr 1
    unfold CV
    congr 1
    exact List.map_congr_left fun i hi => by simp [iv, eqN_iff.1 h i (List.mem_range.1 hi)]
  · rw [eqN_iff] at h1 h2 ⊢
    intro i hi
    rw [← h1 i hi, h2 i hi]
end
end Go.E
