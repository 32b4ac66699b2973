/- The engine, part 27: maps from numbers to structs that hold slices. -/
import Derived.Test.YtljklmlodfbdnaaGreatE26
import Derived.Test.YtljklmlodfbdnaaGreatE19
namespace Go.E
open Go
set_option linter.unusedVariables false
set_option linter.unusedSimpArgs false
set_option linter.unusedSectionVars false
/-- Two lists with the same keys, whose values go together. -/
def PW {α β : Type} (Q : α → β → Prop) : List (Int × α) → List (Int × β) → Prop
  | [], [] => True
  | p :: d, q :: r => p.1 = q.1 ∧ Q p.2 q.2 ∧ PW Q d r
  | _, _ => False
section
variable {α β : Type} {Q Q' : α → β → Prop}
theorem PW.imp (h : ∀ a b, Q a b → Q' a b) : ∀ {d : List (Int × α)} {r : List (Int × β)}, PW Q d r → PW Q' d r
  | [], [], _ => trivial
  | _ :: _, _ :: _, ⟨h1, h2, h3⟩ => ⟨h1, h _ _ h2, PW.imp h h3⟩
  | [], _ :: _, h => h.elim
  | _ :: _, [], h => h.elim
theorem PW.keys : ∀ {d : List (Int × α)} {r : List (Int × β)}, PW Q d r → r.map (·.1) = d.map (·.1)
  | [], [], _ => rfl
  | _ :: _, _ :: _, ⟨h1, h2, h3⟩ => by rw [List.map_cons, List.map_cons, PW.keys h3, h1]
  | [], _ :: _, h => h.elim
  | _ :: _, [], h => h.elim
theorem PW.get {z : α} {z' : β} (hz : Q z z') (k : Int) : ∀ {d : List (Int × α)} {r : List (Int × β)}, PW Q d r → Q (mget ieq d k z) (mget ieq r k z')
  | [], [], _ => hz
  | p :: d, q :: r, ⟨h1, h2, h3⟩ => by
    have := PW.get hz k h3
    unfold mget at this ⊢
    unfold mfind
    rw [← h1]
    by_cases h : ieq k p.1 = true
    · rw [if_pos h, if_pos h]; exact h2
    · rw [if_neg h, if_neg h]; exact this
  | [], _ :: _, h => h.elim
  | _ :: _, [], h => h.elim
theorem PW.has (k : Int) : ∀ {d : List (Int × α)} {r : List (Int × β)}, PW Q d r → mhas ieq r k = mhas ieq d k
  | [], [], _ => rfl
  | p :: d, q :: r, ⟨h1, h2, h3⟩ => by
    have := PW.has k h3
    unfold mhas at this ⊢
    unfold mfind
    rw [← h1]
    by_cases h : ieq k p.1 = true
    · rw [if_pos h, if_pos h]; rfl
    · rw [if_neg h, if_neg h]; exact this
  | [], _ :: _, h => h.elim
  | _ :: _, [], h => h.elim
theorem PW.set {a : α} {b : β} (hab : Q a b) (k : Int) : ∀ {d : List (Int × α)} {r : List (Int × β)}, PW Q d r → PW Q (mset ieq d k a) (mset ieq r k b)
  | [], [], _ => ⟨rfl, hab, trivial⟩
  | p :: d, q :: r, ⟨h1, h2, h3⟩ => by
    unfold mset
    rw [← h1]
    by_cases h : ieq k p.1 = true
    · rw [if_pos h, if_pos h]; exact ⟨rfl, hab, h3⟩
    · rw [if_neg h, if_neg h]; exact ⟨h1, h2, PW.set hab k h3⟩
  | [], _ :: _, h => h.elim
  | _ :: _, [], h => h.elim
end
/-- A map in a segment, in which the slices of its values lie, too. -/
def NM {α : Type} (n : Nat) (R : GH → α → (Nat → Value) → Prop) (B : GH) (v : Value) (d : List (Int × α)) : Prop :=
  ∃ (raws : List (Int × (Nat → Value))) (B1 A : GH), B.Perm (B1 ++ A) ∧ MJ kI (AG n) ieq B1 v raws ∧ PW (R A) d raws
section
variable {α : Type} {w0 w : World} {n : Nat} {R : GH → α → (Nat → Value) → Prop} {B H : GH} {v : Value} {d : List (Int × α)}
noncomputable def NM.raw (h : NM n R B v d) : List (Int × (Nat → Value)) := Classical.choose h
theorem NM.rawS (h : NM n R B v d) : ∃ (B1 A : GH), B.Perm (B1 ++ A) ∧ MJ kI (AG n) ieq B1 v h.raw ∧ PW (R A) d h.raw := Classical.choose_spec h
theorem NM.nil (h : MJ kI (AG n) ieq B v []) : NM n R B v [] := ⟨[], B, [], by simp, h, trivial⟩
theorem NM.val (h : NM n R B v d) : ∃ b, v = .map (some b) := let ⟨_, _, _, h, _⟩ := h.rawS; h.val
theorem NM.one (h : NM n R B v d) : v.oneCell' = true := let ⟨_, _, _, h, _⟩ := h.rawS; h.one
/-- The cells of a value. -/
noncomputable def NM.get (h : NM n R B v d) (k : Int) (zf : Nat → Value) : Nat → Value := mget ieq h.raw k zf
theorem NM.at (h : NM n R B v d) (hm : MonoR R) (k : Int) {z : α} {zf : Nat → Value} (hz : R [] z zf) : R B (mget ieq d k z) (h.get k zf) := by
  obtain ⟨B1, A, hp, hM, hA⟩ := h.rawS
  have := PW.get (Q := R A) (hm [] A _ _ (fun y hy => by simp at hy) hz) k hA
  exact hm A B _ _ (fun y hy => hp.mem_iff.2 (List.mem_append_right _ hy)) this
/-- The map itself, for what asks its keys alone. -/
theorem NM.keys (h : NM n R B v d) : ∃ (B1 : GH), (∀ x ∈ B1, x ∈ B) ∧ MJ kI (AG n) ieq B1 v h.raw ∧ skeys h.raw = skeys d ∧ (skeysP d → skeysP h.raw) := by
  obtain ⟨B1, A, hp, hM, hA⟩ := h.rawS
  have hk := hA.keys
  refine ⟨B1, fun x hx => hp.mem_iff.2 (List.mem_append_left _ hx), hM, by unfold skeys; rw [hk], fun ⟨h1, h2⟩ => ⟨fun p hp' => ?_, ?_⟩⟩
  · have : p.1 ∈ d.map (·.1) := by rw [← hk]; exact List.mem_map_of_mem hp'
    obtain ⟨q, hq, e⟩ := List.mem_map.1 this
    rw [← e]; exact h1 q hq
  · have := congrArg List.length hk
    simp only [List.length_map] at this
    omega
end
section
variable {α : Type} {P : Program} {w0 : World} {env : Env} {H : GH}
variable {d : Option Nat} {ty : TypeId} {pos : String} {af : Array Edge} {g : Option (Nat × Bool)} {t kt et : TypeId} {x y u : Operand} {n : Nat} {R : GH → α → (Nat → Value) → Prop} {B : GH} {v : Value} {m : List (Int × α)} {k : Int}
theorem o_lkN {zf f : Nat → Value} (hk : KeyT P kt kI ieq) (hu : P.underlying t = some (.map kt et)) (hz : ZeroT P et (AG n zf)) (hx : ev env x = some v) (hy : ev env y = some (kI k)) (hN : NM n R B v m) (hB : ∀ q ∈ B, q ∈ H) (hf : ∀ i, i < n → hN.get k zf i = f i) :
    OT P w0 env H ⟨d, .lookup t x y false, ty, pos, af, g⟩ (Is (AG n f) H) := by
  obtain ⟨B1, A, hp, hM, hA⟩ := hN.rawS
  rw [← AG_ext hf]
  exact o_lk (z := zf) hk hu hz hx hy hM fun q hq => hB q (hp.mem_iff.2 (List.mem_append_left _ hq))
theorem cov_in2 {B B1 A B1' S : GH} (hp : B.Perm (B1 ++ A)) (hc : Cov w0 B1 B1') : Cov w0 (B ++ S) (B1' ++ (A ++ S)) := by
  have hk : ∀ k, k ∈ keys B ↔ k ∈ keys B1 ∨ k ∈ keys A := fun k => by
    have := (hp.map (·.1)).mem_iff (a := k)
    rw [← List.mem_append, ← keys_append]
    exact this
  refine ⟨fun k h => ?_, fun k h => ?_⟩
  · simp only [keys_append, List.mem_append] at h ⊢
    rcases h with h | h | h
    · exact (hc.1 k h).imp (fun h => .inl ((hk k).2 (.inl h))) id
    · exact .inl (.inl ((hk k).2 (.inr h)))
    · exact .inl (.inr h)
  · simp only [keys_append, List.mem_append] at h ⊢
    rcases h with h | h
    · exact ((hk k).1 h).imp (hc.2 k) .inl
    · exact .inr (.inr h)
theorem cov_drop {B S B' : GH} (h : Cov w0 (B ++ S) B') (hS : Cov w0 [] S) : Cov w0 B B' :=
  ⟨fun k hk => (h.1 k hk).elim (fun h => by
    rw [keys_append, List.mem_append] at h
    exact h.imp id (hS.fresh k)) .inr, fun k hk => h.2 k (by rw [keys_append]; exact List.mem_append_left _ hk)⟩
/-- Segments, one behind the other, ahead of R. -/
def appAll (Ss : List GH) (R : GH) : GH := Ss.foldr (fun S R => S ++ R) R
theorem appAll_cat (R : GH) : ∀ (Ss : List GH), appAll Ss R = cat Ss ++ R
  | [] => rfl
  | S :: Ss => by
    show S ++ appAll Ss R = (S ++ cat Ss) ++ R
    rw [appAll_cat R Ss, List.append_assoc]
theorem Cov.move {A A' R R' : GH} (Ss : List GH) (h : Cov w0 (A ++ cat Ss) A') (k : Cov w0 R R') : Cov w0 (A ++ appAll Ss R) (A' ++ R') := by
  rw [appAll_cat, ← List.append_assoc]
  exact h.app k
theorem Cov.permJ (σ : List Nat) (L : List GH) {B : GH} (h : Cov w0 (cat (σ.map fun i => L.getD i [])) B) (hp : List.isPerm σ (List.range L.length) = true := by kernel_rfl) : Cov w0 (cat L) B := by
  have h1 := (List.isPerm_iff.1 hp).map (fun i => L.getD i [])
  rw [map_getD_range] at h1
  have hk : ∀ k, k ∈ keys (cat L) ↔ k ∈ keys (cat (σ.map fun i => L.getD i [])) := fun k => ((cat_perm h1).symm.map (·.1)).mem_iff
  exact ⟨fun k hh => (h.1 k hh).imp (hk k).2 id, fun k hh => h.2 k ((hk k).1 hh)⟩
/-- A value that holds slices is put into a map: the segments in which these lie come in. -/
theorem o_msetN {Ss Rs : List GH} {e : α} {f : Nat → Value} (hk : KeyT P kt kI ieq) (hu : P.underlying t = some (.map kt et)) (hx : ev env x = some v) (hy : ev env y = some (kI k)) (hz : ev env u = some (AG n f)) (hN : NM n R B v m) (hm : MonoR R) (hR : R (cat Ss) e f) :
    OT P w0 env (cat (B :: (Ss ++ Rs))) ⟨d, .mapUpdate t x y u, ty, pos, af, g⟩ (fun _ H' => ∃ B', H' = cat (B' :: Rs) ∧ Cov w0 (B ++ cat Ss) B' ∧ NM n R B' v (mset ieq m k e) ∧ ∀ q ∈ cat Ss, q ∈ B') := by
  obtain ⟨raws, B1, A, hp, hM, hA⟩ := hN
  have e1 : ∀ w, St w0 (cat (B :: (Ss ++ Rs))) w → St w0 (B1 ++ (A ++ (cat Ss ++ cat Rs))) w := by
    intro w h
    have hperm : (cat (B :: (Ss ++ Rs))).Perm (B1 ++ (A ++ (cat Ss ++ cat Rs))) := by
      show (B ++ cat (Ss ++ Rs)).Perm _
      rw [cat_append, ← List.append_assoc B1 A]
      exact List.Perm.append_right _ hp
    exact h.perm hperm
  intro a w ha hs
  have := o_mset (d := d) (ty := ty) (pos := pos) (af := af) (g := g) (R := A ++ (cat Ss ++ cat Rs)) (e := f) hk hu hx hy hz hM a w ha (e1 w hs)
  refine wp_mono2 ?_ (fun _ _ _ h => h.elim) this
  rintro a' w' ⟨v', H', rfl, hs', B1', rfl, hcov, hM'⟩
  refine ⟨v', cat ((B1' ++ (A ++ cat Ss)) :: Rs), rfl, ?_, _, rfl, cov_in2 hp hcov, ⟨mset ieq raws k f, B1', A ++ cat Ss, List.Perm.refl _, hM', ?_⟩, fun y hy => by simp [hy]⟩
  · show St w0 ((B1' ++ (A ++ cat Ss)) ++ cat Rs) w'
    simpa only [List.append_assoc] using hs'
  · exact PW.set (hm _ _ _ _ (fun y hy => List.mem_append_right _ hy) hR) k (hA.imp fun a b h => hm A _ _ _ (fun y hy => List.mem_append_left _ hy) h)
end
end Go.E
