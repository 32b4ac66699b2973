/- The engine, part 14: shifts, bits, max and min, cut to its length. -/
import Derived.Test.YtjmfnohbeoiddaaE13
namespace Go.E
open Go
section
variable {P : Program} {n : Nat} {w0 : World} {env : Env} {H : GH} {Q : Exit → Act → World → Prop} {ops : Array Oper} {rest : List Oper}
variable {ty : TypeId} {pos : String} {af : Array Edge} {g : Option (Nat × Bool)} {d : Option Nat} {t yt : TypeId} {x y : Operand} {i j : Int} {k' : IntKind}
theorem o_shlc {c : Int} (hx : ev env x = some (.int .i64 i)) (hy : ev env y = some (.int k' j)) (hj : 0 ≤ j ∧ j < 64) (hc : (2 : Int) ^ j.toNat = c) (hb : inI64 (i * c)) :
    OT P w0 env H ⟨d, .binOp .shl t x y yt, ty, pos, af, g⟩ (Is (.int .i64 (i * c)) H) := o_shl hx hy hj (by rw [hc]) hb
theorem o_shrc {c : Int} (hx : ev env x = some (.int .i64 i)) (hy : ev env y = some (.int k' j)) (hj : 0 ≤ j ∧ j < 64) (hc : (2 : Int) ^ j.toNat = c) :
    OT P w0 env H ⟨d, .binOp .shr t x y yt, ty, pos, af, g⟩ (Is (.int .i64 (i / c)) H) := by
  rw [← hc]; exact o_shr hx hy hj rfl
theorem or_nat {a b : Nat} (hb : b < 256) (ha : a % 256 = 0) : a ||| b = a + b := by
  obtain ⟨q, rfl⟩ : ∃ q, a = 256 * q := ⟨a / 256, by omega⟩
  have := Nat.shiftLeft_add_eq_or_of_lt (b := b) (i := 8) (by simpa using hb) q
  rw [Nat.shiftLeft_eq] at this
  rw [show 256 * q = q * 2 ^ 8 by omega]; exact this.symm
/-- x | y, where y is a byte and x ends in eight noughts. -/
theorem o_or8 (hx : ev env x = some (.int .i64 i)) (hy : ev env y = some (.int .i64 j)) (hi : 0 ≤ i ∧ i < 9223372036854775000 ∧ i % 256 = 0) (hj : 0 ≤ j ∧ j < 256) :
    OT P w0 env H ⟨d, .binOp .or t x y yt, ty, pos, af, g⟩ (Is (.int .i64 (i + j)) H) :=
  OT.pure fun a w ha => run_binint (ha.ev hx) (ha.ev hy) (by
    obtain ⟨a, rfl⟩ := Int.eq_ofNat_of_zero_le hi.1
    obtain ⟨b, rfl⟩ := Int.eq_ofNat_of_zero_le hj.1
    have h1 : (BitVec.ofInt 64 (a : Int)).toNat = a := by simp; omega
    have h2 : (BitVec.ofInt 64 (b : Int)).toNat = b := by simp; omega
    have h3 : ((BitVec.ofInt 64 (a : Int)) ||| (BitVec.ofInt 64 (b : Int))).toNat = a + b := by
      rw [BitVec.toNat_or, h1, h2, or_nat (by omega) (by omega)]
    have h4 : IntKind.i64.wrap (((BitVec.ofInt IntKind.i64.bits (a : Int)) ||| (BitVec.ofInt IntKind.i64.bits (b : Int))).toNat : Int) = (a : Int) + b := by
      refine (congrArg (fun q : Nat => IntKind.i64.wrap (q : Int)) h3).trans ?_
      show IntKind.i64.wrap (((a + b : Nat)) : Int) = _
      rw [wrap_id ⟨by omega, by omega⟩]; simp
    show (Op.intBits .or .i64 (a : Int) (b : Int)).run P w = _
    exact congrArg (fun z => Result.ok (Value.int .i64 z) w) h4)
def foldMax (l : List Int) (x : Int) : Int := l.foldl max x
theorem o_max2 {ts : Array TypeId} {args : Array Operand} (hargs : evL env args.toList = some [.int .i64 i, .int .i64 j]) :
    OT P w0 env H ⟨d, .call ⟨.builtin .max, args, ts⟩, ty, pos, af, g⟩ (Is (.int .i64 (if i < j then j else i)) H) :=
  OT.pure fun a w ha => by
    have e1 : args.map a.eval = #[.int .i64 i, .int .i64 j] := Array.toList_inj.1 (by simpa using evL_spec ha _ _ hargs)
    simp [execOp, resolve, invoke, builtin, e1, Builtin.max_, Builtin.max2, List.foldlM]
theorem o_min2 {ts : Array TypeId} {args : Array Operand} (hargs : evL env args.toList = some [.int .i64 i, .int .i64 j]) :
    OT P w0 env H ⟨d, .call ⟨.builtin .min, args, ts⟩, ty, pos, af, g⟩ (Is (.int .i64 (if j < i then j else i)) H) :=
  OT.pure fun a w ha => by
    have e1 : args.map a.eval = #[.int .i64 i, .int .i64 j] := Array.toList_inj.1 (by simpa using evL_spec ha _ _ hargs)
    simp [execOp, resolve, invoke, builtin, e1, Builtin.min_, Builtin.min2, List.foldlM]
theorem o_min3 {l : Int} {ts : Array TypeId} {args : Array Operand} (hargs : evL env args.toList = some [.int .i64 i, .int .i64 j, .int .i64 l]) :
    OT P w0 env H ⟨d, .call ⟨.builtin .min, args, ts⟩, ty, pos, af, g⟩ (Is (.int .i64 (if l < (if j < i then j else i) then l else (if j < i then j else i))) H) :=
  OT.pure fun a w ha => by
    have e1 : args.map a.eval = #[.int .i64 i, .int .i64 j, .int .i64 l] := Array.toList_inj.1 (by simpa using evL_spec ha _ _ hargs)
    simp [execOp, resolve, invoke, builtin, e1, Builtin.min_, Builtin.min2, List.foldlM]
/-- A list cut to its length and no more. -/
def clipV : Value → Value
  | .slice p k _ => .slice p k k
  | v => v
theorem OJ.clip {α : Type} {T : TypeId} {s : Nat} {c : α → Nat → Value} {B : GH} {v : Value} {l : List α} (h : OJ T s c B v l) : OJ T s c B (clipV v) l := by
  rcases h with ⟨rfl, rfl⟩ | ⟨b, o, cp, N, F, h1, rfl, h3, h4, h5, h6⟩
  · exact .inl ⟨rfl, rfl⟩
  · refine .inr ⟨b, o, l.length, N, F, h1, rfl, Nat.le_refl _, ?_, by omega, h6⟩
    have := Nat.mul_le_mul_right s h3
    omega
theorem SL.clip {α : Type} {w : World} {s : Nat} {c : α → Nat → Value} {v : Value} {l : List α} (h : SL w s c v l) : SL w s c (clipV v) l := by
  obtain ⟨p, cp, rfl, h2, h3, h4, h5⟩ := h
  refine ⟨p, l.length, rfl, Nat.le_refl _, by omega, fun hp => ?_, h5⟩
  have := h4 hp; omega
theorem o_clipL {α : Type} {s : Nat} {c : α → Nat → Value} {l : List α} {v : Value} {e : TypeId} {ag : Bool} {x o2 o3 : Operand} {k1 k2 : IntKind} (he : Elm P t e s ag) (hx : ev env x = some v) (hv : ∀ w, St w0 H w → SL w s c v l)
    (h2 : ev env o2 = some (.int k1 (l.length : Int))) (h3 : ev env o3 = some (.int k2 (l.length : Int))) :
    OT P w0 env H ⟨d, .slice t x none (some o2) (some o3), ty, pos, af, g⟩ (Is (clipV v) H) := by
  intro a w ha hs
  obtain ⟨p, cp, rfl, h4, h5, h6, h7⟩ := hv w hs
  have hp : ∀ q : Addr, p = some q → q.add 0 = q := fun q _ => by simp [Addr.add]
  refine (OT.pure (P := P) (w0 := w0) (env := env) (H := H) fun a w ha => ?_) a w ha hs
  cases p with
  | none => simp [execOp, ha.ev hx, ha.ev h2, ha.ev h3, Instr.sliceAt, Instr.slice, run_underlying he.1, Instr.sliceBounds, Instr.sliceBound, asIntOf, he.2.sizeOf, h4, clipV]
  | some q => simp [execOp, ha.ev hx, ha.ev h2, ha.ev h3, Instr.sliceAt, Instr.slice, run_underlying he.1, Instr.sliceBounds, Instr.sliceBound, asIntOf, he.2.sizeOf, h4, Addr.add, clipV]
end
end Go.E
namespace Go.E
open Go
def reach (ops : Array Oper) : Nat → Nat → List Nat
  | 0, i => aft ops i
  | f + 1, i => aft ops i ++ (aft ops i).flatMap (reach ops f)
section
variable {P : Program} {n : Nat} {w0 : World} {ops : Array Oper} {KS : List Nat} {env0 env : Env} {dn : List Nat} {H RS : GH} {Q : Exit → Act → World → Prop}
theorem reach_listed {listed : Array Bool} (hd : ∀ j, listed.getD j false = true → ∀ k ∈ aft ops j, listed.getD k false = true) : ∀ f i, (∀ k ∈ aft ops i, listed.getD k false = true) → ∀ k ∈ reach ops f i, listed.getD k false = true
  | 0, _, h, k, hk => h k hk
  | f + 1, i, h, k, hk => by
    rcases List.mem_append.1 hk with hk | hk
    · exact h k hk
    · obtain ⟨j, hj, hk⟩ := List.mem_flatMap.1 hk
      exact reach_listed hd f j (fun q hq => hd j (h j hj) q hq) k hk
def noRs (p : Rec) : Rec := ⟨p.i, p.l, [], p.v⟩
theorem map_noRs (dl : List Rec) : (dl.map noRs).map (·.i) = dl.map (·.i) := by simp [noRs]
theorem envOK_noRs {dl : List Rec} (h : EnvOK ops env0 dl env) : EnvOK ops env0 (dl.map noRs) env := by
  intro s v hs
  rcases h s v hs with ⟨p, hp, h1, h2⟩ | ⟨h1, h2⟩
  · exact .inl ⟨noRs p, List.mem_map_of_mem hp, h1, h2⟩
  · refine .inr ⟨fun p hp => ?_, h2⟩
    obtain ⟨q, hq, rfl⟩ := List.mem_map.1 hp
    exact h1 q hq
/-- One step of one that may write, when all else that was taken is done by then. -/
theorem xd_flush (hok : RegOK n ops = true) (f : Nat) (i : Nat) {o : Oper} (l : Env) (ho : ops[i]? = some o) (hf : front ops dn = [i]) (hcl : dn.all (reach ops f i).contains = true) (hl : Live env l) (hs : slotsOK ops dn i (l.map (·.1)) = true) (hw : Wt ops l o.guard) {R : Value → GH → Prop} (ht : OT P w0 l H o R)
    (k : ∀ v H', R v H' → (∀ k ∈ keys H', k ∈ KS ∨ w0.heap.size ≤ k) ∧ XD P n w0 ops KS env0 (i :: dn) (match o.dst with | some d => (d, v) :: env | none => env) H' [] Q) : XD P n w0 ops KS env0 dn env H RS Q := by
  intro a0 dl ha0 hdn hnd he hrs
  refine xd_rounds hok (by rw [hdn]; exact hnd) ?_ ?_
  · intro a w listed hr hinv
    exfalso
    have hi : i ∈ front ops dn := by rw [hf]; exact List.mem_singleton.2 rfl
    obtain ⟨h1, h2⟩ := List.mem_filter.1 hi
    have := all_listed hok hinv.lsize hr i (List.mem_range.1 h1)
    obtain ⟨p, hp, e⟩ := hinv.inn i this
    simp only [Bool.and_eq_true, Bool.not_eq_true', List.contains_eq_mem, decide_eq_false_iff_not] at h2
    exact h2.1 (by rw [← hdn]; exact List.mem_map.2 ⟨p, hp, e⟩)
  · intro fuel listed a w j hinv hr hni
    have hj := front_spec hinv.lsize hdn hinv.inn hr hni
    rw [hf] at hj
    obtain rfl := List.mem_singleton.1 hj
    obtain ⟨hlt, hl0, haft⟩ := (mem_ready' hinv.lsize).1 hr
    have hagv := hinv.agv hl0 haft (slots_spec ha0 he hdn hl hs)
    have hdst : dstOf ops j = o.dst := by simp [dstOf, ho]
    have hall : ∀ p ∈ dl, listed.getD p.i false = true := by
      intro p hp
      have h1 := List.all_eq_true.1 hcl p.i (by rw [← hdn]; exact List.mem_map.2 ⟨p, hp, rfl⟩)
      simp only [List.contains_eq_mem, decide_eq_true_eq] at h1
      exact reach_listed hinv.down f j haft _ h1
    unfold wpOp
    simp only [ho]
    rw [if_pos (hw.wanted hagv)]
    refine .inl (wp_mono2 ?_ (fun _ _ _ h => h.elim) (ht a w hagv hinv.st))
    rintro a' w' ⟨v, H', rfl, hst, hR⟩
    obtain ⟨k3, k2⟩ := k v H' hR
    have hlt' : j < listed.size := by rw [hinv.lsize]; exact hlt
    have hni2 : ∀ p ∈ dl.map noRs, p.i ≠ j := by
      intro p hp
      obtain ⟨q, hq, rfl⟩ := List.mem_map.1 hp
      exact hni q hq
    have hni' : j ∉ (dl.map noRs).map (·.i) := by
      simp only [List.mem_map, not_exists, not_and]
      rintro p ⟨q, hq, rfl⟩
      exact hni q hq
    have hinv2 : Inv P n ops w0 KS a0 (⟨j, l, [], v⟩ :: dl.map noRs) H' fuel (listed.setIfInBounds j true) (a.put o.dst v) w' := by
      rw [← hdst]
      refine ⟨by simpa using hinv.lsize, ?_, ?_, ?_, ?_, by rw [put_size]; exact hinv.size, by rw [put_defers]; exact hinv.defers, hst, k3, ?_, ?_⟩
      · intro q hq
        rw [getD_set hlt'] at hq
        by_cases e : q = j
        · exact ⟨⟨j, l, [], v⟩, List.mem_cons_self .., e.symm⟩
        · rw [if_neg e] at hq
          obtain ⟨p, hp, e⟩ := hinv.inn q hq
          exact ⟨noRs p, List.mem_cons_of_mem _ (List.mem_map.2 ⟨p, hp, rfl⟩), e⟩
      · intro q hq hq0
        exfalso
        rw [getD_set hlt'] at hq0
        rcases List.mem_cons.1 hq with rfl | hq
        · simp at hq0
        · obtain ⟨p, hp, rfl⟩ := List.mem_map.1 hq
          have hq1 : (if p.i = j then true else listed.getD p.i false) = false := hq0
          rw [if_neg (hni p hp), hall p hp] at hq1; cases hq1
      · intro q hq hq1 s hs'
        rcases List.mem_cons.1 hq with rfl | hq
        · have hs'' : dstOf ops j = some s := hs'
          rw [hs'', put_getD_self (by rw [hinv.size]; exact regOK_lt hok hs'')]
        · obtain ⟨p, hp, rfl⟩ := List.mem_map.1 hq
          have hne := hni p hp
          rw [put_getD (fun hh => hne (regOK_uniq hok hs' hh))]
          exact hinv.done p hp (hall p hp) s hs'
      · intro s hs'
        have hne : dstOf ops j ≠ some s := fun hh => by
          have := hs' j hh
          rw [getD_set hlt', if_pos rfl] at this
          cases this
        rw [put_getD hne]
        refine hinv.rest s fun q hq => ?_
        have := hs' q hq
        rw [getD_set hlt'] at this
        split at this
        · cases this
        · exact this
      · intro q hq k' hk
        rw [getD_set hlt'] at hq ⊢
        by_cases e : k' = j
        · rw [if_pos e]
        · rw [if_neg e]
          by_cases e2 : q = j
          · subst e2; exact haft k' hk
          · rw [if_neg e2] at hq; exact hinv.down q hq k' hk
      · rw [countP_set hlt' hl0 _ hlt]
        have := hinv.fuel
        omega
    have henv := envOK_cons (p := ⟨j, l, [], v⟩) hok (envOK_noRs he) hni'
    refine k2 a0 (⟨j, l, [], v⟩ :: dl.map noRs) ha0 (by simp only [List.map_cons, map_noRs, hdn]) (List.nodup_cons.2 ⟨by rw [← hdn, ← map_noRs]; exact hni', hnd⟩) ?_ ?_ _ _ _ _ hinv2
    · cases hd : o.dst with
      | none => exact henv.2 (by show dstOf ops j = none; rw [hdst, hd])
      | some d => exact henv.1 d (by show dstOf ops j = some d; rw [hdst, hd])
    · intro p hp x hx
      rcases List.mem_cons.1 hp with rfl | hp
      · cases hx
      · obtain ⟨q, hq, rfl⟩ := List.mem_map.1 hp
        cases hx
end
end Go.E
namespace Go.E
open Go
section
variable {P : Program} {n : Nat} {w0 : World} {ops : Array Oper} {KS : List Nat} {env0 env : Env} {dn : List Nat} {H RS : GH} {Q : Exit → Act → World → Prop}
theorem xd_fl (hok : RegOK n ops = true) (f : Nat) (i : Nat) {o : Oper} {d : Nat} (l : Env) (ho : ops[i]? = some o) (hd : o.dst = some d) (hf : front ops dn = [i]) (hcl : dn.all (reach ops f i).contains = true) (hl : Live env l) (hs : slotsOK ops dn i (l.map (·.1)) = true) (hw : Wt ops l o.guard) {R : Value → GH → Prop} (ht : OT P w0 l H o R)
    (k : ∀ v H', R v H' → (∀ k ∈ keys H', k ∈ KS ∨ w0.heap.size ≤ k) ∧ XD P n w0 ops KS env0 (i :: dn) ((d, v) :: env) H' [] Q) : XD P n w0 ops KS env0 dn env H RS Q :=
  xd_flush hok f i l ho hf hcl hl hs hw ht (fun v H' h => by rw [hd]; exact k v H' h)
theorem xd_fl0 (hok : RegOK n ops = true) (f : Nat) (i : Nat) {o : Oper} (l : Env) (ho : ops[i]? = some o) (hd : o.dst = none) (hf : front ops dn = [i]) (hcl : dn.all (reach ops f i).contains = true) (hl : Live env l) (hs : slotsOK ops dn i (l.map (·.1)) = true) (hw : Wt ops l o.guard) {R : Value → GH → Prop} (ht : OT P w0 l H o R)
    (k : ∀ v H', R v H' → (∀ k ∈ keys H', k ∈ KS ∨ w0.heap.size ≤ k) ∧ XD P n w0 ops KS env0 (i :: dn) env H' [] Q) : XD P n w0 ops KS env0 dn env H RS Q :=
  xd_flush hok f i l ho hf hcl hl hs hw ht (fun v H' h => by rw [hd]; exact k v H' h)
/-- The keys of what is given and of what is new. -/
def Ks (w0 : World) (KS : List Nat) (H : GH) : Prop := ∀ k ∈ keys H, k ∈ KS ∨ w0.heap.size ≤ k
theorem Ks.nil : Ks w0 KS [] := fun _ h => by simp at h
theorem Ks.consN {b : Nat} {o : Obj} (hb : w0.heap.size ≤ b) (h : Ks w0 KS H) : Ks w0 KS ((b, o) :: H) := fun k hk => by
  simp only [keys_cons, List.mem_cons] at hk
  exact hk.elim (fun e => .inr (e ▸ hb)) (h k)
theorem Ks.consK {b : Nat} {o : Obj} (hb : b ∈ KS) (h : Ks w0 KS H) : Ks w0 KS ((b, o) :: H) := fun k hk => by
  simp only [keys_cons, List.mem_cons] at hk
  exact hk.elim (fun e => .inl (e ▸ hb)) (h k)
theorem Ks.segN {B : GH} (hc : Cov w0 [] B) (h : Ks w0 KS H) : Ks w0 KS (B ++ H) := fun k hk => by
  simp only [keys_append, List.mem_append] at hk
  exact hk.elim (fun e => .inr (hc.fresh k e)) (h k)
theorem Ks.segK {B : GH} (hc : ∀ k ∈ keys B, k ∈ KS) (h : Ks w0 KS H) : Ks w0 KS (B ++ H) := fun k hk => by
  simp only [keys_append, List.mem_append] at hk
  exact hk.elim (fun e => .inl (hc k e)) (h k)
theorem Ks.segC {A B : GH} (hc : Cov w0 A B) (hA : ∀ k ∈ keys A, k ∈ KS) (h : Ks w0 KS H) : Ks w0 KS (B ++ H) := fun k hk => by
  simp only [keys_append, List.mem_append] at hk
  exact hk.elim (fun e => (hc.1 k e).imp (hA k) id) (h k)
theorem xd_show {H' : GH} (e : H = H') (h : XD P n w0 ops KS env0 dn env H' RS Q) : XD P n w0 ops KS env0 dn env H RS Q := e ▸ h
end
end Go.E
namespace Go.E
open Go
section
variable {P : Program} {n : Nat} {w0 : World} {ops : Array Oper} {KS : List Nat} {env0 env : Env} {dn : List Nat} {H RS : GH} {Q : Exit → Act → World → Prop}
theorem XD.more {RS' : GH} (h : XD P n w0 ops KS env0 dn env H RS' Q) (hs : ∀ x ∈ RS, x ∈ RS') : XD P n w0 ops KS env0 dn env H RS Q :=
  fun a0 dl h1 h2 h3 h4 h5 => h a0 dl h1 h2 h3 h4 fun p hp x hx => hs x (h5 p hp x hx)
/-- One that only reads; what was promised rests on blocks that are there. -/
theorem xd_a (hok : RegOK n ops = true) (i : Nat) {o : Oper} {d : Nat} {v : Value} (l : Env) (hR : ∀ x ∈ RS, x ∈ H) (ho : ops[i]? = some o) (hd : o.dst = some d) (hn : dn.contains i = false) (hl : Live env l) (hs : slotsOK ops dn i (l.map (·.1)) = true) (hw : Wt ops l o.guard)
    (ht : ∀ H', (∀ x ∈ H, x ∈ H') → (∀ k ∈ keys H', k ∈ KS ∨ w0.heap.size ≤ k) → OT P w0 l H' o (Is v H')) (k : XD P n w0 ops KS env0 (i :: dn) ((d, v) :: env) H H Q) : XD P n w0 ops KS env0 dn env H RS Q :=
  xd_all hok i l ho hd hn hl hs hw ht (k.more fun x hx => (List.mem_append.1 hx).elim id (hR x))
end
/-- The laws of the two truth values, for a rewriting. -/
theorem bS : (∀ b : Bool, (true && b) = b) ∧ (∀ b : Bool, (b && true) = b) ∧ (∀ b : Bool, (false && b) = false) ∧ (∀ b : Bool, (b && false) = false) ∧ (∀ b : Bool, (b || true) = true) ∧ (∀ b : Bool, (true || b) = true) ∧ (∀ b : Bool, (b || false) = b) ∧
    (∀ b : Bool, (false || b) = b) ∧ ((!true) = false) ∧ ((!false) = true) ∧ (∀ (b c : Bool), cond true b c = b) ∧ (∀ (b c : Bool), cond false b c = c) := by simp
end Go.E
