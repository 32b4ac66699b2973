/- The engine, part 19: the keys of a map, collected and sorted (slices.Sorted of maps.Keys), keys of the kind int. -/
import Derived.Test.YteomcjiiiilhmaaEB
import Derived.Shelf.SlIterI.Nil
import Derived.Shelf.SortM.Plain
import Derived.Shelf.SortM.SortNone
import Derived.Scope
namespace Go.E
open Go Go.Proofs Go.Shelf Go.RowKit
set_option linter.unusedVariables false

/-- The keys, rising. -/
def skeys {α : Type} (d : List (Int × α)) : List Int := (d.map (·.1)).mergeSort leI
/-- What is asked of a map whose keys are sorted. -/
def skeysP {α : Type} (d : List (Int × α)) : Prop := (∀ p ∈ d, inI64 p.1) ∧ d.length ≤ 1000000000000

def anyR : Value → Option (DataW Unit × List MemPlace) := fun _ => some (.nil, [])

theorem wf_i64 {x : Int} (h : inI64 x) : (Lit.int .i64 x).wf = true := by
  have e : (Lit.int .i64 x).wf = (decide (IntKind.i64.min ≤ x) && decide (x ≤ IntKind.i64.max)) := rfl
  have e1 : IntKind.i64.min = -9223372036854775808 := by decide
  have e2 : IntKind.i64.max = 9223372036854775807 := by decide
  rw [e, e1, e2, decide_eq_true h.1, decide_eq_true h.2]
  rfl

section
variable {P : Program} {ρ ρm : Ren} {α : Type} {cv : α → Value}

/-- A block that is a map of ours is one as the kit reads it. -/
theorem owns_of_MO {d : List (Int × α)} {o : Obj} {b : Nat} {k : TypeId} {w : World} (hk : P.underlying k = some (.int .i64)) (hM : MO kI cv ieq d o) (hb : w.heap[b]? = some o) (hP : skeysP d) :
    ∃ D : DataW Unit, w.ownsMap P k anyR b d.length D ∧ (intKeys D).Perm (d.map (·.1)) ∧ Maps.size D = d.length := by
  obtain ⟨es, clock, rfl, he, hborn, hnd, hpw⟩ := hM
  have hlen : es.size = d.length := by
    have := congrArg List.length he
    simpa using this
  have hkeys : es.toList.map (·.key) = d.map (fun p => kI p.1) := by
    have := congrArg (List.map Prod.fst) he
    simpa [List.map_map, Function.comp_def] using this
  have hrd : ∀ x ∈ es.toList, ∃ n : Int, x.key = .int .i64 n ∧ inI64 n := by
    intro x hx
    have : x.key ∈ es.toList.map (·.key) := List.mem_map.2 ⟨x, hx, rfl⟩
    rw [hkeys] at this
    obtain ⟨p, hp, e⟩ := List.mem_map.1 this
    exact ⟨p.1, e.symm, hP.1 p hp⟩
  have hrg : ∀ x ∈ es.toList, ∀ n : Int, x.key = .int .i64 n → WideElems.rd P k anyR x = some (.int .i64 n, .nil) := by
    intro x hx n hn
    obtain ⟨m, hm, hmi⟩ := hrd x hx
    rw [hm] at hn
    cases hn
    unfold WideElems.rd
    rw [hm, Maps.keyOf_int_mk hk (wf_i64 hmi)]
    rfl
  have hF : WideElems.Fit P k anyR es clock := by
    refine ⟨by rw [hlen]; have := hP.2; unfold maxLen; omega, ⟨hborn, hnd, ?_⟩, fun x hx => ?_⟩
    · rw [hkeys]
      refine List.pairwise_map.2 (hpw.imp fun {p q} h e => ?_)
      have : p.1 = q.1 := by simpa [kI] using e
      simp [ieq, this] at h
    · obtain ⟨n, hn, _⟩ := hrd x hx
      exact ⟨_, hrg x hx n hn⟩
  refine ⟨_, ⟨es, clock, hb, hF, by omega, rfl⟩, ?_, ?_⟩
  · show (List.map (fun p : Lit × DataW Unit => Go.intOf p.1) _).Perm _
    refine ((WideShapes.sorted_perm _).map _).trans ?_
    rw [List.map_map]
    have : es.toList.map ((fun p : Lit × DataW Unit => Go.intOf p.1) ∘ WideElems.rg P k anyR) = es.toList.map (fun x => match x.key with | .int _ n => n | _ => 0) := by
      refine List.map_congr_left fun x hx => ?_
      obtain ⟨n, hn, _⟩ := hrd x hx
      simp only [Function.comp_apply]
      rw [WideElems.rg_of (hrg x hx n hn), hn]
      rfl
    rw [this]
    have h2 : es.toList.map (fun x => match x.key with | .int _ n => n | _ => 0) = (es.toList.map (·.key)).map (fun v => match v with | .int _ n => n | _ => 0) := by
      rw [List.map_map]; rfl
    rw [h2, hkeys, List.map_map]
    exact List.Perm.refl _
  · show List.length _ = _
    rw [(WideShapes.sorted_perm _).length_eq]
    simp [hlen]

/-- What a row of ours is, of a kit's row. -/
theorem con_of_row {f : FuncId} {args : Array Value} {w : World} {T : TypeId} {l : List Int} (h : Calls P f args w fun e w' => ∃ (v : Value) (ss : List Int), e = .returned v ∧ ss.mergeSort leI = l ∧ ss.length = l.length ∧
      w'.ownsRow w.heap.size T 1 v ss.length (l.map encZ) ∧ Below w.heap.size w w') :
    Con P f args w (fun v F => ∃ u C, v = u ∧ F = C ∧ OJ T 1 ic C u l ∧ Cov w [] C) := by
  refine Calls.mono h ?_
  rintro e w' ⟨v, ss, rfl, hs, hl, hrow, hb⟩
  rcases hrow.2 with ⟨rfl, hz⟩ | ⟨g, cap, cur, rfl, hbase, hg, h1, h2, h3, h4⟩
  · refine ⟨_, [], rfl, ⟨hb.os, hb.tape, hb.output, hb.size, fun _ _ h => absurd h (by simp), List.nodup_nil, fun k hk _ => hb.block k hk⟩, _, [], rfl, rfl, ?_, Cov.refl _⟩
    rw [List.eq_nil_of_length_eq_zero (hl.symm.trans hz)]
    exact OJ.nil
  · have hcur : cur = CV cur.size (fun i => cur.getD i undef) := CV_of cur
    have hBK : w'.heap[g]? = some (BK cur.size (fun i => cur.getD i undef) T) := by
      unfold BK
      rw [← hcur]; exact hg
    refine ⟨_, [(g, BK cur.size (fun i => cur.getD i undef) T)], rfl, ⟨hb.os, hb.tape, hb.output, hb.size, ?_, by simp, fun k hk _ => hb.block k hk⟩, _, _, rfl, rfl, ?_, Cov.of_fresh ?_⟩
    · intro b o hm
      cases List.mem_singleton.1 hm
      exact hBK
    · refine .inr ⟨g, 0, cap, _, _, List.mem_singleton.2 rfl, by rw [hl], by omega, by omega, h2, fun i hi => ?_⟩
      rw [Nat.mul_one] at hi
      have e1 : (cur.toList.take (ss.length * 1))[i]? = (l.map encZ)[i]? := by rw [h4]
      rw [Nat.mul_one, List.getElem?_take_of_lt (by omega), List.getElem?_map, List.getElem?_eq_getElem hi] at e1
      have e2 : eG 1 ic l i = .int .i64 l[i] := eG_one hi
      rw [e2, Nat.zero_add, Array.getD_eq_getD_getElem?, ← Array.getElem?_toList, e1]
      rfl
    · intro k hk
      simp only [keys_cons, keys_nil, List.mem_singleton] at hk
      omega

/-- slices.Sorted at what maps.Keys hands back. -/
theorem con_sortedKeys (LK : SlLaysZI.n10 P ρ) (LS : SlLaysZI.n6 P ρ) (LM : SlLaysM.n5 P ρm) (hf : ρm.f 5 = ρ.f 9) (e9 : Enters P (ρ.f 9)) (e10 : Enters P (ρ.f 10))
    {w : World} {Bm b : Nat} {T : TypeId} {o : Obj} {d : List (Int × α)} (hm : w.heap[Bm]? = some (BK 1 (fun _ => .map (some b)) T)) (hb : w.heap[b]? = some o) (hM : MO kI cv ieq d o) (hP : skeysP d) :
    Con P (ρ.f 6) #[.func (.func (ρ.f 10)) #[] #[.pointer (some ⟨Bm, 0, none⟩)]] w (fun v F => ∃ u C, v = u ∧ F = C ∧ OJ (ρ.t 26) 1 ic C u (skeys d) ∧ Cov w [] C) := by
  obtain ⟨D, hown, hperm, hsz⟩ := owns_of_MO (cv := cv) LK.t26 hM hb hP
  have hBm : Bm < w.heap.size := (Array.getElem?_eq_some_iff.1 hm).1
  have hcell : w.cell? ⟨Bm, 0, none⟩ = some (.map (some b)) := cell_BK hm (by omega)
  have hseq : SeqGives Fence.wide 2 P (ρ.f 10) #[.pointer (some ⟨Bm, 0, none⟩)] encZ (fun ss => ss.Perm (intKeys D)) (Maps.size D) w :=
    AnyZI.keys_gives LK Fence.wide 2 trivial rfl (by omega) Bm b _ D w hBm hcell hown
  have hsort : ∀ m, AnyZI.SortsIn P ρ Fence.wide m := fun m =>
    ⟨fun blk off cap ss W hH hblk hsz => callsIn_wide.2 (hf ▸ AnyM.slices_Sort_int LM blk off cap ss W hH hblk hsz),
     fun p cap W => callsIn_wide.2 (hf ▸ AnyM.slices_Sort_int_none LM p cap W)⟩
  have hd := hP.2
  have cS := AnyZI.sorted_in LS Fence.wide 5 trivial trivial trivial trivial rfl (by omega) (hsort _) e9 (ρ.f 10) #[.pointer (some ⟨Bm, 0, none⟩)] trivial e10 _ (Maps.size D) (by rw [hsz]; unfold maxLen; omega) (by rw [hsz]; omega) w hseq
  refine con_of_row (Calls.mono (callsIn_wide.1 cS) ?_)
  rintro e w' ⟨v, ss, rfl, hS, hrow, hnil, hbl⟩
  have hp : ss.Perm (d.map (·.1)) := hS.trans hperm
  have hms : ss.mergeSort leI = skeys d := mergeSort_of_perm_i hp
  refine ⟨v, ss, rfl, hms, ?_, ?_, hbl⟩
  · rw [← hms, List.length_mergeSort]
  · rw [← hms]; exact hrow

/-- A scope through which the run goes straight. -/
theorem xw_scope {P : Program} {n : Nat} {w0 : World} {env : Env} {H : GH} {c : Code} {Q : Exit → Act → World → Prop} (h : XW P n w0 env H c (Exit.noGoto Q)) : XW P n w0 env H (.scope c) Q := fun a w ha hs => wp_scope_straight (h a w ha hs)
theorem xq_scope_n {n : Nat} {w0 : World} {env : Env} {H : GH} {Q : Exit → Act → World → Prop} (h : XQ n w0 env H .normal Q) : XQ n w0 env H .normal (Exit.noGoto Q) := h
theorem xq_scope_e {n : Nat} {w0 : World} {env : Env} {H : GH} {i : Nat} {Q : Exit → Act → World → Prop} (h : XQ n w0 env H (.exit i) Q) : XQ n w0 env H (.exit i) (Exit.noGoto Q) := h
theorem xq_scope_r {n : Nat} {w0 : World} {env : Env} {H : GH} {Q : Exit → Act → World → Prop} (h : XQ n w0 env H .ret Q) : XQ n w0 env H .ret (Exit.noGoto Q) := h
/-- A block as a segment. -/
theorem xo_lit {P : Program} {n : Nat} {w0 : World} {env : Env} {H : GH} {ops : Array Oper} {rest : List Oper} {Q : Exit → Act → World → Prop} {b : Nat} {o : Obj} (h : ∀ B : GH, B = [(b, o)] → XO P n w0 env (B ++ H) ops rest Q) : XO P n w0 env ((b, o) :: H) ops rest Q := h _ rfl

/-- A place in an array that is an element. -/
theorem o_ixaL {β : Type} {P : Program} {w0 : World} {env : Env} {H : GH} {t : TypeId} {x y : Operand} {ty : TypeId} {pos : String} {af : Array Edge} {g : Option (Nat × Bool)} {s : Nat} {c : β → Nat → Value} {v : Value} {l : List β}
    {d : Option Nat} {e : TypeId} {ag : Bool} {kk : IntKind} {i : Int} {k j m len : Nat} {s' : Nat} (he : ElmA P t len e s' ag) (hx : ev env x = some (.pointer (some (sadr v k)))) (hs0 : Nat.blt 0 s = true) (hv : ∀ w, St w0 H w → SL w s c v l) (hj : j < l.length) (hy : ev env y = some (.int kk i)) (h0 : 0 ≤ i ∧ i < len) (hm : i.toNat = m) :
    OT P w0 env H ⟨d, .indexAddr t x y, ty, pos, af, g⟩ (Is (.pointer (some (sadr v (k + m * s')))) H) := by
  intro a w ha hst
  obtain ⟨b, o, cp, rfl, _⟩ := (hv w hst).place hj (by simpa [Nat.blt_eq] using hs0)
  simp only [sadr, Addr.add_lit, ← Nat.add_assoc] at hx ⊢
  exact o_ixa (w0 := w0) (H := H) he hx hy h0 hm a w ha hst

/-- A contract with one new segment, as one on lists of segments. -/
theorem Con.cat1 {f : FuncId} {args : Array Value} {w : World} {V : Value → Value} {Jc : Value → GH → Prop} (h : Con P f args w (fun v F => ∃ (u : Value) (C : GH), v = V u ∧ F = (C ++ []) ∧ Jc u C ∧ Cov w [] C)) :
    Con P f args w (CatG fun v Ls => Cov w (cat []) (cat Ls) ∧ ∃ (u : Value) (C : GH), v = V u ∧ Ls = [C] ∧ Jc u C ∧ Cov w [] C) :=
  h.mono fun v F ⟨u, C, h1, h2, h3, h4⟩ => ⟨[C], h2, by simpa [cat] using h4, u, C, h1, rfl, h3, h4⟩

/-- The same, of a map in a segment. -/
theorem con_sortedKeysJ (LK : SlLaysZI.n10 P ρ) (LS : SlLaysZI.n6 P ρ) (LM : SlLaysM.n5 P ρm) (hf : ρm.f 5 = ρ.f 9) (e9 : Enters P (ρ.f 9)) (e10 : Enters P (ρ.f 10))
    {w : World} {Bm : Nat} {T : TypeId} {v : Value} {B : GH} {d : List (Int × α)} (hm : w.heap[Bm]? = some (BK 1 (fun _ => v) T)) (hJ : MJ kI cv ieq B v d) (hB : ∀ x ∈ B, w.heap[x.1]? = some x.2) (hP : skeysP d) :
    Con P (ρ.f 6) #[.func (.func (ρ.f 10)) #[] #[.pointer (some ⟨Bm, 0, none⟩)]] w (fun v F => ∃ (u : Value) (C : GH), v = u ∧ F = (C ++ []) ∧ OJ (ρ.t 26) 1 ic C u (skeys d) ∧ Cov w [] C) := by
  obtain ⟨b, o, rfl, rfl, hM⟩ := hJ
  exact (con_sortedKeys LK LS LM hf e9 e10 hm (hB (b, o) (List.mem_singleton.2 rfl)) hM hP).mono fun v F ⟨u, C, h1, h2, h3⟩ => ⟨u, C, h1, by simp [h2], h3⟩
end
end Go.E
