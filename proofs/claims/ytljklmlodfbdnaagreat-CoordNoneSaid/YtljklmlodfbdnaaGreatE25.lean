/- The engine, part 25: short words for what long walks say often. -/
import Derived.Test.YtljklmlodfbdnaaGreatE24
namespace Go.E
open Go
section
variable {α : Type _} {a b : α} {as bs : List α}
theorem mR (h : a ∈ bs) : a ∈ as ++ bs := List.mem_append_right as h
theorem mT (h : a ∈ as) : a ∈ b :: as := List.Mem.tail _ h
theorem mH : a ∈ a :: as := List.Mem.head _
variable {p : Nat → Prop}
theorem m_zero : ∀ i, i < 0 → p i := fun i h => absurd h (Nat.not_lt_zero i)
theorem m_step {n : Nat} (h0 : p 0) (h : ∀ i, i < n → p (i + 1)) : ∀ i, i < n + 1 → p i := fun i hi => match i, hi with | 0, _ => h0 | k + 1, hk => h k (Nat.lt_of_succ_lt_succ hk)
theorem M2 (h0 : p 0) (h1 : p 1) : ∀ i, i < 2 → p i := m_step h0 (m_step h1 m_zero)
theorem M4 (h0 : p 0) (h1 : p 1) (h2 : p 2) (h3 : p 3) : ∀ i, i < 4 → p i := m_step h0 (m_step h1 (m_step h2 (m_step h3 m_zero)))
theorem M7 (h0 : p 0) (h1 : p 1) (h2 : p 2) (h3 : p 3) (h4 : p 4) (h5 : p 5) (h6 : p 6) : ∀ i, i < 7 → p i := m_step h0 (m_step h1 (m_step h2 (m_step h3 (m_step h4 (m_step h5 (m_step h6 m_zero))))))
theorem M12 (h0 : p 0) (h1 : p 1) (h2 : p 2) (h3 : p 3) (h4 : p 4) (h5 : p 5) (h6 : p 6) (h7 : p 7) (h8 : p 8) (h9 : p 9) (h10 : p 10) (h11 : p 11) : ∀ i, i < 12 → p i := m_step h0 (m_step h1 (m_step h2 (m_step h3 (m_step h4 (m_step h5 (m_step h6 (m_step h7 (m_step h8 (m_step h9 (m_step h10 (m_step h11 m_zero)))))))))))
theorem M13 (h0 : p 0) (h1 : p 1) (h2 : p 2) (h3 : p 3) (h4 : p 4) (h5 : p 5) (h6 : p 6) (h7 : p 7) (h8 : p 8) (h9 : p 9) (h10 : p 10) (h11 : p 11) (h12 : p 12) : ∀ i, i < 13 → p i := m_step h0 (m_step h1 (m_step h2 (m_step h3 (m_step h4 (m_step h5 (m_step h6 (m_step h7 (m_step h8 (m_step h9 (m_step h10 (m_step h11 (m_step h12 m_zero))))))))))))
theorem M28 (h0 : p 0) (h1 : p 1) (h2 : p 2) (h3 : p 3) (h4 : p 4) (h5 : p 5) (h6 : p 6) (h7 : p 7) (h8 : p 8) (h9 : p 9) (h10 : p 10) (h11 : p 11) (h12 : p 12) (h13 : p 13) (h14 : p 14) (h15 : p 15) (h16 : p 16) (h17 : p 17) (h18 : p 18) (h19 : p 19) (h20 : p 20) (h21 : p 21) (h22 : p 22) (h23 : p 23) (h24 : p 24) (h25 : p 25) (h26 : p 26) (h27 : p 27) : ∀ i, i < 28 → p i := m_step h0 (m_step h1 (m_step h2 (m_step h3 (m_step h4 (m_step h5 (m_step h6 (m_step h7 (m_step h8 (m_step h9 (m_step h10 (m_step h11 (m_step h12 (m_step h13 (m_step h14 (m_step h15 (m_step h16 (m_step h17 (m_step h18 (m_step h19 (m_step h20 (m_step h21 (m_step h22 (m_step h23 (m_step h24 (m_step h25 (m_step h26 (m_step h27 m_zero)))))))))))))))))))))))))))
end
end Go.E
