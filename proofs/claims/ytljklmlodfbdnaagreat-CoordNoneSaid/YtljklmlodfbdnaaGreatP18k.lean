/- The coordinator: the document's example. -/
import Derived.Test.YtljklmlodfbdnaaGreatP18j
import Derived.Test.YtljklmlodfbdnaaGreatG18S
namespace Go.E
open Go
set_option linter.unusedVariables false
set_option linter.unusedSimpArgs false
set_option maxRecDepth 100000
def alive18_F : Bool := true
def startK (N : Int) : KS := ⟨updI (fun _ => 0) 0 N, 0, 0, [], []⟩
theorem alive18_ok : alive18_S alive18_F := by
  unfold alive18_S
  rw [if_pos (by decide), if_pos (by decide), if_pos (by decide), if_pos (by decide), if_pos (by decide), if_pos (by decide)]
  generalize hcf : (updI (updI (updI (updI (updI (updI (updI (fun _ => 0) 0 2) 1 (bI false)) 2 5) 3 3) 4 40) 5 6) 6 1000 : Nat → Int) = cf
  have hc0 : cf 0 = 2 := by rw [← hcf]; rfl
  have i0 : KI 2 0 (startK 2) := KI.start (by omega)
  obtain ⟨p1, q1⟩ := kbegin_is i0 (by omega) cf 1
  change kbegin_P cf (updI (fun _ => 0) 0 2) 0 0 [] [] 1 at p1
  change kbegin_F cf (updI (fun _ => 0) 0 2) 0 0 [] [] 1 = _ at q1
  have i1 := beginK_KI i0 (by omega) 1
  have e1 : (beginK 2 (startK 2) 1).1 = 1 ∧ (beginK 2 (startK 2) 1).2.1 = 0 ∧ (beginK 2 (startK 2) 1).2.2.ti = 0 := ⟨rfl, rfl, rfl⟩
  generalize hs1 : (beginK 2 (startK 2) 1).2.2 = s1 at i1 q1 e1
  rw [q1]
  dsimp only
  rw [e1.1, e1.2.1, if_pos rfl, if_pos rfl]
  obtain ⟨p2, q2⟩ := klock_is i1 (by omega) cf (by omega) 1 (updI (fun _ => 0) 0 3) 4
  rw [e1.2.2] at p2
  rw [e1.2.2, hc0] at q2
  have i2 := lockK_KI i1 2 1 (updI (fun _ => 0) 0 3) 4
  have e2 : (lockK 2 2 s1 1 (updI (fun _ => 0) 0 3) 4).2.1 = 0 ∧ (lockK 2 2 s1 1 (updI (fun _ => 0) 0 3) 4).2.2.ti = 0 ∧ (lockK 2 2 s1 1 (updI (fun _ => 0) 0 3) 4).2.2.la = s1.la := by
    rw [← hs1]; exact ⟨by decide +kernel, by decide +kernel, by decide +kernel⟩
  have m2 : msgs_F (lockK 2 2 s1 1 (updI (fun _ => 0) 0 3) 4).1 ([(updI (updRI (updI (updI (updI (updI (fun _ => 0) 0 1) 2 1) 3 1) 4 1) 5 2 (updI (fun _ => 0) 0 3)) 7 4)]) = true ∧ (lockK 2 2 s1 1 (updI (fun _ => 0) 0 3) 4).1.length = 1 := by
    rw [← hs1]; exact ⟨by decide +kernel, by decide +kernel⟩
  have c2 : (commitK 2 (lockK 2 2 s1 1 (updI (fun _ => 0) 0 3) 4).2.2 1).2.1 = 8 := by
    rw [← hs1]; decide +kernel
  generalize (lockK 2 2 s1 1 (updI (fun _ => 0) 0 3) 4) = r2 at i2 q2 e2 m2 c2
  rw [q2]
  dsimp only
  rw [e2.1, if_pos rfl, if_pos m2.1]
  obtain ⟨p3, q3⟩ := kcommit_is i2 (by omega) cf 1
  rw [e2.2.1, e2.2.2] at p3 q3
  refine ⟨p1, p2, p3, ?_, ?_⟩
  · unfold msgs_P; omega
  · rw [q3]
    dsimp only
    rw [c2]
    rfl
end Go.E
