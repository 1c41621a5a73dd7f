/- For the laws of layer 1: whether texts are short. -/
import Derived.Test.YtpjpgfaidallhaaQB
import Derived.Test.YtpjpgfaidallhaaPQx4
namespace Go.Proofs.Ytpjpgfaidallhaa.Pure
open Go Go.RowKit Go.Proofs.Ytpjpgfaidallhaa.PQ Go.Proofs.YtpjpgfaidallhaaW.PrintWords Go.Proofs.Ytpjpgfaidallhaa.Th
theorem rdOf_mid (p s : List ByteArray) (x : ByteArray) : rdOf ByteArray.empty (p ++ x :: s) (p.length : Int) = x := by
  unfold rdOf
  simp [List.getD]
theorem short_l0 (q : List ByteArray) : ∀ p : List ByteArray, (p ++ q).length ≤ 1000 → Ev (fun k => tapewrightlaw01_short.l0 k (p ++ q) ((p ++ q).length : Int) (p.length : Int)) (q.all fun s => decide (s.size ≤ 120)) := by
  induction q with
  | nil =>
    intro p h
    exact Ev.step (fun k => by rw [tapewrightlaw01_short.l0, if_neg (by simp)]; rfl) (Ev.now _)
  | cons x q ih =>
    intro p h
    have h1 : (p.length : Int) < ((p ++ x :: q).length : Int) := by simp; omega
    have h2 : p.length ≤ 1000 := by simp at h; omega
    by_cases hx : x.size ≤ 120
    · have hi := ih (p ++ [x]) (by simpa using h)
      have h3 : Aside0 (wrap64 ((p.length : Int) + 1) = (p.length : Int) + 1) := ⟨w64 (by omega) (by omega)⟩
      rw [List.all_cons, decide_eq_true hx, Bool.true_and]
      refine Ev.step (fun k => by rw [tapewrightlaw01_short.l0, if_pos h1, if_pos (by omega), if_pos h1, rdOf_mid, if_neg (by omega), h3.out]) ?_
      simpa using hi
    · rw [List.all_cons, decide_eq_false hx, Bool.false_and]
      exact Ev.step (fun k => by rw [tapewrightlaw01_short.l0, if_pos h1, if_pos (by omega), if_pos h1, rdOf_mid, if_pos (by omega)]) (Ev.now _)
theorem short_ev (l : List ByteArray) (h : l.length ≤ 1000) : Ev (fun k => tapewrightlaw01_short.f k l) (l.all fun s => decide (s.size ≤ 120)) := short_l0 l [] (by simpa using h)
end Go.Proofs.Ytpjpgfaidallhaa.Pure
