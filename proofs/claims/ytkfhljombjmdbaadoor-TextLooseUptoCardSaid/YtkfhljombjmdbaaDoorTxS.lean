/- Plain laws of pieces of texts. -/
import Derived.Lib.Split
import Derived.Lib.IndexBytes
import Derived.Lib.Join
namespace Go.Ab
open Go

/-- Pieces between single bytes. -/
def splitL (c : UInt8) : List UInt8 → List (List UInt8)
  | [] => [[]]
  | x :: r => if x = c then [] :: splitL c r else match splitL c r with
    | w :: ws => (x :: w) :: ws
    | [] => [[x]]
theorem splitL_ne (c : UInt8) (l : List UInt8) : splitL c l ≠ [] := by
  cases l with
  | nil => simp [splitL]
  | cons x r =>
    unfold splitL
    split
    · simp
    · split <;> simp
theorem splitL_app (c : UInt8) (a : List UInt8) (h : c ∉ a) (b : List UInt8) : splitL c (a ++ c :: b) = a :: splitL c b := by
  induction a with
  | nil => rw [List.nil_append, splitL, if_pos rfl]
  | cons x a ih =>
    have h1 : x ≠ c := fun e => h (by rw [e]; simp)
    rw [List.cons_append, splitL, if_neg h1, ih (fun hm => h (by simp [hm]))]
theorem splitL_none (c : UInt8) (a : List UInt8) (h : c ∉ a) : splitL c a = [a] := by
  induction a with
  | nil => rfl
  | cons x a ih =>
    have h1 : x ≠ c := fun e => h (by rw [e]; simp)
    rw [splitL, if_neg h1, ih (fun hm => h (by simp [hm]))]
theorem splitL_join (c : UInt8) (l : List UInt8) : Lib.join (splitL c l) [c] = l := by
  induction l with
  | nil => rfl
  | cons x r ih =>
    unfold splitL
    split
    · rename_i e
      subst e
      have : splitL x r ≠ [] := splitL_ne x r
      obtain ⟨w, ws, e⟩ := List.exists_cons_of_ne_nil this
      rw [e] at ih ⊢
      rw [Lib.join_cons] at ih ⊢
      simp only [Lib.joinTail, List.map_cons, List.flatten_cons, List.nil_append, List.cons_append] at ih ⊢
      rw [ih]
    · split
      · rename_i w ws e
        rw [e, Lib.join_cons] at ih
        rw [Lib.join_cons, List.cons_append, ih]
      · rename_i e
        exact (splitL_ne c r e).elim
theorem splitL_free (c : UInt8) (l : List UInt8) : ∀ w ∈ splitL c l, c ∉ w := by
  induction l with
  | nil => intro w hw; simp [splitL] at hw; subst hw; simp
  | cons x r ih =>
    intro w hw
    unfold splitL at hw
    split at hw
    · rcases List.mem_cons.1 hw with rfl | hw
      · simp
      · exact ih w hw
    · rename_i hx
      split at hw
      · rename_i u us e
        rcases List.mem_cons.1 hw with rfl | hw
        · intro hm
          rcases List.mem_cons.1 hm with q | q
          · exact hx q.symm
          · exact ih u (by rw [e]; simp) q
        · exact ih w (by rw [e]; simp [hw])
      · rename_i e; exact (splitL_ne c r e).elim

theorem indexByte_cases (c : UInt8) (s : List UInt8) : (Lib.indexByte s c = -1 ∧ c ∉ s) ∨ ∃ a b, s = a ++ c :: b ∧ c ∉ a ∧ Lib.indexByte s c = a.length := by
  induction s with
  | nil => left; exact ⟨rfl, by simp⟩
  | cons x r ih =>
    by_cases hx : x = c
    · right
      exact ⟨[], r, by rw [hx]; rfl, by simp, by unfold Lib.indexByte; rw [if_pos (by simpa using hx)]; rfl⟩
    · rcases ih with ⟨h1, h2⟩ | ⟨a, b, h1, h2, h3⟩
      · left
        refine ⟨?_, ?_⟩
        · unfold Lib.indexByte
          rw [if_neg (by simpa using hx), if_pos (by simpa using h1)]
        · intro hm
          rcases List.mem_cons.1 hm with q | q
          · exact hx q.symm
          · exact h2 q
      · right
        refine ⟨x :: a, b, by rw [h1]; rfl, ?_, ?_⟩
        · intro hm
          rcases List.mem_cons.1 hm with q | q
          · exact hx q.symm
          · exact h2 q
        · unfold Lib.indexByte
          rw [if_neg (by simpa using hx), h3, if_neg (by simp)]
          simp

theorem splitK_ge (c : UInt8) : ∀ (k : Nat) (s : List UInt8), s.count c ≤ k → Lib.splitK [c] 0 k s = splitL c s
  | 0, s, h => by
    have : c ∉ s := by
      intro hm
      have := List.count_pos_iff.2 hm
      omega
    rw [splitL_none c s this]; rfl
  | k + 1, s, h => by
    unfold Lib.splitK
    rw [Lib.index_one]
    rcases indexByte_cases c s with ⟨h1, h2⟩ | ⟨a, b, h1, h2, h3⟩
    · rw [h1, if_pos (by rfl), splitL_none c s h2]
    · rw [h3, if_neg (by simp)]
      subst h1
      rw [splitL_app c a h2]
      have hc : b.count c ≤ k := by
        rw [List.count_append, List.count_cons_self] at h
        omega
      simp only [Int.toNat_natCast, Nat.add_zero, List.length_singleton]
      have e1 : (a ++ c :: b).take a.length = a := by simp
      have e2 : (a ++ c :: b).drop (a.length + 1) = b := by
        rw [← List.drop_drop, List.drop_left]; rfl
      rw [e1, e2, splitK_ge c k b hc]
end Go.Ab
