/- Short names for three rules on rows. -/
namespace Go.Proofs.YtbhgohomgfjjfaaV
/-- Short names. -/
theorem sT {α : Type} (xs : List α) (i : Nat) (a : α) : xs.toArray.setIfInBounds i a = (xs.set i a).toArray := by simp
theorem sZ {α : Type} (x a : α) (xs : List α) : (x :: xs).set 0 a = a :: xs := rfl
theorem sS {α : Type} (x a : α) (xs : List α) (n : Nat) : (x :: xs).set (n + 1) a = x :: xs.set n a := rfl
end Go.Proofs.YtbhgohomgfjjfaaV
