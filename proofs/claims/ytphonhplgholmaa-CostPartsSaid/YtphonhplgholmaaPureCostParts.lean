/- CostParts: a loop of vectors alone costs what its verbs cost, one by one, and its nodes. -/
import Derived.Test.YtphonhplgholmaaPx12
import Derived.Test.YtphonhplgholmaaGPBudget
namespace Go.Proofs.Ytphonhplgholmaa.Pure
open Go.RowKit Go.Proofs.Ytphonhplgholmaa Go.Proofs.Ytphonhplgholmaa.P Go.Proofs.YtphonhplgholmaaW.PrintWords Go.Proofs.YtphonhplgholmaaW.PrintMore
def tot0 (l : List S26) : Int := (l.map (·.f0)).sum
def tot1 (l : List S26) : Int := (l.map (·.f1)).sum
theorem tot_nonneg (l : List S26) (h : ∀ x ∈ l, 0 ≤ x.f0 ∧ 0 ≤ x.f1) : 0 ≤ tot0 l ∧ 0 ≤ tot1 l := by
  induction l with
  | nil => exact ⟨Int.le_refl _, Int.le_refl _⟩
  | cons x l ih =>
    have h1 := h x List.mem_cons_self
    have h2 := ih fun y hy => h y (List.mem_cons_of_mem _ hy)
    unfold tot0 tot1 at *
    simp only [List.map_cons, List.sum_cons]
    omega
theorem fold_plain (l : List S26) : ∀ a b : Int, (∀ x ∈ l, 0 ≤ x.f0 ∧ 0 ≤ x.f1) → 0 ≤ a → 0 ≤ b → a + tot0 l ≤ 1099511627776 → b + tot1 l ≤ 1099511627776 → l.foldl sumStep (a, b) = (a + tot0 l, b + tot1 l) := by
  induction l with
  | nil => intro a b _ _ _ _ _; simp [tot0, tot1]
  | cons x l ih =>
    intro a b h ha hb h1 h2
    have hx := h x List.mem_cons_self
    have hl := fun y hy => h y (List.mem_cons_of_mem _ hy)
    have hn := tot_nonneg l hl
    have e0 : tot0 (x :: l) = x.f0 + tot0 l := by simp [tot0]
    have e1 : tot1 (x :: l) = x.f1 + tot1 l := by simp [tot1]
    rw [e0] at h1 ⊢
    rw [e1] at h2 ⊢
    rw [List.foldl_cons]
    have es : sumStep (a, b) x = (a + x.f0, b + x.f1) := by
      unfold sumStep
      simp only []
      rw [bd_id (a := x.f0) (by omega) (by omega), bd_id (a := x.f1) (by omega) (by omega), bd_id (by omega) (by omega), bd_id (by omega) (by omega)]
    rw [es, ih _ _ hl (by omega) (by omega) (by omega) (by omega)]
    congr 1 <;> omega
theorem sum_plain (l : List S26) (hl : l.length ≤ 100) (h : ∀ x ∈ l, 0 ≤ x.f0 ∧ 0 ≤ x.f1) (h1 : tot0 l ≤ 1099511627776) (h2 : tot1 l ≤ 1099511627776) : budget_Sum.f l = some (tot0 l, tot1 l) := by
  unfold budget_Sum.f sumR
  rw [if_pos (by omega), fold_plain l 0 0 h (by omega) (by omega) (by omega) (by omega)]
  simp
theorem node_eq : cost_Node.f = some (1, 0) := by decide +kernel
theorem call_eq : cost_Call.f = some (2, 0) := by decide +kernel
theorem mx_eq (a b : Int) : mx a b = max a b := by unfold mx; omega
theorem mn_eq (a b : Int) : mn a b = min a b := by unfold mn; omega
theorem max3 (k : Nat) (a b : Int) : slices_Max_int_int.f (k + 4) [a, 0, b] = some (max (max a 0) b) := by
  unfold slices_Max_int_int.f
  rw [if_neg (by simp), if_pos (by simp)]
  simp only [slices_Max_int_int.l0]
  rw [if_pos (by simp), if_pos (by omega), wrap_id (a := 1 + 1) (by omega) (by omega), if_pos (by simp), if_pos (by omega), wrap_id (a := 1 + 1 + 1) (by omega) (by omega), if_neg (by simp)]
  simp [rd, mx_eq]
theorem max4 (k : Nat) (a b c : Int) : slices_Max_int_int.f (k + 5) [a, 0, b, c] = some (max (max (max a 0) b) c) := by
  unfold slices_Max_int_int.f
  rw [if_neg (by simp), if_pos (by simp)]
  simp only [slices_Max_int_int.l0]
  rw [if_pos (by simp), if_pos (by omega), wrap_id (a := 1 + 1) (by omega) (by omega), if_pos (by simp), if_pos (by omega), wrap_id (a := 1 + 1 + 1) (by omega) (by omega), if_pos (by simp), if_pos (by omega), wrap_id (a := 1 + 1 + 1 + 1) (by omega) (by omega), if_neg (by simp)]
  simp [rd, mx_eq]
theorem size1 (k : Nat) (o m : Int) (ho : 0 ≤ o) (ho2 : o ≤ 4096) (hm : 0 ≤ m) (hm2 : m ≤ 4096) : cost_Size.f (k + 4) o [m] = some (max o m + 1, o) := by
  unfold cost_Size.f
  simp only [Option.bind_some, List.cons_append, List.nil_append]
  rw [if_pos (by simp), max3, node_eq]
  simp only [Option.bind_some, new_eq]
  rw [bd_id (by omega) (by omega), bd_id (by omega) (by omega), sum_plain _ (by simp) (by simp; omega) (by simp [tot0]; omega) (by simp [tot1]; omega)]
  simp [tot0, tot1]
  omega
theorem size2 (k : Nat) : cost_Size.f (k + 5) 1 [1, 1] = some (2, 1) := by
  unfold cost_Size.f
  simp only [Option.bind_some, List.cons_append, List.nil_append]
  rw [if_pos (by simp), max4, node_eq]
  simp only [Option.bind_some, new_eq]
  decide +kernel
theorem shown18 (k : Nat) : reredoslaw18_shown.f (k + 5) = some true := by
  unfold reredoslaw18_shown.f
  have e : cost_Size.f (k + 5) 5 [5, 5] = some (6, 5) := by
    unfold cost_Size.f
    simp only [Option.bind_some, List.cons_append, List.nil_append]
    rw [if_pos (by simp), max4, node_eq]
    simp only [Option.bind_some, new_eq]
    decide +kernel
  rw [e, node_eq, call_eq]
  decide +kernel
theorem times_eq (a b n : Int) (ha : 0 ≤ a) (ha2 : a ≤ 1000000) (hb : 0 ≤ b) (hb2 : b ≤ 1000000) (hn : 0 ≤ n) (hn2 : n ≤ 10000) : budget_Times.f a b n = some (a * n, b * n) := by
  unfold budget_Times.f
  have h1 : a * n ≤ 1000000 * 10000 := Int.mul_le_mul ha2 hn2 hn (by omega)
  have h2 : b * n ≤ 1000000 * 10000 := Int.mul_le_mul hb2 hn2 hn (by omega)
  rw [bprod_eq, bprod_eq, bd_id (a := a) (by omega) (by omega), bd_id (a := b) (by omega) (by omega), bd_id (a := n) (by omega) (by omega)]
  congr 2 <;> omega
theorem times_neg (a b n : Int) (hn : n ≤ 0) : budget_Times.f a b n = some (0, 0) := by
  unfold budget_Times.f
  have h1 := bd_range a
  have h2 := bd_range b
  rw [bprod_eq, bprod_eq, bd_neg (a := n) hn, Int.mul_zero, Int.mul_zero]
  decide
theorem loop_plain (k : Nat) (p v m : Int) (hp : 0 ≤ p) (hp2 : p ≤ 255) (hv : p ≤ v) (hv2 : v ≤ 300) (hm : 0 ≤ m) (hm2 : m ≤ 4096) : cost_Loop.f (k + 5) p v m false = some (p * (m + 2), p * m) := by
  have q1 : p * m ≤ 255 * 4096 := Int.mul_le_mul hp2 hm2 hm (by omega)
  have q2 : 0 ≤ p * m := Int.mul_nonneg hp hm
  unfold cost_Loop.f
  rw [node_eq, size1 (k + 1) 1 1 (by omega) (by omega) (by omega) (by omega), mx_eq, mx_eq, mx_eq, mn_eq, mn_eq]
  rw [show max p 0 = p from by omega, show max v 0 = v from by omega, show min (max m 0) 4096 = m from by omega, show min v p = p from by omega, size1 (k + 1) m m hm hm2 hm hm2, wrap_id (by omega) (by omega)]
  simp only [Option.bind_some]
  rw [times_eq _ _ p (by omega) (by omega) (by omega) (by omega) hp (by omega), times_neg _ _ (p - v) (by omega), times_eq _ _ p (by omega) (by omega) (by omega) (by omega) hp (by omega)]
  simp only [Option.bind_some]
  rw [if_neg (by decide)]
  have e1 : (max m m + 1) * p = p * m + p := by rw [show max m m = m from by omega, Int.add_mul, Int.mul_comm m p, Int.one_mul]
  have e2 : m * p = p * m := Int.mul_comm _ _
  have e3 : p * (m + 2) = p * m + 2 * p := by rw [Int.mul_add, Int.mul_comm p 2]
  rw [e1, e2, e3, Int.one_mul, Int.zero_mul, sum_plain _ (by simp) (by simp; omega) (by simp [tot0]; omega) (by simp [tot1]; omega)]
  simp [tot0, tot1]
  omega
theorem loop_fold (k : Nat) (p m : Int) (hp : 0 ≤ p) (hp2 : p ≤ 255) (hm : 0 ≤ m) (hm2 : m ≤ 4096) : cost_Loop.f (k + 5) p p m true = some (p * (m + 2) + (2 * max (m - 1) 0 + (max 1 m + 1)), p * m + (max (m - 1) 0 + 1)) := by
  have q1 : p * m ≤ 255 * 4096 := Int.mul_le_mul hp2 hm2 hm (by omega)
  have q2 : 0 ≤ p * m := Int.mul_nonneg hp hm
  have e1 : (max m m + 1) * p = p * m + p := by rw [show max m m = m from by omega, Int.add_mul, Int.mul_comm m p, Int.one_mul]
  have e2 : m * p = p * m := Int.mul_comm _ _
  have e3 : p * (m + 2) = p * m + 2 * p := by rw [Int.mul_add, Int.mul_comm p 2]
  have et : budget_Times.f 2 1 (m - 1) = some (2 * max (m - 1) 0, max (m - 1) 0) := by
    by_cases h : m - 1 ≤ 0
    · rw [times_neg _ _ _ h, show max (m - 1) 0 = 0 from by omega]; rfl
    · rw [times_eq _ _ _ (by omega) (by omega) (by omega) (by omega) (by omega) (by omega), show max (m - 1) 0 = m - 1 from by omega, Int.one_mul]
  unfold cost_Loop.f
  rw [node_eq, size1 (k + 1) 1 1 (by omega) (by omega) (by omega) (by omega), mx_eq, mx_eq, mn_eq, mn_eq]
  rw [show max p 0 = p from by omega, show min (max m 0) 4096 = m from by omega, show min p p = p from by omega, size1 (k + 1) m m hm hm2 hm hm2, wrap_id (by omega) (by omega), size2 k, size1 (k + 1) 1 m (by omega) (by omega) hm hm2]
  simp only [Option.bind_some]
  rw [times_eq _ _ p (by omega) (by omega) (by omega) (by omega) hp (by omega), times_neg _ _ (p - p) (by omega), times_eq _ _ p (by omega) (by omega) (by omega) (by omega) hp (by omega)]
  simp only [Option.bind_some]
  rw [if_pos trivial]
  rw [et]
  simp only [Option.bind_some, List.cons_append, List.nil_append]
  rw [if_pos (by simp), e1, e2, e3, Int.one_mul, Int.zero_mul, sum_plain _ (by simp) (by simp; omega) (by simp [tot0]; omega) (by simp [tot1]; omega)]
  simp [tot0, tot1]
  omega
theorem size1' (k : Nat) (hk : 5 ≤ k) (o m : Int) (ho : 0 ≤ o) (ho2 : o ≤ 4096) (hm : 0 ≤ m) (hm2 : m ≤ 4096) : cost_Size.f k o [m] = some (max o m + 1, o) := by
  obtain ⟨j, rfl⟩ : ∃ j, k = j + 4 := ⟨k - 4, by omega⟩
  exact size1 j o m ho ho2 hm hm2
theorem size2' (k : Nat) (hk : 5 ≤ k) : cost_Size.f k 1 [1, 1] = some (2, 1) := by
  obtain ⟨j, rfl⟩ : ∃ j, k = j + 5 := ⟨k - 5, by omega⟩
  exact size2 j
theorem loop_plain' (k : Nat) (hk : 5 ≤ k) (p v m : Int) (hp : 0 ≤ p) (hp2 : p ≤ 255) (hv : p ≤ v) (hv2 : v ≤ 300) (hm : 0 ≤ m) (hm2 : m ≤ 4096) : cost_Loop.f k p v m false = some (p * (m + 2), p * m) := by
  obtain ⟨j, rfl⟩ : ∃ j, k = j + 5 := ⟨k - 5, by omega⟩
  exact loop_plain j p v m hp hp2 hv hv2 hm hm2
theorem loop_fold' (k : Nat) (hk : 5 ≤ k) (p m : Int) (hp : 0 ≤ p) (hp2 : p ≤ 255) (hm : 0 ≤ m) (hm2 : m ≤ 4096) : cost_Loop.f k p p m true = some (p * (m + 2) + (2 * max (m - 1) 0 + (max 1 m + 1)), p * m + (max (m - 1) 0 + 1)) := by
  obtain ⟨j, rfl⟩ : ∃ j, k = j + 5 := ⟨k - 5, by omega⟩
  exact loop_fold j p m hp hp2 hm hm2
theorem parts_1 (p m : Int) (hp : 0 ≤ p) (hp2 : p ≤ 255) (hm : 0 ≤ m) (hm2 : m ≤ 4096) (d : Nat) : ∀ (k : Nat) (i : Int), d + 10 < k → 1 ≤ i → i + d = max m 1 →
    reredoslaw18_CostParts.l1 k p true m i (p * (m + 2)) (p * m) (p * (m + 2) + (2 * (i - 1) + (max 1 m + 1))) (p * m + ((i - 1) + 1)) = some true := by
  have q1 : p * m ≤ 255 * 4096 := Int.mul_le_mul hp2 hm2 hm (by omega)
  have q2 : 0 ≤ p * m := Int.mul_nonneg hp hm
  have e3 : p * (m + 2) = p * m + 2 * p := by rw [Int.mul_add, Int.mul_comm p 2]
  induction d with
  | zero =>
    intro k i hk hi0 hi
    obtain ⟨k, rfl⟩ : ∃ j, k = j + 1 := ⟨k - 1, by omega⟩
    simp only [reredoslaw18_CostParts.l1]
    rw [if_neg (by omega), if_pos trivial, wrap_id (by omega) (by omega), loop_plain' k (by omega) p p m hp hp2 (by omega) (by omega) hm hm2, loop_fold' k (by omega) p m hp hp2 hm hm2, loop_plain' k (by omega) p 300 m hp hp2 (by omega) (by omega) hm hm2]
    simp only [Option.bind_some, show i - 1 = max (m - 1) 0 from by omega]
    simp
  | succ d ih =>
    intro k i hk hi0 hi
    obtain ⟨k, rfl⟩ : ∃ j, k = j + 1 := ⟨k - 1, by omega⟩
    simp only [reredoslaw18_CostParts.l1]
    rw [if_pos (by omega), size2' k (by omega)]
    simp only [Option.bind_some]
    rw [e3, sum_plain _ (by simp) (by simp; omega) (by simp [tot0]; omega) (by simp [tot1]; omega), wrap_id (by omega) (by omega)]
    simp only [Option.bind_some]
    have := ih k (i + 1) (by omega) (by omega) (by omega)
    rw [e3] at this
    have t0 : tot0 [(⟨p * m + 2 * p + (2 * (i - 1) + (max 1 m + 1)), p * m + ((i - 1) + 1)⟩ : S26), ⟨2, 1⟩] = p * m + 2 * p + (2 * (i + 1 - 1) + (max 1 m + 1)) := by simp [tot0]; omega
    have t1 : tot1 [(⟨p * m + 2 * p + (2 * (i - 1) + (max 1 m + 1)), p * m + ((i - 1) + 1)⟩ : S26), ⟨2, 1⟩] = p * m + ((i + 1 - 1) + 1) := by simp [tot1]; omega
    rw [t0, t1]
    exact this
theorem parts_0 (p m : Int) (hp : 0 ≤ p) (hp2 : p ≤ 255) (hm : 0 ≤ m) (hm2 : m ≤ 4096) (d : Nat) : ∀ (k : Nat) (i : Int), d + 5000 < k → 0 ≤ i → i + d = p →
    reredoslaw18_CostParts.l0 k p true m i (i * (m + 2)) (i * m) = some true := by
  induction d with
  | zero =>
    intro k i hk hi0 hi
    obtain ⟨k, rfl⟩ : ∃ j, k = j + 1 := ⟨k - 1, by omega⟩
    obtain rfl : i = p := by omega
    have q1 : i * m ≤ 255 * 4096 := Int.mul_le_mul hp2 hm2 hm (by omega)
    have q2 : 0 ≤ i * m := Int.mul_nonneg hp hm
    have e3 : i * (m + 2) = i * m + 2 * i := by rw [Int.mul_add, Int.mul_comm i 2]
    simp only [reredoslaw18_CostParts.l0]
    rw [wrap_id (by omega) (by omega), if_neg (by omega), size1' k (by omega) 1 m (by omega) (by omega) hm hm2]
    simp only [Option.bind_some]
    rw [e3, sum_plain _ (by simp) (by simp; omega) (by simp [tot0]; omega) (by simp [tot1]; omega)]
    simp only [Option.bind_some]
    have := parts_1 i m hp hp2 hm hm2 (max m 1 - 1).toNat k 1 (by omega) (by omega) (by omega)
    rw [e3] at this
    have t0 : tot0 [(⟨i * m + 2 * i, i * m⟩ : S26), ⟨max 1 m + 1, 1⟩] = i * m + 2 * i + (2 * (1 - 1) + (max 1 m + 1)) := by simp [tot0]
    have t1 : tot1 [(⟨i * m + 2 * i, i * m⟩ : S26), ⟨max 1 m + 1, 1⟩] = i * m + ((1 - 1) + 1) := by simp [tot1]
    rw [t0, t1]
    exact this
  | succ d ih =>
    intro k i hk hi0 hi
    obtain ⟨k, rfl⟩ : ∃ j, k = j + 1 := ⟨k - 1, by omega⟩
    have q1 : i * m ≤ 255 * 4096 := Int.mul_le_mul (by omega) hm2 hm (by omega)
    have q2 : 0 ≤ i * m := Int.mul_nonneg hi0 hm
    have e3 : i * (m + 2) = i * m + 2 * i := by rw [Int.mul_add, Int.mul_comm i 2]
    have e4 : (i + 1) * (m + 2) = i * m + 2 * i + (m + 2) := by rw [Int.add_mul, e3, Int.one_mul]
    have e5 : (i + 1) * m = i * m + m := by rw [Int.add_mul, Int.one_mul]
    simp only [reredoslaw18_CostParts.l0]
    rw [wrap_id (a := p) (by omega) (by omega), if_pos (by omega), node_eq, size1' k (by omega) m m hm hm2 hm hm2]
    simp only [Option.bind_some]
    rw [e3, sum_plain _ (by simp) (by simp; omega) (by simp [tot0]; omega) (by simp [tot1]; omega), wrap_id (by omega) (by omega)]
    simp only [Option.bind_some]
    have := ih k (i + 1) (by omega) (by omega) (by omega)
    rw [e4, e5] at this
    have t0 : tot0 [(⟨i * m + 2 * i, i * m⟩ : S26), ⟨1, 0⟩, ⟨max m m + 1, m⟩] = i * m + 2 * i + (m + 2) := by simp [tot0]; omega
    have t1 : tot1 [(⟨i * m + 2 * i, i * m⟩ : S26), ⟨1, 0⟩, ⟨max m m + 1, m⟩] = i * m + m := by simp [tot1]
    rw [t0, t1]
    exact this
theorem CostParts : reredoslaw18_CostParts.Pure := by
  intro p n w0 w1
  have h0 := wf_u8 w0
  have h1 := wf_u16 w1
  obtain ⟨K, hK⟩ : ∃ K : Nat, 6000 < K := ⟨6001, by decide⟩
  refine ⟨K, ?_⟩
  obtain ⟨K, rfl⟩ : ∃ j, K = j + 5 := ⟨K - 5, by omega⟩
  unfold reredoslaw18_CostParts.f
  rw [shown18, tmod_nonneg h1.1, wrap_id (by omega) (by omega)]
  simp only [Option.bind_some]
  have := parts_0 p (n % 4097) h0.1 h0.2 (by omega) (by omega) p.toNat (K + 5) 0 (by omega) (by omega) (by omega)
  rw [Int.zero_mul, Int.zero_mul] at this
  exact this
end Go.Proofs.Ytphonhplgholmaa.Pure
