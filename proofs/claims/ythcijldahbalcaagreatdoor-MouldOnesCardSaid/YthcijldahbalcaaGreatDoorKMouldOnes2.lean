/- What the law MouldOnes rests on, part 3: a machine for the model's programs, proved sound. -/
import Derived.Test.YthcijldahbalcaaGreatDoorKMouldOnes1
import Derived.Lib.ParseIntBTie
import Derived.Lib.ParseIntBCases
import Derived.Lib.ItoaLen
import Derived.Lib.ItoaNum
import Derived.KernelRfl
set_option linter.unusedVariables false
set_option linter.unusedSimpArgs false
section
namespace Go.PM
theorem wi (n : Int) : IntKind.i64.wrap n = (n + 9223372036854775808) % 18446744073709551616 - 9223372036854775808 := by
  unfold IntKind.wrap
  have e1 : (2 ^ IntKind.i64.bits : Int) = 18446744073709551616 := by decide
  have e2 : (2 ^ (IntKind.i64.bits - 1) : Int) = 9223372036854775808 := by decide
  have e3 : IntKind.i64.signed = true := rfl
  rw [e1, e2, e3]
  dsimp only
  by_cases h : n % 18446744073709551616 ≥ 9223372036854775808
  · rw [if_pos (by simpa using h)]
    omega
  · rw [if_neg (by simpa using h)]
    omega
theorem wq (n : Int) (h0 : -9223372036854775808 ≤ n) (h1 : n ≤ 9223372036854775807) : IntKind.i64.wrap n = n := by
  rw [wi]
  omega
def Wd (n : Int) : Prop := -9223372036854775808 ≤ n ∧ n ≤ 9223372036854775807
theorem or_byte (x b : Int) (h0 : 0 ≤ b) (h1 : b < 256) : IntKind.i64.wrap ((BitVec.ofInt 64 (IntKind.i64.wrap (x * 256)) ||| BitVec.ofInt 64 b).toNat : Nat) = IntKind.i64.wrap (x * 256 + b) := by
  obtain ⟨B, rfl⟩ := Int.eq_ofNat_of_zero_le h0
  have hB : B < 256 := by omega
  have e1 : (BitVec.ofInt 64 (B : Int)).toNat = B := by
    rw [BitVec.ofInt_natCast, BitVec.toNat_ofNat]
    exact Nat.mod_eq_of_lt (by omega)
  obtain ⟨A, hA⟩ : ∃ A : Nat, (BitVec.ofInt 64 (IntKind.i64.wrap (x * 256))).toNat = 2 ^ 8 * A ∧ ∃ q : Int, ((2 ^ 8 * A : Nat) : Int) = x * 256 + q * 18446744073709551616 := by
    have e2 : (BitVec.ofInt 64 (IntKind.i64.wrap (x * 256))).toNat = (IntKind.i64.wrap (x * 256) % 18446744073709551616).toNat := by
      rw [BitVec.toNat_ofInt]
      rfl
    have hw : ∃ q : Int, IntKind.i64.wrap (x * 256) % 18446744073709551616 = x * 256 + q * 18446744073709551616 := by
      refine ⟨-((x * 256) / 18446744073709551616), ?_⟩
      rw [wi]
      omega
    obtain ⟨q, hq⟩ := hw
    have hp : 0 ≤ IntKind.i64.wrap (x * 256) % 18446744073709551616 := Int.emod_nonneg _ (by decide)
    refine ⟨(IntKind.i64.wrap (x * 256) % 18446744073709551616).toNat / 256, ?_, q, ?_⟩
    · rw [e2]
      omega
    · omega
  obtain ⟨hA, q, hq⟩ := hA
  rw [BitVec.toNat_or, e1, hA, ← Nat.two_pow_add_eq_or_of_lt (by omega : B < 2 ^ 8) A]
  have e3 : ((2 ^ 8 * A + B : Nat) : Int) = x * 256 + B + q * 18446744073709551616 := by
    rw [Int.natCast_add, hq]; omega
  rw [e3, wi, wi]
  omega
def putL (x : Int) : Nat → List Int
  | 0 => []
  | n + 1 => putL (x / 256) n ++ [x % 256]
theorem putL_len (x : Int) (n : Nat) : (putL x n).length = n := by
  induction n generalizing x with
  | zero => rfl
  | succ n ih => simp [putL, ih]
theorem putL_byte (x : Int) (n : Nat) : ∀ b ∈ putL x n, 0 ≤ b ∧ b < 256 := by
  induction n generalizing x with
  | zero => intro b h; simp [putL] at h
  | succ n ih =>
    intro b h
    simp only [putL, List.mem_append, List.mem_singleton] at h
    rcases h with h | h
    · exact ih _ b h
    · subst h; omega
theorem putL_front (x : Int) (i : Nat) : putL x (i + 1) = (x / 256 ^ i % 256) :: putL x i := by
  induction i generalizing x with
  | zero => simp [putL]
  | succ i ih =>
    have h1 : putL x (i + 1 + 1) = putL (x / 256) (i + 1) ++ [x % 256] := rfl
    have h2 : putL x (i + 1) = putL (x / 256) i ++ [x % 256] := rfl
    rw [h1, ih, h2, List.cons_append]
    congr 2
    rw [Int.pow_succ', Int.ediv_ediv_of_nonneg (by decide)]
def getV : List Int → Int
  | [] => 0
  | b :: t => t.foldl (fun a c => IntKind.i64.wrap (a * 256 + c)) (IntKind.i8.wrap b)
theorem getV_snoc (l : List Int) (b : Int) (h : l ≠ []) : getV (l ++ [b]) = IntKind.i64.wrap (getV l * 256 + b) := by
  cases l with
  | nil => exact absurd rfl h
  | cons c t => simp [getV, List.foldl_append]
def fitN (n : Nat) (v : Int) : Prop := -(128 * 256 ^ (n - 1)) ≤ v ∧ v < 128 * 256 ^ (n - 1)
theorem i8_b (b : Int) (h0 : 0 ≤ b) (h1 : b < 256) : -128 ≤ IntKind.i8.wrap b ∧ IntKind.i8.wrap b < 128 ∧ IntKind.i8.wrap b % 256 = b := by
  simp only [IntKind.wrap, IntKind.bits, IntKind.signed]
  simp
  split <;> omega
theorem i8_w (v : Int) (h0 : -128 ≤ v) (h1 : v < 128) : IntKind.i8.wrap (v % 256) = v := by
  simp only [IntKind.wrap, IntKind.bits, IntKind.signed]
  simp
  split <;> omega
theorem get_put : ∀ (n : Nat) (v : Int), fitN (n + 1) v → Wd v → getV (putL v (n + 1)) = v
  | 0, v, h, _ => by
    unfold fitN at h
    have : putL v 1 = [v % 256] := by simp [putL]
    rw [this]
    have h2 : -128 ≤ v ∧ v < 128 := by simpa using h
    exact i8_w v h2.1 h2.2
  | n + 1, v, h, hw => by
    have hne : putL (v / 256) (n + 1) ≠ [] := by
      intro he
      have := putL_len (v / 256) (n + 1)
      rw [he] at this
      simp at this
    have hf : fitN (n + 1) (v / 256) := by
      unfold fitN at h ⊢
      have e : n + 1 + 1 - 1 = n + 1 := by omega
      have e2 : n + 1 - 1 = n := by omega
      rw [e, Int.pow_succ] at h
      rw [e2]
      generalize (256 : Int) ^ n = p at h ⊢
      omega
    unfold Wd at hw
    have ih := get_put n (v / 256) hf (by unfold Wd; omega)
    show getV (putL (v / 256) (n + 1) ++ [v % 256]) = v
    rw [getV_snoc _ _ hne, ih]
    have : v / 256 * 256 + v % 256 = v := by omega
    rw [this]
    exact wq _ hw.1 hw.2
theorem fit_wd (m : Nat) (v : Int) (h1 : 1 ≤ m) (h8 : m ≤ 8) (h : fitN m v) : Wd v := by
  have hm : m = 1 ∨ m = 2 ∨ m = 3 ∨ m = 4 ∨ m = 5 ∨ m = 6 ∨ m = 7 ∨ m = 8 := by omega
  unfold fitN at h
  unfold Wd
  rcases hm with rfl | rfl | rfl | rfl | rfl | rfl | rfl | rfl <;> simp at h <;> omega
theorem put_get : ∀ (n : Nat) (c : List Int), c.length = n + 1 → (∀ b ∈ c, 0 ≤ b ∧ b < 256) → n + 1 ≤ 8 → fitN (n + 1) (getV c) ∧ putL (getV c) (n + 1) = c
  | 0, c, hl, hb, _ => by
    obtain ⟨b, rfl⟩ := List.length_eq_one_iff.1 hl
    have h := hb b (by simp)
    have hv : getV [b] = IntKind.i8.wrap b := rfl
    have hw := i8_b b h.1 h.2
    rw [hv]
    refine ⟨by unfold fitN; simp; omega, ?_⟩
    simp [putL, hw.2.2]
  | n + 1, c, hl, hb, h8 => by
    have hne : c ≠ [] := by intro hq; rw [hq] at hl; simp at hl
    have hsp := List.dropLast_concat_getLast hne
    obtain ⟨c', hc'⟩ : ∃ c', c.dropLast = c' := ⟨_, rfl⟩
    obtain ⟨b, hbb⟩ : ∃ b, c.getLast hne = b := ⟨_, rfl⟩
    rw [hc', hbb] at hsp
    have hl' : c'.length = n + 1 := by
      have := congrArg List.length hsp
      rw [List.length_append, hl] at this
      simp at this
      omega
    have hne' : c' ≠ [] := by intro hq; rw [hq] at hl'; simp at hl'
    have hb' := hb b (by rw [← hsp]; simp)
    obtain ⟨f1, f2⟩ := put_get n c' hl' (fun x hx => hb x (by rw [← hsp]; simp [hx])) (by omega)
    have hfit : fitN (n + 1 + 1) (getV c' * 256 + b) := by
      unfold fitN at f1 ⊢
      have e : n + 1 + 1 - 1 = n + 1 := by omega
      have e2 : n + 1 - 1 = n := by omega
      rw [e2] at f1
      rw [e, Int.pow_succ]
      generalize (256 : Int) ^ n = p at f1 ⊢
      omega
    have hwd := fit_wd (n + 1 + 1) _ (by omega) h8 hfit
    unfold Wd at hwd
    have hv : getV c = getV c' * 256 + b := by
      rw [← hsp, getV_snoc c' b hne']
      exact wq _ hwd.1 hwd.2
    rw [hv]
    refine ⟨hfit, ?_⟩
    show putL ((getV c' * 256 + b) / 256) (n + 1) ++ [(getV c' * 256 + b) % 256] = c
    rw [show (getV c' * 256 + b) / 256 = getV c' by omega, show (getV c' * 256 + b) % 256 = b by omega, f2, hsp]
def layL (n : Nat) (l : List Int) : List Int := l.flatMap fun x => putL x n
theorem layL_cons (n : Nat) (x : Int) (l : List Int) : layL n (x :: l) = putL x n ++ layL n l := rfl
theorem layL_len (n : Nat) (l : List Int) : (layL n l).length = l.length * n := by
  induction l with
  | nil => simp [layL]
  | cons x l ih =>
    rw [layL_cons, List.length_append, putL_len, ih, List.length_cons, Nat.succ_mul]
    omega
theorem layL_byte (n : Nat) (l : List Int) : ∀ b ∈ layL n l, 0 ≤ b ∧ b < 256 := by
  intro b h
  obtain ⟨x, _, hb⟩ := List.mem_flatMap.1 h
  exact putL_byte x n b hb
def chunkL (n : Nat) : Nat → List Int → List Int
  | 0, _ => []
  | q + 1, bs => getV (bs.take n) :: chunkL n q (bs.drop n)
theorem chunk_len (n q : Nat) (bs : List Int) : (chunkL n q bs).length = q := by
  induction q generalizing bs with
  | zero => rfl
  | succ q ih => simp [chunkL, ih]
theorem chunk_at (n q : Nat) (bs : List Int) (i : Nat) (h : i < q) : (chunkL n q bs)[i]? = some (getV ((bs.drop (i * n)).take n)) := by
  induction q generalizing bs i with
  | zero => omega
  | succ q ih =>
    cases i with
    | zero => simp [chunkL]
    | succ i =>
      simp only [chunkL, List.getElem?_cons_succ]
      rw [ih (bs.drop n) i (by omega), List.drop_drop]
      congr 4
      rw [Nat.succ_mul]
      omega
theorem chunk_ok (n : Nat) (h1 : 1 ≤ n) (h8 : n ≤ 8) : ∀ (q : Nat) (bs : List Int), bs.length = q * n → (∀ b ∈ bs, 0 ≤ b ∧ b < 256) → layL n (chunkL n q bs) = bs ∧ ∀ x ∈ chunkL n q bs, Wd x ∧ fitN n x
  | 0, bs, hl, _ => by
    have : bs = [] := List.eq_nil_of_length_eq_zero (by omega)
    subst this
    exact ⟨rfl, fun x hx => by simp [chunkL] at hx⟩
  | q + 1, bs, hl, hb => by
    have hm : (q + 1) * n = q * n + n := Nat.succ_mul q n
    obtain ⟨m, rfl⟩ : ∃ m, n = m + 1 := ⟨n - 1, by omega⟩
    have ht : (bs.take (m + 1)).length = m + 1 := by rw [List.length_take]; omega
    obtain ⟨f1, f2⟩ := put_get m (bs.take (m + 1)) ht (fun b hx => hb b (List.mem_of_mem_take hx)) h8
    obtain ⟨g1, g2⟩ := chunk_ok (m + 1) h1 h8 q (bs.drop (m + 1)) (by rw [List.length_drop]; omega) (fun b hx => hb b (List.mem_of_mem_drop hx))
    constructor
    · show putL (getV (bs.take (m + 1))) (m + 1) ++ layL (m + 1) (chunkL (m + 1) q (bs.drop (m + 1))) = bs
      rw [f2, g1, List.take_append_drop]
    · intro x hx
      simp only [chunkL, List.mem_cons] at hx
      rcases hx with rfl | hx
      · exact ⟨fit_wd _ _ h1 h8 f1, f1⟩
      · exact g2 x hx
theorem chunk_lay (n : Nat) (h1 : 1 ≤ n) : ∀ (l : List Int), (∀ x ∈ l, Wd x ∧ fitN n x) → chunkL n l.length (layL n l) = l
  | [], _ => rfl
  | x :: l, h => by
    obtain ⟨m, rfl⟩ : ∃ m, n = m + 1 := ⟨n - 1, by omega⟩
    have hx := h x (by simp)
    show getV ((putL x (m + 1) ++ layL (m + 1) l).take (m + 1)) :: chunkL (m + 1) l.length ((putL x (m + 1) ++ layL (m + 1) l).drop (m + 1)) = x :: l
    rw [List.take_left' (putL_len x (m + 1)), List.drop_left' (putL_len x (m + 1)), get_put m x hx.2 hx.1, chunk_lay (m + 1) h1 l (fun y hy => h y (by simp [hy]))]
def bI (s : List UInt8) : List Int := s.map fun c => (c.toNat : Int)
theorem bI_len (s : List UInt8) : (bI s).length = s.length := by simp [bI]
theorem bI_byte (s : List UInt8) : ∀ b ∈ bI s, 0 ≤ b ∧ b < 256 := by
  intro b h
  obtain ⟨c, _, rfl⟩ := List.mem_map.1 h
  have := c.toNat_lt
  omega
def bU (l : List Int) : List UInt8 := l.map fun n => UInt8.ofNat n.toNat
theorem bI_U (l : List Int) (h : ∀ b ∈ l, 0 ≤ b ∧ b < 256) : bI (bU l) = l := by
  unfold bI bU
  rw [List.map_map]
  conv => rhs; rw [← List.map_id l]
  apply List.map_congr_left
  intro b hb
  have := h b hb
  simp [UInt8.toNat_ofNat']
  omega
theorem bU_I (s : List UInt8) : bU (bI s) = s := by
  unfold bI bU
  rw [List.map_map]
  conv => rhs; rw [← List.map_id s]
  apply List.map_congr_left
  intro c _
  simp
theorem bI_inj {s t : List UInt8} (h : bI s = bI t) : s = t := by
  have := congrArg bU h
  rwa [bU_I, bU_I] at this
end Go.PM
end
section
namespace Go.PM
abbrev Tx := List UInt8
def dig (c : UInt8) : Nat := c.toNat - 48
def isD (c : UInt8) : Bool := decide (48 ≤ c.toNat) && decide (c.toNat ≤ 57)
def allD (s : Tx) : Bool := s.all isD
def nv (s : Tx) : Nat := s.foldl (fun a c => 10 * a + dig c) 0
def chD (n : Nat) : UInt8 := UInt8.ofNat (48 + n)
theorem isD_iff (c : UInt8) : isD c = true ↔ 48 ≤ c.toNat ∧ c.toNat ≤ 57 := by
  unfold isD; simp
theorem chD_toNat {n : Nat} (h : n < 10) : (chD n).toNat = 48 + n := by
  unfold chD
  simp [UInt8.toNat_ofNat']
  omega
theorem dig_chD {n : Nat} (h : n < 10) : dig (chD n) = n := by
  unfold dig
  rw [chD_toNat h]
  omega
theorem isD_chD {n : Nat} (h : n < 10) : isD (chD n) = true := by
  rw [isD_iff, chD_toNat h]
  omega
theorem chD_dig {c : UInt8} (h : isD c = true) : chD (dig c) = c := by
  rw [isD_iff] at h
  apply UInt8.toNat_inj.1
  rw [chD_toNat (by unfold dig; omega)]
  unfold dig
  omega
theorem dig_lt {c : UInt8} (h : isD c = true) : dig c < 10 := by
  rw [isD_iff] at h
  unfold dig
  omega
theorem nv_snoc (s : Tx) (c : UInt8) : nv (s ++ [c]) = 10 * nv s + dig c := by
  unfold nv
  rw [List.foldl_append]
  rfl
theorem foldl_nv (s : Tx) (a : Nat) : s.foldl (fun a c => 10 * a + dig c) a = a * 10 ^ s.length + nv s := by
  induction s generalizing a with
  | nil => simp [nv]
  | cons c s ih =>
    unfold nv
    simp only [List.foldl_cons, List.length_cons]
    rw [ih, ih (10 * 0 + dig c), Nat.pow_succ, Nat.add_mul, Nat.mul_zero, Nat.zero_add, ← Nat.add_assoc, Nat.mul_comm 10 a, Nat.mul_assoc, Nat.mul_comm 10]
theorem nv_cons (c : UInt8) (s : Tx) : nv (c :: s) = dig c * 10 ^ s.length + nv s := by
  have := foldl_nv s (10 * 0 + dig c)
  rw [Nat.mul_zero, Nat.zero_add] at this
  rw [← this]
  simp [nv]
theorem nv_nil : nv [] = 0 := rfl
theorem allD_cons {c : UInt8} {s : Tx} : allD (c :: s) = true ↔ isD c = true ∧ allD s = true := by
  unfold allD
  rw [List.all_cons, Bool.and_eq_true]
theorem allD_snoc {c : UInt8} {s : Tx} : allD (s ++ [c]) = true ↔ allD s = true ∧ isD c = true := by
  unfold allD
  rw [List.all_append, Bool.and_eq_true]
  simp
theorem nv_lt : ∀ (s : Tx), allD s = true → nv s < 10 ^ s.length
  | [], _ => by decide
  | c :: s, h => by
    obtain ⟨h1, h2⟩ := allD_cons.1 h
    have := nv_lt s h2
    have hd := dig_lt h1
    rw [nv_cons, List.length_cons, Nat.pow_succ, Nat.mul_comm _ 10]
    have : dig c * 10 ^ s.length ≤ 9 * 10 ^ s.length := Nat.mul_le_mul_right _ (by omega)
    omega
theorem nv_inj : ∀ (s t : Tx), allD s = true → allD t = true → s.length = t.length → nv s = nv t → s = t
  | [], t, _, _, hl, _ => (List.eq_nil_of_length_eq_zero hl.symm).symm
  | c :: s, [], _, _, hl, _ => by cases hl
  | c :: s, d :: t, h, k, hl, he => by
    obtain ⟨h1, h2⟩ := allD_cons.1 h
    obtain ⟨k1, k2⟩ := allD_cons.1 k
    have hl' : s.length = t.length := by simpa using hl
    rw [nv_cons, nv_cons, ← hl'] at he
    have a1 := nv_lt s h2
    have a2 := nv_lt t k2
    rw [← hl'] at a2
    have hcd : dig c = dig d := by
      apply Decidable.byContradiction
      intro hne
      rcases Nat.lt_or_gt_of_ne hne with hlt | hlt
      · have : (dig c + 1) * 10 ^ s.length ≤ dig d * 10 ^ s.length := Nat.mul_le_mul_right _ hlt
        rw [Nat.succ_mul] at this
        omega
      · have : (dig d + 1) * 10 ^ s.length ≤ dig c * 10 ^ s.length := Nat.mul_le_mul_right _ hlt
        rw [Nat.succ_mul] at this
        omega
    rw [hcd] at he
    have := nv_inj s t h2 k2 hl' (by omega)
    rw [← chD_dig h1, ← chD_dig k1, hcd, this]
def natT (n : Nat) : Tx := if n < 10 then [chD n] else natT (n / 10) ++ [chD (n % 10)]
termination_by n
theorem natT_lt {n : Nat} (h : n < 10) : natT n = [chD n] := by
  rw [natT, if_pos h]
theorem natT_ge {n : Nat} (h : 10 ≤ n) : natT n = natT (n / 10) ++ [chD (n % 10)] := by
  rw [natT, if_neg (by omega)]
theorem natT_all (n : Nat) : allD (natT n) = true ∧ nv (natT n) = n ∧ natT n ≠ [] ∧ (0 < n → (natT n).head? ≠ some 48) := by
  induction n using Nat.strongRecOn with
  | ind n ih =>
    by_cases h : n < 10
    · rw [natT_lt h]
      refine ⟨?_, ?_, by simp, ?_⟩
      · unfold allD
        simp [isD_chD h]
      · unfold nv
        simp [dig_chD h]
      · intro hn
        simp
        intro hc
        have := congrArg UInt8.toNat hc
        rw [chD_toNat h] at this
        simp at this
        omega
    · obtain ⟨i1, i2, i3, i4⟩ := ih (n / 10) (by omega)
      rw [natT_ge (by omega)]
      refine ⟨?_, ?_, by simp, ?_⟩
      · rw [allD_snoc]
        exact ⟨i1, isD_chD (by omega)⟩
      · rw [nv_snoc, i2, dig_chD (by omega)]
        omega
      · intro _
        have i4 := i4 (by omega)
        cases hq : natT (n / 10) with
        | nil => exact absurd hq i3
        | cons x r =>
          rw [hq] at i4
          exact i4
theorem natT_len (n : Nat) (k : Nat) (hk : 1 ≤ k) : (natT n).length ≤ k ↔ n < 10 ^ k := by
  induction n using Nat.strongRecOn generalizing k with
  | ind n ih =>
    by_cases h : n < 10
    · rw [natT_lt h]
      have : 10 ^ 1 ≤ 10 ^ k := Nat.pow_le_pow_right (by decide) hk
      simp
      omega
    · rw [natT_ge (by omega), List.length_append, List.length_singleton]
      by_cases hk1 : k = 1
      · subst hk1
        have : (natT (n / 10)).length ≠ 0 := fun h0 => (natT_all (n / 10)).2.2.1 (List.eq_nil_of_length_eq_zero h0)
        constructor
        · intro hx; omega
        · intro hx; rw [Nat.pow_one] at hx; omega
      · obtain ⟨j, rfl⟩ : ∃ j, k = j + 1 := ⟨k - 1, by omega⟩
        have := ih (n / 10) (by omega) j (by omega)
        rw [Nat.pow_succ]
        omega
theorem natT_nv (s : Tx) (h : allD s = true) (hn : s ≠ []) (h0 : s.head? = some 48 → s = [48]) : natT (nv s) = s := by
  have hx : ∀ (m : Nat) (s : Tx), s.length = m → allD s = true → s ≠ [] → (s.head? = some 48 → s = [48]) → natT (nv s) = s := by
    intro m
    induction m with
    | zero => intro s hm _ hn; exact absurd (List.eq_nil_of_length_eq_zero hm) hn
    | succ m ih =>
      intro s hm h hn h0
      have hsp := List.dropLast_concat_getLast hn
      obtain ⟨r, hr⟩ : ∃ r, s.dropLast = r := ⟨_, rfl⟩
      obtain ⟨c, hc⟩ : ∃ c, s.getLast hn = c := ⟨_, rfl⟩
      rw [hr, hc] at hsp
      rw [← hsp] at h
      obtain ⟨g1, g2⟩ := allD_snoc.1 h
      have hd := dig_lt g2
      cases r with
      | nil =>
        have hs : s = [c] := by rw [← hsp]; rfl
        subst hs
        have e : nv [c] = dig c := by unfold nv; simp
        rw [e, natT_lt hd, chD_dig g2]
      | cons x r =>
        have hx0 : x ≠ 48 := by
          intro e
          subst e
          have := h0 (by rw [← hsp]; rfl)
          rw [← hsp] at this
          have := congrArg List.length this
          simp at this
        have hl : (x :: r).length = m := by
          have := congrArg List.length hsp
          simp at this ⊢
          omega
        have hi := ih (x :: r) hl g1 (by simp) (by intro e; simp at e; exact absurd e hx0)
        have hpos : 0 < nv (x :: r) := by
          obtain ⟨q1, _⟩ := allD_cons.1 g1
          rw [nv_cons]
          have : 0 < dig x := by
            rw [isD_iff] at q1
            unfold dig
            have : x.toNat ≠ 48 := fun e => hx0 (UInt8.toNat_inj.1 e)
            omega
          have : 0 < dig x * 10 ^ r.length := Nat.mul_pos this (Nat.pow_pos (by decide))
          omega
        rw [← hsp, nv_snoc, natT_ge (by omega), show (10 * nv (x :: r) + dig c) / 10 = nv (x :: r) by omega, show (10 * nv (x :: r) + dig c) % 10 = dig c by omega, hi, chD_dig g2]
  exact hx _ s rfl h hn h0
def bareF : Tx → Tx
  | [] => [48]
  | [c] => [c]
  | c :: d :: s => if c = 48 then bareF (d :: s) else c :: d :: s
theorem bareF_eq : ∀ (s : Tx), allD s = true → bareF s = natT (nv s)
  | [], _ => by rw [nv_nil, natT_lt (by decide)]; rfl
  | [c], h => by
    have h1 := (allD_cons.1 h).1
    have e : nv [c] = dig c := by unfold nv; simp
    rw [e, natT_lt (dig_lt h1), chD_dig h1]
    rfl
  | c :: d :: s, h => by
    unfold bareF
    by_cases hc : c = 48
    · rw [if_pos hc, bareF_eq (d :: s) (allD_cons.1 h).2, nv_cons c (d :: s), hc]
      have : dig 48 = 0 := by decide
      rw [this, Nat.zero_mul, Nat.zero_add]
    · rw [if_neg hc]
      exact (natT_nv _ h (by simp) (by intro e; simp at e; exact absurd e hc)).symm
def moreL : Tx → Tx → Int
  | [], _ => 0
  | _ :: _, [] => 0
  | a :: s, b :: t => if a.toNat < b.toNat then -1 else if a.toNat > b.toNat then 1 else moreL s t
def cmpN (a b : Nat) : Int := if a < b then -1 else if a > b then 1 else 0
theorem moreL_eq : ∀ (s t : Tx), allD s = true → allD t = true → s.length = t.length → moreL s t = cmpN (nv s) (nv t)
  | [], t, _, _, hl => by
    obtain rfl := (List.eq_nil_of_length_eq_zero hl.symm)
    rfl
  | c :: s, [], _, _, hl => by cases hl
  | c :: s, d :: t, h, k, hl => by
    obtain ⟨h1, h2⟩ := allD_cons.1 h
    obtain ⟨k1, k2⟩ := allD_cons.1 k
    have hl' : s.length = t.length := by simpa using hl
    have a1 := nv_lt s h2
    have a2 := nv_lt t k2
    rw [← hl'] at a2
    have ih := moreL_eq s t h2 k2 hl'
    unfold moreL
    rw [nv_cons, nv_cons, ← hl', ih]
    rw [isD_iff] at h1 k1
    by_cases hlt : c.toNat < d.toNat
    · rw [if_pos hlt]
      have : (dig c + 1) * 10 ^ s.length ≤ dig d * 10 ^ s.length := Nat.mul_le_mul_right _ (by unfold dig; omega)
      rw [Nat.succ_mul] at this
      unfold cmpN
      rw [if_pos (by omega)]
    · rw [if_neg hlt]
      by_cases hgt : c.toNat > d.toNat
      · rw [if_pos hgt]
        have : (dig d + 1) * 10 ^ s.length ≤ dig c * 10 ^ s.length := Nat.mul_le_mul_right _ (by unfold dig; omega)
        rw [Nat.succ_mul] at this
        unfold cmpN
        rw [if_neg (by omega), if_pos (by omega)]
      · rw [if_neg hgt]
        have : dig c = dig d := by unfold dig; omega
        rw [this]
        unfold cmpN
        congr 1
        · simp
        · congr 1
          simp
def intT (x : Int) : Tx := if x < 0 then 45 :: natT (-x).toNat else natT x.toNat
def tv : Tx → Int
  | [] => 0
  | c :: s => if c = 45 then -(nv s : Int) else (nv (c :: s) : Int)
theorem natT_head (n : Nat) (c : UInt8) (s : Tx) (h : natT n = c :: s) : isD c = true := by
  have := (natT_all n).1
  rw [h] at this
  exact (allD_cons.1 this).1
theorem tv_natT (n : Nat) : tv (natT n) = n := by
  cases h : natT n with
  | nil => exact absurd h (natT_all n).2.2.1
  | cons c s =>
    have h1 := natT_head n c s h
    show (if c = 45 then -(nv s : Int) else (nv (c :: s) : Int)) = n
    rw [if_neg (by rintro rfl; revert h1; decide), ← h, (natT_all n).2.1]
theorem tv_intT (x : Int) : tv (intT x) = x := by
  unfold intT
  by_cases h : x < 0
  · rw [if_pos h]
    show (if (45 : UInt8) = 45 then -(nv (natT (-x).toNat) : Int) else (nv (45 :: natT (-x).toNat) : Int)) = x
    rw [if_pos rfl, (natT_all _).2.1]
    omega
  · rw [if_neg h, tv_natT]
    omega
end Go.PM
end
section
namespace Go.PM
section
variable {C : Cfg} {rec : Req → Option Res} {f : FuncId}
structure WC (C : Cfg) (rec : Req → Option Res) (f : FuncId) (p : List Bool) (l : Live) (c : Code) (s : St) (Q : Ex → St → Prop) : Prop where
  out : ∃ e s', C.runC rec f p l c s = some (e, s') ∧ Q e s'
def onw (Q : Ex → St → Prop) (N : St → Prop) : Ex → St → Prop
  | .normal, s => N s
  | e, s => Q e s
theorem wc_skip {p l s} {Q : Ex → St → Prop} (h : Q .normal s) : WC C rec f p l .skip s Q := ⟨⟨_, _, rfl, h⟩⟩
theorem wc_ret {p l s} {Q : Ex → St → Prop} (h : Q .ret s) : WC C rec f p l .ret s Q := ⟨⟨_, _, rfl, h⟩⟩
theorem wc_exit {p l s id} {Q : Ex → St → Prop} (h : Q (.exit id) s) : WC C rec f p l (.exit id) s Q := ⟨⟨_, _, rfl, h⟩⟩
theorem wc_label {p l s t} {Q : Ex → St → Prop} (h : Q .normal s) : WC C rec f p l (.label t) s Q := ⟨⟨_, _, rfl, h⟩⟩
theorem wc_scope {p l c s} {Q : Ex → St → Prop} (h : WC C rec f (false :: p) l c s Q) : WC C rec f p l (.scope c) s Q := by
  obtain ⟨⟨e, s', h1, h2⟩⟩ := h
  exact ⟨⟨e, s', by unfold Cfg.runC; exact h1, h2⟩⟩
theorem wc_seq {p l a b s} {Q : Ex → St → Prop} (h : WC C rec f (false :: p) { l with normal := liveIn b l } a s (onw Q fun s => WC C rec f (true :: p) l b s Q)) : WC C rec f p l (.seq a b) s Q := by
  obtain ⟨⟨e, s', h1, h2⟩⟩ := h
  cases e with
  | normal =>
    obtain ⟨⟨e2, s2, h3, h4⟩⟩ := h2
    refine ⟨⟨e2, s2, ?_, h4⟩⟩
    unfold Cfg.runC
    rw [h1]
    exact h3
  | exit id =>
    refine ⟨⟨_, s', ?_, h2⟩⟩
    unfold Cfg.runC
    rw [h1]
  | ret =>
    refine ⟨⟨_, s', ?_, h2⟩⟩
    unfold Cfg.runC
    rw [h1]
theorem wc_cond {p l c a b s} {t : Bool} {Q : Ex → St → Prop} (h : evalOp C s.env c = some (.bool t)) (ha : t = true → WC C rec f (false :: p) l a s Q) (hb : t = false → WC C rec f (true :: p) l b s Q) : WC C rec f p l (.cond c a b) s Q := by
  cases t with
  | true =>
    obtain ⟨⟨e, s', h1, h2⟩⟩ := ha rfl
    refine ⟨⟨e, s', ?_, h2⟩⟩
    unfold Cfg.runC
    rw [h]
    exact h1
  | false =>
    obtain ⟨⟨e, s', h1, h2⟩⟩ := hb rfl
    refine ⟨⟨e, s', ?_, h2⟩⟩
    unfold Cfg.runC
    rw [h]
    exact h1
def onx (id : Nat) (Q : Ex → St → Prop) : Ex → St → Prop
  | .exit j, s => if j = id then Q .normal s else Q (.exit j) s
  | e, s => Q e s
theorem wc_block {p l id c s} {Q : Ex → St → Prop} (h : WC C rec f (false :: p) { l with exits := (id, l.normal) :: l.exits } c s (onx id Q)) : WC C rec f p l (.block id c) s Q := by
  obtain ⟨⟨e, s', h1, h2⟩⟩ := h
  cases e with
  | normal =>
    refine ⟨⟨_, s', ?_, h2⟩⟩
    unfold Cfg.runC
    rw [h1]
  | ret =>
    refine ⟨⟨_, s', ?_, h2⟩⟩
    unfold Cfg.runC
    rw [h1]
  | exit j =>
    unfold onx at h2
    dsimp only at h2
    by_cases hj : j = id
    · rw [if_pos hj] at h2
      refine ⟨⟨_, s', ?_, h2⟩⟩
      unfold Cfg.runC
      rw [h1]
      exact if_pos hj
    · rw [if_neg hj] at h2
      refine ⟨⟨_, s', ?_, h2⟩⟩
      unfold Cfg.runC
      rw [h1]
      exact if_neg hj
theorem wc_loop {p l c s} {Q : Ex → St → Prop} (ks : List Nat) {vals hs e vals' hs'} (ke : List Nat) (hk : liveIn (.loop c) l = ks) (hp : pack s.base (ks.map s.env) s.heap = some (vals, hs))
    (hr : rec (.loop f p s.base vals hs) = some (.left e vals' hs')) (he : Ex.live l e = ke) (hQ : Q e { env := envOf ke vals', heap := heapOf hs', top := hs'.length, base := s.base }) : WC C rec f p l (.loop c) s Q := by
  subst hk he
  refine ⟨⟨_, _, ?_, hQ⟩⟩
  unfold Cfg.runC
  dsimp only
  rw [hp]
  dsimp only
  rw [hr]
structure WL (C : Cfg) (rec : Req → Option Res) (ops : Array Oper) (i : Nat) (os : List Oper) (s : St) (Q : St → Prop) : Prop where
  out : ops.toList.drop i = os → ∃ s', C.runOps rec ops (List.range' i os.length) s = some s' ∧ Q s'
structure WK (C : Cfg) (rec : Req → Option Res) (ops : Array Oper) (i : Nat) (os : List Oper) (s : St) (Q : St → Prop) : Prop where
  out : ops.toList.drop i = os → ∃ s', C.runOpsD rec ops (List.range' i os.length) s = some s' ∧ Q s'
def RQ (Q : Ex → St → Prop) (T : Nat) (s : St) : Prop := Q .normal { s with top := T }
theorem wl_nil {ops i E H T B T'} {Q : Ex → St → Prop} (h : Q .normal ⟨E, H, T', B⟩) : WL C rec ops i [] ⟨E, H, T, B⟩ (RQ Q T') := ⟨fun _ => ⟨_, rfl, h⟩⟩
theorem wk_nil {ops i E H T B T'} {Q : Ex → St → Prop} (h : Q .normal ⟨E, H, T', B⟩) : WK C rec ops i [] ⟨E, H, T, B⟩ (RQ Q T') := ⟨fun _ => ⟨_, rfl, h⟩⟩
theorem at_drop {ops : Array Oper} {i : Nat} {o : Oper} {os : List Oper} (h : ops.toList.drop i = o :: os) : ops[i]? = some o ∧ ops.toList.drop (i + 1) = os := by
  constructor
  · have := congrArg (·[0]?) h
    simpa using this
  · have := congrArg List.tail h
    simpa [List.tail_drop] using this
theorem wl_v {ops i o os E H T B d v} {Q : St → Prop} (hd : o.dst = d) (hg : guardD ops E o = some true) (hs : C.stepD rec (T + i * wide) (evalOp C E) H o = some (v, [])) (h : WL C rec ops (i + 1) os ⟨Env.set E d v, H, T, B⟩ Q) : WL C rec ops i (o :: os) ⟨E, H, T, B⟩ Q := by
  refine ⟨fun hi => ?_⟩
  obtain ⟨ho, hi'⟩ := at_drop hi
  obtain ⟨s', h1, h2⟩ := h.out hi'
  refine ⟨s', ?_, h2⟩
  subst hd
  show C.runOps rec ops (i :: List.range' (i + 1) os.length) _ = _
  unfold Cfg.runOps Cfg.runOp
  rw [ho]
  dsimp only
  rw [hg]
  dsimp only
  rw [hs]
  exact h1
theorem wl_e {ops i o os E H T B d v} {e : Eff} {Q : St → Prop} (hd : o.dst = d) (hg : guardD ops E o = some true) (hs : C.stepD rec (T + i * wide) (evalOp C E) H o = some (v, e)) (h : WL C rec ops (i + 1) os ⟨Env.set E d v, Heap.put H e, T, B⟩ Q) : WL C rec ops i (o :: os) ⟨E, H, T, B⟩ Q := by
  refine ⟨fun hi => ?_⟩
  obtain ⟨ho, hi'⟩ := at_drop hi
  obtain ⟨s', h1, h2⟩ := h.out hi'
  refine ⟨s', ?_, h2⟩
  subst hd
  show C.runOps rec ops (i :: List.range' (i + 1) os.length) _ = _
  unfold Cfg.runOps Cfg.runOp
  rw [ho]
  dsimp only
  rw [hg]
  dsimp only
  rw [hs]
  exact h1
theorem wl_n {ops i o os E H T B d} {Q : St → Prop} (hd : o.dst = d) (hg : guardD ops E o = some false) (h : WL C rec ops (i + 1) os ⟨Env.set E d .undef, H, T, B⟩ Q) : WL C rec ops i (o :: os) ⟨E, H, T, B⟩ Q := by
  refine ⟨fun hi => ?_⟩
  obtain ⟨ho, hi'⟩ := at_drop hi
  obtain ⟨s', h1, h2⟩ := h.out hi'
  refine ⟨s', ?_, h2⟩
  subst hd
  show C.runOps rec ops (i :: List.range' (i + 1) os.length) _ = _
  unfold Cfg.runOps Cfg.runOp
  rw [ho]
  dsimp only
  rw [hg]
  exact h1
def isCmp : Op → Bool
  | .binOp op .. => match op with
    | .eql | .neq | .lss | .leq | .gtr | .geq => true
    | _ => false
  | _ => false
theorem wl_b {ops i o os E H T B d gg} {b : Bool} {Q : St → Prop} (hcm : isCmp o.op = true) (hgg : o.guard = some gg) (hd : o.dst = d) (hg : guardD ops E o = some true) (hs : C.stepD rec (T + i * wide) (evalOp C E) H o = some (.bool b, [])) (h : b = true → WL C rec ops (i + 1) os ⟨Env.set E d (.bool true), H, T, B⟩ Q) (h' : b = false → WL C rec ops (i + 1) os ⟨Env.set E d (.bool false), H, T, B⟩ Q) : WL C rec ops i (o :: os) ⟨E, H, T, B⟩ Q := by
  cases b with
  | true => exact wl_v hd hg hs (h rfl)
  | false => exact wl_v hd hg hs (h' rfl)
def seenE (ops : Array Oper) (o : Oper) (E : Env) : Env := fun t => if (looks ops o).contains t then E t else none
def seenH (ops : Array Oper) (E : Env) (T i : Nat) (H : Heap) : Nat → Option Blk := fun id => if maySee ops E T i id then H id else none
theorem wk_v {ops i o os E H T B d v} {Q : St → Prop} (hd : o.dst = d) (hg : guardD ops (seenE ops o E) o = some true) (hs : C.stepD rec (T + i * wide) (evalOp C (seenE ops o E)) (seenH ops E T i H) o = some (v, [])) (h : WK C rec ops (i + 1) os ⟨Env.set E d v, H, T, B⟩ Q) : WK C rec ops i (o :: os) ⟨E, H, T, B⟩ Q := by
  refine ⟨fun hi => ?_⟩
  obtain ⟨ho, hi'⟩ := at_drop hi
  obtain ⟨s', h1, h2⟩ := h.out hi'
  refine ⟨s', ?_, h2⟩
  subst hd
  show C.runOpsD rec ops (i :: List.range' (i + 1) os.length) _ = _
  unfold Cfg.runOpsD Cfg.runOpD
  rw [ho]
  dsimp only
  unfold seenE at hg hs
  unfold seenH at hs
  rw [hg]
  dsimp only
  rw [hs]
  exact h1
theorem wk_e {ops i o os E H T B d v} {e : Eff} {Q : St → Prop} (hd : o.dst = d) (hg : guardD ops (seenE ops o E) o = some true) (hs : C.stepD rec (T + i * wide) (evalOp C (seenE ops o E)) (seenH ops E T i H) o = some (v, e)) (hw : (e.all fun p => mayWrite ops E T i p.1) = true) (h : WK C rec ops (i + 1) os ⟨Env.set E d v, Heap.put H e, T, B⟩ Q) : WK C rec ops i (o :: os) ⟨E, H, T, B⟩ Q := by
  refine ⟨fun hi => ?_⟩
  obtain ⟨ho, hi'⟩ := at_drop hi
  obtain ⟨s', h1, h2⟩ := h.out hi'
  refine ⟨s', ?_, h2⟩
  subst hd
  show C.runOpsD rec ops (i :: List.range' (i + 1) os.length) _ = _
  unfold Cfg.runOpsD Cfg.runOpD
  rw [ho]
  dsimp only
  unfold seenE at hg hs
  unfold seenH at hs
  rw [hg]
  dsimp only
  rw [hs]
  dsimp only
  rw [if_pos hw]
  exact h1
theorem wk_n {ops i o os E H T B d} {Q : St → Prop} (hd : o.dst = d) (hg : guardD ops (seenE ops o E) o = some false) (h : WK C rec ops (i + 1) os ⟨Env.set E d .undef, H, T, B⟩ Q) : WK C rec ops i (o :: os) ⟨E, H, T, B⟩ Q := by
  refine ⟨fun hi => ?_⟩
  obtain ⟨ho, hi'⟩ := at_drop hi
  obtain ⟨s', h1, h2⟩ := h.out hi'
  refine ⟨s', ?_, h2⟩
  subst hd
  show C.runOpsD rec ops (i :: List.range' (i + 1) os.length) _ = _
  unfold Cfg.runOpsD Cfg.runOpD
  rw [ho]
  dsimp only
  unfold seenE at hg
  rw [hg]
  exact h1
theorem wc_region {p l n ops os E H T B} {Q : Ex → St → Prop} (ho : ops.toList = os) (h : WL C rec ops 0 os ⟨E, H, T, B⟩ (RQ Q (T + os.length * wide))) : WC C rec f p l (.region n ops false) ⟨E, H, T, B⟩ Q := by
  obtain ⟨s', h1, h2⟩ := h.out (by simpa using ho)
  subst ho
  refine ⟨⟨_, _, ?_, h2⟩⟩
  unfold Cfg.runC Cfg.runRegion
  rw [if_neg Bool.false_ne_true, List.range_eq_range']
  rw [Array.length_toList] at h1 ⊢
  rw [h1]
  rfl
theorem wc_draw {p l n ops os E H T B} {Q : Ex → St → Prop} (ho : ops.toList = os) (h : WK C rec ops 0 os ⟨E, H, T, B⟩ (RQ Q (T + os.length * wide))) : WC C rec f p l (.region n ops true) ⟨E, H, T, B⟩ Q := by
  obtain ⟨s', h1, h2⟩ := h.out (by simpa using ho)
  subst ho
  refine ⟨⟨_, _, ?_, h2⟩⟩
  unfold Cfg.runC Cfg.runRegion
  rw [if_pos rfl, List.range_eq_range']
  rw [Array.length_toList] at h1 ⊢
  rw [h1]
  rfl
theorem wk_b {ops i o os E H T B d gg} {b : Bool} {Q : St → Prop} (hcm : isCmp o.op = true) (hgg : o.guard = some gg) (hd : o.dst = d) (hg : guardD ops (seenE ops o E) o = some true) (hs : C.stepD rec (T + i * wide) (evalOp C (seenE ops o E)) (seenH ops E T i H) o = some (.bool b, [])) (h : b = true → WK C rec ops (i + 1) os ⟨Env.set E d (.bool true), H, T, B⟩ Q) (h' : b = false → WK C rec ops (i + 1) os ⟨Env.set E d (.bool false), H, T, B⟩ Q) : WK C rec ops i (o :: os) ⟨E, H, T, B⟩ Q := by
  cases b with
  | true => exact wk_v hd hg hs (h rfl)
  | false => exact wk_v hd hg hs (h' rfl)
theorem s_index {slot ev rd o t x i elem es tt k n e} (ho : o.op = .indexAddr t x i) (hu : C.P.underlying t = some (.slice elem)) (hx : ev x = some (.list es tt)) (hi : ev i = some (.int k n)) (h0 : 0 ≤ n) (he : es[n.toNat]? = some e) (hz : C.size elem = some e.cells.length) : C.stepD rec slot ev rd o = some (.iptr e 0, []) := by
  unfold Cfg.stepD
  rw [ho]
  dsimp only
  unfold Cfg.opD
  rw [ho]
  dsimp only
  rw [hx, hi]
  dsimp only
  unfold Cfg.indexAddrD
  rw [hu]
  dsimp only
  rw [if_pos h0, he]
  dsimp only
  rw [if_pos hz]
  rfl
def isB : Callee → Bool
  | .builtin _ => true
  | _ => false
theorem s_call {slot ev rd o c g args args' v m} (ho : o.op = .call c) (hnb : isB c.callee = false) (ht : C.target ev c = some (g, args)) (hm : C.mode g = some m) (hs : m ≠ .shared) (hx : C.ext g = none) (hr : rec (.call g args' []) = some (.done v [])) (hf : DV.freezes rd args = some args') (hv : v.ren (backTo [] slot 0) = v) (hl : v.scalar = true ∨ lentEff rd (DV.idss args) = []) : C.stepD rec slot ev rd o = some (v, []) := by
  have hb : C.stepD rec slot ev rd o = C.callD rec slot rd g args := by
    unfold Cfg.stepD
    rw [ho]
    dsimp only
    split
    · rename_i b hcb
      rw [hcb] at hnb
      cases hnb
    · rw [ht]
  rw [hb]
  unfold Cfg.callD
  rw [hm]
  cases m with
  | shared => exact absurd rfl hs
  | pure =>
    dsimp only
    rw [hf]
    dsimp only
    unfold Cfg.askD
    rw [hx]
    dsimp only
    rw [hr]
    dsimp only
    rw [if_pos (show ([] : List (Option Blk)).length ≤ wide from Nat.zero_le _)]
    rcases hl with hl | hl
    · rw [if_pos hl]
    · by_cases h : v.scalar = true
      · rw [if_pos h]
      · rw [if_neg h, hl]
        dsimp only [List.length_nil]
        rw [hv]
        rfl
  | adopt =>
    dsimp only
    rw [hf]
    dsimp only
    unfold Cfg.askD
    rw [hx]
    dsimp only
    rw [hr]
    dsimp only
    rw [if_pos (show ([] : List (Option Blk)).length ≤ wide from Nat.zero_le _)]
    rcases hl with hl | hl
    · rw [if_pos hl]
    · by_cases h : v.scalar = true
      · rw [if_pos h]
      · rw [if_neg h, hl]
        dsimp only [List.length_nil]
        rw [hv]
        rfl
theorem wn_go {Q : Ex → St → Prop} {N : St → Prop} {s} (h : N s) : onw Q N .normal s := h
theorem wn_ret {Q : Ex → St → Prop} {N : St → Prop} {s} (h : Q .ret s) : onw Q N .ret s := h
theorem wn_exit {Q : Ex → St → Prop} {N : St → Prop} {s j} (h : Q (.exit j) s) : onw Q N (.exit j) s := h
theorem wx_go {Q : Ex → St → Prop} {id s} (h : Q .normal s) : onx id Q .normal s := h
theorem wx_ret {Q : Ex → St → Prop} {id s} (h : Q .ret s) : onx id Q .ret s := h
theorem wx_here {Q : Ex → St → Prop} {id s} (h : Q .normal s) : onx id Q (.exit id) s := by
  show if id = id then _ else _
  rw [if_pos rfl]
  exact h
theorem wx_on {Q : Ex → St → Prop} {id j s} (hj : Nat.beq j id = false) (h : Q (.exit j) s) : onx id Q (.exit j) s := by
  show if j = id then _ else _
  rw [if_neg (Nat.ne_of_beq_eq_false hj)]
  exact h
def EndQ (C : Cfg) (f : FuncId) (fn : Func) (m : Nat) (r : Res) (e : Ex) (s : St) : Prop := (e = .normal ∨ e = .ret) ∧ ∃ v, C.results fn s = some v ∧ C.handBack f m v s.heap = some r
theorem eq_ret {fn m r s v} (h : C.results fn s = some v) (h2 : C.handBack f m v s.heap = some r) : EndQ C f fn m r .ret s := ⟨.inr rfl, v, h, h2⟩
theorem eq_go {fn m r s v} (h : C.results fn s = some v) (h2 : C.handBack f m v s.heap = some r) : EndQ C f fn m r .normal s := ⟨.inl rfl, v, h, h2⟩
def LoopQ (rec : Req → Option Res) (f : FuncId) (p : List Bool) (m : Nat) (ks : List Nat) (l : Live) (r : Res) : Ex → St → Prop
  | .normal, s => ∃ vals' hs', pack m (ks.map s.env) s.heap = some (vals', hs') ∧ rec (.loop f p m vals' hs') = some r
  | e, s => ∃ ke, Ex.live l e = ke ∧ ∃ vals' hs', pack m (ke.map s.env) s.heap = some (vals', hs') ∧ r = .left e vals' hs'
theorem lq_go {p m ks l r s vals' hs'} (h : pack m (ks.map s.env) s.heap = some (vals', hs')) (hr : rec (.loop f p m vals' hs') = some r) : LoopQ rec f p m ks l r .normal s := ⟨_, _, h, hr⟩
theorem lq_ret {p m ks l r s vals' hs'} (ke : List Nat) (hk : Ex.live l .ret = ke) (h : pack m (ke.map s.env) s.heap = some (vals', hs')) (hr : r = .left .ret vals' hs') : LoopQ rec f p m ks l r .ret s := ⟨ke, hk, _, _, h, hr⟩
theorem lq_exit {p m ks l r s j vals' hs'} (ke : List Nat) (hk : Ex.live l (.exit j) = ke) (h : pack m (ke.map s.env) s.heap = some (vals', hs')) (hr : r = .left (.exit j) vals' hs') : LoopQ rec f p m ks l r (.exit j) s := ⟨ke, hk, _, _, h, hr⟩
theorem call_told {fn : Func} {c : Code} {args hs r} (hf : C.P.funcs[f]? = some fn) (hb : fn.body = some c)
    (h : WC C rec f [] (Func.live fn) c { env := envOf (List.range args.length) (args.map some), heap := heapOf hs, top := hs.length, base := hs.length } (EndQ C f fn hs.length r)) : C.step rec (.call f args hs) = some r := by
  obtain ⟨⟨e, s, h1, he, v, h2, h3⟩⟩ := h
  unfold Cfg.step
  dsimp only
  rw [hf]
  dsimp only
  rw [hb]
  dsimp only
  unfold Cfg.callBody
  rw [h1]
  rcases he with rfl | rfl <;> (dsimp only; rw [h2]; exact h3)
theorem walk_loop {fn : Func} {c b : Code} {l : Live} {p m vals hs r} (hf : C.P.funcs[f]? = some fn) (hb : fn.body = some c) (hc : codeAt c (Func.live fn) p = some (.loop b, l)) (ks : List Nat) (hk : liveIn (.loop b) l = ks)
    (h : WC C rec f (false :: p) { l with normal := ks } b { env := envOf ks vals, heap := heapOf hs, top := hs.length, base := m } (LoopQ rec f p m ks l r)) : C.step rec (.loop f p m vals hs) = some r := by
  subst hk
  obtain ⟨⟨e, s, h1, h2⟩⟩ := h
  unfold Cfg.step
  dsimp only
  rw [hf]
  dsimp only
  rw [hb]
  dsimp only
  rw [hc]
  dsimp only
  unfold Cfg.loopBody
  rw [h1]
  cases e with
  | normal =>
    obtain ⟨v2, h3, h4, h5⟩ := h2
    dsimp only
    rw [h4]
    exact h5
  | exit id =>
    obtain ⟨ke, rfl, v2, h3, h4, rfl⟩ := h2
    dsimp only
    rw [h4]
  | ret =>
    obtain ⟨ke, rfl, v2, h3, h4, rfl⟩ := h2
    dsimp only
    rw [h4]
theorem a_new {slot rd elem size bytes id off len cap x b ys c n} (hy : elemsOf rd x = some ys) (hz : headSz size ys = true) (hn : ys.length = n + 1) (hb : rowAt rd id = some b) (hl : b.leaf = true) (hf : b.fz = false) (he : b.elem = elem) (hs : b.sz = size) (hc : capOf b off cap = some c) (hlt : c < len + ys.length) (hr : roomy (len + ys.length) bytes = true) (hle : off + len ≤ b.elems.length) {m es} (hm : len + ys.length = m) (hes : (b.elems.drop off).take len ++ ys = es) :
    appendD slot rd elem size bytes (.ref id off len cap) x = some (.ref slot 0 m none, [(slot, some (.row { elems := es, elem := elem, sz := size, ext := none, leaf := true, fz := false }))]) := by
  have h0 : ys.isEmpty = false := by cases ys with
    | nil => cases hn
    | cons => rfl
  subst he hs hm hes
  unfold appendD
  simp only [hy, Option.bind_eq_bind, Option.bind_some, hz, Bool.not_true, Bool.false_eq_true, if_false, hb, h0, hl, hf, bne_self_eq_false, Bool.or_false, hr, Bool.false_or]
  rw [if_neg (by simp; omega), hc]
  dsimp only
  rw [if_neg (by omega)]
theorem a_on {slot rd elem size bytes id len x b ys n} (hy : elemsOf rd x = some ys) (hz : headSz size ys = true) (hn : ys.length = n + 1) (hb : rowAt rd id = some b) (hl : b.leaf = true) (hf : b.fz = false) (he : b.elem = elem) (hs : b.sz = size) (hc : b.ext = none) (hr : roomy (len + ys.length) bytes = true) (hle : len ≤ b.elems.length) {m es} (hm : len + ys.length = m) (hes : b.elems.take len ++ ys = es) :
    appendD slot rd elem size bytes (.ref id 0 len none) x = some (.ref slot 0 m none, [(id, none), (slot, some (.row { elems := es, elem := elem, sz := size, ext := none, leaf := true, fz := false }))]) := by
  have h0 : ys.isEmpty = false := by cases ys with
    | nil => cases hn
    | cons => rfl
  subst he hs hm hes
  unfold appendD
  simp only [hy, Option.bind_eq_bind, Option.bind_some, hz, Bool.not_true, Bool.false_eq_true, if_false, hb, h0, hl, hf, bne_self_eq_false, Bool.or_false, hr, Bool.false_or, capOf, hc, Option.map_none, List.drop_zero]
  rw [if_neg (by simp; omega), if_pos trivial]
theorem a_nil {slot rd elem size bytes x ys n} (hy : elemsOf rd x = some ys) (hz : headSz size ys = true) (hn : ys.length = n + 1) (hr : roomy ys.length bytes = true) :
    appendD slot rd elem size bytes (.list [] true) x = some (.ref slot 0 ys.length none, [(slot, some (.row { elems := ys, elem := elem, sz := size, ext := none, leaf := true, fz := false }))]) := by
  have h0 : ys.isEmpty = false := by cases ys with
    | nil => cases hn
    | cons => rfl
  have h2 : headSz size ([] : List DV) = true := rfl
  unfold appendD
  simp only [hy, Option.bind_eq_bind, Option.bind_some, hz, Bool.not_true, Bool.false_eq_true, if_false, h0, h2, Bool.and_self, List.length_nil, Nat.zero_add, hr, if_true, List.nil_append]
theorem s_app {slot ev rd o c elem size i s x r} (bytes : Nat) (ho : o.op = .call c) (hc : c.callee = .builtin .append) (h0 : (c.args[0]?).bind ev = some s) (h1 : (c.args[1]?).bind ev = some x) (hu : (c.argTypes[0]?).bind C.P.underlying = some (.slice elem)) (hz : C.size elem = some size) (hi : C.P.info? elem = some i)
    (hg : (decide (0 < size) && c.argTypes[1]? == c.argTypes[0]? && c.args.size == 2 && c.argTypes.size == 2 && (i.zero.map (·.cells.size)) == some size) = true) (hb : i.bytes = bytes) (h : appendD slot rd elem size bytes s x = some r) : C.stepD rec slot ev rd o = some r := by
  subst hb
  unfold Cfg.stepD
  rw [ho]
  dsimp only
  rw [hc]
  dsimp only
  unfold Cfg.opD
  rw [ho]
  dsimp only
  rw [hc]
  dsimp only
  rw [h0, h1, hu]
  dsimp only
  rw [hz, hi]
  dsimp only
  rw [if_pos hg]
  exact h
theorem s_quo {slot ev rd o t x y tt k a b} (ho : o.op = .binOp .quo t x y tt) (hx : ev x = some (.int k a)) (hy : ev y = some (.int k b)) (hb : b ≠ 0) : C.stepD rec slot ev rd o = some (.int k (k.wrap (a.tdiv b)), []) := by
  unfold Cfg.stepD
  rw [ho]
  dsimp only
  unfold Cfg.opD
  rw [ho]
  dsimp only
  rw [hx, hy]
  dsimp only
  unfold Cfg.binT binD
  dsimp only
  rw [if_neg (fun h => h rfl), if_neg hb]
  rfl
theorem s_rem {slot ev rd o t x y tt k a b} (ho : o.op = .binOp .rem t x y tt) (hx : ev x = some (.int k a)) (hy : ev y = some (.int k b)) (hb : b ≠ 0) : C.stepD rec slot ev rd o = some (.int k (a.tmod b), []) := by
  unfold Cfg.stepD
  rw [ho]
  dsimp only
  unfold Cfg.opD
  rw [ho]
  dsimp only
  rw [hx, hy]
  dsimp only
  unfold Cfg.binT binD
  dsimp only
  rw [if_neg (fun h => h rfl), if_neg hb]
  rfl
end
end Go.PM
end
section
namespace Go.PM
open Go Go.RowKit
def cloneX (elem : TypeId) (sz bytes : Nat) : List DV → Option (DV × List (Option Blk))
  | [.list [] _] => some (.list [] false, [])
  | [.list (e :: es) _] => if e.cells.length = sz ∧ roomy (es.length + 1) bytes = true then some (.ref 0 0 (es.length + 1) none, [some (.row { elems := e :: es, elem := elem, sz := sz, ext := none, leaf := true, fz := false })]) else none
  | _ => none
theorem clone_ext {C C' : Cfg} (ok : CfgOK C') (hP : C'.P = C.P) (hg : C'.globs = C.globs) (hfx : C'.fix = C.fix) {g : FuncId} {elem : TypeId} {sz bytes : Nat}
    (hrun : ∀ e es t, e.cells.length = sz → roomy (es.length + 1) bytes = true → C'.run (.call g [.list (e :: es) t] []) = some (.done (.ref 0 0 (es.length + 1) none) [some (.row { elems := e :: es, elem := elem, sz := sz, ext := none, leaf := true, fz := false })]))
    (h0 : ∀ (A : Option Addr) (c : Nat) (w : World), Calls C.P g #[.slice A 0 c] w fun e w' => (∃ A c', e = .returned (.slice A 0 c')) ∧ Below w.heap.size w w')
    {args v hs'} (h : cloneX elem sz bytes args = some (v, hs')) : CallOK C g args [] v hs' := by
  unfold cloneX at h
  split at h
  · cases h
    intro w N0 φ vals ht hR hG hv
    obtain ⟨x, r, rfl, hx, hr⟩ := hv
    obtain rfl : r = [] := hr
    obtain ⟨_, A, c, rfl, _, _, _⟩ := hx
    refine (h0 A c w).mono ?_
    rintro e w' ⟨⟨A', c', rfl⟩, hb⟩
    have hlt : ∀ {b}, Own φ (heapOf []) b → False := by
      rintro b ⟨id, pb, r, h1, h2, _⟩
      simp [heapOf] at h2
    refine ⟨_, φ, rfl, { os := hb.os, tape := hb.tape, output := hb.output, size := hb.size, same := fun b hb' _ => hb.block b hb', own := fun _ _ h => h, keep := fun _ _ _ h => .inl h, old := fun id pb h _ => ⟨id, pb, h, rfl⟩, rel := ?_, tail := fun k hk => ht k hk, le := Nat.le_refl _ }, ⟨rfl, A', c', rfl, (fun h => by cases h), Nat.zero_le _, .inl rfl⟩⟩
    exact { gone := hR.gone, here := fun id blk h => by simp [heapOf] at h, apart := hR.apart, out := hR.out, lim := fun b h => Nat.lt_of_lt_of_le (hR.lim b h) hb.size }
  · rename_i e es tt
    split at h
    · rename_i hc
      cases h
      have := call_sound ok (hrun e es tt hc.1 hc.2)
      intro w N0 φ vals ht hR hG hv
      rw [← hP]
      refine this w N0 φ vals ht hR ?_ hv
      exact ⟨fun g d hd => hG.vals g d (by rw [← hg]; exact hd), fun g q hq => hG.fix g q (by rw [← hfx]; exact hq)⟩
    · cases h
  · cases h
end Go.PM
end
section
namespace Go.PM
open Go Go.RowKit
theorem decDigits_nat (n : Nat) : Lib.decDigits n = natT n := by
  induction n using Nat.strongRecOn with
  | ind n ih =>
    rw [Lib.decDigits]
    by_cases h : n < 10
    · rw [dif_pos h, natT_lt h]
      rfl
    · rw [dif_neg h, natT_ge (by omega), ih (n / 10) (by omega)]
      rfl
def natF : Nat → Nat → Tx
  | 0, n => [chD n]
  | k + 1, n => if n < 10 then [chD n] else natF k (n / 10) ++ [chD (n % 10)]
theorem natF_eq : ∀ (k n : Nat), n < 10 ^ (k + 1) → natF k n = natT n
  | 0, n, h => by
    rw [natT_lt (by simpa using h)]
    rfl
  | k + 1, n, h => by
    unfold natF
    by_cases hn : n < 10
    · rw [if_pos hn, natT_lt hn]
    · rw [if_neg hn, natT_ge (by omega), natF_eq k (n / 10) (by rw [Nat.pow_succ] at h; omega)]
def intF (x : Int) : Tx := if x < 0 then 45 :: natF 19 (-x).toNat else natF 19 x.toNat
theorem intF_eq (x : Int) (h0 : -9223372036854775808 ≤ x) (h1 : x ≤ 9223372036854775807) : intF x = intT x := by
  unfold intF intT
  rw [natF_eq 19 _ (by omega), natF_eq 19 _ (by omega)]
theorem itoa_eq (x : Int) : Lib.itoa x = intT x := by
  unfold Lib.itoa intT
  by_cases h : x < 0
  · rw [if_pos h, if_pos h, decDigits_nat]
    congr 2
    omega
  · rw [if_neg h, if_neg h, decDigits_nat]
def fmtX : List DV → Option (DV × List (Option Blk))
  | [.int .i64 n, .int .i64 b] => if b = 10 ∧ -9223372036854775808 ≤ n ∧ n ≤ 9223372036854775807 then some (.str (intF n), []) else none
  | _ => none
def parseX (T : TypeId) : List DV → Option (DV × List (Option Blk))
  | [.str s, .int .i64 b, .int .i64 z] => if b = 10 ∧ z = 64 ∧ s.length ≤ 1000000000 then match Lib.parseIntB 64 s with
    | .ok v => some (.tuple [.int .i64 v, .nili], [])
    | .range => some (.tuple [.int .i64 (Lib.intSat 64 s), .iface T .dead], [])
    | _ => none
    else none
  | _ => none
theorem ext_below {C : Cfg} {g : FuncId} {args : List DV} {v : DV} (h : ∀ (w : World) (N : Nat → Prop) (vals : List Value), GlobRel C w N → RepL w N (fun _ => none) args vals →
    Calls C.P g vals.toArray w fun e w' => ∃ x, e = .returned x ∧ Below w.heap.size w w' ∧ ∀ (w : World) (N : Nat → Prop) (φ : Phi), Rep w N φ v x) (hi : DV.imms args = true) : CallOK C g args [] v [] := by
  intro w N0 φ vals ht hR hG hv
  refine (h w _ vals hG (RepL.imm hi hv)).mono ?_
  rintro e w' ⟨x, rfl, hb, hx⟩
  have hlt : ∀ {b}, Own φ (heapOf []) b → False := by
    rintro b ⟨id, pb, r, h1, h2, _⟩
    simp [heapOf] at h2
  refine ⟨_, φ, rfl, { os := hb.os, tape := hb.tape, output := hb.output, size := hb.size, same := fun b hb' _ => hb.block b hb', own := fun _ _ h => h, keep := fun _ _ _ h => .inl h, old := fun id pb h _ => ⟨id, pb, h, rfl⟩, rel := ?_, tail := fun k hk => ht k hk, le := Nat.le_refl _ }, hx _ _ _⟩
  exact { gone := hR.gone, here := fun id blk h => by simp [heapOf] at h, apart := hR.apart, out := hR.out, lim := fun b h => Nat.lt_of_lt_of_le (hR.lim b h) hb.size }
theorem pu_figs (M : Nat) (hM : M ≤ 18446744073709551615) : ∀ (l : Tx) (acc : Nat), allD l = true → acc ≤ M → Lib.parseUintM M acc l = if acc * 10 ^ l.length + nv l ≤ M then .ok (acc * 10 ^ l.length + nv l) else .range
  | [], acc, _, ha => by
    rw [Lib.parseUintM]
    simp [nv, ha]
  | c :: l, acc, h, ha => by
    obtain ⟨h1, h2⟩ := allD_cons.1 h
    have hd := dig_lt h1
    have hp : 1 ≤ 10 ^ l.length := Nat.pow_pos (by decide)
    rw [nv_cons, List.length_cons, Nat.pow_succ]
    have e : acc * (10 ^ l.length * 10) + (dig c * 10 ^ l.length + nv l) = (acc * 10 + dig c) * 10 ^ l.length + nv l := by
      rw [Nat.add_mul, ← Nat.add_assoc, Nat.mul_assoc acc 10, Nat.mul_comm 10]
    rw [e]
    have hge : (acc * 10 + dig c) ≤ (acc * 10 + dig c) * 10 ^ l.length := Nat.le_mul_of_pos_right _ hp
    rw [Lib.parseUintM, if_pos ((isD_iff c).1 h1)]
    have hdg : c.toNat - 48 = dig c := rfl
    rw [hdg]
    by_cases g1 : 1844674407370955162 ≤ acc
    · rw [if_pos g1, if_neg (by omega)]
    · rw [if_neg g1]
      by_cases g2 : M < acc * 10 + dig c
      · rw [if_pos g2, if_neg (by omega)]
      · rw [if_neg g2]
        exact pu_figs M hM l _ h2 (by omega)
def trimM : Tx → Tx
  | [] => []
  | c :: r => if c = 45 then r else c :: r
def mayT (s : Tx) : Bool := let f := trimM s; decide (1 ≤ f.length) && decide (f.length ≤ 100) && (!(f.head? == some 48) || s == [48]) && allD f
def W64 (x : Int) : Bool := decide (-9223372036854775808 ≤ x) && decide (x ≤ 9223372036854775807)
theorem parse_may (s : Tx) (h : mayT s = true) : Lib.parseIntB 64 s = if W64 (tv s) = true then .ok (tv s) else .range := by
  have h := h
  unfold mayT at h
  simp only [Bool.and_eq_true, decide_eq_true_eq] at h
  obtain ⟨⟨⟨h1, _⟩, _⟩, h4⟩ := h
  unfold W64
  cases s with
  | nil => simp [trimM] at h1
  | cons c r =>
    by_cases hc : c = 45
    · subst hc
      have ht : trimM (45 :: r) = r := by simp [trimM]
      rw [ht] at h1 h4
      have e : tv (45 :: r) = -(nv r : Int) := by simp [tv]
      rw [Lib.parseIntB_minus, e]
      unfold Lib.parseUintB
      rw [if_neg (by rintro rfl; simp at h1), pu_figs _ (by decide) r 0 h4 (by omega), Nat.zero_mul, Nat.zero_add]
      by_cases g : nv r ≤ 2 ^ 64 - 1
      · rw [if_pos g]
        unfold Lib.signedC
        dsimp only
        by_cases g2 : 2 ^ (64 - 1) < nv r
        · rw [if_pos g2, if_neg (by simp; omega)]
        · rw [if_neg g2, if_pos (by simp; omega)]
      · rw [if_neg g, if_neg (by simp; omega)]
        rfl
    · have ht : trimM (c :: r) = c :: r := if_neg hc
      rw [ht] at h4
      have hd := (isD_iff c).1 (allD_cons.1 h4).1
      have e : tv (c :: r) = (nv (c :: r) : Int) := if_neg hc
      rw [Lib.parseIntB_plain 64 c r (by omega) (by omega), e]
      unfold Lib.parseUintB
      rw [if_neg (by simp), pu_figs _ (by decide) _ 0 h4 (by omega), Nat.zero_mul, Nat.zero_add]
      by_cases g : nv (c :: r) ≤ 2 ^ 64 - 1
      · rw [if_pos g]
        unfold Lib.signlessC
        dsimp only
        by_cases g2 : 2 ^ (64 - 1) ≤ nv (c :: r)
        · rw [if_pos g2, if_neg (by simp; omega)]
        · rw [if_neg g2, if_pos (by simp; omega)]
      · rw [if_neg g, if_neg (by simp; omega)]
        rfl
theorem mayT_iff (s : Tx) : mayT s = true ↔ s = intT (tv s) ∧ (tv s).natAbs < 10 ^ 100 := by
  constructor
  · intro h
    unfold mayT at h
    simp only [Bool.and_eq_true, decide_eq_true_eq] at h
    obtain ⟨⟨⟨h1, h2⟩, h3⟩, h4⟩ := h
    cases s with
    | nil => simp [trimM] at h1
    | cons c r =>
      by_cases hc : c = 45
      · subst hc
        have ht : trimM (45 :: r) = r := by simp [trimM]
        rw [ht] at h1 h2 h3 h4
        have hne : r ≠ [] := by rintro rfl; simp at h1
        have hh : r.head? ≠ some 48 := by
          intro he
          rw [he] at h3
          simp at h3
        have hnat := natT_nv r h4 hne (fun he => absurd he hh)
        have hpos : 0 < nv r := by
          apply Nat.pos_of_ne_zero
          intro h0
          rw [h0, natT_lt (by decide)] at hnat
          exact hh (by rw [← hnat]; rfl)
        have e : tv (45 :: r) = -(nv r : Int) := by simp [tv]
        have hlt := nv_lt r h4
        have hle : 10 ^ r.length ≤ 10 ^ 100 := Nat.pow_le_pow_right (by decide) h2
        rw [e]
        constructor
        · unfold intT
          rw [if_pos (by omega)]
          rw [show (- -(nv r : Int)).toNat = nv r by omega, hnat]
        · rw [Int.natAbs_neg, Int.natAbs_natCast]
          omega
      · have ht : trimM (c :: r) = c :: r := if_neg hc
        rw [ht] at h1 h2 h3 h4
        have hnat := natT_nv (c :: r) h4 (by simp) (fun he => by
          rw [he] at h3
          simpa using h3)
        have e : tv (c :: r) = (nv (c :: r) : Int) := if_neg hc
        have hlt := nv_lt (c :: r) h4
        have hle : 10 ^ (c :: r).length ≤ 10 ^ 100 := Nat.pow_le_pow_right (by decide) h2
        rw [e]
        constructor
        · unfold intT
          rw [if_neg (by omega), Int.toNat_natCast, hnat]
        · rw [Int.natAbs_natCast]
          omega
  · rintro ⟨h, hb⟩
    obtain ⟨x, hx⟩ : ∃ x, tv s = x := ⟨_, rfl⟩
    rw [hx] at h hb
    subst h
    unfold mayT intT
    by_cases h0 : x < 0
    · rw [if_pos h0]
      obtain ⟨a1, a2, a3, a4⟩ := natT_all (-x).toNat
      have ht : trimM (45 :: natT (-x).toNat) = natT (-x).toNat := by simp [trimM]
      have hl := (natT_len (-x).toNat 100 (by decide)).2 (by omega)
      have h1 : 1 ≤ (natT (-x).toNat).length := Nat.pos_of_ne_zero fun h => a3 (List.eq_nil_of_length_eq_zero h)
      have h2 := a4 (by omega)
      simp only [ht, a1, Bool.and_true, Bool.and_eq_true, decide_eq_true_eq, Bool.or_eq_true]
      exact ⟨⟨h1, hl⟩, .inl (by simpa using h2)⟩
    · rw [if_neg h0]
      obtain ⟨a1, a2, a3, a4⟩ := natT_all x.toNat
      have ht : trimM (natT x.toNat) = natT x.toNat := by
        cases hq : natT x.toNat with
        | nil => exact absurd hq a3
        | cons c r =>
          have := natT_head _ c r hq
          have hc : c ≠ 45 := by rintro rfl; revert this; decide
          exact if_neg hc
      have hl := (natT_len x.toNat 100 (by decide)).2 (by omega)
      have h1 : 1 ≤ (natT x.toNat).length := Nat.pos_of_ne_zero fun h => a3 (List.eq_nil_of_length_eq_zero h)
      simp only [ht, a1, Bool.and_true, Bool.and_eq_true, decide_eq_true_eq, Bool.or_eq_true]
      refine ⟨⟨h1, hl⟩, ?_⟩
      by_cases hz : x = 0
      · subst hz
        right
        rw [show (0 : Int).toNat = 0 from rfl, natT_lt (by decide)]
        decide
      · exact .inl (by simpa using a4 (by omega))
end Go.PM
end
section
namespace Go.PM
theorem nv_at : ∀ (n : Nat) (a : Tx), a.length = n → allD a = true → ∀ i, (hi : i < a.length) → nv a / 10 ^ i % 10 = dig (a[a.length - 1 - i])
  | 0, a, hn, _, i, hi => by omega
  | n + 1, a, hn, h, i, hi => by
    have hne : a ≠ [] := by rintro rfl; simp at hi
    obtain ⟨r, c, rfl⟩ : ∃ r c, a = r ++ [c] := ⟨a.dropLast, a.getLast hne, (List.dropLast_concat_getLast hne).symm⟩
    obtain ⟨h1, h2⟩ := allD_snoc.1 h
    have hd := dig_lt h2
    rw [nv_snoc]
    cases i with
    | zero =>
      rw [Nat.pow_zero, Nat.div_one]
      have : (r ++ [c])[(r ++ [c]).length - 1 - 0] = c := by simp
      rw [this]
      omega
    | succ i =>
      have hl : r.length = n := by simpa using hn
      have hir : i < r.length := by simp at hi; omega
      have ih := nv_at n r hl h1 i hir
      rw [Nat.pow_succ, Nat.mul_comm (10 ^ i) 10, ← Nat.div_div_eq_div_mul, show (10 * nv r + dig c) / 10 = nv r by omega, ih]
      congr 1
      have e : (r ++ [c]).length - 1 - (i + 1) = r.length - 1 - i := by simp; omega
      simp only [e]
      rw [List.getElem_append_left (by omega)]
def plusS : Nat → Nat → Nat → Nat → Tx → Tx
  | 0, _, _, _, s => s
  | j + 1, A, B, c, s => plusS j (A / 10) (B / 10) ((A % 10 + B % 10 + c) / 10) (chD ((A % 10 + B % 10 + c) % 10) :: s)
theorem plusS_nv : ∀ (j A B c : Nat) (s : Tx), allD s = true → allD (plusS j A B c s) = true ∧ nv (plusS j A B c s) = (A + B + c) % 10 ^ j * 10 ^ s.length + nv s
  | 0, A, B, c, s, h => by
    refine ⟨h, ?_⟩
    unfold plusS
    rw [Nat.pow_zero, Nat.mod_one, Nat.zero_mul, Nat.zero_add]
  | j + 1, A, B, c, s, h => by
    have hd : (A % 10 + B % 10 + c) % 10 < 10 := Nat.mod_lt _ (by decide)
    obtain ⟨h1, h2⟩ := plusS_nv j (A / 10) (B / 10) ((A % 10 + B % 10 + c) / 10) (chD ((A % 10 + B % 10 + c) % 10) :: s) (allD_cons.2 ⟨isD_chD hd, h⟩)
    refine ⟨h1, ?_⟩
    unfold plusS
    rw [h2, nv_cons, dig_chD hd, List.length_cons]
    have e1 : A / 10 + B / 10 + (A % 10 + B % 10 + c) / 10 = (A + B + c) / 10 := by omega
    have e2 : (A % 10 + B % 10 + c) % 10 = (A + B + c) % 10 := by omega
    rw [e1, e2, Nat.pow_succ 10 j, Nat.mul_comm (10 ^ j) 10, Nat.mod_mul, Nat.add_mul, Nat.pow_succ 10 s.length, ← Nat.add_assoc, Nat.add_comm ((A + B + c) % 10 * _)]
    congr 2
    rw [Nat.mul_comm (10 ^ s.length) 10, ← Nat.mul_assoc, Nat.mul_comm _ 10]
def minusS : Nat → Nat → Nat → Nat → Tx → Tx
  | 0, _, _, _, s => s
  | j + 1, A, B, c, s => if A % 10 < B % 10 + c then minusS j (A / 10) (B / 10) 1 (chD (A % 10 + 10 - (B % 10 + c)) :: s) else minusS j (A / 10) (B / 10) 0 (chD (A % 10 - (B % 10 + c)) :: s)
theorem minusS_nv : ∀ (j A B c : Nat) (s : Tx), allD s = true → c ≤ 1 → B + c ≤ A → A < 10 ^ j → allD (minusS j A B c s) = true ∧ nv (minusS j A B c s) = (A - B - c) * 10 ^ s.length + nv s
  | 0, A, B, c, s, h, hc, hb, ha => by
    refine ⟨h, ?_⟩
    unfold minusS
    have : A = 0 := by simpa using ha
    subst this
    simp
  | j + 1, A, B, c, s, h, hc, hb, ha => by
    rw [Nat.pow_succ] at ha
    unfold minusS
    by_cases hlt : A % 10 < B % 10 + c
    · rw [if_pos hlt]
      have hd : A % 10 + 10 - (B % 10 + c) < 10 := by omega
      obtain ⟨h1, h2⟩ := minusS_nv j (A / 10) (B / 10) 1 (chD (A % 10 + 10 - (B % 10 + c)) :: s) (allD_cons.2 ⟨isD_chD hd, h⟩) (by omega) (by omega) (by omega)
      refine ⟨h1, ?_⟩
      rw [h2, nv_cons, dig_chD hd, List.length_cons, Nat.pow_succ, Nat.mul_comm (10 ^ s.length) 10, ← Nat.mul_assoc, ← Nat.add_assoc, ← Nat.add_mul]
      congr 2
      omega
    · rw [if_neg hlt]
      have hd : A % 10 - (B % 10 + c) < 10 := by omega
      obtain ⟨h1, h2⟩ := minusS_nv j (A / 10) (B / 10) 0 (chD (A % 10 - (B % 10 + c)) :: s) (allD_cons.2 ⟨isD_chD hd, h⟩) (by omega) (by omega) (by omega)
      refine ⟨h1, ?_⟩
      rw [h2, nv_cons, dig_chD hd, List.length_cons, Nat.pow_succ, Nat.mul_comm (10 ^ s.length) 10, ← Nat.mul_assoc, ← Nat.add_assoc, ← Nat.add_mul]
      congr 2
      omega
end Go.PM
end
section
namespace Go.PM
section
variable {C : Cfg} {rec : Req → Option Res}
theorem s_strix {slot ev rd o t x i s k n b} (ho : o.op = .index t x i) (hu : C.P.underlying t = some .string) (hx : ev x = some (.str s)) (hi : ev i = some (.int k n)) (h0 : 0 ≤ n) (hb : s[n.toNat]? = some b) : C.stepD rec slot ev rd o = some (.int .u8 (b.toNat : Nat), []) := by
  unfold Cfg.stepD
  rw [ho]
  dsimp only
  unfold Cfg.opD
  rw [ho]
  dsimp only
  rw [hx, hi]
  dsimp only
  unfold Cfg.indexD
  rw [hu]
  dsimp only
  rw [if_pos h0, hb]
  rfl
theorem s_cut {slot ev rd o t x lo hi s k k'} {a b : Int} (ho : o.op = .slice t x (some lo) (some hi) none) (hu : C.P.underlying t = some .string) (hx : ev x = some (.str s)) (hl : ev lo = some (.int k a)) (hh : ev hi = some (.int k' b)) (h0 : 0 ≤ a) (h1 : a ≤ b) (h2 : b ≤ (s.length : Nat)) : C.stepD rec slot ev rd o = some (.str ((s.drop a.toNat).take (b.toNat - a.toNat)), []) := by
  unfold Cfg.stepD
  rw [ho]
  dsimp only
  unfold Cfg.opD
  rw [ho]
  dsimp only
  unfold optInt
  dsimp only
  rw [hx, hl, hh, hu]
  dsimp only
  unfold sliceS bounds
  dsimp only
  have e1 : boundMx none s.length = some none := rfl
  have e2 : boundHi (some b) none none s.length s.length = some b.toNat := by
    unfold boundHi
    dsimp only
    rw [if_pos (by simp; omega)]
  have e3 : boundLo (some a) b.toNat = some a.toNat := by
    unfold boundLo
    dsimp only
    rw [if_pos (by simp; omega)]
  rw [e1]
  dsimp only
  rw [e2]
  dsimp only
  rw [e3]
  rfl
theorem wl_c {ops i o os E H T B d} {b : Bool} {Q : St → Prop} (hcm : isCmp o.op = true) (hd : o.dst = d) (hg : guardD ops E o = some true) (hs : C.stepD rec (T + i * wide) (evalOp C E) H o = some (.bool b, [])) (h : b = true → WL C rec ops (i + 1) os ⟨Env.set E d (.bool true), H, T, B⟩ Q) (h' : b = false → WL C rec ops (i + 1) os ⟨Env.set E d (.bool false), H, T, B⟩ Q) : WL C rec ops i (o :: os) ⟨E, H, T, B⟩ Q := by
  have _ := hcm
  cases b with
  | true => exact wl_v hd hg hs (h rfl)
  | false => exact wl_v hd hg hs (h' rfl)
theorem wk_c {ops i o os E H T B d} {b : Bool} {Q : St → Prop} (hcm : isCmp o.op = true) (hd : o.dst = d) (hg : guardD ops (seenE ops o E) o = some true) (hs : C.stepD rec (T + i * wide) (evalOp C (seenE ops o E)) (seenH ops E T i H) o = some (.bool b, [])) (h : b = true → WK C rec ops (i + 1) os ⟨Env.set E d (.bool true), H, T, B⟩ Q) (h' : b = false → WK C rec ops (i + 1) os ⟨Env.set E d (.bool false), H, T, B⟩ Q) : WK C rec ops i (o :: os) ⟨E, H, T, B⟩ Q := by
  have _ := hcm
  cases b with
  | true => exact wk_v hd hg hs (h rfl)
  | false => exact wk_v hd hg hs (h' rfl)
end
end Go.PM
end
section
namespace Go.PM
section
variable {C : Cfg} {rec : Req → Option Res} {f : FuncId}
theorem fz_ref {rd : Nat → Option Blk} {id len : Nat} {cp b es} (hb : rowAt rd id = some b) (hl : b.leaf = true) (he : b.elems = es) (hn : es.length = len) : DV.freeze rd (.ref id 0 len cp) = some (.list es false) := by
  subst he hn
  unfold DV.freeze
  rw [hb]
  dsimp only
  rw [hl, if_pos (by simp), List.drop_zero, List.take_length]
theorem fz_agg {rd : Nat → Option Blk} {l l' : List DV} (h : DV.freezes rd l = some l') : DV.freeze rd (.agg l) = some (.agg l') := by
  unfold DV.freeze
  rw [h]
  rfl
theorem fz_tup {rd : Nat → Option Blk} {l l' : List DV} (h : DV.freezes rd l = some l') : DV.freeze rd (.tuple l) = some (.tuple l') := by
  unfold DV.freeze
  rw [h]
  rfl
theorem fz_cons {rd : Nat → Option Blk} {v v' : DV} {l l' : List DV} (h : DV.freeze rd v = some v') (h2 : DV.freezes rd l = some l') : DV.freezes rd (v :: l) = some (v' :: l') := by
  unfold DV.freezes
  rw [h, h2]
theorem asks {g args r} (hx : C.ext g = none) (h : rec (.call g args []) = r) : C.askD rec g args = r := by
  unfold Cfg.askD
  rw [hx]
  exact h
theorem s_ask {slot ev rd o c g args args' v m hs' r} (ho : o.op = .call c) (hnb : isB c.callee = false) (ht : C.target ev c = some (g, args)) (hm : C.mode g = some m) (hs : m ≠ .shared) (hf : DV.freezes rd args = some args') (ha : C.askD rec g args' = some (.done v hs'))
    (hr : (if v.scalar then some (v, []) else if hs'.length ≤ wide then some (v.ren (backTo [] slot hs'.length), lentEff rd (DV.idss args) ++ backEff (backTo [] slot hs'.length) 0 hs') else none) = some r) (hw : v.scalar = true → hs'.length ≤ wide) : C.stepD rec slot ev rd o = some r := by
  have hb : C.stepD rec slot ev rd o = C.callD rec slot rd g args := by
    unfold Cfg.stepD
    rw [ho]
    dsimp only
    split
    · rename_i b hcb
      rw [hcb] at hnb
      cases hnb
    · rw [ht]
  rw [hb]
  unfold Cfg.callD
  rw [hm]
  have key : ∀ args'', DV.freezes rd args = some args'' → (match C.askD rec g args'' with
      | some (.done v hs) => if hs.length ≤ wide then let ρ := backTo [] slot hs.length; if v.scalar then some (v, []) else some (v.ren ρ, lentEff rd (DV.idss args) ++ backEff ρ 0 hs) else none
      | _ => none) = some r := by
    intro args'' h
    rw [hf] at h
    cases h
    rw [ha]
    dsimp only
    by_cases h : v.scalar = true
    · rw [if_pos h] at hr
      rw [if_pos (hw h), if_pos h]
      exact hr
    · rw [if_neg h] at hr
      by_cases h2 : hs'.length ≤ wide
      · rw [if_pos h2] at hr
        rw [if_pos h2, if_neg h]
        exact hr
      · rw [if_neg h2] at hr
        cases hr
  cases m with
  | shared => exact absurd rfl hs
  | pure =>
    dsimp only
    rw [hf]
    exact key args' hf
  | adopt =>
    dsimp only
    rw [hf]
    exact key args' hf
theorem kV {ops i o os E H T B d v} {Q : St → Prop} (h : WL C rec ops (i + 1) os ⟨Env.set E d v, H, T, B⟩ Q) (hd : o.dst = d := by exact rfl) (hg : guardD ops E o = some true := by exact rfl) (hs : C.stepD rec (T + i * wide) (evalOp C E) H o = some (v, []) := by exact rfl) : WL C rec ops i (o :: os) ⟨E, H, T, B⟩ Q := wl_v hd hg hs h
theorem kE {ops i o os E H T B d v} {e : Eff} {Q : St → Prop} (h : WL C rec ops (i + 1) os ⟨Env.set E d v, Heap.put H e, T, B⟩ Q) (hd : o.dst = d := by exact rfl) (hg : guardD ops E o = some true := by exact rfl) (hs : C.stepD rec (T + i * wide) (evalOp C E) H o = some (v, e) := by exact rfl) : WL C rec ops i (o :: os) ⟨E, H, T, B⟩ Q := wl_e hd hg hs h
theorem kN {ops i o os E H T B d} {Q : St → Prop} (h : WL C rec ops (i + 1) os ⟨Env.set E d .undef, H, T, B⟩ Q) (hd : o.dst = d := by exact rfl) (hg : guardD ops E o = some false := by exact rfl) : WL C rec ops i (o :: os) ⟨E, H, T, B⟩ Q := wl_n hd hg h
theorem kB {ops i o os E H T B d} {b : Bool} {Q : St → Prop} (h : b = true → WL C rec ops (i + 1) os ⟨Env.set E d (.bool true), H, T, B⟩ Q) (h' : b = false → WL C rec ops (i + 1) os ⟨Env.set E d (.bool false), H, T, B⟩ Q) (hcm : isCmp o.op = true := by exact rfl) (hd : o.dst = d := by exact rfl) (hg : guardD ops E o = some true := by exact rfl) (hs : C.stepD rec (T + i * wide) (evalOp C E) H o = some (.bool b, []) := by exact rfl) : WL C rec ops i (o :: os) ⟨E, H, T, B⟩ Q := wl_c hcm hd hg hs h h'
theorem jV {ops i o os E H T B d v} {Q : St → Prop} (h : WK C rec ops (i + 1) os ⟨Env.set E d v, H, T, B⟩ Q) (hd : o.dst = d := by exact rfl) (hg : guardD ops (seenE ops o E) o = some true := by exact rfl) (hs : C.stepD rec (T + i * wide) (evalOp C (seenE ops o E)) (seenH ops E T i H) o = some (v, []) := by exact rfl) : WK C rec ops i (o :: os) ⟨E, H, T, B⟩ Q := wk_v hd hg hs h
theorem jE {ops i o os E H T B d v} {e : Eff} {Q : St → Prop} (h : WK C rec ops (i + 1) os ⟨Env.set E d v, Heap.put H e, T, B⟩ Q) (hd : o.dst = d := by exact rfl) (hg : guardD ops (seenE ops o E) o = some true := by exact rfl) (hs : C.stepD rec (T + i * wide) (evalOp C (seenE ops o E)) (seenH ops E T i H) o = some (v, e) := by exact rfl) (hw : (e.all fun p => mayWrite ops E T i p.1) = true := by first | exact rfl | kernel_rfl) : WK C rec ops i (o :: os) ⟨E, H, T, B⟩ Q := wk_e hd hg hs hw h
theorem jN {ops i o os E H T B d} {Q : St → Prop} (h : WK C rec ops (i + 1) os ⟨Env.set E d .undef, H, T, B⟩ Q) (hd : o.dst = d := by exact rfl) (hg : guardD ops (seenE ops o E) o = some false := by exact rfl) : WK C rec ops i (o :: os) ⟨E, H, T, B⟩ Q := wk_n hd hg h
theorem jB {ops i o os E H T B d} {b : Bool} {Q : St → Prop} (h : b = true → WK C rec ops (i + 1) os ⟨Env.set E d (.bool true), H, T, B⟩ Q) (h' : b = false → WK C rec ops (i + 1) os ⟨Env.set E d (.bool false), H, T, B⟩ Q) (hcm : isCmp o.op = true := by exact rfl) (hd : o.dst = d := by exact rfl) (hg : guardD ops (seenE ops o E) o = some true := by exact rfl) (hs : C.stepD rec (T + i * wide) (evalOp C (seenE ops o E)) (seenH ops E T i H) o = some (.bool b, []) := by exact rfl) : WK C rec ops i (o :: os) ⟨E, H, T, B⟩ Q := wk_c hcm hd hg hs h h'
theorem kC {ops i o os E H T B d c g args args' v m hs' r} {Q : St → Prop} (h : WL C rec ops (i + 1) os ⟨Env.set E d r.1, Heap.put H r.2, T, B⟩ Q) (ho : o.op = .call c := by exact rfl) (hnb : isB c.callee = false := by exact rfl) (hd : o.dst = d := by exact rfl) (hg : guardD ops E o = some true := by exact rfl) (ht : C.target (evalOp C E) c = some (g, args) := by exact rfl) (hm : C.mode g = some m := by first | exact rfl | assumption) (hs : m ≠ .shared := by decide) (hf : DV.freezes H args = some args' := by first | exact rfl | (repeat' (first | exact rfl | refine' fz_cons ?_ ?_ | (refine' fz_ref rfl rfl rfl ?_ <;> simp) | refine' fz_agg ?_))) (ha : C.askD rec g args' = some (.done v hs') := by first | assumption | exact asks rfl (by assumption) | exact asks (by assumption) (by assumption))
    (hr : (if v.scalar then some (v, []) else if hs'.length ≤ wide then some (v.ren (backTo [] (T + i * wide) hs'.length), lentEff H (DV.idss args) ++ backEff (backTo [] (T + i * wide) hs'.length) 0 hs') else none) = some r := by exact rfl) (hw : v.scalar = true → hs'.length ≤ wide := by exact fun _ => Nat.le_of_ble_eq_true rfl) : WL C rec ops i (o :: os) ⟨E, H, T, B⟩ Q := wl_e hd hg (s_ask ho hnb ht hm hs hf ha hr hw) h
theorem jC {ops i o os E H T B d c g args args' v m hs' r} {Q : St → Prop} (h : WK C rec ops (i + 1) os ⟨Env.set E d r.1, Heap.put H r.2, T, B⟩ Q) (ho : o.op = .call c := by exact rfl) (hnb : isB c.callee = false := by exact rfl) (hd : o.dst = d := by exact rfl) (hg : guardD ops (seenE ops o E) o = some true := by exact rfl) (ht : C.target (evalOp C (seenE ops o E)) c = some (g, args) := by exact rfl) (hm : C.mode g = some m := by first | exact rfl | assumption) (hs : m ≠ .shared := by decide) (hf : DV.freezes (seenH ops E T i H) args = some args' := by first | exact rfl | (repeat' (first | exact rfl | refine' fz_cons ?_ ?_ | (refine' fz_ref rfl rfl rfl ?_ <;> simp) | refine' fz_agg ?_))) (ha : C.askD rec g args' = some (.done v hs') := by first | assumption | exact asks rfl (by assumption) | exact asks (by assumption) (by assumption))
    (hr : (if v.scalar then some (v, []) else if hs'.length ≤ wide then some (v.ren (backTo [] (T + i * wide) hs'.length), lentEff (seenH ops E T i H) (DV.idss args) ++ backEff (backTo [] (T + i * wide) hs'.length) 0 hs') else none) = some r := by exact rfl) (hw : v.scalar = true → hs'.length ≤ wide := by exact fun _ => Nat.le_of_ble_eq_true rfl) (hww : (r.2.all fun p => mayWrite ops E T i p.1) = true := by first | exact rfl | kernel_rfl) : WK C rec ops i (o :: os) ⟨E, H, T, B⟩ Q := wk_e hd hg (s_ask ho hnb ht hm hs hf ha hr hw) hww h
theorem kI {ops i o os E H T B d t x j elem es tt k n e} {Q : St → Prop} (h : WL C rec ops (i + 1) os ⟨Env.set E d (.iptr e 0), H, T, B⟩ Q) (ho : o.op = .indexAddr t x j := by exact rfl) (hd : o.dst = d := by exact rfl) (hg : guardD ops E o = some true := by exact rfl) (hu : C.P.underlying t = some (.slice elem) := by exact rfl) (hx : evalOp C E x = some (.list es tt) := by exact rfl) (hi : evalOp C E j = some (.int k n) := by exact rfl) (h0 : 0 ≤ n := by assumption) (he : es[n.toNat]? = some e := by assumption) (hz : C.size elem = some e.cells.length := by exact rfl) : WL C rec ops i (o :: os) ⟨E, H, T, B⟩ Q := wl_v hd hg (s_index ho hu hx hi h0 he hz) h
theorem jI {ops i o os E H T B d t x j elem es tt k n e} {Q : St → Prop} (h : WK C rec ops (i + 1) os ⟨Env.set E d (.iptr e 0), H, T, B⟩ Q) (ho : o.op = .indexAddr t x j := by exact rfl) (hd : o.dst = d := by exact rfl) (hg : guardD ops (seenE ops o E) o = some true := by exact rfl) (hu : C.P.underlying t = some (.slice elem) := by exact rfl) (hx : evalOp C (seenE ops o E) x = some (.list es tt) := by exact rfl) (hi : evalOp C (seenE ops o E) j = some (.int k n) := by exact rfl) (h0 : 0 ≤ n := by assumption) (he : es[n.toNat]? = some e := by assumption) (hz : C.size elem = some e.cells.length := by exact rfl) : WK C rec ops i (o :: os) ⟨E, H, T, B⟩ Q := wk_v hd hg (s_index ho hu hx hi h0 he hz) h
theorem kS {ops i o os E H T B d t x j s k n b} {Q : St → Prop} (h : WL C rec ops (i + 1) os ⟨Env.set E d (.int .u8 (b.toNat : Nat)), H, T, B⟩ Q) (ho : o.op = .index t x j := by exact rfl) (hd : o.dst = d := by exact rfl) (hg : guardD ops E o = some true := by exact rfl) (hu : C.P.underlying t = some .string := by exact rfl) (hx : evalOp C E x = some (.str s) := by exact rfl) (hi : evalOp C E j = some (.int k n) := by exact rfl) (h0 : 0 ≤ n := by assumption) (he : s[n.toNat]? = some b := by assumption) : WL C rec ops i (o :: os) ⟨E, H, T, B⟩ Q := wl_v hd hg (s_strix ho hu hx hi h0 he) h
theorem jS {ops i o os E H T B d t x j s k n b} {Q : St → Prop} (h : WK C rec ops (i + 1) os ⟨Env.set E d (.int .u8 (b.toNat : Nat)), H, T, B⟩ Q) (ho : o.op = .index t x j := by exact rfl) (hd : o.dst = d := by exact rfl) (hg : guardD ops (seenE ops o E) o = some true := by exact rfl) (hu : C.P.underlying t = some .string := by exact rfl) (hx : evalOp C (seenE ops o E) x = some (.str s) := by exact rfl) (hi : evalOp C (seenE ops o E) j = some (.int k n) := by exact rfl) (h0 : 0 ≤ n := by assumption) (he : s[n.toNat]? = some b := by assumption) : WK C rec ops i (o :: os) ⟨E, H, T, B⟩ Q := wk_v hd hg (s_strix ho hu hx hi h0 he) h
theorem kR {p l n ops os E H T B} {Q : Ex → St → Prop} (h : WL C rec ops 0 os ⟨E, H, T, B⟩ (RQ Q (T + os.length * wide))) (ho : ops.toList = os := by exact rfl) : WC C rec f p l (.region n ops false) ⟨E, H, T, B⟩ Q := wc_region ho h
theorem jR {p l n ops os E H T B} {Q : Ex → St → Prop} (h : WK C rec ops 0 os ⟨E, H, T, B⟩ (RQ Q (T + os.length * wide))) (ho : ops.toList = os := by exact rfl) : WC C rec f p l (.region n ops true) ⟨E, H, T, B⟩ Q := wc_draw ho h
theorem kX {Q : Ex → St → Prop} {id j s} (h : Q (.exit j) s) (hj : Nat.beq j id = false := by exact rfl) : onx id Q (.exit j) s := wx_on hj h
theorem kF {p l c a b s} {t : Bool} {Q : Ex → St → Prop} (ha : t = true → WC C rec f (false :: p) l a s Q) (hb : t = false → WC C rec f (true :: p) l b s Q) (h : evalOp C s.env c = some (.bool t) := by exact rfl) : WC C rec f p l (.cond c a b) s Q := wc_cond h ha hb
end
end Go.PM
end
section
namespace Go.PM
section
variable {C : Cfg} {rec : Req → Option Res}
theorem s_bin {slot ev rd o op t x y tt a b v} (ho : o.op = .binOp op t x y tt) (hx : ev x = some a) (hy : ev y = some b) (hv : binD op a b = some v) : C.stepD rec slot ev rd o = some (v, []) := by
  unfold Cfg.stepD
  rw [ho]
  dsimp only
  unfold Cfg.opD
  rw [ho]
  dsimp only
  rw [hx, hy]
  dsimp only
  unfold Cfg.binT
  rw [hv]
  rfl
theorem s_un {slot ev rd o op t x a v} (ho : o.op = .unOp op t x) (hx : ev x = some a) (hv : unD op a = some v) : C.stepD rec slot ev rd o = some (v, []) := by
  unfold Cfg.stepD
  rw [ho]
  dsimp only
  unfold Cfg.opD
  rw [ho]
  dsimp only
  rw [hx]
  dsimp only
  rw [hv]
  rfl
theorem kZ {ops i o os E H T B d t x y tt a b} {Q : St → Prop} (op : BinOp) (v : DV) (h : WL C rec ops (i + 1) os ⟨Env.set E d v, H, T, B⟩ Q) (ho : o.op = .binOp op t x y tt := by exact rfl) (hd : o.dst = d := by exact rfl) (hg : guardD ops E o = some true := by exact rfl) (hx : evalOp C E x = some a := by exact rfl) (hy : evalOp C E y = some b := by exact rfl) (hv : binD op a b = some v := by first | assumption | kernel_rfl) : WL C rec ops i (o :: os) ⟨E, H, T, B⟩ Q := wl_v hd hg (s_bin ho hx hy hv) h
theorem jZ {ops i o os E H T B d t x y tt a b} {Q : St → Prop} (op : BinOp) (v : DV) (h : WK C rec ops (i + 1) os ⟨Env.set E d v, H, T, B⟩ Q) (ho : o.op = .binOp op t x y tt := by exact rfl) (hd : o.dst = d := by exact rfl) (hg : guardD ops (seenE ops o E) o = some true := by exact rfl) (hx : evalOp C (seenE ops o E) x = some a := by exact rfl) (hy : evalOp C (seenE ops o E) y = some b := by exact rfl) (hv : binD op a b = some v := by first | assumption | kernel_rfl) : WK C rec ops i (o :: os) ⟨E, H, T, B⟩ Q := wk_v hd hg (s_bin ho hx hy hv) h
theorem kY {ops i o os E H T B d t x a} {Q : St → Prop} (op : UnOp) (v : DV) (h : WL C rec ops (i + 1) os ⟨Env.set E d v, H, T, B⟩ Q) (ho : o.op = .unOp op t x := by exact rfl) (hd : o.dst = d := by exact rfl) (hg : guardD ops E o = some true := by exact rfl) (hx : evalOp C E x = some a := by exact rfl) (hv : unD op a = some v := by first | assumption | kernel_rfl) : WL C rec ops i (o :: os) ⟨E, H, T, B⟩ Q := wl_v hd hg (s_un ho hx hv) h
theorem jY {ops i o os E H T B d t x a} {Q : St → Prop} (op : UnOp) (v : DV) (h : WK C rec ops (i + 1) os ⟨Env.set E d v, H, T, B⟩ Q) (ho : o.op = .unOp op t x := by exact rfl) (hd : o.dst = d := by exact rfl) (hg : guardD ops (seenE ops o E) o = some true := by exact rfl) (hx : evalOp C (seenE ops o E) x = some a := by exact rfl) (hv : unD op a = some v := by first | assumption | kernel_rfl) : WK C rec ops i (o :: os) ⟨E, H, T, B⟩ Q := wk_v hd hg (s_un ho hx hv) h
theorem b_shr {k : IntKind} {a b v : Int} {k' : IntKind} (h : 0 ≤ b) (hv : a.fdiv (2 ^ (min b.toNat k.bits)) = v) : binD .shr (.int k a) (.int k' b) = some (.int k v) := by
  unfold binD
  dsimp only
  rw [if_neg (by omega), hv]
theorem b_quo {k : IntKind} {a b v : Int} (h : b ≠ 0) (hv : k.wrap (a.tdiv b) = v) : binD .quo (.int k a) (.int k b) = some (.int k v) := by
  unfold binD
  dsimp only
  rw [if_neg (fun h => h rfl), if_neg h, hv]
theorem b_rem {k : IntKind} {a b v : Int} (h : b ≠ 0) (hv : a.tmod b = v) : binD .rem (.int k a) (.int k b) = some (.int k v) := by
  unfold binD
  dsimp only
  rw [if_neg (fun h => h rfl), if_neg h, hv]
theorem s_place {slot ev rd o t x i elem id off len cap b k n} (ho : o.op = .indexAddr t x i) (hu : C.P.underlying t = some (.slice elem)) (hx : ev x = some (.ref id off len cap)) (hi : ev i = some (.int k n)) (h0 : (0 : Int) ≤ n) (h1 : n < ((len : Nat) : Int)) (hb : rowAt rd id = some b) (hz : C.size elem = some b.sz) : C.stepD rec slot ev rd o = some (.ptr id (off + n.toNat) 0, []) := by
  unfold Cfg.stepD
  rw [ho]
  dsimp only
  unfold Cfg.opD
  rw [ho]
  dsimp only
  rw [hx, hi]
  dsimp only
  unfold Cfg.indexAddrD
  rw [hu]
  dsimp only
  rw [if_pos (by simp; omega), hb]
  dsimp only
  rw [if_pos hz]
  rfl
theorem s_load {slot ev rd o t x id ix b e v} (ho : o.op = .load t x) (hx : ev x = some (.ptr id ix 0)) (hb : rowAt rd id = some b) (he : b.elems[ix]? = some e) (hv : C.part t e.cells 0 = some v) : C.stepD rec slot ev rd o = some (v, []) := by
  unfold Cfg.stepD
  rw [ho]
  dsimp only
  unfold Cfg.opD
  rw [ho]
  dsimp only
  rw [hx]
  dsimp only
  unfold Cfg.loadD
  dsimp only
  rw [hb]
  dsimp only
  rw [he]
  dsimp only
  rw [hv]
  rfl
def isAggD : DV → Bool
  | .agg _ => true
  | _ => false
theorem s_store {slot ev rd o t a y id ix b e x} (ho : o.op = .store t a y) (ha : ev a = some (.ptr id ix 0)) (hy : ev y = some x) (hb : rowAt rd id = some b) (he : b.elems[ix]? = some e) (hz : C.size t = some 1) (hs : x.storable = true) (hl : x.cells.length = 1) (hel : e.cells.length = 1) (hf : b.fz = false) (hi : (!b.leaf || x.imm) = true) (hna : isAggD e = false) (hnx : isAggD x = false) : C.stepD rec slot ev rd o = some (.undef, [(id, some (.row { b with elems := b.elems.set ix x }))]) := by
  unfold Cfg.stepD
  rw [ho]
  dsimp only
  unfold Cfg.opD
  rw [ho]
  dsimp only
  rw [ha, hy]
  dsimp only
  unfold Cfg.storeD
  dsimp only
  rw [hb]
  dsimp only
  rw [he, hz]
  dsimp only
  rw [hs, hl, hel, hf, hi]
  cases e <;> first | (cases hna; done) | (cases x <;> first | (cases hnx; done) | rfl)
theorem kP {ops i o os E H T B d t x j elem id off len cap b k n} {Q : St → Prop} (h : WL C rec ops (i + 1) os ⟨Env.set E d (.ptr id (off + Int.toNat n) 0), H, T, B⟩ Q) (ho : o.op = .indexAddr t x j := by exact rfl) (hd : o.dst = d := by exact rfl) (hg : guardD ops E o = some true := by exact rfl) (hu : C.P.underlying t = some (.slice elem) := by exact rfl) (hx : evalOp C E x = some (.ref id off len cap) := by exact rfl) (hi : evalOp C E j = some (.int k n) := by exact rfl) (h0 : (0 : Int) ≤ n := by assumption) (h1 : n < ((len : Nat) : Int) := by assumption) (hb : rowAt H id = some b := by exact rfl) (hz : C.size elem = some b.sz := by exact rfl) : WL C rec ops i (o :: os) ⟨E, H, T, B⟩ Q := wl_v hd hg (s_place ho hu hx hi h0 h1 hb hz) h
theorem jP {ops i o os E H T B d t x j elem id off len cap b k n} {Q : St → Prop} (h : WK C rec ops (i + 1) os ⟨Env.set E d (.ptr id (off + Int.toNat n) 0), H, T, B⟩ Q) (ho : o.op = .indexAddr t x j := by exact rfl) (hd : o.dst = d := by exact rfl) (hg : guardD ops (seenE ops o E) o = some true := by exact rfl) (hu : C.P.underlying t = some (.slice elem) := by exact rfl) (hx : evalOp C (seenE ops o E) x = some (.ref id off len cap) := by exact rfl) (hi : evalOp C (seenE ops o E) j = some (.int k n) := by exact rfl) (h0 : (0 : Int) ≤ n := by assumption) (h1 : n < ((len : Nat) : Int) := by assumption) (hb : rowAt (seenH ops E T i H) id = some b := by exact rfl) (hz : C.size elem = some b.sz := by exact rfl) : WK C rec ops i (o :: os) ⟨E, H, T, B⟩ Q := wk_v hd hg (s_place ho hu hx hi h0 h1 hb hz) h
theorem kD {ops i o os E H T B d t x id ix b e v} {Q : St → Prop} (h : WL C rec ops (i + 1) os ⟨Env.set E d v, H, T, B⟩ Q) (ho : o.op = .load t x := by exact rfl) (hd : o.dst = d := by exact rfl) (hg : guardD ops E o = some true := by exact rfl) (hx : evalOp C E x = some (.ptr id ix 0) := by exact rfl) (hb : rowAt H id = some b := by exact rfl) (he : b.elems[ix]? = some e := by assumption) (hv : C.part t e.cells 0 = some v := by exact rfl) : WL C rec ops i (o :: os) ⟨E, H, T, B⟩ Q := wl_v hd hg (s_load ho hx hb he hv) h
theorem jD {ops i o os E H T B d t x id ix b e v} {Q : St → Prop} (h : WK C rec ops (i + 1) os ⟨Env.set E d v, H, T, B⟩ Q) (ho : o.op = .load t x := by exact rfl) (hd : o.dst = d := by exact rfl) (hg : guardD ops (seenE ops o E) o = some true := by exact rfl) (hx : evalOp C (seenE ops o E) x = some (.ptr id ix 0) := by exact rfl) (hb : rowAt (seenH ops E T i H) id = some b := by exact rfl) (he : b.elems[ix]? = some e := by assumption) (hv : C.part t e.cells 0 = some v := by exact rfl) : WK C rec ops i (o :: os) ⟨E, H, T, B⟩ Q := wk_v hd hg (s_load ho hx hb he hv) h
theorem kT {ops i o os E H T B d t a y id ix b e x} {Q : St → Prop} (h : WL C rec ops (i + 1) os ⟨Env.set E d .undef, Heap.put H [(id, some (.row { b with elems := b.elems.set ix x }))], T, B⟩ Q) (ho : o.op = .store t a y := by exact rfl) (hd : o.dst = d := by exact rfl) (hg : guardD ops E o = some true := by exact rfl) (ha : evalOp C E a = some (.ptr id ix 0) := by exact rfl) (hy : evalOp C E y = some x := by exact rfl) (hb : rowAt H id = some b := by exact rfl) (he : b.elems[ix]? = some e := by assumption) (hz : C.size t = some 1 := by exact rfl) (hs : x.storable = true := by exact rfl) (hl : x.cells.length = 1 := by exact rfl) (hel : e.cells.length = 1 := by exact rfl) (hf : b.fz = false := by exact rfl) (hi : (!b.leaf || x.imm) = true := by exact rfl) (hna : isAggD e = false := by exact rfl) (hnx : isAggD x = false := by exact rfl) : WL C rec ops i (o :: os) ⟨E, H, T, B⟩ Q := wl_e hd hg (s_store ho ha hy hb he hz hs hl hel hf hi hna hnx) h
theorem jT {ops i o os E H T B d t a y id ix b e x} {Q : St → Prop} (h : WK C rec ops (i + 1) os ⟨Env.set E d .undef, Heap.put H [(id, some (.row { b with elems := b.elems.set ix x }))], T, B⟩ Q) (ho : o.op = .store t a y := by exact rfl) (hd : o.dst = d := by exact rfl) (hg : guardD ops (seenE ops o E) o = some true := by exact rfl) (ha : evalOp C (seenE ops o E) a = some (.ptr id ix 0) := by exact rfl) (hy : evalOp C (seenE ops o E) y = some x := by exact rfl) (hb : rowAt (seenH ops E T i H) id = some b := by exact rfl) (he : b.elems[ix]? = some e := by assumption) (hz : C.size t = some 1 := by exact rfl) (hs : x.storable = true := by exact rfl) (hl : x.cells.length = 1 := by exact rfl) (hel : e.cells.length = 1 := by exact rfl) (hf : b.fz = false := by exact rfl) (hi : (!b.leaf || x.imm) = true := by exact rfl) (hna : isAggD e = false := by exact rfl) (hnx : isAggD x = false := by exact rfl) (hw : mayWrite ops E T i id = true := by first | exact rfl | kernel_rfl) : WK C rec ops i (o :: os) ⟨E, H, T, B⟩ Q := wk_e hd hg (s_store ho ha hy hb he hz hs hl hel hf hi hna hnx) (by simp [hw]) h
theorem kQ {ops i o os E H T B d t x lo hi s k k'} {a b : Int} {Q : St → Prop} (h : WL C rec ops (i + 1) os ⟨Env.set E d (.str ((s.drop a.toNat).take (b.toNat - a.toNat))), H, T, B⟩ Q) (ho : o.op = .slice t x (some lo) (some hi) none := by exact rfl) (hd : o.dst = d := by exact rfl) (hg : guardD ops E o = some true := by exact rfl) (hu : C.P.underlying t = some .string := by exact rfl) (hx : evalOp C E x = some (.str s) := by exact rfl) (hl : evalOp C E lo = some (.int k a) := by exact rfl) (hh : evalOp C E hi = some (.int k' b) := by exact rfl) (h0 : 0 ≤ a := by assumption) (h1 : a ≤ b := by assumption) (h2 : b ≤ (s.length : Nat) := by assumption) : WL C rec ops i (o :: os) ⟨E, H, T, B⟩ Q := wl_v hd hg (s_cut ho hu hx hl hh h0 h1 h2) h
theorem jQ {ops i o os E H T B d t x lo hi s k k'} {a b : Int} {Q : St → Prop} (h : WK C rec ops (i + 1) os ⟨Env.set E d (.str ((s.drop a.toNat).take (b.toNat - a.toNat))), H, T, B⟩ Q) (ho : o.op = .slice t x (some lo) (some hi) none := by exact rfl) (hd : o.dst = d := by exact rfl) (hg : guardD ops (seenE ops o E) o = some true := by exact rfl) (hu : C.P.underlying t = some .string := by exact rfl) (hx : evalOp C (seenE ops o E) x = some (.str s) := by exact rfl) (hl : evalOp C (seenE ops o E) lo = some (.int k a) := by exact rfl) (hh : evalOp C (seenE ops o E) hi = some (.int k' b) := by exact rfl) (h0 : 0 ≤ a := by assumption) (h1 : a ≤ b := by assumption) (h2 : b ≤ (s.length : Nat) := by assumption) : WK C rec ops i (o :: os) ⟨E, H, T, B⟩ Q := wk_v hd hg (s_cut ho hu hx hl hh h0 h1 h2) h
theorem roomy_le {n b : Nat} (h : n < 10000000) (hb : Nat.ble b 1000000 = true) : roomy n b = true := by
  have hb := Nat.le_of_ble_eq_true hb
  have : n * b ≤ 10000000 * 1000000 := Nat.mul_le_mul (by omega) hb
  simp only [roomy, Bool.and_eq_true, decide_eq_true_eq]
  omega
theorem kAn {ops i o os E H T B d} {c : Call} {elem : TypeId} {size bytes : Nat} {inf} {x : DV} {ys : List DV} {n m : Nat} {es : List DV} {Q : St → Prop} (h : WL C rec ops (i + 1) os ⟨Env.set E d (.ref (T + i * wide) 0 m none), Heap.put H [(T + i * wide, some (Blk.row { elems := es, elem := elem, sz := size, ext := none, leaf := true, fz := false }))], T, B⟩ Q) (ho : o.op = .call c := by exact rfl) (hc : c.callee = .builtin .append := by exact rfl) (hd : o.dst = d := by exact rfl) (hg : guardD ops E o = some true := by exact rfl) (h0 : (c.args[0]?).bind (evalOp C E) = some (.list [] true) := by exact rfl) (h1 : (c.args[1]?).bind (evalOp C E) = some x := by exact rfl) (hu : (c.argTypes[0]?).bind C.P.underlying = some (.slice elem) := by exact rfl) (hz : C.size elem = some size := by exact rfl) (hi : C.P.info? elem = some inf := by exact rfl) (hgd : (decide (0 < size) && c.argTypes[1]? == c.argTypes[0]? && c.args.size == 2 && c.argTypes.size == 2 && (inf.zero.map (·.cells.size)) == some size) = true := by exact rfl) (hby : inf.bytes = bytes := by exact rfl) (hy : elemsOf H x = some ys := by exact rfl) (hys : headSz size ys = true := by first | assumption | exact rfl) (hn : ys.length = n + 1 := by first | assumption | exact rfl) (hr : roomy ys.length bytes = true := by first | assumption | (refine roomy_le ?_ rfl; first | (simp only [List.length_map, List.length_cons, List.length_append, List.length_nil]; omega) | (simp [setElems, replic]; omega))) (hm : ys.length = m := by exact rfl) (hes : ys = es := by exact rfl) : WL C rec ops i (o :: os) ⟨E, H, T, B⟩ Q := by
  subst hm hes
  exact wl_e hd hg (s_app bytes ho hc h0 h1 hu hz hi hgd hby (a_nil hy hys hn hr)) h
theorem kAo {ops i o os E H T B d} {c : Call} {elem : TypeId} {size bytes : Nat} {inf} {x : DV} {ys : List DV} {n m : Nat} {es : List DV} {id len : Nat} {b : Row} {Q : St → Prop} (h : WL C rec ops (i + 1) os ⟨Env.set E d (.ref (T + i * wide) 0 m none), Heap.put H [(id, none), (T + i * wide, some (Blk.row { elems := es, elem := elem, sz := size, ext := none, leaf := true, fz := false }))], T, B⟩ Q) (ho : o.op = .call c := by exact rfl) (hc : c.callee = .builtin .append := by exact rfl) (hd : o.dst = d := by exact rfl) (hg : guardD ops E o = some true := by exact rfl) (h0 : (c.args[0]?).bind (evalOp C E) = some (.ref id 0 len none) := by exact rfl) (h1 : (c.args[1]?).bind (evalOp C E) = some x := by exact rfl) (hu : (c.argTypes[0]?).bind C.P.underlying = some (.slice elem) := by exact rfl) (hz : C.size elem = some size := by exact rfl) (hi : C.P.info? elem = some inf := by exact rfl) (hgd : (decide (0 < size) && c.argTypes[1]? == c.argTypes[0]? && c.args.size == 2 && c.argTypes.size == 2 && (inf.zero.map (·.cells.size)) == some size) = true := by exact rfl) (hby : inf.bytes = bytes := by exact rfl) (hy : elemsOf H x = some ys := by exact rfl) (hys : headSz size ys = true := by first | assumption | exact rfl) (hn : ys.length = n + 1 := by first | assumption | exact rfl) (hb : rowAt H id = some b := by exact rfl) (hl : b.leaf = true := by exact rfl) (hf : b.fz = false := by exact rfl) (he : b.elem = elem := by exact rfl) (hs : b.sz = size := by exact rfl) (hx : b.ext = none := by exact rfl) (hr : roomy (len + ys.length) bytes = true := by first | assumption | (refine roomy_le ?_ rfl; first | (simp only [List.length_map, List.length_cons, List.length_append, List.length_nil]; omega) | (simp [setElems, replic]; omega))) (hle : len ≤ b.elems.length := by first | assumption | (simp; done) | (simp; omega)) (hm : len + ys.length = m := by exact rfl) (hes : b.elems.take len ++ ys = es := by exact rfl) : WL C rec ops i (o :: os) ⟨E, H, T, B⟩ Q := wl_e hd hg (s_app bytes ho hc h0 h1 hu hz hi hgd hby (a_on hy hys hn hb hl hf he hs hx hr hle hm hes)) h
theorem jAn {ops i o os E H T B d} {c : Call} {elem : TypeId} {size bytes : Nat} {inf} {x : DV} {ys : List DV} {n m : Nat} {es : List DV} {Q : St → Prop} (h : WK C rec ops (i + 1) os ⟨Env.set E d (.ref (T + i * wide) 0 m none), Heap.put H [(T + i * wide, some (Blk.row { elems := es, elem := elem, sz := size, ext := none, leaf := true, fz := false }))], T, B⟩ Q) (ho : o.op = .call c := by exact rfl) (hc : c.callee = .builtin .append := by exact rfl) (hd : o.dst = d := by exact rfl) (hg : guardD ops (seenE ops o E) o = some true := by exact rfl) (h0 : (c.args[0]?).bind (evalOp C (seenE ops o E)) = some (.list [] true) := by exact rfl) (h1 : (c.args[1]?).bind (evalOp C (seenE ops o E)) = some x := by exact rfl) (hu : (c.argTypes[0]?).bind C.P.underlying = some (.slice elem) := by exact rfl) (hz : C.size elem = some size := by exact rfl) (hi : C.P.info? elem = some inf := by exact rfl) (hgd : (decide (0 < size) && c.argTypes[1]? == c.argTypes[0]? && c.args.size == 2 && c.argTypes.size == 2 && (inf.zero.map (·.cells.size)) == some size) = true := by exact rfl) (hby : inf.bytes = bytes := by exact rfl) (hy : elemsOf (seenH ops E T i H) x = some ys := by exact rfl) (hys : headSz size ys = true := by first | assumption | exact rfl) (hn : ys.length = n + 1 := by first | assumption | exact rfl) (hr : roomy ys.length bytes = true := by first | assumption | (refine roomy_le ?_ rfl; first | (simp only [List.length_map, List.length_cons, List.length_append, List.length_nil]; omega) | (simp [setElems, replic]; omega))) (hm : ys.length = m := by exact rfl) (hes : ys = es := by exact rfl) (hw : (List.all [(T + i * wide, some (Blk.row { elems := es, elem := elem, sz := size, ext := none, leaf := true, fz := false }))] fun p => mayWrite ops E T i p.1) = true := by first | exact rfl | kernel_rfl) : WK C rec ops i (o :: os) ⟨E, H, T, B⟩ Q := by
  subst hm hes
  exact wk_e hd hg (s_app bytes ho hc h0 h1 hu hz hi hgd hby (a_nil hy hys hn hr)) hw h
theorem jAo {ops i o os E H T B d} {c : Call} {elem : TypeId} {size bytes : Nat} {inf} {x : DV} {ys : List DV} {n m : Nat} {es : List DV} {id len : Nat} {b : Row} {Q : St → Prop} (h : WK C rec ops (i + 1) os ⟨Env.set E d (.ref (T + i * wide) 0 m none), Heap.put H [(id, none), (T + i * wide, some (Blk.row { elems := es, elem := elem, sz := size, ext := none, leaf := true, fz := false }))], T, B⟩ Q) (ho : o.op = .call c := by exact rfl) (hc : c.callee = .builtin .append := by exact rfl) (hd : o.dst = d := by exact rfl) (hg : guardD ops (seenE ops o E) o = some true := by exact rfl) (h0 : (c.args[0]?).bind (evalOp C (seenE ops o E)) = some (.ref id 0 len none) := by exact rfl) (h1 : (c.args[1]?).bind (evalOp C (seenE ops o E)) = some x := by exact rfl) (hu : (c.argTypes[0]?).bind C.P.underlying = some (.slice elem) := by exact rfl) (hz : C.size elem = some size := by exact rfl) (hi : C.P.info? elem = some inf := by exact rfl) (hgd : (decide (0 < size) && c.argTypes[1]? == c.argTypes[0]? && c.args.size == 2 && c.argTypes.size == 2 && (inf.zero.map (·.cells.size)) == some size) = true := by exact rfl) (hby : inf.bytes = bytes := by exact rfl) (hy : elemsOf (seenH ops E T i H) x = some ys := by exact rfl) (hys : headSz size ys = true := by first | assumption | exact rfl) (hn : ys.length = n + 1 := by first | assumption | exact rfl) (hb : rowAt (seenH ops E T i H) id = some b := by exact rfl) (hl : b.leaf = true := by exact rfl) (hf : b.fz = false := by exact rfl) (he : b.elem = elem := by exact rfl) (hs : b.sz = size := by exact rfl) (hx : b.ext = none := by exact rfl) (hr : roomy (len + ys.length) bytes = true := by first | assumption | (refine roomy_le ?_ rfl; first | (simp only [List.length_map, List.length_cons, List.length_append, List.length_nil]; omega) | (simp [setElems, replic]; omega))) (hle : len ≤ b.elems.length := by first | assumption | (simp; done) | (simp; omega)) (hm : len + ys.length = m := by exact rfl) (hes : b.elems.take len ++ ys = es := by exact rfl) (hw : (List.all [(id, none), (T + i * wide, some (Blk.row { elems := es, elem := elem, sz := size, ext := none, leaf := true, fz := false }))] fun p => mayWrite ops E T i p.1) = true := by first | exact rfl | kernel_rfl) : WK C rec ops i (o :: os) ⟨E, H, T, B⟩ Q := wk_e hd hg (s_app bytes ho hc h0 h1 hu hz hi hgd hby (a_on hy hys hn hb hl hf he hs hx hr hle hm hes)) hw h
theorem elems_whole {rd : Nat → Option Blk} {id len : Nat} {cp b} (hb : rowAt rd id = some b) (hl : b.leaf = true) (hn : b.elems.length = len) : elemsOf rd (.ref id 0 len cp) = some b.elems := by
  subst hn
  unfold elemsOf
  dsimp only
  rw [hb]
  dsimp only
  rw [hl, if_pos (by simp), List.drop_zero, List.take_length]
theorem s_text {slot ev rd o src dst x e v es s} (ho : o.op = .convert src dst x) (hu : C.P.underlying src = some (.slice e)) (hd : C.P.underlying dst = some .string) (hx : ev x = some v) (he : C.P.underlying e = some (.int .u8)) (hv : elemsOf rd v = some es) (hs : bytesOf es = some s) : C.stepD rec slot ev rd o = some (.str s, []) := by
  unfold Cfg.stepD
  rw [ho]
  dsimp only
  unfold Cfg.opD
  rw [ho]
  dsimp only
  rw [hx]
  dsimp only
  unfold Cfg.convD
  rw [hu, hd]
  have hne : ∀ b, v ≠ .str b := by
    rintro b rfl
    cases hv
  cases v <;> first | (cases hv; done) | (dsimp only; rw [he, hv]; dsimp only; rw [hs]; rfl)
theorem kW {ops i o os E H T B d src dst x e id len cp b s} {Q : St → Prop} (h : WL C rec ops (i + 1) os ⟨Env.set E d (.str s), H, T, B⟩ Q) (ho : o.op = .convert src dst x := by exact rfl) (hd : o.dst = d := by exact rfl) (hg : guardD ops E o = some true := by exact rfl) (hu : C.P.underlying src = some (.slice e) := by exact rfl) (hdd : C.P.underlying dst = some .string := by exact rfl) (hx : evalOp C E x = some (.ref id 0 len cp) := by exact rfl) (he : C.P.underlying e = some (.int .u8) := by exact rfl) (hb : rowAt H id = some b := by exact rfl) (hl : b.leaf = true := by exact rfl) (hn : b.elems.length = len := by first | assumption | exact rfl | (simp; done)) (hs : bytesOf b.elems = some s := by assumption) : WL C rec ops i (o :: os) ⟨E, H, T, B⟩ Q := wl_v hd hg (s_text ho hu hdd hx he (elems_whole hb hl hn) hs) h
theorem jW {ops i o os E H T B d src dst x e id len cp b s} {Q : St → Prop} (h : WK C rec ops (i + 1) os ⟨Env.set E d (.str s), H, T, B⟩ Q) (ho : o.op = .convert src dst x := by exact rfl) (hd : o.dst = d := by exact rfl) (hg : guardD ops (seenE ops o E) o = some true := by exact rfl) (hu : C.P.underlying src = some (.slice e) := by exact rfl) (hdd : C.P.underlying dst = some .string := by exact rfl) (hx : evalOp C (seenE ops o E) x = some (.ref id 0 len cp) := by exact rfl) (he : C.P.underlying e = some (.int .u8) := by exact rfl) (hb : rowAt (seenH ops E T i H) id = some b := by exact rfl) (hl : b.leaf = true := by exact rfl) (hn : b.elems.length = len := by first | assumption | exact rfl | (simp; done)) (hs : bytesOf b.elems = some s := by assumption) : WK C rec ops i (o :: os) ⟨E, H, T, B⟩ Q := wk_v hd hg (s_text ho hu hdd hx he (elems_whole hb hl hn) hs) h
theorem hb_pure {f : FuncId} {v v' : DV} {h : Heap} (hm : C.mode f = some .pure) (hf : v.freeze h = some v') : C.handBack f 0 v h = some (.done v' []) := by
  unfold Cfg.handBack
  rw [hm]
  dsimp only
  rw [if_pos rfl, hf]
  rfl
theorem s_sliceS {slot ev rd o t x lo hi s v} {a b : Option Int} (ho : o.op = .slice t x lo hi none) (hu : C.P.underlying t = some .string) (hx : ev x = some (.str s)) (hl : optInt ev lo = some a) (hh : optInt ev hi = some b) (hv : sliceS (.str s) a b none = some v) : C.stepD rec slot ev rd o = some (v, []) := by
  unfold Cfg.stepD
  rw [ho]
  dsimp only
  unfold Cfg.opD
  rw [ho]
  dsimp only
  have hn : optInt ev none = some none := rfl
  rw [hx, hl, hh, hn, hu]
  dsimp only
  rw [hv]
  rfl
theorem s_sliceD {slot ev rd o t x lo hi mx xs e n v} {a b c : Option Int} (ho : o.op = .slice t x lo hi mx) (hu : C.P.underlying t = some (.slice e)) (hx : ev x = some xs) (hl : optInt ev lo = some a) (hh : optInt ev hi = some b) (hm : optInt ev mx = some c) (hz : C.size e = some n) (h0 : 0 < n) (hv : sliceD rd n xs a b c = some v) : C.stepD rec slot ev rd o = some (v, []) := by
  unfold Cfg.stepD
  rw [ho]
  dsimp only
  unfold Cfg.opD
  rw [ho]
  dsimp only
  rw [hx, hl, hh, hm, hu]
  dsimp only
  rw [hz]
  dsimp only
  rw [if_pos h0, hv]
  rfl
theorem s_next {slot ev rd o x id} {s : List UInt8} {pos c w : Nat} (ho : o.op = .next x true) (hx : ev x = some (.ptr id 0 0)) (hb : rd id = some (.siter s pos)) (hd : decodeL s = some (c, w)) : C.stepD rec slot ev rd o = some (.tuple [.bool true, .int .i64 pos, .int .i32 c], [(id, some (.siter (s.drop w) (pos + w)))]) := by
  unfold Cfg.stepD
  rw [ho]
  dsimp only
  unfold Cfg.opD
  rw [ho]
  dsimp only
  simp only [hx, hb, hd]
theorem kG {ops i o os E H T B d t x lo hi s v} {a b : Option Int} {Q : St → Prop} (h : WL C rec ops (i + 1) os ⟨Env.set E d v, H, T, B⟩ Q) (ho : o.op = .slice t x lo hi none := by exact rfl) (hd : o.dst = d := by exact rfl) (hg : guardD ops E o = some true := by exact rfl) (hu : C.P.underlying t = some .string := by exact rfl) (hx : evalOp C E x = some (.str s) := by exact rfl) (hl : optInt (evalOp C E) lo = some a := by exact rfl) (hh : optInt (evalOp C E) hi = some b := by exact rfl) (hv : sliceS (.str s) a b none = some v := by assumption) : WL C rec ops i (o :: os) ⟨E, H, T, B⟩ Q := wl_v hd hg (s_sliceS ho hu hx hl hh hv) h
theorem jG {ops i o os E H T B d t x lo hi s v} {a b : Option Int} {Q : St → Prop} (h : WK C rec ops (i + 1) os ⟨Env.set E d v, H, T, B⟩ Q) (ho : o.op = .slice t x lo hi none := by exact rfl) (hd : o.dst = d := by exact rfl) (hg : guardD ops (seenE ops o E) o = some true := by exact rfl) (hu : C.P.underlying t = some .string := by exact rfl) (hx : evalOp C (seenE ops o E) x = some (.str s) := by exact rfl) (hl : optInt (evalOp C (seenE ops o E)) lo = some a := by exact rfl) (hh : optInt (evalOp C (seenE ops o E)) hi = some b := by exact rfl) (hv : sliceS (.str s) a b none = some v := by assumption) : WK C rec ops i (o :: os) ⟨E, H, T, B⟩ Q := wk_v hd hg (s_sliceS ho hu hx hl hh hv) h
theorem kH {ops i o os E H T B d x id} {s : List UInt8} {pos c w : Nat} {Q : St → Prop} (h : WL C rec ops (i + 1) os ⟨Env.set E d (.tuple [.bool true, .int .i64 (pos : Nat), .int .i32 (c : Nat)]), Heap.put H [(id, some (.siter (s.drop w) (pos + w)))], T, B⟩ Q) (ho : o.op = .next x true := by exact rfl) (hd : o.dst = d := by exact rfl) (hg : guardD ops E o = some true := by exact rfl) (hx : evalOp C E x = some (.ptr id 0 0) := by exact rfl) (hb : H id = some (.siter s pos) := by exact rfl) (hv : decodeL s = some (c, w) := by assumption) : WL C rec ops i (o :: os) ⟨E, H, T, B⟩ Q := wl_e hd hg (s_next ho hx hb hv) h
theorem kL {ops i o os E H T B d t x lo hi mx xs e n v} {a b c : Option Int} {Q : St → Prop} (h : WL C rec ops (i + 1) os ⟨Env.set E d v, H, T, B⟩ Q) (ho : o.op = .slice t x lo hi mx := by exact rfl) (hd : o.dst = d := by exact rfl) (hg : guardD ops E o = some true := by exact rfl) (hu : C.P.underlying t = some (.slice e) := by exact rfl) (hx : evalOp C E x = some xs := by exact rfl) (hl : optInt (evalOp C E) lo = some a := by exact rfl) (hh : optInt (evalOp C E) hi = some b := by exact rfl) (hm : optInt (evalOp C E) mx = some c := by exact rfl) (hz : C.size e = some n := by exact rfl) (h0 : 0 < n := by exact Nat.le_of_ble_eq_true rfl) (hv : sliceD H n xs a b c = some v := by assumption) : WL C rec ops i (o :: os) ⟨E, H, T, B⟩ Q := wl_v hd hg (s_sliceD ho hu hx hl hh hm hz h0 hv) h
theorem jL {ops i o os E H T B d t x lo hi mx xs e n v} {a b c : Option Int} {Q : St → Prop} (h : WK C rec ops (i + 1) os ⟨Env.set E d v, H, T, B⟩ Q) (ho : o.op = .slice t x lo hi mx := by exact rfl) (hd : o.dst = d := by exact rfl) (hg : guardD ops (seenE ops o E) o = some true := by exact rfl) (hu : C.P.underlying t = some (.slice e) := by exact rfl) (hx : evalOp C (seenE ops o E) x = some xs := by exact rfl) (hl : optInt (evalOp C (seenE ops o E)) lo = some a := by exact rfl) (hh : optInt (evalOp C (seenE ops o E)) hi = some b := by exact rfl) (hm : optInt (evalOp C (seenE ops o E)) mx = some c := by exact rfl) (hz : C.size e = some n := by exact rfl) (h0 : 0 < n := by exact Nat.le_of_ble_eq_true rfl) (hv : sliceD (seenH ops E T i H) n xs a b c = some v := by assumption) : WK C rec ops i (o :: os) ⟨E, H, T, B⟩ Q := wk_v hd hg (s_sliceD ho hu hx hl hh hm hz h0 hv) h
theorem s_max {slot ev rd o c x r v} (ho : o.op = .call c) (hc : c.callee = .builtin .max) (ha : mapO ev c.args.toList = some (x :: r)) (hv : foldD (minD false) x r = some v) : C.stepD rec slot ev rd o = some (v, []) := by
  unfold Cfg.stepD
  rw [ho]
  dsimp only
  rw [hc]
  dsimp only
  unfold Cfg.opD
  rw [ho]
  dsimp only
  rw [hc]
  dsimp only
  rw [ha]
  dsimp only
  rw [hv]
  rfl
theorem kM {ops i o os E H T B d c x r v} {Q : St → Prop} (h : WL C rec ops (i + 1) os ⟨Env.set E d v, H, T, B⟩ Q) (ho : o.op = .call c := by exact rfl) (hc : c.callee = .builtin .max := by exact rfl) (hd : o.dst = d := by exact rfl) (hg : guardD ops E o = some true := by exact rfl) (ha : mapO (evalOp C E) c.args.toList = some (x :: r) := by exact rfl) (hv : foldD (minD false) x r = some v := by assumption) : WL C rec ops i (o :: os) ⟨E, H, T, B⟩ Q := wl_v hd hg (s_max ho hc ha hv) h
theorem jM {ops i o os E H T B d c x r v} {Q : St → Prop} (h : WK C rec ops (i + 1) os ⟨Env.set E d v, H, T, B⟩ Q) (ho : o.op = .call c := by exact rfl) (hc : c.callee = .builtin .max := by exact rfl) (hd : o.dst = d := by exact rfl) (hg : guardD ops (seenE ops o E) o = some true := by exact rfl) (ha : mapO (evalOp C (seenE ops o E)) c.args.toList = some (x :: r) := by exact rfl) (hv : foldD (minD false) x r = some v := by assumption) : WK C rec ops i (o :: os) ⟨E, H, T, B⟩ Q := wk_v hd hg (s_max ho hc ha hv) h
theorem b_cat {a b : List UInt8} (h : a.length + b.length ≤ 9223372036854775807) : binD .add (.str a) (.str b) = some (.str (a ++ b)) := by
  unfold binD strOp
  dsimp only
  rw [if_pos h]
theorem kJ {ops i o os E H T B d t x y tt} {a b : List UInt8} {Q : St → Prop} (h : WL C rec ops (i + 1) os ⟨Env.set E d (.str (a ++ b)), H, T, B⟩ Q) (ho : o.op = .binOp .add t x y tt := by exact rfl) (hd : o.dst = d := by exact rfl) (hg : guardD ops E o = some true := by exact rfl) (hx : evalOp C E x = some (.str a) := by exact rfl) (hy : evalOp C E y = some (.str b) := by exact rfl) (hl : a.length + b.length ≤ 9223372036854775807 := by first | assumption | (simp; omega)) : WL C rec ops i (o :: os) ⟨E, H, T, B⟩ Q := wl_v hd hg (s_bin ho hx hy (b_cat hl)) h
theorem jJ {ops i o os E H T B d t x y tt} {a b : List UInt8} {Q : St → Prop} (h : WK C rec ops (i + 1) os ⟨Env.set E d (.str (a ++ b)), H, T, B⟩ Q) (ho : o.op = .binOp .add t x y tt := by exact rfl) (hd : o.dst = d := by exact rfl) (hg : guardD ops (seenE ops o E) o = some true := by exact rfl) (hx : evalOp C (seenE ops o E) x = some (.str a) := by exact rfl) (hy : evalOp C (seenE ops o E) y = some (.str b) := by exact rfl) (hl : a.length + b.length ≤ 9223372036854775807 := by first | assumption | (simp; omega)) : WK C rec ops i (o :: os) ⟨E, H, T, B⟩ Q := wk_v hd hg (s_bin ho hx hy (b_cat hl)) h
end
end Go.PM
end
section
namespace Go.PM
section
variable {C : Cfg} {rec : Req → Option Res}
def ownSee (ops : Array Oper) (i k : Nat) : Bool := heapyAt ops i && (k == i || (anc ops i).testBit k)
theorem row_own {ops E T i k H b} (hm : ownSee ops i k = true) (h : rowAt H (T + k * wide) = some b) : rowAt (seenH ops E T i H) (T + k * wide) = some b := by
  have e : maySee ops E T i (T + k * wide) = true := by
    unfold ownSee at hm
    unfold maySee
    have hw : (T + k * wide - T) / wide = k := by
      rw [Nat.add_sub_cancel_left]
      exact Nat.mul_div_cancel k (by decide)
    rw [if_neg (Nat.not_lt.2 (Nat.le_add_right _ _)), hw]
    exact hm
  unfold rowAt seenH
  rw [if_pos e]
  exact h
theorem elems_own {ops E T i k H b} {n : Nat} {c} (hm : ownSee ops i k = true) (h : rowAt H (T + k * wide) = some b) (hl : b.leaf = true) (hn : b.elems.length = n) : elemsOf (seenH ops E T i H) (.ref (T + k * wide) 0 n c) = some b.elems := elems_whole (row_own hm h) hl hn
theorem jAm {ops i o os E H T B d} {c : Call} {elem : TypeId} {size bytes : Nat} {inf} {x : DV} {ys : List DV} {n m : Nat} {es : List DV} {Q : St → Prop} (h : WK C rec ops (i + 1) os ⟨Env.set E d (.ref (T + i * wide) 0 m none), Heap.put H [(T + i * wide, some (Blk.row { elems := es, elem := elem, sz := size, ext := none, leaf := true, fz := false }))], T, B⟩ Q) (ho : o.op = .call c := by exact rfl) (hc : c.callee = .builtin .append := by exact rfl) (hd : o.dst = d := by exact rfl) (hg : guardD ops (seenE ops o E) o = some true := by exact rfl) (h0 : (c.args[0]?).bind (evalOp C (seenE ops o E)) = some (.list [] true) := by exact rfl) (h1 : (c.args[1]?).bind (evalOp C (seenE ops o E)) = some x := by exact rfl) (hu : (c.argTypes[0]?).bind C.P.underlying = some (.slice elem) := by exact rfl) (hz : C.size elem = some size := by exact rfl) (hi : C.P.info? elem = some inf := by exact rfl) (hgd : (decide (0 < size) && c.argTypes[1]? == c.argTypes[0]? && c.args.size == 2 && c.argTypes.size == 2 && (inf.zero.map (·.cells.size)) == some size) = true := by exact rfl) (hby : inf.bytes = bytes := by exact rfl) (hy : elemsOf (seenH ops E T i H) x = some ys := by first | exact rfl | exact elems_own (by kernel_rfl) rfl rfl rfl) (hys : headSz size ys = true := by first | assumption | exact rfl) (hn : ys.length = n + 1 := by first | assumption | exact rfl) (hr : roomy ys.length bytes = true := by first | assumption | (refine roomy_le ?_ rfl; first | (simp only [List.length_map, List.length_cons, List.length_append, List.length_nil]; omega) | (simp [setElems, replic]; omega))) (hm : ys.length = m := by exact rfl) (hes : ys = es := by exact rfl) (hw : (List.all [(T + i * wide, some (Blk.row { elems := es, elem := elem, sz := size, ext := none, leaf := true, fz := false }))] fun p => mayWrite ops E T i p.1) = true := by first | exact rfl | kernel_rfl) : WK C rec ops i (o :: os) ⟨E, H, T, B⟩ Q := jAn h ho hc hd hg h0 h1 hu hz hi hgd hby hy hys hn hr hm hes hw
theorem jAp {ops i o os E H T B d} {c : Call} {elem : TypeId} {size bytes : Nat} {inf} {x : DV} {ys : List DV} {n m : Nat} {es : List DV} {id len : Nat} {b : Row} {Q : St → Prop} (h : WK C rec ops (i + 1) os ⟨Env.set E d (.ref (T + i * wide) 0 m none), Heap.put H [(id, none), (T + i * wide, some (Blk.row { elems := es, elem := elem, sz := size, ext := none, leaf := true, fz := false }))], T, B⟩ Q) (ho : o.op = .call c := by exact rfl) (hc : c.callee = .builtin .append := by exact rfl) (hd : o.dst = d := by exact rfl) (hg : guardD ops (seenE ops o E) o = some true := by exact rfl) (h0 : (c.args[0]?).bind (evalOp C (seenE ops o E)) = some (.ref id 0 len none) := by exact rfl) (h1 : (c.args[1]?).bind (evalOp C (seenE ops o E)) = some x := by exact rfl) (hu : (c.argTypes[0]?).bind C.P.underlying = some (.slice elem) := by exact rfl) (hz : C.size elem = some size := by exact rfl) (hi : C.P.info? elem = some inf := by exact rfl) (hgd : (decide (0 < size) && c.argTypes[1]? == c.argTypes[0]? && c.args.size == 2 && c.argTypes.size == 2 && (inf.zero.map (·.cells.size)) == some size) = true := by exact rfl) (hby : inf.bytes = bytes := by exact rfl) (hy : elemsOf (seenH ops E T i H) x = some ys := by first | exact rfl | exact elems_own (by kernel_rfl) rfl rfl rfl) (hys : headSz size ys = true := by first | assumption | exact rfl) (hn : ys.length = n + 1 := by first | assumption | exact rfl) (hb : rowAt (seenH ops E T i H) id = some b := by exact rfl) (hl : b.leaf = true := by exact rfl) (hf : b.fz = false := by exact rfl) (he : b.elem = elem := by exact rfl) (hs : b.sz = size := by exact rfl) (hx : b.ext = none := by exact rfl) (hr : roomy (len + ys.length) bytes = true := by first | assumption | (refine roomy_le ?_ rfl; first | (simp only [List.length_map, List.length_cons, List.length_append, List.length_nil]; omega) | (simp [setElems, replic]; omega))) (hle : len ≤ b.elems.length := by first | assumption | (simp; done) | (simp; omega)) (hm : len + ys.length = m := by exact rfl) (hes : b.elems.take len ++ ys = es := by exact rfl) (hw : (List.all [(id, none), (T + i * wide, some (Blk.row { elems := es, elem := elem, sz := size, ext := none, leaf := true, fz := false }))] fun p => mayWrite ops E T i p.1) = true := by first | exact rfl | kernel_rfl) : WK C rec ops i (o :: os) ⟨E, H, T, B⟩ Q := jAo h ho hc hd hg h0 h1 hu hz hi hgd hby hy hys hn hb hl hf he hs hx hr hle hm hes hw
end
end Go.PM
end
section
namespace Go.PM
open Go
set_option linter.unusedVariables false
def backL (es : List DV) : Nat → List (List DV)
  | 0 => []
  | k + 1 => [.int .i64 k, es.getD k .undef] :: backL es k
theorem backL_len (es : List DV) : ∀ k, (backL es k).length = k
  | 0 => rfl
  | k + 1 => by simp [backL, backL_len es k]
theorem backL_get (es : List DV) : ∀ (k j : Nat), j < k → (backL es k)[j]? = some [.int .i64 ((k - 1 - j : Nat) : Int), es.getD (k - 1 - j) .undef]
  | 0, j, h => by omega
  | k + 1, 0, h => by simp [backL]
  | k + 1, j + 1, h => by
    rw [backL, List.getElem?_cons_succ, backL_get es k j (by omega)]
    rw [show k + 1 - 1 - (j + 1) = k - 1 - j by omega]
def DV.plain1 : DV → Bool
  | .agg _ | .tuple _ | .undef | .dead => false
  | _ => true
def backX : List DV → Option (List (List DV))
  | [.iptr (.list es _) 0] => if es.all DV.plain1 && decide (es.length * 8 ≤ 140737488351232) then some (backL es es.length) else none
  | _ => none
theorem plain_cells {w : World} {N : Nat → Prop} {φ : Phi} {d : DV} {v : Value} (h : d.plain1 = true) (hr : Rep w N φ d v) : v.cells.toList = [v] := by
  cases d <;> simp only [DV.plain1] at h <;> unfold Rep at hr
  case bool => subst hr; rfl
  case int => subst hr; rfl
  case str => obtain ⟨t, rfl, _⟩ := hr; rfl
  case nilp => subst hr; rfl
  case ptr => rw [cells_one hr.1]
  case iptr => obtain ⟨_, _, b, o, x, rfl, _⟩ := hr; rfl
  case list => obtain ⟨_, A, c, rfl, _⟩ := hr; rfl
  case ref => rw [cells_one hr.1]
  case func => obtain ⟨vs, rfl, _⟩ := hr; rfl
  case nilf => subst hr; rfl
  case iface => obtain ⟨x, rfl, _⟩ := hr; rfl
  case nili => subst hr; rfl
  all_goals cases h
theorem row_cells {w : World} {N : Nat → Prop} {φ : Phi} {b o sz : Nat} : ∀ {es : List DV} {vs : List Value}, es.all DV.plain1 = true → RepEs w N φ sz es vs → vs.length = es.length ∧ ∀ (j : Nat) (d : DV), es[j]? = some d → ∃ x, vs[j]? = some x ∧ Rep w N φ d x
  | [], vs, _, h => by
    unfold RepEs at h
    subst h
    exact ⟨rfl, fun j d hd => by simp at hd⟩
  | d :: es, vs, ha, h => by
    unfold RepEs at h
    obtain ⟨x, r, rfl, h2, h3, h4, h5, h6⟩ := h
    simp only [List.all_cons, Bool.and_eq_true] at ha
    obtain ⟨k1, k2⟩ := row_cells (b := b) (o := o) ha.2 h6
    rw [plain_cells ha.1 h5]
    refine ⟨by simp [k1], fun j d' hd => ?_⟩
    cases j with
    | zero =>
      simp only [List.getElem?_cons_zero, Option.some.injEq] at hd
      subst hd
      exact ⟨x, rfl, h5⟩
    | succ j => exact k2 j d' (by simpa using hd)
structure Cells1 (w : World) (N : Nat → Prop) (es : List DV) (A : Option Addr) : Prop where
  nth : ∀ (j : Nat) (d : DV), es[j]? = some d → ∃ b o x, A = some ⟨b, o, none⟩ ∧ w.cell? ⟨b, o + j, none⟩ = some x ∧ b < w.heap.size ∧ ¬ N b ∧ Rep w N (fun _ => none) d x
theorem back_open {w : World} {N : Nat → Prop} {es : List DV} {t : Bool} {vals : List Value} (ha : es.all DV.plain1 = true) (h : RepL w N (fun _ => none) [.iptr (.list es t) 0] vals) :
    ∃ B o A c, vals = [.pointer (some ⟨B, o, none⟩)] ∧ B < w.heap.size ∧ ¬ N B ∧ w.cell? ⟨B, o, none⟩ = some (.slice A es.length c) ∧ Cells1 w N es A := by
  unfold RepL at h
  obtain ⟨x, r, rfl, h1, h2⟩ := h
  unfold RepL at h2
  subst h2
  unfold Rep at h1
  obtain ⟨_, _, B, o, y, rfl, hB, hn, hy, _, hc⟩ := h1
  unfold Rep at hy
  obtain ⟨_, A, c, rfl, _, _, hcs⟩ := hy
  refine ⟨B, o, A, c, rfl, hB, hn, by simpa using hc 0 (.slice A es.length c) rfl, ⟨fun j d hd => ?_⟩⟩
  rcases hcs with rfl | ⟨b, o2, sz, vs, rfl, hb, hnb, hes, hcv⟩
  · simp at hd
  · obtain ⟨k1, k2⟩ := row_cells (b := b) (o := o2) ha hes
    obtain ⟨x, hx, hxr⟩ := k2 j d hd
    exact ⟨b, o2, x, rfl, hcv j x hx, hb, hnb, hxr⟩
theorem Stay.cell {N : Nat → Prop} {w W : World} (h : Stay N w W) {b i : Nat} {x : Value} (hb : b < w.heap.size) (hn : ¬ N b) (hx : w.cell? ⟨b, i, none⟩ = some x) : W.cell? ⟨b, i, none⟩ = some x := by
  rw [← hx]
  exact World.cell?_of_block (h.same b hb hn)
theorem Stay.rep {N N1 : Nat → Prop} {w W W1 : World} (h : Stay N w W) (hg : Grown W W1) (hN : ∀ b, b < w.heap.size → N1 b → N b) {d : DV} {x : Value} (hx : Rep w N (fun _ => none) d x) : Rep W1 N1 (fun _ => none) d x :=
  hx.later ⟨Nat.le_trans h.size hg.size, fun b hb hn => (hg.same b (Nat.lt_of_lt_of_le hb h.size)).trans (h.same b hb hn), hN, fun _ _ h => .inl h⟩
theorem yield_any {P : Program} {m : Nat} {l : Nat} {args : Array Value} {W : World} {R : Ending → World → Prop} (h : YieldAt Fence.wide 0 P l args W R) : YieldAt Fence.wide m P l args W R := by
  obtain ⟨fn, tmps, assign, body, h1, h2, h3⟩ := h
  exact ⟨fn, tmps, assign, body, h1, h2, fun c cs _ => h3 c cs (room_wide _)⟩
end Go.PM
end
section
namespace Go.PM
section
variable {C : Cfg} {rec : Req → Option Res} {f : FuncId}
theorem wc_each {p l g ps as bd s} {Q : Ex → St → Prop} (ks : List Nat) {xs vals hs e vals' hs'} (ke : List Nat) (hk : keepsR ps as bd l = ks) (hx : C.seqOf s.env g = some xs) (hp : pack s.base (ks.map s.env) s.heap = some (vals, hs))
    (hr : rec (.each f p s.base xs vals hs) = some (.left e vals' hs')) (he : Ex.live l e = ke) (hQ : Q e { env := envOf ke vals', heap := heapOf hs', top := hs'.length, base := s.base }) : WC C rec f p l (.rangeFunc g ps as bd) s Q := by
  subst hk he
  refine ⟨⟨_, _, ?_, hQ⟩⟩
  unfold Cfg.runC
  rw [hx, hp]
  dsimp only
  rw [hr]
def EachQ (rec : Req → Option Res) (f : FuncId) (p : List Bool) (m : Nat) (ks : List Nat) (l : Live) (xs : List (List DV)) (E : Env) (r : Res) : Ex → St → Prop
  | .normal, s => ∃ vals' hs', pack m (ks.map E) s.heap = some (vals', hs') ∧ rec (.each f p m xs vals' hs') = some r
  | e, s => ∃ ke, Ex.live l e = ke ∧ ∃ vals' hs', pack m (ke.map E) s.heap = some (vals', hs') ∧ r = .left e vals' hs'
theorem eh_go {p m ks l r s xs E vals' hs'} (h : pack m (ks.map E) s.heap = some (vals', hs')) (hr : rec (.each f p m xs vals' hs') = some r) : EachQ rec f p m ks l xs E r .normal s := ⟨_, _, h, hr⟩
theorem eh_ret {p m ks l r s xs E vals' hs'} (ke : List Nat) (hk : Ex.live l .ret = ke) (h : pack m (ke.map E) s.heap = some (vals', hs')) (hr : r = .left .ret vals' hs') : EachQ rec f p m ks l xs E r .ret s := ⟨ke, hk, _, _, h, hr⟩
theorem eh_exit {p m ks l r s j xs E vals' hs'} (ke : List Nat) (hk : Ex.live l (.exit j) = ke) (h : pack m (ke.map E) s.heap = some (vals', hs')) (hr : r = .left (.exit j) vals' hs') : EachQ rec f p m ks l xs E r (.exit j) s := ⟨ke, hk, _, _, h, hr⟩
theorem each_nil {fn : Func} {c as bd : Code} {g : Operand} {ps : Array Nat} {l : Live} {p m vals hs r vals' hs'} (hf : C.P.funcs[f]? = some fn) (hb : fn.body = some c) (hc : codeAt c (Func.live fn) p = some (.rangeFunc g ps as bd, l)) (ks kn : List Nat) (hk : keepsR ps as bd l = ks) (hn : l.normal = kn)
    (hp : pack m (kn.map (envOf ks vals)) (heapOf hs) = some (vals', hs')) (hr : r = .left .normal vals' hs') : C.step rec (.each f p m [] vals hs) = some r := by
  subst hk hn hr
  unfold Cfg.step
  dsimp only
  rw [hf]
  dsimp only
  rw [hb]
  dsimp only
  rw [hc]
  dsimp only
  unfold Cfg.eachBody
  dsimp only
  rw [hp]
theorem each_cons {fn : Func} {c as bd : Code} {g : Operand} {ps : Array Nat} {l : Live} {p m x xs vals hs r} (hf : C.P.funcs[f]? = some fn) (hb : fn.body = some c) (hc : codeAt c (Func.live fn) p = some (.rangeFunc g ps as bd, l)) (ks kb : List Nat) (hk : keepsR ps as bd l = ks) (hkb : liveIn bd l.inR = kb)
    (hx : x.length = ps.size ∧ DV.imms x = true)
    (h : WC C rec f (false :: p) { l.inR with normal := kb } as { env := setParams (envOf ks vals) ps x, heap := heapOf hs, top := hs.length, base := hs.length } (onw (fun _ _ => False) fun s => WC C rec f (true :: p) l.inR bd s (EachQ rec f p m ks l xs (envOf ks vals) r))) : C.step rec (.each f p m (x :: xs) vals hs) = some r := by
  subst hk hkb
  obtain ⟨⟨e, s, h1, h2⟩⟩ := h
  unfold Cfg.step
  dsimp only
  rw [hf]
  dsimp only
  rw [hb]
  dsimp only
  rw [hc]
  dsimp only
  unfold Cfg.eachBody
  dsimp only
  rw [if_pos hx, h1]
  cases e with
  | normal =>
    obtain ⟨⟨e, s, h3, h4⟩⟩ := (show WC C rec f (true :: p) l.inR bd s _ from h2)
    dsimp only
    rw [h3]
    cases e with
    | normal =>
      obtain ⟨v2, h5, h6, h7⟩ := h4
      dsimp only
      rw [h6]
      exact h7
    | exit id =>
      obtain ⟨ke, rfl, v2, h5, h6, rfl⟩ := h4
      dsimp only
      rw [h6]
    | ret =>
      obtain ⟨ke, rfl, v2, h5, h6, rfl⟩ := h4
      dsimp only
      rw [h6]
  | exit id => exact (show False from h2).elim
  | ret => exact (show False from h2).elim
end
end Go.PM
end
section
namespace Go.PM
section
variable {C : Cfg} {rec : Req → Option Res}
theorem kAr {ops i o os E H T B d} {c : Call} {elem : TypeId} {size bytes : Nat} {inf} {x : DV} {ys : List DV} {n m : Nat} {es : List DV} {id len : Nat} {b : Row} {Q : St → Prop} (h : WL C rec ops (i + 1) os ⟨Env.set E d (.ref (T + i * wide) 0 m none), Heap.put H [(T + i * wide, some (Blk.row { elems := es, elem := elem, sz := size, ext := none, leaf := true, fz := false }))], T, B⟩ Q) (ho : o.op = .call c := by exact rfl) (hc : c.callee = .builtin .append := by exact rfl) (hd : o.dst = d := by exact rfl) (hg : guardD ops E o = some true := by exact rfl) (h0 : (c.args[0]?).bind (evalOp C E) = some (.ref id 0 len none) := by exact rfl) (h1 : (c.args[1]?).bind (evalOp C E) = some x := by exact rfl) (hu : (c.argTypes[0]?).bind C.P.underlying = some (.slice elem) := by exact rfl) (hz : C.size elem = some size := by exact rfl) (hi : C.P.info? elem = some inf := by exact rfl) (hgd : (decide (0 < size) && c.argTypes[1]? == c.argTypes[0]? && c.args.size == 2 && c.argTypes.size == 2 && (inf.zero.map (·.cells.size)) == some size) = true := by exact rfl) (hby : inf.bytes = bytes := by exact rfl) (hy : elemsOf H x = some ys := by exact rfl) (hys : headSz size ys = true := by first | assumption | exact rfl) (hn : ys.length = n + 1 := by first | assumption | exact rfl) (hb : rowAt H id = some b := by exact rfl) (hl : b.leaf = true := by exact rfl) (hf : b.fz = false := by exact rfl) (he : b.elem = elem := by exact rfl) (hs : b.sz = size := by exact rfl) {cr : Nat} (hx : capOf b 0 none = some cr := by exact rfl) (hlt : cr < len + ys.length := by first | assumption | exact Nat.le_of_ble_eq_true rfl | (simp; done) | (simp; omega)) (hr : roomy (len + ys.length) bytes = true := by first | assumption | (refine roomy_le ?_ rfl; first | (simp only [List.length_map, List.length_cons, List.length_append, List.length_nil]; omega) | (simp [setElems, replic]; omega))) (hle : 0 + len ≤ b.elems.length := by first | assumption | exact Nat.le_of_ble_eq_true rfl | (simp; done) | (simp; omega)) (hm : len + ys.length = m := by exact rfl) (hes : (b.elems.drop 0).take len ++ ys = es := by exact rfl) : WL C rec ops i (o :: os) ⟨E, H, T, B⟩ Q := wl_e hd hg (s_app bytes ho hc h0 h1 hu hz hi hgd hby (a_new hy hys hn hb hl hf he hs hx hlt hr hle hm hes)) h
theorem jAr {ops i o os E H T B d} {c : Call} {elem : TypeId} {size bytes : Nat} {inf} {x : DV} {ys : List DV} {n m : Nat} {es : List DV} {id len : Nat} {b : Row} {Q : St → Prop} (h : WK C rec ops (i + 1) os ⟨Env.set E d (.ref (T + i * wide) 0 m none), Heap.put H [(T + i * wide, some (Blk.row { elems := es, elem := elem, sz := size, ext := none, leaf := true, fz := false }))], T, B⟩ Q) (ho : o.op = .call c := by exact rfl) (hc : c.callee = .builtin .append := by exact rfl) (hd : o.dst = d := by exact rfl) (hg : guardD ops (seenE ops o E) o = some true := by exact rfl) (h0 : (c.args[0]?).bind (evalOp C (seenE ops o E)) = some (.ref id 0 len none) := by exact rfl) (h1 : (c.args[1]?).bind (evalOp C (seenE ops o E)) = some x := by exact rfl) (hu : (c.argTypes[0]?).bind C.P.underlying = some (.slice elem) := by exact rfl) (hz : C.size elem = some size := by exact rfl) (hi : C.P.info? elem = some inf := by exact rfl) (hgd : (decide (0 < size) && c.argTypes[1]? == c.argTypes[0]? && c.args.size == 2 && c.argTypes.size == 2 && (inf.zero.map (·.cells.size)) == some size) = true := by exact rfl) (hby : inf.bytes = bytes := by exact rfl) (hy : elemsOf (seenH ops E T i H) x = some ys := by first | exact rfl | exact elems_own (by kernel_rfl) rfl rfl rfl) (hys : headSz size ys = true := by first | assumption | exact rfl) (hn : ys.length = n + 1 := by first | assumption | exact rfl) (hb : rowAt (seenH ops E T i H) id = some b := by first | exact rfl | exact row_own (by kernel_rfl) rfl) (hl : b.leaf = true := by exact rfl) (hf : b.fz = false := by exact rfl) (he : b.elem = elem := by exact rfl) (hs : b.sz = size := by exact rfl) {cr : Nat} (hx : capOf b 0 none = some cr := by exact rfl) (hlt : cr < len + ys.length := by first | assumption | exact Nat.le_of_ble_eq_true rfl | (simp; done) | (simp; omega)) (hr : roomy (len + ys.length) bytes = true := by first | assumption | (refine roomy_le ?_ rfl; first | (simp only [List.length_map, List.length_cons, List.length_append, List.length_nil]; omega) | (simp [setElems, replic]; omega))) (hle : 0 + len ≤ b.elems.length := by first | assumption | exact Nat.le_of_ble_eq_true rfl | (simp; done) | (simp; omega)) (hm : len + ys.length = m := by exact rfl) (hes : (b.elems.drop 0).take len ++ ys = es := by exact rfl) (hw : (List.all [(T + i * wide, some (Blk.row { elems := es, elem := elem, sz := size, ext := none, leaf := true, fz := false }))] fun p => mayWrite ops E T i p.1) = true := by first | exact rfl | kernel_rfl) : WK C rec ops i (o :: os) ⟨E, H, T, B⟩ Q := wk_e hd hg (s_app bytes ho hc h0 h1 hu hz hi hgd hby (a_new hy hys hn hb hl hf he hs hx hlt hr hle hm hes)) hw h
theorem s_make {slot ev rd o t lo co elem z n i} {l c : Int} (ho : o.op = .makeSlice t lo co) (hu : C.P.underlying t = some (.slice elem)) (hl : ev lo = some (.int .i64 l)) (hc : ev co = some (.int .i64 c)) (hz : C.zero elem = some z) (hn : C.size elem = some n) (hi : C.P.info? elem = some i) (hp : 0 < n) (h0 : 0 ≤ l) (h1 : l ≤ c) (h2 : c ≤ 10000000) (hb : i.bytes ≤ 1000) (him : z.imm = true) (hcl : (z.cells.length == n) = true) :
    C.stepD rec slot ev rd o = some (.ref slot 0 l.toNat none, [(slot, some (.row { elems := replic c.toNat z, elem := elem, sz := n, ext := some c.toNat, leaf := true, fz := false }))]) := by
  unfold Cfg.stepD
  rw [ho]
  dsimp only
  unfold Cfg.opD
  rw [ho]
  dsimp only
  rw [hu, hl, hc]
  dsimp only
  rw [hz, hn, hi]
  dsimp only
  have hm : c.toNat * i.bytes ≤ 10000000 * 1000 := Nat.mul_le_mul (by omega) hb
  rw [if_pos]
  rw [him, hcl]
  simp only [Bool.and_true, Bool.and_eq_true, decide_eq_true_eq]
  omega
theorem kMk {ops i o os E H T B d t lo co elem z n inf} {l c : Int} {Q : St → Prop} (h : WL C rec ops (i + 1) os ⟨Env.set E d (.ref (T + i * wide) 0 l.toNat none), Heap.put H [(T + i * wide, some (.row { elems := replic c.toNat z, elem := elem, sz := n, ext := some c.toNat, leaf := true, fz := false }))], T, B⟩ Q) (ho : o.op = .makeSlice t lo co := by exact rfl) (hd : o.dst = d := by exact rfl) (hg : guardD ops E o = some true := by exact rfl) (hu : C.P.underlying t = some (.slice elem) := by exact rfl) (hl : evalOp C E lo = some (.int .i64 l) := by exact rfl) (hc : evalOp C E co = some (.int .i64 c) := by exact rfl) (hz : C.zero elem = some z := by exact rfl) (hn : C.size elem = some n := by exact rfl) (hi : C.P.info? elem = some inf := by exact rfl) (hp : 0 < n := by exact Nat.le_of_ble_eq_true rfl) (h0 : 0 ≤ l := by first | assumption | omega) (h1 : l ≤ c := by first | assumption | omega) (h2 : c ≤ 10000000 := by first | assumption | (simp; omega) | omega) (hb : inf.bytes ≤ 1000 := by exact Nat.le_of_ble_eq_true rfl) (him : z.imm = true := by exact rfl) (hcl : (z.cells.length == n) = true := by exact rfl) : WL C rec ops i (o :: os) ⟨E, H, T, B⟩ Q := wl_e hd hg (s_make ho hu hl hc hz hn hi hp h0 h1 h2 hb him hcl) h
theorem s_min {slot ev rd o c x r v} (ho : o.op = .call c) (hc : c.callee = .builtin .min) (ha : mapO ev c.args.toList = some (x :: r)) (hv : foldD (minD true) x r = some v) : C.stepD rec slot ev rd o = some (v, []) := by
  unfold Cfg.stepD
  rw [ho]
  dsimp only
  rw [hc]
  dsimp only
  unfold Cfg.opD
  rw [ho]
  dsimp only
  rw [hc]
  dsimp only
  rw [ha]
  dsimp only
  rw [hv]
  rfl
theorem kMi {ops i o os E H T B d c x r v} {Q : St → Prop} (h : WL C rec ops (i + 1) os ⟨Env.set E d v, H, T, B⟩ Q) (ho : o.op = .call c := by exact rfl) (hc : c.callee = .builtin .min := by exact rfl) (hd : o.dst = d := by exact rfl) (hg : guardD ops E o = some true := by exact rfl) (ha : mapO (evalOp C E) c.args.toList = some (x :: r) := by exact rfl) (hv : foldD (minD true) x r = some v := by assumption) : WL C rec ops i (o :: os) ⟨E, H, T, B⟩ Q := wl_v hd hg (s_min ho hc ha hv) h
theorem jMi {ops i o os E H T B d c x r v} {Q : St → Prop} (h : WK C rec ops (i + 1) os ⟨Env.set E d v, H, T, B⟩ Q) (ho : o.op = .call c := by exact rfl) (hc : c.callee = .builtin .min := by exact rfl) (hd : o.dst = d := by exact rfl) (hg : guardD ops (seenE ops o E) o = some true := by exact rfl) (ha : mapO (evalOp C (seenE ops o E)) c.args.toList = some (x :: r) := by exact rfl) (hv : foldD (minD true) x r = some v := by assumption) : WK C rec ops i (o :: os) ⟨E, H, T, B⟩ Q := wk_v hd hg (s_min ho hc ha hv) h
theorem foldmax (a b : Int) : foldD (minD false) (.int .i64 a) [.int .i64 b] = some (.int .i64 (if b > a then b else a)) := by
  unfold foldD minD foldD
  simp
theorem foldmin (a b : Int) : foldD (minD true) (.int .i64 a) [.int .i64 b] = some (.int .i64 (if b < a then b else a)) := by
  unfold foldD minD foldD
  simp
theorem s_share {slot ev rd o c g args ids args' hs v hs' r} (ho : o.op = .call c) (hnb : isB c.callee = false) (ht : C.target ev c = some (g, args)) (hm : C.mode g = some .shared) (hi : collect rd 200 (DV.idss args) [] = some ids) (hargs : DV.rens (place ids) args = args') (hh : packIds ids rd = hs) (ha : rec (.call g args' hs) = some (.done v hs')) (hl : hs'.length ≤ ids.length + wide) (hr : (v.ren (backTo ids slot hs'.length), backEff (backTo ids slot hs'.length) 0 hs') = r) : C.stepD rec slot ev rd o = some r := by
  subst hargs hh hr
  have hb : C.stepD rec slot ev rd o = C.callD rec slot rd g args := by
    unfold Cfg.stepD
    rw [ho]
    dsimp only
    split
    · rename_i b hcb
      rw [hcb] at hnb
      cases hnb
    · rw [ht]
  rw [hb]
  unfold Cfg.callD
  rw [hm]
  dsimp only
  rw [hi]
  dsimp only
  rw [ha]
  dsimp only
  rw [if_pos hl]
theorem kSh {ops i o os E H T B d c g args ids args' hs v hs' r} {Q : St → Prop} (h : WL C rec ops (i + 1) os ⟨Env.set E d r.1, Heap.put H r.2, T, B⟩ Q) (ho : o.op = .call c := by exact rfl) (hnb : isB c.callee = false := by exact rfl) (hd : o.dst = d := by exact rfl) (hg : guardD ops E o = some true := by exact rfl) (ht : C.target (evalOp C E) c = some (g, args) := by exact rfl) (hm : C.mode g = some .shared := by exact rfl) (hi : collect H 200 (DV.idss args) [] = some ids := by exact rfl) (hargs : DV.rens (place ids) args = args' := by exact rfl) (hh : packIds ids H = hs := by exact rfl) (ha : rec (.call g args' hs) = some (.done v hs') := by assumption) (hl : hs'.length ≤ ids.length + wide := by exact Nat.le_of_ble_eq_true rfl) (hr : (v.ren (backTo ids (T + i * wide) hs'.length), backEff (backTo ids (T + i * wide) hs'.length) 0 hs') = r := by exact rfl) : WL C rec ops i (o :: os) ⟨E, H, T, B⟩ Q := wl_e hd hg (s_share ho hnb ht hm hi hargs hh ha hl hr) h
theorem slice_tl {rd : Nat → Option Blk} {n : Nat} (d : DV) (r : List DV) (t : Bool) (h : d.cells.length = n) : sliceD rd n (.list (d :: r) t) (some 1) none none = some (.list r t) := by
  have h2 : (d.cells.length == n) = true := by simp [h]
  have h3 : (1 : Int) ≤ (r.length : Int) + 1 := by omega
  simp [sliceD, headSz, bounds, boundMx, boundHi, boundLo, h2, h3]
theorem slice_mid {rd : Nat → Option Blk} {n : Nat} (l : List DV) (t : Bool) (i j : Nat) (hij : i ≤ j) (hj : j ≤ l.length) (h : headSz n l = true) : sliceD rd n (.list l t) (some (i : Nat)) (some (j : Nat)) (some (j : Nat)) = some (.list ((l.drop i).take (j - i)) true) := by
  simp [sliceD, h, bounds, boundMx, boundHi, boundLo, hij, hj]
end
end Go.PM
end
section
namespace Go.PM
def checkFn (md : FuncId → Option Mode) (f : FuncId) (o : Option Func) : Bool := match md f with
  | none => true
  | some _ => match o with
    | none => false
    | some fn => match fn.body with
      | none => false
      | some c => fn.name != "runtime.NumGoroutine" && checkCode fn.ntmps c
def checkFns (md : FuncId → Option Mode) : FuncId → List Func → Bool
  | _, [] => true
  | f, fn :: r => checkFn md f (some fn) && checkFns md (f + 1) r
theorem checkFns_at {md : FuncId → Option Mode} : ∀ {l : List Func} {k i : Nat} {fn : Func}, checkFns md k l = true → l[i]? = some fn → checkFn md (k + i) (some fn) = true
  | [], k, i, fn, h, hi => by cases hi
  | a :: r, k, i, fn, h, hi => by
    unfold checkFns at h
    rw [Bool.and_eq_true] at h
    cases i with
    | zero =>
      simp only [List.getElem?_cons_zero, Option.some.injEq] at hi
      subst hi
      exact h.1
    | succ i =>
      rw [List.getElem?_cons_succ] at hi
      have := checkFns_at h.2 hi
      rwa [Nat.add_right_comm] at this
theorem cfg_body {C : Cfg} (l : List Func) (hl : C.P.funcs.toList = l) (h : checkFns C.mode 0 l = true) (hb : ∀ f, l.length ≤ f → C.mode f = none) : BodyOK C ∧ ∀ f fn c, C.mode f ≠ none → C.P.funcs[f]? = some fn → fn.body = some c → checkCode fn.ntmps c = true := by
  have key : ∀ f, C.mode f ≠ none → ∃ fn, C.P.funcs[f]? = some fn ∧ checkFn C.mode f (some fn) = true := by
    intro f hf
    have hlt : f < l.length := by
      rcases Nat.lt_or_ge f l.length with h | h
      · exact h
      · exact absurd (hb f h) hf
    have h1 : l[f]? = some l[f] := List.getElem?_eq_getElem hlt
    refine ⟨l[f], ?_, ?_⟩
    · rw [← h1, ← hl, Array.getElem?_toList]
    · have := checkFns_at h h1
      rwa [Nat.zero_add] at this
  have key2 : ∀ f, C.mode f ≠ none → ∃ fn c, C.P.funcs[f]? = some fn ∧ fn.body = some c ∧ (fn.name != "runtime.NumGoroutine") = true ∧ checkCode fn.ntmps c = true := by
    intro f hf
    obtain ⟨fn, h1, h2⟩ := key f hf
    unfold checkFn at h2
    split at h2
    · rename_i hm
      exact absurd hm hf
    · dsimp only at h2
      split at h2
      · cases h2
      · rename_i c hc
        rw [Bool.and_eq_true] at h2
        exact ⟨fn, c, h1, hc, h2.1, h2.2⟩
  constructor
  · intro f hf
    obtain ⟨fn, c, h1, h2, h3, h4⟩ := key2 f hf
    refine ⟨fn, h1, by rw [h2]; rfl, ?_⟩
    simpa using h3
  · intro f fn c hf h1 h2
    obtain ⟨fn', c', h3, h4, h5, h6⟩ := key2 f hf
    rw [h1] at h3
    cases h3
    rw [h2] at h4
    cases h4
    exact h6
end Go.PM
end
