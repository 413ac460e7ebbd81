/- The law TypedBack: its row, proved; all that it rests on stands in the texts ahead of it. No conditions. -/
import Derived.Test.YthcijldahbalcaaDoorKTypedBack2
import Derived.Laws.BitsAllLaws
import Derived.Test.YthcijldahbalcaaDoorTie
import Derived.Test.YthcijldahbalcaaDoorCards
import Derived.Handed
import Derived.MakeChecks
import Derived.Lay
import Derived.LaidOnce
import Derived.SevenTiedAt
set_option linter.unusedVariables false
set_option linter.unusedSimpArgs false
section
namespace Go.Proofs.YthcijldahbalcaaDoor
open Go.RowKit Go.Lib Go.Proofs.YthcijldahbalcaaDoor.P Go.Proofs.YthcijldahbalcaaDoorW.PrintWords Go.Proofs.YthcijldahbalcaaDoorW.PrintLast Go.Proofs.YthcijldahbalcaaDoorW.PrintMore
set_option linter.unusedVariables false
def Wd (n : Int) : Prop := -9223372036854775808 ≤ n ∧ n ≤ 9223372036854775807
theorem or_byte (x b : Int) (h0 : 0 ≤ b) (h1 : b < 256) : bits .or .i64 (wrap64 (x * 256)) b = wrap64 (x * 256 + b) := by
 obtain ⟨B, rfl⟩ := Int.eq_ofNat_of_zero_le h0
 have hB : B < 256 := by omega
 have e1 : (BitVec.ofInt 64 (B : Int)).toNat = B := by
  rw [BitVec.ofInt_natCast, BitVec.toNat_ofNat]
  exact Nat.mod_eq_of_lt (by omega)
 obtain ⟨A, hA⟩ : ∃ A : Nat, (BitVec.ofInt 64 (wrap64 (x * 256))).toNat = 2 ^ 8 * A ∧ ∃ q : Int, ((2 ^ 8 * A : Nat) : Int) = x * 256 + q * 18446744073709551616 := by
  have e2 : (BitVec.ofInt 64 (wrap64 (x * 256))).toNat = (wrap64 (x * 256) % 18446744073709551616).toNat := by
   rw [BitVec.toNat_ofInt]
   rfl
  have hw : ∃ q : Int, wrap64 (x * 256) % 18446744073709551616 = x * 256 + q * 18446744073709551616 := by
   refine ⟨-((x * 256) / 18446744073709551616), ?_⟩
   unfold wrap64
   omega
  obtain ⟨q, hq⟩ := hw
  have hp : 0 ≤ wrap64 (x * 256) % 18446744073709551616 := Int.emod_nonneg _ (by decide)
  refine ⟨(wrap64 (x * 256) % 18446744073709551616).toNat / 256, ?_, q, ?_⟩
  ·rw [e2]
   omega
  ·omega
 obtain ⟨hA, q, hq⟩ := hA
 show IntKind.i64.wrap ((BitVec.ofInt 64 (wrap64 (x * 256)) ||| BitVec.ofInt 64 (B : Int)).toNat : Int) = _
 rw [BitVec.toNat_or, e1, hA, ← Nat.two_pow_add_eq_or_of_lt (by omega : B < 2 ^ 8) A, i64_w]
 have e3 : ((2 ^ 8 * A + B : Nat) : Int) = x * 256 + B + q * 18446744073709551616 := by
  rw [Int.natCast_add, hq]; omega
 rw [e3]
 unfold wrap64
 omega
def putL (x : Int) : Nat → List Int
 | 0 => []
 | n + 1 => putL (x / 256) n ++ [x % 256]
theorem putL_len (x : Int) (n : Nat) : (putL x n).length = n := by
 induction n generalizing x with
 | zero => rfl
 | succ n ih => simp [putL, ih]
theorem putL_byte (x : Int) (n : Nat) : ∀ b ∈ putL x n, 0 ≤ b ∧ b < 256 := by
 induction n generalizing x with
 | zero => intro b h; simp [putL] at h
 | succ n ih =>
  intro b h
  simp only [putL, List.mem_append, List.mem_singleton] at h
  rcases h with h | h
  ·exact ih _ b h
  ·subst h; omega
theorem putL_front (x : Int) (i : Nat) : putL x (i + 1) = (x / 256 ^ i % 256) :: putL x i := by
 induction i generalizing x with
 | zero => simp [putL]
 | succ i ih =>
  have h1 : putL x (i + 1 + 1) = putL (x / 256) (i + 1) ++ [x % 256] := rfl
  have h2 : putL x (i + 1) = putL (x / 256) i ++ [x % 256] := rfl
  rw [h1, ih, h2, List.cons_append]
  congr 2
  rw [Int.pow_succ', Int.ediv_ediv_of_nonneg (by decide)]
def getV : List Int → Int
 | [] => 0
 | b :: t => t.foldl (fun a c => wrap64 (a * 256 + c)) (IntKind.i8.wrap b)
theorem getV_snoc (l : List Int) (b : Int) (h : l ≠ []) : getV (l ++ [b]) = wrap64 (getV l * 256 + b) := by
 cases l with
 | nil => exact absurd rfl h
 | cons c t => simp [getV, List.foldl_append]
def fitN (n : Nat) (v : Int) : Prop := -(128 * 256 ^ (n - 1)) ≤ v ∧ v < 128 * 256 ^ (n - 1)
theorem i8_w (v : Int) (h0 : -128 ≤ v) (h1 : v < 128) : IntKind.i8.wrap (v % 256) = v := by
 simp only [IntKind.wrap, IntKind.bits, IntKind.signed]
 simp
 split <;> omega
theorem get_put : ∀ (n : Nat) (v : Int), fitN (n + 1) v → Wd v → getV (putL v (n + 1)) = v
 | 0, v, h, _ => by
  unfold fitN at h
  have : putL v 1 = [v % 256] := by simp [putL]
  rw [this]
  have h2 : -128 ≤ v ∧ v < 128 := by simpa using h
  exact i8_w v h2.1 h2.2
 | n + 1, v, h, hw => by
  have hne : putL (v / 256) (n + 1) ≠ [] := by
   intro he
   have := putL_len (v / 256) (n + 1)
   rw [he] at this
   simp at this
  have hf : fitN (n + 1) (v / 256) := by
   unfold fitN at h ⊢
   have e : n + 1 + 1 - 1 = n + 1 := by omega
   have e2 : n + 1 - 1 = n := by omega
   rw [e, Int.pow_succ] at h
   rw [e2]
   generalize (256 : Int) ^ n = p at h ⊢
   omega
  unfold Wd at hw
  have ih := get_put n (v / 256) hf (by unfold Wd; omega)
  show getV (putL (v / 256) (n + 1) ++ [v % 256]) = v
  rw [getV_snoc _ _ hne, ih]
  have : v / 256 * 256 + v % 256 = v := by omega
  rw [this]
  exact wrap_id hw.1 hw.2
def bytesI (s : ByteArray) : List Int := (L s).map fun c => (c.toNat : Int)
theorem bytesI_len (s : ByteArray) : (bytesI s).length = s.size := by simp [bytesI]
theorem bytesI_byte (s : ByteArray) : ∀ b ∈ bytesI s, 0 ≤ b ∧ b < 256 := by
 intro b h
 obtain ⟨c, _, rfl⟩ := List.mem_map.1 h
 have := c.toNat_lt
 omega
theorem bt_I (s : ByteArray) (i : Nat) (h : i < (bytesI s).length) : bt s (i : Int) = (bytesI s)[i] := by
 rw [L_bt s i (by simpa [bytesI] using h)]
 simp [bytesI]
theorem bytesI_str (l : List Int) (h : ∀ b ∈ l, 0 ≤ b ∧ b < 256) : bytesI (strOfNums l) = l := by
 unfold bytesI
 have : L (strOfNums l) = l.map fun n => UInt8.ofNat n.toNat := rfl
 rw [this, List.map_map]
 conv => rhs; rw [← List.map_id l]
 apply List.map_congr_left
 intro b hb
 have := h b hb
 simp [UInt8.toNat_ofNat']
 omega
theorem bytesI_ext (s : ByteArray) (a b : Nat) : bytesI (s.extract a b) = ((bytesI s).drop a).take (b - a) := by
 unfold bytesI
 have : L (s.extract a b) = ((L s).drop a).take (b - a) := Lib.extract_data s a b
 rw [this, List.map_take, List.map_drop]
theorem get_l0 (s : ByteArray) (hs : s.size ≤ 1000000) : ∀ (m i k : Nat) (x : Int), s.size - 1 - i < m → m ≤ k → i + 1 ≤ s.size →
  typed_get.l0 k s x ((s.size - 1 : Nat) : Int) (i : Int) = some (((bytesI s).drop (i + 1)).foldl (fun a c => wrap64 (a * 256 + c)) x) := by
 intro m
 induction m with
 | zero => intro i k x h; omega
 | succ m ih =>
  intro i k x h hk hi
  obtain ⟨k, rfl⟩ : ∃ j, k = j + 1 := ⟨k - 1, by omega⟩
  simp only [typed_get.l0]
  by_cases hlt : i < s.size - 1
  ·have hl : i + 1 < (bytesI s).length := by rw [bytesI_len]; omega
   have hb := bytesI_byte s _ (List.getElem_mem hl)
   have hn : wrap64 ((i : Int) + 1) = ((i + 1 : Nat) : Int) := nx hlt (by omega)
   rw [if_pos (by omega), hn, if_pos (by omega), if_pos (by omega), bt_I s (i + 1) hl, wrap_id (a := (bytesI s)[i + 1]) (by omega) (by omega), or_byte _ _ hb.1 hb.2, ih (i + 1) k _ (by omega) (by omega) (by omega), List.drop_eq_getElem_cons hl, List.foldl_cons]
  ·rw [if_neg (by omega), List.drop_eq_nil_of_le (by rw [bytesI_len]; omega)]
   rfl
theorem get_eq (s : ByteArray) (hs : s.size ≤ 1000000) (h1 : 1 ≤ s.size) (k : Nat) (hk : s.size + 1 ≤ k) : typed_get.f k s = some (getV (bytesI s)) := by
 unfold typed_get.f
 have hl : 0 < (bytesI s).length := by rw [bytesI_len]; omega
 have hb := bytesI_byte s _ (List.getElem_mem hl)
 have e0 : bt s 0 = (bytesI s)[0] := bt_I s 0 hl
 have e1 : wrap64 ((s.size : Int) - 1) = ((s.size - 1 : Nat) : Int) := by rw [wrap_id (by omega) (by omega)]; omega
 have hi8 : -128 ≤ IntKind.i8.wrap (bytesI s)[0] ∧ IntKind.i8.wrap (bytesI s)[0] < 128 := by
  generalize (bytesI s)[0] = b at hb
  simp only [IntKind.wrap, IntKind.bits, IntKind.signed]
  simp
  split <;> omega
 rw [if_pos (by omega), e0, e1, wrap_id (by omega) (by omega)]
 have := get_l0 s hs (s.size + 1) 0 k (IntKind.i8.wrap (bytesI s)[0]) (by omega) hk (by omega)
 rw [show (0 : Int) = ((0 : Nat) : Int) from rfl, this]
 congr 1
 have hd : bytesI s = (bytesI s)[0] :: (bytesI s).drop 1 := by
  rw [← List.drop_eq_getElem_cons hl, List.drop_zero]
 conv => rhs; rw [hd]
 rfl
theorem shr_at (x : Int) (i : Nat) (hi : i ≤ 7) : shr .i64 x (wrap64 (8 * (i : Int))) = x / 256 ^ i := by
 rw [wrap_id (by omega) (by omega)]
 unfold shr
 have e : min (8 * (i : Int)).toNat (IntKind.bits .i64) = 8 * i := by
  show min (8 * (i : Int)).toNat 64 = 8 * i
  omega
 rw [e, Int.pow_mul]
 rfl
theorem put_l0 (x : Int) (n : Nat) (hn : n ≤ 8) : ∀ (m i k : Nat), n - i < m → m ≤ k → i ≤ n →
  typed_put.l0 k x (List.replicate (n - i) 0 ++ putL x i) (n : Int) (i : Int) = some (putL x n) := by
 intro m
 induction m with
 | zero => intro i k h; omega
 | succ m ih =>
  intro i k h hk hi
  obtain ⟨k, rfl⟩ : ∃ j, k = j + 1 := ⟨k - 1, by omega⟩
  have hlen : (List.replicate (n - i) (0 : Int) ++ putL x i).length = n := by
   rw [List.length_append, List.length_replicate, putL_len]; omega
  simp only [typed_put.l0, hlen]
  by_cases hlt : i < n
  ·have e1 : wrap64 (8 * (i : Int)) = 8 * (i : Int) := wrap_id (by omega) (by omega)
   have e2 : wrap64 (wrap64 ((n : Int) - 1) - (i : Int)) = ((n - 1 - i : Nat) : Int) := by
    rw [wrap_id (a := (n : Int) - 1) (by omega) (by omega), wrap_id (by omega) (by omega)]; omega
   rw [if_pos (by omega), shr_at x i (by omega), e2, e1, if_pos (by omega), if_pos (by omega), if_pos (by omega), Int.toNat_natCast, nx hlt (by omega)]
   have hz : (List.replicate (n - i) (0 : Int) ++ putL x i).set (n - 1 - i) (x / 256 ^ i % 256) = List.replicate (n - (i + 1)) 0 ++ putL x (i + 1) := by
    have e3 : n - i = (n - (i + 1)) + 1 := by omega
    have e4 : n - 1 - i = n - (i + 1) := by omega
    rw [e3, e4, List.replicate_succ', List.append_assoc, putL_front]
    rw [List.set_append_right _ _ (by simp)]
    simp
   rw [hz]
   exact ih (i + 1) k (by omega) (by omega) (by omega)
  ·rw [if_neg (by omega)]
   obtain rfl : i = n := by omega
   rw [Nat.sub_self]
   rfl
theorem put_eq (x : Int) (n : Nat) (hn : n ≤ 8) (k : Nat) (hk : 10 ≤ k) : typed_put.f k x (8 * (n : Int)) = some (putL x n) := by
 unfold typed_put.f
 have e : Int.tdiv (8 * (n : Int)) 8 = (n : Int) := by
  rw [Int.tdiv_eq_ediv_of_nonneg (by omega)]; omega
 rw [e, wrap_id (by omega) (by omega), if_pos (by omega), Int.toNat_natCast, if_pos (by omega), Option.bind_some, List.length_replicate]
 have := put_l0 x n hn (n + 1) 0 k (by omega) (by omega) (by omega)
 have e2 : List.replicate (n - 0) (0 : Int) ++ putL x 0 = List.replicate n 0 := by simp [putL]
 rw [e2] at this
 exact this
def layL (n : Nat) (l : List Int) : List Int := l.flatMap fun x => putL x n
theorem layL_len (n : Nat) (l : List Int) : (layL n l).length = l.length * n := by
 induction l with
 | nil => simp [layL]
 | cons x l ih =>
  have : layL n (x :: l) = putL x n ++ layL n l := rfl
  rw [this, List.length_append, putL_len, ih, List.length_cons, Nat.succ_mul]
  omega
theorem layL_byte (n : Nat) (l : List Int) : ∀ b ∈ layL n l, 0 ≤ b ∧ b < 256 := by
 intro b h
 obtain ⟨x, _, hb⟩ := List.mem_flatMap.1 h
 exact putL_byte x n b hb
theorem layL_at (n : Nat) (l : List Int) (i : Nat) (h : i < l.length) : ((layL n l).drop (i * n)).take n = putL l[i] n := by
 induction l generalizing i with
 | nil => simp at h
 | cons x l ih =>
  have e : layL n (x :: l) = putL x n ++ layL n l := rfl
  rw [e]
  cases i with
  | zero =>
   rw [Nat.zero_mul, List.drop_zero, List.getElem_cons_zero]
   have := List.take_left' (l₂ := layL n l) (putL_len x n)
   exact this
  | succ i =>
   have h2 : (i + 1) * n = (putL x n).length + i * n := by rw [putL_len, Nat.succ_mul]; omega
   rw [h2, List.drop_append, List.drop_eq_nil_of_le (by omega), List.nil_append, Nat.add_sub_cancel_left]
   exact ih i (by simpa using h)
theorem lay_l0 (sh l : List Int) (n : Nat) (hn : n ≤ 8) (hl : l.length ≤ 100000) (hsh : sh.length ≤ 1000) : ∀ (m i k : Nat) (acc : List Int), l.length - i < m → m + 20 ≤ k → i ≤ l.length → acc.length ≤ i * n →
  typed_lay.l0 k sh (8 * (n : Int)) acc l (l.length : Int) (i : Int) = some (8 * (n : Int), sh, strOfNums (acc ++ layL n (l.drop i))) := by
 intro m
 induction m with
 | zero => intro i k acc h; omega
 | succ m ih =>
  intro i k acc h hk hi ha
  obtain ⟨k, rfl⟩ : ∃ j, k = j + 1 := ⟨k - 1, by omega⟩
  simp only [typed_lay.l0]
  by_cases hlt : i < l.length
  ·have hb : acc.length + n < 140737488355328 := by
    have : i * n ≤ 100000 * 8 := Nat.mul_le_mul (by omega) hn
    omega
   rw [if_pos (by omega), if_pos (by omega), if_pos (by omega), rd_at l i hlt, put_eq _ n hn k (by omega), Option.bind_some, putL_len, if_pos hb, nx hlt (by omega),
    ih (i + 1) k _ (by omega) (by omega) (by omega) (by rw [List.length_append, putL_len, Nat.succ_mul]; omega), List.drop_eq_getElem_cons hlt, List.append_assoc]
   rfl
  ·rw [if_neg (by omega), List.drop_eq_nil_of_le (by omega)]
   unfold slices_Clone_int_int.f
   rw [if_pos (by omega), Option.bind_some]
   simp [layL]
theorem lay_eq (sh l : List Int) (n : Nat) (hn : n ≤ 8) (hl : l.length ≤ 100000) (hsh : sh.length ≤ 1000) (k : Nat) (hk : l.length + 30 ≤ k) : typed_lay.f k l sh (8 * (n : Int)) = some (8 * (n : Int), sh, strOfNums (layL n l)) := by
 unfold typed_lay.f
 have := lay_l0 sh l n hn hl hsh (l.length + 1) 0 k [] (by omega) (by omega) (by omega) (by simp)
 rw [show (0 : Int) = ((0 : Nat) : Int) from rfl, this]
 simp
theorem known_eq (w : Int) (k : Nat) (hk : 10 ≤ k) : ∃ b, typed_known.f k w = some b ∧ (b = true ↔ w ∈ ([8, 16, 32, 64] : List Int)) := by
 unfold typed_known.f
 obtain ⟨b, h, hb⟩ := has_eq ([8, 16, 32, 64] : List Int) w (by decide) k (by simp; omega)
 rw [h]
 exact ⟨b, rfl, hb⟩
end Go.Proofs.YthcijldahbalcaaDoor
end
section
namespace Go.Proofs.YthcijldahbalcaaDoor
open Go.RowKit Go.Lib Go.Proofs.YthcijldahbalcaaDoor.P Go.Proofs.YthcijldahbalcaaDoorW.PrintWords Go.Proofs.YthcijldahbalcaaDoorW.PrintLast Go.Proofs.YthcijldahbalcaaDoorW.PrintMore
set_option linter.unusedVariables false
theorem fits8 (x : Int) (h : width_Fits.f 10 x 8 = some true) : -128 ≤ x ∧ x < 128 := by
 have k1 : shl .i64 1 (wrap64 (8 - 1)) = 128 := by kernel_rfl
 have k2 : wrap64 (-(128 : Int)) = -128 := by unfold wrap64; omega
 simp (config := { decide := true }) only [width_Fits.f, width_Fits.j0, if_true, if_false, k1, k2] at h
 rw [if_pos (by unfold wrap64; omega)] at h
 by_cases h1 : x ≥ -128
 ·rw [if_pos h1] at h
  exact ⟨h1, of_decide_eq_true (Option.some.inj h)⟩
 ·rw [if_neg h1] at h
  cases h
theorem fits16 (x : Int) (h : width_Fits.f 10 x 16 = some true) : -32768 ≤ x ∧ x < 32768 := by
 have k1 : shl .i64 1 (wrap64 (16 - 1)) = 32768 := by kernel_rfl
 have k2 : wrap64 (-(32768 : Int)) = -32768 := by unfold wrap64; omega
 simp (config := { decide := true }) only [width_Fits.f, width_Fits.j0, if_true, if_false, k1, k2] at h
 rw [if_pos (by unfold wrap64; omega)] at h
 by_cases h1 : x ≥ -32768
 ·rw [if_pos h1] at h
  exact ⟨h1, of_decide_eq_true (Option.some.inj h)⟩
 ·rw [if_neg h1] at h
  cases h
theorem fits32 (x : Int) (h : width_Fits.f 10 x 32 = some true) : -2147483648 ≤ x ∧ x < 2147483648 := by
 have k1 : shl .i64 1 (wrap64 (32 - 1)) = 2147483648 := by kernel_rfl
 have k2 : wrap64 (-(2147483648 : Int)) = -2147483648 := by unfold wrap64; omega
 simp (config := { decide := true }) only [width_Fits.f, width_Fits.j0, if_true, if_false, k1, k2] at h
 rw [if_pos (by unfold wrap64; omega)] at h
 by_cases h1 : x ≥ -2147483648
 ·rw [if_pos h1] at h
  exact ⟨h1, of_decide_eq_true (Option.some.inj h)⟩
 ·rw [if_neg h1] at h
  cases h
def Nb (n : Nat) : Prop := n = 1 ∨ n = 2 ∨ n = 4 ∨ n = 8
theorem fit1 {v : Int} (h : -128 ≤ v ∧ v < 128) : fitN 1 v := by unfold fitN; simpa using h
theorem fit2 {v : Int} (h : -32768 ≤ v ∧ v < 32768) : fitN 2 v := by unfold fitN; simpa using h
theorem fit4 {v : Int} (h : -2147483648 ≤ v ∧ v < 2147483648) : fitN 4 v := by unfold fitN; simpa using h
theorem fit8 {v : Int} (h : Wd v) : fitN 8 v := by
 unfold Wd at h
 unfold fitN
 have e : (128 : Int) * 256 ^ (8 - 1) = 9223372036854775808 := by decide
 rw [e]
 omega
theorem fit_le {n m : Nat} {v : Int} (hn : Nb n) (hm : Nb m) (h : fitN n v) (hle : n ≤ m) : fitN m v := by
 unfold fitN at h ⊢
 have e1 : (128 : Int) * 256 ^ (1 - 1) = 128 := by decide
 have e2 : (128 : Int) * 256 ^ (2 - 1) = 32768 := by decide
 have e4 : (128 : Int) * 256 ^ (4 - 1) = 2147483648 := by decide
 have e8 : (128 : Int) * 256 ^ (8 - 1) = 9223372036854775808 := by decide
 rcases hn with rfl | rfl | rfl | rfl <;> rcases hm with rfl | rfl | rfl | rfl <;> simp only [e1, e2, e4, e8] at h ⊢ <;> omega
theorem wid_fits (s : ByteArray) (hs : s.size ≤ 281474976710656) (h : widB s ≤ 64) : Wd (intB s).1 ∧ ∃ n, Nb n ∧ widB s = 8 * (n : Int) ∧ fitN n (intB s).1 := by
 have hw : Wd (intB s).1 := by
  unfold intB
  by_cases hm : mayB (L s) = true
  ·rw [if_pos hm]
   cases hp : parseIntB 64 (L s) with
   | ok v =>
    have := parseIntB_bounds hp
    have e : ((2 ^ (64 - 1) : Nat) : Int) = 9223372036854775808 := by decide
    rw [e] at this
    unfold Wd
    dsimp only
    omega
   | _ => unfold Wd; dsimp only; omega
  ·rw [if_neg hm]
   unfold Wd
   dsimp only
   omega
 refine ⟨hw, ?_⟩
 unfold widB at h ⊢
 unfold width_Of.f at h ⊢
 rw [Int_eq s hs, Option.bind_some] at h ⊢
 by_cases h2 : (intB s).2 = true
 ·rw [if_pos h2] at h ⊢
  generalize (intB s).1 = v at h hw ⊢
  obtain ⟨⟨b1, h1⟩, ⟨b2, h2⟩, ⟨b3, h3⟩, ⟨b4, h4⟩, ⟨b5, h5⟩⟩ := fits_some v
  simp only [ofC] at h ⊢
  rw [if_pos trivial, h1, Option.bind_some] at h ⊢
  cases b1 with
  | true => exact ⟨1, .inl rfl, rfl, fit1 (fits8 v h1)⟩
  | false =>
   rw [if_neg (by decide), if_neg (by decide), if_pos trivial, h2, Option.bind_some] at h ⊢
   cases b2 with
   | true => exact ⟨2, .inr (.inl rfl), rfl, fit2 (fits16 v h2)⟩
   | false =>
    rw [if_neg (by decide), if_neg (by decide), if_neg (by decide), if_pos trivial, h3, Option.bind_some] at h ⊢
    cases b3 with
    | true => exact ⟨4, .inr (.inr (.inl rfl)), rfl, fit4 (fits32 v h3)⟩
    | false =>
     rw [if_neg (by decide), if_neg (by decide), if_neg (by decide), if_neg (by decide), if_pos trivial, h4, Option.bind_some] at h ⊢
     cases b4 with
     | true => exact ⟨8, .inr (.inr (.inr rfl)), rfl, fit8 hw⟩
     | false =>
      exfalso
      rw [if_neg (by decide), if_neg (by decide), if_neg (by decide), if_neg (by decide), if_neg (by decide), if_pos trivial, h5, Option.bind_some] at h
      cases b5 with
      | true => rw [if_pos rfl] at h; revert h; decide
      | false =>
       rw [if_neg (by decide), if_neg (by decide), if_neg (by decide), if_neg (by decide), if_neg (by decide), if_neg (by decide), if_pos trivial] at h
       revert h; decide
 ·rw [if_neg h2] at h
  exact absurd h (by decide)
theorem known_nb (w : Int) (h : w ∈ ([8, 16, 32, 64] : List Int)) : ∃ n, Nb n ∧ w = 8 * (n : Int) := by
 simp only [List.mem_cons, List.not_mem_nil, or_false] at h
 rcases h with rfl | rfl | rfl | rfl
 ·exact ⟨1, .inl rfl, rfl⟩
 ·exact ⟨2, .inr (.inl rfl), rfl⟩
 ·exact ⟨4, .inr (.inr (.inl rfl)), rfl⟩
 ·exact ⟨8, .inr (.inr (.inr rfl)), rfl⟩
theorem nb_known (n : Nat) (h : Nb n) : 8 * (n : Int) ∈ ([8, 16, 32, 64] : List Int) := by
 rcases h with rfl | rfl | rfl | rfl <;> decide
def numsL (ys : List ByteArray) : List Int := ys.map fun e => (intB e).1
theorem pack_l0 (xs : List Int) (ys : List ByteArray) (n : Nat) (hn : n ≤ 8) (hy : ys.length ≤ 4096) (hx : xs.length ≤ 1000) (hs : ∀ e ∈ ys, e.size ≤ 120) : ∀ (m i k : Nat) (acc : List Int), ys.length - i < m → m + 5000 ≤ k → i ≤ ys.length → acc = numsL (ys.take i) →
  typed_Pack.l0 k (8 * (n : Int)) acc ys (ys.length : Int) (i : Int) xs ys = some (8 * (n : Int), xs, strOfNums (layL n (numsL ys)), 0) := by
 intro m
 induction m with
 | zero => intro i k acc h; omega
 | succ m ih =>
  intro i k acc h hk hi ha
  obtain ⟨k, rfl⟩ : ∃ j, k = j + 1 := ⟨k - 1, by omega⟩
  simp only [typed_Pack.l0]
  have hal : acc.length ≤ 4096 := by
   rw [ha]
   unfold numsL
   rw [List.length_map, List.length_take]
   omega
  by_cases hlt : i < ys.length
  ·have he := hs _ (List.getElem_mem hlt)
   rw [if_pos (by omega), if_pos (by omega), if_pos (by omega), rdB_at ys i hlt, Int_eq _ (by omega), Option.bind_some, if_pos (by omega), nx hlt (by omega)]
   refine ih (i + 1) k _ (by omega) (by omega) (by omega) ?_
   rw [ha]
   unfold numsL
   rw [List.take_succ_eq_append_getElem hlt, List.map_append]
   rfl
  ·rw [if_neg (by omega)]
   have hall : acc = numsL ys := by rw [ha, List.take_of_length_le (by omega)]
   rw [hall, lay_eq xs _ n hn (by unfold numsL; rw [List.length_map]; omega) hx k (by unfold numsL; rw [List.length_map]; omega), Option.bind_some]
theorem pack_eq (xs : List Int) (ys : List ByteArray) (hm : mayV xs ys = true) (hs : ∀ e ∈ ys, e.size ≤ 120) (k : Nat) (hk : 20000 ≤ k) :
  (∃ n, Nb n ∧ gmax (ys.map widB) = 8 * (n : Int) ∧ typed_Pack.f k xs ys = some (8 * (n : Int), xs, strOfNums (layL n (numsL ys)), 0)) ∨
  typed_Pack.f k xs ys = some (0, [], ⟨#[]⟩, 8) := by
 have hg := good_of xs ys hm
 have hlen : ys.length ≤ 4096 := by have := hg.size; have := hg.few; omega
 have hrk := hg.rank
 unfold typed_Pack.f
 rw [mayV_eq xs ys (by omega) k (by omega), hm, Option.bind_some, if_pos rfl, width_eq xs ys (by omega) (fun e he => by have := hs e he; omega) k (by omega), Option.bind_some]
 obtain ⟨b, hb, hw⟩ := known_eq (gmax (ys.map widB)) k (by omega)
 rw [hb, Option.bind_some]
 cases b with
 | false => rw [if_neg (by decide)]; exact .inr rfl
 | true =>
  obtain ⟨n, hn, he⟩ := known_nb _ (hw.1 rfl)
  left
  refine ⟨n, hn, he, ?_⟩
  rw [if_pos rfl, he]
  have hn8 : n ≤ 8 := by rcases hn with rfl | rfl | rfl | rfl <;> decide
  exact pack_l0 xs ys n hn8 hlen (by omega) hs (ys.length + 1) 0 k [] (by omega) (by omega) (by omega) rfl
theorem nums_fit (ys : List ByteArray) (hs : ∀ e ∈ ys, e.size ≤ 120) (n : Nat) (hn : Nb n) (hw : gmax (ys.map widB) = 8 * (n : Int)) (e : ByteArray) (he : e ∈ ys) :
  Wd (intB e).1 ∧ fitN n (intB e).1 ∧ ∃ m, Nb m ∧ m ≤ n ∧ widB e = 8 * (m : Int) ∧ fitN m (intB e).1 := by
 have h1 := gmax_ge (ys.map widB) (widB e) (List.mem_map_of_mem he)
 rw [hw] at h1
 have hn8 : n ≤ 8 := by rcases hn with rfl | rfl | rfl | rfl <;> decide
 have h2 := hs e he
 obtain ⟨a, m, hm, hwm, hf⟩ := wid_fits e (by omega) (by omega)
 have hle : m ≤ n := by omega
 exact ⟨a, fit_le hm hn hf hle, m, hm, hle, hwm, hf⟩
theorem ar1 (q n : Nat) (hn : Nb n) (hq : q ≤ 4096) : wrap64 (Int.tdiv (wrap64 ((q : Int) * (8 * (n : Int)))) 8) = ((q * n : Nat) : Int) := by
 rcases hn with rfl | rfl | rfl | rfl
 all_goals (
  rw [wrap_id (a := (q : Int) * _) (by omega) (by omega), Int.tdiv_eq_ediv_of_nonneg (by omega), wrap_id (by omega) (by omega)]
  omega)
theorem ar2 (q n : Nat) (hn : Nb n) (hq : q ≤ 4096) : wrap64 (Int.tdiv (wrap64 (((q * n : Nat) : Int) * 8)) (8 * (n : Int))) = (q : Int) := by
 rcases hn with rfl | rfl | rfl | rfl
 all_goals (
  rw [wrap_id (a := _ * (8 : Int)) (by omega) (by omega), Int.tdiv_eq_ediv_of_nonneg (by omega), wrap_id (by omega) (by omega)]
  omega)
theorem ar3 (n : Nat) (h : n ≤ 8) : wrap64 (Int.tdiv (8 * (n : Int)) 8) = (n : Int) := by
 rw [Int.tdiv_eq_ediv_of_nonneg (by omega)]
 have : 8 * (n : Int) / 8 = (n : Int) := by omega
 rw [this]
 exact wrap_id (by omega) (by omega)
theorem ar4 (i n : Nat) (h : i * n ≤ 1000000) : wrap64 ((i : Int) * (n : Int)) = ((i * n : Nat) : Int) := by
 rw [← Int.natCast_mul]
 exact w_small _ h
theorem tmay_eq (xs l : List Int) (n : Nat) (hn : Nb n) (hz : sizeL xs = ((l.length : Int), 0)) (hl : l.length ≤ 4096) (k : Nat) (hk : 20 ≤ k) : typed_Typed_May.f k (8 * (n : Int)) xs (strOfNums (layL n l)) = some true := by
 unfold typed_Typed_May.f
 rw [size_eq xs k (by omega), hz, Option.bind_some]
 obtain ⟨b, hb, hw⟩ := known_eq (8 * (n : Int)) k (by omega)
 rw [hb, hw.2 (nb_known n hn), Option.bind_some, if_pos rfl, if_pos rfl, strOfNums_size, layL_len]
 dsimp only
 rw [ar1 l.length n hn hl, beq_self_eq_true]
theorem tmany_eq (xs l : List Int) (n : Nat) (hn : Nb n) (hz : sizeL xs = ((l.length : Int), 0)) (hl : l.length ≤ 4096) (k : Nat) (hk : 20 ≤ k) : typed_Typed_Many.f k (8 * (n : Int)) xs (strOfNums (layL n l)) = some (l.length : Int) := by
 unfold typed_Typed_Many.f
 rw [tmay_eq xs l n hn hz hl k hk, Option.bind_some, if_pos rfl, strOfNums_size, layL_len, if_neg (by rcases hn with rfl | rfl | rfl | rfl <;> decide), ar2 l.length n hn hl]
theorem tat_in (xs l : List Int) (n : Nat) (hn : Nb n) (hz : sizeL xs = ((l.length : Int), 0)) (hl : l.length ≤ 4096) (i : Nat) (hi : i < l.length) (hw : Wd l[i]) (hf : fitN n l[i]) (k : Nat) (hk : 20 ≤ k) : typed_Typed_At.f k (8 * (n : Int)) xs (strOfNums (layL n l)) (i : Int) = some (l[i], true) := by
 unfold typed_Typed_At.f
 have hn1 : 1 ≤ n ∧ n ≤ 8 := by rcases hn with rfl | rfl | rfl | rfl <;> decide
 have hm : (i + 1) * n ≤ l.length * n := Nat.mul_le_mul_right _ hi
 have hm2 : l.length * n ≤ 4096 * 8 := Nat.mul_le_mul hl hn1.2
 have hm3 : i * n + n = (i + 1) * n := (Nat.succ_mul i n).symm
 have b1 : i * n ≤ 1000000 := by omega
 have b2 : (i + 1) * n ≤ 1000000 := by omega
 have b3 : i * n ≤ (i + 1) * n := by omega
 have b4 : (i + 1) * n - i * n = n := by omega
 have hsz : (strOfNums (layL n l)).size = l.length * n := by rw [strOfNums_size, layL_len]
 have q2 : ((i * n : Nat) : Int) ≤ (((i + 1) * n : Nat) : Int) := Int.ofNat_le.2 b3
 have q3 : (((i + 1) * n : Nat) : Int) ≤ ((l.length * n : Nat) : Int) := Int.ofNat_le.2 hm
 rw [if_neg (Int.not_lt.2 (Int.natCast_nonneg i)), tmany_eq xs l n hn hz hl k hk, Option.bind_some, if_neg (nle hi), ar3 n hn1.2, ar4 i n b1, nx hi (Nat.le_trans hl (by decide)), ar4 (i + 1) n b2, if_pos (Int.natCast_nonneg _), if_pos q2, hsz, if_pos q3, Int.toNat_natCast, Int.toNat_natCast]
 clear q2 q3
 have hb : bytesI ((strOfNums (layL n l)).extract (i * n) ((i + 1) * n)) = putL l[i] n := by
  rw [bytesI_ext, bytesI_str _ (layL_byte n l)]
  rw [b4]
  exact layL_at n l i hi
 have hlen : ((strOfNums (layL n l)).extract (i * n) ((i + 1) * n)).size = n := by
  rw [← bytesI_len, hb, putL_len]
 rw [get_eq _ (by rw [hlen]; omega) (by rw [hlen]; exact hn1.1) k (by rw [hlen]; omega), Option.bind_some, hb]
 obtain ⟨m, rfl⟩ : ∃ m, n = m + 1 := ⟨n - 1, by omega⟩
 rw [get_put m l[i] hf hw]
theorem shown05_60 : reredoslaw05_shown.f 60 = some true := by
 have e1 : typed_Pack.f 60 ([2] : List Int) [(⟨#[49]⟩ : ByteArray), ⟨#[45, 49]⟩] = some (8, [2], ⟨#[1, 255]⟩, 0) := by kernel_rfl
 have e2 : typed_Typed_At.f 60 8 [2] ⟨#[1, 255]⟩ 1 = some (-1, true) := by kernel_rfl
 have e3 : typed_Typed_Many.f 60 8 [2] ⟨#[1, 255]⟩ = some 2 := by kernel_rfl
 have e4 : typed_Typed_May.f 60 8 [2] ⟨#[1, 255]⟩ = some true := by kernel_rfl
 have e5 : (⟨#[1, 255]⟩ : ByteArray).toList = ([1, 255] : List UInt8) := by rw [toList_L]
 simp only [reredoslaw05_shown.f, Option.bind_some, e1, e2, e3, e4, e5, if_true]
theorem shown05_eq (k : Nat) (hk : 60 ≤ k) : reredoslaw05_shown.f k = some true := up_of reredoslaw05_shown.mono shown05_60 k hk
end Go.Proofs.YthcijldahbalcaaDoor
end
section
namespace Go.Proofs.YthcijldahbalcaaDoor
open Go.RowKit Go.Lib Go.Proofs.YthcijldahbalcaaDoor.P Go.Proofs.YthcijldahbalcaaDoorW.PrintWords Go.Proofs.YthcijldahbalcaaDoorW.PrintLast Go.Proofs.YthcijldahbalcaaDoorW.PrintMore
set_option linter.unusedVariables false
theorem pu_inv (M : Nat) (c : UInt8) : ∀ (l : Bs) (acc u : Nat), parseUintM M acc (l ++ [c]) = .ok u → ∃ u', parseUintM M acc l = .ok u' ∧ u = u' * 10 + (c.toNat - 48) ∧ 48 ≤ c.toNat ∧ c.toNat ≤ 57
 | [], acc, u, h => by
  rw [List.nil_append] at h
  unfold parseUintM at h
  split at h
  ·rename_i hc
   split at h
   ·cases h
   ·split at h
    ·cases h
    ·unfold parseUintM at h
     injection h with h
     exact ⟨acc, by unfold parseUintM; rfl, h.symm, hc.1, hc.2⟩
  ·cases h
 | d :: l, acc, u, h => by
  rw [List.cons_append] at h
  unfold parseUintM at h ⊢
  split at h
  ·rename_i hd
   rw [if_pos hd]
   split at h
   ·cases h
   ·rename_i h3
    rw [if_neg h3]
    split at h
    ·cases h
    ·rename_i h4
     rw [if_neg h4]
     exact pu_inv M c l _ u h
  ·cases h
theorem byte_back (c : UInt8) (h : 48 ≤ c.toNat) : UInt8.ofNat (48 + (c.toNat - 48)) = c := by
 rw [show 48 + (c.toNat - 48) = c.toNat by omega]
 exact UInt8.ofNat_toNat
theorem dec_back (M : Nat) : ∀ (n : Nat) (l : Bs) (u : Nat), l.length = n → l ≠ [] → (l.head? = some 48 → l = [48]) → parseUintM M 0 l = .ok u → decDigits u = l
 | 0, l, u, hl, h0, _, _ => absurd (List.eq_nil_of_length_eq_zero hl) h0
 | n + 1, l, u, hl, h0, hz, hp => by
  have hsp := List.dropLast_concat_getLast h0
  obtain ⟨l', hl'⟩ : ∃ l', l.dropLast = l' := ⟨_, rfl⟩
  obtain ⟨c, hc⟩ : ∃ c, l.getLast h0 = c := ⟨_, rfl⟩
  rw [hl', hc] at hsp
  rw [← hsp] at hp
  obtain ⟨u', h1, h2, h3, h4⟩ := pu_inv M c l' 0 u hp
  by_cases he : l' = []
  ·rw [he] at h1
   unfold parseUintM at h1
   injection h1 with h1
   subst h1
   rw [← hsp, he, decDigits, dif_pos (by omega), h2, List.nil_append]
   congr 1
   rw [show 48 + (0 * 10 + (c.toNat - 48)) = 48 + (c.toNat - 48) by omega]
   exact byte_back c h3
  ·have hh : l.head? = l'.head? := by
    rw [← hsp]
    cases hd : l' with
    | nil => exact absurd hd he
    | cons a t => rfl
   have hn48 : l'.head? ≠ some 48 := by
    intro hq
    have := hz (hh.trans hq)
    rw [← hsp] at this
    cases hd : l' with
    | nil => exact he hd
    | cons a t =>
     rw [hd] at this
     have := congrArg List.length this
     simp at this
   have ih := dec_back M n l' u' (by
    have := congrArg List.length hsp
    rw [List.length_append, hl] at this
    simp at this
    omega) he (fun hq => absurd hq hn48) h1
   have hu : u' ≠ 0 := by
    intro hq
    rw [hq, decDigits, dif_pos (by omega)] at ih
    rw [← ih] at hn48
    exact hn48 rfl
   have e1 : u / 10 = u' := by omega
   have e2 : u % 10 = c.toNat - 48 := by omega
   rw [decDigits, dif_neg (by omega), e1, e2, ih, byte_back c h3, hsp]
theorem itoa_back (l : Bs) (v : Int) (hm : mayB l = true) (hp : parseIntB 64 l = .ok v) : itoa v = l := by
 have hmm := hm
 unfold mayB at hm
 simp only [Bool.and_eq_true, decide_eq_true_eq] at hm
 obtain ⟨⟨⟨h1, _⟩, h3⟩, h4⟩ := hm
 cases l with
 | nil => simp [trimC] at h1
 | cons c l =>
  by_cases hc : c = 45
  ·subst hc
   have ht : trimC 45 (45 :: l) = l := by simp [trimC]
   rw [ht] at h1 h3 h4
   have hne : l ≠ [] := by rintro rfl; simp at h1
   have hz : l.head? ≠ some 48 := by
    intro hq
    rw [hq] at h3
    revert h3
    simp
   rw [parseIntB_minus] at hp
   unfold parseUintB at hp
   rw [if_neg hne] at hp
   cases hu : parseUintM (2 ^ 64 - 1) 0 l with
   | ok u =>
    rw [hu] at hp
    simp only [signedC] at hp
    split at hp
    ·cases hp
    ·injection hp with hp
     have hd := dec_back _ _ l u rfl hne (fun hq => absurd hq hz) hu
     have hu0 : u ≠ 0 := by
      intro hq
      rw [hq, decDigits, dif_pos (by omega)] at hd
      rw [← hd] at hz
      exact hz rfl
     unfold itoa
     rw [if_pos (by omega), show v.natAbs = u by omega, hd]
   | _ => rw [hu] at hp; simp only [signedC] at hp; cases hp
  ·have ht : trimC 45 (c :: l) = c :: l := by simp [trimC, hc]
   rw [ht] at h3 h4
   have hf := h4
   unfold figs at hf
   rw [List.all_cons, Bool.and_eq_true] at hf
   have hr := (isFig_iff c).1 hf.1
   rw [parseIntB_plain 64 c l (by omega) (by omega)] at hp
   unfold parseUintB at hp
   rw [if_neg (by simp)] at hp
   cases hu : parseUintM (2 ^ 64 - 1) 0 (c :: l) with
   | ok u =>
    rw [hu] at hp
    simp only [signlessC] at hp
    split at hp
    ·cases hp
    ·injection hp with hp
     have hd := dec_back _ _ (c :: l) u rfl (by simp) (fun hq => by
      rw [hq] at h3
      simpa using h3) hu
     unfold itoa
     rw [if_neg (by omega), show v.toNat = u by omega, hd]
   | _ => rw [hu] at hp; simp only [signlessC] at hp; cases hp
theorem decB_back (s : ByteArray) (hm : mayB (L s) = true) (h2 : (intB s).2 = true) : decB (intB s).1 = s := by
 unfold intB at h2 ⊢
 rw [if_pos hm] at h2 ⊢
 cases hp : parseIntB 64 (L s) with
 | ok v =>
  have := itoa_back (L s) v hm hp
  apply L_ext
  rw [L_decB]
  exact this
 | _ => rw [hp] at h2; cases h2
theorem wid_int (s : ByteArray) (hs : s.size ≤ 281474976710656) (h : widB s ≤ 64) : (intB s).2 = true := by
 cases h2 : (intB s).2 with
 | true => rfl
 | false =>
  exfalso
  unfold widB width_Of.f at h
  rw [Int_eq s hs, Option.bind_some, h2, if_neg (by decide)] at h
  revert h
  decide
theorem fitsN (x : Int) (hx : Wd x) (n : Nat) (hn : Nb n) (k : Nat) (hk : 1 ≤ k) : ∃ b, width_Fits.f k x (8 * (n : Int)) = some b ∧ (b = true ↔ fitN n x) := by
 obtain ⟨k, rfl⟩ : ∃ j, k = j + 1 := ⟨k - 1, by omega⟩
 have k1 : shl .i64 1 (wrap64 (8 - 1)) = 128 := by kernel_rfl
 have k2 : shl .i64 1 (wrap64 (16 - 1)) = 32768 := by kernel_rfl
 have k3 : shl .i64 1 (wrap64 (32 - 1)) = 2147483648 := by kernel_rfl
 have m1 : wrap64 (-(128 : Int)) = -128 := by unfold wrap64; omega
 have m2 : wrap64 (-(32768 : Int)) = -32768 := by unfold wrap64; omega
 have m3 : wrap64 (-(2147483648 : Int)) = -2147483648 := by unfold wrap64; omega
 have e1 : (128 : Int) * 256 ^ (1 - 1) = 128 := by decide
 have e2 : (128 : Int) * 256 ^ (2 - 1) = 32768 := by decide
 have e4 : (128 : Int) * 256 ^ (4 - 1) = 2147483648 := by decide
 rcases hn with rfl | rfl | rfl | rfl
 ·show ∃ b, width_Fits.f (k + 1) x 8 = some b ∧ _
  simp (config := { decide := true }) only [width_Fits.f, width_Fits.j0, if_true, if_false, k1, m1]
  rw [if_pos (by unfold wrap64; omega)]
  unfold fitN
  rw [e1]
  by_cases h : x ≥ -128
  ·rw [if_pos h]; exact ⟨_, rfl, by rw [decide_eq_true_eq]; omega⟩
  ·rw [if_neg h]; exact ⟨_, rfl, ⟨fun h2 => (by cases h2), fun h2 => absurd h2.1 h⟩⟩
 ·show ∃ b, width_Fits.f (k + 1) x 16 = some b ∧ _
  simp (config := { decide := true }) only [width_Fits.f, width_Fits.j0, if_true, if_false, k2, m2]
  rw [if_pos (by unfold wrap64; omega)]
  unfold fitN
  rw [e2]
  by_cases h : x ≥ -32768
  ·rw [if_pos h]; exact ⟨_, rfl, by rw [decide_eq_true_eq]; omega⟩
  ·rw [if_neg h]; exact ⟨_, rfl, ⟨fun h2 => (by cases h2), fun h2 => absurd h2.1 h⟩⟩
 ·show ∃ b, width_Fits.f (k + 1) x 32 = some b ∧ _
  simp (config := { decide := true }) only [width_Fits.f, width_Fits.j0, if_true, if_false, k3, m3]
  rw [if_pos (by unfold wrap64; omega)]
  unfold fitN
  rw [e4]
  by_cases h : x ≥ -2147483648
  ·rw [if_pos h]; exact ⟨_, rfl, by rw [decide_eq_true_eq]; omega⟩
  ·rw [if_neg h]; exact ⟨_, rfl, ⟨fun h2 => (by cases h2), fun h2 => absurd h2.1 h⟩⟩
 ·show ∃ b, width_Fits.f (k + 1) x 64 = some b ∧ _
  simp (config := { decide := true }) only [width_Fits.f, width_Fits.j0, if_true, if_false]
  exact ⟨_, rfl, by simpa using fit8 hx⟩
theorem wid_least (s : ByteArray) (hs : s.size ≤ 281474976710656) (n m : Nat) (hn : Nb n) (hm : Nb m) (hw : widB s = 8 * (n : Int)) (hlt : m < n) : ¬ fitN m (intB s).1 := by
 have hn8 : n ≤ 8 := by rcases hn with rfl | rfl | rfl | rfl <;> decide
 obtain ⟨hwd, _⟩ := wid_fits s hs (by omega)
 have hi := wid_int s hs (by omega)
 intro hf
 unfold widB width_Of.f at hw
 rw [Int_eq s hs, Option.bind_some, if_pos hi] at hw
 generalize (intB s).1 = v at hw hwd hf
 have F : ∀ q, Nb q → fitN q v → width_Fits.f 10 v (8 * (q : Int)) = some true := fun q hq hfq => by
  obtain ⟨b, h1, h2⟩ := fitsN v hwd q hq 10 (by decide)
  rw [h1, h2.2 hfq]
 simp only [ofC] at hw
 rcases hm with rfl | rfl | rfl | rfl
 ·have h1 : width_Fits.f 10 v 8 = some true := F 1 (.inl rfl) hf
  rw [if_pos trivial, h1, Option.bind_some, if_pos rfl] at hw
  have : (8 : Int) = 8 * (n : Int) := hw
  omega
 ·have h1 : width_Fits.f 10 v 16 = some true := F 2 (.inr (.inl rfl)) hf
  obtain ⟨⟨b1, g1⟩, _⟩ := fits_some v
  rw [if_pos trivial, g1, Option.bind_some] at hw
  cases b1 with
  | true =>
   have : (8 : Int) = 8 * (n : Int) := hw
   omega
  | false =>
   rw [if_neg (by decide), if_neg (by decide), if_pos trivial, h1, Option.bind_some, if_pos rfl] at hw
   have : (16 : Int) = 8 * (n : Int) := hw
   omega
 ·have h1 : width_Fits.f 10 v 32 = some true := F 4 (.inr (.inr (.inl rfl))) hf
  obtain ⟨⟨b1, g1⟩, ⟨b2, g2⟩, _⟩ := fits_some v
  rw [if_pos trivial, g1, Option.bind_some] at hw
  cases b1 with
  | true =>
   have : (8 : Int) = 8 * (n : Int) := hw
   omega
  | false =>
   rw [if_neg (by decide), if_neg (by decide), if_pos trivial, g2, Option.bind_some] at hw
   cases b2 with
   | true =>
    have : (16 : Int) = 8 * (n : Int) := hw
    omega
   | false =>
    rw [if_neg (by decide), if_neg (by decide), if_neg (by decide), if_pos trivial, h1, Option.bind_some, if_pos rfl] at hw
    have : (32 : Int) = 8 * (n : Int) := hw
    omega
 ·omega
theorem all_l0 (xs l : List Int) (n : Nat) (hn : Nb n) (hz : sizeL xs = ((l.length : Int), 0)) (hl : l.length ≤ 4096) (hf : ∀ x ∈ l, Wd x ∧ fitN n x) : ∀ (m i k : Nat) (acc : List Int), l.length - i < m → m + 30 ≤ k → i ≤ l.length → acc = l.take i →
  typed_Typed_all.l0 k acc (l.length : Int) (i : Int) (8 * (n : Int)) xs (strOfNums (layL n l)) = some l := by
 intro m
 induction m with
 | zero => intro i k acc h; omega
 | succ m ih =>
  intro i k acc h hk hi ha
  obtain ⟨k, rfl⟩ : ∃ j, k = j + 1 := ⟨k - 1, by omega⟩
  simp only [typed_Typed_all.l0]
  have hal : acc.length ≤ 4096 := by
   rw [ha, List.length_take]
   omega
  by_cases hlt : i < l.length
  ·have hx := hf _ (List.getElem_mem hlt)
   rw [if_pos (by omega), tat_in xs l n hn hz hl i hlt hx.1 hx.2 k (by omega), Option.bind_some, if_pos (by omega), nx hlt (by omega)]
   refine ih (i + 1) k _ (by omega) (by omega) (by omega) ?_
   rw [ha, List.take_succ_eq_append_getElem hlt]
  ·rw [if_neg (by omega), ha, List.take_of_length_le (by omega)]
theorem all_eq (xs l : List Int) (n : Nat) (hn : Nb n) (hz : sizeL xs = ((l.length : Int), 0)) (hl : l.length ≤ 4096) (hf : ∀ x ∈ l, Wd x ∧ fitN n x) (k : Nat) (hk : 5000 ≤ k) : typed_Typed_all.f k (8 * (n : Int)) xs (strOfNums (layL n l)) = some l := by
 unfold typed_Typed_all.f
 rw [tmany_eq xs l n hn hz hl k (by omega), Option.bind_some]
 exact all_l0 xs l n hn hz hl hf (l.length + 1) 0 k [] (by omega) (by omega) (by omega) rfl
theorem val_l0 (xs l : List Int) (hl : l.length ≤ 4096) (hf : ∀ x ∈ l, Wd x) : ∀ (m i k : Nat) (acc : List ByteArray), l.length - i < m → m ≤ k → i ≤ l.length → acc = (l.take i).map decB →
  typed_Typed_Val.l0 k l (l.length : Int) (i : Int) xs acc = some (xs, l.map decB, true) := by
 intro m
 induction m with
 | zero => intro i k acc h; omega
 | succ m ih =>
  intro i k acc h hk hi ha
  obtain ⟨k, rfl⟩ : ∃ j, k = j + 1 := ⟨k - 1, by omega⟩
  simp only [typed_Typed_Val.l0]
  have hal : acc.length ≤ 4096 := by
   rw [ha, List.length_map, List.length_take]
   omega
  by_cases hlt : i < l.length
  ·have hx := hf _ (List.getElem_mem hlt)
   rw [if_pos (by omega), if_pos (by omega), if_pos (by omega), rd_at l i hlt, numOf_eq _ hx.1 hx.2, Option.bind_some, if_pos (by omega), nx hlt (by omega)]
   refine ih (i + 1) k _ (by omega) (by omega) (by omega) ?_
   rw [ha, List.take_succ_eq_append_getElem hlt, List.map_append]
   rfl
  ·rw [if_neg (by omega), ha, List.take_of_length_le (by omega)]
theorem val_eq (xs l : List Int) (n : Nat) (hn : Nb n) (hz : sizeL xs = ((l.length : Int), 0)) (hxs : xs.length ≤ 1000) (hl : l.length ≤ 4096) (hf : ∀ x ∈ l, Wd x ∧ fitN n x) (k : Nat) (hk : 5000 ≤ k) : typed_Typed_Val.f k (8 * (n : Int)) xs (strOfNums (layL n l)) = some (xs, l.map decB, true) := by
 unfold typed_Typed_Val.f
 rw [tmay_eq xs l n hn hz hl k (by omega), Option.bind_some, if_pos rfl]
 unfold slices_Clone_int_int.f
 rw [if_pos (by omega), Option.bind_some, all_eq xs l n hn hz hl hf k hk, Option.bind_some]
 exact val_l0 xs l hl (fun x hx => (hf x hx).1) (l.length + 1) 0 k [] (by omega) (by omega) (by omega) rfl
theorem idx_l0 (l : List Int) (n : Nat) (hn : Nb n) (hl : l.length ≤ 4096) (hf : ∀ x ∈ l, Wd x) : ∀ (m i k : Nat), l.length - i < m → m + 2 ≤ k → i ≤ l.length →
  ∃ t, IndexFunc_To.l0 k (8 * (n : Int)) l (l.length : Int) (i : Int) = some t ∧ (t ≥ 0 ↔ ∃ x ∈ l.drop i, ¬ fitN n x) := by
 intro m
 induction m with
 | zero => intro i k h; omega
 | succ m ih =>
  intro i k h hk hi
  obtain ⟨k, rfl⟩ : ∃ j, k = j + 1 := ⟨k - 1, by omega⟩
  simp only [IndexFunc_To.l0]
  by_cases hlt : i < l.length
  ·have hx := hf _ (List.getElem_mem hlt)
   obtain ⟨b, hb, hbi⟩ := fitsN l[i] hx n hn k (by omega)
   rw [if_pos (by omega), if_pos (by omega), if_pos (by omega), rd_at l i hlt]
   unfold typed_To_1.f
   rw [hb, Option.bind_some, Option.bind_some, List.drop_eq_getElem_cons hlt]
   cases b with
   | false =>
    rw [if_pos (by decide)]
    refine ⟨_, rfl, fun _ => ⟨l[i], List.mem_cons_self, fun hq => by cases hbi.2 hq⟩, fun _ => by omega⟩
   | true =>
    rw [if_neg (by decide), nx hlt (by omega)]
    obtain ⟨t, h1, h2⟩ := ih (i + 1) k (by omega) (by omega) (by omega)
    refine ⟨t, h1, h2.trans ⟨fun ⟨x, hx1, hx2⟩ => ⟨x, List.mem_cons_of_mem _ hx1, hx2⟩, fun ⟨x, hx1, hx2⟩ => ?_⟩⟩
    rcases List.mem_cons.1 hx1 with hq | hq
    ·rw [hq] at hx2
     exact absurd (hbi.1 rfl) hx2
    ·exact ⟨x, hq, hx2⟩
  ·rw [if_neg (by omega), List.drop_eq_nil_of_le (by omega)]
   exact ⟨_, rfl, by simp⟩
theorem cont_eq (l : List Int) (n : Nat) (hn : Nb n) (hl : l.length ≤ 4096) (hf : ∀ x ∈ l, Wd x) (k : Nat) (hk : 5000 ≤ k) : ∃ c, ContainsFunc_To.f k l (8 * (n : Int)) = some c ∧ (c = true ↔ ∃ x ∈ l, ¬ fitN n x) := by
 unfold ContainsFunc_To.f IndexFunc_To.f
 obtain ⟨t, h1, h2⟩ := idx_l0 l n hn hl hf (l.length + 1) 0 k (by omega) (by omega) (by omega)
 rw [List.drop_zero] at h2
 have h3 : IndexFunc_To.l0 k (8 * (n : Int)) l (l.length : Int) 0 = some t := h1
 rw [h3, Option.bind_some]
 exact ⟨_, rfl, by rw [decide_eq_true_eq]; exact h2⟩
theorem to_eq (xs l : List Int) (n m : Nat) (hn : Nb n) (hm : Nb m) (hz : sizeL xs = ((l.length : Int), 0)) (hxs : xs.length ≤ 1000) (hl : l.length ≤ 4096) (hf : ∀ x ∈ l, Wd x ∧ fitN n x) (k : Nat) (hk : 5000 ≤ k) :
  ((∀ x ∈ l, fitN m x) ∧ typed_Typed_To.f k (8 * (n : Int)) xs (strOfNums (layL n l)) (8 * (m : Int)) = some (8 * (m : Int), xs, strOfNums (layL m l), true)) ∨
  ((∃ x ∈ l, ¬ fitN m x) ∧ typed_Typed_To.f k (8 * (n : Int)) xs (strOfNums (layL n l)) (8 * (m : Int)) = some (0, [], ⟨#[]⟩, false)) := by
 have hm8 : m ≤ 8 := by rcases hm with rfl | rfl | rfl | rfl <;> decide
 unfold typed_Typed_To.f
 obtain ⟨b, hb, hw⟩ := known_eq (8 * (m : Int)) k (by omega)
 obtain ⟨c, hc, hci⟩ := cont_eq l m hm hl (fun x hx => (hf x hx).1) k hk
 rw [all_eq xs l n hn hz hl hf k hk, Option.bind_some, tmay_eq xs l n hn hz hl k (by omega), Option.bind_some, if_pos rfl, hb, hw.2 (nb_known m hm), Option.bind_some, if_pos rfl, hc, Option.bind_some]
 cases c with
 | true => rw [if_pos rfl]; exact .inr ⟨hci.1 rfl, rfl⟩
 | false =>
  left
  rw [if_neg (by decide), lay_eq xs l m hm8 (by omega) hxs k (by omega), Option.bind_some]
  refine ⟨fun x hx => ?_, rfl⟩
  apply Classical.byContradiction
  intro hq
  cases hci.2 ⟨x, hx, hq⟩
end Go.Proofs.YthcijldahbalcaaDoor
end
section
namespace Go.Proofs.YthcijldahbalcaaDoor.Pure
open Go.RowKit Go.Lib Go.Proofs.YthcijldahbalcaaDoor Go.Proofs.YthcijldahbalcaaDoor.P Go.Proofs.YthcijldahbalcaaDoorW.PrintWords Go.Proofs.YthcijldahbalcaaDoorW.PrintLast Go.Proofs.YthcijldahbalcaaDoorW.PrintMore
set_option linter.unusedVariables false
theorem same_l0 (xs : List Int) (hx : xs.length ≤ 1000000) : ∀ (m i k : Nat), xs.length - i < m → m ≤ k → i ≤ xs.length → slices_Equal_int_int.l0 k xs xs (xs.length : Int) (i : Int) = some true := by
 intro m
 induction m with
 | zero => intro i k h; omega
 | succ m ih =>
  intro i k h hk hi
  obtain ⟨k, rfl⟩ : ∃ j, k = j + 1 := ⟨k - 1, by omega⟩
  simp only [slices_Equal_int_int.l0]
  by_cases hlt : i < xs.length
  ·rw [if_pos (by omega), if_pos (by omega), if_pos (by omega), if_pos (by omega), if_pos trivial, nx hlt (by omega)]
   exact ih (i + 1) k (by omega) (by omega) (by omega)
  ·rw [if_neg (by omega)]
theorem same_eq (xs : List Int) (hx : xs.length ≤ 1000000) (k : Nat) (hk : xs.length + 1 ≤ k) : shape_Same.f k xs xs = some true := by
 unfold shape_Same.f slices_Equal_int_int.f
 rw [if_pos rfl]
 have h : slices_Equal_int_int.l0 k xs xs (xs.length : Int) 0 = some true := same_l0 xs hx (xs.length + 1) 0 k (by omega) hk (by omega)
 rw [h]
 rfl
theorem sames_l0 (ys : List ByteArray) (hy : ys.length ≤ 1000000) : ∀ (m i k : Nat), ys.length - i < m → m ≤ k → i ≤ ys.length → slices_Equal_string_string.l0 k ys ys (ys.length : Int) (i : Int) = some true := by
 intro m
 induction m with
 | zero => intro i k h; omega
 | succ m ih =>
  intro i k h hk hi
  obtain ⟨k, rfl⟩ : ∃ j, k = j + 1 := ⟨k - 1, by omega⟩
  simp only [slices_Equal_string_string.l0]
  by_cases hlt : i < ys.length
  ·rw [if_pos (by omega), if_pos (by omega), if_pos (by omega), if_pos (by omega), if_pos trivial, nx hlt (by omega)]
   exact ih (i + 1) k (by omega) (by omega) (by omega)
  ·rw [if_neg (by omega)]
theorem vsame_eq (xs : List Int) (ys : List ByteArray) (hx : xs.length ≤ 1000000) (hy : ys.length ≤ 1000000) (k : Nat) (hk : xs.length + 1 ≤ k) (hk2 : ys.length + 1 ≤ k) : val_Same.f k xs ys xs ys = some true := by
 unfold val_Same.f
 rw [same_eq xs hx k hk, Option.bind_some, if_pos rfl]
 unfold slices_Equal_string_string.f
 rw [if_pos rfl]
 have h : slices_Equal_string_string.l0 k ys ys (ys.length : Int) 0 = some true := sames_l0 ys hy (ys.length + 1) 0 k (by omega) hk2 (by omega)
 rw [h]
 rfl
theorem wid_big (s : ByteArray) (hs : s.size ≤ 281474976710656) : widB s ≤ 64 ∨ widB s = 128 := by
 have key : ∀ v r, ofC v 7 0 = some r → r ≤ 64 ∨ r = 128 := by
  intro v r h
  obtain ⟨⟨b1, h1⟩, ⟨b2, h2⟩, ⟨b3, h3⟩, ⟨b4, h4⟩, ⟨b5, h5⟩⟩ := fits_some v
  simp only [ofC, h1, h2, h3, h4, h5, Option.bind_some] at h
  cases b1 <;> cases b2 <;> cases b3 <;> cases b4 <;> cases b5 <;> simp at h <;> omega
 have h := (Of_eq s hs).1
 unfold width_Of.f at h
 rw [Int_eq s hs, Option.bind_some] at h
 by_cases h2 : (intB s).2 = true
 ·rw [if_pos h2] at h
  exact key _ _ h
 ·rw [if_neg h2] at h
  right
  exact (Option.some.inj h).symm
theorem no_val (k : Nat) (hk : 20 ≤ k) : typed_Typed_Val.f k 0 [] ⟨#[]⟩ = some ([], [], false) := by
 unfold typed_Typed_Val.f typed_Typed_May.f
 obtain ⟨b, hb, hw⟩ := known_eq 0 k (by omega)
 have hf : b = false := by
  cases b with
  | false => rfl
  | true => have := hw.1 rfl; revert this; decide
 rw [size_eq [] k (by omega), Option.bind_some, hb, hf, Option.bind_some, if_neg (by decide), Option.bind_some, if_neg (by decide)]
theorem TypedBack : reredoslaw05_TypedBack.Pure := by
 intro xs ys a1 _ _ ha
 have hb1 : 0 ≤ a1 ∧ a1 ≤ 255 := by simpa [Lit.wf, IntKind.min, IntKind.max, IntKind.signed, IntKind.bits] using ha
 obtain ⟨K, hK⟩ : ∃ K : Nat, 30000 ≤ K := ⟨30000, Nat.le_refl _⟩
 refine ⟨K + 1, ?_⟩
 unfold reredoslaw05_TypedBack.f
 rw [shown05_eq (K + 1) (by omega), Option.bind_some]
 obtain ⟨b, hb, hf⟩ := few_eq xs ys (K + 1) (by omega)
 rw [hb, Option.bind_some]
 cases b with
 | false => rw [if_neg (by decide), reredoslaw05_TypedBack.j0, if_pos rfl]
 | true =>
  obtain ⟨h1, h2, h3⟩ := hf rfl
  rw [if_pos rfl, mayV_eq xs ys (by omega) (K + 1) (by omega), Option.bind_some, reredoslaw05_TypedBack.j0]
  cases hm : mayV xs ys with
  | false => rw [if_pos (by decide)]
  | true =>
   have hg := good_of xs ys hm
   rw [if_neg (by decide)]
   have hwe := width_eq xs ys (by omega) (fun e he => by have := h2 e he; omega) K (by omega)
   rcases pack_eq xs ys hm h2 K (by omega) with ⟨n, hn, hw, hp⟩ | hp
   ·rw [hp, Option.bind_some]
    dsimp only
    rw [if_pos rfl, Option.bind_some]
    have t1 : 0 ≤ Int.tmod a1 4 := Int.tmod_nonneg _ hb1.1
    have t2 : Int.tmod a1 4 < 4 := Int.tmod_lt_of_pos _ (by decide)
    have hl4 : (([8, 16, 32, 64] : List Int).length : Int) = 4 := rfl
    rw [if_pos t1, hl4, if_pos t2]
    obtain ⟨m, hmn, hrd⟩ : ∃ m, Nb m ∧ rd ([8, 16, 32, 64] : List Int) (Int.tmod a1 4) = 8 * (m : Int) := by
     generalize Int.tmod a1 4 = q at t1 t2
     have hq : q = 0 ∨ q = 1 ∨ q = 2 ∨ q = 3 := by omega
     rcases hq with rfl | rfl | rfl | rfl
     ·exact ⟨1, .inl rfl, rfl⟩
     ·exact ⟨2, .inr (.inl rfl), rfl⟩
     ·exact ⟨4, .inr (.inr (.inl rfl)), rfl⟩
     ·exact ⟨8, .inr (.inr (.inr rfl)), rfl⟩
    rw [hrd]
    have hll : (numsL ys).length = ys.length := by unfold numsL; rw [List.length_map]
    have hz : sizeL xs = (((numsL ys).length : Int), 0) := by
     rw [sizeL_of xs hg.rank hg.pos hg.big hg.few, hll, hg.size]
    have hrk := hg.rank
    have hfit : ∀ x ∈ numsL ys, Wd x ∧ fitN n x := fun x hx => by
     obtain ⟨e, he, rfl⟩ := List.mem_map.1 hx
     obtain ⟨f1, f2, _⟩ := nums_fit ys h2 n hn hw e he
     exact ⟨f1, f2⟩
    have hback : (numsL ys).map decB = ys := by
     unfold numsL
     rw [List.map_map]
     conv => rhs; rw [← List.map_id ys]
     apply List.map_congr_left
     intro e he
     obtain ⟨_, _, m', _, hle, hwd, _⟩ := nums_fit ys h2 n hn hw e he
     have hn8 : n ≤ 8 := by rcases hn with rfl | rfl | rfl | rfl <;> decide
     have hse := h2 e he
     exact decB_back e (hg.may e he) (wid_int e (by omega) (by omega))
    rw [val_eq xs (numsL ys) n hn hz (by omega) (by omega) hfit K (by omega), Option.bind_some, hback]
    dsimp only
    rcases to_eq xs (numsL ys) n m hn hmn hz (by omega) (by omega) hfit K (by omega) with ⟨hall, hto⟩ | ⟨hex, hto⟩
    ·have hge : n ≤ m := by
      apply Decidable.byContradiction
      intro hlt
      rcases gmax_mem (ys.map widB) with h | h
      ·rw [hw] at h
       have hm1 : 1 ≤ m := by rcases hmn with rfl | rfl | rfl | rfl <;> decide
       omega
      ·rw [hw] at h
       obtain ⟨e, he, hq⟩ := List.mem_map.1 h
       have hse := h2 e he
       exact wid_least e (by omega) n m hn hmn hq (by omega) (hall _ (List.mem_map_of_mem he))
     rw [hto, Option.bind_some]
     dsimp only
     rw [val_eq xs (numsL ys) m hmn hz (by omega) (by omega) (fun x hx => ⟨(hfit x hx).1, hall x hx⟩) K (by omega), Option.bind_some, hback]
     dsimp only
     rw [if_pos rfl, tmay_eq xs (numsL ys) n hn hz (by omega) K (by omega), Option.bind_some, if_pos rfl, if_pos rfl, vsame_eq xs ys (by omega) (by omega) K (by omega) (by omega), Option.bind_some, if_pos rfl,
      decide_eq_true (by omega : 8 * (m : Int) ≥ 8 * (n : Int)), if_pos (by decide), if_pos rfl, if_pos rfl, Option.bind_some, if_pos rfl, beq_self_eq_true]
    ·have hlt : m < n := by
      apply Decidable.byContradiction
      intro hge
      obtain ⟨x, hx, hnf⟩ := hex
      exact hnf (fit_le hn hmn (hfit x hx).2 (by omega))
     rw [hto, Option.bind_some]
     dsimp only
     rw [no_val K (by omega), Option.bind_some]
     dsimp only
     rw [if_pos rfl, tmay_eq xs (numsL ys) n hn hz (by omega) K (by omega), Option.bind_some, if_pos rfl, if_pos rfl, vsame_eq xs ys (by omega) (by omega) K (by omega) (by omega), Option.bind_some, if_pos rfl,
      decide_eq_false (by omega : ¬ (8 * (m : Int) ≥ 8 * (n : Int))), if_pos (by decide), if_neg (by decide)]
   ·rw [hp, Option.bind_some]
    dsimp only
    rw [if_neg (by decide), if_pos rfl, if_pos rfl, hwe, Option.bind_some]
    have hkn : gmax (ys.map widB) ∉ ([8, 16, 32, 64] : List Int) := by
     intro hq
     obtain ⟨n, hn, he⟩ := known_nb _ hq
     have hlen : ys.length ≤ 4096 := by omega
     have hrk := hg.rank
     have hn8 : n ≤ 8 := by rcases hn with rfl | rfl | rfl | rfl <;> decide
     obtain ⟨b, hb, hbw⟩ := known_eq (8 * (n : Int)) K (by omega)
     have hq2 : typed_Pack.l0 K (8 * (n : Int)) [] ys (ys.length : Int) 0 xs ys = some (8 * (n : Int), xs, strOfNums (layL n (numsL ys)), 0) := pack_l0 xs ys n hn8 hlen (by omega) h2 (ys.length + 1) 0 K [] (by omega) (by omega) (by omega) rfl
     unfold typed_Pack.f at hp
     rw [mayV_eq xs ys (by omega) K (by omega), hm, Option.bind_some, if_pos rfl, hwe, Option.bind_some, he, hb, hbw.2 (nb_known n hn), Option.bind_some, if_pos rfl, hq2] at hp
     simp at hp
    have h128 : gmax (ys.map widB) = 128 := by
     rcases gmax_mem (ys.map widB) with h | h
     ·exact absurd (by rw [h]; decide) hkn
     ·obtain ⟨e, he, hq⟩ := List.mem_map.1 h
      have hse := h2 e he
      rcases wid_big e (by omega) with hb | hb
      ·obtain ⟨_, n, hn, hw, _⟩ := wid_fits e (by omega) hb
       exact absurd (by rw [← hq, hw]; exact nb_known n hn) hkn
      ·rw [← hq]; exact hb
    rw [h128]
    rfl
end Go.Proofs.YthcijldahbalcaaDoor.Pure
end
section
namespace Go.Proofs.YthcijldahbalcaaDoor.typedBack
open Go.ChangeShapes Go.WideShapes Go.ChangeAt Go.RowKit Go.Proofs.YthcijldahbalcaaDoorW.PrintWords Go.Proofs.YthcijldahbalcaaDoor.P
open Go.ChangeMaps (open_string shut_string)
set_option linter.unusedVariables false
theorem own : ownKnob Tryd.prog.godebug = none := by kernel_rfl
theorem laidOut : laidOutB Tryd.prog = true := by kernel_rfl
set_option maxRecDepth 100000 in
theorem lifted (os : Os) (started : os.Started) (H : Type) (enc : TypeId × Value → H) :
    ReturnsInHanded {} Tryd.checked os 11 .any (fun w args => (Rows.typedBackSpec.pre enc Tryd.prog Tryd.f11 [] false w args ∧ laidMetH Tryd.prog Rows.typedBackRow.laid w) ∧ sizedMet enc Tryd.prog Tryd.f11 (OpenSpec.ofChange Rows.typedBackSpec) false w args) (Rows.typedBackSpec.post enc Tryd.prog Tryd.f11 false true false false) := by
  refine returnsInHanded_of_change_and (C := Tryd.checked) (X := (fun w _ => laidMetH Tryd.prog Rows.typedBackRow.laid w)) (fun _ _ _ hh h => h.of_heap hh) own started (by kernel_rfl) Tryd.func11
    (ChangeSpec.witness_shaped (enc := enc) (C := Tryd.checked) (os := os) (X := (fun w _ => laidMetH Tryd.prog Rows.typedBackRow.laid w)) false (World.laidAll Tryd.prog os Rows.typedBackRow.laid) #[.agg #[.slice none 0 0, .slice none 0 0], .int .u8 0] 8 (World.laidAll_os _ _ _)
      (World.shaped_of_ZipB (by kernel_rfl) (by kernel_rfl)) (by kernel_rfl) (by kernel_rfl) (by kernel_rfl)
      (by rw [MakeChecks.laidMetH_plain _ _ _ (by kernel_rfl)]; exact laidMet_laidAll _ (by kernel_rfl) (by kernel_rfl))) ?_
  intro W base args ds gs before hval0 hW hcnd hsz0 hL _
  have hG : Glob W := globW (by rw [MakeChecks.laidMetH_plain _ _ _ (by kernel_rfl)] at hL; exact hL)
  have hsz : (DataW.weightsEach Tryd.prog (Tryd.f11.params.toList ++ Rows.typedBackSpec.plain.varTypes Tryd.prog) (ds ++ gs)).all (· ≤ reachBytes) = true := hsz0
  have hval : ∀ (j : Nat) t v, Tryd.f11.params[j]? = some t → args[j]? = some v → Value.okWide Tryd.prog W .any base t v := hval0
  have hW' := hW
  obtain ⟨p, q, hA0, hV, rfl, hfz, hnd⟩ := hW
  have hA : DataW.TrodAll enc Tryd.prog W 0 (fun _ => true) true Tryd.f11.params.toList args.toList ds p := hA0
  rw [Tryd.params11] at hA hval hsz
  obtain ⟨v0, vs0, d0, ds0, p0, q0, hargs, rfl, rfl, h0, r0⟩ := trodAll_cons hA
  obtain ⟨v1, vs1, d1, ds1, p1, q1, rfl, rfl, rfl, h1, r1⟩ := trodAll_cons r0
  obtain ⟨rfl, rfl, rfl⟩ := trodAll_nil r1
  obtain rfl : args = #[v0, v1] := by cases args; simp_all
  obtain ⟨rfl, rfl⟩ := trodVars_none hV
  have k0 := h0
  have lt0 := trod_places h0
  obtain ⟨a0, cs0, rfl, hk0, wf0⟩ := arg_struct Tryd.underlying25 (opens_iso (fun x : S25 => (x.f0, x.f1)) (fun a => ⟨a.1, a.2⟩) (fun _ => rfl) (opens_struct Tryd.underlying25 (by kernel_rfl) (opensF_cons (by kernel_rfl) (by kernel_rfl) (opens_slice Tryd.underlying22 (by kernel_rfl) (opens_int Tryd.underlying3)) (opensF_last (by kernel_rfl) (by kernel_rfl) (opens_slice Tryd.underlying23 (by kernel_rfl) (opens_string Tryd.underlying9)))))) (hval 0 25 v0 rfl rfl) h0
  obtain ⟨A0_0, c0_0, A0_1, c0_1, hcs0, hc0_0, hr0_0, hc0_1, hr0_1⟩ := k25_open hk0
  obtain rfl := of_toList hcs0
  obtain ⟨a1, rfl, rfl, rfl, w1⟩ := open_int Tryd.underlying5 (hval 1 5 v1 rfl rfl) h1
  clear hA0 hval0 hsz0 hsz
  obtain ⟨k_, hp_⟩ := Pure.TypedBack (a0.f0) (a0.f1) a1 (wf0.1) (wf0.2) w1
  refine (reredoslaw05_TypedBack.calls k_ A0_0 c0_0 (a0.f0) A0_1 c0_1 (a0.f1) a1 true W hr0_0 hc0_0 hr0_1 hc0_1 hG hp_).mono fun e W' hpost => ?_
  obtain ⟨he, bel0⟩ := hpost
  have bel : Below W.heap.size W W' := by first | exact bel0 | exact bel0.below
  subst he
  exact ⟨_, rfl, _, _, _, [], _, [], hW', trodAll_mk1 (shut_bool Tryd.underlying4 _), (trodAll_cons_mk (Below.trod laidOut (by kernel_rfl) (of_decide_eq_true (by kernel_rfl)) k0 bel lt0) (trodAll_cons_mk (shut_int Tryd.underlying5 w1) trodAll_mk0)), rfl, bel.frame _, fun h => by cases h⟩
theorem over : Rows.typedBackRow.holds Tryd.pinned (OpenSpec.ofChange Rows.typedBackSpec) :=
  OpenClaim.holds_of_wide 11 Tryd.f11 rfl rfl rfl rfl rfl rfl rfl ⟨rfl, rfl, rfl, rfl, rfl⟩ rfl rfl rfl rfl rfl (by kernel_rfl) Tryd.func11 (by kernel_rfl)
    (of_decide_eq_true (by kernel_rfl)) (by unfold Func.isWrapper; first | (rw [if_pos (by decide +kernel)]; kernel_rfl) | (rw [if_neg (by decide +kernel)]; exact ⟨rfl, rfl⟩))
    (fun os started H enc _ => lifted os started H enc)
theorem card : Rows.TypedBackCardSaid :=
  Claim7.holds_tied_plain_at .later [] [.data, .data, .data, .sentinel, .sentinel] true (true, "777803f5cc2650144c63029cddcac2ae55c749573dd844dc304ba8bf68817a60") true over (fun _ h => by cases h) (by kernel_rfl) (fun _ h => by cases h) typedBack_row_tie rfl ⟨rfl, rfl⟩ (by kernel_rfl) rfl
    (fun f fn hf hfn => by
      obtain rfl : f = 11 := Option.some.inj ((show Tryd.prog.funcNamed Rows.typedBackRow.func = some 11 by kernel_rfl).symm.trans hf) |>.symm
      obtain rfl : fn = Tryd.f11 := (Option.some.inj (Tryd.func11.symm.trans hfn)).symm
      exact ⟨by kernel_rfl, fun j t ht => by
        have hm : t ∈ Tryd.f11.params.toList := by simpa using Array.mem_of_getElem? ht
        have hall : (Tryd.f11.params.toList.all fun u => !Tryd.prog.wantsStandIn u) = true := by kernel_rfl
        exact (show Tryd.prog.wantsStandIn t = false by simpa using List.all_eq_true.1 hall t hm)⟩)
    (by kernel_rfl)
#print axioms card
end Go.Proofs.YthcijldahbalcaaDoor.typedBack
namespace Go.Proofs.YthcijldahbalcaaDoor
theorem typedBack_holds : Rows.TypedBackCardSaid := typedBack.card
end Go.Proofs.YthcijldahbalcaaDoor
end
