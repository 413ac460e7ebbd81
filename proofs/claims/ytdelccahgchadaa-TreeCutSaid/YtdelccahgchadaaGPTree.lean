/- The tree's functions, printed, in plain words: kids, ends, depth. -/
import Derived.Test.YtdelccahgchadaaGTreeL
import Derived.Test.YtdelccahgchadaaPx2
import Derived.Test.YtdelccahgchadaaPx3
import Derived.Test.YtdelccahgchadaaPx4
namespace Go.Proofs.Ytdelccahgchadaa
open Go.RowKit Go.Lib Go.Proofs.Ytdelccahgchadaa.P Go.Proofs.YtdelccahgchadaaW.PrintWords Go.Proofs.YtdelccahgchadaaW.PrintMore
set_option linter.unusedVariables false
abbrev Nd := S25
/-- How many trees are below a node. -/
def kdB (f0 : Int) (v : ByteArray) : Int :=
  let b : Int := if v.toList = ([123] : List UInt8) then 1 else 0
  if f0 = 1 ∨ f0 = 2 then 0 else if f0 = 3 then 1 + b else if f0 = 4 then 2 + b else if f0 = 5 ∨ f0 = 7 then 1 else if f0 = 6 ∨ f0 = 8 then 2 else -1
def kdT (x : Nd) : Int := kdB x.f0 x.f1
theorem kdB_bounds (f0 : Int) (v : ByteArray) : -1 ≤ kdB f0 v ∧ kdB f0 v ≤ 3 := by
  unfold kdB
  simp only []
  split <;> (try split) <;> (try split) <;> (try split) <;> (try split) <;> (try split) <;> omega
theorem Kids_eq (f0 : Int) (v a n : ByteArray) (l : List ByteArray) (k : Nat) (hk : 3 ≤ k) : tree_Kids.f k f0 v a n l = some (kdB f0 v) := by
  obtain ⟨k, rfl⟩ : ∃ j, k = j + 3 := ⟨k - 3, by omega⟩
  have h0 : ∀ b : Int, b = 0 ∨ b = 1 → tree_Kids.j0 (k + 3) b f0 v a n l = some (if f0 = 1 ∨ f0 = 2 then 0 else if f0 = 3 then 1 + b else if f0 = 4 then 2 + b else if f0 = 5 ∨ f0 = 7 then 1 else if f0 = 6 ∨ f0 = 8 then 2 else -1) := by
    intro b hb
    have w1 : wrap64 (1 + b) = 1 + b := wrap_id (by omega) (by omega)
    have w2 : wrap64 (2 + b) = 2 + b := wrap_id (by omega) (by omega)
    simp only [tree_Kids.j0, tree_Kids.j1, tree_Kids.j2, w1, w2]
    by_cases h1 : f0 = 1
    · subst h1; simp
    by_cases h2 : f0 = 2
    · subst h2; simp
    by_cases h3 : f0 = 3
    · subst h3; simp
    by_cases h4 : f0 = 4
    · subst h4; simp
    by_cases h5 : f0 = 5
    · subst h5; simp
    by_cases h6 : f0 = 6
    · subst h6; simp
    by_cases h7 : f0 = 7
    · subst h7; simp
    by_cases h8 : f0 = 8
    · subst h8; simp
    simp [h1, h2, h3, h4, h5, h6, h7, h8]
  unfold tree_Kids.f kdB
  by_cases hv : v.toList = ([123] : List UInt8)
  · rw [if_pos hv, if_pos hv]; exact h0 1 (.inr rfl)
  · rw [if_neg hv, if_neg hv]; exact h0 0 (.inl rfl)
theorem rd_drop (l : List Nd) (i : Nat) (x : Nd) (r : List Nd) (h : l.drop i = x :: r) : rd_T25 l (i : Int) = x ∧ i < l.length ∧ l.drop (i + 1) = r := by
  have hi : i < l.length := by
    have := congrArg List.length h
    rw [List.length_drop, List.length_cons] at this
    omega
  have hd := List.drop_eq_getElem_cons hi
  rw [h] at hd
  injection hd with h1 h2
  refine ⟨?_, hi, h2.symm⟩
  unfold rd_T25
  rw [Int.toNat_natCast, List.getD_eq_getElem?_getD, List.getElem?_eq_getElem hi]
  exact h1.symm
/-- Where so many trees end. -/
def outE (i : Nat) : Option Nat → Int × Bool
  | none => (0, false)
  | some m => (((i + m : Nat) : Int), true)
theorem End_l0 (l0 : List Nd) (hl : l0.length ≤ 1000000) : ∀ (l : List Nd) (i n k : Nat), l0.drop i = l → n ≤ 3 * i + 1 → i ≤ l0.length → l.length + 5 ≤ k →
    tree_End.l0 k l0 (i : Int) (n : Int) = some (outE i (endW kdT l n)) := by
  intro l
  induction l with
  | nil =>
    intro i n k hd hn hi hk
    obtain ⟨k, rfl⟩ : ∃ j, k = j + 1 := ⟨k - 1, by rw [List.length_nil] at hk; omega⟩
    simp only [tree_End.l0]
    cases n with
    | zero => rw [if_neg (by omega), endW_zero]; rfl
    | succ n =>
      have : l0.length ≤ i := by
        have := congrArg List.length hd
        rw [List.length_drop, List.length_nil] at this
        omega
      rw [if_pos (by omega), if_neg (by omega), if_pos (by omega)]
      rfl
  | cons x l ih =>
    intro i n k hd hn hi hk
    rw [List.length_cons] at hk
    obtain ⟨k, rfl⟩ : ∃ j, k = j + 1 := ⟨k - 1, by omega⟩
    obtain ⟨hr, hlt, hd2⟩ := rd_drop l0 i x l hd
    simp only [tree_End.l0]
    cases n with
    | zero => rw [if_neg (by omega), endW_zero]; rfl
    | succ n =>
      rw [if_pos (by omega), if_neg (by omega), if_neg (by omega), if_pos (by omega), if_pos (by omega), hr, Kids_eq _ _ _ _ _ k (by omega)]
      simp only [Option.bind_some, endW]
      have hb := kdB_bounds x.f0 x.f1
      have hk1 : kdT x = kdB x.f0 x.f1 := rfl
      by_cases h : kdB x.f0 x.f1 < 0
      · rw [if_pos h, hk1, if_pos h]; rfl
      · rw [if_neg h, hk1, if_neg h]
        have w1 : wrap64 ((i : Int) + 1) = ((i + 1 : Nat) : Int) := by rw [wrap_id (by omega) (by omega)]; omega
        have w2 : wrap64 (((n + 1 : Nat) : Int) + kdB x.f0 x.f1) = ((n + 1 : Nat) : Int) + kdB x.f0 x.f1 := wrap_id (by omega) (by omega)
        have w3 : wrap64 (((n + 1 : Nat) : Int) + kdB x.f0 x.f1 - 1) = ((n + (kdB x.f0 x.f1).toNat : Nat) : Int) := by rw [wrap_id (by omega) (by omega)]; omega
        rw [w1, w2, w3]
        clear w1 w2 w3
        rw [ih (i + 1) (n + (kdB x.f0 x.f1).toNat) k hd2 (by omega) (by omega) (by omega)]
        cases endW kdT l (n + (kdB x.f0 x.f1).toNat) with
        | none => rfl
        | some m => simp only [outE, Option.map_some]; congr 2; omega
theorem End_eq (l0 : List Nd) (hl : l0.length ≤ 1000000) (i : Nat) (hi : i ≤ l0.length) (k : Nat) (hk : l0.length + 5 ≤ k) : tree_End.f k l0 (i : Int) = some (outE i (endW kdT (l0.drop i) 1)) := by
  unfold tree_End.f
  exact End_l0 l0 hl (l0.drop i) i 1 k rfl (by omega) hi (by rw [List.length_drop]; omega)
/-! ### Depth -/
/-- A stack as the code has it: its top last. -/
def encS : List Nat → List Int
  | [] => []
  | c :: st => encS st ++ [(c : Int)]
theorem encS_len (st : List Nat) : (encS st).length = st.length := by
  induction st with
  | nil => rfl
  | cons c st ih => simp [encS, ih]
theorem rd_last (l : List Int) (c : Int) : rd (l ++ [c]) (l.length : Int) = c := by
  simp [rd]
theorem mx_nat (a b : Nat) : mx (a : Int) (b : Int) = ((max a b : Nat) : Int) := by
  unfold mx
  split <;> omega
theorem dec_len (st : List Nat) : (dec st).length ≤ st.length := by
  induction st with
  | nil => exact Nat.le_refl _
  | cons c st ih => simp only [dec]; split <;> simp only [List.length_cons] <;> omega
theorem dec_le3 (st : List Nat) (h : ∀ c ∈ st, 1 ≤ c ∧ c ≤ 3) : ∀ c ∈ dec st, 1 ≤ c ∧ c ≤ 3 := by
  induction st with
  | nil => intro c hc; cases hc
  | cons c st ih =>
    have hc := h c List.mem_cons_self
    simp only [dec]
    split
    · exact ih fun d hd => h d (List.mem_cons_of_mem _ hd)
    · intro d hd
      rcases List.mem_cons.1 hd with e | e
      · omega
      · exact h d (List.mem_cons_of_mem _ e)
/-- A node is open. -/
theorem Depth_open (l0 : List Nd) (i most c : Nat) (st : List Nat) (k : Nat) (hc : 1 ≤ c) (hl : st.length ≤ 1000000) :
    tree_Depth.l1 (k + 2) (most : Int) (encS (c :: st)) l0 (l0.length : Int) (i : Int) = tree_Depth.l0 k (most : Int) (encS (c :: st)) l0 (l0.length : Int) (wrap64 ((i : Int) + 1)) := by
  have len2 : (encS (c :: st)).length = st.length + 1 := by rw [encS_len]; rfl
  have hw2 : wrap64 (((st.length + 1 : Nat) : Int) - 1) = (st.length : Int) := by rw [wrap_id (by omega) (by omega)]; omega
  have hr2 : rd (encS (c :: st)) (st.length : Int) = (c : Int) := by
    have := rd_last (encS st) (c : Int)
    rw [encS_len] at this
    exact this
  simp only [tree_Depth.l1, tree_Depth.j2, len2, hw2, hr2]
  clear hw2
  have hb : ((c : Int) == 0) = false := by simp; omega
  rw [if_pos (by omega), if_pos (by omega), if_pos (by omega), hb, if_neg (by decide), if_neg (by omega)]
/-- A tree is done. -/
theorem Depth_done (l0 : List Nd) (i most : Nat) : ∀ (st : List Nat) (k : Nat), (∀ c ∈ st, 1 ≤ c ∧ c ≤ 3) → st.length ≤ 1000000 → 2 * st.length + 4 ≤ k →
    ∃ k', k ≤ k' + 2 * (st.length + 1 - (dec st).length) + 2 ∧ tree_Depth.l1 k (most : Int) (encS (0 :: st)) l0 (l0.length : Int) (i : Int) = (match dec st with | [] => some (most : Int) | s :: st' => tree_Depth.l0 k' (most : Int) (encS (s :: st')) l0 (l0.length : Int) (wrap64 ((i : Int) + 1))) := by
  intro st
  induction st with
  | nil =>
    intro k _ _ hk
    obtain ⟨k, rfl⟩ : ∃ j, k = j + 4 := ⟨k - 4, by omega⟩
    refine ⟨k, by simp only [dec, List.length_nil]; omega, ?_⟩
    simp [tree_Depth.l1, tree_Depth.j2, encS, dec, rd, wrap64]
  | cons c st ih =>
    intro k hs hl hk
    rw [List.length_cons] at hl hk
    obtain ⟨k, rfl⟩ : ∃ j, k = j + 2 := ⟨k - 2, by omega⟩
    have hc := hs c List.mem_cons_self
    have e1 : encS (0 :: c :: st) = encS (c :: st) ++ [(0 : Int)] := rfl
    have len1 : (encS (0 :: c :: st)).length = st.length + 2 := by rw [encS_len]; rfl
    have hw : wrap64 (((st.length + 2 : Nat) : Int) - 1) = ((st.length + 1 : Nat) : Int) := by rw [wrap_id (by omega) (by omega)]; omega
    have hr : rd (encS (0 :: c :: st)) ((st.length + 1 : Nat) : Int) = 0 := by
      have := rd_last (encS (c :: st)) 0
      rw [encS_len, List.length_cons] at this
      exact this
    have ht : (encS (0 :: c :: st)).take (((st.length + 1 : Nat) : Int)).toNat = encS (c :: st) := by
      rw [Int.toNat_natCast, e1, List.take_append_of_le_length (by rw [encS_len, List.length_cons]; omega), List.take_of_length_le (by rw [encS_len, List.length_cons]; omega)]
    have len2 : (encS (c :: st)).length = st.length + 1 := by rw [encS_len]; rfl
    have hw2 : wrap64 (((st.length + 1 : Nat) : Int) - 1) = (st.length : Int) := by rw [wrap_id (by omega) (by omega)]; omega
    have hr2 : rd (encS (c :: st)) (st.length : Int) = (c : Int) := by
      have := rd_last (encS st) (c : Int)
      rw [encS_len] at this
      exact this
    have hw3 : wrap64 ((c : Int) - 1) = ((c - 1 : Nat) : Int) := by rw [wrap_id (by omega) (by omega)]; omega
    have hset : (encS (c :: st)).set ((st.length : Int)).toNat ((c - 1 : Nat) : Int) = encS ((c - 1) :: st) := by
      rw [Int.toNat_natCast]
      simp only [encS]
      rw [List.set_append_right _ _ (by rw [encS_len]; omega), encS_len, Nat.sub_self]
      rfl
    have step : tree_Depth.l1 (k + 2) (most : Int) (encS (0 :: c :: st)) l0 (l0.length : Int) (i : Int) = tree_Depth.l1 k (most : Int) (encS ((c - 1) :: st)) l0 (l0.length : Int) (i : Int) := by
      rw [tree_Depth.l1, len1, hw, hr, tree_Depth.j2, len1, hw, ht]
      simp only [Option.bind_some]
      rw [len2, hw2, hr2, hw3, hset]
      clear hw hw2 hw3
      rw [if_pos (by omega), if_pos (by omega), if_pos (by omega), if_pos (by rfl), if_pos (by omega), if_pos (by omega), if_pos (by omega), if_pos (by omega), if_pos (by omega)]
    rw [step]
    clear hw hw2 hw3
    simp only [dec]
    by_cases h1 : c ≤ 1
    · rw [if_pos h1]
      have e : c - 1 = 0 := by omega
      rw [e]
      obtain ⟨k', hk', he⟩ := ih k (fun d hd => hs d (List.mem_cons_of_mem _ hd)) (by omega) (by omega)
      have hdl := dec_len st
      exact ⟨k', by rw [List.length_cons]; omega, he⟩
    · rw [if_neg h1]
      obtain ⟨k, rfl⟩ : ∃ j, k = j + 2 := ⟨k - 2, by omega⟩
      exact ⟨k, by simp only [List.length_cons]; omega, Depth_open l0 i most (c - 1) st k (by omega) (by omega)⟩
theorem Depth_l0 (l0 : List Nd) (hl : l0.length ≤ 1000000) : ∀ (l : List Nd) (i most k : Nat) (st : List Nat), l0.drop i = l → i ≤ l0.length → (∀ c ∈ st, 1 ≤ c ∧ c ≤ 3) → st.length ≤ i → (endW kdT l (need st)).isSome = true → 5 * l.length + 2 * st.length + 8 ≤ k →
    tree_Depth.l0 k (most : Int) (encS st) l0 (l0.length : Int) (i : Int) = some ((mach kdT l st most : Nat) : Int) := by
  intro l
  induction l with
  | nil =>
    intro i most k st hd hi hs hsl he hk
    have := need_pos st
    obtain ⟨n, hn⟩ : ∃ n, need st = n + 1 := ⟨need st - 1, by omega⟩
    rw [hn] at he
    cases he
  | cons x l ih =>
    intro i most k st hd hi hs hsl he hk
    rw [List.length_cons] at hk
    obtain ⟨k, rfl⟩ : ∃ j, k = j + 1 := ⟨k - 1, by omega⟩
    obtain ⟨hr, hlt, hd2⟩ := rd_drop l0 i x l hd
    have hp := need_pos st
    obtain ⟨n, hn⟩ : ∃ n, need st = n + 1 := ⟨need st - 1, by omega⟩
    have hb := kdB_bounds x.f0 x.f1
    have hk1 : kdT x = kdB x.f0 x.f1 := rfl
    rw [hn] at he
    simp only [endW] at he
    by_cases hx : kdT x < 0
    · rw [if_pos hx] at he; cases he
    rw [if_neg hx] at he
    have he2 : (endW kdT l (n + (kdT x).toNat)).isSome = true := by
      cases h : endW kdT l (n + (kdT x).toNat) with
      | none => rw [h] at he; cases he
      | some m => rfl
    obtain ⟨c, hc⟩ : ∃ c, (kdT x).toNat = c := ⟨_, rfl⟩
    have hkc : kdB x.f0 x.f1 = (c : Int) := by omega
    have henc : encS st ++ [(c : Int)] = encS (c :: st) := rfl
    have hlen : (encS (c :: st)).length = st.length + 1 := by rw [encS_len]; rfl
    have hlim : (encS st).length < 17592186044416 := Nat.lt_of_le_of_lt (by rw [encS_len]; omega : (encS st).length ≤ 1000000) (by decide)
    simp only [tree_Depth.l0]
    rw [if_pos (by omega), if_pos (by omega), if_pos (by omega), hr, Kids_eq _ _ _ _ _ k (by omega), hkc]
    simp only [Option.bind_some]
    rw [if_pos hlim, henc, hlen, mx_nat]
    clear hlim
    by_cases h0 : c = 0
    · subst h0
      obtain ⟨k', hk', e⟩ := Depth_done l0 i (max most (st.length + 1)) st k hs (by omega) (by omega)
      have w1 : wrap64 ((i : Int) + 1) = ((i + 1 : Nat) : Int) := by rw [wrap_id (by omega) (by omega)]; omega
      rw [e, w1, mach_cons0 kdT x l st most hc]
      clear w1 e
      unfold fin
      have hdl := dec_len st
      have hdn := dec_need st (fun d hd => (hs d hd).1)
      cases hds : dec st with
      | nil => rfl
      | cons s st' =>
        simp only []
        have h3 := dec_le3 st hs
        rw [hds] at h3 hdl hdn hk'
        have hne := hdn.2.1 (by simp)
        simp only [List.length_cons] at hdl hk'
        exact ih (i + 1) (max most (st.length + 1)) k' (s :: st') hd2 (by omega) h3 (by rw [List.length_cons]; omega) (by rw [hne, hn]; rw [hc] at he2; simpa using he2) (by rw [List.length_cons]; omega)
    · obtain ⟨k, rfl⟩ : ∃ j, k = j + 2 := ⟨k - 2, by omega⟩
      have hdo := Depth_open l0 i (max most (st.length + 1)) c st k (by omega) (by omega)
      have hms := mach_consS kdT x l st most (by omega)
      have w1 : wrap64 ((i : Int) + 1) = ((i + 1 : Nat) : Int) := by rw [wrap_id (by omega) (by omega)]; omega
      rw [hdo, w1, hms, hc]
      clear w1 hdo hms
      exact ih (i + 1) _ k (c :: st) hd2 (by omega) (by
        intro d hd
        rcases List.mem_cons.1 hd with e | e
        · omega
        · exact hs d e) (by rw [List.length_cons]; omega) (by
        simp only [need]
        rw [hn, show c - 1 + (n + 1) = n + c by omega, ← hc]
        exact he2) (by rw [List.length_cons]; omega)
theorem Depth_eq (l0 : List Nd) (hl : l0.length ≤ 1000000) (k : Nat) (hk : 5 * l0.length + 10 ≤ k) : tree_Depth.f k l0 = some ((depL kdT l0 : Nat) : Int) := by
  unfold tree_Depth.f depL
  have e0 : (0 : Int) = ((0 : Nat) : Int) := rfl
  have := End_eq l0 hl 0 (by omega) k (by omega)
  rw [List.drop_zero, ← e0] at this
  rw [this]
  simp only [Option.bind_some]
  cases h : endW kdT l0 1 with
  | none => simp [outE]
  | some m =>
    simp only [outE]
    rw [if_pos trivial]
    exact Depth_l0 l0 hl l0 0 0 k [] rfl (by omega) (fun c hc => by cases hc) (by simp) (by simp only [need]; rw [h]; rfl) (by rw [List.length_nil]; omega)
end Go.Proofs.Ytdelccahgchadaa
