/- The tree's functions, printed, in plain words: where those below a node begin; the document's example. -/
import Derived.Test.YtdelccahgchadaaGPTree5
namespace Go.Proofs.Ytdelccahgchadaa
open Go.RowKit Go.Lib Go.Proofs.Ytdelccahgchadaa.P Go.Proofs.YtdelccahgchadaaW.PrintWords Go.Proofs.YtdelccahgchadaaW.PrintMore
set_option linter.unusedVariables false
/-- Where so many trees begin, one behind the other. -/
def undP (l : List Nd) : Nat → Nat → List Nat
  | 0, _ => []
  | c + 1, p => p :: undP l c (match endW kdT (l.drop p) 1 with | none => 0 | some m => p + m)
theorem outE_fst (i : Nat) (o : Option Nat) : (outE i o).1 = (((match o with | none => 0 | some m => i + m) : Nat) : Int) := by cases o <;> rfl
theorem Under_l0 (l : List Nd) (hl : l.length ≤ 1000000) (K : Nat) (hK : K ≤ 3) : ∀ (c j p k : Nat) (acc : List Int), j + c = K → p ≤ l.length → l.length + c + 10 ≤ k → acc.length ≤ j →
    tree_Under.l0 k l acc (p : Int) (K : Int) (j : Int) = some (acc ++ (undP l c p).map fun n : Nat => (n : Int)) := by
  intro c
  induction c with
  | zero =>
    intro j p k acc hj hp hk ha
    obtain ⟨k, rfl⟩ : ∃ i, k = i + 1 := ⟨k - 1, by omega⟩
    simp only [tree_Under.l0]
    rw [if_neg (by omega)]
    simp [undP]
  | succ c ih =>
    intro j p k acc hj hp hk ha
    obtain ⟨k, rfl⟩ : ∃ i, k = i + 1 := ⟨k - 1, by omega⟩
    simp only [tree_Under.l0]
    have hb : acc.length < 17592186044416 := Nat.lt_of_le_of_lt (by omega : acc.length ≤ 3) (by decide)
    obtain ⟨q, hq⟩ : ∃ q, (match endW kdT (l.drop p) 1 with | none => 0 | some m => p + m) = q := ⟨_, rfl⟩
    have hql : q ≤ l.length := by
      rw [← hq]
      cases h : endW kdT (l.drop p) 1 with
      | none => exact Nat.zero_le _
      | some m =>
        have := (endW_le kdT h).1
        rw [List.length_drop] at this
        simp only []
        omega
    have hi2 := ih (j + 1) q k (acc ++ [(p : Int)]) (by omega) hql (by omega) (by rw [List.length_append, List.length_singleton]; omega)
    rw [if_pos (by omega), if_pos hb, End_eq l hl p hp k (by omega)]
    simp only [Option.bind_some]
    have hw : wrap64 ((j : Int) + 1) = ((j + 1 : Nat) : Int) := by rw [wrap_id (by omega) (by omega)]; omega
    rw [outE_fst, hq, hw, hi2]
    simp only [undP, hq, List.map_cons, List.append_assoc]
    rfl
/-- Where those below a node begin. -/
def undL (l : List Nd) (i : Nat) : List Nat := match endW kdT (l.drop i) 1, l.drop i with | some _, x :: _ => undP l (kdT x).toNat (i + 1) | _, _ => []
theorem Under_eq (l : List Nd) (hl : l.length ≤ 1000000) (i : Nat) (hi : i ≤ l.length) (k : Nat) (hk : l.length + 20 ≤ k) : tree_Under.f k l (i : Int) = some ((undL l i).map fun n : Nat => (n : Int)) := by
  unfold tree_Under.f undL
  rw [End_eq l hl i hi k (by omega)]
  simp only [Option.bind_some]
  cases h : endW kdT (l.drop i) 1 with
  | none => simp [outE]
  | some m =>
    simp only [outE]
    rw [if_pos trivial]
    cases hd : l.drop i with
    | nil => rw [hd] at h; cases h
    | cons x r =>
      obtain ⟨hr, hlt, hd2⟩ := rd_drop l i x r hd
      rw [if_pos (by omega), if_pos (by omega), hr, Kids_eq _ _ _ _ _ k (by omega)]
      simp only [Option.bind_some]
      have hb := kdB_bounds x.f0 x.f1
      have hk0 : ¬ kdT x < 0 := by
        intro hn
        rw [hd] at h
        simp only [endW] at h
        rw [if_pos hn] at h
        cases h
      have hk1 : kdT x = kdB x.f0 x.f1 := rfl
      obtain ⟨c, hc⟩ : ∃ c, (kdT x).toNat = c := ⟨_, rfl⟩
      have hkc : kdB x.f0 x.f1 = (c : Int) := by omega
      have hu := Under_l0 l hl c (by omega) c 0 (i + 1) k [] (by omega) (by omega) (by omega) (by simp)
      have hw : wrap64 ((i : Int) + 1) = ((i + 1 : Nat) : Int) := by rw [wrap_id (by omega) (by omega)]; omega
      have e0 : (0 : Int) = ((0 : Nat) : Int) := rfl
      rw [hkc, hw, e0, hu, hc, List.nil_append]
theorem shown08_eq (k : Nat) (hk : 3000 ≤ k) : reredoslaw08_shown.f k = some true := by
  unfold reredoslaw08_shown.f reredoslaw08_lit.f
  simp only [Option.bind_some]
  rw [Node_eq _ _ _ _ _ _ (by decide) (by decide) k (by omega)]
  simp only [Option.bind_some]
  have hM := May_eqL ((⟨4, ⟨#[43]⟩, ⟨#[]⟩, ⟨#[]⟩, []⟩ : Nd) :: [[(⟨1, ⟨#[]⟩, ⟨#[]⟩, ⟨#[]⟩, [⟨#[49]⟩]⟩ : Nd)], [(⟨1, ⟨#[]⟩, ⟨#[]⟩, ⟨#[]⟩, [⟨#[50]⟩]⟩ : Nd)]].flatten) (by decide) k (by simp; omega)
  have hD := Depth_eq ((⟨4, ⟨#[43]⟩, ⟨#[]⟩, ⟨#[]⟩, []⟩ : Nd) :: [[(⟨1, ⟨#[]⟩, ⟨#[]⟩, ⟨#[]⟩, [⟨#[49]⟩]⟩ : Nd)], [(⟨1, ⟨#[]⟩, ⟨#[]⟩, ⟨#[]⟩, [⟨#[50]⟩]⟩ : Nd)]].flatten) (by decide) k (by simp; omega)
  have hU := Under_eq ((⟨4, ⟨#[43]⟩, ⟨#[]⟩, ⟨#[]⟩, []⟩ : Nd) :: [[(⟨1, ⟨#[]⟩, ⟨#[]⟩, ⟨#[]⟩, [⟨#[49]⟩]⟩ : Nd)], [(⟨1, ⟨#[]⟩, ⟨#[]⟩, ⟨#[]⟩, [⟨#[50]⟩]⟩ : Nd)]].flatten) (by decide) 0 (by decide) k (by simp; omega)
  have e1 : mayL ((⟨4, ⟨#[43]⟩, ⟨#[]⟩, ⟨#[]⟩, []⟩ : Nd) :: [[(⟨1, ⟨#[]⟩, ⟨#[]⟩, ⟨#[]⟩, [⟨#[49]⟩]⟩ : Nd)], [(⟨1, ⟨#[]⟩, ⟨#[]⟩, ⟨#[]⟩, [⟨#[50]⟩]⟩ : Nd)]].flatten) = true := by decide +kernel
  have e2 : depL kdT ((⟨4, ⟨#[43]⟩, ⟨#[]⟩, ⟨#[]⟩, []⟩ : Nd) :: [[(⟨1, ⟨#[]⟩, ⟨#[]⟩, ⟨#[]⟩, [⟨#[49]⟩]⟩ : Nd)], [(⟨1, ⟨#[]⟩, ⟨#[]⟩, ⟨#[]⟩, [⟨#[50]⟩]⟩ : Nd)]].flatten) = 2 := by decide +kernel
  have e3 : undL ((⟨4, ⟨#[43]⟩, ⟨#[]⟩, ⟨#[]⟩, []⟩ : Nd) :: [[(⟨1, ⟨#[]⟩, ⟨#[]⟩, ⟨#[]⟩, [⟨#[49]⟩]⟩ : Nd)], [(⟨1, ⟨#[]⟩, ⟨#[]⟩, ⟨#[]⟩, [⟨#[50]⟩]⟩ : Nd)]].flatten) 0 = [1, 2] := by decide +kernel
  have e0 : (0 : Int) = ((0 : Nat) : Int) := rfl
  rw [← e0] at hU
  rw [hM, hD, hU, e1, e2, e3]
  obtain ⟨k, rfl⟩ : ∃ j, k = j + 3 := ⟨k - 3, by omega⟩
  simp [reredosref03_Same.f, reredosref03_Same.l0, wrap64, rd, rd_T25]
end Go.Proofs.Ytdelccahgchadaa
