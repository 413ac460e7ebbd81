/- What the law TreeTells rests on, part 6. -/
import Derived.Test.YtdelccahgchadaaKTreeTells4
import Derived.ProofKit
import Derived.OpenShut
import Derived.ShutString
import Derived.ChangeOld
import Derived.SizedLaws
import Derived.ChangeSlices
import Derived.Deep.Slices
import Derived.Lib.IndexBytes
set_option linter.unusedVariables false
set_option linter.unusedSimpArgs false
section
namespace Go.Proofs.Ytdelccahgchadaa.P
open Go.RowKit Go.Proofs.YtdelccahgchadaaW.PrintWords Go.Proofs.YtdelccahgchadaaW.PrintLast Go.Proofs.YtdelccahgchadaaW.PrintMore
attribute [local go_sem] max2_int min2_int max_two min_two max_three min_three max_four min_four   
set_option linter.unusedVariables false
set_option linter.unusedSimpArgs false
mutual
def reredosref08_One.l0 : Nat → Int → Int → ByteArray → ByteArray → ByteArray → List ByteArray → Option (Bool)
 | 0, _, _, _, _, _, _ => none
 | k + 1, x3, x309000, x309001, x309002, x309003, x309004 => if x3 < (x309004.length : Int) then (if 0 ≤ x3 then ((reredosref01_May.f k (rdOf ByteArray.empty x309004 x3)).bind fun t310 => (if t310 = true then (reredosref08_One.l0 k (wrap64 (x3 + 1)) x309000 x309001 x309002 x309003 x309004) else (some false))) else (none)) else (if (x309004.length : Int) ≥ 1 then (if (x309004.length : Int) ≤ 100 then (if x309001.toList = ([] : List UInt8) then (if x309002.toList = ([] : List UInt8) then (some (x309003.toList == ([] : List UInt8))) else (some false)) else (some false)) else (some false)) else (some false))
def reredosref08_One.j1 : Nat → Bool → Int → ByteArray → ByteArray → ByteArray → List ByteArray → Option (Bool)
 | 0, _, _, _, _, _, _ => none
 | k + 1, x58, x309000, x309001, x309002, x309003, x309004 => if x58 = true then (if x309000 = 4 then (if x309003.toList = ([] : List UInt8) then (if x309001.toList = ([123] : List UInt8) then ((reredosref08_has.f k x309002 (⟨#[39, 46]⟩ : ByteArray)).bind fun t311 => (some t311)) else ((reredosref08_part.f k x309001 4).bind fun t312 => (if t312 = true then ((reredosref08_has.f k x309002 (⟨#[39, 46]⟩ : ByteArray)).bind fun t313 => (some t313)) else ((reredosref08_part.f k x309001 3).bind fun t314 => (if t314 = true then ((reredosref08_has.f k x309002 (⟨#[39, 46]⟩ : ByteArray)).bind fun t315 => (some t315)) else (some false)))))) else (some false)) else (if x309003.toList = ([] : List UInt8) then (if x309001.toList = ([123] : List UInt8) then ((reredosref08_has.f k x309002 (⟨#[39, 47, 92, 96]⟩ : ByteArray)).bind fun t316 => (some t316)) else ((reredosref08_part.f k x309001 4).bind fun t317 => (if t317 = true then ((reredosref08_has.f k x309002 (⟨#[39, 47, 92, 96]⟩ : ByteArray)).bind fun t318 => (some t318)) else ((reredosref08_part.f k x309001 3).bind fun t319 => (if t319 = true then ((reredosref08_has.f k x309002 (⟨#[39, 47, 92, 96]⟩ : ByteArray)).bind fun t320 => (some t320)) else (some false)))))) else (some false))) else (if x309001.toList = ([] : List UInt8) then (reredosref08_One.j2 k (x309002.toList != ([] : List UInt8)) x309000 x309001 x309002 x309003 x309004) else (reredosref08_One.j2 k true x309000 x309001 x309002 x309003 x309004))
def reredosref08_One.j2 : Nat → Bool → Int → ByteArray → ByteArray → ByteArray → List ByteArray → Option (Bool)
 | 0, _, _, _, _, _, _ => none
 | k + 1, x93, x309000, x309001, x309002, x309003, x309004 => if x93 = true then (some false) else (if x309000 = 2 then (reredosref08_One.j3 k x309000 (x309000 == 2) x309000 x309001 x309002 x309003 x309004) else (if x309000 = 5 then (reredosref08_One.j3 k x309000 (x309000 == 5) x309000 x309001 x309002 x309003 x309004) else (reredosref08_One.j3 k x309000 (x309000 == 6) x309000 x309001 x309002 x309003 x309004)))
def reredosref08_One.j3 : Nat → Int → Bool → Int → ByteArray → ByteArray → ByteArray → List ByteArray → Option (Bool)
 | 0, _, _, _, _, _, _, _ => none
 | k + 1, x95, x96, x309000, x309001, x309002, x309003, x309004 => if x96 = true then ((reredosref08_part.f k x309003 2).bind fun t321 => (some t321)) else (if x95 = 7 then ((reredosref08_part.f k x309003 3).bind fun t322 => (some t322)) else (if x95 = 8 then (some (x309003.toList == ([] : List UInt8))) else (some false)))
end
def reredosref08_One.f (k : Nat) (a0_0 : Int) (a0_1 : ByteArray) (a0_2 : ByteArray) (a0_3 : ByteArray) (l0_4 : List ByteArray) : Option (Bool) := if a0_0 = 1 then (reredosref08_One.l0 k 0 a0_0 a0_1 a0_2 a0_3 l0_4) else (if (l0_4.length : Int) > 0 then (some false) else (if a0_0 = 3 then (reredosref08_One.j1 k true a0_0 a0_1 a0_2 a0_3 l0_4) else (reredosref08_One.j1 k (a0_0 == 4) a0_0 a0_1 a0_2 a0_3 l0_4)))
theorem reredosref08_One.mono_l : ∀ k, (∀ y0 y1 y2 y3 y4 y5, LeO (reredosref08_One.l0 k y0 y1 y2 y3 y4 y5) (reredosref08_One.l0 (k + 1) y0 y1 y2 y3 y4 y5)) ∧ (∀ y0 y1 y2 y3 y4 y5, LeO (reredosref08_One.j1 k y0 y1 y2 y3 y4 y5) (reredosref08_One.j1 (k + 1) y0 y1 y2 y3 y4 y5)) ∧ (∀ y0 y1 y2 y3 y4 y5, LeO (reredosref08_One.j2 k y0 y1 y2 y3 y4 y5) (reredosref08_One.j2 (k + 1) y0 y1 y2 y3 y4 y5)) ∧ (∀ y0 y1 y2 y3 y4 y5 y6, LeO (reredosref08_One.j3 k y0 y1 y2 y3 y4 y5 y6) (reredosref08_One.j3 (k + 1) y0 y1 y2 y3 y4 y5 y6))
 | 0 => ⟨fun _ _ _ _ _ _ r h => by simp [reredosref08_One.l0] at h, fun _ _ _ _ _ _ r h => by simp [reredosref08_One.j1] at h, fun _ _ _ _ _ _ r h => by simp [reredosref08_One.j2] at h, fun _ _ _ _ _ _ _ r h => by simp [reredosref08_One.j3] at h⟩
 | k + 1 => by
  obtain ⟨ih0, ih1, ih2, ih3⟩ := reredosref08_One.mono_l k
  refine ⟨?_, ?_, ?_, ?_⟩
  ·intro y0 y1 y2 y3 y4 y5
   unfold reredosref08_One.l0
   repeat' first
   | (with_reducible exact ih0 _ _ _ _ _ _)
   | (with_reducible exact ih1 _ _ _ _ _ _)
   | (with_reducible exact ih2 _ _ _ _ _ _)
   | (with_reducible exact ih3 _ _ _ _ _ _ _)
   | (with_reducible exact reredosref01_May.mono _ _)
   | (with_reducible exact reredosref08_has.mono _ _ _)
   | (with_reducible exact reredosref08_part.mono _ _ _)
   | (with_reducible exact LeO.refl _)
   | (with_reducible exact LeO.none _)
   | (with_reducible refine LeO.ite ?_ ?_)
   | (with_reducible refine LeO.bind ?_ (fun _ => ?_))
   | exact ih0 _ _ _ _ _ _
   | exact ih1 _ _ _ _ _ _
   | exact ih2 _ _ _ _ _ _
   | exact ih3 _ _ _ _ _ _ _
   | exact reredosref01_May.mono _ _
   | exact reredosref08_has.mono _ _ _
   | exact reredosref08_part.mono _ _ _
   | exact LeO.none _
   | refine LeO.ite ?_ ?_
   | refine LeO.bind ?_ (fun _ => ?_)
  ·intro y0 y1 y2 y3 y4 y5
   unfold reredosref08_One.j1
   repeat' first
   | (with_reducible exact ih0 _ _ _ _ _ _)
   | (with_reducible exact ih1 _ _ _ _ _ _)
   | (with_reducible exact ih2 _ _ _ _ _ _)
   | (with_reducible exact ih3 _ _ _ _ _ _ _)
   | (with_reducible exact reredosref01_May.mono _ _)
   | (with_reducible exact reredosref08_has.mono _ _ _)
   | (with_reducible exact reredosref08_part.mono _ _ _)
   | (with_reducible exact LeO.refl _)
   | (with_reducible exact LeO.none _)
   | (with_reducible refine LeO.ite ?_ ?_)
   | (with_reducible refine LeO.bind ?_ (fun _ => ?_))
   | exact ih0 _ _ _ _ _ _
   | exact ih1 _ _ _ _ _ _
   | exact ih2 _ _ _ _ _ _
   | exact ih3 _ _ _ _ _ _ _
   | exact reredosref01_May.mono _ _
   | exact reredosref08_has.mono _ _ _
   | exact reredosref08_part.mono _ _ _
   | exact LeO.none _
   | refine LeO.ite ?_ ?_
   | refine LeO.bind ?_ (fun _ => ?_)
  ·intro y0 y1 y2 y3 y4 y5
   unfold reredosref08_One.j2
   repeat' first
   | (with_reducible exact ih0 _ _ _ _ _ _)
   | (with_reducible exact ih1 _ _ _ _ _ _)
   | (with_reducible exact ih2 _ _ _ _ _ _)
   | (with_reducible exact ih3 _ _ _ _ _ _ _)
   | (with_reducible exact reredosref01_May.mono _ _)
   | (with_reducible exact reredosref08_has.mono _ _ _)
   | (with_reducible exact reredosref08_part.mono _ _ _)
   | (with_reducible exact LeO.refl _)
   | (with_reducible exact LeO.none _)
   | (with_reducible refine LeO.ite ?_ ?_)
   | (with_reducible refine LeO.bind ?_ (fun _ => ?_))
   | exact ih0 _ _ _ _ _ _
   | exact ih1 _ _ _ _ _ _
   | exact ih2 _ _ _ _ _ _
   | exact ih3 _ _ _ _ _ _ _
   | exact reredosref01_May.mono _ _
   | exact reredosref08_has.mono _ _ _
   | exact reredosref08_part.mono _ _ _
   | exact LeO.none _
   | refine LeO.ite ?_ ?_
   | refine LeO.bind ?_ (fun _ => ?_)
  ·intro y0 y1 y2 y3 y4 y5 y6
   unfold reredosref08_One.j3
   repeat' first
   | (with_reducible exact ih0 _ _ _ _ _ _)
   | (with_reducible exact ih1 _ _ _ _ _ _)
   | (with_reducible exact ih2 _ _ _ _ _ _)
   | (with_reducible exact ih3 _ _ _ _ _ _ _)
   | (with_reducible exact reredosref01_May.mono _ _)
   | (with_reducible exact reredosref08_has.mono _ _ _)
   | (with_reducible exact reredosref08_part.mono _ _ _)
   | (with_reducible exact LeO.refl _)
   | (with_reducible exact LeO.none _)
   | (with_reducible refine LeO.ite ?_ ?_)
   | (with_reducible refine LeO.bind ?_ (fun _ => ?_))
   | exact ih0 _ _ _ _ _ _
   | exact ih1 _ _ _ _ _ _
   | exact ih2 _ _ _ _ _ _
   | exact ih3 _ _ _ _ _ _ _
   | exact reredosref01_May.mono _ _
   | exact reredosref08_has.mono _ _ _
   | exact reredosref08_part.mono _ _ _
   | exact LeO.none _
   | refine LeO.ite ?_ ?_
   | refine LeO.bind ?_ (fun _ => ?_)
theorem reredosref08_One.mono : ∀ a0 a1 a2 a3 a4 k, LeO (reredosref08_One.f k a0 a1 a2 a3 a4) (reredosref08_One.f (k + 1) a0 a1 a2 a3 a4) := by
 intro a0 a1 a2 a3 a4 k
 obtain ⟨ih0, ih1, ih2, ih3⟩ := reredosref08_One.mono_l k
 unfold reredosref08_One.f
 repeat' first
   | (with_reducible exact ih0 _ _ _ _ _ _)
   | (with_reducible exact ih1 _ _ _ _ _ _)
   | (with_reducible exact ih2 _ _ _ _ _ _)
   | (with_reducible exact ih3 _ _ _ _ _ _ _)
   | (with_reducible exact reredosref01_May.mono _ _)
   | (with_reducible exact reredosref08_has.mono _ _ _)
   | (with_reducible exact reredosref08_part.mono _ _ _)
   | (with_reducible exact LeO.refl _)
   | (with_reducible exact LeO.none _)
   | (with_reducible refine LeO.ite ?_ ?_)
   | (with_reducible refine LeO.bind ?_ (fun _ => ?_))
   | exact ih0 _ _ _ _ _ _
   | exact ih1 _ _ _ _ _ _
   | exact ih2 _ _ _ _ _ _
   | exact ih3 _ _ _ _ _ _ _
   | exact reredosref01_May.mono _ _
   | exact reredosref08_has.mono _ _ _
   | exact reredosref08_part.mono _ _ _
   | exact LeO.none _
   | refine LeO.ite ?_ ?_
   | refine LeO.bind ?_ (fun _ => ?_)
set_option maxHeartbeats 8000000 in
set_option maxRecDepth 100000 in
theorem reredosref08_One.calls (k : Nat) (a0_0 : Int) (a0_1 : ByteArray) (a0_2 : ByteArray) (a0_3 : ByteArray) (A0_4 : Option Addr) (c0_4 : Nat) (l0_4 : List ByteArray) (r : Bool) (w : World) (hr0_4 : Kd.C Kd.string w A0_4 l0_4.length l0_4) (hc0_4 : l0_4.length ≤ c0_4) (h : reredosref08_One.f k a0_0 a0_1 a0_2 a0_3 l0_4 = some r) :
  Calls Try.prog 44 #[.agg #[.int .i64 a0_0, .string a0_1, .string a0_2, .string a0_3, .slice A0_4 l0_4.length c0_4]] w fun e w' => e = .returned (.bool r) ∧ Below w.heap.size w w' := by
 have hu25 := Try.underlying25
 have HR0_4 := am hr0_4
 have HC0_4 := am hc0_4
 clear hr0_4 hc0_4
 have HB := am (Below.refl w.heap.size w)
 have H : (if a0_0 = 1 then (reredosref08_One.l0 k 0 a0_0 a0_1 a0_2 a0_3 l0_4) else (if (l0_4.length : Int) > 0 then (some false) else (if a0_0 = 3 then (reredosref08_One.j1 k true a0_0 a0_1 a0_2 a0_3 l0_4) else (reredosref08_One.j1 k (a0_0 == 4) a0_0 a0_1 a0_2 a0_3 l0_4)))) = some r := h
 clear h
 by_cases c2 : a0_0 = 1
 ·rw [if_pos c2] at H
  have c2b0 : (a0_0 == 1) = true := beq_iff_eq.mpr c2
  have c2b1 : (a0_0 != 1) = false := bne_eq_false_iff_eq.mpr c2
  clear c2
  have H' := am H
  clear H
  go_enter Try.func44, Try.ntmps44
  go_wp2_with (first | ((with_reducible refine gate_dst (N := 1) rfl ?_); (try (refine gate_guard (by rfl) ?_; dsimp only)); refine box_event ?hg (N := 1) ?hd (cs := #[.int .i64 a0_0, .string a0_1, .string a0_2, .string a0_3, .slice A0_4 l0_4.length c0_4]) (t := 25) ?hr ?_; (case hd => rfl); (case hg => rfl); (case hr => first | (go_simp; done) | (go_simp; rfl)); intro gb308 hg w3 hbox hb; have n0_ := am (below_step (by repeat (first | (with_reducible first | exact HB.out | apply lA | apply lN | apply lD) | exact HB.out)) hb); have n1_ := am (hbox); have n2_ := am ((by rw [hg]; exact (below_size (by repeat (first | (with_reducible first | exact HB.out | apply lA | apply lN | apply lD) | exact HB.out))) : w.heap.size ≤ gb308)); have n3_ := n2_; clear HB; have HB := n0_; have BK308 := n1_; have GW308 := n2_; have GE308 := n3_; clear n0_ n1_ n2_ n3_; clear hb hbox hg; have hcz4_0 : w3.cell? ⟨gb308, 0, none⟩ = some (.int .i64 a0_0) := (blk_cell BK308.out 0).trans rfl; have hcz4_1 : w3.cell? ⟨gb308, 1, none⟩ = some (.string a0_1) := (blk_cell BK308.out 1).trans rfl; have hcz4_2 : w3.cell? ⟨gb308, 2, none⟩ = some (.string a0_2) := (blk_cell BK308.out 2).trans rfl; have hcz4_3 : w3.cell? ⟨gb308, 3, none⟩ = some (.string a0_3) := (blk_cell BK308.out 3).trans rfl; have hcz4_4 : w3.cell? ⟨gb308, 4, none⟩ = some (.slice A0_4 l0_4.length c0_4) := (blk_cell BK308.out 4).trans rfl; have hfz4_0 := blk_frozen BK308.out 0; have hfz4_1 := blk_frozen BK308.out 1; have hfz4_2 := blk_frozen BK308.out 2; have hfz4_3 := blk_frozen BK308.out 3; have hfz4_4 := blk_frozen BK308.out 4))
  go_loopg [3] k (fun kq v3 w' => ∃ (x3_1 : Int), v3 = .int .i64 x3_1 ∧ Aside0 (reredosref08_One.l0 kq x3_1 a0_0 a0_1 a0_2 a0_3 l0_4 = some r) ∧ Aside0 (kq ≤ k) ∧ Aside0 (w'.heap[gb308]? = some (.cells #[.int .i64 a0_0, .string a0_1, .string a0_2, .string a0_3, (.slice A0_4 l0_4.length c0_4)] 25 (0, 0))) ∧ Aside0 (Below w.heap.size w w'))
  case atStart => exact ⟨(0), (by first | rfl | (simp; done) | (simp [*]; done)), H', ⟨Nat.le_refl _⟩, ⟨by (with_reducible repeat (first | refine bN ?_ _ | refine bD ?_ | refine bA ?_ _)); exact BK308.out⟩, ⟨by repeat (first | (with_reducible first | exact HB.out | apply lA | apply lN | apply lD | refine below_set ?_ GE308.out) | exact HB.out)⟩⟩
  case round =>
   clear H'
   try clear c2
   try clear c2b0
   try clear c2b1
   try clear p2
   try clear c4
   try clear hcz4_0
   try clear hcz4_1
   try clear hcz4_2
   try clear hcz4_3
   try clear hcz4_4
   try clear hfz4_0
   try clear hfz4_1
   try clear hfz4_2
   try clear hfz4_3
   try clear hfz4_4
   obtain ⟨x3_1, rfl, HA, HK1, BK308, HB⟩ := hrel
   cases gk with
   | zero => exact absurd HA.out (by simp [reredosref08_One.l0])
   | succ k1 =>
    have H := HA.out
    clear HA
    simp only [reredosref08_One.l0] at H
    by_cases c5 : x3_1 < (l0_4.length : Int)
    ·rw [if_pos c5] at H
     have c5b0 : decide (x3_1 < (l0_4.length : Int)) = true := decide_eq_true c5
     clear c5
     by_cases c6 : 0 ≤ x3_1
     ·rw [if_pos c6] at H
      have c6b0 : decide (0 ≤ x3_1) = true := decide_eq_true c6
      clear c6
      replace H := Option.bind_eq_some_iff.mp H
      obtain ⟨t310, A70, H⟩ := H
      replace H : (if t310 = true then (reredosref08_One.l0 k1 (wrap64 (x3_1 + 1)) a0_0 a0_1 a0_2 a0_3 l0_4) else (some false)) = some r := H
      have A7 := am A70
      clear A70
      by_cases c8 : t310 = true
      ·subst c8
       have H1 : (reredosref08_One.l0 k1 (wrap64 (x3_1 + 1)) a0_0 a0_1 a0_2 a0_3 l0_4) = some r := by rw [if_pos rfl] at H; exact H
       clear H
       have H := H1
       clear H1
       have H' := am H
       clear H
       have hcz9_0 : wr.cell? ⟨gb308, 0, none⟩ = some (.int .i64 a0_0) := (blk_cell BK308.out 0).trans rfl
       have hcz9_1 : wr.cell? ⟨gb308, 1, none⟩ = some (.string a0_1) := (blk_cell BK308.out 1).trans rfl
       have hcz9_2 : wr.cell? ⟨gb308, 2, none⟩ = some (.string a0_2) := (blk_cell BK308.out 2).trans rfl
       have hcz9_3 : wr.cell? ⟨gb308, 3, none⟩ = some (.string a0_3) := (blk_cell BK308.out 3).trans rfl
       have hcz9_4 : wr.cell? ⟨gb308, 4, none⟩ = some (.slice A0_4 l0_4.length c0_4) := (blk_cell BK308.out 4).trans rfl
       have hfz9_0 := blk_frozen BK308.out 0
       have hfz9_1 := blk_frozen BK308.out 1
       have hfz9_2 := blk_frozen BK308.out 2
       have hfz9_3 := blk_frozen BK308.out 3
       have hfz9_4 := blk_frozen BK308.out 4
       have p309 : 0 ≤ (x3_1 : Int) := of_decide_eq_true (by first | (with_reducible assumption) | assumption)
       have q309 : x3_1 < (l0_4.length : Int) := of_decide_eq_true (by first | (with_reducible assumption) | assumption)
       obtain ⟨ad309, e309, hx309_0⟩ := Kd.at_string HR0_4.out x3_1 p309 q309
       cases e309
       replace hx309_0 := (HB.out.cell (World.block_lt_of_cell? w _ hx309_0)).trans hx309_0
       replace p309 := eq_true p309
       replace q309 := eq_true q309
       go_wp2_with (first | ((with_reducible refine gate_callee (f := 61) rfl ?_); refine goesL_ (some 20) rfl rfl Try.func61 (by kernel_rfl) rfl #[.string (rdOf ByteArray.empty l0_4 x3_1)] rfl (by (try simp only [List.map_toArray, List.map_cons, List.map_nil]); first | done | rfl | (simp only [List.length_drop, List.length_take]; rfl)) ?_; (with_reducible refine (reredosref01_May.calls k1 (rdOf ByteArray.empty l0_4 x3_1) true _ A7.out).mono ?_); rintro e w' ⟨rfl, ⟨nd, rfl⟩⟩; refine ⟨_, rfl, ?_⟩))
       go_roundg k1
       case measure => have := HK1.out; omega
       case rel => exact ⟨(wrap64 (x3_1 + 1)), (by first | rfl | (simp; done) | (simp [*]; done)), H', ⟨by have := HK1.out; omega⟩, ⟨by (with_reducible repeat (first | refine bN ?_ _ | refine bD ?_ | refine bA ?_ _)); exact BK308.out⟩, ⟨by repeat (first | (with_reducible first | exact HB.out | apply lA | apply lN | apply lD | refine below_set ?_ GE308.out) | exact HB.out)⟩⟩
      ·replace c8 := Bool.eq_false_iff.mpr c8
       subst c8
       have H1 : (some false) = some r := by rw [if_neg (show ¬ (false = true) by decide)] at H; exact H
       clear H
       have H := H1
       clear H1
       obtain rfl := Option.some.inj H
       have hcz10_0 : wr.cell? ⟨gb308, 0, none⟩ = some (.int .i64 a0_0) := (blk_cell BK308.out 0).trans rfl
       have hcz10_1 : wr.cell? ⟨gb308, 1, none⟩ = some (.string a0_1) := (blk_cell BK308.out 1).trans rfl
       have hcz10_2 : wr.cell? ⟨gb308, 2, none⟩ = some (.string a0_2) := (blk_cell BK308.out 2).trans rfl
       have hcz10_3 : wr.cell? ⟨gb308, 3, none⟩ = some (.string a0_3) := (blk_cell BK308.out 3).trans rfl
       have hcz10_4 : wr.cell? ⟨gb308, 4, none⟩ = some (.slice A0_4 l0_4.length c0_4) := (blk_cell BK308.out 4).trans rfl
       have hfz10_0 := blk_frozen BK308.out 0
       have hfz10_1 := blk_frozen BK308.out 1
       have hfz10_2 := blk_frozen BK308.out 2
       have hfz10_3 := blk_frozen BK308.out 3
       have hfz10_4 := blk_frozen BK308.out 4
       have p309 : 0 ≤ (x3_1 : Int) := of_decide_eq_true (by first | (with_reducible assumption) | assumption)
       have q309 : x3_1 < (l0_4.length : Int) := of_decide_eq_true (by first | (with_reducible assumption) | assumption)
       obtain ⟨ad309, e309, hx309_0⟩ := Kd.at_string HR0_4.out x3_1 p309 q309
       cases e309
       replace hx309_0 := (HB.out.cell (World.block_lt_of_cell? w _ hx309_0)).trans hx309_0
       replace p309 := eq_true p309
       replace q309 := eq_true q309
       go_wp2_with (first | ((with_reducible refine gate_callee (f := 61) rfl ?_); refine goesL_ (some 20) rfl rfl Try.func61 (by kernel_rfl) rfl #[.string (rdOf ByteArray.empty l0_4 x3_1)] rfl (by (try simp only [List.map_toArray, List.map_cons, List.map_nil]); first | done | rfl | (simp only [List.length_drop, List.length_take]; rfl)) ?_; (with_reducible refine (reredosref01_May.calls k1 (rdOf ByteArray.empty l0_4 x3_1) false _ A7.out).mono ?_); rintro e w' ⟨rfl, ⟨nd, rfl⟩⟩; refine ⟨_, rfl, ?_⟩))
       go_ret
       exact ⟨by first | rfl | (simp [errW_none, errW_some] <;> rfl) | (simp [*, errW_none, errW_some] <;> rfl), by repeat (first | (with_reducible first | exact HB.out | apply lA | apply lN | apply lD | refine below_set ?_ GE308.out) | exact HB.out)⟩
     ·rw [if_neg c6] at H
      exact absurd H (by simp)
    ·rw [if_neg c5] at H
     have c5b0 : decide (x3_1 < (l0_4.length : Int)) = false := decide_eq_false c5
     clear c5
     by_cases c11 : (l0_4.length : Int) ≥ 1
     ·rw [if_pos c11] at H
      have c11b0 : decide (1 ≤ (l0_4.length : Int)) = true := decide_eq_true c11
      have c11b1 : decide (1 ≤ l0_4.length) = true := decide_eq_true (by omega)
      clear c11
      by_cases c12 : (l0_4.length : Int) ≤ 100
      ·rw [if_pos c12] at H
       have c12b0 : decide ((l0_4.length : Int) ≤ 100) = true := decide_eq_true c12
       have c12b1 : decide (l0_4.length ≤ 100) = true := decide_eq_true (by omega)
       clear c12
       by_cases c13 : a0_1.toList = ([] : List UInt8)
       ·rw [if_pos c13] at H
        have c13b0 : (a0_1.toList == ([] : List UInt8)) = true := beq_iff_eq.mpr c13
        have c13b1 : (a0_1.toList != ([] : List UInt8)) = false := bne_eq_false_iff_eq.mpr c13
        clear c13
        by_cases c14 : a0_2.toList = ([] : List UInt8)
        ·rw [if_pos c14] at H
         have c14b0 : (a0_2.toList == ([] : List UInt8)) = true := beq_iff_eq.mpr c14
         have c14b1 : (a0_2.toList != ([] : List UInt8)) = false := bne_eq_false_iff_eq.mpr c14
         clear c14
         obtain rfl := Option.some.inj H
         have hcz15_0 : wr.cell? ⟨gb308, 0, none⟩ = some (.int .i64 a0_0) := (blk_cell BK308.out 0).trans rfl
         have hcz15_1 : wr.cell? ⟨gb308, 1, none⟩ = some (.string a0_1) := (blk_cell BK308.out 1).trans rfl
         have hcz15_2 : wr.cell? ⟨gb308, 2, none⟩ = some (.string a0_2) := (blk_cell BK308.out 2).trans rfl
         have hcz15_3 : wr.cell? ⟨gb308, 3, none⟩ = some (.string a0_3) := (blk_cell BK308.out 3).trans rfl
         have hcz15_4 : wr.cell? ⟨gb308, 4, none⟩ = some (.slice A0_4 l0_4.length c0_4) := (blk_cell BK308.out 4).trans rfl
         have hfz15_0 := blk_frozen BK308.out 0
         have hfz15_1 := blk_frozen BK308.out 1
         have hfz15_2 := blk_frozen BK308.out 2
         have hfz15_3 := blk_frozen BK308.out 3
         have hfz15_4 := blk_frozen BK308.out 4
         go_wp2
         go_ret
         exact ⟨by first | rfl | (simp [errW_none, errW_some] <;> rfl) | (simp [*, errW_none, errW_some] <;> rfl), by repeat (first | (with_reducible first | exact HB.out | apply lA | apply lN | apply lD | refine below_set ?_ GE308.out) | exact HB.out)⟩
        ·rw [if_neg c14] at H
         have c14b0 : (a0_2.toList == ([] : List UInt8)) = false := beq_eq_false_iff_ne.mpr c14
         have c14b1 : (a0_2.toList != ([] : List UInt8)) = true := bne_iff_ne.mpr c14
         obtain rfl := Option.some.inj H
         have hcz16_0 : wr.cell? ⟨gb308, 0, none⟩ = some (.int .i64 a0_0) := (blk_cell BK308.out 0).trans rfl
         have hcz16_1 : wr.cell? ⟨gb308, 1, none⟩ = some (.string a0_1) := (blk_cell BK308.out 1).trans rfl
         have hcz16_2 : wr.cell? ⟨gb308, 2, none⟩ = some (.string a0_2) := (blk_cell BK308.out 2).trans rfl
         have hcz16_3 : wr.cell? ⟨gb308, 3, none⟩ = some (.string a0_3) := (blk_cell BK308.out 3).trans rfl
         have hcz16_4 : wr.cell? ⟨gb308, 4, none⟩ = some (.slice A0_4 l0_4.length c0_4) := (blk_cell BK308.out 4).trans rfl
         have hfz16_0 := blk_frozen BK308.out 0
         have hfz16_1 := blk_frozen BK308.out 1
         have hfz16_2 := blk_frozen BK308.out 2
         have hfz16_3 := blk_frozen BK308.out 3
         have hfz16_4 := blk_frozen BK308.out 4
         go_wp2
         go_ret
         exact ⟨by first | rfl | (simp [errW_none, errW_some] <;> rfl) | (simp [*, errW_none, errW_some] <;> rfl), by repeat (first | (with_reducible first | exact HB.out | apply lA | apply lN | apply lD | refine below_set ?_ GE308.out) | exact HB.out)⟩
       ·rw [if_neg c13] at H
        have c13b0 : (a0_1.toList == ([] : List UInt8)) = false := beq_eq_false_iff_ne.mpr c13
        have c13b1 : (a0_1.toList != ([] : List UInt8)) = true := bne_iff_ne.mpr c13
        obtain rfl := Option.some.inj H
        have hcz17_0 : wr.cell? ⟨gb308, 0, none⟩ = some (.int .i64 a0_0) := (blk_cell BK308.out 0).trans rfl
        have hcz17_1 : wr.cell? ⟨gb308, 1, none⟩ = some (.string a0_1) := (blk_cell BK308.out 1).trans rfl
        have hcz17_2 : wr.cell? ⟨gb308, 2, none⟩ = some (.string a0_2) := (blk_cell BK308.out 2).trans rfl
        have hcz17_3 : wr.cell? ⟨gb308, 3, none⟩ = some (.string a0_3) := (blk_cell BK308.out 3).trans rfl
        have hcz17_4 : wr.cell? ⟨gb308, 4, none⟩ = some (.slice A0_4 l0_4.length c0_4) := (blk_cell BK308.out 4).trans rfl
        have hfz17_0 := blk_frozen BK308.out 0
        have hfz17_1 := blk_frozen BK308.out 1
        have hfz17_2 := blk_frozen BK308.out 2
        have hfz17_3 := blk_frozen BK308.out 3
        have hfz17_4 := blk_frozen BK308.out 4
        go_wp2
        go_ret
        exact ⟨by first | rfl | (simp [errW_none, errW_some] <;> rfl) | (simp [*, errW_none, errW_some] <;> rfl), by repeat (first | (with_reducible first | exact HB.out | apply lA | apply lN | apply lD | refine below_set ?_ GE308.out) | exact HB.out)⟩
      ·rw [if_neg c12] at H
       have c12b0 : decide ((l0_4.length : Int) ≤ 100) = false := decide_eq_false c12
       have c12b1 : decide (l0_4.length ≤ 100) = false := decide_eq_false (by omega)
       clear c12
       obtain rfl := Option.some.inj H
       have hcz18_0 : wr.cell? ⟨gb308, 0, none⟩ = some (.int .i64 a0_0) := (blk_cell BK308.out 0).trans rfl
       have hcz18_1 : wr.cell? ⟨gb308, 1, none⟩ = some (.string a0_1) := (blk_cell BK308.out 1).trans rfl
       have hcz18_2 : wr.cell? ⟨gb308, 2, none⟩ = some (.string a0_2) := (blk_cell BK308.out 2).trans rfl
       have hcz18_3 : wr.cell? ⟨gb308, 3, none⟩ = some (.string a0_3) := (blk_cell BK308.out 3).trans rfl
       have hcz18_4 : wr.cell? ⟨gb308, 4, none⟩ = some (.slice A0_4 l0_4.length c0_4) := (blk_cell BK308.out 4).trans rfl
       have hfz18_0 := blk_frozen BK308.out 0
       have hfz18_1 := blk_frozen BK308.out 1
       have hfz18_2 := blk_frozen BK308.out 2
       have hfz18_3 := blk_frozen BK308.out 3
       have hfz18_4 := blk_frozen BK308.out 4
       go_wp2
       go_ret
       exact ⟨by first | rfl | (simp [errW_none, errW_some] <;> rfl) | (simp [*, errW_none, errW_some] <;> rfl), by repeat (first | (with_reducible first | exact HB.out | apply lA | apply lN | apply lD | refine below_set ?_ GE308.out) | exact HB.out)⟩
     ·rw [if_neg c11] at H
      have c11b0 : decide (1 ≤ (l0_4.length : Int)) = false := decide_eq_false c11
      have c11b1 : decide (1 ≤ l0_4.length) = false := decide_eq_false (by omega)
      clear c11
      obtain rfl := Option.some.inj H
      have hcz19_0 : wr.cell? ⟨gb308, 0, none⟩ = some (.int .i64 a0_0) := (blk_cell BK308.out 0).trans rfl
      have hcz19_1 : wr.cell? ⟨gb308, 1, none⟩ = some (.string a0_1) := (blk_cell BK308.out 1).trans rfl
      have hcz19_2 : wr.cell? ⟨gb308, 2, none⟩ = some (.string a0_2) := (blk_cell BK308.out 2).trans rfl
      have hcz19_3 : wr.cell? ⟨gb308, 3, none⟩ = some (.string a0_3) := (blk_cell BK308.out 3).trans rfl
      have hcz19_4 : wr.cell? ⟨gb308, 4, none⟩ = some (.slice A0_4 l0_4.length c0_4) := (blk_cell BK308.out 4).trans rfl
      have hfz19_0 := blk_frozen BK308.out 0
      have hfz19_1 := blk_frozen BK308.out 1
      have hfz19_2 := blk_frozen BK308.out 2
      have hfz19_3 := blk_frozen BK308.out 3
      have hfz19_4 := blk_frozen BK308.out 4
      go_wp2
      go_ret
      exact ⟨by first | rfl | (simp [errW_none, errW_some] <;> rfl) | (simp [*, errW_none, errW_some] <;> rfl), by repeat (first | (with_reducible first | exact HB.out | apply lA | apply lN | apply lD | refine below_set ?_ GE308.out) | exact HB.out)⟩
 ·rw [if_neg c2] at H
  have c2b0 : (a0_0 == 1) = false := beq_eq_false_iff_ne.mpr c2
  have c2b1 : (a0_0 != 1) = true := bne_iff_ne.mpr c2
  by_cases c20 : (l0_4.length : Int) > 0
  ·rw [if_pos c20] at H
   have c20b0 : decide (0 < (l0_4.length : Int)) = true := decide_eq_true c20
   have c20b1 : decide (0 < l0_4.length) = true := decide_eq_true (by omega)
   clear c20
   obtain rfl := Option.some.inj H
   go_enter Try.func44, Try.ntmps44
   go_wp2_with (first | ((with_reducible refine gate_dst (N := 1) rfl ?_); (try (refine gate_guard (by rfl) ?_; dsimp only)); refine box_event ?hg (N := 1) ?hd (cs := #[.int .i64 a0_0, .string a0_1, .string a0_2, .string a0_3, .slice A0_4 l0_4.length c0_4]) (t := 25) ?hr ?_; (case hd => rfl); (case hg => rfl); (case hr => first | (go_simp; done) | (go_simp; rfl)); intro gb308 hg w21 hbox hb; have n0_ := am (below_step (by repeat (first | (with_reducible first | exact HB.out | apply lA | apply lN | apply lD) | exact HB.out)) hb); have n1_ := am (hbox); have n2_ := am ((by rw [hg]; exact (below_size (by repeat (first | (with_reducible first | exact HB.out | apply lA | apply lN | apply lD) | exact HB.out))) : w.heap.size ≤ gb308)); have n3_ := n2_; clear HB; have HB := n0_; have BK308 := n1_; have GW308 := n2_; have GE308 := n3_; clear n0_ n1_ n2_ n3_; clear hb hbox hg; have hcz22_0 : w21.cell? ⟨gb308, 0, none⟩ = some (.int .i64 a0_0) := (blk_cell BK308.out 0).trans rfl; have hcz22_1 : w21.cell? ⟨gb308, 1, none⟩ = some (.string a0_1) := (blk_cell BK308.out 1).trans rfl; have hcz22_2 : w21.cell? ⟨gb308, 2, none⟩ = some (.string a0_2) := (blk_cell BK308.out 2).trans rfl; have hcz22_3 : w21.cell? ⟨gb308, 3, none⟩ = some (.string a0_3) := (blk_cell BK308.out 3).trans rfl; have hcz22_4 : w21.cell? ⟨gb308, 4, none⟩ = some (.slice A0_4 l0_4.length c0_4) := (blk_cell BK308.out 4).trans rfl; have hfz22_0 := blk_frozen BK308.out 0; have hfz22_1 := blk_frozen BK308.out 1; have hfz22_2 := blk_frozen BK308.out 2; have hfz22_3 := blk_frozen BK308.out 3; have hfz22_4 := blk_frozen BK308.out 4))
   go_ret
   exact ⟨by first | rfl | (simp [errW_none, errW_some] <;> rfl) | (simp [*, errW_none, errW_some] <;> rfl), by repeat (first | (with_reducible first | exact HB.out | apply lA | apply lN | apply lD | refine below_set ?_ GE308.out) | exact HB.out)⟩
  ·rw [if_neg c20] at H
   have c20b0 : decide (0 < (l0_4.length : Int)) = false := decide_eq_false c20
   have c20b1 : decide (0 < l0_4.length) = false := decide_eq_false (by omega)
   clear c20
   have HC23 := am H
   clear H
   go_enter Try.func44, Try.ntmps44
   go_upto_region 10 with (first | ((with_reducible refine gate_dst (N := 1) rfl ?_); (try (refine gate_guard (by rfl) ?_; dsimp only)); refine box_event ?hg (N := 1) ?hd (cs := #[.int .i64 a0_0, .string a0_1, .string a0_2, .string a0_3, .slice A0_4 l0_4.length c0_4]) (t := 25) ?hr ?_; (case hd => rfl); (case hg => rfl); (case hr => first | (go_simp; done) | (go_simp; rfl)); intro gb308 hg w24 hbox hb; have n0_ := am (below_step (by repeat (first | (with_reducible first | exact HB.out | apply lA | apply lN | apply lD) | exact HB.out)) hb); have n1_ := am (hbox); have n2_ := am ((by rw [hg]; exact (below_size (by repeat (first | (with_reducible first | exact HB.out | apply lA | apply lN | apply lD) | exact HB.out))) : w.heap.size ≤ gb308)); have n3_ := n2_; clear HB; have HB := n0_; have BK308 := n1_; have GW308 := n2_; have GE308 := n3_; clear n0_ n1_ n2_ n3_; clear hb hbox hg; have hcz25_0 : w24.cell? ⟨gb308, 0, none⟩ = some (.int .i64 a0_0) := (blk_cell BK308.out 0).trans rfl; have hcz25_1 : w24.cell? ⟨gb308, 1, none⟩ = some (.string a0_1) := (blk_cell BK308.out 1).trans rfl; have hcz25_2 : w24.cell? ⟨gb308, 2, none⟩ = some (.string a0_2) := (blk_cell BK308.out 2).trans rfl; have hcz25_3 : w24.cell? ⟨gb308, 3, none⟩ = some (.string a0_3) := (blk_cell BK308.out 3).trans rfl; have hcz25_4 : w24.cell? ⟨gb308, 4, none⟩ = some (.slice A0_4 l0_4.length c0_4) := (blk_cell BK308.out 4).trans rfl; have hfz25_0 := blk_frozen BK308.out 0; have hfz25_1 := blk_frozen BK308.out 1; have hfz25_2 := blk_frozen BK308.out 2; have hfz25_3 := blk_frozen BK308.out 3; have hfz25_4 := blk_frozen BK308.out 4))
   (try simp only [Act.put, zT, z0, zS])
   go_cut [58] (fun v58 wc => ∃ (kq : Nat) (x58_22 : Bool), v58 = .bool x58_22 ∧ Aside0 (reredosref08_One.j1 kq x58_22 a0_0 a0_1 a0_2 a0_3 l0_4 = some r) ∧ Aside0 (kq ≤ k) ∧ Aside0 (wc.heap[gb308]? = some (.cells #[.int .i64 a0_0, .string a0_1, .string a0_2, .string a0_3, (.slice A0_4 l0_4.length c0_4)] 25 (0, 0))) ∧ Aside0 (Below w.heap.size w wc))
   case first =>
    have H := HC23.out
    clear HC23
    by_cases c26 : a0_0 = 3
    ·rw [if_pos c26] at H
     have c26b0 : (a0_0 == 3) = true := beq_iff_eq.mpr c26
     have c26b1 : (a0_0 != 3) = false := bne_eq_false_iff_eq.mpr c26
     clear c26
     (first | rw [c26b0] | (simp only [i64_w, i32_w]; rw [c26b0]) | skip)
     have H' := am H
     clear H
     have hcz27_0 : w24.cell? ⟨gb308, 0, none⟩ = some (.int .i64 a0_0) := (blk_cell BK308.out 0).trans rfl
     have hcz27_1 : w24.cell? ⟨gb308, 1, none⟩ = some (.string a0_1) := (blk_cell BK308.out 1).trans rfl
     have hcz27_2 : w24.cell? ⟨gb308, 2, none⟩ = some (.string a0_2) := (blk_cell BK308.out 2).trans rfl
     have hcz27_3 : w24.cell? ⟨gb308, 3, none⟩ = some (.string a0_3) := (blk_cell BK308.out 3).trans rfl
     have hcz27_4 : w24.cell? ⟨gb308, 4, none⟩ = some (.slice A0_4 l0_4.length c0_4) := (blk_cell BK308.out 4).trans rfl
     have hfz27_0 := blk_frozen BK308.out 0
     have hfz27_1 := blk_frozen BK308.out 1
     have hfz27_2 := blk_frozen BK308.out 2
     have hfz27_3 := blk_frozen BK308.out 3
     have hfz27_4 := blk_frozen BK308.out 4
     go_wp2
     go_meet
     case rel => exact ⟨_, (true), (by first | rfl | (simp; done) | (simp [*]; done)), H', ⟨by first | omega | exact Nat.le_refl _⟩, ⟨by (with_reducible repeat (first | refine bN ?_ _ | refine bD ?_ | refine bA ?_ _)); exact BK308.out⟩, ⟨by repeat (first | (with_reducible first | exact HB.out | apply lA | apply lN | apply lD | refine below_set ?_ GE308.out) | exact HB.out)⟩⟩
    ·rw [if_neg c26] at H
     have c26b0 : (a0_0 == 3) = false := beq_eq_false_iff_ne.mpr c26
     have c26b1 : (a0_0 != 3) = true := bne_iff_ne.mpr c26
     (first | rw [c26b0] | (simp only [i64_w, i32_w]; rw [c26b0]) | skip)
     have H' := am H
     clear H
     have hcz28_0 : w24.cell? ⟨gb308, 0, none⟩ = some (.int .i64 a0_0) := (blk_cell BK308.out 0).trans rfl
     have hcz28_1 : w24.cell? ⟨gb308, 1, none⟩ = some (.string a0_1) := (blk_cell BK308.out 1).trans rfl
     have hcz28_2 : w24.cell? ⟨gb308, 2, none⟩ = some (.string a0_2) := (blk_cell BK308.out 2).trans rfl
     have hcz28_3 : w24.cell? ⟨gb308, 3, none⟩ = some (.string a0_3) := (blk_cell BK308.out 3).trans rfl
     have hcz28_4 : w24.cell? ⟨gb308, 4, none⟩ = some (.slice A0_4 l0_4.length c0_4) := (blk_cell BK308.out 4).trans rfl
     have hfz28_0 := blk_frozen BK308.out 0
     have hfz28_1 := blk_frozen BK308.out 1
     have hfz28_2 := blk_frozen BK308.out 2
     have hfz28_3 := blk_frozen BK308.out 3
     have hfz28_4 := blk_frozen BK308.out 4
     go_wp2
     go_meet
     case rel => exact ⟨_, ((a0_0 == 4)), (by first | rfl | (simp; done) | (simp [*]; done)), H', ⟨by first | omega | exact Nat.le_refl _⟩, ⟨by (with_reducible repeat (first | refine bN ?_ _ | refine bD ?_ | refine bA ?_ _)); exact BK308.out⟩, ⟨by repeat (first | (with_reducible first | exact HB.out | apply lA | apply lN | apply lD | refine below_set ?_ GE308.out) | exact HB.out)⟩⟩
   case rest =>
    clear HC23
    try clear c1
    try clear c2
    try clear c2b0
    try clear c2b1
    try clear p2
    try clear p3
    try clear q3
    try clear hx3
    try clear c4
    try clear c5
    try clear c5b0
    try clear c6
    try clear c6b0
    try clear p6
    try clear c8
    try clear c11
    try clear c11b0
    try clear c11b1
    try clear c12
    try clear c12b0
    try clear c12b1
    try clear c13
    try clear c13b0
    try clear c13b1
    try clear c14
    try clear c14b0
    try clear c14b1
    try clear c20
    try clear c20b0
    try clear c20b1
    try clear c26
    try clear c26b0
    try clear c26b1
    try clear hcz10_0
    try clear hcz10_1
    try clear hcz10_2
    try clear hcz10_3
    try clear hcz10_4
    try clear hcz15_0
    try clear hcz15_1
    try clear hcz15_2
    try clear hcz15_3
    try clear hcz15_4
    try clear hcz16_0
    try clear hcz16_1
    try clear hcz16_2
    try clear hcz16_3
    try clear hcz16_4
    try clear hcz17_0
    try clear hcz17_1
    try clear hcz17_2
    try clear hcz17_3
    try clear hcz17_4
    try clear hcz18_0
    try clear hcz18_1
    try clear hcz18_2
    try clear hcz18_3
    try clear hcz18_4
    try clear hcz19_0
    try clear hcz19_1
    try clear hcz19_2
    try clear hcz19_3
    try clear hcz19_4
    try clear hcz22_0
    try clear hcz22_1
    try clear hcz22_2
    try clear hcz22_3
    try clear hcz22_4
    try clear hcz25_0
    try clear hcz25_1
    try clear hcz25_2
    try clear hcz25_3
    try clear hcz25_4
    try clear hcz27_0
    try clear hcz27_1
    try clear hcz27_2
    try clear hcz27_3
    try clear hcz27_4
    try clear hcz28_0
    try clear hcz28_1
    try clear hcz28_2
    try clear hcz28_3
    try clear hcz28_4
    try clear hcz4_0
    try clear hcz4_1
    try clear hcz4_2
    try clear hcz4_3
    try clear hcz4_4
    try clear hcz9_0
    try clear hcz9_1
    try clear hcz9_2
    try clear hcz9_3
    try clear hcz9_4
    try clear hfz10_0
    try clear hfz10_1
    try clear hfz10_2
    try clear hfz10_3
    try clear hfz10_4
    try clear hfz15_0
    try clear hfz15_1
    try clear hfz15_2
    try clear hfz15_3
    try clear hfz15_4
    try clear hfz16_0
    try clear hfz16_1
    try clear hfz16_2
    try clear hfz16_3
    try clear hfz16_4
    try clear hfz17_0
    try clear hfz17_1
    try clear hfz17_2
    try clear hfz17_3
    try clear hfz17_4
    try clear hfz18_0
    try clear hfz18_1
    try clear hfz18_2
    try clear hfz18_3
    try clear hfz18_4
    try clear hfz19_0
    try clear hfz19_1
    try clear hfz19_2
    try clear hfz19_3
    try clear hfz19_4
    try clear hfz22_0
    try clear hfz22_1
    try clear hfz22_2
    try clear hfz22_3
    try clear hfz22_4
    try clear hfz25_0
    try clear hfz25_1
    try clear hfz25_2
    try clear hfz25_3
    try clear hfz25_4
    try clear hfz27_0
    try clear hfz27_1
    try clear hfz27_2
    try clear hfz27_3
    try clear hfz27_4
    try clear hfz28_0
    try clear hfz28_1
    try clear hfz28_2
    try clear hfz28_3
    try clear hfz28_4
    try clear hfz4_0
    try clear hfz4_1
    try clear hfz4_2
    try clear hfz4_3
    try clear hfz4_4
    try clear hfz9_0
    try clear hfz9_1
    try clear hfz9_2
    try clear hfz9_3
    try clear hfz9_4
    try clear hx309_0
    try clear p2
    try clear p309
    try clear q309
    obtain ⟨kq, x58_22, rfl, HA, HJ22, BK308, HB⟩ := hcut
    cases kq with
    | zero => exact absurd HA.out (by simp [reredosref08_One.j1])
    | succ kj22 =>
     have H := HA.out
     clear HA
     simp only [reredosref08_One.j1] at H
     by_cases c29 : x58_22 = true
     ·subst c29
      have H1 : (if a0_0 = 4 then (if a0_3.toList = ([] : List UInt8) then (if a0_1.toList = ([123] : List UInt8) then ((reredosref08_has.f kj22 a0_2 (⟨#[39, 46]⟩ : ByteArray)).bind fun t311 => (some t311)) else ((reredosref08_part.f kj22 a0_1 4).bind fun t312 => (if t312 = true then ((reredosref08_has.f kj22 a0_2 (⟨#[39, 46]⟩ : ByteArray)).bind fun t313 => (some t313)) else ((reredosref08_part.f kj22 a0_1 3).bind fun t314 => (if t314 = true then ((reredosref08_has.f kj22 a0_2 (⟨#[39, 46]⟩ : ByteArray)).bind fun t315 => (some t315)) else (some false)))))) else (some false)) else (if a0_3.toList = ([] : List UInt8) then (if a0_1.toList = ([123] : List UInt8) then ((reredosref08_has.f kj22 a0_2 (⟨#[39, 47, 92, 96]⟩ : ByteArray)).bind fun t316 => (some t316)) else ((reredosref08_part.f kj22 a0_1 4).bind fun t317 => (if t317 = true then ((reredosref08_has.f kj22 a0_2 (⟨#[39, 47, 92, 96]⟩ : ByteArray)).bind fun t318 => (some t318)) else ((reredosref08_part.f kj22 a0_1 3).bind fun t319 => (if t319 = true then ((reredosref08_has.f kj22 a0_2 (⟨#[39, 47, 92, 96]⟩ : ByteArray)).bind fun t320 => (some t320)) else (some false)))))) else (some false))) = some r := by rw [if_pos rfl] at H; exact H
      clear H
      have H := H1
      clear H1
      by_cases c30 : a0_0 = 4
      ·rw [if_pos c30] at H
       have c30b0 : (a0_0 == 4) = true := beq_iff_eq.mpr c30
       have c30b1 : (a0_0 != 4) = false := bne_eq_false_iff_eq.mpr c30
       clear c30
       by_cases c31 : a0_3.toList = ([] : List UInt8)
       ·rw [if_pos c31] at H
        have c31b0 : (a0_3.toList == ([] : List UInt8)) = true := beq_iff_eq.mpr c31
        have c31b1 : (a0_3.toList != ([] : List UInt8)) = false := bne_eq_false_iff_eq.mpr c31
        clear c31
        by_cases c32 : a0_1.toList = ([123] : List UInt8)
        ·rw [if_pos c32] at H
         have c32b0 : (a0_1.toList == ([123] : List UInt8)) = true := beq_iff_eq.mpr c32
         have c32b1 : (a0_1.toList != ([123] : List UInt8)) = false := bne_eq_false_iff_eq.mpr c32
         clear c32
         replace H := Option.bind_eq_some_iff.mp H
         obtain ⟨t311, A330, H⟩ := H
         replace H : (some t311) = some r := H
         have A33 := am A330
         clear A330
         obtain rfl := Option.some.inj H
         have hcz34_0 : wc.cell? ⟨gb308, 0, none⟩ = some (.int .i64 a0_0) := (blk_cell BK308.out 0).trans rfl
         have hcz34_1 : wc.cell? ⟨gb308, 1, none⟩ = some (.string a0_1) := (blk_cell BK308.out 1).trans rfl
         have hcz34_2 : wc.cell? ⟨gb308, 2, none⟩ = some (.string a0_2) := (blk_cell BK308.out 2).trans rfl
         have hcz34_3 : wc.cell? ⟨gb308, 3, none⟩ = some (.string a0_3) := (blk_cell BK308.out 3).trans rfl
         have hcz34_4 : wc.cell? ⟨gb308, 4, none⟩ = some (.slice A0_4 l0_4.length c0_4) := (blk_cell BK308.out 4).trans rfl
         have hfz34_0 := blk_frozen BK308.out 0
         have hfz34_1 := blk_frozen BK308.out 1
         have hfz34_2 := blk_frozen BK308.out 2
         have hfz34_3 := blk_frozen BK308.out 3
         have hfz34_4 := blk_frozen BK308.out 4
         go_wp2_with (first | (go_at_call 63; (with_reducible refine (reredosref08_has.calls kj22 a0_2 (⟨#[39, 46]⟩ : ByteArray) t311 _ A33.out).mono ?_); rintro e w' ⟨rfl, ⟨nd, rfl⟩⟩))
         go_ret
         exact ⟨by first | rfl | (simp [errW_none, errW_some] <;> rfl) | (simp [*, errW_none, errW_some] <;> rfl), by repeat (first | (with_reducible first | exact HB.out | apply lA | apply lN | apply lD | refine below_set ?_ GE308.out) | exact HB.out)⟩
        ·rw [if_neg c32] at H
         have c32b0 : (a0_1.toList == ([123] : List UInt8)) = false := beq_eq_false_iff_ne.mpr c32
         have c32b1 : (a0_1.toList != ([123] : List UInt8)) = true := bne_iff_ne.mpr c32
         replace H := Option.bind_eq_some_iff.mp H
         obtain ⟨t312, A350, H⟩ := H
         replace H : (if t312 = true then ((reredosref08_has.f kj22 a0_2 (⟨#[39, 46]⟩ : ByteArray)).bind fun t313 => (some t313)) else ((reredosref08_part.f kj22 a0_1 3).bind fun t314 => (if t314 = true then ((reredosref08_has.f kj22 a0_2 (⟨#[39, 46]⟩ : ByteArray)).bind fun t315 => (some t315)) else (some false)))) = some r := H
         have A35 := am A350
         clear A350
         by_cases c36 : t312 = true
         ·subst c36
          have H1 : ((reredosref08_has.f kj22 a0_2 (⟨#[39, 46]⟩ : ByteArray)).bind fun t313 => (some t313)) = some r := by rw [if_pos rfl] at H; exact H
          clear H
          have H := H1
          clear H1
          replace H := Option.bind_eq_some_iff.mp H
          obtain ⟨t313, A370, H⟩ := H
          replace H : (some t313) = some r := H
          have A37 := am A370
          clear A370
          obtain rfl := Option.some.inj H
          have hcz38_0 : wc.cell? ⟨gb308, 0, none⟩ = some (.int .i64 a0_0) := (blk_cell BK308.out 0).trans rfl
          have hcz38_1 : wc.cell? ⟨gb308, 1, none⟩ = some (.string a0_1) := (blk_cell BK308.out 1).trans rfl
          have hcz38_2 : wc.cell? ⟨gb308, 2, none⟩ = some (.string a0_2) := (blk_cell BK308.out 2).trans rfl
          have hcz38_3 : wc.cell? ⟨gb308, 3, none⟩ = some (.string a0_3) := (blk_cell BK308.out 3).trans rfl
          have hcz38_4 : wc.cell? ⟨gb308, 4, none⟩ = some (.slice A0_4 l0_4.length c0_4) := (blk_cell BK308.out 4).trans rfl
          have hfz38_0 := blk_frozen BK308.out 0
          have hfz38_1 := blk_frozen BK308.out 1
          have hfz38_2 := blk_frozen BK308.out 2
          have hfz38_3 := blk_frozen BK308.out 3
          have hfz38_4 := blk_frozen BK308.out 4
          go_wp2_with (first | (go_at_call 62; (with_reducible refine (reredosref08_part.calls kj22 a0_1 4 true _ A35.out).mono ?_); rintro e w39 ⟨rfl, hb⟩; have n0_ := am (bB (g := gb308) (o := .cells #[.int .i64 a0_0, .string a0_1, .string a0_2, .string a0_3, .slice A0_4 l0_4.length c0_4] 25 (0, 0)) (by (with_reducible repeat (first | refine bN ?_ _ | refine bD ?_ | refine bA ?_ _)); exact BK308.out) hb); have n1_ := am (below_step (by repeat (first | (with_reducible first | exact HB.out | apply lA | apply lN | apply lD | refine below_set ?_ GE308.out) | exact HB.out)) hb); clear BK308; clear HB; have BK308 := n0_; have HB := n1_; clear n0_ n1_; (try clear hb); (try clear hb2); (try clear hk); (try clear hi); have hcz40_0 : w39.cell? ⟨gb308, 0, none⟩ = some (.int .i64 a0_0) := (blk_cell BK308.out 0).trans rfl; have hcz40_1 : w39.cell? ⟨gb308, 1, none⟩ = some (.string a0_1) := (blk_cell BK308.out 1).trans rfl; have hcz40_2 : w39.cell? ⟨gb308, 2, none⟩ = some (.string a0_2) := (blk_cell BK308.out 2).trans rfl; have hcz40_3 : w39.cell? ⟨gb308, 3, none⟩ = some (.string a0_3) := (blk_cell BK308.out 3).trans rfl; have hcz40_4 : w39.cell? ⟨gb308, 4, none⟩ = some (.slice A0_4 l0_4.length c0_4) := (blk_cell BK308.out 4).trans rfl; have hfz40_0 := blk_frozen BK308.out 0; have hfz40_1 := blk_frozen BK308.out 1; have hfz40_2 := blk_frozen BK308.out 2; have hfz40_3 := blk_frozen BK308.out 3; have hfz40_4 := blk_frozen BK308.out 4) | (go_at_call 63; (with_reducible refine (reredosref08_has.calls kj22 a0_2 (⟨#[39, 46]⟩ : ByteArray) t313 _ A37.out).mono ?_); rintro e w' ⟨rfl, ⟨nd, rfl⟩⟩))
          go_ret
          exact ⟨by first | rfl | (simp [errW_none, errW_some] <;> rfl) | (simp [*, errW_none, errW_some] <;> rfl), by repeat (first | (with_reducible first | exact HB.out | apply lA | apply lN | apply lD | refine below_set ?_ GE308.out) | exact HB.out)⟩
         ·replace c36 := Bool.eq_false_iff.mpr c36
          subst c36
          have H1 : ((reredosref08_part.f kj22 a0_1 3).bind fun t314 => (if t314 = true then ((reredosref08_has.f kj22 a0_2 (⟨#[39, 46]⟩ : ByteArray)).bind fun t315 => (some t315)) else (some false))) = some r := by rw [if_neg (show ¬ (false = true) by decide)] at H; exact H
          clear H
          have H := H1
          clear H1
          replace H := Option.bind_eq_some_iff.mp H
          obtain ⟨t314, A410, H⟩ := H
          replace H : (if t314 = true then ((reredosref08_has.f kj22 a0_2 (⟨#[39, 46]⟩ : ByteArray)).bind fun t315 => (some t315)) else (some false)) = some r := H
          have A41 := am A410
          clear A410
          by_cases c42 : t314 = true
          ·subst c42
           have H1 : ((reredosref08_has.f kj22 a0_2 (⟨#[39, 46]⟩ : ByteArray)).bind fun t315 => (some t315)) = some r := by rw [if_pos rfl] at H; exact H
           clear H
           have H := H1
           clear H1
           replace H := Option.bind_eq_some_iff.mp H
           obtain ⟨t315, A430, H⟩ := H
           replace H : (some t315) = some r := H
           have A43 := am A430
           clear A430
           obtain rfl := Option.some.inj H
           have hcz44_0 : wc.cell? ⟨gb308, 0, none⟩ = some (.int .i64 a0_0) := (blk_cell BK308.out 0).trans rfl
           have hcz44_1 : wc.cell? ⟨gb308, 1, none⟩ = some (.string a0_1) := (blk_cell BK308.out 1).trans rfl
           have hcz44_2 : wc.cell? ⟨gb308, 2, none⟩ = some (.string a0_2) := (blk_cell BK308.out 2).trans rfl
           have hcz44_3 : wc.cell? ⟨gb308, 3, none⟩ = some (.string a0_3) := (blk_cell BK308.out 3).trans rfl
           have hcz44_4 : wc.cell? ⟨gb308, 4, none⟩ = some (.slice A0_4 l0_4.length c0_4) := (blk_cell BK308.out 4).trans rfl
           have hfz44_0 := blk_frozen BK308.out 0
           have hfz44_1 := blk_frozen BK308.out 1
           have hfz44_2 := blk_frozen BK308.out 2
           have hfz44_3 := blk_frozen BK308.out 3
           have hfz44_4 := blk_frozen BK308.out 4
           go_wp2_with (first | (go_at_call 62; (with_reducible refine (reredosref08_part.calls kj22 a0_1 4 false _ A35.out).mono ?_); rintro e w45 ⟨rfl, hb⟩; have n0_ := am (bB (g := gb308) (o := .cells #[.int .i64 a0_0, .string a0_1, .string a0_2, .string a0_3, .slice A0_4 l0_4.length c0_4] 25 (0, 0)) (by (with_reducible repeat (first | refine bN ?_ _ | refine bD ?_ | refine bA ?_ _)); exact BK308.out) hb); have n1_ := am (below_step (by repeat (first | (with_reducible first | exact HB.out | apply lA | apply lN | apply lD | refine below_set ?_ GE308.out) | exact HB.out)) hb); clear BK308; clear HB; have BK308 := n0_; have HB := n1_; clear n0_ n1_; (try clear hb); (try clear hb2); (try clear hk); (try clear hi); have hcz46_0 : w45.cell? ⟨gb308, 0, none⟩ = some (.int .i64 a0_0) := (blk_cell BK308.out 0).trans rfl; have hcz46_1 : w45.cell? ⟨gb308, 1, none⟩ = some (.string a0_1) := (blk_cell BK308.out 1).trans rfl; have hcz46_2 : w45.cell? ⟨gb308, 2, none⟩ = some (.string a0_2) := (blk_cell BK308.out 2).trans rfl; have hcz46_3 : w45.cell? ⟨gb308, 3, none⟩ = some (.string a0_3) := (blk_cell BK308.out 3).trans rfl; have hcz46_4 : w45.cell? ⟨gb308, 4, none⟩ = some (.slice A0_4 l0_4.length c0_4) := (blk_cell BK308.out 4).trans rfl; have hfz46_0 := blk_frozen BK308.out 0; have hfz46_1 := blk_frozen BK308.out 1; have hfz46_2 := blk_frozen BK308.out 2; have hfz46_3 := blk_frozen BK308.out 3; have hfz46_4 := blk_frozen BK308.out 4) | (go_at_call 62; (with_reducible refine (reredosref08_part.calls kj22 a0_1 3 true _ A41.out).mono ?_); rintro e w47 ⟨rfl, hb⟩; have n0_ := am (bB (g := gb308) (o := .cells #[.int .i64 a0_0, .string a0_1, .string a0_2, .string a0_3, .slice A0_4 l0_4.length c0_4] 25 (0, 0)) (by (with_reducible repeat (first | refine bN ?_ _ | refine bD ?_ | refine bA ?_ _)); exact BK308.out) hb); have n1_ := am (below_step (by repeat (first | (with_reducible first | exact HB.out | apply lA | apply lN | apply lD | refine below_set ?_ GE308.out) | exact HB.out)) hb); clear BK308; clear HB; have BK308 := n0_; have HB := n1_; clear n0_ n1_; (try clear hb); (try clear hb2); (try clear hk); (try clear hi); have hcz48_0 : w47.cell? ⟨gb308, 0, none⟩ = some (.int .i64 a0_0) := (blk_cell BK308.out 0).trans rfl; have hcz48_1 : w47.cell? ⟨gb308, 1, none⟩ = some (.string a0_1) := (blk_cell BK308.out 1).trans rfl; have hcz48_2 : w47.cell? ⟨gb308, 2, none⟩ = some (.string a0_2) := (blk_cell BK308.out 2).trans rfl; have hcz48_3 : w47.cell? ⟨gb308, 3, none⟩ = some (.string a0_3) := (blk_cell BK308.out 3).trans rfl; have hcz48_4 : w47.cell? ⟨gb308, 4, none⟩ = some (.slice A0_4 l0_4.length c0_4) := (blk_cell BK308.out 4).trans rfl; have hfz48_0 := blk_frozen BK308.out 0; have hfz48_1 := blk_frozen BK308.out 1; have hfz48_2 := blk_frozen BK308.out 2; have hfz48_3 := blk_frozen BK308.out 3; have hfz48_4 := blk_frozen BK308.out 4) | (go_at_call 63; (with_reducible refine (reredosref08_has.calls kj22 a0_2 (⟨#[39, 46]⟩ : ByteArray) t315 _ A43.out).mono ?_); rintro e w' ⟨rfl, ⟨nd, rfl⟩⟩))
           go_ret
           exact ⟨by first | rfl | (simp [errW_none, errW_some] <;> rfl) | (simp [*, errW_none, errW_some] <;> rfl), by repeat (first | (with_reducible first | exact HB.out | apply lA | apply lN | apply lD | refine below_set ?_ GE308.out) | exact HB.out)⟩
          ·replace c42 := Bool.eq_false_iff.mpr c42
           subst c42
           have H1 : (some false) = some r := by rw [if_neg (show ¬ (false = true) by decide)] at H; exact H
           clear H
           have H := H1
           clear H1
           obtain rfl := Option.some.inj H
           have hcz49_0 : wc.cell? ⟨gb308, 0, none⟩ = some (.int .i64 a0_0) := (blk_cell BK308.out 0).trans rfl
           have hcz49_1 : wc.cell? ⟨gb308, 1, none⟩ = some (.string a0_1) := (blk_cell BK308.out 1).trans rfl
           have hcz49_2 : wc.cell? ⟨gb308, 2, none⟩ = some (.string a0_2) := (blk_cell BK308.out 2).trans rfl
           have hcz49_3 : wc.cell? ⟨gb308, 3, none⟩ = some (.string a0_3) := (blk_cell BK308.out 3).trans rfl
           have hcz49_4 : wc.cell? ⟨gb308, 4, none⟩ = some (.slice A0_4 l0_4.length c0_4) := (blk_cell BK308.out 4).trans rfl
           have hfz49_0 := blk_frozen BK308.out 0
           have hfz49_1 := blk_frozen BK308.out 1
           have hfz49_2 := blk_frozen BK308.out 2
           have hfz49_3 := blk_frozen BK308.out 3
           have hfz49_4 := blk_frozen BK308.out 4
           go_wp2_with (first | (go_at_call 62; (with_reducible refine (reredosref08_part.calls kj22 a0_1 4 false _ A35.out).mono ?_); rintro e w50 ⟨rfl, hb⟩; have n0_ := am (bB (g := gb308) (o := .cells #[.int .i64 a0_0, .string a0_1, .string a0_2, .string a0_3, .slice A0_4 l0_4.length c0_4] 25 (0, 0)) (by (with_reducible repeat (first | refine bN ?_ _ | refine bD ?_ | refine bA ?_ _)); exact BK308.out) hb); have n1_ := am (below_step (by repeat (first | (with_reducible first | exact HB.out | apply lA | apply lN | apply lD | refine below_set ?_ GE308.out) | exact HB.out)) hb); clear BK308; clear HB; have BK308 := n0_; have HB := n1_; clear n0_ n1_; (try clear hb); (try clear hb2); (try clear hk); (try clear hi); have hcz51_0 : w50.cell? ⟨gb308, 0, none⟩ = some (.int .i64 a0_0) := (blk_cell BK308.out 0).trans rfl; have hcz51_1 : w50.cell? ⟨gb308, 1, none⟩ = some (.string a0_1) := (blk_cell BK308.out 1).trans rfl; have hcz51_2 : w50.cell? ⟨gb308, 2, none⟩ = some (.string a0_2) := (blk_cell BK308.out 2).trans rfl; have hcz51_3 : w50.cell? ⟨gb308, 3, none⟩ = some (.string a0_3) := (blk_cell BK308.out 3).trans rfl; have hcz51_4 : w50.cell? ⟨gb308, 4, none⟩ = some (.slice A0_4 l0_4.length c0_4) := (blk_cell BK308.out 4).trans rfl; have hfz51_0 := blk_frozen BK308.out 0; have hfz51_1 := blk_frozen BK308.out 1; have hfz51_2 := blk_frozen BK308.out 2; have hfz51_3 := blk_frozen BK308.out 3; have hfz51_4 := blk_frozen BK308.out 4) | (go_at_call 62; (with_reducible refine (reredosref08_part.calls kj22 a0_1 3 false _ A41.out).mono ?_); rintro e w52 ⟨rfl, hb⟩; have n0_ := am (bB (g := gb308) (o := .cells #[.int .i64 a0_0, .string a0_1, .string a0_2, .string a0_3, .slice A0_4 l0_4.length c0_4] 25 (0, 0)) (by (with_reducible repeat (first | refine bN ?_ _ | refine bD ?_ | refine bA ?_ _)); exact BK308.out) hb); have n1_ := am (below_step (by repeat (first | (with_reducible first | exact HB.out | apply lA | apply lN | apply lD | refine below_set ?_ GE308.out) | exact HB.out)) hb); clear BK308; clear HB; have BK308 := n0_; have HB := n1_; clear n0_ n1_; (try clear hb); (try clear hb2); (try clear hk); (try clear hi)))
           go_ret
           exact ⟨by first | rfl | (simp [errW_none, errW_some] <;> rfl) | (simp [*, errW_none, errW_some] <;> rfl), by repeat (first | (with_reducible first | exact HB.out | apply lA | apply lN | apply lD | refine below_set ?_ GE308.out) | exact HB.out)⟩
       ·rw [if_neg c31] at H
        have c31b0 : (a0_3.toList == ([] : List UInt8)) = false := beq_eq_false_iff_ne.mpr c31
        have c31b1 : (a0_3.toList != ([] : List UInt8)) = true := bne_iff_ne.mpr c31
        obtain rfl := Option.some.inj H
        have hcz53_0 : wc.cell? ⟨gb308, 0, none⟩ = some (.int .i64 a0_0) := (blk_cell BK308.out 0).trans rfl
        have hcz53_1 : wc.cell? ⟨gb308, 1, none⟩ = some (.string a0_1) := (blk_cell BK308.out 1).trans rfl
        have hcz53_2 : wc.cell? ⟨gb308, 2, none⟩ = some (.string a0_2) := (blk_cell BK308.out 2).trans rfl
        have hcz53_3 : wc.cell? ⟨gb308, 3, none⟩ = some (.string a0_3) := (blk_cell BK308.out 3).trans rfl
        have hcz53_4 : wc.cell? ⟨gb308, 4, none⟩ = some (.slice A0_4 l0_4.length c0_4) := (blk_cell BK308.out 4).trans rfl
        have hfz53_0 := blk_frozen BK308.out 0
        have hfz53_1 := blk_frozen BK308.out 1
        have hfz53_2 := blk_frozen BK308.out 2
        have hfz53_3 := blk_frozen BK308.out 3
        have hfz53_4 := blk_frozen BK308.out 4
        go_wp2
        go_ret
        exact ⟨by first | rfl | (simp [errW_none, errW_some] <;> rfl) | (simp [*, errW_none, errW_some] <;> rfl), by repeat (first | (with_reducible first | exact HB.out | apply lA | apply lN | apply lD | refine below_set ?_ GE308.out) | exact HB.out)⟩
      ·rw [if_neg c30] at H
       have c30b0 : (a0_0 == 4) = false := beq_eq_false_iff_ne.mpr c30
       have c30b1 : (a0_0 != 4) = true := bne_iff_ne.mpr c30
       by_cases c54 : a0_3.toList = ([] : List UInt8)
       ·rw [if_pos c54] at H
        have c54b0 : (a0_3.toList == ([] : List UInt8)) = true := beq_iff_eq.mpr c54
        have c54b1 : (a0_3.toList != ([] : List UInt8)) = false := bne_eq_false_iff_eq.mpr c54
        clear c54
        by_cases c55 : a0_1.toList = ([123] : List UInt8)
        ·rw [if_pos c55] at H
         have c55b0 : (a0_1.toList == ([123] : List UInt8)) = true := beq_iff_eq.mpr c55
         have c55b1 : (a0_1.toList != ([123] : List UInt8)) = false := bne_eq_false_iff_eq.mpr c55
         clear c55
         replace H := Option.bind_eq_some_iff.mp H
         obtain ⟨t316, A560, H⟩ := H
         replace H : (some t316) = some r := H
         have A56 := am A560
         clear A560
         obtain rfl := Option.some.inj H
         have hcz57_0 : wc.cell? ⟨gb308, 0, none⟩ = some (.int .i64 a0_0) := (blk_cell BK308.out 0).trans rfl
         have hcz57_1 : wc.cell? ⟨gb308, 1, none⟩ = some (.string a0_1) := (blk_cell BK308.out 1).trans rfl
         have hcz57_2 : wc.cell? ⟨gb308, 2, none⟩ = some (.string a0_2) := (blk_cell BK308.out 2).trans rfl
         have hcz57_3 : wc.cell? ⟨gb308, 3, none⟩ = some (.string a0_3) := (blk_cell BK308.out 3).trans rfl
         have hcz57_4 : wc.cell? ⟨gb308, 4, none⟩ = some (.slice A0_4 l0_4.length c0_4) := (blk_cell BK308.out 4).trans rfl
         have hfz57_0 := blk_frozen BK308.out 0
         have hfz57_1 := blk_frozen BK308.out 1
         have hfz57_2 := blk_frozen BK308.out 2
         have hfz57_3 := blk_frozen BK308.out 3
         have hfz57_4 := blk_frozen BK308.out 4
         go_wp2_with (first | (go_at_call 63; (with_reducible refine (reredosref08_has.calls kj22 a0_2 (⟨#[39, 47, 92, 96]⟩ : ByteArray) t316 _ A56.out).mono ?_); rintro e w' ⟨rfl, ⟨nd, rfl⟩⟩))
         go_ret
         exact ⟨by first | rfl | (simp [errW_none, errW_some] <;> rfl) | (simp [*, errW_none, errW_some] <;> rfl), by repeat (first | (with_reducible first | exact HB.out | apply lA | apply lN | apply lD | refine below_set ?_ GE308.out) | exact HB.out)⟩
        ·rw [if_neg c55] at H
         have c55b0 : (a0_1.toList == ([123] : List UInt8)) = false := beq_eq_false_iff_ne.mpr c55
         have c55b1 : (a0_1.toList != ([123] : List UInt8)) = true := bne_iff_ne.mpr c55
         replace H := Option.bind_eq_some_iff.mp H
         obtain ⟨t317, A580, H⟩ := H
         replace H : (if t317 = true then ((reredosref08_has.f kj22 a0_2 (⟨#[39, 47, 92, 96]⟩ : ByteArray)).bind fun t318 => (some t318)) else ((reredosref08_part.f kj22 a0_1 3).bind fun t319 => (if t319 = true then ((reredosref08_has.f kj22 a0_2 (⟨#[39, 47, 92, 96]⟩ : ByteArray)).bind fun t320 => (some t320)) else (some false)))) = some r := H
         have A58 := am A580
         clear A580
         by_cases c59 : t317 = true
         ·subst c59
          have H1 : ((reredosref08_has.f kj22 a0_2 (⟨#[39, 47, 92, 96]⟩ : ByteArray)).bind fun t318 => (some t318)) = some r := by rw [if_pos rfl] at H; exact H
          clear H
          have H := H1
          clear H1
          replace H := Option.bind_eq_some_iff.mp H
          obtain ⟨t318, A600, H⟩ := H
          replace H : (some t318) = some r := H
          have A60 := am A600
          clear A600
          obtain rfl := Option.some.inj H
          have hcz61_0 : wc.cell? ⟨gb308, 0, none⟩ = some (.int .i64 a0_0) := (blk_cell BK308.out 0).trans rfl
          have hcz61_1 : wc.cell? ⟨gb308, 1, none⟩ = some (.string a0_1) := (blk_cell BK308.out 1).trans rfl
          have hcz61_2 : wc.cell? ⟨gb308, 2, none⟩ = some (.string a0_2) := (blk_cell BK308.out 2).trans rfl
          have hcz61_3 : wc.cell? ⟨gb308, 3, none⟩ = some (.string a0_3) := (blk_cell BK308.out 3).trans rfl
          have hcz61_4 : wc.cell? ⟨gb308, 4, none⟩ = some (.slice A0_4 l0_4.length c0_4) := (blk_cell BK308.out 4).trans rfl
          have hfz61_0 := blk_frozen BK308.out 0
          have hfz61_1 := blk_frozen BK308.out 1
          have hfz61_2 := blk_frozen BK308.out 2
          have hfz61_3 := blk_frozen BK308.out 3
          have hfz61_4 := blk_frozen BK308.out 4
          go_wp2_with (first | (go_at_call 62; (with_reducible refine (reredosref08_part.calls kj22 a0_1 4 true _ A58.out).mono ?_); rintro e w62 ⟨rfl, hb⟩; have n0_ := am (bB (g := gb308) (o := .cells #[.int .i64 a0_0, .string a0_1, .string a0_2, .string a0_3, .slice A0_4 l0_4.length c0_4] 25 (0, 0)) (by (with_reducible repeat (first | refine bN ?_ _ | refine bD ?_ | refine bA ?_ _)); exact BK308.out) hb); have n1_ := am (below_step (by repeat (first | (with_reducible first | exact HB.out | apply lA | apply lN | apply lD | refine below_set ?_ GE308.out) | exact HB.out)) hb); clear BK308; clear HB; have BK308 := n0_; have HB := n1_; clear n0_ n1_; (try clear hb); (try clear hb2); (try clear hk); (try clear hi); have hcz63_0 : w62.cell? ⟨gb308, 0, none⟩ = some (.int .i64 a0_0) := (blk_cell BK308.out 0).trans rfl; have hcz63_1 : w62.cell? ⟨gb308, 1, none⟩ = some (.string a0_1) := (blk_cell BK308.out 1).trans rfl; have hcz63_2 : w62.cell? ⟨gb308, 2, none⟩ = some (.string a0_2) := (blk_cell BK308.out 2).trans rfl; have hcz63_3 : w62.cell? ⟨gb308, 3, none⟩ = some (.string a0_3) := (blk_cell BK308.out 3).trans rfl; have hcz63_4 : w62.cell? ⟨gb308, 4, none⟩ = some (.slice A0_4 l0_4.length c0_4) := (blk_cell BK308.out 4).trans rfl; have hfz63_0 := blk_frozen BK308.out 0; have hfz63_1 := blk_frozen BK308.out 1; have hfz63_2 := blk_frozen BK308.out 2; have hfz63_3 := blk_frozen BK308.out 3; have hfz63_4 := blk_frozen BK308.out 4) | (go_at_call 63; (with_reducible refine (reredosref08_has.calls kj22 a0_2 (⟨#[39, 47, 92, 96]⟩ : ByteArray) t318 _ A60.out).mono ?_); rintro e w' ⟨rfl, ⟨nd, rfl⟩⟩))
          go_ret
          exact ⟨by first | rfl | (simp [errW_none, errW_some] <;> rfl) | (simp [*, errW_none, errW_some] <;> rfl), by repeat (first | (with_reducible first | exact HB.out | apply lA | apply lN | apply lD | refine below_set ?_ GE308.out) | exact HB.out)⟩
         ·replace c59 := Bool.eq_false_iff.mpr c59
          subst c59
          have H1 : ((reredosref08_part.f kj22 a0_1 3).bind fun t319 => (if t319 = true then ((reredosref08_has.f kj22 a0_2 (⟨#[39, 47, 92, 96]⟩ : ByteArray)).bind fun t320 => (some t320)) else (some false))) = some r := by rw [if_neg (show ¬ (false = true) by decide)] at H; exact H
          clear H
          have H := H1
          clear H1
          replace H := Option.bind_eq_some_iff.mp H
          obtain ⟨t319, A640, H⟩ := H
          replace H : (if t319 = true then ((reredosref08_has.f kj22 a0_2 (⟨#[39, 47, 92, 96]⟩ : ByteArray)).bind fun t320 => (some t320)) else (some false)) = some r := H
          have A64 := am A640
          clear A640
          by_cases c65 : t319 = true
          ·subst c65
           have H1 : ((reredosref08_has.f kj22 a0_2 (⟨#[39, 47, 92, 96]⟩ : ByteArray)).bind fun t320 => (some t320)) = some r := by rw [if_pos rfl] at H; exact H
           clear H
           have H := H1
           clear H1
           replace H := Option.bind_eq_some_iff.mp H
           obtain ⟨t320, A660, H⟩ := H
           replace H : (some t320) = some r := H
           have A66 := am A660
           clear A660
           obtain rfl := Option.some.inj H
           have hcz67_0 : wc.cell? ⟨gb308, 0, none⟩ = some (.int .i64 a0_0) := (blk_cell BK308.out 0).trans rfl
           have hcz67_1 : wc.cell? ⟨gb308, 1, none⟩ = some (.string a0_1) := (blk_cell BK308.out 1).trans rfl
           have hcz67_2 : wc.cell? ⟨gb308, 2, none⟩ = some (.string a0_2) := (blk_cell BK308.out 2).trans rfl
           have hcz67_3 : wc.cell? ⟨gb308, 3, none⟩ = some (.string a0_3) := (blk_cell BK308.out 3).trans rfl
           have hcz67_4 : wc.cell? ⟨gb308, 4, none⟩ = some (.slice A0_4 l0_4.length c0_4) := (blk_cell BK308.out 4).trans rfl
           have hfz67_0 := blk_frozen BK308.out 0
           have hfz67_1 := blk_frozen BK308.out 1
           have hfz67_2 := blk_frozen BK308.out 2
           have hfz67_3 := blk_frozen BK308.out 3
           have hfz67_4 := blk_frozen BK308.out 4
           go_wp2_with (first | (go_at_call 62; (with_reducible refine (reredosref08_part.calls kj22 a0_1 4 false _ A58.out).mono ?_); rintro e w68 ⟨rfl, hb⟩; have n0_ := am (bB (g := gb308) (o := .cells #[.int .i64 a0_0, .string a0_1, .string a0_2, .string a0_3, .slice A0_4 l0_4.length c0_4] 25 (0, 0)) (by (with_reducible repeat (first | refine bN ?_ _ | refine bD ?_ | refine bA ?_ _)); exact BK308.out) hb); have n1_ := am (below_step (by repeat (first | (with_reducible first | exact HB.out | apply lA | apply lN | apply lD | refine below_set ?_ GE308.out) | exact HB.out)) hb); clear BK308; clear HB; have BK308 := n0_; have HB := n1_; clear n0_ n1_; (try clear hb); (try clear hb2); (try clear hk); (try clear hi); have hcz69_0 : w68.cell? ⟨gb308, 0, none⟩ = some (.int .i64 a0_0) := (blk_cell BK308.out 0).trans rfl; have hcz69_1 : w68.cell? ⟨gb308, 1, none⟩ = some (.string a0_1) := (blk_cell BK308.out 1).trans rfl; have hcz69_2 : w68.cell? ⟨gb308, 2, none⟩ = some (.string a0_2) := (blk_cell BK308.out 2).trans rfl; have hcz69_3 : w68.cell? ⟨gb308, 3, none⟩ = some (.string a0_3) := (blk_cell BK308.out 3).trans rfl; have hcz69_4 : w68.cell? ⟨gb308, 4, none⟩ = some (.slice A0_4 l0_4.length c0_4) := (blk_cell BK308.out 4).trans rfl; have hfz69_0 := blk_frozen BK308.out 0; have hfz69_1 := blk_frozen BK308.out 1; have hfz69_2 := blk_frozen BK308.out 2; have hfz69_3 := blk_frozen BK308.out 3; have hfz69_4 := blk_frozen BK308.out 4) | (go_at_call 62; (with_reducible refine (reredosref08_part.calls kj22 a0_1 3 true _ A64.out).mono ?_); rintro e w70 ⟨rfl, hb⟩; have n0_ := am (bB (g := gb308) (o := .cells #[.int .i64 a0_0, .string a0_1, .string a0_2, .string a0_3, .slice A0_4 l0_4.length c0_4] 25 (0, 0)) (by (with_reducible repeat (first | refine bN ?_ _ | refine bD ?_ | refine bA ?_ _)); exact BK308.out) hb); have n1_ := am (below_step (by repeat (first | (with_reducible first | exact HB.out | apply lA | apply lN | apply lD | refine below_set ?_ GE308.out) | exact HB.out)) hb); clear BK308; clear HB; have BK308 := n0_; have HB := n1_; clear n0_ n1_; (try clear hb); (try clear hb2); (try clear hk); (try clear hi); have hcz71_0 : w70.cell? ⟨gb308, 0, none⟩ = some (.int .i64 a0_0) := (blk_cell BK308.out 0).trans rfl; have hcz71_1 : w70.cell? ⟨gb308, 1, none⟩ = some (.string a0_1) := (blk_cell BK308.out 1).trans rfl; have hcz71_2 : w70.cell? ⟨gb308, 2, none⟩ = some (.string a0_2) := (blk_cell BK308.out 2).trans rfl; have hcz71_3 : w70.cell? ⟨gb308, 3, none⟩ = some (.string a0_3) := (blk_cell BK308.out 3).trans rfl; have hcz71_4 : w70.cell? ⟨gb308, 4, none⟩ = some (.slice A0_4 l0_4.length c0_4) := (blk_cell BK308.out 4).trans rfl; have hfz71_0 := blk_frozen BK308.out 0; have hfz71_1 := blk_frozen BK308.out 1; have hfz71_2 := blk_frozen BK308.out 2; have hfz71_3 := blk_frozen BK308.out 3; have hfz71_4 := blk_frozen BK308.out 4) | (go_at_call 63; (with_reducible refine (reredosref08_has.calls kj22 a0_2 (⟨#[39, 47, 92, 96]⟩ : ByteArray) t320 _ A66.out).mono ?_); rintro e w' ⟨rfl, ⟨nd, rfl⟩⟩))
           go_ret
           exact ⟨by first | rfl | (simp [errW_none, errW_some] <;> rfl) | (simp [*, errW_none, errW_some] <;> rfl), by repeat (first | (with_reducible first | exact HB.out | apply lA | apply lN | apply lD | refine below_set ?_ GE308.out) | exact HB.out)⟩
          ·replace c65 := Bool.eq_false_iff.mpr c65
           subst c65
           have H1 : (some false) = some r := by rw [if_neg (show ¬ (false = true) by decide)] at H; exact H
           clear H
           have H := H1
           clear H1
           obtain rfl := Option.some.inj H
           have hcz72_0 : wc.cell? ⟨gb308, 0, none⟩ = some (.int .i64 a0_0) := (blk_cell BK308.out 0).trans rfl
           have hcz72_1 : wc.cell? ⟨gb308, 1, none⟩ = some (.string a0_1) := (blk_cell BK308.out 1).trans rfl
           have hcz72_2 : wc.cell? ⟨gb308, 2, none⟩ = some (.string a0_2) := (blk_cell BK308.out 2).trans rfl
           have hcz72_3 : wc.cell? ⟨gb308, 3, none⟩ = some (.string a0_3) := (blk_cell BK308.out 3).trans rfl
           have hcz72_4 : wc.cell? ⟨gb308, 4, none⟩ = some (.slice A0_4 l0_4.length c0_4) := (blk_cell BK308.out 4).trans rfl
           have hfz72_0 := blk_frozen BK308.out 0
           have hfz72_1 := blk_frozen BK308.out 1
           have hfz72_2 := blk_frozen BK308.out 2
           have hfz72_3 := blk_frozen BK308.out 3
           have hfz72_4 := blk_frozen BK308.out 4
           go_wp2_with (first | (go_at_call 62; (with_reducible refine (reredosref08_part.calls kj22 a0_1 4 false _ A58.out).mono ?_); rintro e w73 ⟨rfl, hb⟩; have n0_ := am (bB (g := gb308) (o := .cells #[.int .i64 a0_0, .string a0_1, .string a0_2, .string a0_3, .slice A0_4 l0_4.length c0_4] 25 (0, 0)) (by (with_reducible repeat (first | refine bN ?_ _ | refine bD ?_ | refine bA ?_ _)); exact BK308.out) hb); have n1_ := am (below_step (by repeat (first | (with_reducible first | exact HB.out | apply lA | apply lN | apply lD | refine below_set ?_ GE308.out) | exact HB.out)) hb); clear BK308; clear HB; have BK308 := n0_; have HB := n1_; clear n0_ n1_; (try clear hb); (try clear hb2); (try clear hk); (try clear hi); have hcz74_0 : w73.cell? ⟨gb308, 0, none⟩ = some (.int .i64 a0_0) := (blk_cell BK308.out 0).trans rfl; have hcz74_1 : w73.cell? ⟨gb308, 1, none⟩ = some (.string a0_1) := (blk_cell BK308.out 1).trans rfl; have hcz74_2 : w73.cell? ⟨gb308, 2, none⟩ = some (.string a0_2) := (blk_cell BK308.out 2).trans rfl; have hcz74_3 : w73.cell? ⟨gb308, 3, none⟩ = some (.string a0_3) := (blk_cell BK308.out 3).trans rfl; have hcz74_4 : w73.cell? ⟨gb308, 4, none⟩ = some (.slice A0_4 l0_4.length c0_4) := (blk_cell BK308.out 4).trans rfl; have hfz74_0 := blk_frozen BK308.out 0; have hfz74_1 := blk_frozen BK308.out 1; have hfz74_2 := blk_frozen BK308.out 2; have hfz74_3 := blk_frozen BK308.out 3; have hfz74_4 := blk_frozen BK308.out 4) | (go_at_call 62; (with_reducible refine (reredosref08_part.calls kj22 a0_1 3 false _ A64.out).mono ?_); rintro e w75 ⟨rfl, hb⟩; have n0_ := am (bB (g := gb308) (o := .cells #[.int .i64 a0_0, .string a0_1, .string a0_2, .string a0_3, .slice A0_4 l0_4.length c0_4] 25 (0, 0)) (by (with_reducible repeat (first | refine bN ?_ _ | refine bD ?_ | refine bA ?_ _)); exact BK308.out) hb); have n1_ := am (below_step (by repeat (first | (with_reducible first | exact HB.out | apply lA | apply lN | apply lD | refine below_set ?_ GE308.out) | exact HB.out)) hb); clear BK308; clear HB; have BK308 := n0_; have HB := n1_; clear n0_ n1_; (try clear hb); (try clear hb2); (try clear hk); (try clear hi)))
           go_ret
           exact ⟨by first | rfl | (simp [errW_none, errW_some] <;> rfl) | (simp [*, errW_none, errW_some] <;> rfl), by repeat (first | (with_reducible first | exact HB.out | apply lA | apply lN | apply lD | refine below_set ?_ GE308.out) | exact HB.out)⟩
       ·rw [if_neg c54] at H
        have c54b0 : (a0_3.toList == ([] : List UInt8)) = false := beq_eq_false_iff_ne.mpr c54
        have c54b1 : (a0_3.toList != ([] : List UInt8)) = true := bne_iff_ne.mpr c54
        obtain rfl := Option.some.inj H
        have hcz76_0 : wc.cell? ⟨gb308, 0, none⟩ = some (.int .i64 a0_0) := (blk_cell BK308.out 0).trans rfl
        have hcz76_1 : wc.cell? ⟨gb308, 1, none⟩ = some (.string a0_1) := (blk_cell BK308.out 1).trans rfl
        have hcz76_2 : wc.cell? ⟨gb308, 2, none⟩ = some (.string a0_2) := (blk_cell BK308.out 2).trans rfl
        have hcz76_3 : wc.cell? ⟨gb308, 3, none⟩ = some (.string a0_3) := (blk_cell BK308.out 3).trans rfl
        have hcz76_4 : wc.cell? ⟨gb308, 4, none⟩ = some (.slice A0_4 l0_4.length c0_4) := (blk_cell BK308.out 4).trans rfl
        have hfz76_0 := blk_frozen BK308.out 0
        have hfz76_1 := blk_frozen BK308.out 1
        have hfz76_2 := blk_frozen BK308.out 2
        have hfz76_3 := blk_frozen BK308.out 3
        have hfz76_4 := blk_frozen BK308.out 4
        go_wp2
        go_ret
        exact ⟨by first | rfl | (simp [errW_none, errW_some] <;> rfl) | (simp [*, errW_none, errW_some] <;> rfl), by repeat (first | (with_reducible first | exact HB.out | apply lA | apply lN | apply lD | refine below_set ?_ GE308.out) | exact HB.out)⟩
     ·replace c29 := Bool.eq_false_iff.mpr c29
      subst c29
      have H1 : (if a0_1.toList = ([] : List UInt8) then (reredosref08_One.j2 kj22 (a0_2.toList != ([] : List UInt8)) a0_0 a0_1 a0_2 a0_3 l0_4) else (reredosref08_One.j2 kj22 true a0_0 a0_1 a0_2 a0_3 l0_4)) = some r := by rw [if_neg (show ¬ (false = true) by decide)] at H; exact H
      clear H
      have H := H1
      clear H1
      have HC77 := am H
      clear H
      go_upto_region 15 with (fail)
      go_cut [93] (fun v93 wc => ∃ (kq : Nat) (x93_76 : Bool), v93 = .bool x93_76 ∧ Aside0 (reredosref08_One.j2 kq x93_76 a0_0 a0_1 a0_2 a0_3 l0_4 = some r) ∧ Aside0 (kq ≤ kj22) ∧ Aside0 (wc.heap[gb308]? = some (.cells #[.int .i64 a0_0, .string a0_1, .string a0_2, .string a0_3, (.slice A0_4 l0_4.length c0_4)] 25 (0, 0))) ∧ Aside0 (Below w.heap.size w wc))
      case first =>
       have H := HC77.out
       clear HC77
       by_cases c78 : a0_1.toList = ([] : List UInt8)
       ·rw [if_pos c78] at H
        have c78b0 : (a0_1.toList == ([] : List UInt8)) = true := beq_iff_eq.mpr c78
        have c78b1 : (a0_1.toList != ([] : List UInt8)) = false := bne_eq_false_iff_eq.mpr c78
        clear c78
        (first | rw [c78b0] | (simp only [i64_w, i32_w]; rw [c78b0]) | skip)
        have H' := am H
        clear H
        have hcz79_0 : wc.cell? ⟨gb308, 0, none⟩ = some (.int .i64 a0_0) := (blk_cell BK308.out 0).trans rfl
        have hcz79_1 : wc.cell? ⟨gb308, 1, none⟩ = some (.string a0_1) := (blk_cell BK308.out 1).trans rfl
        have hcz79_2 : wc.cell? ⟨gb308, 2, none⟩ = some (.string a0_2) := (blk_cell BK308.out 2).trans rfl
        have hcz79_3 : wc.cell? ⟨gb308, 3, none⟩ = some (.string a0_3) := (blk_cell BK308.out 3).trans rfl
        have hcz79_4 : wc.cell? ⟨gb308, 4, none⟩ = some (.slice A0_4 l0_4.length c0_4) := (blk_cell BK308.out 4).trans rfl
        have hfz79_0 := blk_frozen BK308.out 0
        have hfz79_1 := blk_frozen BK308.out 1
        have hfz79_2 := blk_frozen BK308.out 2
        have hfz79_3 := blk_frozen BK308.out 3
        have hfz79_4 := blk_frozen BK308.out 4
        go_wp2
        go_meet
        case rel => exact ⟨_, ((a0_2.toList != ([] : List UInt8))), (by first | rfl | (simp; done) | (simp [*]; done) | (simp; rw [Bool.eq_iff_iff]; simp; done)), H', ⟨by have := HJ22.out; first | omega | exact Nat.le_refl _⟩, ⟨by (with_reducible repeat (first | refine bN ?_ _ | refine bD ?_ | refine bA ?_ _)); exact BK308.out⟩, ⟨by repeat (first | (with_reducible first | exact HB.out | apply lA | apply lN | apply lD | refine below_set ?_ GE308.out) | exact HB.out)⟩⟩
       ·rw [if_neg c78] at H
        have c78b0 : (a0_1.toList == ([] : List UInt8)) = false := beq_eq_false_iff_ne.mpr c78
        have c78b1 : (a0_1.toList != ([] : List UInt8)) = true := bne_iff_ne.mpr c78
        (first | rw [c78b0] | (simp only [i64_w, i32_w]; rw [c78b0]) | skip)
        have H' := am H
        clear H
        have hcz80_0 : wc.cell? ⟨gb308, 0, none⟩ = some (.int .i64 a0_0) := (blk_cell BK308.out 0).trans rfl
        have hcz80_1 : wc.cell? ⟨gb308, 1, none⟩ = some (.string a0_1) := (blk_cell BK308.out 1).trans rfl
        have hcz80_2 : wc.cell? ⟨gb308, 2, none⟩ = some (.string a0_2) := (blk_cell BK308.out 2).trans rfl
        have hcz80_3 : wc.cell? ⟨gb308, 3, none⟩ = some (.string a0_3) := (blk_cell BK308.out 3).trans rfl
        have hcz80_4 : wc.cell? ⟨gb308, 4, none⟩ = some (.slice A0_4 l0_4.length c0_4) := (blk_cell BK308.out 4).trans rfl
        have hfz80_0 := blk_frozen BK308.out 0
        have hfz80_1 := blk_frozen BK308.out 1
        have hfz80_2 := blk_frozen BK308.out 2
        have hfz80_3 := blk_frozen BK308.out 3
        have hfz80_4 := blk_frozen BK308.out 4
        go_wp2
        go_meet
        case rel => exact ⟨_, (true), (by first | rfl | (simp; done) | (simp [*]; done)), H', ⟨by have := HJ22.out; first | omega | exact Nat.le_refl _⟩, ⟨by (with_reducible repeat (first | refine bN ?_ _ | refine bD ?_ | refine bA ?_ _)); exact BK308.out⟩, ⟨by repeat (first | (with_reducible first | exact HB.out | apply lA | apply lN | apply lD | refine below_set ?_ GE308.out) | exact HB.out)⟩⟩
      case rest =>
       clear HC77
       try clear c1
       try clear c2
       try clear c2b0
       try clear c2b1
       try clear p2
       try clear c3
       try clear p3
       try clear q3
       try clear hx3
       try clear c4
       try clear c5
       try clear c5b0
       try clear c6
       try clear c6b0
       try clear p6
       try clear c7
       try clear c8
       try clear c11
       try clear c11b0
       try clear c11b1
       try clear c12
       try clear c12b0
       try clear c12b1
       try clear c13
       try clear c13b0
       try clear c13b1
       try clear c14
       try clear c14b0
       try clear c14b1
       try clear c20
       try clear c20b0
       try clear c20b1
       try clear c26
       try clear c26b0
       try clear c26b1
       try clear c29
       try clear c30
       try clear c30b0
       try clear c30b1
       try clear p30
       try clear q30
       try clear hx30
       try clear c31
       try clear c31b0
       try clear c31b1
       try clear c32
       try clear c32b0
       try clear c32b1
       try clear c36
       try clear c42
       try clear c44
       try clear c54
       try clear c54b0
       try clear c54b1
       try clear c55
       try clear c55b0
       try clear c55b1
       try clear c59
       try clear c65
       try clear c78
       try clear c78b0
       try clear c78b1
       try clear hcz10_0
       try clear hcz10_1
       try clear hcz10_2
       try clear hcz10_3
       try clear hcz10_4
       try clear hcz15_0
       try clear hcz15_1
       try clear hcz15_2
       try clear hcz15_3
       try clear hcz15_4
       try clear hcz16_0
       try clear hcz16_1
       try clear hcz16_2
       try clear hcz16_3
       try clear hcz16_4
       try clear hcz17_0
       try clear hcz17_1
       try clear hcz17_2
       try clear hcz17_3
       try clear hcz17_4
       try clear hcz18_0
       try clear hcz18_1
       try clear hcz18_2
       try clear hcz18_3
       try clear hcz18_4
       try clear hcz19_0
       try clear hcz19_1
       try clear hcz19_2
       try clear hcz19_3
       try clear hcz19_4
       try clear hcz22_0
       try clear hcz22_1
       try clear hcz22_2
       try clear hcz22_3
       try clear hcz22_4
       try clear hcz25_0
       try clear hcz25_1
       try clear hcz25_2
       try clear hcz25_3
       try clear hcz25_4
       try clear hcz27_0
       try clear hcz27_1
       try clear hcz27_2
       try clear hcz27_3
       try clear hcz27_4
       try clear hcz28_0
       try clear hcz28_1
       try clear hcz28_2
       try clear hcz28_3
       try clear hcz28_4
       try clear hcz34_0
       try clear hcz34_1
       try clear hcz34_2
       try clear hcz34_3
       try clear hcz34_4
       try clear hcz38_0
       try clear hcz38_1
       try clear hcz38_2
       try clear hcz38_3
       try clear hcz38_4
       try clear hcz40_0
       try clear hcz40_1
       try clear hcz40_2
       try clear hcz40_3
       try clear hcz40_4
       try clear hcz44_0
       try clear hcz44_1
       try clear hcz44_2
       try clear hcz44_3
       try clear hcz44_4
       try clear hcz46_0
       try clear hcz46_1
       try clear hcz46_2
       try clear hcz46_3
       try clear hcz46_4
       try clear hcz48_0
       try clear hcz48_1
       try clear hcz48_2
       try clear hcz48_3
       try clear hcz48_4
       try clear hcz49_0
       try clear hcz49_1
       try clear hcz49_2
       try clear hcz49_3
       try clear hcz49_4
       try clear hcz4_0
       try clear hcz4_1
       try clear hcz4_2
       try clear hcz4_3
       try clear hcz4_4
       try clear hcz51_0
       try clear hcz51_1
       try clear hcz51_2
       try clear hcz51_3
       try clear hcz51_4
       try clear hcz53_0
       try clear hcz53_1
       try clear hcz53_2
       try clear hcz53_3
       try clear hcz53_4
       try clear hcz57_0
       try clear hcz57_1
       try clear hcz57_2
       try clear hcz57_3
       try clear hcz57_4
       try clear hcz61_0
       try clear hcz61_1
       try clear hcz61_2
       try clear hcz61_3
       try clear hcz61_4
       try clear hcz63_0
       try clear hcz63_1
       try clear hcz63_2
       try clear hcz63_3
       try clear hcz63_4
       try clear hcz67_0
       try clear hcz67_1
       try clear hcz67_2
       try clear hcz67_3
       try clear hcz67_4
       try clear hcz69_0
       try clear hcz69_1
       try clear hcz69_2
       try clear hcz69_3
       try clear hcz69_4
       try clear hcz71_0
       try clear hcz71_1
       try clear hcz71_2
       try clear hcz71_3
       try clear hcz71_4
       try clear hcz72_0
       try clear hcz72_1
       try clear hcz72_2
       try clear hcz72_3
       try clear hcz72_4
       try clear hcz74_0
       try clear hcz74_1
       try clear hcz74_2
       try clear hcz74_3
       try clear hcz74_4
       try clear hcz76_0
       try clear hcz76_1
       try clear hcz76_2
       try clear hcz76_3
       try clear hcz76_4
       try clear hcz79_0
       try clear hcz79_1
       try clear hcz79_2
       try clear hcz79_3
       try clear hcz79_4
       try clear hcz80_0
       try clear hcz80_1
       try clear hcz80_2
       try clear hcz80_3
       try clear hcz80_4
       try clear hcz9_0
       try clear hcz9_1
       try clear hcz9_2
       try clear hcz9_3
       try clear hcz9_4
       try clear hfz10_0
       try clear hfz10_1
       try clear hfz10_2
       try clear hfz10_3
       try clear hfz10_4
       try clear hfz15_0
       try clear hfz15_1
       try clear hfz15_2
       try clear hfz15_3
       try clear hfz15_4
       try clear hfz16_0
       try clear hfz16_1
       try clear hfz16_2
       try clear hfz16_3
       try clear hfz16_4
       try clear hfz17_0
       try clear hfz17_1
       try clear hfz17_2
       try clear hfz17_3
       try clear hfz17_4
       try clear hfz18_0
       try clear hfz18_1
       try clear hfz18_2
       try clear hfz18_3
       try clear hfz18_4
       try clear hfz19_0
       try clear hfz19_1
       try clear hfz19_2
       try clear hfz19_3
       try clear hfz19_4
       try clear hfz22_0
       try clear hfz22_1
       try clear hfz22_2
       try clear hfz22_3
       try clear hfz22_4
       try clear hfz25_0
       try clear hfz25_1
       try clear hfz25_2
       try clear hfz25_3
       try clear hfz25_4
       try clear hfz27_0
       try clear hfz27_1
       try clear hfz27_2
       try clear hfz27_3
       try clear hfz27_4
       try clear hfz28_0
       try clear hfz28_1
       try clear hfz28_2
       try clear hfz28_3
       try clear hfz28_4
       try clear hfz34_0
       try clear hfz34_1
       try clear hfz34_2
       try clear hfz34_3
       try clear hfz34_4
       try clear hfz38_0
       try clear hfz38_1
       try clear hfz38_2
       try clear hfz38_3
       try clear hfz38_4
       try clear hfz40_0
       try clear hfz40_1
       try clear hfz40_2
       try clear hfz40_3
       try clear hfz40_4
       try clear hfz44_0
       try clear hfz44_1
       try clear hfz44_2
       try clear hfz44_3
       try clear hfz44_4
       try clear hfz46_0
       try clear hfz46_1
       try clear hfz46_2
       try clear hfz46_3
       try clear hfz46_4
       try clear hfz48_0
       try clear hfz48_1
       try clear hfz48_2
       try clear hfz48_3
       try clear hfz48_4
       try clear hfz49_0
       try clear hfz49_1
       try clear hfz49_2
       try clear hfz49_3
       try clear hfz49_4
       try clear hfz4_0
       try clear hfz4_1
       try clear hfz4_2
       try clear hfz4_3
       try clear hfz4_4
       try clear hfz51_0
       try clear hfz51_1
       try clear hfz51_2
       try clear hfz51_3
       try clear hfz51_4
       try clear hfz53_0
       try clear hfz53_1
       try clear hfz53_2
       try clear hfz53_3
       try clear hfz53_4
       try clear hfz57_0
       try clear hfz57_1
       try clear hfz57_2
       try clear hfz57_3
       try clear hfz57_4
       try clear hfz61_0
       try clear hfz61_1
       try clear hfz61_2
       try clear hfz61_3
       try clear hfz61_4
       try clear hfz63_0
       try clear hfz63_1
       try clear hfz63_2
       try clear hfz63_3
       try clear hfz63_4
       try clear hfz67_0
       try clear hfz67_1
       try clear hfz67_2
       try clear hfz67_3
       try clear hfz67_4
       try clear hfz69_0
       try clear hfz69_1
       try clear hfz69_2
       try clear hfz69_3
       try clear hfz69_4
       try clear hfz71_0
       try clear hfz71_1
       try clear hfz71_2
       try clear hfz71_3
       try clear hfz71_4
       try clear hfz72_0
       try clear hfz72_1
       try clear hfz72_2
       try clear hfz72_3
       try clear hfz72_4
       try clear hfz74_0
       try clear hfz74_1
       try clear hfz74_2
       try clear hfz74_3
       try clear hfz74_4
       try clear hfz76_0
       try clear hfz76_1
       try clear hfz76_2
       try clear hfz76_3
       try clear hfz76_4
       try clear hfz79_0
       try clear hfz79_1
       try clear hfz79_2
       try clear hfz79_3
       try clear hfz79_4
       try clear hfz80_0
       try clear hfz80_1
       try clear hfz80_2
       try clear hfz80_3
       try clear hfz80_4
       try clear hfz9_0
       try clear hfz9_1
       try clear hfz9_2
       try clear hfz9_3
       try clear hfz9_4
       try clear hx309_0
       try clear p2
       try clear p3
       try clear p309
       try clear p6
       try clear q3
       try clear q309
       obtain ⟨kq, x93_76, rfl, HA, HJ76, BK308, HB⟩ := hcut
       cases kq with
       | zero => exact absurd HA.out (by simp [reredosref08_One.j2])
       | succ kj76 =>
        have H := HA.out
        clear HA
        simp only [reredosref08_One.j2] at H
        by_cases c81 : x93_76 = true
        ·subst c81
         have H1 : (some false) = some r := by rw [if_pos rfl] at H; exact H
         clear H
         have H := H1
         clear H1
         obtain rfl := Option.some.inj H
         go_wp2
         go_ret
         exact ⟨by first | rfl | (simp [errW_none, errW_some] <;> rfl) | (simp [*, errW_none, errW_some] <;> rfl), by repeat (first | (with_reducible first | exact HB.out | apply lA | apply lN | apply lD | refine below_set ?_ GE308.out) | exact HB.out)⟩
        ·replace c81 := Bool.eq_false_iff.mpr c81
         subst c81
         have H1 : (if a0_0 = 2 then (reredosref08_One.j3 kj76 a0_0 (a0_0 == 2) a0_0 a0_1 a0_2 a0_3 l0_4) else (if a0_0 = 5 then (reredosref08_One.j3 kj76 a0_0 (a0_0 == 5) a0_0 a0_1 a0_2 a0_3 l0_4) else (reredosref08_One.j3 kj76 a0_0 (a0_0 == 6) a0_0 a0_1 a0_2 a0_3 l0_4))) = some r := by rw [if_neg (show ¬ (false = true) by decide)] at H; exact H
         clear H
         have H := H1
         clear H1
         have HC82 := am H
         clear H
         have hcz83_0 : wc.cell? ⟨gb308, 0, none⟩ = some (.int .i64 a0_0) := (blk_cell BK308.out 0).trans rfl
         have hcz83_1 : wc.cell? ⟨gb308, 1, none⟩ = some (.string a0_1) := (blk_cell BK308.out 1).trans rfl
         have hcz83_2 : wc.cell? ⟨gb308, 2, none⟩ = some (.string a0_2) := (blk_cell BK308.out 2).trans rfl
         have hcz83_3 : wc.cell? ⟨gb308, 3, none⟩ = some (.string a0_3) := (blk_cell BK308.out 3).trans rfl
         have hcz83_4 : wc.cell? ⟨gb308, 4, none⟩ = some (.slice A0_4 l0_4.length c0_4) := (blk_cell BK308.out 4).trans rfl
         have hfz83_0 := blk_frozen BK308.out 0
         have hfz83_1 := blk_frozen BK308.out 1
         have hfz83_2 := blk_frozen BK308.out 2
         have hfz83_3 := blk_frozen BK308.out 3
         have hfz83_4 := blk_frozen BK308.out 4
         go_upto_if 96 with (fail)
         go_cut [96] (fun v96 wc => ∃ (kq : Nat) (x96_81 : Bool), v96 = .bool x96_81 ∧ Aside0 (reredosref08_One.j3 kq a0_0 x96_81 a0_0 a0_1 a0_2 a0_3 l0_4 = some r) ∧ Aside0 (kq ≤ kj76) ∧ Aside0 (wc.heap[gb308]? = some (.cells #[.int .i64 a0_0, .string a0_1, .string a0_2, .string a0_3, (.slice A0_4 l0_4.length c0_4)] 25 (0, 0))) ∧ Aside0 (Below w.heap.size w wc))
         case first =>
          have H := HC82.out
          clear HC82
          by_cases c84 : a0_0 = 2
          ·rw [if_pos c84] at H
           have c84b0 : (a0_0 == 2) = true := beq_iff_eq.mpr c84
           have c84b1 : (a0_0 != 2) = false := bne_eq_false_iff_eq.mpr c84
           clear c84
           (first | rw [c84b0] | (simp only [i64_w, i32_w]; rw [c84b0]) | skip)
           have H' := am H
           clear H
           go_wp2
           go_meet
           case rel => exact ⟨_, ((a0_0 == 2)), (by first | rfl | (simp; done) | (simp [*]; done)), H', ⟨by have := HJ22.out; have := HJ76.out; first | omega | exact Nat.le_refl _⟩, ⟨by (with_reducible repeat (first | refine bN ?_ _ | refine bD ?_ | refine bA ?_ _)); exact BK308.out⟩, ⟨by repeat (first | (with_reducible first | exact HB.out | apply lA | apply lN | apply lD | refine below_set ?_ GE308.out) | exact HB.out)⟩⟩
          ·rw [if_neg c84] at H
           have c84b0 : (a0_0 == 2) = false := beq_eq_false_iff_ne.mpr c84
           have c84b1 : (a0_0 != 2) = true := bne_iff_ne.mpr c84
           (first | rw [c84b0] | (simp only [i64_w, i32_w]; rw [c84b0]) | skip)
           by_cases c85 : a0_0 = 5
           ·rw [if_pos c85] at H
            have c85b0 : (a0_0 == 5) = true := beq_iff_eq.mpr c85
            have c85b1 : (a0_0 != 5) = false := bne_eq_false_iff_eq.mpr c85
            clear c85
            have H' := am H
            clear H
            go_wp2
            go_meet
            case rel => exact ⟨_, ((a0_0 == 5)), (by first | rfl | (simp; done) | (simp [*]; done)), H', ⟨by have := HJ22.out; have := HJ76.out; first | omega | exact Nat.le_refl _⟩, ⟨by (with_reducible repeat (first | refine bN ?_ _ | refine bD ?_ | refine bA ?_ _)); exact BK308.out⟩, ⟨by repeat (first | (with_reducible first | exact HB.out | apply lA | apply lN | apply lD | refine below_set ?_ GE308.out) | exact HB.out)⟩⟩
           ·rw [if_neg c85] at H
            have c85b0 : (a0_0 == 5) = false := beq_eq_false_iff_ne.mpr c85
            have c85b1 : (a0_0 != 5) = true := bne_iff_ne.mpr c85
            have H' := am H
            clear H
            go_wp2
            go_meet
            case rel => exact ⟨_, ((a0_0 == 6)), (by first | rfl | (simp; done) | (simp [*]; done)), H', ⟨by have := HJ22.out; have := HJ76.out; first | omega | exact Nat.le_refl _⟩, ⟨by (with_reducible repeat (first | refine bN ?_ _ | refine bD ?_ | refine bA ?_ _)); exact BK308.out⟩, ⟨by repeat (first | (with_reducible first | exact HB.out | apply lA | apply lN | apply lD | refine below_set ?_ GE308.out) | exact HB.out)⟩⟩
         case rest =>
          clear HC82
          try clear c1
          try clear c2
          try clear c2b0
          try clear c2b1
          try clear p2
          try clear c3
          try clear p3
          try clear q3
          try clear hx3
          try clear c4
          try clear c5
          try clear c5b0
          try clear c6
          try clear c6b0
          try clear p6
          try clear c7
          try clear c8
          try clear c11
          try clear c11b0
          try clear c11b1
          try clear c12
          try clear c12b0
          try clear c12b1
          try clear c13
          try clear c13b0
          try clear c13b1
          try clear c14
          try clear c14b0
          try clear c14b1
          try clear c20
          try clear c20b0
          try clear c20b1
          try clear c26
          try clear c26b0
          try clear c26b1
          try clear c29
          try clear c30
          try clear c30b0
          try clear c30b1
          try clear p30
          try clear q30
          try clear hx30
          try clear c31
          try clear c31b0
          try clear c31b1
          try clear c32
          try clear c32b0
          try clear c32b1
          try clear c36
          try clear c42
          try clear c44
          try clear c54
          try clear c54b0
          try clear c54b1
          try clear c55
          try clear c55b0
          try clear c55b1
          try clear c59
          try clear c65
          try clear c78
          try clear c78b0
          try clear c78b1
          try clear c81
          try clear c84
          try clear c84b0
          try clear c84b1
          try clear c85
          try clear c85b0
          try clear c85b1
          try clear hcz10_0
          try clear hcz10_1
          try clear hcz10_2
          try clear hcz10_3
          try clear hcz10_4
          try clear hcz15_0
          try clear hcz15_1
          try clear hcz15_2
          try clear hcz15_3
          try clear hcz15_4
          try clear hcz16_0
          try clear hcz16_1
          try clear hcz16_2
          try clear hcz16_3
          try clear hcz16_4
          try clear hcz17_0
          try clear hcz17_1
          try clear hcz17_2
          try clear hcz17_3
          try clear hcz17_4
          try clear hcz18_0
          try clear hcz18_1
          try clear hcz18_2
          try clear hcz18_3
          try clear hcz18_4
          try clear hcz19_0
          try clear hcz19_1
          try clear hcz19_2
          try clear hcz19_3
          try clear hcz19_4
          try clear hcz22_0
          try clear hcz22_1
          try clear hcz22_2
          try clear hcz22_3
          try clear hcz22_4
          try clear hcz25_0
          try clear hcz25_1
          try clear hcz25_2
          try clear hcz25_3
          try clear hcz25_4
          try clear hcz27_0
          try clear hcz27_1
          try clear hcz27_2
          try clear hcz27_3
          try clear hcz27_4
          try clear hcz28_0
          try clear hcz28_1
          try clear hcz28_2
          try clear hcz28_3
          try clear hcz28_4
          try clear hcz34_0
          try clear hcz34_1
          try clear hcz34_2
          try clear hcz34_3
          try clear hcz34_4
          try clear hcz38_0
          try clear hcz38_1
          try clear hcz38_2
          try clear hcz38_3
          try clear hcz38_4
          try clear hcz40_0
          try clear hcz40_1
          try clear hcz40_2
          try clear hcz40_3
          try clear hcz40_4
          try clear hcz44_0
          try clear hcz44_1
          try clear hcz44_2
          try clear hcz44_3
          try clear hcz44_4
          try clear hcz46_0
          try clear hcz46_1
          try clear hcz46_2
          try clear hcz46_3
          try clear hcz46_4
          try clear hcz48_0
          try clear hcz48_1
          try clear hcz48_2
          try clear hcz48_3
          try clear hcz48_4
          try clear hcz49_0
          try clear hcz49_1
          try clear hcz49_2
          try clear hcz49_3
          try clear hcz49_4
          try clear hcz4_0
          try clear hcz4_1
          try clear hcz4_2
          try clear hcz4_3
          try clear hcz4_4
          try clear hcz51_0
          try clear hcz51_1
          try clear hcz51_2
          try clear hcz51_3
          try clear hcz51_4
          try clear hcz53_0
          try clear hcz53_1
          try clear hcz53_2
          try clear hcz53_3
          try clear hcz53_4
          try clear hcz57_0
          try clear hcz57_1
          try clear hcz57_2
          try clear hcz57_3
          try clear hcz57_4
          try clear hcz61_0
          try clear hcz61_1
          try clear hcz61_2
          try clear hcz61_3
          try clear hcz61_4
          try clear hcz63_0
          try clear hcz63_1
          try clear hcz63_2
          try clear hcz63_3
          try clear hcz63_4
          try clear hcz67_0
          try clear hcz67_1
          try clear hcz67_2
          try clear hcz67_3
          try clear hcz67_4
          try clear hcz69_0
          try clear hcz69_1
          try clear hcz69_2
          try clear hcz69_3
          try clear hcz69_4
          try clear hcz71_0
          try clear hcz71_1
          try clear hcz71_2
          try clear hcz71_3
          try clear hcz71_4
          try clear hcz72_0
          try clear hcz72_1
          try clear hcz72_2
          try clear hcz72_3
          try clear hcz72_4
          try clear hcz74_0
          try clear hcz74_1
          try clear hcz74_2
          try clear hcz74_3
          try clear hcz74_4
          try clear hcz76_0
          try clear hcz76_1
          try clear hcz76_2
          try clear hcz76_3
          try clear hcz76_4
          try clear hcz79_0
          try clear hcz79_1
          try clear hcz79_2
          try clear hcz79_3
          try clear hcz79_4
          try clear hcz80_0
          try clear hcz80_1
          try clear hcz80_2
          try clear hcz80_3
          try clear hcz80_4
          try clear hcz83_0
          try clear hcz83_1
          try clear hcz83_2
          try clear hcz83_3
          try clear hcz83_4
          try clear hcz9_0
          try clear hcz9_1
          try clear hcz9_2
          try clear hcz9_3
          try clear hcz9_4
          try clear hfz10_0
          try clear hfz10_1
          try clear hfz10_2
          try clear hfz10_3
          try clear hfz10_4
          try clear hfz15_0
          try clear hfz15_1
          try clear hfz15_2
          try clear hfz15_3
          try clear hfz15_4
          try clear hfz16_0
          try clear hfz16_1
          try clear hfz16_2
          try clear hfz16_3
          try clear hfz16_4
          try clear hfz17_0
          try clear hfz17_1
          try clear hfz17_2
          try clear hfz17_3
          try clear hfz17_4
          try clear hfz18_0
          try clear hfz18_1
          try clear hfz18_2
          try clear hfz18_3
          try clear hfz18_4
          try clear hfz19_0
          try clear hfz19_1
          try clear hfz19_2
          try clear hfz19_3
          try clear hfz19_4
          try clear hfz22_0
          try clear hfz22_1
          try clear hfz22_2
          try clear hfz22_3
          try clear hfz22_4
          try clear hfz25_0
          try clear hfz25_1
          try clear hfz25_2
          try clear hfz25_3
          try clear hfz25_4
          try clear hfz27_0
          try clear hfz27_1
          try clear hfz27_2
          try clear hfz27_3
          try clear hfz27_4
          try clear hfz28_0
          try clear hfz28_1
          try clear hfz28_2
          try clear hfz28_3
          try clear hfz28_4
          try clear hfz34_0
          try clear hfz34_1
          try clear hfz34_2
          try clear hfz34_3
          try clear hfz34_4
          try clear hfz38_0
          try clear hfz38_1
          try clear hfz38_2
          try clear hfz38_3
          try clear hfz38_4
          try clear hfz40_0
          try clear hfz40_1
          try clear hfz40_2
          try clear hfz40_3
          try clear hfz40_4
          try clear hfz44_0
          try clear hfz44_1
          try clear hfz44_2
          try clear hfz44_3
          try clear hfz44_4
          try clear hfz46_0
          try clear hfz46_1
          try clear hfz46_2
          try clear hfz46_3
          try clear hfz46_4
          try clear hfz48_0
          try clear hfz48_1
          try clear hfz48_2
          try clear hfz48_3
          try clear hfz48_4
          try clear hfz49_0
          try clear hfz49_1
          try clear hfz49_2
          try clear hfz49_3
          try clear hfz49_4
          try clear hfz4_0
          try clear hfz4_1
          try clear hfz4_2
          try clear hfz4_3
          try clear hfz4_4
          try clear hfz51_0
          try clear hfz51_1
          try clear hfz51_2
          try clear hfz51_3
          try clear hfz51_4
          try clear hfz53_0
          try clear hfz53_1
          try clear hfz53_2
          try clear hfz53_3
          try clear hfz53_4
          try clear hfz57_0
          try clear hfz57_1
          try clear hfz57_2
          try clear hfz57_3
          try clear hfz57_4
          try clear hfz61_0
          try clear hfz61_1
          try clear hfz61_2
          try clear hfz61_3
          try clear hfz61_4
          try clear hfz63_0
          try clear hfz63_1
          try clear hfz63_2
          try clear hfz63_3
          try clear hfz63_4
          try clear hfz67_0
          try clear hfz67_1
          try clear hfz67_2
          try clear hfz67_3
          try clear hfz67_4
          try clear hfz69_0
          try clear hfz69_1
          try clear hfz69_2
          try clear hfz69_3
          try clear hfz69_4
          try clear hfz71_0
          try clear hfz71_1
          try clear hfz71_2
          try clear hfz71_3
          try clear hfz71_4
          try clear hfz72_0
          try clear hfz72_1
          try clear hfz72_2
          try clear hfz72_3
          try clear hfz72_4
          try clear hfz74_0
          try clear hfz74_1
          try clear hfz74_2
          try clear hfz74_3
          try clear hfz74_4
          try clear hfz76_0
          try clear hfz76_1
          try clear hfz76_2
          try clear hfz76_3
          try clear hfz76_4
          try clear hfz79_0
          try clear hfz79_1
          try clear hfz79_2
          try clear hfz79_3
          try clear hfz79_4
          try clear hfz80_0
          try clear hfz80_1
          try clear hfz80_2
          try clear hfz80_3
          try clear hfz80_4
          try clear hfz83_0
          try clear hfz83_1
          try clear hfz83_2
          try clear hfz83_3
          try clear hfz83_4
          try clear hfz9_0
          try clear hfz9_1
          try clear hfz9_2
          try clear hfz9_3
          try clear hfz9_4
          try clear hx309_0
          try clear p2
          try clear p3
          try clear p30
          try clear p309
          try clear p6
          try clear q3
          try clear q30
          try clear q309
          obtain ⟨kq, x96_81, rfl, HA, HJ81, BK308, HB⟩ := hcut
          cases kq with
          | zero => exact absurd HA.out (by simp [reredosref08_One.j3])
          | succ kj81 =>
           have H := HA.out
           clear HA
           simp only [reredosref08_One.j3] at H
           by_cases c86 : x96_81 = true
           ·subst c86
            have H1 : ((reredosref08_part.f kj81 a0_3 2).bind fun t321 => (some t321)) = some r := by rw [if_pos rfl] at H; exact H
            clear H
            have H := H1
            clear H1
            replace H := Option.bind_eq_some_iff.mp H
            obtain ⟨t321, A870, H⟩ := H
            replace H : (some t321) = some r := H
            have A87 := am A870
            clear A870
            obtain rfl := Option.some.inj H
            have hcz88_0 : wc.cell? ⟨gb308, 0, none⟩ = some (.int .i64 a0_0) := (blk_cell BK308.out 0).trans rfl
            have hcz88_1 : wc.cell? ⟨gb308, 1, none⟩ = some (.string a0_1) := (blk_cell BK308.out 1).trans rfl
            have hcz88_2 : wc.cell? ⟨gb308, 2, none⟩ = some (.string a0_2) := (blk_cell BK308.out 2).trans rfl
            have hcz88_3 : wc.cell? ⟨gb308, 3, none⟩ = some (.string a0_3) := (blk_cell BK308.out 3).trans rfl
            have hcz88_4 : wc.cell? ⟨gb308, 4, none⟩ = some (.slice A0_4 l0_4.length c0_4) := (blk_cell BK308.out 4).trans rfl
            have hfz88_0 := blk_frozen BK308.out 0
            have hfz88_1 := blk_frozen BK308.out 1
            have hfz88_2 := blk_frozen BK308.out 2
            have hfz88_3 := blk_frozen BK308.out 3
            have hfz88_4 := blk_frozen BK308.out 4
            go_wp2_with (first | ((with_reducible refine gate_callee (f := 62) rfl ?_); refine goesL_ (some 102) rfl rfl Try.func62 (by kernel_rfl) rfl #[.string a0_3, .int .i64 2] rfl (by (try simp only [List.map_toArray, List.map_cons, List.map_nil]); first | done | rfl | (simp only [List.length_drop, List.length_take]; rfl)) ?_; (with_reducible refine (reredosref08_part.calls kj81 a0_3 2 t321 _ A87.out).mono ?_); rintro e w89 ⟨rfl, hb⟩; refine ⟨_, rfl, ?_⟩; have n0_ := am (bB (g := gb308) (o := .cells #[.int .i64 a0_0, .string a0_1, .string a0_2, .string a0_3, .slice A0_4 l0_4.length c0_4] 25 (0, 0)) (by (with_reducible repeat (first | refine bN ?_ _ | refine bD ?_ | refine bA ?_ _)); exact BK308.out) hb); have n1_ := am (below_step (by repeat (first | (with_reducible first | exact HB.out | apply lA | apply lN | apply lD | refine below_set ?_ GE308.out) | exact HB.out)) hb); clear BK308; clear HB; have BK308 := n0_; have HB := n1_; clear n0_ n1_; (try clear hb); (try clear hb2); (try clear hk); (try clear hi)))
            go_ret
            exact ⟨by first | rfl | (simp [errW_none, errW_some] <;> rfl) | (simp [*, errW_none, errW_some] <;> rfl), by repeat (first | (with_reducible first | exact HB.out | apply lA | apply lN | apply lD | refine below_set ?_ GE308.out) | exact HB.out)⟩
           ·replace c86 := Bool.eq_false_iff.mpr c86
            subst c86
            have H1 : (if a0_0 = 7 then ((reredosref08_part.f kj81 a0_3 3).bind fun t322 => (some t322)) else (if a0_0 = 8 then (some (a0_3.toList == ([] : List UInt8))) else (some false))) = some r := by rw [if_neg (show ¬ (false = true) by decide)] at H; exact H
            clear H
            have H := H1
            clear H1
            by_cases c90 : a0_0 = 7
            ·rw [if_pos c90] at H
             have c90b0 : (a0_0 == 7) = true := beq_iff_eq.mpr c90
             have c90b1 : (a0_0 != 7) = false := bne_eq_false_iff_eq.mpr c90
             clear c90
             replace H := Option.bind_eq_some_iff.mp H
             obtain ⟨t322, A910, H⟩ := H
             replace H : (some t322) = some r := H
             have A91 := am A910
             clear A910
             obtain rfl := Option.some.inj H
             have hcz92_0 : wc.cell? ⟨gb308, 0, none⟩ = some (.int .i64 a0_0) := (blk_cell BK308.out 0).trans rfl
             have hcz92_1 : wc.cell? ⟨gb308, 1, none⟩ = some (.string a0_1) := (blk_cell BK308.out 1).trans rfl
             have hcz92_2 : wc.cell? ⟨gb308, 2, none⟩ = some (.string a0_2) := (blk_cell BK308.out 2).trans rfl
             have hcz92_3 : wc.cell? ⟨gb308, 3, none⟩ = some (.string a0_3) := (blk_cell BK308.out 3).trans rfl
             have hcz92_4 : wc.cell? ⟨gb308, 4, none⟩ = some (.slice A0_4 l0_4.length c0_4) := (blk_cell BK308.out 4).trans rfl
             have hfz92_0 := blk_frozen BK308.out 0
             have hfz92_1 := blk_frozen BK308.out 1
             have hfz92_2 := blk_frozen BK308.out 2
             have hfz92_3 := blk_frozen BK308.out 3
             have hfz92_4 := blk_frozen BK308.out 4
             go_wp2_with (first | ((with_reducible refine gate_callee (f := 62) rfl ?_); refine goesL_ (some 107) rfl rfl Try.func62 (by kernel_rfl) rfl #[.string a0_3, .int .i64 3] rfl (by (try simp only [List.map_toArray, List.map_cons, List.map_nil]); first | done | rfl | (simp only [List.length_drop, List.length_take]; rfl)) ?_; (with_reducible refine (reredosref08_part.calls kj81 a0_3 3 t322 _ A91.out).mono ?_); rintro e w93 ⟨rfl, hb⟩; refine ⟨_, rfl, ?_⟩; have n0_ := am (bB (g := gb308) (o := .cells #[.int .i64 a0_0, .string a0_1, .string a0_2, .string a0_3, .slice A0_4 l0_4.length c0_4] 25 (0, 0)) (by (with_reducible repeat (first | refine bN ?_ _ | refine bD ?_ | refine bA ?_ _)); exact BK308.out) hb); have n1_ := am (below_step (by repeat (first | (with_reducible first | exact HB.out | apply lA | apply lN | apply lD | refine below_set ?_ GE308.out) | exact HB.out)) hb); clear BK308; clear HB; have BK308 := n0_; have HB := n1_; clear n0_ n1_; (try clear hb); (try clear hb2); (try clear hk); (try clear hi)))
             go_ret
             exact ⟨by first | rfl | (simp [errW_none, errW_some] <;> rfl) | (simp [*, errW_none, errW_some] <;> rfl), by repeat (first | (with_reducible first | exact HB.out | apply lA | apply lN | apply lD | refine below_set ?_ GE308.out) | exact HB.out)⟩
            ·rw [if_neg c90] at H
             have c90b0 : (a0_0 == 7) = false := beq_eq_false_iff_ne.mpr c90
             have c90b1 : (a0_0 != 7) = true := bne_iff_ne.mpr c90
             by_cases c94 : a0_0 = 8
             ·rw [if_pos c94] at H
              have c94b0 : (a0_0 == 8) = true := beq_iff_eq.mpr c94
              have c94b1 : (a0_0 != 8) = false := bne_eq_false_iff_eq.mpr c94
              clear c94
              obtain rfl := Option.some.inj H
              have hcz95_0 : wc.cell? ⟨gb308, 0, none⟩ = some (.int .i64 a0_0) := (blk_cell BK308.out 0).trans rfl
              have hcz95_1 : wc.cell? ⟨gb308, 1, none⟩ = some (.string a0_1) := (blk_cell BK308.out 1).trans rfl
              have hcz95_2 : wc.cell? ⟨gb308, 2, none⟩ = some (.string a0_2) := (blk_cell BK308.out 2).trans rfl
              have hcz95_3 : wc.cell? ⟨gb308, 3, none⟩ = some (.string a0_3) := (blk_cell BK308.out 3).trans rfl
              have hcz95_4 : wc.cell? ⟨gb308, 4, none⟩ = some (.slice A0_4 l0_4.length c0_4) := (blk_cell BK308.out 4).trans rfl
              have hfz95_0 := blk_frozen BK308.out 0
              have hfz95_1 := blk_frozen BK308.out 1
              have hfz95_2 := blk_frozen BK308.out 2
              have hfz95_3 := blk_frozen BK308.out 3
              have hfz95_4 := blk_frozen BK308.out 4
              go_wp2
              go_ret
              exact ⟨by first | rfl | (simp [errW_none, errW_some] <;> rfl) | (simp [*, errW_none, errW_some] <;> rfl), by repeat (first | (with_reducible first | exact HB.out | apply lA | apply lN | apply lD | refine below_set ?_ GE308.out) | exact HB.out)⟩
             ·rw [if_neg c94] at H
              have c94b0 : (a0_0 == 8) = false := beq_eq_false_iff_ne.mpr c94
              have c94b1 : (a0_0 != 8) = true := bne_iff_ne.mpr c94
              obtain rfl := Option.some.inj H
              go_wp2
              go_ret
              exact ⟨by first | rfl | (simp [errW_none, errW_some] <;> rfl) | (simp [*, errW_none, errW_some] <;> rfl), by repeat (first | (with_reducible first | exact HB.out | apply lA | apply lN | apply lD | refine below_set ?_ GE308.out) | exact HB.out)⟩
end Go.Proofs.Ytdelccahgchadaa.P
end
section
namespace Go.Proofs.Ytdelccahgchadaa.P
open Go.RowKit Go.Proofs.YtdelccahgchadaaW.PrintWords Go.Proofs.YtdelccahgchadaaW.PrintLast Go.Proofs.YtdelccahgchadaaW.PrintMore
attribute [local go_sem] max2_int min2_int max_two min_two max_three min_three max_four min_four   
set_option linter.unusedVariables false
set_option linter.unusedSimpArgs false
mutual
def reredosref08_May.j0 : Nat → List (S25) → Bool → Option (Bool)
 | 0, _, _ => none
 | k + 1, x0, x23 => if x23 = true then (some false) else (reredosref08_May.l0 k x0 0)
def reredosref08_May.l0 : Nat → List (S25) → Int → Option (Bool)
 | 0, _, _ => none
 | k + 1, x0, x5 => if x5 < (x0.length : Int) then (if 0 ≤ x5 then ((reredosref08_One.f k ((rd_T25 x0 x5).f0) ((rd_T25 x0 x5).f1) ((rd_T25 x0 x5).f2) ((rd_T25 x0 x5).f3) ((rd_T25 x0 x5).f4)).bind fun t327 => (if t327 = true then (if x5 > 0 then (if ((rd_T25 x0 x5).f0) ≥ 5 then (if ((rd_T25 x0 x5).f0) ≤ 7 then (some false) else (reredosref08_May.l0 k x0 (wrap64 (x5 + 1)))) else (reredosref08_May.l0 k x0 (wrap64 (x5 + 1)))) else (reredosref08_May.l0 k x0 (wrap64 (x5 + 1)))) else (some false))) else (none)) else (some true)
end
def reredosref08_May.f (k : Nat) (l0 : List (S25)) : Option (Bool) := (reredosref08_End.f k l0 0).bind fun bt323 => (if bt323.2 = true then (if bt323.1 = (l0.length : Int) then ((reredosref08_deep.f k l0 0).bind fun t325 => (reredosref08_May.j0 k l0 (decide (t325 > 40)))) else (reredosref08_May.j0 k l0 true)) else (reredosref08_May.j0 k l0 true))
theorem reredosref08_May.mono_l : ∀ k, (∀ y0 y1, LeO (reredosref08_May.j0 k y0 y1) (reredosref08_May.j0 (k + 1) y0 y1)) ∧ (∀ y0 y1, LeO (reredosref08_May.l0 k y0 y1) (reredosref08_May.l0 (k + 1) y0 y1))
 | 0 => ⟨fun _ _ r h => by simp [reredosref08_May.j0] at h, fun _ _ r h => by simp [reredosref08_May.l0] at h⟩
 | k + 1 => by
  obtain ⟨ih0, ih1⟩ := reredosref08_May.mono_l k
  refine ⟨?_, ?_⟩
  ·intro y0 y1
   unfold reredosref08_May.j0
   repeat' first
   | (with_reducible exact ih0 _ _)
   | (with_reducible exact ih1 _ _)
   | (with_reducible exact reredosref08_End.mono _ _ _)
   | (with_reducible exact reredosref08_One.mono _ _ _ _ _ _)
   | (with_reducible exact reredosref08_deep.mono _ _ _)
   | (with_reducible exact LeO.refl _)
   | (with_reducible exact LeO.none _)
   | (with_reducible refine LeO.ite ?_ ?_)
   | (with_reducible refine LeO.bind ?_ (fun _ => ?_))
   | exact ih0 _ _
   | exact ih1 _ _
   | exact reredosref08_End.mono _ _ _
   | exact reredosref08_One.mono _ _ _ _ _ _
   | exact reredosref08_deep.mono _ _ _
   | exact LeO.none _
   | refine LeO.ite ?_ ?_
   | refine LeO.bind ?_ (fun _ => ?_)
  ·intro y0 y1
   unfold reredosref08_May.l0
   repeat' first
   | (with_reducible exact ih0 _ _)
   | (with_reducible exact ih1 _ _)
   | (with_reducible exact reredosref08_End.mono _ _ _)
   | (with_reducible exact reredosref08_One.mono _ _ _ _ _ _)
   | (with_reducible exact reredosref08_deep.mono _ _ _)
   | (with_reducible exact LeO.refl _)
   | (with_reducible exact LeO.none _)
   | (with_reducible refine LeO.ite ?_ ?_)
   | (with_reducible refine LeO.bind ?_ (fun _ => ?_))
   | exact ih0 _ _
   | exact ih1 _ _
   | exact reredosref08_End.mono _ _ _
   | exact reredosref08_One.mono _ _ _ _ _ _
   | exact reredosref08_deep.mono _ _ _
   | exact LeO.none _
   | refine LeO.ite ?_ ?_
   | refine LeO.bind ?_ (fun _ => ?_)
theorem reredosref08_May.mono : ∀ a0 k, LeO (reredosref08_May.f k a0) (reredosref08_May.f (k + 1) a0) := by
 intro a0 k
 obtain ⟨ih0, ih1⟩ := reredosref08_May.mono_l k
 unfold reredosref08_May.f
 repeat' first
   | (with_reducible exact ih0 _ _)
   | (with_reducible exact ih1 _ _)
   | (with_reducible exact reredosref08_End.mono _ _ _)
   | (with_reducible exact reredosref08_One.mono _ _ _ _ _ _)
   | (with_reducible exact reredosref08_deep.mono _ _ _)
   | (with_reducible exact LeO.refl _)
   | (with_reducible exact LeO.none _)
   | (with_reducible refine LeO.ite ?_ ?_)
   | (with_reducible refine LeO.bind ?_ (fun _ => ?_))
   | exact ih0 _ _
   | exact ih1 _ _
   | exact reredosref08_End.mono _ _ _
   | exact reredosref08_One.mono _ _ _ _ _ _
   | exact reredosref08_deep.mono _ _ _
   | exact LeO.none _
   | refine LeO.ite ?_ ?_
   | refine LeO.bind ?_ (fun _ => ?_)
set_option maxHeartbeats 8000000 in
set_option maxRecDepth 100000 in
theorem reredosref08_May.calls (k : Nat) (A0 : Option Addr) (c0 : Nat) (l0 : List (S25)) (r : Bool) (w : World) (hr0 : Kd.C k25 w A0 l0.length l0) (hc0 : l0.length ≤ c0) (h : reredosref08_May.f k l0 = some r) :
  Calls Try.prog 29 #[.slice A0 l0.length c0] w fun e w' => e = .returned (.bool r) ∧ Below w.heap.size w w' := by
 have hu25 := Try.underlying25
 have HR0 := am hr0
 have HC0 := am hc0
 clear hr0 hc0
 have HB := am (Below.refl w.heap.size w)
 have H : ((reredosref08_End.f k l0 0).bind fun bt323 => (if bt323.2 = true then (if bt323.1 = (l0.length : Int) then ((reredosref08_deep.f k l0 0).bind fun t325 => (reredosref08_May.j0 k l0 (decide (t325 > 40)))) else (reredosref08_May.j0 k l0 true)) else (reredosref08_May.j0 k l0 true))) = some r := h
 clear h
 replace H := Option.bind_eq_some_iff.mp H
 obtain ⟨⟨t323, t324⟩, A20, H⟩ := H
 replace H : (if t324 = true then (if t323 = (l0.length : Int) then ((reredosref08_deep.f k l0 0).bind fun t325 => (reredosref08_May.j0 k l0 (decide (t325 > 40)))) else (reredosref08_May.j0 k l0 true)) else (reredosref08_May.j0 k l0 true)) = some r := H
 have A2 := am A20
 clear A20
 have HC3 := am H
 clear H
 go_enter Try.func29, Try.ntmps29
 go_upto_region 2 with (first | ((with_reducible refine gate_callee (f := 20) rfl ?_); refine goesL_ (some 8) rfl rfl Try.func20 (by kernel_rfl) rfl #[.slice A0 l0.length c0, .int .i64 0] rfl (by (try simp only [List.map_toArray, List.map_cons, List.map_nil]); first | done | rfl | (simp only [List.length_drop, List.length_take]; rfl)) ?_; (with_reducible refine (reredosref08_End.calls k _ _ l0 0 t323 t324 _ ?side1 ?side2 A2.out).mono ?_); (case side1 => repeat (first | exact HR0.out | (with_reducible refine Kd.C_alloc ?_ _) | (with_reducible refine Kd.C_drewN ?_ _) | (with_reducible refine Kd.C_drew ?_))); (case side2 => exact HC0.out); rintro e w4 ⟨rfl, hb⟩; refine ⟨_, rfl, ?_⟩; have n0_ := am (below_step (by repeat (first | (with_reducible first | exact HB.out | apply lA | apply lN | apply lD) | exact HB.out)) hb); clear HB; have HB := n0_; clear n0_; (try clear hb); (try clear hb2); (try clear hk); (try clear hi)))
 (try simp only [Act.put, zT, z0, zS])
 go_cut [23] (fun v23 wc => ∃ (kq : Nat) (x23_2 : Bool), v23 = .bool x23_2 ∧ Aside0 (reredosref08_May.j0 kq l0 x23_2 = some r) ∧ Aside0 (kq ≤ k) ∧ Aside0 (Below w.heap.size w wc))
 case first =>
  have H := HC3.out
  clear HC3
  by_cases c5 : t324 = true
  ·subst c5
   have H1 : (if t323 = (l0.length : Int) then ((reredosref08_deep.f k l0 0).bind fun t325 => (reredosref08_May.j0 k l0 (decide (t325 > 40)))) else (reredosref08_May.j0 k l0 true)) = some r := by rw [if_pos rfl] at H; exact H
   clear H
   have H := H1
   clear H1
   by_cases c6 : t323 = (l0.length : Int)
   ·rw [if_pos c6] at H
    have c6b0 : (t323 == (l0.length : Int)) = true := beq_iff_eq.mpr c6
    have c6b1 : (t323 != (l0.length : Int)) = false := bne_eq_false_iff_eq.mpr c6
    clear c6
    (first | rw [c6b0] | (simp only [i64_w, i32_w]; rw [c6b0]) | skip)
    replace H := Option.bind_eq_some_iff.mp H
    obtain ⟨t325, A70, H⟩ := H
    replace H : (reredosref08_May.j0 k l0 (decide (t325 > 40))) = some r := H
    have A7 := am A70
    clear A70
    have H' := am H
    clear H
    go_wp2_with (first | (go_at_call 41; (with_reducible refine (reredosref08_deep.calls k _ _ l0 0 t325 _ ?side1 ?side2 A7.out).mono ?_); (case side1 => repeat (first | exact (Kd.C_below HR0.out HB.out) | (with_reducible refine Kd.C_alloc ?_ _) | (with_reducible refine Kd.C_drewN ?_ _) | (with_reducible refine Kd.C_drew ?_))); (case side2 => exact HC0.out); rintro e w8 ⟨rfl, hb⟩; have n0_ := am (below_step (by repeat (first | (with_reducible first | exact HB.out | apply lA | apply lN | apply lD) | exact HB.out)) hb); clear HB; have HB := n0_; clear n0_; (try clear hb); (try clear hb2); (try clear hk); (try clear hi)))
    go_meet
    case rel => exact ⟨_, (decide (t325 > 40)), (by first | rfl | (simp; done) | (simp [*]; done)), H', ⟨by first | omega | exact Nat.le_refl _⟩, ⟨by repeat (first | (with_reducible first | exact HB.out | apply lA | apply lN | apply lD) | exact HB.out)⟩⟩
   ·rw [if_neg c6] at H
    have c6b0 : (t323 == (l0.length : Int)) = false := beq_eq_false_iff_ne.mpr c6
    have c6b1 : (t323 != (l0.length : Int)) = true := bne_iff_ne.mpr c6
    (first | rw [c6b0] | (simp only [i64_w, i32_w]; rw [c6b0]) | skip)
    have H' := am H
    clear H
    go_wp2
    go_meet
    case rel => exact ⟨_, (true), (by first | rfl | (simp; done) | (simp [*]; done)), H', ⟨by first | omega | exact Nat.le_refl _⟩, ⟨by repeat (first | (with_reducible first | exact HB.out | apply lA | apply lN | apply lD) | exact HB.out)⟩⟩
  ·replace c5 := Bool.eq_false_iff.mpr c5
   subst c5
   have H1 : (reredosref08_May.j0 k l0 true) = some r := by rw [if_neg (show ¬ (false = true) by decide)] at H; exact H
   clear H
   have H := H1
   clear H1
   have H' := am H
   clear H
   go_wp2
   go_meet
   case rel => exact ⟨_, (true), (by first | rfl | (simp; done) | (simp [*]; done)), H', ⟨by first | omega | exact Nat.le_refl _⟩, ⟨by repeat (first | (with_reducible first | exact HB.out | apply lA | apply lN | apply lD) | exact HB.out)⟩⟩
 case rest =>
  clear HC3
  try clear c2
  try clear p2
  try clear c5
  try clear c6
  try clear c6b0
  try clear c6b1
  obtain ⟨kq, x23_2, rfl, HA, HJ2, HB⟩ := hcut
  cases kq with
  | zero => exact absurd HA.out (by simp [reredosref08_May.j0])
  | succ kj2 =>
   have H := HA.out
   clear HA
   simp only [reredosref08_May.j0] at H
   by_cases c9 : x23_2 = true
   ·subst c9
    have H1 : (some false) = some r := by rw [if_pos rfl] at H; exact H
    clear H
    have H := H1
    clear H1
    obtain rfl := Option.some.inj H
    go_wp2
    go_ret
    exact ⟨by first | rfl | (simp [errW_none, errW_some] <;> rfl) | (simp [*, errW_none, errW_some] <;> rfl), by repeat (first | (with_reducible first | exact HB.out | apply lA | apply lN | apply lD) | exact HB.out)⟩
   ·replace c9 := Bool.eq_false_iff.mpr c9
    subst c9
    have H1 : (reredosref08_May.l0 kj2 l0 0) = some r := by rw [if_neg (show ¬ (false = true) by decide)] at H; exact H
    clear H
    have H := H1
    clear H1
    have H' := am H
    clear H
    go_wp2
    go_loopg [5] kj2 (fun kq v5 w' => ∃ (x5_2 : Int), v5 = .int .i64 x5_2 ∧ Aside0 (reredosref08_May.l0 kq l0 x5_2 = some r) ∧ Aside0 (kq ≤ kj2) ∧ Aside0 (Below w.heap.size w w'))
    case atStart => exact ⟨(0), (by first | rfl | (simp; done) | (simp [*]; done)), H', ⟨Nat.le_refl _⟩, ⟨by repeat (first | (with_reducible first | exact HB.out | apply lA | apply lN | apply lD) | exact HB.out)⟩⟩
    case round =>
     clear H'
     try clear c2
     try clear p2
     try clear c5
     try clear c6
     try clear c6b0
     try clear c6b1
     try clear c9
     try clear p2
     obtain ⟨x5_2, rfl, HA, HK2, HB⟩ := hrel
     cases gk with
     | zero => exact absurd HA.out (by simp [reredosref08_May.l0])
     | succ k2 =>
      have H := HA.out
      clear HA
      simp only [reredosref08_May.l0] at H
      by_cases c10 : x5_2 < (l0.length : Int)
      ·rw [if_pos c10] at H
       have c10b0 : decide (x5_2 < (l0.length : Int)) = true := decide_eq_true c10
       clear c10
       by_cases c11 : 0 ≤ x5_2
       ·rw [if_pos c11] at H
        have c11b0 : decide (0 ≤ x5_2) = true := decide_eq_true c11
        clear c11
        replace H := Option.bind_eq_some_iff.mp H
        obtain ⟨t327, A120, H⟩ := H
        replace H : (if t327 = true then (if x5_2 > 0 then (if ((rd_T25 l0 x5_2).f0) ≥ 5 then (if ((rd_T25 l0 x5_2).f0) ≤ 7 then (some false) else (reredosref08_May.l0 k2 l0 (wrap64 (x5_2 + 1)))) else (reredosref08_May.l0 k2 l0 (wrap64 (x5_2 + 1)))) else (reredosref08_May.l0 k2 l0 (wrap64 (x5_2 + 1)))) else (some false)) = some r := H
        have A12 := am A120
        clear A120
        by_cases c13 : t327 = true
        ·subst c13
         have H1 : (if x5_2 > 0 then (if ((rd_T25 l0 x5_2).f0) ≥ 5 then (if ((rd_T25 l0 x5_2).f0) ≤ 7 then (some false) else (reredosref08_May.l0 k2 l0 (wrap64 (x5_2 + 1)))) else (reredosref08_May.l0 k2 l0 (wrap64 (x5_2 + 1)))) else (reredosref08_May.l0 k2 l0 (wrap64 (x5_2 + 1)))) = some r := by rw [if_pos rfl] at H; exact H
         clear H
         have H := H1
         clear H1
         by_cases c14 : x5_2 > 0
         ·rw [if_pos c14] at H
          have c14b0 : decide (0 < x5_2) = true := decide_eq_true c14
          clear c14
          by_cases c15 : ((rd_T25 l0 x5_2).f0) ≥ 5
          ·rw [if_pos c15] at H
           have c15b0 : decide (5 ≤ ((rd_T25 l0 x5_2).f0)) = true := decide_eq_true c15
           clear c15
           by_cases c16 : ((rd_T25 l0 x5_2).f0) ≤ 7
           ·rw [if_pos c16] at H
            have c16b0 : decide (((rd_T25 l0 x5_2).f0) ≤ 7) = true := decide_eq_true c16
            clear c16
            obtain rfl := Option.some.inj H
            have p326 : 0 ≤ (x5_2 : Int) := of_decide_eq_true (by first | (with_reducible assumption) | assumption)
            have q326 : x5_2 < (l0.length : Int) := of_decide_eq_true (by first | (with_reducible assumption) | assumption)
            obtain ⟨ad326, A326_4, c326_4, e326, hx326_0, hx326_1, hx326_2, hx326_3, hx326_4, hl326_4, hi326_4⟩ := at_T25 HR0.out x5_2 p326 q326
            cases e326
            replace hx326_0 := (HB.out.cell (World.block_lt_of_cell? w _ hx326_0)).trans hx326_0
            replace hx326_1 := (HB.out.cell (World.block_lt_of_cell? w _ hx326_1)).trans hx326_1
            replace hx326_2 := (HB.out.cell (World.block_lt_of_cell? w _ hx326_2)).trans hx326_2
            replace hx326_3 := (HB.out.cell (World.block_lt_of_cell? w _ hx326_3)).trans hx326_3
            replace hx326_4 := (HB.out.cell (World.block_lt_of_cell? w _ hx326_4)).trans hx326_4
            have HR326_4 := am hi326_4
            have HC326_4 := am hl326_4
            clear hi326_4 hl326_4
            replace p326 := eq_true p326
            replace q326 := eq_true q326
            go_wp2_with (first | ((with_reducible refine gate_callee (f := 44) rfl ?_); refine goesL_ (some 34) rfl rfl Try.func44 (by kernel_rfl) rfl #[.agg #[.int .i64 ((rd_T25 l0 x5_2).f0), .string ((rd_T25 l0 x5_2).f1), .string ((rd_T25 l0 x5_2).f2), .string ((rd_T25 l0 x5_2).f3), .slice A326_4 ((rd_T25 l0 x5_2).f4).length c326_4]] rfl (by (try simp only [List.map_toArray, List.map_cons, List.map_nil]); first | done | rfl | (simp only [List.length_drop, List.length_take]; rfl)) ?_; (with_reducible refine (reredosref08_One.calls k2 ((rd_T25 l0 x5_2).f0) ((rd_T25 l0 x5_2).f1) ((rd_T25 l0 x5_2).f2) ((rd_T25 l0 x5_2).f3) _ _ ((rd_T25 l0 x5_2).f4) true _ ?side1 ?side2 A12.out).mono ?_); (case side1 => repeat (first | exact (Kd.C_below HR326_4.out HB.out) | (with_reducible refine Kd.C_alloc ?_ _) | (with_reducible refine Kd.C_drewN ?_ _) | (with_reducible refine Kd.C_drew ?_))); (case side2 => exact HC326_4.out); rintro e w17 ⟨rfl, hb⟩; refine ⟨_, rfl, ?_⟩; have n0_ := am (below_step (by repeat (first | (with_reducible first | exact HB.out | apply lA | apply lN | apply lD) | exact HB.out)) hb); clear HB; have HB := n0_; clear n0_; (try clear hb); (try clear hb2); (try clear hk); (try clear hi); have p328 : 0 ≤ (x5_2 : Int) := of_decide_eq_true (by first | (with_reducible assumption) | assumption); have q328 : x5_2 < (l0.length : Int) := of_decide_eq_true (by first | (with_reducible assumption) | assumption); obtain ⟨ad328, A328_4, c328_4, e328, hx328_0, hx328_1, hx328_2, hx328_3, hx328_4, hl328_4, hi328_4⟩ := at_T25 HR0.out x5_2 p328 q328; obtain rfl : ad326 = ad328 := (by injection e328); replace hx328_0 := (HB.out.cell (World.block_lt_of_cell? w _ hx328_0)).trans hx328_0; replace hx328_1 := (HB.out.cell (World.block_lt_of_cell? w _ hx328_1)).trans hx328_1; replace hx328_2 := (HB.out.cell (World.block_lt_of_cell? w _ hx328_2)).trans hx328_2; replace hx328_3 := (HB.out.cell (World.block_lt_of_cell? w _ hx328_3)).trans hx328_3; replace hx328_4 := (HB.out.cell (World.block_lt_of_cell? w _ hx328_4)).trans hx328_4; have HR328_4 := am hi328_4; have HC328_4 := am hl328_4; clear hi328_4 hl328_4; replace p328 := eq_true p328; replace q328 := eq_true q328; have p329 : 0 ≤ (x5_2 : Int) := of_decide_eq_true (by first | (with_reducible assumption) | assumption); have q329 : x5_2 < (l0.length : Int) := of_decide_eq_true (by first | (with_reducible assumption) | assumption); obtain ⟨ad329, A329_4, c329_4, e329, hx329_0, hx329_1, hx329_2, hx329_3, hx329_4, hl329_4, hi329_4⟩ := at_T25 HR0.out x5_2 p329 q329; obtain rfl : ad326 = ad329 := (by injection e329); replace hx329_0 := (HB.out.cell (World.block_lt_of_cell? w _ hx329_0)).trans hx329_0; replace hx329_1 := (HB.out.cell (World.block_lt_of_cell? w _ hx329_1)).trans hx329_1; replace hx329_2 := (HB.out.cell (World.block_lt_of_cell? w _ hx329_2)).trans hx329_2; replace hx329_3 := (HB.out.cell (World.block_lt_of_cell? w _ hx329_3)).trans hx329_3; replace hx329_4 := (HB.out.cell (World.block_lt_of_cell? w _ hx329_4)).trans hx329_4; have HR329_4 := am hi329_4; have HC329_4 := am hl329_4; clear hi329_4 hl329_4; replace p329 := eq_true p329; replace q329 := eq_true q329; have ea_ := Option.some.inj (hx328_4.symm.trans hx329_4); injection ea_ with ea_ en_ ec_; subst ea_; subst ec_; clear en_))
            go_ret
            exact ⟨by first | rfl | (simp [errW_none, errW_some] <;> rfl) | (simp [*, errW_none, errW_some] <;> rfl), by repeat (first | (with_reducible first | exact HB.out | apply lA | apply lN | apply lD) | exact HB.out)⟩
           ·rw [if_neg c16] at H
            have c16b0 : decide (((rd_T25 l0 x5_2).f0) ≤ 7) = false := decide_eq_false c16
            clear c16
            have H' := am H
            clear H
            have p326 : 0 ≤ (x5_2 : Int) := of_decide_eq_true (by first | (with_reducible assumption) | assumption)
            have q326 : x5_2 < (l0.length : Int) := of_decide_eq_true (by first | (with_reducible assumption) | assumption)
            obtain ⟨ad326, A326_4, c326_4, e326, hx326_0, hx326_1, hx326_2, hx326_3, hx326_4, hl326_4, hi326_4⟩ := at_T25 HR0.out x5_2 p326 q326
            cases e326
            replace hx326_0 := (HB.out.cell (World.block_lt_of_cell? w _ hx326_0)).trans hx326_0
            replace hx326_1 := (HB.out.cell (World.block_lt_of_cell? w _ hx326_1)).trans hx326_1
            replace hx326_2 := (HB.out.cell (World.block_lt_of_cell? w _ hx326_2)).trans hx326_2
            replace hx326_3 := (HB.out.cell (World.block_lt_of_cell? w _ hx326_3)).trans hx326_3
            replace hx326_4 := (HB.out.cell (World.block_lt_of_cell? w _ hx326_4)).trans hx326_4
            have HR326_4 := am hi326_4
            have HC326_4 := am hl326_4
            clear hi326_4 hl326_4
            replace p326 := eq_true p326
            replace q326 := eq_true q326
            go_wp2_with (first | ((with_reducible refine gate_callee (f := 44) rfl ?_); refine goesL_ (some 34) rfl rfl Try.func44 (by kernel_rfl) rfl #[.agg #[.int .i64 ((rd_T25 l0 x5_2).f0), .string ((rd_T25 l0 x5_2).f1), .string ((rd_T25 l0 x5_2).f2), .string ((rd_T25 l0 x5_2).f3), .slice A326_4 ((rd_T25 l0 x5_2).f4).length c326_4]] rfl (by (try simp only [List.map_toArray, List.map_cons, List.map_nil]); first | done | rfl | (simp only [List.length_drop, List.length_take]; rfl)) ?_; (with_reducible refine (reredosref08_One.calls k2 ((rd_T25 l0 x5_2).f0) ((rd_T25 l0 x5_2).f1) ((rd_T25 l0 x5_2).f2) ((rd_T25 l0 x5_2).f3) _ _ ((rd_T25 l0 x5_2).f4) true _ ?side1 ?side2 A12.out).mono ?_); (case side1 => repeat (first | exact (Kd.C_below HR326_4.out HB.out) | (with_reducible refine Kd.C_alloc ?_ _) | (with_reducible refine Kd.C_drewN ?_ _) | (with_reducible refine Kd.C_drew ?_))); (case side2 => exact HC326_4.out); rintro e w18 ⟨rfl, hb⟩; refine ⟨_, rfl, ?_⟩; have n0_ := am (below_step (by repeat (first | (with_reducible first | exact HB.out | apply lA | apply lN | apply lD) | exact HB.out)) hb); clear HB; have HB := n0_; clear n0_; (try clear hb); (try clear hb2); (try clear hk); (try clear hi); have p328 : 0 ≤ (x5_2 : Int) := of_decide_eq_true (by first | (with_reducible assumption) | assumption); have q328 : x5_2 < (l0.length : Int) := of_decide_eq_true (by first | (with_reducible assumption) | assumption); obtain ⟨ad328, A328_4, c328_4, e328, hx328_0, hx328_1, hx328_2, hx328_3, hx328_4, hl328_4, hi328_4⟩ := at_T25 HR0.out x5_2 p328 q328; obtain rfl : ad326 = ad328 := (by injection e328); replace hx328_0 := (HB.out.cell (World.block_lt_of_cell? w _ hx328_0)).trans hx328_0; replace hx328_1 := (HB.out.cell (World.block_lt_of_cell? w _ hx328_1)).trans hx328_1; replace hx328_2 := (HB.out.cell (World.block_lt_of_cell? w _ hx328_2)).trans hx328_2; replace hx328_3 := (HB.out.cell (World.block_lt_of_cell? w _ hx328_3)).trans hx328_3; replace hx328_4 := (HB.out.cell (World.block_lt_of_cell? w _ hx328_4)).trans hx328_4; have HR328_4 := am hi328_4; have HC328_4 := am hl328_4; clear hi328_4 hl328_4; replace p328 := eq_true p328; replace q328 := eq_true q328; have p329 : 0 ≤ (x5_2 : Int) := of_decide_eq_true (by first | (with_reducible assumption) | assumption); have q329 : x5_2 < (l0.length : Int) := of_decide_eq_true (by first | (with_reducible assumption) | assumption); obtain ⟨ad329, A329_4, c329_4, e329, hx329_0, hx329_1, hx329_2, hx329_3, hx329_4, hl329_4, hi329_4⟩ := at_T25 HR0.out x5_2 p329 q329; obtain rfl : ad326 = ad329 := (by injection e329); replace hx329_0 := (HB.out.cell (World.block_lt_of_cell? w _ hx329_0)).trans hx329_0; replace hx329_1 := (HB.out.cell (World.block_lt_of_cell? w _ hx329_1)).trans hx329_1; replace hx329_2 := (HB.out.cell (World.block_lt_of_cell? w _ hx329_2)).trans hx329_2; replace hx329_3 := (HB.out.cell (World.block_lt_of_cell? w _ hx329_3)).trans hx329_3; replace hx329_4 := (HB.out.cell (World.block_lt_of_cell? w _ hx329_4)).trans hx329_4; have HR329_4 := am hi329_4; have HC329_4 := am hl329_4; clear hi329_4 hl329_4; replace p329 := eq_true p329; replace q329 := eq_true q329; have ea_ := Option.some.inj (hx328_4.symm.trans hx329_4); injection ea_ with ea_ en_ ec_; subst ea_; subst ec_; clear en_))
            go_roundg k2
            case measure => have := HJ2.out; have := HK2.out; omega
            case rel => exact ⟨(wrap64 (x5_2 + 1)), (by first | rfl | (simp; done) | (simp [*]; done)), H', ⟨by have := HJ2.out; have := HK2.out; omega⟩, ⟨by repeat (first | (with_reducible first | exact HB.out | apply lA | apply lN | apply lD) | exact HB.out)⟩⟩
          ·rw [if_neg c15] at H
           have c15b0 : decide (5 ≤ ((rd_T25 l0 x5_2).f0)) = false := decide_eq_false c15
           clear c15
           have H' := am H
           clear H
           have p326 : 0 ≤ (x5_2 : Int) := of_decide_eq_true (by first | (with_reducible assumption) | assumption)
           have q326 : x5_2 < (l0.length : Int) := of_decide_eq_true (by first | (with_reducible assumption) | assumption)
           obtain ⟨ad326, A326_4, c326_4, e326, hx326_0, hx326_1, hx326_2, hx326_3, hx326_4, hl326_4, hi326_4⟩ := at_T25 HR0.out x5_2 p326 q326
           cases e326
           replace hx326_0 := (HB.out.cell (World.block_lt_of_cell? w _ hx326_0)).trans hx326_0
           replace hx326_1 := (HB.out.cell (World.block_lt_of_cell? w _ hx326_1)).trans hx326_1
           replace hx326_2 := (HB.out.cell (World.block_lt_of_cell? w _ hx326_2)).trans hx326_2
           replace hx326_3 := (HB.out.cell (World.block_lt_of_cell? w _ hx326_3)).trans hx326_3
           replace hx326_4 := (HB.out.cell (World.block_lt_of_cell? w _ hx326_4)).trans hx326_4
           have HR326_4 := am hi326_4
           have HC326_4 := am hl326_4
           clear hi326_4 hl326_4
           replace p326 := eq_true p326
           replace q326 := eq_true q326
           go_wp2_with (first | ((with_reducible refine gate_callee (f := 44) rfl ?_); refine goesL_ (some 34) rfl rfl Try.func44 (by kernel_rfl) rfl #[.agg #[.int .i64 ((rd_T25 l0 x5_2).f0), .string ((rd_T25 l0 x5_2).f1), .string ((rd_T25 l0 x5_2).f2), .string ((rd_T25 l0 x5_2).f3), .slice A326_4 ((rd_T25 l0 x5_2).f4).length c326_4]] rfl (by (try simp only [List.map_toArray, List.map_cons, List.map_nil]); first | done | rfl | (simp only [List.length_drop, List.length_take]; rfl)) ?_; (with_reducible refine (reredosref08_One.calls k2 ((rd_T25 l0 x5_2).f0) ((rd_T25 l0 x5_2).f1) ((rd_T25 l0 x5_2).f2) ((rd_T25 l0 x5_2).f3) _ _ ((rd_T25 l0 x5_2).f4) true _ ?side1 ?side2 A12.out).mono ?_); (case side1 => repeat (first | exact (Kd.C_below HR326_4.out HB.out) | (with_reducible refine Kd.C_alloc ?_ _) | (with_reducible refine Kd.C_drewN ?_ _) | (with_reducible refine Kd.C_drew ?_))); (case side2 => exact HC326_4.out); rintro e w19 ⟨rfl, hb⟩; refine ⟨_, rfl, ?_⟩; have n0_ := am (below_step (by repeat (first | (with_reducible first | exact HB.out | apply lA | apply lN | apply lD) | exact HB.out)) hb); clear HB; have HB := n0_; clear n0_; (try clear hb); (try clear hb2); (try clear hk); (try clear hi); have p328 : 0 ≤ (x5_2 : Int) := of_decide_eq_true (by first | (with_reducible assumption) | assumption); have q328 : x5_2 < (l0.length : Int) := of_decide_eq_true (by first | (with_reducible assumption) | assumption); obtain ⟨ad328, A328_4, c328_4, e328, hx328_0, hx328_1, hx328_2, hx328_3, hx328_4, hl328_4, hi328_4⟩ := at_T25 HR0.out x5_2 p328 q328; obtain rfl : ad326 = ad328 := (by injection e328); replace hx328_0 := (HB.out.cell (World.block_lt_of_cell? w _ hx328_0)).trans hx328_0; replace hx328_1 := (HB.out.cell (World.block_lt_of_cell? w _ hx328_1)).trans hx328_1; replace hx328_2 := (HB.out.cell (World.block_lt_of_cell? w _ hx328_2)).trans hx328_2; replace hx328_3 := (HB.out.cell (World.block_lt_of_cell? w _ hx328_3)).trans hx328_3; replace hx328_4 := (HB.out.cell (World.block_lt_of_cell? w _ hx328_4)).trans hx328_4; have HR328_4 := am hi328_4; have HC328_4 := am hl328_4; clear hi328_4 hl328_4; replace p328 := eq_true p328; replace q328 := eq_true q328))
           go_roundg k2
           case measure => have := HJ2.out; have := HK2.out; omega
           case rel => exact ⟨(wrap64 (x5_2 + 1)), (by first | rfl | (simp; done) | (simp [*]; done)), H', ⟨by have := HJ2.out; have := HK2.out; omega⟩, ⟨by repeat (first | (with_reducible first | exact HB.out | apply lA | apply lN | apply lD) | exact HB.out)⟩⟩
         ·rw [if_neg c14] at H
          have c14b0 : decide (0 < x5_2) = false := decide_eq_false c14
          clear c14
          have H' := am H
          clear H
          have p326 : 0 ≤ (x5_2 : Int) := of_decide_eq_true (by first | (with_reducible assumption) | assumption)
          have q326 : x5_2 < (l0.length : Int) := of_decide_eq_true (by first | (with_reducible assumption) | assumption)
          obtain ⟨ad326, A326_4, c326_4, e326, hx326_0, hx326_1, hx326_2, hx326_3, hx326_4, hl326_4, hi326_4⟩ := at_T25 HR0.out x5_2 p326 q326
          cases e326
          replace hx326_0 := (HB.out.cell (World.block_lt_of_cell? w _ hx326_0)).trans hx326_0
          replace hx326_1 := (HB.out.cell (World.block_lt_of_cell? w _ hx326_1)).trans hx326_1
          replace hx326_2 := (HB.out.cell (World.block_lt_of_cell? w _ hx326_2)).trans hx326_2
          replace hx326_3 := (HB.out.cell (World.block_lt_of_cell? w _ hx326_3)).trans hx326_3
          replace hx326_4 := (HB.out.cell (World.block_lt_of_cell? w _ hx326_4)).trans hx326_4
          have HR326_4 := am hi326_4
          have HC326_4 := am hl326_4
          clear hi326_4 hl326_4
          replace p326 := eq_true p326
          replace q326 := eq_true q326
          go_wp2_with (first | ((with_reducible refine gate_callee (f := 44) rfl ?_); refine goesL_ (some 34) rfl rfl Try.func44 (by kernel_rfl) rfl #[.agg #[.int .i64 ((rd_T25 l0 x5_2).f0), .string ((rd_T25 l0 x5_2).f1), .string ((rd_T25 l0 x5_2).f2), .string ((rd_T25 l0 x5_2).f3), .slice A326_4 ((rd_T25 l0 x5_2).f4).length c326_4]] rfl (by (try simp only [List.map_toArray, List.map_cons, List.map_nil]); first | done | rfl | (simp only [List.length_drop, List.length_take]; rfl)) ?_; (with_reducible refine (reredosref08_One.calls k2 ((rd_T25 l0 x5_2).f0) ((rd_T25 l0 x5_2).f1) ((rd_T25 l0 x5_2).f2) ((rd_T25 l0 x5_2).f3) _ _ ((rd_T25 l0 x5_2).f4) true _ ?side1 ?side2 A12.out).mono ?_); (case side1 => repeat (first | exact (Kd.C_below HR326_4.out HB.out) | (with_reducible refine Kd.C_alloc ?_ _) | (with_reducible refine Kd.C_drewN ?_ _) | (with_reducible refine Kd.C_drew ?_))); (case side2 => exact HC326_4.out); rintro e w20 ⟨rfl, hb⟩; refine ⟨_, rfl, ?_⟩; have n0_ := am (below_step (by repeat (first | (with_reducible first | exact HB.out | apply lA | apply lN | apply lD) | exact HB.out)) hb); clear HB; have HB := n0_; clear n0_; (try clear hb); (try clear hb2); (try clear hk); (try clear hi)))
          go_roundg k2
          case measure => have := HJ2.out; have := HK2.out; omega
          case rel => exact ⟨(wrap64 (x5_2 + 1)), (by first | rfl | (simp; done) | (simp [*]; done)), H', ⟨by have := HJ2.out; have := HK2.out; omega⟩, ⟨by repeat (first | (with_reducible first | exact HB.out | apply lA | apply lN | apply lD) | exact HB.out)⟩⟩
        ·replace c13 := Bool.eq_false_iff.mpr c13
         subst c13
         have H1 : (some false) = some r := by rw [if_neg (show ¬ (false = true) by decide)] at H; exact H
         clear H
         have H := H1
         clear H1
         obtain rfl := Option.some.inj H
         have p326 : 0 ≤ (x5_2 : Int) := of_decide_eq_true (by first | (with_reducible assumption) | assumption)
         have q326 : x5_2 < (l0.length : Int) := of_decide_eq_true (by first | (with_reducible assumption) | assumption)
         obtain ⟨ad326, A326_4, c326_4, e326, hx326_0, hx326_1, hx326_2, hx326_3, hx326_4, hl326_4, hi326_4⟩ := at_T25 HR0.out x5_2 p326 q326
         cases e326
         replace hx326_0 := (HB.out.cell (World.block_lt_of_cell? w _ hx326_0)).trans hx326_0
         replace hx326_1 := (HB.out.cell (World.block_lt_of_cell? w _ hx326_1)).trans hx326_1
         replace hx326_2 := (HB.out.cell (World.block_lt_of_cell? w _ hx326_2)).trans hx326_2
         replace hx326_3 := (HB.out.cell (World.block_lt_of_cell? w _ hx326_3)).trans hx326_3
         replace hx326_4 := (HB.out.cell (World.block_lt_of_cell? w _ hx326_4)).trans hx326_4
         have HR326_4 := am hi326_4
         have HC326_4 := am hl326_4
         clear hi326_4 hl326_4
         replace p326 := eq_true p326
         replace q326 := eq_true q326
         go_wp2_with (first | ((with_reducible refine gate_callee (f := 44) rfl ?_); refine goesL_ (some 34) rfl rfl Try.func44 (by kernel_rfl) rfl #[.agg #[.int .i64 ((rd_T25 l0 x5_2).f0), .string ((rd_T25 l0 x5_2).f1), .string ((rd_T25 l0 x5_2).f2), .string ((rd_T25 l0 x5_2).f3), .slice A326_4 ((rd_T25 l0 x5_2).f4).length c326_4]] rfl (by (try simp only [List.map_toArray, List.map_cons, List.map_nil]); first | done | rfl | (simp only [List.length_drop, List.length_take]; rfl)) ?_; (with_reducible refine (reredosref08_One.calls k2 ((rd_T25 l0 x5_2).f0) ((rd_T25 l0 x5_2).f1) ((rd_T25 l0 x5_2).f2) ((rd_T25 l0 x5_2).f3) _ _ ((rd_T25 l0 x5_2).f4) false _ ?side1 ?side2 A12.out).mono ?_); (case side1 => repeat (first | exact (Kd.C_below HR326_4.out HB.out) | (with_reducible refine Kd.C_alloc ?_ _) | (with_reducible refine Kd.C_drewN ?_ _) | (with_reducible refine Kd.C_drew ?_))); (case side2 => exact HC326_4.out); rintro e w21 ⟨rfl, hb⟩; refine ⟨_, rfl, ?_⟩; have n0_ := am (below_step (by repeat (first | (with_reducible first | exact HB.out | apply lA | apply lN | apply lD) | exact HB.out)) hb); clear HB; have HB := n0_; clear n0_; (try clear hb); (try clear hb2); (try clear hk); (try clear hi)))
         go_ret
         exact ⟨by first | rfl | (simp [errW_none, errW_some] <;> rfl) | (simp [*, errW_none, errW_some] <;> rfl), by repeat (first | (with_reducible first | exact HB.out | apply lA | apply lN | apply lD) | exact HB.out)⟩
       ·rw [if_neg c11] at H
        exact absurd H (by simp)
      ·rw [if_neg c10] at H
       have c10b0 : decide (x5_2 < (l0.length : Int)) = false := decide_eq_false c10
       clear c10
       obtain rfl := Option.some.inj H
       go_wp2
       go_ret
       exact ⟨by first | rfl | (simp [errW_none, errW_some] <;> rfl) | (simp [*, errW_none, errW_some] <;> rfl), by repeat (first | (with_reducible first | exact HB.out | apply lA | apply lN | apply lD) | exact HB.out)⟩
end Go.Proofs.Ytdelccahgchadaa.P
end
section
namespace Go.Proofs.Ytdelccahgchadaa.P
open Go.RowKit Go.Proofs.YtdelccahgchadaaW.PrintWords Go.Proofs.YtdelccahgchadaaW.PrintLast Go.Proofs.YtdelccahgchadaaW.PrintMore
attribute [local go_sem] max2_int min2_int max_two min_two max_three min_three max_four min_four   
set_option linter.unusedVariables false
set_option linter.unusedSimpArgs false
def reredoslaw08_TreeTells.f (k : Nat) (l0 : List (S25)) (a1 : Int) (a2_0 : Int) (a2_1 : ByteArray) (a2_2 : ByteArray) (a2_3 : ByteArray) (l2_4 : List ByteArray) : Option (Bool) := (reredoslaw08_shown.f k).bind fun t331 => ((reredosref08_Few.f k l0).bind fun t332 => (if t332 = true then ((tree_End.f k l0 a1).bind fun bt333 => ((reredosref08_End.f k l0 a1).bind fun bt335 => (if t331 = true then ((tree_Kids.f k a2_0 a2_1 a2_2 a2_3 l2_4).bind fun t337 => ((reredosref08_Kids.f k a2_0 a2_1 a2_2 a2_3 l2_4).bind fun t338 => (if t337 = t338 then (if bt333.1 = bt335.1 then (if (bt333.2 == bt335.2) = true then ((tree_Under.f k l0 a1).bind fun t339 => ((reredosref08_Under.f k l0 a1).bind fun t342 => ((reredosref03_Same.f k t339 t342).bind fun t345 => (if t345 = true then ((tree_Depth.f k l0).bind fun t346 => ((reredosref08_Depth.f k l0).bind fun t347 => (if t346 = t347 then ((tree_May.f k l0).bind fun t348 => ((reredosref08_May.f k l0).bind fun t349 => (some (t348 == t349)))) else (none)))) else (none))))) else (none)) else (none)) else (none)))) else (none)))) else (some t331)))
theorem reredoslaw08_TreeTells.mono : ∀ a0 a1 a2 a3 a4 a5 a6 k, LeO (reredoslaw08_TreeTells.f k a0 a1 a2 a3 a4 a5 a6) (reredoslaw08_TreeTells.f (k + 1) a0 a1 a2 a3 a4 a5 a6) := by
 intro a0 a1 a2 a3 a4 a5 a6 k
 unfold reredoslaw08_TreeTells.f
 repeat' first
   | (with_reducible exact reredoslaw08_shown.mono _)
   | (with_reducible exact reredosref03_Same.mono _ _ _)
   | (with_reducible exact reredosref08_Depth.mono _ _)
   | (with_reducible exact reredosref08_End.mono _ _ _)
   | (with_reducible exact reredosref08_Few.mono _ _)
   | (with_reducible exact reredosref08_Kids.mono _ _ _ _ _ _)
   | (with_reducible exact reredosref08_May.mono _ _)
   | (with_reducible exact reredosref08_Under.mono _ _ _)
   | (with_reducible exact tree_Depth.mono _ _)
   | (with_reducible exact tree_End.mono _ _ _)
   | (with_reducible exact tree_Kids.mono _ _ _ _ _ _)
   | (with_reducible exact tree_May.mono _ _)
   | (with_reducible exact tree_Under.mono _ _ _)
   | (with_reducible exact LeO.refl _)
   | (with_reducible exact LeO.none _)
   | (with_reducible refine LeO.ite ?_ ?_)
   | (with_reducible refine LeO.bind ?_ (fun _ => ?_))
   | exact reredoslaw08_shown.mono _
   | exact reredosref03_Same.mono _ _ _
   | exact reredosref08_Depth.mono _ _
   | exact reredosref08_End.mono _ _ _
   | exact reredosref08_Few.mono _ _
   | exact reredosref08_Kids.mono _ _ _ _ _ _
   | exact reredosref08_May.mono _ _
   | exact reredosref08_Under.mono _ _ _
   | exact tree_Depth.mono _ _
   | exact tree_End.mono _ _ _
   | exact tree_Kids.mono _ _ _ _ _ _
   | exact tree_May.mono _ _
   | exact tree_Under.mono _ _ _
   | exact LeO.none _
   | refine LeO.ite ?_ ?_
   | refine LeO.bind ?_ (fun _ => ?_)
def reredoslaw08_TreeTells.T6 : Bool × List (List Nat × List Nat) := (true, [([], []), ([0], [0]), ([1], [1]), ([2, 1, 1], [1, 2]), ([1], [1]), ([4, 3, 1], [1, 4]), ([3, 5, 1], [1, 3, 5]), ([1, 6], [1, 6]), ([7, 5], [7]), ([8], [8]), ([8], [8]), ([9, 10, 8], [8, 9, 10]), ([8, 11], [8, 11]), ([12, 8], [12]), ([13], [13]), ([13], [13]), ([14, 15, 13], [13, 14, 15]), ([13, 16], [13, 16]), ([17, 13], [17]), ([18], [18]), ([18], [18]), ([19, 20, 18, 18], [18, 19, 20]), ([18], [18]), ([18], [18]), ([22, 23, 21, 18], [18, 22, 23]), ([21, 24, 24, 18], [18, 21, 24]), ([18, 25], [18, 25]), ([26, 25], [26]), ([27], [27]), ([28, 27, 27], [27, 28]), ([27], [27]), ([30, 29, 27], [27, 30]), ([29, 31, 27], [27, 29, 31]), ([27, 32], [27, 32]), ([33, 31], [33]), ([34], [34]), ([35, 34, 34], [34, 35]), ([34], [34]), ([37, 36, 34], [34, 37]), ([36, 38, 34], [34, 36, 38]), ([34, 39], [34, 39]), ([40, 38, 0, 1, 2, 3, 4, 5, 6, 7, 8, 9, 10, 11, 12, 13, 14, 15, 16, 17, 18, 19, 20, 21, 22, 23, 24, 25, 26, 27, 28, 29, 30, 31, 32, 33, 34, 35, 36, 37, 38, 39, 40], [40])])
def reredoslaw08_TreeTells.B6 : List Nat := [0, 1, 3, 7, 3, 31, 63, 127, 255, 511, 511, 2047, 4095, 8191, 16383, 16383, 65535, 131071, 262143, 524287, 524287, 2097151, 524287, 524287, 16777215, 33554431, 67108863, 134217727, 268435455, 536870911, 268435455, 2147483647, 4294967295, 8589934591, 17179869183, 34359738367, 68719476735, 34359738367, 274877906943, 549755813887, 1099511627775, 2199023255551]
theorem reredoslaw08_TreeTells.tab6 : rtab .any (opsOf Try.f3 6) = reredoslaw08_TreeTells.T6 := by kernel_rfl
theorem reredoslaw08_TreeTells.bits6 : waitsOk reredoslaw08_TreeTells.T6.2 reredoslaw08_TreeTells.B6 = true := by kernel_rfl
set_option maxHeartbeats 8000000 in
set_option maxRecDepth 100000 in
theorem reredoslaw08_TreeTells.calls (k : Nat) (A0 : Option Addr) (c0 : Nat) (l0 : List (S25)) (a1 : Int) (a2_0 : Int) (a2_1 : ByteArray) (a2_2 : ByteArray) (a2_3 : ByteArray) (A2_4 : Option Addr) (c2_4 : Nat) (l2_4 : List ByteArray) (r : Bool) (w : World) (hr0 : Kd.C k25 w A0 l0.length l0) (hc0 : l0.length ≤ c0) (hr2_4 : Kd.C Kd.string w A2_4 l2_4.length l2_4) (hc2_4 : l2_4.length ≤ c2_4) (h : reredoslaw08_TreeTells.f k l0 a1 a2_0 a2_1 a2_2 a2_3 l2_4 = some r) :
  Calls Try.prog 3 #[.slice A0 l0.length c0, .int .i64 a1, .agg #[.int .i64 a2_0, .string a2_1, .string a2_2, .string a2_3, .slice A2_4 l2_4.length c2_4]] w fun e w' => e = .returned (.bool r) ∧ Below w.heap.size w w' := by
 have hu25 := Try.underlying25
 have HR0 := am hr0
 have HC0 := am hc0
 clear hr0 hc0
 have HR2_4 := am hr2_4
 have HC2_4 := am hc2_4
 clear hr2_4 hc2_4
 have HB := am (Below.refl w.heap.size w)
 have H : ((reredoslaw08_shown.f k).bind fun t331 => ((reredosref08_Few.f k l0).bind fun t332 => (if t332 = true then ((tree_End.f k l0 a1).bind fun bt333 => ((reredosref08_End.f k l0 a1).bind fun bt335 => (if t331 = true then ((tree_Kids.f k a2_0 a2_1 a2_2 a2_3 l2_4).bind fun t337 => ((reredosref08_Kids.f k a2_0 a2_1 a2_2 a2_3 l2_4).bind fun t338 => (if t337 = t338 then (if bt333.1 = bt335.1 then (if (bt333.2 == bt335.2) = true then ((tree_Under.f k l0 a1).bind fun t339 => ((reredosref08_Under.f k l0 a1).bind fun t342 => ((reredosref03_Same.f k t339 t342).bind fun t345 => (if t345 = true then ((tree_Depth.f k l0).bind fun t346 => ((reredosref08_Depth.f k l0).bind fun t347 => (if t346 = t347 then ((tree_May.f k l0).bind fun t348 => ((reredosref08_May.f k l0).bind fun t349 => (some (t348 == t349)))) else (none)))) else (none))))) else (none)) else (none)) else (none)))) else (none)))) else (some t331)))) = some r := h
 clear h
 replace H := Option.bind_eq_some_iff.mp H
 obtain ⟨t331, A40, H⟩ := H
 replace H : ((reredosref08_Few.f k l0).bind fun t332 => (if t332 = true then ((tree_End.f k l0 a1).bind fun bt333 => ((reredosref08_End.f k l0 a1).bind fun bt335 => (if t331 = true then ((tree_Kids.f k a2_0 a2_1 a2_2 a2_3 l2_4).bind fun t337 => ((reredosref08_Kids.f k a2_0 a2_1 a2_2 a2_3 l2_4).bind fun t338 => (if t337 = t338 then (if bt333.1 = bt335.1 then (if (bt333.2 == bt335.2) = true then ((tree_Under.f k l0 a1).bind fun t339 => ((reredosref08_Under.f k l0 a1).bind fun t342 => ((reredosref03_Same.f k t339 t342).bind fun t345 => (if t345 = true then ((tree_Depth.f k l0).bind fun t346 => ((reredosref08_Depth.f k l0).bind fun t347 => (if t346 = t347 then ((tree_May.f k l0).bind fun t348 => ((reredosref08_May.f k l0).bind fun t349 => (some (t348 == t349)))) else (none)))) else (none))))) else (none)) else (none)) else (none)))) else (none)))) else (some t331))) = some r := H
 have A4 := am A40
 clear A40
 replace H := Option.bind_eq_some_iff.mp H
 obtain ⟨t332, A50, H⟩ := H
 replace H : (if t332 = true then ((tree_End.f k l0 a1).bind fun bt333 => ((reredosref08_End.f k l0 a1).bind fun bt335 => (if t331 = true then ((tree_Kids.f k a2_0 a2_1 a2_2 a2_3 l2_4).bind fun t337 => ((reredosref08_Kids.f k a2_0 a2_1 a2_2 a2_3 l2_4).bind fun t338 => (if t337 = t338 then (if bt333.1 = bt335.1 then (if (bt333.2 == bt335.2) = true then ((tree_Under.f k l0 a1).bind fun t339 => ((reredosref08_Under.f k l0 a1).bind fun t342 => ((reredosref03_Same.f k t339 t342).bind fun t345 => (if t345 = true then ((tree_Depth.f k l0).bind fun t346 => ((reredosref08_Depth.f k l0).bind fun t347 => (if t346 = t347 then ((tree_May.f k l0).bind fun t348 => ((reredosref08_May.f k l0).bind fun t349 => (some (t348 == t349)))) else (none)))) else (none))))) else (none)) else (none)) else (none)))) else (none)))) else (some t331)) = some r := H
 have A5 := am A50
 clear A50
 by_cases c6 : t332 = true
 ·subst c6
  have H1 : ((tree_End.f k l0 a1).bind fun bt333 => ((reredosref08_End.f k l0 a1).bind fun bt335 => (if t331 = true then ((tree_Kids.f k a2_0 a2_1 a2_2 a2_3 l2_4).bind fun t337 => ((reredosref08_Kids.f k a2_0 a2_1 a2_2 a2_3 l2_4).bind fun t338 => (if t337 = t338 then (if bt333.1 = bt335.1 then (if (bt333.2 == bt335.2) = true then ((tree_Under.f k l0 a1).bind fun t339 => ((reredosref08_Under.f k l0 a1).bind fun t342 => ((reredosref03_Same.f k t339 t342).bind fun t345 => (if t345 = true then ((tree_Depth.f k l0).bind fun t346 => ((reredosref08_Depth.f k l0).bind fun t347 => (if t346 = t347 then ((tree_May.f k l0).bind fun t348 => ((reredosref08_May.f k l0).bind fun t349 => (some (t348 == t349)))) else (none)))) else (none))))) else (none)) else (none)) else (none)))) else (none)))) = some r := by rw [if_pos rfl] at H; exact H
  clear H
  have H := H1
  clear H1
  replace H := Option.bind_eq_some_iff.mp H
  obtain ⟨⟨t333, t334⟩, A70, H⟩ := H
  replace H : ((reredosref08_End.f k l0 a1).bind fun bt335 => (if t331 = true then ((tree_Kids.f k a2_0 a2_1 a2_2 a2_3 l2_4).bind fun t337 => ((reredosref08_Kids.f k a2_0 a2_1 a2_2 a2_3 l2_4).bind fun t338 => (if t337 = t338 then (if t333 = bt335.1 then (if (t334 == bt335.2) = true then ((tree_Under.f k l0 a1).bind fun t339 => ((reredosref08_Under.f k l0 a1).bind fun t342 => ((reredosref03_Same.f k t339 t342).bind fun t345 => (if t345 = true then ((tree_Depth.f k l0).bind fun t346 => ((reredosref08_Depth.f k l0).bind fun t347 => (if t346 = t347 then ((tree_May.f k l0).bind fun t348 => ((reredosref08_May.f k l0).bind fun t349 => (some (t348 == t349)))) else (none)))) else (none))))) else (none)) else (none)) else (none)))) else (none))) = some r := H
  have A7 := am A70
  clear A70
  replace H := Option.bind_eq_some_iff.mp H
  obtain ⟨⟨t335, t336⟩, A80, H⟩ := H
  replace H : (if t331 = true then ((tree_Kids.f k a2_0 a2_1 a2_2 a2_3 l2_4).bind fun t337 => ((reredosref08_Kids.f k a2_0 a2_1 a2_2 a2_3 l2_4).bind fun t338 => (if t337 = t338 then (if t333 = t335 then (if (t334 == t336) = true then ((tree_Under.f k l0 a1).bind fun t339 => ((reredosref08_Under.f k l0 a1).bind fun t342 => ((reredosref03_Same.f k t339 t342).bind fun t345 => (if t345 = true then ((tree_Depth.f k l0).bind fun t346 => ((reredosref08_Depth.f k l0).bind fun t347 => (if t346 = t347 then ((tree_May.f k l0).bind fun t348 => ((reredosref08_May.f k l0).bind fun t349 => (some (t348 == t349)))) else (none)))) else (none))))) else (none)) else (none)) else (none)))) else (none)) = some r := H
  have A8 := am A80
  clear A80
  by_cases c9 : t331 = true
  ·subst c9
   have H1 : ((tree_Kids.f k a2_0 a2_1 a2_2 a2_3 l2_4).bind fun t337 => ((reredosref08_Kids.f k a2_0 a2_1 a2_2 a2_3 l2_4).bind fun t338 => (if t337 = t338 then (if t333 = t335 then (if (t334 == t336) = true then ((tree_Under.f k l0 a1).bind fun t339 => ((reredosref08_Under.f k l0 a1).bind fun t342 => ((reredosref03_Same.f k t339 t342).bind fun t345 => (if t345 = true then ((tree_Depth.f k l0).bind fun t346 => ((reredosref08_Depth.f k l0).bind fun t347 => (if t346 = t347 then ((tree_May.f k l0).bind fun t348 => ((reredosref08_May.f k l0).bind fun t349 => (some (t348 == t349)))) else (none)))) else (none))))) else (none)) else (none)) else (none)))) = some r := by rw [if_pos rfl] at H; exact H
   clear H
   have H := H1
   clear H1
   replace H := Option.bind_eq_some_iff.mp H
   obtain ⟨t337, A100, H⟩ := H
   replace H : ((reredosref08_Kids.f k a2_0 a2_1 a2_2 a2_3 l2_4).bind fun t338 => (if t337 = t338 then (if t333 = t335 then (if (t334 == t336) = true then ((tree_Under.f k l0 a1).bind fun t339 => ((reredosref08_Under.f k l0 a1).bind fun t342 => ((reredosref03_Same.f k t339 t342).bind fun t345 => (if t345 = true then ((tree_Depth.f k l0).bind fun t346 => ((reredosref08_Depth.f k l0).bind fun t347 => (if t346 = t347 then ((tree_May.f k l0).bind fun t348 => ((reredosref08_May.f k l0).bind fun t349 => (some (t348 == t349)))) else (none)))) else (none))))) else (none)) else (none)) else (none))) = some r := H
   have A10 := am A100
   clear A100
   replace H := Option.bind_eq_some_iff.mp H
   obtain ⟨t338, A110, H⟩ := H
   replace H : (if t337 = t338 then (if t333 = t335 then (if (t334 == t336) = true then ((tree_Under.f k l0 a1).bind fun t339 => ((reredosref08_Under.f k l0 a1).bind fun t342 => ((reredosref03_Same.f k t339 t342).bind fun t345 => (if t345 = true then ((tree_Depth.f k l0).bind fun t346 => ((reredosref08_Depth.f k l0).bind fun t347 => (if t346 = t347 then ((tree_May.f k l0).bind fun t348 => ((reredosref08_May.f k l0).bind fun t349 => (some (t348 == t349)))) else (none)))) else (none))))) else (none)) else (none)) else (none)) = some r := H
   have A11 := am A110
   clear A110
   by_cases c12 : t337 = t338
   ·rw [if_pos c12] at H
    have c12b0 : (t337 == t338) = true := beq_iff_eq.mpr c12
    have c12b1 : (t337 != t338) = false := bne_eq_false_iff_eq.mpr c12
    clear c12
    by_cases c13 : t333 = t335
    ·rw [if_pos c13] at H
     have c13b0 : (t333 == t335) = true := beq_iff_eq.mpr c13
     have c13b1 : (t333 != t335) = false := bne_eq_false_iff_eq.mpr c13
     clear c13
     by_cases c14 : (t334 == t336) = true
     ·rw [if_pos c14] at H
      have c14b0 : (t334 == t336) = true := c14
      (try (have c14b1 : decide (t334 = t336) = true := by simpa using c14))
      (try (have c14b2 : (t334 == t336) = true := by simpa using c14))
      clear c14
      replace H := Option.bind_eq_some_iff.mp H
      obtain ⟨t339, A150, H⟩ := H
      replace H : ((reredosref08_Under.f k l0 a1).bind fun t342 => ((reredosref03_Same.f k t339 t342).bind fun t345 => (if t345 = true then ((tree_Depth.f k l0).bind fun t346 => ((reredosref08_Depth.f k l0).bind fun t347 => (if t346 = t347 then ((tree_May.f k l0).bind fun t348 => ((reredosref08_May.f k l0).bind fun t349 => (some (t348 == t349)))) else (none)))) else (none)))) = some r := H
      have A15 := am A150
      clear A150
      replace H := Option.bind_eq_some_iff.mp H
      obtain ⟨t342, A160, H⟩ := H
      replace H : ((reredosref03_Same.f k t339 t342).bind fun t345 => (if t345 = true then ((tree_Depth.f k l0).bind fun t346 => ((reredosref08_Depth.f k l0).bind fun t347 => (if t346 = t347 then ((tree_May.f k l0).bind fun t348 => ((reredosref08_May.f k l0).bind fun t349 => (some (t348 == t349)))) else (none)))) else (none))) = some r := H
      have A16 := am A160
      clear A160
      replace H := Option.bind_eq_some_iff.mp H
      obtain ⟨t345, A170, H⟩ := H
      replace H : (if t345 = true then ((tree_Depth.f k l0).bind fun t346 => ((reredosref08_Depth.f k l0).bind fun t347 => (if t346 = t347 then ((tree_May.f k l0).bind fun t348 => ((reredosref08_May.f k l0).bind fun t349 => (some (t348 == t349)))) else (none)))) else (none)) = some r := H
      have A17 := am A170
      clear A170
      by_cases c18 : t345 = true
      ·subst c18
       have H1 : ((tree_Depth.f k l0).bind fun t346 => ((reredosref08_Depth.f k l0).bind fun t347 => (if t346 = t347 then ((tree_May.f k l0).bind fun t348 => ((reredosref08_May.f k l0).bind fun t349 => (some (t348 == t349)))) else (none)))) = some r := by rw [if_pos rfl] at H; exact H
       clear H
       have H := H1
       clear H1
       replace H := Option.bind_eq_some_iff.mp H
       obtain ⟨t346, A190, H⟩ := H
       replace H : ((reredosref08_Depth.f k l0).bind fun t347 => (if t346 = t347 then ((tree_May.f k l0).bind fun t348 => ((reredosref08_May.f k l0).bind fun t349 => (some (t348 == t349)))) else (none))) = some r := H
       have A19 := am A190
       clear A190
       replace H := Option.bind_eq_some_iff.mp H
       obtain ⟨t347, A200, H⟩ := H
       replace H : (if t346 = t347 then ((tree_May.f k l0).bind fun t348 => ((reredosref08_May.f k l0).bind fun t349 => (some (t348 == t349)))) else (none)) = some r := H
       have A20 := am A200
       clear A200
       by_cases c21 : t346 = t347
       ·rw [if_pos c21] at H
        have c21b0 : (t346 == t347) = true := beq_iff_eq.mpr c21
        have c21b1 : (t346 != t347) = false := bne_eq_false_iff_eq.mpr c21
        clear c21
        replace H := Option.bind_eq_some_iff.mp H
        obtain ⟨t348, A220, H⟩ := H
        replace H : ((reredosref08_May.f k l0).bind fun t349 => (some (t348 == t349))) = some r := H
        have A22 := am A220
        clear A220
        replace H := Option.bind_eq_some_iff.mp H
        obtain ⟨t349, A230, H⟩ := H
        replace H : (some (t348 == t349)) = some r := H
        have A23 := am A230
        clear A230
        obtain rfl := Option.some.inj H
        go_enter Try.func3, Try.ntmps3
        try go_wp2_with (first | ((with_reducible refine gate_dst (N := 5) rfl ?_); refine box_event ?hg (N := 5) ?hd (cs := #[.int .i64 a2_0, .string a2_1, .string a2_2, .string a2_3, .slice A2_4 l2_4.length c2_4]) (t := 25) ?hr ?_; (case hd => rfl); (case hg => rfl); (case hr => first | (go_simp; done) | (go_simp; rfl)); intro gb330 hg w24 hbox hb; have n0_ := am (below_step (by repeat (first | (with_reducible first | exact HB.out | apply lA | apply lN | apply lD) | exact HB.out)) hb); have n1_ := am (hbox); have n2_ := am ((by rw [hg]; exact (below_size (by repeat (first | (with_reducible first | exact HB.out | apply lA | apply lN | apply lD) | exact HB.out))) : w.heap.size ≤ gb330)); have n3_ := n2_; clear HB; have HB := n0_; have BK330 := n1_; have GW330 := n2_; have GE330 := n3_; clear n0_ n1_ n2_ n3_; clear hb hbox hg) | ((with_reducible refine gate_callee (f := 17) rfl ?_); refine goesL_ (some 12) rfl rfl Try.func17 (by kernel_rfl) rfl #[] rfl (by (try simp only [List.map_toArray, List.map_cons, List.map_nil]); first | done | rfl | (simp only [List.length_drop, List.length_take]; rfl)) ?_; (with_reducible refine (reredoslaw08_shown.calls k  true _ A4.out).mono ?_); rintro e w25 ⟨rfl, hb⟩; refine ⟨_, rfl, ?_⟩; have n0_ := am (bB (g := gb330) (o := .cells #[.int .i64 a2_0, .string a2_1, .string a2_2, .string a2_3, .slice A2_4 l2_4.length c2_4] 25 (0, 0)) (by (with_reducible repeat (first | refine bN ?_ _ | refine bD ?_ | refine bA ?_ _)); exact BK330.out) hb); have n1_ := am (below_step (by repeat (first | (with_reducible first | exact HB.out | apply lA | apply lN | apply lD | refine below_set ?_ GE330.out) | exact HB.out)) hb); clear BK330; clear HB; have BK330 := n0_; have HB := n1_; clear n0_ n1_; (try clear hb); (try clear hb2); (try clear hk); (try clear hi)) | ((with_reducible refine gate_callee (f := 18) rfl ?_); refine goesL_ (some 14) rfl rfl Try.func18 (by kernel_rfl) rfl #[.slice A0 l0.length c0] rfl (by (try simp only [List.map_toArray, List.map_cons, List.map_nil]); first | done | rfl | (simp only [List.length_drop, List.length_take]; rfl)) ?_; (with_reducible refine (reredosref08_Few.calls k _ _ l0 true _ ?side1 ?side2 A5.out).mono ?_); (case side1 => repeat (first | exact (Kd.C_below HR0.out HB.out) | (with_reducible refine Kd.C_alloc ?_ _) | (with_reducible refine Kd.C_drewN ?_ _) | (with_reducible refine Kd.C_drew ?_))); (case side2 => exact HC0.out); rintro e w' ⟨rfl, ⟨nd, rfl⟩⟩; refine ⟨_, rfl, ?_⟩) | ((with_reducible refine gate_callee (f := 19) rfl ?_); refine goesL_ (some 20) rfl rfl Try.func19 (by kernel_rfl) rfl #[.slice A0 l0.length c0, .int .i64 a1] rfl (by (try simp only [List.map_toArray, List.map_cons, List.map_nil]); first | done | rfl | (simp only [List.length_drop, List.length_take]; rfl)) ?_; (with_reducible refine (tree_End.calls k _ _ l0 a1 t333 t334 _ ?side1 ?side2 A7.out).mono ?_); (case side1 => repeat (first | exact (Kd.C_below HR0.out (by repeat (first | (with_reducible first | exact HB.out | apply lA | apply lN | apply lD | refine below_set ?_ GE330.out) | exact HB.out))) | (with_reducible refine Kd.C_alloc ?_ _) | (with_reducible refine Kd.C_drewN ?_ _) | (with_reducible refine Kd.C_drew ?_))); (case side2 => exact HC0.out); rintro e w26 ⟨rfl, hb⟩; refine ⟨_, rfl, ?_⟩; have n0_ := am (bB (g := gb330) (o := .cells #[.int .i64 a2_0, .string a2_1, .string a2_2, .string a2_3, .slice A2_4 l2_4.length c2_4] 25 (0, 0)) (by (with_reducible repeat (first | refine bN ?_ _ | refine bD ?_ | refine bA ?_ _)); exact BK330.out) hb); have n1_ := am (below_step (by repeat (first | (with_reducible first | exact HB.out | apply lA | apply lN | apply lD | refine below_set ?_ GE330.out) | exact HB.out)) hb); clear BK330; clear HB; have BK330 := n0_; have HB := n1_; clear n0_ n1_; (try clear hb); (try clear hb2); (try clear hk); (try clear hi)) | ((with_reducible refine gate_callee (f := 20) rfl ?_); refine goesL_ (some 26) rfl rfl Try.func20 (by kernel_rfl) rfl #[.slice A0 l0.length c0, .int .i64 a1] rfl (by (try simp only [List.map_toArray, List.map_cons, List.map_nil]); first | done | rfl | (simp only [List.length_drop, List.length_take]; rfl)) ?_; (with_reducible refine (reredosref08_End.calls k _ _ l0 a1 t335 t336 _ ?side1 ?side2 A8.out).mono ?_); (case side1 => repeat (first | exact (Kd.C_below HR0.out HB.out) | (with_reducible refine Kd.C_alloc ?_ _) | (with_reducible refine Kd.C_drewN ?_ _) | (with_reducible refine Kd.C_drew ?_))); (case side2 => exact HC0.out); rintro e w27 ⟨rfl, hb⟩; refine ⟨_, rfl, ?_⟩; have n0_ := am (bB (g := gb330) (o := .cells #[.int .i64 a2_0, .string a2_1, .string a2_2, .string a2_3, .slice A2_4 l2_4.length c2_4] 25 (0, 0)) (by (with_reducible repeat (first | refine bN ?_ _ | refine bD ?_ | refine bA ?_ _)); exact BK330.out) hb); have n1_ := am (below_step (by repeat (first | (with_reducible first | exact HB.out | apply lA | apply lN | apply lD | refine below_set ?_ GE330.out) | exact HB.out)) hb); clear BK330; clear HB; have BK330 := n0_; have HB := n1_; clear n0_ n1_; (try clear hb); (try clear hb2); (try clear hk); (try clear hi)))
        have n0_ := am (bD BK330.out)
        have n1_ := am (lD HB.out)
        clear BK330
        clear HB
        have BK330 := n0_
        have HB := n1_
        clear n0_ n1_
        refine start_ (n := 42) (S := fun w' => w'.cell? ⟨gb330, 0, none⟩ = some (.int .i64 a2_0) ∧ w'.cell? ⟨gb330, 1, none⟩ = some (.string a2_1) ∧ w'.cell? ⟨gb330, 2, none⟩ = some (.string a2_2) ∧ w'.cell? ⟨gb330, 3, none⟩ = some (.string a2_3) ∧ w'.cell? ⟨gb330, 4, none⟩ = some (.slice A2_4 l2_4.length c2_4)) (ds := []) #[false, false, false, false, false, false, false, false, false, false, false, false, false, false, false, false, false, false, false, false, false, false, false, false, false, false, false, false, false, false, false, false, false, false, false, false, false, false, false, false, false, false] (by kernel_rfl) rfl rfl ⟨(blk_cell BK330.out 0).trans rfl, (blk_cell BK330.out 1).trans rfl, (blk_cell BK330.out 2).trans rfl, (blk_cell BK330.out 3).trans rfl, (blk_cell BK330.out 4).trans rfl⟩ (fun hHeld => ?_); refine with_tabW reredoslaw08_TreeTells.tab6 reredoslaw08_TreeTells.bits6 (fun HT_ HW_ => ?_)
        generalize w27.drew = w28 at BK330 HB hHeld ⊢
        refine pure_ (i := 0) (N := some 29) (v := ?_) (a' := ?_) #[true, false, false, false, false, false, false, false, false, false, false, false, false, false, false, false, false, false, false, false, false, false, false, false, false, false, false, false, false, false, false, false, false, false, false, false, false, false, false, false, false, false] rfl rfl (any_of HT_.out (by kernel_rfl)) (fun _ _ _ h => h) (Or.inl ⟨by rfl, ?_⟩) ?_ ?_
        rotate_left
        ·intro w'
         go_simp
         with_reducible rfl
        rotate_left
        ·simp only [Act.put, zT, z0, zS, i64_w, i32_w]
         rfl
        refine pure_ (i := 1) (N := some 30) (v := ?_) (a' := ?_) #[true, true, false, false, false, false, false, false, false, false, false, false, false, false, false, false, false, false, false, false, false, false, false, false, false, false, false, false, false, false, false, false, false, false, false, false, false, false, false, false, false, false] rfl rfl (any_of HT_.out (by kernel_rfl)) (fun _ _ _ h => h) (Or.inl ⟨by rfl, ?_⟩) ?_ ?_
        rotate_left
        ·intro w'
         go_simp
         with_reducible rfl
        rotate_left
        ·simp only [Act.put, zT, z0, zS, i64_w, i32_w]
         rfl
        refine take_ (i := 2) (N := some 31) (v := ?_) (a' := ?_) #[true, true, true, false, false, false, false, false, false, false, false, false, false, false, false, false, false, false, false, false, false, false, false, false, false, false, false, false, false, false, false, false, false, false, false, false, false, false, false, false, false, false] rfl rfl (take_ofW HT_.out HW_.out (by kernel_rfl)) (fun _ _ _ h => h) (Or.inl ⟨by rfl, ?_⟩) hHeld ?_ ?_
        rotate_left
        ·rintro w' ⟨s0, s1, s2, s3, s4⟩
         go_simp
         with_reducible rfl
        rotate_left
        ·simp only [Act.put, zT, z0, zS, i64_w, i32_w]
         rfl
        refine take_ (i := 4) (N := some 33) (v := ?_) (a' := ?_) #[true, true, true, false, true, false, false, false, false, false, false, false, false, false, false, false, false, false, false, false, false, false, false, false, false, false, false, false, false, false, false, false, false, false, false, false, false, false, false, false, false, false] rfl rfl (take_ofW HT_.out HW_.out (by kernel_rfl)) (fun _ _ _ h => h) (Or.inl ⟨by rfl, ?_⟩) hHeld ?_ ?_
        rotate_left
        ·rintro w' ⟨s0, s1, s2, s3, s4⟩
         go_simp
         with_reducible rfl
        rotate_left
        ·simp only [Act.put, zT, z0, zS, i64_w, i32_w]
         rfl
        refine one_ (i := 3) (N := some 32) #[true, true, true, true, true, false, false, false, false, false, false, false, false, false, false, false, false, false, false, false, false, false, false, false, false, false, false, false, false, false, false, false, false, false, false, false, false, false, false, false, false, false] rfl rfl (one_of HT_.out (by kernel_rfl)) (by decide) (fun K hK => ?_)
        refine goes_ Try.func21 (by kernel_rfl) rfl #[.agg #[.int .i64 a2_0, .string a2_1, .string a2_2, .string a2_3, .slice A2_4 l2_4.length c2_4]] (by rfl) rfl rfl (by (try simp only [List.map_toArray, List.map_cons, List.map_nil]); first | done | rfl | (simp only [List.length_drop, List.length_take]; rfl)) ?_
        with_reducible refine (tree_Kids.calls k a2_0 a2_1 a2_2 a2_3 _ _ l2_4 t337 _ ?side1 ?side2 A10.out).mono ?_
        (case side1 => repeat (first | exact (Kd.C_below HR2_4.out HB.out) | (with_reducible refine Kd.C_alloc ?_ _) | (with_reducible refine Kd.C_drewN ?_ _) | (with_reducible refine Kd.C_drew ?_)))
        (case side2 => exact HC2_4.out)
        rintro e w29 ⟨rfl, hb⟩
        refine ⟨_, rfl, ?_⟩
        have n0_ := am (bB (g := gb330) (o := .cells #[.int .i64 a2_0, .string a2_1, .string a2_2, .string a2_3, .slice A2_4 l2_4.length c2_4] 25 (0, 0)) (by (with_reducible repeat (first | refine bN ?_ _ | refine bD ?_ | refine bA ?_ _)); exact BK330.out) hb)
        have n1_ := am (below_step (by repeat (first | (with_reducible first | exact HB.out | apply lA | apply lN | apply lD | refine below_set ?_ GE330.out) | exact HB.out)) hb)
        clear BK330
        clear HB
        have BK330 := n0_
        have HB := n1_
        clear n0_ n1_
        (try clear hb)
        (try clear hb2)
        (try clear hk)
        (try clear hi)
        refine hK.out _ _ ⟨(blk_cell BK330.out 0).trans rfl, (blk_cell BK330.out 1).trans rfl, (blk_cell BK330.out 2).trans rfl, (blk_cell BK330.out 3).trans rfl, (blk_cell BK330.out 4).trans rfl⟩ (fun hHeld => ?_)
        clear hK K
        refine norm_ (a' := ?_) ?_ ?_
        rotate_left
        ·show Act.put _ (some 32) _ = _
         simp only [Act.put, zT, z0, zS, i64_w, i32_w]
         rfl
        refine one_ (i := 5) (N := some 34) #[true, true, true, true, true, true, false, false, false, false, false, false, false, false, false, false, false, false, false, false, false, false, false, false, false, false, false, false, false, false, false, false, false, false, false, false, false, false, false, false, false, false] rfl rfl (one_of HT_.out (by kernel_rfl)) (by decide) (fun K hK => ?_)
        refine goes_ Try.func22 (by kernel_rfl) rfl #[.agg #[.int .i64 a2_0, .string a2_1, .string a2_2, .string a2_3, .slice A2_4 l2_4.length c2_4]] (by rfl) rfl rfl (by (try simp only [List.map_toArray, List.map_cons, List.map_nil]); first | done | rfl | (simp only [List.length_drop, List.length_take]; rfl)) ?_
        with_reducible refine (reredosref08_Kids.calls k a2_0 a2_1 a2_2 a2_3 _ _ l2_4 t338 _ ?side1 ?side2 A11.out).mono ?_
        (case side1 => repeat (first | exact (Kd.C_below HR2_4.out HB.out) | (with_reducible refine Kd.C_alloc ?_ _) | (with_reducible refine Kd.C_drewN ?_ _) | (with_reducible refine Kd.C_drew ?_)))
        (case side2 => exact HC2_4.out)
        rintro e w30 ⟨rfl, hb⟩
        refine ⟨_, rfl, ?_⟩
        have n0_ := am (bB (g := gb330) (o := .cells #[.int .i64 a2_0, .string a2_1, .string a2_2, .string a2_3, .slice A2_4 l2_4.length c2_4] 25 (0, 0)) (by (with_reducible repeat (first | refine bN ?_ _ | refine bD ?_ | refine bA ?_ _)); exact BK330.out) hb)
        have n1_ := am (below_step (by repeat (first | (with_reducible first | exact HB.out | apply lA | apply lN | apply lD | refine below_set ?_ GE330.out) | exact HB.out)) hb)
        clear BK330
        clear HB
        have BK330 := n0_
        have HB := n1_
        clear n0_ n1_
        (try clear hb)
        (try clear hb2)
        (try clear hk)
        (try clear hi)
        refine hK.out _ _ ⟨(blk_cell BK330.out 0).trans rfl, (blk_cell BK330.out 1).trans rfl, (blk_cell BK330.out 2).trans rfl, (blk_cell BK330.out 3).trans rfl, (blk_cell BK330.out 4).trans rfl⟩ (fun hHeld => ?_)
        clear hK K
        refine norm_ (a' := ?_) ?_ ?_
        rotate_left
        ·show Act.put _ (some 34) _ = _
         simp only [Act.put, zT, z0, zS, i64_w, i32_w]
         rfl
        refine pure_ (i := 6) (N := some 35) (v := ?_) (a' := ?_) #[true, true, true, true, true, true, true, false, false, false, false, false, false, false, false, false, false, false, false, false, false, false, false, false, false, false, false, false, false, false, false, false, false, false, false, false, false, false, false, false, false, false] rfl rfl (any_of HT_.out (by kernel_rfl)) (fun _ _ _ h => h) (Or.inl ⟨by rfl, ?_⟩) ?_ ?_
        rotate_left
        ·intro w'
         go_simp
         with_reducible rfl
        rotate_left
        ·simp only [Act.put, zT, z0, zS, i64_w, i32_w]
         rfl
        refine pure_ (i := 7) (N := some 36) (v := ?_) (a' := ?_) #[true, true, true, true, true, true, true, true, false, false, false, false, false, false, false, false, false, false, false, false, false, false, false, false, false, false, false, false, false, false, false, false, false, false, false, false, false, false, false, false, false, false] rfl rfl (any_of HT_.out (by kernel_rfl)) (fun _ _ _ h => h) (Or.inl ⟨by rfl, ?_⟩) ?_ ?_
        rotate_left
        ·intro w'
         go_simp
         with_reducible rfl
        rotate_left
        ·simp only [Act.put, zT, z0, zS, i64_w, i32_w]
         rfl
        refine pure_ (i := 8) (N := some 37) (v := ?_) (a' := ?_) #[true, true, true, true, true, true, true, true, true, false, false, false, false, false, false, false, false, false, false, false, false, false, false, false, false, false, false, false, false, false, false, false, false, false, false, false, false, false, false, false, false, false] rfl rfl (any_of HT_.out (by kernel_rfl)) (fun _ _ _ h => h) (Or.inl ⟨by rfl, ?_⟩) ?_ ?_
        rotate_left
        ·intro w'
         go_simp
         with_reducible rfl
        rotate_left
        ·simp only [Act.put, zT, z0, zS, i64_w, i32_w]
         rfl
        refine pure_ (i := 9) (N := some 38) (v := ?_) (a' := ?_) #[true, true, true, true, true, true, true, true, true, true, false, false, false, false, false, false, false, false, false, false, false, false, false, false, false, false, false, false, false, false, false, false, false, false, false, false, false, false, false, false, false, false] rfl rfl (any_of HT_.out (by kernel_rfl)) (fun _ _ _ h => h) (Or.inl ⟨by rfl, ?_⟩) ?_ ?_
        rotate_left
        ·intro w'
         go_simp
         with_reducible rfl
        rotate_left
        ·simp only [Act.put, zT, z0, zS, i64_w, i32_w]
         rfl
        refine pure_ (i := 10) (N := some 39) (v := ?_) (a' := ?_) #[true, true, true, true, true, true, true, true, true, true, true, false, false, false, false, false, false, false, false, false, false, false, false, false, false, false, false, false, false, false, false, false, false, false, false, false, false, false, false, false, false, false] rfl rfl (any_of HT_.out (by kernel_rfl)) (fun _ _ _ h => h) (Or.inl ⟨by rfl, ?_⟩) ?_ ?_
        rotate_left
        ·intro w'
         go_simp
         with_reducible rfl
        rotate_left
        ·simp only [Act.put, zT, z0, zS, i64_w, i32_w]
         rfl
        refine pure_ (i := 11) (N := some 40) (v := ?_) (a' := ?_) #[true, true, true, true, true, true, true, true, true, true, true, true, false, false, false, false, false, false, false, false, false, false, false, false, false, false, false, false, false, false, false, false, false, false, false, false, false, false, false, false, false, false] rfl rfl (any_of HT_.out (by kernel_rfl)) (fun _ _ _ h => h) (Or.inl ⟨by rfl, ?_⟩) ?_ ?_
        rotate_left
        ·intro w'
         go_simp
         with_reducible rfl
        rotate_left
        ·simp only [Act.put, zT, z0, zS, i64_w, i32_w]
         rfl
        refine pure_ (i := 12) (N := some 41) (v := ?_) (a' := ?_) #[true, true, true, true, true, true, true, true, true, true, true, true, true, false, false, false, false, false, false, false, false, false, false, false, false, false, false, false, false, false, false, false, false, false, false, false, false, false, false, false, false, false] rfl rfl (any_of HT_.out (by kernel_rfl)) (fun _ _ _ h => h) (Or.inl ⟨by rfl, ?_⟩) ?_ ?_
        rotate_left
        ·intro w'
         go_simp
         with_reducible rfl
        rotate_left
        ·simp only [Act.put, zT, z0, zS, i64_w, i32_w]
         rfl
        refine pure_ (i := 13) (N := some 42) (v := ?_) (a' := ?_) #[true, true, true, true, true, true, true, true, true, true, true, true, true, true, false, false, false, false, false, false, false, false, false, false, false, false, false, false, false, false, false, false, false, false, false, false, false, false, false, false, false, false] rfl rfl (any_of HT_.out (by kernel_rfl)) (fun _ _ _ h => h) (Or.inl ⟨by rfl, ?_⟩) ?_ ?_
        rotate_left
        ·intro w'
         go_simp
         with_reducible rfl
        rotate_left
        ·simp only [Act.put, zT, z0, zS, i64_w, i32_w]
         rfl
        refine pure_ (i := 14) (N := some 43) (v := ?_) (a' := ?_) #[true, true, true, true, true, true, true, true, true, true, true, true, true, true, true, false, false, false, false, false, false, false, false, false, false, false, false, false, false, false, false, false, false, false, false, false, false, false, false, false, false, false] rfl rfl (any_of HT_.out (by kernel_rfl)) (fun _ _ _ h => h) (Or.inl ⟨by rfl, ?_⟩) ?_ ?_
        rotate_left
        ·intro w'
         go_simp
         with_reducible rfl
        rotate_left
        ·simp only [Act.put, zT, z0, zS, i64_w, i32_w]
         rfl
        refine pure_ (i := 15) (N := some 44) (v := ?_) (a' := ?_) #[true, true, true, true, true, true, true, true, true, true, true, true, true, true, true, true, false, false, false, false, false, false, false, false, false, false, false, false, false, false, false, false, false, false, false, false, false, false, false, false, false, false] rfl rfl (any_of HT_.out (by kernel_rfl)) (fun _ _ _ h => h) (Or.inl ⟨by rfl, ?_⟩) ?_ ?_
        rotate_left
        ·intro w'
         go_simp
         with_reducible rfl
        rotate_left
        ·simp only [Act.put, zT, z0, zS, i64_w, i32_w]
         rfl
        refine pure_ (i := 16) (N := some 45) (v := ?_) (a' := ?_) #[true, true, true, true, true, true, true, true, true, true, true, true, true, true, true, true, true, false, false, false, false, false, false, false, false, false, false, false, false, false, false, false, false, false, false, false, false, false, false, false, false, false] rfl rfl (any_of HT_.out (by kernel_rfl)) (fun _ _ _ h => h) (Or.inl ⟨by rfl, ?_⟩) ?_ ?_
        rotate_left
        ·intro w'
         go_simp
         with_reducible rfl
        rotate_left
        ·simp only [Act.put, zT, z0, zS, i64_w, i32_w]
         rfl
        refine pure_ (i := 17) (N := some 46) (v := ?_) (a' := ?_) #[true, true, true, true, true, true, true, true, true, true, true, true, true, true, true, true, true, true, false, false, false, false, false, false, false, false, false, false, false, false, false, false, false, false, false, false, false, false, false, false, false, false] rfl rfl (any_of HT_.out (by kernel_rfl)) (fun _ _ _ h => h) (Or.inl ⟨by rfl, ?_⟩) ?_ ?_
        rotate_left
        ·intro w'
         go_simp
         with_reducible rfl
        rotate_left
        ·simp only [Act.put, zT, z0, zS, i64_w, i32_w]
         rfl
        refine pure_ (i := 18) (N := some 47) (v := ?_) (a' := ?_) #[true, true, true, true, true, true, true, true, true, true, true, true, true, true, true, true, true, true, true, false, false, false, false, false, false, false, false, false, false, false, false, false, false, false, false, false, false, false, false, false, false, false] rfl rfl (any_of HT_.out (by kernel_rfl)) (fun _ _ _ h => h) (Or.inl ⟨by rfl, ?_⟩) ?_ ?_
        rotate_left
        ·intro w'
         go_simp
         with_reducible rfl
        rotate_left
        ·simp only [Act.put, zT, z0, zS, i64_w, i32_w]
         rfl
        refine pure_ (i := 19) (N := some 48) (v := ?_) (a' := ?_) #[true, true, true, true, true, true, true, true, true, true, true, true, true, true, true, true, true, true, true, true, false, false, false, false, false, false, false, false, false, false, false, false, false, false, false, false, false, false, false, false, false, false] rfl rfl (any_of HT_.out (by kernel_rfl)) (fun _ _ _ h => h) (Or.inl ⟨by rfl, ?_⟩) ?_ ?_
        rotate_left
        ·intro w'
         go_simp
         with_reducible rfl
        rotate_left
        ·simp only [Act.put, zT, z0, zS, i64_w, i32_w]
         rfl
        refine pure_ (i := 20) (N := some 49) (v := ?_) (a' := ?_) #[true, true, true, true, true, true, true, true, true, true, true, true, true, true, true, true, true, true, true, true, true, false, false, false, false, false, false, false, false, false, false, false, false, false, false, false, false, false, false, false, false, false] rfl rfl (any_of HT_.out (by kernel_rfl)) (fun _ _ _ h => h) (Or.inl ⟨by rfl, ?_⟩) ?_ ?_
        rotate_left
        ·intro w'
         go_simp
         with_reducible rfl
        rotate_left
        ·simp only [Act.put, zT, z0, zS, i64_w, i32_w]
         rfl
        refine pure_ (i := 22) (N := some 51) (v := ?_) (a' := ?_) #[true, true, true, true, true, true, true, true, true, true, true, true, true, true, true, true, true, true, true, true, true, false, true, false, false, false, false, false, false, false, false, false, false, false, false, false, false, false, false, false, false, false] rfl rfl (any_of HT_.out (by kernel_rfl)) (fun _ _ _ h => h) (Or.inl ⟨by rfl, ?_⟩) ?_ ?_
        rotate_left
        ·intro w'
         go_simp
         with_reducible rfl
        rotate_left
        ·simp only [Act.put, zT, z0, zS, i64_w, i32_w]
         rfl
        refine pure_ (i := 23) (N := some 52) (v := ?_) (a' := ?_) #[true, true, true, true, true, true, true, true, true, true, true, true, true, true, true, true, true, true, true, true, true, false, true, true, false, false, false, false, false, false, false, false, false, false, false, false, false, false, false, false, false, false] rfl rfl (any_of HT_.out (by kernel_rfl)) (fun _ _ _ h => h) (Or.inl ⟨by rfl, ?_⟩) ?_ ?_
        rotate_left
        ·intro w'
         go_simp
         with_reducible rfl
        rotate_left
        ·simp only [Act.put, zT, z0, zS, i64_w, i32_w]
         rfl
        refine one_ (i := 21) (N := some 50) #[true, true, true, true, true, true, true, true, true, true, true, true, true, true, true, true, true, true, true, true, true, true, true, true, false, false, false, false, false, false, false, false, false, false, false, false, false, false, false, false, false, false] rfl rfl (one_of HT_.out (by kernel_rfl)) (by decide) (fun K hK => ?_)
        refine goes_ Try.func24 (by kernel_rfl) rfl #[.slice A0 l0.length c0, .int .i64 a1] (by rfl) rfl rfl (by (try simp only [List.map_toArray, List.map_cons, List.map_nil]); first | done | rfl | (simp only [List.length_drop, List.length_take]; rfl)) ?_
        with_reducible refine (tree_Under.calls k _ _ l0 a1 t339 _ ?side1 ?side2 A15.out).mono ?_
        (case side1 => repeat (first | exact (Kd.C_below HR0.out HB.out) | (with_reducible refine Kd.C_alloc ?_ _) | (with_reducible refine Kd.C_drewN ?_ _) | (with_reducible refine Kd.C_drew ?_)))
        (case side2 => exact HC0.out)
        rintro e w31 ⟨v340, rfl, ho0, hb⟩
        refine ⟨_, rfl, ?_⟩
        have n0_ := am (Kd.R_lower ho0 (below_size (by repeat (first | (with_reducible first | exact HB.out | apply lA | apply lN | apply lD | refine below_set ?_ GE330.out) | exact HB.out))))
        have n1_ := am (bB (g := gb330) (o := .cells #[.int .i64 a2_0, .string a2_1, .string a2_2, .string a2_3, .slice A2_4 l2_4.length c2_4] 25 (0, 0)) (by (with_reducible repeat (first | refine bN ?_ _ | refine bD ?_ | refine bA ?_ _)); exact BK330.out) hb)
        have n2_ := am (below_step (by repeat (first | (with_reducible first | exact HB.out | apply lA | apply lN | apply lD | refine below_set ?_ GE330.out) | exact HB.out)) hb)
        clear BK330
        clear HB
        have HO341 := n0_
        have BK330 := n1_
        have HB := n2_
        clear n0_ n1_ n2_
        (try clear hb)
        (try clear hb2)
        (try clear hk)
        (try clear hi)
        (try clear ho0)
        refine hK.out _ _ ⟨(blk_cell BK330.out 0).trans rfl, (blk_cell BK330.out 1).trans rfl, (blk_cell BK330.out 2).trans rfl, (blk_cell BK330.out 3).trans rfl, (blk_cell BK330.out 4).trans rfl⟩ (fun hHeld => ?_)
        clear hK K
        refine norm_ (a' := ?_) ?_ ?_
        rotate_left
        ·show Act.put _ (some 50) _ = _
         simp only [Act.put, zT, z0, zS, i64_w, i32_w]
         rfl
        refine one_ (i := 24) (N := some 53) #[true, true, true, true, true, true, true, true, true, true, true, true, true, true, true, true, true, true, true, true, true, true, true, true, true, false, false, false, false, false, false, false, false, false, false, false, false, false, false, false, false, false] rfl rfl (one_of HT_.out (by kernel_rfl)) (by decide) (fun K hK => ?_)
        refine goes_ Try.func25 (by kernel_rfl) rfl #[.slice A0 l0.length c0, .int .i64 a1] (by rfl) rfl rfl (by (try simp only [List.map_toArray, List.map_cons, List.map_nil]); first | done | rfl | (simp only [List.length_drop, List.length_take]; rfl)) ?_
        with_reducible refine (reredosref08_Under.calls k _ _ l0 a1 t342 _ ?side1 ?side2 A16.out).mono ?_
        (case side1 => repeat (first | exact (Kd.C_below HR0.out HB.out) | (with_reducible refine Kd.C_alloc ?_ _) | (with_reducible refine Kd.C_drewN ?_ _) | (with_reducible refine Kd.C_drew ?_)))
        (case side2 => exact HC0.out)
        rintro e w32 ⟨v343, rfl, ho0, hb⟩
        refine ⟨_, rfl, ?_⟩
        have n0_ := am (Kd.R_elder' (by (with_reducible repeat (first | apply Kd.R_alloc | apply Kd.R_drewN | apply Kd.R_drew)); exact HO341.out) (Kd.R_base ho0) hb)
        have n1_ := am (Kd.R_lower (Kd.R_new' ho0 (Kd.R_lt (by (with_reducible repeat (first | apply Kd.R_alloc | apply Kd.R_drewN | apply Kd.R_drew)); exact HO341.out))) (below_size (by repeat (first | (with_reducible first | exact HB.out | apply lA | apply lN | apply lD | refine below_set ?_ GE330.out) | exact HB.out))))
        have n2_ := am (bB (g := gb330) (o := .cells #[.int .i64 a2_0, .string a2_1, .string a2_2, .string a2_3, .slice A2_4 l2_4.length c2_4] 25 (0, 0)) (by (with_reducible repeat (first | refine bN ?_ _ | refine bD ?_ | refine bA ?_ _)); exact BK330.out) hb)
        have n3_ := am (below_step (by repeat (first | (with_reducible first | exact HB.out | apply lA | apply lN | apply lD | refine below_set ?_ GE330.out) | exact HB.out)) hb)
        clear HO341
        clear BK330
        clear HB
        have HO341 := n0_
        have HO344 := n1_
        have BK330 := n2_
        have HB := n3_
        clear n0_ n1_ n2_ n3_
        (try clear hb)
        (try clear hb2)
        (try clear hk)
        (try clear hi)
        (try clear ho0)
        obtain ⟨Ao33, co33, eo33⟩ := Kd.R_slice HO341.out
        (first | subst eo33 | (injection eo33 with f1_ f2_ f3_; have f4_ := f1_.symm; have f5_ := f3_.symm; clear f1_ f2_ f3_; subst f4_; subst f5_))
        obtain ⟨Ao34, co34, eo34⟩ := Kd.R_slice HO344.out
        (first | subst eo34 | (injection eo34 with f1_ f2_ f3_; have f4_ := f1_.symm; have f5_ := f3_.symm; clear f1_ f2_ f3_; subst f4_; subst f5_))
        refine hK.out _ _ ⟨(blk_cell BK330.out 0).trans rfl, (blk_cell BK330.out 1).trans rfl, (blk_cell BK330.out 2).trans rfl, (blk_cell BK330.out 3).trans rfl, (blk_cell BK330.out 4).trans rfl⟩ (fun hHeld => ?_)
        clear hK K
        refine norm_ (a' := ?_) ?_ ?_
        rotate_left
        ·show Act.put _ (some 53) _ = _
         simp only [Act.put, zT, z0, zS, i64_w, i32_w]
         rfl
        refine one_ (i := 25) (N := some 54) #[true, true, true, true, true, true, true, true, true, true, true, true, true, true, true, true, true, true, true, true, true, true, true, true, true, true, false, false, false, false, false, false, false, false, false, false, false, false, false, false, false, false] rfl rfl (one_of HT_.out (by kernel_rfl)) (by decide) (fun K hK => ?_)
        refine goes_ Try.func23 (by kernel_rfl) rfl #[.slice Ao33 t339.length co33, .slice Ao34 t342.length co34] (by rfl) rfl rfl (by (try simp only [List.map_toArray, List.map_cons, List.map_nil]); first | done | rfl | (simp only [List.length_drop, List.length_take]; rfl)) ?_
        with_reducible refine (reredosref03_Same.calls k _ _ t339 _ _ t342 true _ ?side1 ?side2 ?side3 ?side4 A17.out).mono ?_
        (case side1 => repeat (first | exact (Kd.R_reads' HO341.out).2.2 | (with_reducible refine Kd.C_alloc ?_ _) | (with_reducible refine Kd.C_drewN ?_ _) | (with_reducible refine Kd.C_drew ?_)))
        (case side2 => exact (Kd.R_reads' HO341.out).2.1)
        (case side3 => repeat (first | exact (Kd.R_reads' HO344.out).2.2 | (with_reducible refine Kd.C_alloc ?_ _) | (with_reducible refine Kd.C_drewN ?_ _) | (with_reducible refine Kd.C_drew ?_)))
        (case side4 => exact (Kd.R_reads' HO344.out).2.1)
        rintro e w' ⟨rfl, ⟨nd, rfl⟩⟩
        refine ⟨_, rfl, ?_⟩
        refine hK.out _ _ ⟨(blk_cell BK330.out 0).trans rfl, (blk_cell BK330.out 1).trans rfl, (blk_cell BK330.out 2).trans rfl, (blk_cell BK330.out 3).trans rfl, (blk_cell BK330.out 4).trans rfl⟩ (fun hHeld => ?_)
        clear hK K
        refine norm_ (a' := ?_) ?_ ?_
        rotate_left
        ·show Act.put _ (some 54) _ = _
         simp only [Act.put, zT, z0, zS, i64_w, i32_w]
         rfl
        refine pure_ (i := 26) (N := some 55) (v := ?_) (a' := ?_) #[true, true, true, true, true, true, true, true, true, true, true, true, true, true, true, true, true, true, true, true, true, true, true, true, true, true, true, false, false, false, false, false, false, false, false, false, false, false, false, false, false, false] rfl rfl (any_of HT_.out (by kernel_rfl)) (fun _ _ _ h => h) (Or.inl ⟨by rfl, ?_⟩) ?_ ?_
        rotate_left
        ·intro w'
         go_simp
         with_reducible rfl
        rotate_left
        ·simp only [Act.put, zT, z0, zS, i64_w, i32_w]
         rfl
        refine pure_ (i := 27) (N := some 56) (v := ?_) (a' := ?_) #[true, true, true, true, true, true, true, true, true, true, true, true, true, true, true, true, true, true, true, true, true, true, true, true, true, true, true, true, false, false, false, false, false, false, false, false, false, false, false, false, false, false] rfl rfl (any_of HT_.out (by kernel_rfl)) (fun _ _ _ h => h) (Or.inl ⟨by rfl, ?_⟩) ?_ ?_
        rotate_left
        ·intro w'
         go_simp
         with_reducible rfl
        rotate_left
        ·simp only [Act.put, zT, z0, zS, i64_w, i32_w]
         rfl
        refine pure_ (i := 28) (N := some 57) (v := ?_) (a' := ?_) #[true, true, true, true, true, true, true, true, true, true, true, true, true, true, true, true, true, true, true, true, true, true, true, true, true, true, true, true, true, false, false, false, false, false, false, false, false, false, false, false, false, false] rfl rfl (any_of HT_.out (by kernel_rfl)) (fun _ _ _ h => h) (Or.inl ⟨by rfl, ?_⟩) ?_ ?_
        rotate_left
        ·intro w'
         go_simp
         with_reducible rfl
        rotate_left
        ·simp only [Act.put, zT, z0, zS, i64_w, i32_w]
         rfl
        refine pure_ (i := 30) (N := some 59) (v := ?_) (a' := ?_) #[true, true, true, true, true, true, true, true, true, true, true, true, true, true, true, true, true, true, true, true, true, true, true, true, true, true, true, true, true, false, true, false, false, false, false, false, false, false, false, false, false, false] rfl rfl (any_of HT_.out (by kernel_rfl)) (fun _ _ _ h => h) (Or.inl ⟨by rfl, ?_⟩) ?_ ?_
        rotate_left
        ·intro w'
         go_simp
         with_reducible rfl
        rotate_left
        ·simp only [Act.put, zT, z0, zS, i64_w, i32_w]
         rfl
        refine one_ (i := 29) (N := some 58) #[true, true, true, true, true, true, true, true, true, true, true, true, true, true, true, true, true, true, true, true, true, true, true, true, true, true, true, true, true, true, true, false, false, false, false, false, false, false, false, false, false, false] rfl rfl (one_of HT_.out (by kernel_rfl)) (by decide) (fun K hK => ?_)
        refine goes_ Try.func26 (by kernel_rfl) rfl #[.slice A0 l0.length c0] (by rfl) rfl rfl (by (try simp only [List.map_toArray, List.map_cons, List.map_nil]); first | done | rfl | (simp only [List.length_drop, List.length_take]; rfl)) ?_
        with_reducible refine (tree_Depth.calls k _ _ l0 t346 _ ?side1 ?side2 A19.out).mono ?_
        (case side1 => repeat (first | exact (Kd.C_below HR0.out (by repeat (first | (with_reducible first | exact HB.out | apply lA | apply lN | apply lD | refine below_set ?_ GE330.out) | exact HB.out))) | (with_reducible refine Kd.C_alloc ?_ _) | (with_reducible refine Kd.C_drewN ?_ _) | (with_reducible refine Kd.C_drew ?_)))
        (case side2 => exact HC0.out)
        rintro e w35 ⟨rfl, hb⟩
        refine ⟨_, rfl, ?_⟩
        have n0_ := am (Kd.R_below (by (with_reducible repeat (first | apply Kd.R_alloc | apply Kd.R_drewN | apply Kd.R_drew)); exact HO341.out) hb)
        have n1_ := am (Kd.R_below (by (with_reducible repeat (first | apply Kd.R_alloc | apply Kd.R_drewN | apply Kd.R_drew)); exact HO344.out) hb)
        have n2_ := am (bB (g := gb330) (o := .cells #[.int .i64 a2_0, .string a2_1, .string a2_2, .string a2_3, .slice A2_4 l2_4.length c2_4] 25 (0, 0)) (by (with_reducible repeat (first | refine bN ?_ _ | refine bD ?_ | refine bA ?_ _)); exact BK330.out) hb)
        have n3_ := am (below_step (by repeat (first | (with_reducible first | exact HB.out | apply lA | apply lN | apply lD | refine below_set ?_ GE330.out) | exact HB.out)) hb)
        clear HO341
        clear HO344
        clear BK330
        clear HB
        have HO341 := n0_
        have HO344 := n1_
        have BK330 := n2_
        have HB := n3_
        clear n0_ n1_ n2_ n3_
        (try clear hb)
        (try clear hb2)
        (try clear hk)
        (try clear hi)
        refine hK.out _ _ ⟨(blk_cell BK330.out 0).trans rfl, (blk_cell BK330.out 1).trans rfl, (blk_cell BK330.out 2).trans rfl, (blk_cell BK330.out 3).trans rfl, (blk_cell BK330.out 4).trans rfl⟩ (fun hHeld => ?_)
        clear hK K
        refine norm_ (a' := ?_) ?_ ?_
        rotate_left
        ·show Act.put _ (some 58) _ = _
         simp only [Act.put, zT, z0, zS, i64_w, i32_w]
         rfl
        refine one_ (i := 31) (N := some 60) #[true, true, true, true, true, true, true, true, true, true, true, true, true, true, true, true, true, true, true, true, true, true, true, true, true, true, true, true, true, true, true, true, false, false, false, false, false, false, false, false, false, false] rfl rfl (one_of HT_.out (by kernel_rfl)) (by decide) (fun K hK => ?_)
        refine goes_ Try.func27 (by kernel_rfl) rfl #[.slice A0 l0.length c0] (by rfl) rfl rfl (by (try simp only [List.map_toArray, List.map_cons, List.map_nil]); first | done | rfl | (simp only [List.length_drop, List.length_take]; rfl)) ?_
        with_reducible refine (reredosref08_Depth.calls k _ _ l0 t347 _ ?side1 ?side2 A20.out).mono ?_
        (case side1 => repeat (first | exact (Kd.C_below HR0.out HB.out) | (with_reducible refine Kd.C_alloc ?_ _) | (with_reducible refine Kd.C_drewN ?_ _) | (with_reducible refine Kd.C_drew ?_)))
        (case side2 => exact HC0.out)
        rintro e w36 ⟨rfl, hb⟩
        refine ⟨_, rfl, ?_⟩
        have n0_ := am (Kd.R_below (by (with_reducible repeat (first | apply Kd.R_alloc | apply Kd.R_drewN | apply Kd.R_drew)); exact HO341.out) hb)
        have n1_ := am (Kd.R_below (by (with_reducible repeat (first | apply Kd.R_alloc | apply Kd.R_drewN | apply Kd.R_drew)); exact HO344.out) hb)
        have n2_ := am (bB (g := gb330) (o := .cells #[.int .i64 a2_0, .string a2_1, .string a2_2, .string a2_3, .slice A2_4 l2_4.length c2_4] 25 (0, 0)) (by (with_reducible repeat (first | refine bN ?_ _ | refine bD ?_ | refine bA ?_ _)); exact BK330.out) hb)
        have n3_ := am (below_step (by repeat (first | (with_reducible first | exact HB.out | apply lA | apply lN | apply lD | refine below_set ?_ GE330.out) | exact HB.out)) hb)
        clear HO341
        clear HO344
        clear BK330
        clear HB
        have HO341 := n0_
        have HO344 := n1_
        have BK330 := n2_
        have HB := n3_
        clear n0_ n1_ n2_ n3_
        (try clear hb)
        (try clear hb2)
        (try clear hk)
        (try clear hi)
        refine hK.out _ _ ⟨(blk_cell BK330.out 0).trans rfl, (blk_cell BK330.out 1).trans rfl, (blk_cell BK330.out 2).trans rfl, (blk_cell BK330.out 3).trans rfl, (blk_cell BK330.out 4).trans rfl⟩ (fun hHeld => ?_)
        clear hK K
        refine norm_ (a' := ?_) ?_ ?_
        rotate_left
        ·show Act.put _ (some 60) _ = _
         simp only [Act.put, zT, z0, zS, i64_w, i32_w]
         rfl
        refine pure_ (i := 32) (N := some 61) (v := ?_) (a' := ?_) #[true, true, true, true, true, true, true, true, true, true, true, true, true, true, true, true, true, true, true, true, true, true, true, true, true, true, true, true, true, true, true, true, true, false, false, false, false, false, false, false, false, false] rfl rfl (any_of HT_.out (by kernel_rfl)) (fun _ _ _ h => h) (Or.inl ⟨by rfl, ?_⟩) ?_ ?_
        rotate_left
        ·intro w'
         go_simp
         with_reducible rfl
        rotate_left
        ·simp only [Act.put, zT, z0, zS, i64_w, i32_w]
         rfl
        refine pure_ (i := 33) (N := some 62) (v := ?_) (a' := ?_) #[true, true, true, true, true, true, true, true, true, true, true, true, true, true, true, true, true, true, true, true, true, true, true, true, true, true, true, true, true, true, true, true, true, true, false, false, false, false, false, false, false, false] rfl rfl (any_of HT_.out (by kernel_rfl)) (fun _ _ _ h => h) (Or.inl ⟨by rfl, ?_⟩) ?_ ?_
        rotate_left
        ·intro w'
         go_simp
         with_reducible rfl
        rotate_left
        ·simp only [Act.put, zT, z0, zS, i64_w, i32_w]
         rfl
        refine pure_ (i := 34) (N := some 63) (v := ?_) (a' := ?_) #[true, true, true, true, true, true, true, true, true, true, true, true, true, true, true, true, true, true, true, true, true, true, true, true, true, true, true, true, true, true, true, true, true, true, true, false, false, false, false, false, false, false] rfl rfl (any_of HT_.out (by kernel_rfl)) (fun _ _ _ h => h) (Or.inl ⟨by rfl, ?_⟩) ?_ ?_
        rotate_left
        ·intro w'
         go_simp
         with_reducible rfl
        rotate_left
        ·simp only [Act.put, zT, z0, zS, i64_w, i32_w]
         rfl
        refine pure_ (i := 35) (N := some 64) (v := ?_) (a' := ?_) #[true, true, true, true, true, true, true, true, true, true, true, true, true, true, true, true, true, true, true, true, true, true, true, true, true, true, true, true, true, true, true, true, true, true, true, true, false, false, false, false, false, false] rfl rfl (any_of HT_.out (by kernel_rfl)) (fun _ _ _ h => h) (Or.inl ⟨by rfl, ?_⟩) ?_ ?_
        rotate_left
        ·intro w'
         go_simp
         with_reducible rfl
        rotate_left
        ·simp only [Act.put, zT, z0, zS, i64_w, i32_w]
         rfl
        refine pure_ (i := 37) (N := some 66) (v := ?_) (a' := ?_) #[true, true, true, true, true, true, true, true, true, true, true, true, true, true, true, true, true, true, true, true, true, true, true, true, true, true, true, true, true, true, true, true, true, true, true, true, false, true, false, false, false, false] rfl rfl (any_of HT_.out (by kernel_rfl)) (fun _ _ _ h => h) (Or.inl ⟨by rfl, ?_⟩) ?_ ?_
        rotate_left
        ·intro w'
         go_simp
         with_reducible rfl
        rotate_left
        ·simp only [Act.put, zT, z0, zS, i64_w, i32_w]
         rfl
        refine one_ (i := 36) (N := some 65) #[true, true, true, true, true, true, true, true, true, true, true, true, true, true, true, true, true, true, true, true, true, true, true, true, true, true, true, true, true, true, true, true, true, true, true, true, true, true, false, false, false, false] rfl rfl (one_of HT_.out (by kernel_rfl)) (by decide) (fun K hK => ?_)
        refine goes_ Try.func28 (by kernel_rfl) rfl #[.slice A0 l0.length c0] (by rfl) rfl rfl (by (try simp only [List.map_toArray, List.map_cons, List.map_nil]); first | done | rfl | (simp only [List.length_drop, List.length_take]; rfl)) ?_
        with_reducible refine (tree_May.calls k _ _ l0 t348 _ ?side1 ?side2 A22.out).mono ?_
        (case side1 => repeat (first | exact (Kd.C_below HR0.out HB.out) | (with_reducible refine Kd.C_alloc ?_ _) | (with_reducible refine Kd.C_drewN ?_ _) | (with_reducible refine Kd.C_drew ?_)))
        (case side2 => exact HC0.out)
        rintro e w37 ⟨rfl, hb⟩
        refine ⟨_, rfl, ?_⟩
        have n0_ := am (Kd.R_below (by (with_reducible repeat (first | apply Kd.R_alloc | apply Kd.R_drewN | apply Kd.R_drew)); exact HO341.out) hb)
        have n1_ := am (Kd.R_below (by (with_reducible repeat (first | apply Kd.R_alloc | apply Kd.R_drewN | apply Kd.R_drew)); exact HO344.out) hb)
        have n2_ := am (bB (g := gb330) (o := .cells #[.int .i64 a2_0, .string a2_1, .string a2_2, .string a2_3, .slice A2_4 l2_4.length c2_4] 25 (0, 0)) (by (with_reducible repeat (first | refine bN ?_ _ | refine bD ?_ | refine bA ?_ _)); exact BK330.out) hb)
        have n3_ := am (below_step (by repeat (first | (with_reducible first | exact HB.out | apply lA | apply lN | apply lD | refine below_set ?_ GE330.out) | exact HB.out)) hb)
        clear HO341
        clear HO344
        clear BK330
        clear HB
        have HO341 := n0_
        have HO344 := n1_
        have BK330 := n2_
        have HB := n3_
        clear n0_ n1_ n2_ n3_
        (try clear hb)
        (try clear hb2)
        (try clear hk)
        (try clear hi)
        refine hK.out _ _ ⟨(blk_cell BK330.out 0).trans rfl, (blk_cell BK330.out 1).trans rfl, (blk_cell BK330.out 2).trans rfl, (blk_cell BK330.out 3).trans rfl, (blk_cell BK330.out 4).trans rfl⟩ (fun hHeld => ?_)
        clear hK K
        refine norm_ (a' := ?_) ?_ ?_
        rotate_left
        ·show Act.put _ (some 65) _ = _
         simp only [Act.put, zT, z0, zS, i64_w, i32_w]
         rfl
        refine one_ (i := 38) (N := some 67) #[true, true, true, true, true, true, true, true, true, true, true, true, true, true, true, true, true, true, true, true, true, true, true, true, true, true, true, true, true, true, true, true, true, true, true, true, true, true, true, false, false, false] rfl rfl (one_of HT_.out (by kernel_rfl)) (by decide) (fun K hK => ?_)
        refine goes_ Try.func29 (by kernel_rfl) rfl #[.slice A0 l0.length c0] (by rfl) rfl rfl (by (try simp only [List.map_toArray, List.map_cons, List.map_nil]); first | done | rfl | (simp only [List.length_drop, List.length_take]; rfl)) ?_
        with_reducible refine (reredosref08_May.calls k _ _ l0 t349 _ ?side1 ?side2 A23.out).mono ?_
        (case side1 => repeat (first | exact (Kd.C_below HR0.out HB.out) | (with_reducible refine Kd.C_alloc ?_ _) | (with_reducible refine Kd.C_drewN ?_ _) | (with_reducible refine Kd.C_drew ?_)))
        (case side2 => exact HC0.out)
        rintro e w38 ⟨rfl, hb⟩
        refine ⟨_, rfl, ?_⟩
        have n0_ := am (Kd.R_below (by (with_reducible repeat (first | apply Kd.R_alloc | apply Kd.R_drewN | apply Kd.R_drew)); exact HO341.out) hb)
        have n1_ := am (Kd.R_below (by (with_reducible repeat (first | apply Kd.R_alloc | apply Kd.R_drewN | apply Kd.R_drew)); exact HO344.out) hb)
        have n2_ := am (bB (g := gb330) (o := .cells #[.int .i64 a2_0, .string a2_1, .string a2_2, .string a2_3, .slice A2_4 l2_4.length c2_4] 25 (0, 0)) (by (with_reducible repeat (first | refine bN ?_ _ | refine bD ?_ | refine bA ?_ _)); exact BK330.out) hb)
        have n3_ := am (below_step (by repeat (first | (with_reducible first | exact HB.out | apply lA | apply lN | apply lD | refine below_set ?_ GE330.out) | exact HB.out)) hb)
        clear HO341
        clear HO344
        clear BK330
        clear HB
        have HO341 := n0_
        have HO344 := n1_
        have BK330 := n2_
        have HB := n3_
        clear n0_ n1_ n2_ n3_
        (try clear hb)
        (try clear hb2)
        (try clear hk)
        (try clear hi)
        refine hK.out _ _ ⟨(blk_cell BK330.out 0).trans rfl, (blk_cell BK330.out 1).trans rfl, (blk_cell BK330.out 2).trans rfl, (blk_cell BK330.out 3).trans rfl, (blk_cell BK330.out 4).trans rfl⟩ (fun hHeld => ?_)
        clear hK K
        refine norm_ (a' := ?_) ?_ ?_
        rotate_left
        ·show Act.put _ (some 67) _ = _
         simp only [Act.put, zT, z0, zS, i64_w, i32_w]
         rfl
        refine pure_ (i := 39) (N := some 68) (v := ?_) (a' := ?_) #[true, true, true, true, true, true, true, true, true, true, true, true, true, true, true, true, true, true, true, true, true, true, true, true, true, true, true, true, true, true, true, true, true, true, true, true, true, true, true, true, false, false] rfl rfl (any_of HT_.out (by kernel_rfl)) (fun _ _ _ h => h) (Or.inl ⟨by rfl, ?_⟩) ?_ ?_
        rotate_left
        ·intro w'
         go_simp
         with_reducible rfl
        rotate_left
        ·simp only [Act.put, zT, z0, zS, i64_w, i32_w]
         rfl
        refine pure_ (i := 40) (N := some 69) (v := ?_) (a' := ?_) #[true, true, true, true, true, true, true, true, true, true, true, true, true, true, true, true, true, true, true, true, true, true, true, true, true, true, true, true, true, true, true, true, true, true, true, true, true, true, true, true, true, false] rfl rfl (any_of HT_.out (by kernel_rfl)) (fun _ _ _ h => h) (Or.inl ⟨by rfl, ?_⟩) ?_ ?_
        rotate_left
        ·intro w'
         go_simp
         with_reducible rfl
        rotate_left
        ·simp only [Act.put, zT, z0, zS, i64_w, i32_w]
         rfl
        refine pure_ (i := 41) (N := some 6) (v := ?_) (a' := ?_) #[true, true, true, true, true, true, true, true, true, true, true, true, true, true, true, true, true, true, true, true, true, true, true, true, true, true, true, true, true, true, true, true, true, true, true, true, true, true, true, true, true, true] rfl rfl (any_of HT_.out (by kernel_rfl)) (fun _ _ _ h => h) (Or.inl ⟨by rfl, ?_⟩) ?_ ?_
        rotate_left
        ·intro w'
         go_simp
         with_reducible rfl
        rotate_left
        ·simp only [Act.put, zT, z0, zS, i64_w, i32_w]
         rfl
        refine done_ (done_of HT_.out (by kernel_rfl)) ?_
        try go_wp2
        go_ret
        exact ⟨by first | rfl | (simp [errW_none, errW_some] <;> rfl) | (simp [*, errW_none, errW_some] <;> rfl), by repeat (first | (with_reducible first | exact HB.out | apply lA | apply lN | apply lD | refine below_set ?_ GE330.out) | exact HB.out)⟩
       ·rw [if_neg c21] at H
        exact absurd H (by simp)
      ·replace c18 := Bool.eq_false_iff.mpr c18
       subst c18
       have H1 : (none) = some r := by rw [if_neg (show ¬ (false = true) by decide)] at H; exact H
       clear H
       have H := H1
       clear H1
       exact absurd H (by simp)
     ·rw [if_neg c14] at H
      exact absurd H (by simp)
    ·rw [if_neg c13] at H
     exact absurd H (by simp)
   ·rw [if_neg c12] at H
    exact absurd H (by simp)
  ·replace c9 := Bool.eq_false_iff.mpr c9
   subst c9
   have H1 : (none) = some r := by rw [if_neg (show ¬ (false = true) by decide)] at H; exact H
   clear H
   have H := H1
   clear H1
   exact absurd H (by simp)
 ·replace c6 := Bool.eq_false_iff.mpr c6
  subst c6
  have H1 : (some t331) = some r := by rw [if_neg (show ¬ (false = true) by decide)] at H; exact H
  clear H
  have H := H1
  clear H1
  obtain rfl := Option.some.inj H
  go_enter Try.func3, Try.ntmps3
  go_wp2_with (first | ((with_reducible refine gate_dst (N := 5) rfl ?_); refine box_event ?hg (N := 5) ?hd (cs := #[.int .i64 a2_0, .string a2_1, .string a2_2, .string a2_3, .slice A2_4 l2_4.length c2_4]) (t := 25) ?hr ?_; (case hd => rfl); (case hg => rfl); (case hr => first | (go_simp; done) | (go_simp; rfl)); intro gb330 hg w39 hbox hb; have n0_ := am (below_step (by repeat (first | (with_reducible first | exact HB.out | apply lA | apply lN | apply lD) | exact HB.out)) hb); have n1_ := am (hbox); have n2_ := am ((by rw [hg]; exact (below_size (by repeat (first | (with_reducible first | exact HB.out | apply lA | apply lN | apply lD) | exact HB.out))) : w.heap.size ≤ gb330)); have n3_ := n2_; clear HB; have HB := n0_; have BK330 := n1_; have GW330 := n2_; have GE330 := n3_; clear n0_ n1_ n2_ n3_; clear hb hbox hg) | ((with_reducible refine gate_callee (f := 17) rfl ?_); refine goesL_ (some 12) rfl rfl Try.func17 (by kernel_rfl) rfl #[] rfl (by (try simp only [List.map_toArray, List.map_cons, List.map_nil]); first | done | rfl | (simp only [List.length_drop, List.length_take]; rfl)) ?_; (with_reducible refine (reredoslaw08_shown.calls k  t331 _ A4.out).mono ?_); rintro e w40 ⟨rfl, hb⟩; refine ⟨_, rfl, ?_⟩; have n0_ := am (bB (g := gb330) (o := .cells #[.int .i64 a2_0, .string a2_1, .string a2_2, .string a2_3, .slice A2_4 l2_4.length c2_4] 25 (0, 0)) (by (with_reducible repeat (first | refine bN ?_ _ | refine bD ?_ | refine bA ?_ _)); exact BK330.out) hb); have n1_ := am (below_step (by repeat (first | (with_reducible first | exact HB.out | apply lA | apply lN | apply lD | refine below_set ?_ GE330.out) | exact HB.out)) hb); clear BK330; clear HB; have BK330 := n0_; have HB := n1_; clear n0_ n1_; (try clear hb); (try clear hb2); (try clear hk); (try clear hi)) | ((with_reducible refine gate_callee (f := 18) rfl ?_); refine goesL_ (some 14) rfl rfl Try.func18 (by kernel_rfl) rfl #[.slice A0 l0.length c0] rfl (by (try simp only [List.map_toArray, List.map_cons, List.map_nil]); first | done | rfl | (simp only [List.length_drop, List.length_take]; rfl)) ?_; (with_reducible refine (reredosref08_Few.calls k _ _ l0 false _ ?side1 ?side2 A5.out).mono ?_); (case side1 => repeat (first | exact (Kd.C_below HR0.out HB.out) | (with_reducible refine Kd.C_alloc ?_ _) | (with_reducible refine Kd.C_drewN ?_ _) | (with_reducible refine Kd.C_drew ?_))); (case side2 => exact HC0.out); rintro e w' ⟨rfl, ⟨nd, rfl⟩⟩; refine ⟨_, rfl, ?_⟩))
  go_ret
  exact ⟨by first | rfl | (simp [errW_none, errW_some] <;> rfl) | (simp [*, errW_none, errW_some] <;> rfl), by repeat (first | (with_reducible first | exact HB.out | apply lA | apply lN | apply lD | refine below_set ?_ GE330.out) | exact HB.out)⟩
def reredoslaw08_TreeTells.Pure : Prop := ∀ (l0 : List (S25)) (a1 : Int) (a2_0 : Int) (a2_1 : ByteArray) (a2_2 : ByteArray) (a2_3 : ByteArray) (l2_4 : List ByteArray), (l0.length ≤ maxLen ∧ ∀ e_ ∈ l0, (((Lit.int .i64 e_.f0).wf = true) ∧ (e_.f1.size ≤ maxLen) ∧ (e_.f2.size ≤ maxLen) ∧ (e_.f3.size ≤ maxLen) ∧ (e_.f4.length ≤ maxLen ∧ ∀ ee_ ∈ e_.f4, (ee_.size ≤ maxLen)))) → ((Lit.int .i64 a1).wf = true) → ((Lit.int .i64 a2_0).wf = true) → (a2_1.size ≤ maxLen) → (a2_2.size ≤ maxLen) → (a2_3.size ≤ maxLen) → (l2_4.length ≤ maxLen ∧ ∀ e_ ∈ l2_4, (e_.size ≤ maxLen)) → ∃ k, reredoslaw08_TreeTells.f k l0 a1 a2_0 a2_1 a2_2 a2_3 l2_4 = some true
end Go.Proofs.Ytdelccahgchadaa.P
end
section
namespace Go.Proofs.Ytdelccahgchadaa
open Go.ChangeShapes Go.WideShapes Go.ChangeAt Go.RowKit Go.Deep Go.Proofs.YtdelccahgchadaaW.PrintWords Go.Proofs.YtdelccahgchadaaW.PrintLast Go.Proofs.YtdelccahgchadaaW.PrintMore
set_option linter.unusedVariables false
def Opens {H : Type} (enc : TypeId × Value → H) (P : Program) (w : World) (t : TypeId) {α : Type} (K : Kd α) (wf : α → Prop) : Prop :=
  ∀ (spare : Nat → Bool) (held : Bool) (fuel : Nat) (cs : List Value) (x : DataW H × List MemPlace), DataW.trod enc P w 0 spare held fuel t cs = some x → ∃ a, K.K w a cs ∧ wf a
section
variable {H : Type} {enc : TypeId × Value → H} {P : Program} {w : World}
theorem opens_int {t : TypeId} {k : IntKind} (hu : P.underlying t = some (.int k)) : Opens enc P w t (Kd.int k) (fun n => (Lit.int k n).wf = true) := fun spare held fuel cs x h => by
  obtain ⟨n, rfl, _, hw⟩ := DataW.trod_int hu h
  exact ⟨n, rfl, hw⟩
theorem opens_string {t : TypeId} (hu : P.underlying t = some .string) : Opens enc P w t Kd.string (fun s => s.size ≤ maxLen) := fun spare held fuel cs x h => by
  obtain ⟨n, rfl, _, hw⟩ := DataW.trod_string hu h
  exact ⟨n, rfl, hw⟩
theorem choose_list {α : Type} (n : Nat) (p : Nat → α → Prop) (h : ∀ i, i < n → ∃ a, p i a) : ∃ l : List α, l.length = n ∧ ∀ i a, l[i]? = some a → p i a := by
  induction n with
  | zero => exact ⟨[], rfl, fun i a h => by simp at h⟩
  | succ n ih =>
    obtain ⟨l, hl, hp⟩ := ih fun i hi => h i (by omega)
    obtain ⟨a, ha⟩ := h n (by omega)
    refine ⟨l ++ [a], by simp [hl], fun i b hb => ?_⟩
    rcases Nat.lt_or_ge i l.length with hi | hi
    · rw [List.getElem?_append_left hi] at hb
      exact hp i b hb
    · have hi' : i = l.length := by
        have := (List.getElem?_eq_some_iff.1 hb).1
        simp at this
        omega
      subst hi'
      simp at hb
      subst hb
      rw [hl]
      exact ha
theorem opens_slice {t e : TypeId} {α : Type} {K : Kd α} {wf : α → Prop} (hu : P.underlying t = some (.slice e)) (hsz : P.cellsOf e = K.sz) (h : Opens enc P w e K wf) :
    Opens enc P w t (Kd.slice e K) (fun l => l.length ≤ maxLen ∧ ∀ x ∈ l, wf x) := fun spare held fuel cs x hx => by
  rcases open_slice hu hx with ⟨rfl, _⟩ | ⟨a, len, cap, m, n, D, Pl, rfl, _, hl, hm, hmm, _, hel⟩
  · exact ⟨[], ⟨none, 0, rfl, Nat.le_refl _, ⟨rfl, by simp, fun h0 => absurd h0 (Nat.lt_irrefl 0)⟩⟩, by simp, fun _ hx => by simp at hx⟩
  · have hlm : len ≤ m := by rw [hmm]; split <;> omega
    obtain ⟨l, hll, hp⟩ := choose_list len (fun i x => ∃ cs', w.cells? 0 (a.add (i * P.cellsOf e)) (P.cellsOf e) = some cs' ∧ K.K w x cs' ∧ wf x) fun i hi => by
      obtain ⟨cs', h1, h2⟩ := hel i (by omega)
      obtain ⟨x, h3, h4⟩ := h spare held n cs' _ h2
      exact ⟨x, cs', h1, h3, h4⟩
    subst hll
    refine ⟨l, ⟨some a, cap, rfl, hl, ⟨rfl, by unfold maxLen at hm; omega, fun _ => ⟨a, rfl, fun j p hj => ?_⟩⟩⟩, Nat.le_trans hl hm, fun x hx => ?_⟩
    · obtain ⟨cs', h1, h2, _⟩ := hp j p hj
      refine ⟨cs', K.K_len h2, h2, fun i u hu => ?_⟩
      have hc := World.cells?_some h1
      have hi : i < P.cellsOf e := by
        have h5 := (List.getElem?_eq_some_iff.1 hu).1
        rw [K.K_len h2, ← hsz] at h5
        exact h5
      have := hc.2.2 i hi
      rw [Go.Deep.add_add, hsz] at this
      rw [this]
      exact hu
    · obtain ⟨i, hi⟩ := List.getElem?_of_mem hx
      obtain ⟨_, _, _, h4⟩ := hp i x hi
      exact h4
def OpensF {H : Type} (enc : TypeId × Value → H) (P : Program) (w : World) (fs : List Field) (off : Nat) {α : Type} (K : Kd α) (wf : α → Prop) : Prop :=
  ∀ (spare : Nat → Bool) (held : Bool) (fuel : Nat) (cs : List Value), cs.length = off + K.sz →
    (∀ f ∈ fs, ∃ x, DataW.trod enc P w 0 spare held fuel f.type ((cs.drop f.offset).take (P.cellsOf f.type)) = some x) → ∃ a, K.K w a (cs.drop off) ∧ wf a
theorem opensF_last {f : Field} {off : Nat} {α : Type} {K : Kd α} {wf : α → Prop} (hoff : f.offset = off) (hsz : P.cellsOf f.type = K.sz) (h : Opens enc P w f.type K wf) : OpensF enc P w [f] off K wf := fun spare held fuel cs hl hf => by
  obtain ⟨x, hx⟩ := hf f (List.mem_singleton.2 rfl)
  obtain ⟨a, h1, h2⟩ := h _ _ _ _ _ hx
  refine ⟨a, ?_, h2⟩
  rw [hoff, hsz, List.take_of_length_le (by rw [List.length_drop]; omega)] at h1
  exact h1
theorem opensF_cons {f : Field} {fs : List Field} {off : Nat} {α β : Type} {K : Kd α} {K2 : Kd β} {wf : α → Prop} {wf2 : β → Prop} (hoff : f.offset = off) (hsz : P.cellsOf f.type = K.sz) (h : Opens enc P w f.type K wf) (hr : OpensF enc P w fs (off + K.sz) K2 wf2) :
    OpensF enc P w (f :: fs) off (Kd.pair K K2) (fun a => wf a.1 ∧ wf2 a.2) := fun spare held fuel cs hl hf => by
  obtain ⟨x, hx⟩ := hf f List.mem_cons_self
  obtain ⟨a, h1, h2⟩ := h _ _ _ _ _ hx
  obtain ⟨b, h3, h4⟩ := hr spare held fuel cs (by rw [hl]; show off + (K.sz + K2.sz) = _; omega) (fun g hg => hf g (List.mem_cons_of_mem _ hg))
  refine ⟨(a, b), ⟨_, _, ?_, h1, h3⟩, h2, h4⟩
  rw [hoff, hsz, ← List.drop_drop, List.take_append_drop]
theorem opens_struct {t : TypeId} {fs : Array Field} {α : Type} {K : Kd α} {wf : α → Prop} (hu : P.underlying t = some (.struct fs)) (hc : P.cellsOf t = K.sz) (h : OpensF enc P w fs.toList 0 K wf) : Opens enc P w t K wf := fun spare held fuel cs x hx => by
  obtain ⟨xs, n, _, _, hl, hn, hel⟩ := DataW.trod_struct hu hx
  refine h spare held n cs (by rw [hl, hc]; omega) (fun f hf => ?_)
  obtain ⟨i, hi⟩ := List.getElem?_of_mem hf
  have hi' : fs[i]? = some f := by simpa using hi
  have hlt : i < xs.length := by
    rw [hn]
    exact (Array.getElem?_eq_some_iff.1 hi').1
  exact ⟨_, (hel i f hi').trans (List.getElem?_eq_getElem hlt)⟩
theorem opens_iso {t : TypeId} {α β : Type} {K : Kd α} {wf : α → Prop} (f : β → α) (g : α → β) (hfg : ∀ a, f (g a) = a) (h : Opens enc P w t K wf) : Opens enc P w t (Kd.iso K f) (fun b => wf (f b)) := fun spare held fuel cs x hx => by
  obtain ⟨a, h1, h2⟩ := h _ _ _ _ _ hx
  exact ⟨g a, by show K.K w (f (g a)) cs; rw [hfg]; exact h1, by show wf (f (g a)); rw [hfg]; exact h2⟩
theorem arg_slice {t e : TypeId} {α : Type} {K : Kd α} {wf : List α → Prop} {r : Reach} {b0 : Nat} {v : Value} {d : DataW H} {p : List MemPlace} {spare : Nat → Bool} {held : Bool} (hu : P.underlying t = some (.slice e)) (ho : Opens enc P w t (Kd.slice e K) wf)
    (hv : Value.okWide P w r b0 t v) (h : DataW.Trod enc P w 0 spare held t v d p) : ∃ A c l, v = .slice A l.length c ∧ l.length ≤ c ∧ K.C w A l.length l ∧ wf l := by
  obtain ⟨a, len, cap, rfl⟩ := okWide_slice hu hv
  obtain ⟨fuel, hf⟩ := h
  obtain ⟨l, ⟨A, c, he, hl, hc⟩, hw⟩ := ho _ _ _ _ _ hf
  simp only [Value.cells, List.cons.injEq, and_true] at he
  exact ⟨A, c, l, he, hl, hc, hw⟩
theorem arg_struct {t : TypeId} {fs : Array Field} {α : Type} {K : Kd α} {wf : α → Prop} {r : Reach} {b0 : Nat} {v : Value} {d : DataW H} {p : List MemPlace} {spare : Nat → Bool} {held : Bool} (hu : P.underlying t = some (.struct fs)) (ho : Opens enc P w t K wf)
    (hv : Value.okWide P w r b0 t v) (h : DataW.Trod enc P w 0 spare held t v d p) : ∃ a cs, v = .agg cs ∧ K.K w a cs.toList ∧ wf a := by
  obtain ⟨cs, rfl, _⟩ := okWide_struct hu hv
  obtain ⟨fuel, hf⟩ := h
  obtain ⟨a, h1, h2⟩ := ho _ _ _ _ _ hf
  exact ⟨a, cs, rfl, h1, h2⟩
theorem of_toList {cs : Array Value} {l : List Value} (h : cs.toList = l) : cs = l.toArray := by rw [← h]
theorem trod_places {t : TypeId} {v : Value} {d : DataW H} {p : List MemPlace} {spare : Nat → Bool} {held : Bool} (h : DataW.Trod enc P w 0 spare held t v d p) : ∀ x ∈ p, x.block < w.heap.size := by
  obtain ⟨m, hm⟩ := h
  exact DataW.trod_lt m _ _ _ hm
end
end Go.Proofs.Ytdelccahgchadaa
end
section
namespace Go.Proofs.Ytdelccahgchadaa
open Go.RowKit Go.Lib Go.Proofs.Ytdelccahgchadaa.P Go.Proofs.YtdelccahgchadaaW.PrintWords Go.Proofs.YtdelccahgchadaaW.PrintMore
set_option linter.unusedVariables false
abbrev Bs := List UInt8
abbrev L (s : ByteArray) : Bs := s.data.toList
theorem L_size (s : ByteArray) : s.size = (L s).length := by simp
theorem L_append (a b : ByteArray) : L (a ++ b) = L a ++ L b := by simp
theorem L_ext {a b : ByteArray} (h : L a = L b) : a = b := by
  cases a; cases b; congr 1; exact Array.toList_inj.1 h
theorem L_mk (l : Bs) : L ⟨l.toArray⟩ = l := rfl
theorem L_extract (s : ByteArray) (a b : Nat) : L (s.extract a b) = ((L s).drop a).take (b - a) := Lib.extract_data s a b
theorem L_end (s : ByteArray) (a : Nat) : L (s.extract a s.size) = (L s).drop a := Lib.extract_to_end s a
theorem L_bt (s : ByteArray) (i : Nat) (h : i < (L s).length) : bt s (i : Int) = ((L s)[i].toNat : Int) := by
  unfold bt
  rw [dif_pos (by simpa using h)]
  rfl
theorem toList_L (s : ByteArray) : s.toList = L s := Go.ByteArray.toList_eq s
def trimC (c : UInt8) : Bs → Bs
  | [] => []
  | x :: l => if x = c then l else x :: l
theorem trimC_eq (c : UInt8) (l : Bs) : Lib.trimPrefix l [c] = trimC c l := by
  unfold Lib.trimPrefix Lib.hasPrefix
  cases l with
  | nil => rfl
  | cons x l =>
    by_cases h : x = c
    · subst h; simp [trimC]
    · have h2 : ¬ c = x := fun h2 => h h2.symm
      simp [trimC, h, h2]
def runL (p : Int → Bool) (l : Bs) : Nat := (l.takeWhile fun c => p (c.toNat : Int)).length
theorem runN_eq (p : Int → Bool) (s : ByteArray) : Ytdelccahgchadaa.P.runN p s = runL p (L s) := rfl
theorem runL_le (p : Int → Bool) (l : Bs) : runL p l ≤ l.length := by
  unfold runL
  exact List.Sublist.length_le (List.takeWhile_sublist _)
theorem runL_cons (p : Int → Bool) (c : UInt8) (l : Bs) : runL p (c :: l) = if p (c.toNat : Int) = true then runL p l + 1 else 0 := by
  unfold runL
  rw [List.takeWhile_cons]
  split <;> simp
theorem runL_all (p : Int → Bool) (l : Bs) : runL p l = l.length ↔ l.all (fun c => p (c.toNat : Int)) = true := by
  induction l with
  | nil => simp [runL]
  | cons x l ih =>
    rw [runL_cons, List.all_cons]
    by_cases hp : p (x.toNat : Int) = true
    · rw [if_pos hp, hp, Bool.true_and, ← ih, List.length_cons]; omega
    · rw [if_neg hp]
      have : p (x.toNat : Int) = false := by simpa using hp
      rw [this, Bool.false_and, List.length_cons]
      constructor
      · intro h; omega
      · intro h; cases h
def figs (l : Bs) : Bool := l.all isFig
theorem isFig_isD (c : UInt8) : isFig c = isD (c.toNat : Int) := by
  unfold isFig isD
  rw [Bool.eq_iff_iff]
  simp
  omega
theorem figs_run (l : Bs) : figs l = true ↔ runL isD l = l.length := by
  rw [runL_all]
  unfold figs
  have : isFig = fun c : UInt8 => isD (c.toNat : Int) := funext isFig_isD
  rw [this]
def mayB (l : Bs) : Bool :=
  let f := trimC 45 l
  decide (1 ≤ f.length) && decide (f.length ≤ 100) && (!(f.head? == some 48) || l == [48]) && figs f
def numberL (l : Bs) : Option Bs :=
  let f := trimC 95 l
  let n := if f = l then f else 45 :: f
  if figs f && mayB n then some n else none
def signsL : Bs := [43, 45, 42, 37, 33, 38, 124, 60, 62, 61, 126, 44, 35, 94, 36, 63, 64]
def advsL : Bs := [39, 47, 92, 46, 96]
def marksL : Bs := [40, 41, 91, 93, 123, 125, 58]
def firstL (l : Bs) : Nat × Nat :=
  match l with
  | [] => (0, 0)
  | c :: _ =>
    if isLow (c.toNat : Int) = true then (2, runL isWordC l)
    else if isUp (c.toNat : Int) = true then (3, runL isVerbC l)
    else if signsL.contains c then (4, 1)
    else if advsL.contains c then (5, 1)
    else if marksL.contains c then (6, 1)
    else let f := trimC 95 l
      let n := l.length - f.length + runL isD f
      if (numberL (l.take n)).isSome then (1, n) else (0, 0)
structure Tk where
  kind : Nat
  text : Bs
  pos : Nat
deriving DecidableEq
def lexF : Nat → Nat → Bs → Nat ⊕ List Tk
  | 0, p, _ => .inl p
  | _ + 1, _, [] => .inr []
  | f + 1, p, c :: l =>
    if c = 32 then lexF f (p + 1) l
    else
      let k := (firstL (c :: l)).1
      let n := (firstL (c :: l)).2
      if k = 0 then .inl p
      else match lexF f (p + n) ((c :: l).drop n) with
        | .inl e => .inl e
        | .inr ts => .inr (⟨k, (c :: l).take n, p⟩ :: ts)
theorem trimC_len (c : UInt8) (l : Bs) : (trimC c l).length ≤ l.length ∧ l.length ≤ (trimC c l).length + 1 := by
  cases l with
  | nil => simp [trimC]
  | cons x l =>
    by_cases h : x = c
    · simp [trimC, h]
    · simp [trimC, h]
theorem runL_pos (p : Int → Bool) (c : UInt8) (l : Bs) (h : p (c.toNat : Int) = true) : 1 ≤ runL p (c :: l) := by
  rw [runL_cons, if_pos h]; omega
theorem low_word {c : Int} (h : isLow c = true) : isWordC c = true := by unfold isWordC; rw [h]; rfl
theorem up_verb {c : Int} (h : isUp c = true) : isVerbC c = true := by unfold isVerbC; rw [h]; simp
theorem numberL_take_pos {l : Bs} {n : Nat} (h : (numberL (l.take n)).isSome = true) : 1 ≤ n := by
  cases n with
  | zero => rw [List.take_zero] at h; revert h; decide
  | succ n => omega
theorem firstL_bounds (c : UInt8) (l : Bs) (h : (firstL (c :: l)).1 ≠ 0) : 1 ≤ (firstL (c :: l)).2 ∧ (firstL (c :: l)).2 ≤ (c :: l).length ∧ (firstL (c :: l)).1 ≤ 6 := by
  unfold firstL at h ⊢
  simp only [] at h ⊢
  by_cases h1 : isLow (c.toNat : Int) = true
  · rw [if_pos h1]; exact ⟨runL_pos _ _ _ (low_word h1), runL_le _ _, by simp⟩
  · rw [if_neg h1] at h ⊢
    by_cases h2 : isUp (c.toNat : Int) = true
    · rw [if_pos h2]; exact ⟨runL_pos _ _ _ (up_verb h2), runL_le _ _, by simp⟩
    · rw [if_neg h2] at h ⊢
      by_cases h3 : signsL.contains c = true
      · rw [if_pos h3]; simp
      · rw [if_neg h3] at h ⊢
        by_cases h4 : advsL.contains c = true
        · rw [if_pos h4]; simp
        · rw [if_neg h4] at h ⊢
          by_cases h5 : marksL.contains c = true
          · rw [if_pos h5]; simp
          · rw [if_neg h5] at h ⊢
            by_cases h6 : (numberL ((c :: l).take ((c :: l).length - (trimC 95 (c :: l)).length + runL isD (trimC 95 (c :: l))))).isSome = true
            · rw [if_pos h6]
              have a := trimC_len 95 (c :: l)
              have b := runL_le isD (trimC 95 (c :: l))
              exact ⟨numberL_take_pos h6, by simp only []; omega, by simp⟩
            · rw [if_neg h6] at h; exact absurd rfl h
end Go.Proofs.Ytdelccahgchadaa
end
section
namespace Go.Proofs.Ytdelccahgchadaa
open Go.RowKit Go.Lib Go.Proofs.Ytdelccahgchadaa.P Go.Proofs.YtdelccahgchadaaW.PrintWords Go.Proofs.YtdelccahgchadaaW.PrintMore
set_option linter.unusedVariables false
deriving instance DecidableEq for Sum
def lexL (l : Bs) : Nat ⊕ List Tk := lexF (l.length + 1) 0 l
end Go.Proofs.Ytdelccahgchadaa
end
