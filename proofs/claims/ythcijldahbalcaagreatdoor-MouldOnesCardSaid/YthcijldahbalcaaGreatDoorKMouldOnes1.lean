/- What the law MouldOnes rests on, part 2: a machine for the model's programs, proved sound. -/
import Derived.Test.YthcijldahbalcaaGreatDoorKMouldOnes0
import Derived.Lib.AppendZeros
import Derived.Orders
import Derived.RangeFuncIn
import Derived.RangeFuncRecord
import Derived.RangeFuncCalls
import Derived.RangeFuncSeq
import Derived.TacticsIn
import Derived.Below
import Derived.Deep.Slices
import Derived.WideShapes
import Derived.ChangeArms
set_option linter.unusedVariables false
set_option linter.unusedSimpArgs false
section
namespace Go.PM
open Go
set_option linter.unusedVariables false
section
variable {C : Cfg} {N0 : Nat → Prop} {slot : Nat} {a : Act} {w : World} {φ : Phi} {H : Heap} {o : Oper}
theorem makeInterface_run {t : TypeId} {d : TypeDesc} {x : Value} (hu : C.P.underlying t = some d) (hn : ∀ ms, d ≠ .interface ms) : (Instr.makeInterface t x).run C.P w = .ok (.iface t x) w := by
  unfold Instr.makeInterface
  simp only [Sem.run_bind, run_underlying hu, Result.andThen_ok]
  cases d <;> first | rfl | exact absurd rfl (hn _)
theorem asserts_sound {N : Nat → Prop} {x d : DV} {v : Value} {xt asserted : TypeId} {ok : Bool} (hx : Rep w N φ x v) (h : C.asserts x asserted ok = some d) : ∃ y, Rep w N φ d y ∧ (Instr.typeAssert v xt asserted ok).run C.P w = .ok y w := by
  unfold Cfg.asserts at h
  split at h
  · cases h
  · rename_i dd t y hn hu
    unfold Rep at hx
    obtain ⟨x', rfl, hx⟩ := hx
    by_cases ht : t = asserted
    · rw [if_pos ht] at h
      simp only [Option.some.injEq] at h; subst h
      have hrun : (Instr.typeAssert (.iface t x') xt asserted ok).run C.P w = .ok (if ok then .tuple #[x', .bool true] else x') w := by
        unfold Instr.typeAssert
        simp only [Sem.run_bind, run_underlying hu, Result.andThen_ok]
        cases dd <;> first | exact absurd hu (hn _) | simp [ht]
      refine ⟨_, ?_, hrun⟩
      cases ok
      · exact hx
      · simp only [if_true]
        unfold Rep
        refine ⟨_, rfl, ?_⟩
        unfold RepL
        exact ⟨_, _, rfl, hx, RepL.one (by unfold Rep; rfl)⟩
    · rw [if_neg ht] at h
      cases ok with
      | false => cases h
      | true =>
        simp only [if_true] at h
        obtain ⟨z, hz, rfl⟩ := Option.map_eq_some_iff.1 h
        obtain ⟨i, vz, h1, h2, h3, _, _⟩ := zero_rep (w := w) (N := N) (φ := φ) hz
        have hrun : (Instr.typeAssert (.iface t x') xt asserted true).run C.P w = .ok (.tuple #[vz, .bool false]) w := by
          unfold Instr.typeAssert
          simp only [Sem.run_bind, run_underlying hu, Result.andThen_ok]
          cases dd <;> first | exact absurd hu (hn _) | simp [ht, run_zero h1 h2]
        refine ⟨_, ?_, hrun⟩
        unfold Rep
        refine ⟨_, rfl, ?_⟩
        unfold RepL
        exact ⟨_, _, rfl, h3, RepL.one (by unfold Rep; rfl)⟩
  · rename_i dd hn hu
    unfold Rep at hx
    subst hx
    cases ok with
    | false => simp at h
    | true =>
      simp only [if_true] at h
      obtain ⟨z, hz, rfl⟩ := Option.map_eq_some_iff.1 h
      obtain ⟨i, vz, h1, h2, h3, _, _⟩ := zero_rep (w := w) (N := N) (φ := φ) hz
      have hrun : (Instr.typeAssert .nilIface xt asserted true).run C.P w = .ok (.tuple #[vz, .bool false]) w := by
        unfold Instr.typeAssert
        simp only [Sem.run_bind, run_underlying hu, Result.andThen_ok]
        cases dd <;> first | exact absurd hu (hn _) | simp [run_zero h1 h2]
      refine ⟨_, ?_, hrun⟩
      unfold Rep
      refine ⟨_, rfl, ?_⟩
      unfold RepL
      exact ⟨_, _, rfl, h3, RepL.one (by unfold Rep; rfl)⟩
  · cases h
theorem exec_builtin {c : Call} {b : Builtin} (ho : o.op = .call c) (hb : c.callee = .builtin b) {x : Value} {w' : World}
    (h : (builtin b c.argTypes o.type (c.args.map fun | .const _ => true | _ => false) (c.args.map a.eval)).run C.P w = .ok (.value x) w') : (execOp a.eval o).run C.P w = .ok (.value x) w' := by
  simp only [execOp, ho, resolve, hb, Sem.run_bind, Sem.run_pure, Result.andThen_ok, invoke]
  exact h
theorem arg_map {c : Call} {k : Nat} {x : Operand} (h : c.args[k]? = some x) : (c.args.map a.eval)[k]? = some (a.eval x) := by simp [h]
theorem lenD_sound {N : Nat → Prop} {x : DV} {v : Value} {n : Nat} {t : TypeId} {d : TypeDesc} (hu : C.P.underlying t = some d) (hx : Rep w N φ x v) (h : lenD d x = some n) (hlive : ∀ id off len cap, x = .ref id off len cap → ∃ pb, φ id = some (some pb)) (ts : Array TypeId) (ty : TypeId) (vs : Array Value) (ht : ts[0]? = some t) (hv : vs[0]? = some v) :
    (Builtin.len_ ts ty vs).run C.P w = .ok (.int .i64 n) w := by
  have base1 : ∀ e A n c, d = .slice e → v = .slice A n c → (Builtin.len_ ts ty vs).run C.P w = .ok (.int .i64 n) w := by
    rintro e A n c rfl rfl
    unfold Builtin.len_
    simp only [ht, hv, Sem.run_bind, run_underlying hu, Result.andThen_ok]
    rfl
  have base2 : ∀ s, d = .string → v = .string s → (Builtin.len_ ts ty vs).run C.P w = .ok (.int .i64 s.size) w := by
    rintro s rfl rfl
    unfold Builtin.len_
    simp only [ht, hv, Sem.run_bind, run_underlying hu, Result.andThen_ok]
    rfl
  unfold lenD at h
  split at h
  · rename_i e es tt
    simp only [Option.some.injEq] at h; subst h
    unfold Rep at hx
    obtain ⟨_, A, c, rfl, _⟩ := hx
    exact base1 _ _ _ _ rfl rfl
  · rename_i s
    simp only [Option.some.injEq] at h; subst h
    unfold Rep at hx
    obtain ⟨t', rfl, rfl⟩ := hx
    rw [size_data]
    exact base2 _ rfl rfl
  · rename_i e id off len cap
    simp only [Option.some.injEq] at h; subst h
    obtain ⟨pb, h1⟩ := hlive _ _ _ _ rfl
    unfold Rep at hx
    obtain ⟨_, q, hq, hv'⟩ := hx
    rw [h1] at hq
    obtain ⟨c, rfl, _⟩ := hv' pb (by simpa using hq.symm)
    exact base1 _ _ _ _ rfl rfl
  · cases h
theorem minD_sound {N : Nat → Prop} {le : Bool} {x y d : DV} {v u : Value} (hx : Rep w N φ x v) (hy : Rep w N φ y u) (h : minD le x y = some d) :
    ∃ r, Rep w N φ d r ∧ ((if le then Builtin.min2 v u else Builtin.max2 v u).run C.P w = .ok r w) := by
  unfold minD at h
  split at h
  · unfold Rep at hx hy; subst hx; subst hy
    split at h
    · rename_i hk
      simp only [Option.some.injEq] at h; subst h
      subst hk
      refine ⟨_, by unfold Rep; rfl, ?_⟩
      cases le <;> simp [Builtin.min2, Builtin.max2]
    · cases h
  · cases h
theorem foldD_sound {N : Nat → Prop} {le : Bool} : ∀ {l : List DV} {x d : DV} {v : Value} {us : List Value}, Rep w N φ x v → RepL w N φ l us → foldD (minD le) x l = some d →
    ∃ r, Rep w N φ d r ∧ ((if le then us.foldlM Builtin.min2 v else us.foldlM Builtin.max2 v : Sem Value).run C.P w = .ok r w)
  | [], x, d, v, us, hx, hl, h => by
    unfold RepL at hl
    subst hl
    simp only [foldD, Option.some.injEq] at h; subst h
    exact ⟨v, hx, by cases le <;> rfl⟩
  | y :: l, x, d, v, us, hx, hl, h => by
    unfold RepL at hl
    obtain ⟨u, us', rfl, hy, hl⟩ := hl
    simp only [foldD] at h
    split at h
    · rename_i z hz
      obtain ⟨r, h1, h2⟩ := minD_sound (C := C) hx hy hz
      obtain ⟨r2, h3, h4⟩ := foldD_sound h1 hl h
      refine ⟨r2, h3, ?_⟩
      cases le
      · simp only [Bool.false_eq_true, if_false, List.foldlM_cons, Sem.run_bind] at h2 h4 ⊢
        rw [h2, Result.andThen_ok, h4]
      · simp only [if_true, List.foldlM_cons, Sem.run_bind] at h2 h4 ⊢
        rw [h2, Result.andThen_ok, h4]
    · cases h
theorem copyD_sound {rd : Nat → Option Blk} (hrel : HeapRel w N0 φ H) (hrd : ∀ id b, rd id = some b → H id = some b) {c : Call} (ho : o.op = .call c) (hb : c.callee = .builtin .copy) {od ox : Operand} (hargs : c.args = #[od, ox]) {t elem : TypeId} (ht : c.argTypes[0]? = some t)
    {i : TypeInfo} (hu : C.P.underlying t = some (.slice elem)) (hi : C.P.info? elem = some i) (h0 : 0 < i.size) {dd x v : DV} {e : Eff}
    (hd : Rep w (Nn N0 φ H) φ dd (a.eval od)) (hx : Rep w (Nn N0 φ H) φ x (a.eval ox)) (h : copyD rd i.size dd x = some (v, e)) : Gives C N0 slot a w φ H o v e := by
  unfold copyD at h
  have hb2 := Option.bind_eq_some_iff.1 h
  clear h
  obtain ⟨ys, hy, h⟩ := hb2
  obtain ⟨iy, B, xc, hxv, hxl, hxm⟩ := elemsOf_rep hrel hrd hx hy
  split at h
  · cases h
  · rename_i hhd
    simp only [Bool.not_eq_true', Bool.not_eq_false] at hhd
    have hex : ∀ r w', (Builtin.copy_ c.argTypes o.type #[a.eval od, a.eval ox]).run C.P w = .ok r w' → (execOp a.eval o).run C.P w = .ok (.value r) w' := fun r w' hr => by
      refine exec_builtin ho hb ?_
      rw [hargs]
      simp only [builtin, List.map_toArray, List.map_cons, List.map_nil, Sem.run_bind, hr, Result.andThen_ok, Sem.run_pure]
    split at h
    · rename_i id off len cap
      have hb3 := Option.bind_eq_some_iff.1 h
      clear h
      obtain ⟨r, hr, h⟩ := hb3
      have hH := hrd _ _ (rowAt_some hr)
      obtain ⟨pb, cur, vs, rest, h1, h2, h3, h4, h5, h6, h7, h8, h9, h10⟩ := hrel.row hH
      have hd0 := hd
      unfold Rep at hd
      obtain ⟨h1c, q, hq, hv⟩ := hd
      rw [h1] at hq
      obtain ⟨cc, hdv, hlc, hcap⟩ := hv pb (by simpa using hq.symm)
      split at h
      · cases h
      · rename_i hc
        simp only [Bool.or_eq_true, Bool.not_eq_true', bne_iff_ne, ne_eq, decide_eq_true_eq, not_or, Bool.not_eq_false, Bool.not_eq_true, Decidable.not_not, Nat.not_lt] at hc
        obtain ⟨⟨⟨hleaf, hfz⟩, hsz⟩, hlen⟩ := hc
        simp only [Option.some.injEq, Prod.mk.injEq] at h
        obtain ⟨rfl, rfl⟩ := h
        have hvl := h6.len
        rw [hsz] at hvl h6
        obtain ⟨us, hus, hcell⟩ : ∃ us, RepEs w (Nn N0 φ H) φ i.size ys us ∧ (ys = [] ∨ ∃ b o', B = some ⟨b, o', none⟩ ∧ CellsAt w b o' us) := by
          rcases hxm with rfl | ⟨b, o', sz, us, rfl, hys, hXc⟩
          · exact ⟨[], by unfold RepEs; rfl, .inl rfl⟩
          · rcases headSz_all hys hhd with rfl | rfl
            · exact ⟨[], by unfold RepEs; rfl, .inl rfl⟩
            · exact ⟨us, hys, .inr ⟨b, o', rfl, hXc⟩⟩
        have hul := hus.len
        obtain ⟨m, hm⟩ : ∃ m, m = Nat.min ys.length len := ⟨_, rfl⟩
        have hn : m = (ys.take len).length := by rw [hm, List.length_take, Nat.min_comm]
        have hE := hus.take len
        have htl := hE.len
        have hrun : (Builtin.copy_ c.argTypes o.type #[a.eval od, a.eval ox]).run C.P w = .ok (goInt (ys.take len).length) (w.setRow pb.b (cur.toList.take (off * i.size) ++ us.take (len * i.size) ++ cur.toList.drop (off * i.size + (us.take (len * i.size)).length)).toArray) := by
          have hfc : (Builtin.firstCells i.size m (.slice B ys.length xc)).run C.P w = .ok (us.take (len * i.size)).toArray w := by
            rw [hn]
            rcases hcell with rfl | ⟨b, o', rfl, hXc⟩
            · have : us = [] := by unfold RepEs at hus; exact hus
              subst this
              cases B <;> simp [Builtin.firstCells, loadCells, loadCellsFrom]
            · exact run_firstCells_some (P := C.P) w i.size _ _ _ _ _ htl (fun j v hj => by
                rw [Addr.add_lit]
                rw [List.getElem?_take] at hj
                split at hj
                · exact hXc j v hj
                · exact absurd hj (by simp))
          have hst := run_storeCells_at C.P pb.b (off * i.size) r.elem (us.take (len * i.size)) 0 cur w h2 (by
            rw [htl, List.length_take]
            have h12 := congrArg List.length h7
            simp only [Array.length_toList, List.length_append] at h12
            have h13 : (off + len) * i.size ≤ r.elems.length * i.size := Nat.mul_le_mul_right _ hlen
            have h14 : min len ys.length * i.size ≤ len * i.size := Nat.mul_le_mul_right _ (Nat.min_le_left _ _)
            rw [Nat.add_mul] at h13
            omega) hE.ones
          rw [hdv, hxv, h4, hsz]
          simp only [Nat.add_zero] at hst
          rw [← hn]
          simp [Builtin.copy_, ht, run_underlying hu, Builtin.lenOf, run_sizeOf hi, ← hm, hfc, hst]
        have hvs : off * i.size ≤ vs.length := by rw [hvl]; exact Nat.mul_le_mul_right _ (by omega)
        refine gives_write (x := goInt (ys.take len).length) (vs := vs.take (off * i.size) ++ us.take (len * i.size) ++ vs.drop ((off + (ys.take len).length) * i.size)) (rest := rest) hrel hH hfz h1 h2 (.inl (hex _ _ hrun)) rfl h4 h5 ?_ ?_ ?_ (fun _ => imms_append (imms_append (imms_take (h8 hleaf) _) (imms_take iy _)) (imms_drop (h8 hleaf) _)) (fun h => hleaf) (by unfold Rep; rfl)
        · have h12 := congrArg List.length h7
          simp only [Array.length_toList, List.length_append] at h12
          have h13 : (off + len) * i.size ≤ r.elems.length * i.size := Nat.mul_le_mul_right _ hlen
          rw [Nat.add_mul] at h13
          have h14 : (ys.take len).length * i.size ≤ len * i.size := Nat.mul_le_mul_right _ (by rw [List.length_take]; omega)
          simp only [List.size_toArray, List.length_append, List.length_take, List.length_drop, Array.length_toList] at htl h14 ⊢
          omega
        · show RepEs w (Nn N0 φ H) φ r.sz (r.elems.take off ++ ys.take len ++ r.elems.drop (off + (ys.take len).length)) _
          rw [hsz]
          exact ((h6.take _).append hE).append (h6.drop _)
        · simp only []
          have h15 : (off + (ys.take len).length) * i.size ≤ vs.length := by rw [hvl]; exact Nat.mul_le_mul_right _ (by rw [List.length_take]; omega)
          rw [htl, ← Nat.add_mul, h7, List.take_append_of_le_length hvs, List.drop_append_of_le_length h15]
          simp only [List.append_assoc]
    · rename_i tt
      simp only [Option.some.injEq, Prod.mk.injEq] at h
      obtain ⟨rfl, rfl⟩ := h
      unfold Rep at hd
      obtain ⟨_, A, cc, hdv, _⟩ := hd
      refine gives_val hrel (x := goInt 0) (hex _ _ ?_) (by unfold Rep; rfl)
      rw [hdv, hxv]
      simp only [List.length_nil]
      cases A <;> cases B <;> simp [Builtin.copy_, ht, run_underlying hu, Builtin.lenOf, run_sizeOf hi, Builtin.firstCells, loadCells, loadCellsFrom, storeCells]
    · cases h
end
end Go.PM
end
section
namespace Go.PM
open Go
set_option linter.unusedVariables false
section
variable {C : Cfg} {N0 : Nat → Prop} {slot : Nat} {a : Act} {w : World} {φ : Phi} {H : Heap} {o : Oper}
theorem run_append_zeros {P : Program} (w : World) (t tn ty e : TypeId) (i : TypeInfo) (z : Value) (k kn : IntKind) (ht : P.underlying t = some (.slice e)) (htn : P.underlying tn = some (.int kn)) (hi : P.info? e = some i) (hz : i.zero = some z)
    (A : Option Addr) (n : Nat) (h0 : 0 < n) (hs : 0 < i.size) (h63 : (n : Int) ≤ 9223372036854775807) (h48 : n * i.bytes ≤ 281474976710656) :
    (Builtin.append_ #[t, tn] ty #[.slice A 0 0, .int k n]).run P w =
      .ok (.slice (some ⟨w.heap.size, 0, none⟩) n (grownCap w n 0 e)) (w.drew.alloc (.cells (Builtin.zeroCells z.cells n ++ Builtin.zeroCells z.cells (grownCap w n 0 e - n)) e)) := by
  cases A with
  | none => exact Lib.run_append_nil_zeros w t tn ty e i z k kn ht htn hi hz n h0 hs h63 h48
  | some A =>
    have hn : n ≠ 0 := by omega
    have hw : IntKind.i64.wrap (n : Int) = n := by rw [IntKind.wrap_i64]; omega
    have h63' : ¬ (9223372036854775807 < (n : Int)) := by omega
    have h48' : ¬ (281474976710656 < Builtin.nextslicecap n 0 * i.bytes) := by rw [nextslicecap_zero h0]; omega
    have h48i : ¬ (281474976710656 < (n : Int) * (i.bytes : Int)) := by
      rw [← Int.natCast_mul]
      omega
    have hneg : ¬ ((n : Int) < 0) := by omega
    have hns : ¬ (n * i.size = 0) := Nat.mul_ne_zero hn (by omega)
    have hf : (Builtin.firstCells i.size 0 (.slice (some A) 0 0)).run P w.drew = .ok #[] w.drew := by
      simp [Builtin.firstCells, loadCells, loadCellsFrom]
    simp [Builtin.append_, run_underlying ht, run_underlying htn, sizeOf, typeInfo, zeroValue, hi, hz, Go.asInt, asIntOf, hw, hn, hneg, hns, h63', h48', h48i, Question.forced, hf, newRow, grownCap]
theorem appendZ_sound (hrel : HeapRel w N0 φ H) (hslot : ∀ j, slot ≤ j → j < slot + wide → φ j = none) {t tn elem : TypeId} {kn : IntKind} {os ox : Operand} (ho : o.op = .call { callee := .builtin .append, args := #[os, ox], argTypes := #[t, tn] })
    {i : TypeInfo} {z v : DV} {e : Eff} (hu : C.P.underlying t = some (.slice elem)) (htn : C.P.underlying tn = some (.int kn)) (hi : C.P.info? elem = some i) (hz : C.zero elem = some z) (h0 : 0 < i.size) {s x : DV}
    (hs : Rep w (Nn N0 φ H) φ s (a.eval os)) (hx : Rep w (Nn N0 φ H) φ x (a.eval ox)) (h : appendZ slot elem i.size i.bytes z s x = some (v, e)) : Gives C N0 slot a w φ H o v e := by
  unfold appendZ at h
  split at h
  · rename_i k m
    split at h
    · rename_i hc
      simp only [Bool.and_eq_true, decide_eq_true_eq, beq_iff_eq] at hc
      obtain ⟨⟨⟨⟨hm0, hm1⟩, hby⟩, him⟩, hcl⟩ := hc
      simp only [Option.some.injEq, Prod.mk.injEq] at h
      obtain ⟨rfl, rfl⟩ := h
      obtain ⟨n, rfl⟩ := Int.eq_ofNat_of_zero_le (show 0 ≤ m by omega)
      unfold Rep at hs hx
      obtain ⟨_, A, c, hsv, hcz, _, _⟩ := hs
      obtain rfl : c = 0 := hcz rfl
      obtain ⟨i', zv, k1, k2, k3, k4, k5⟩ := zero_rep (w := w) (N := Nn N0 φ H) (φ := φ) hz
      rw [hi] at k1
      simp only [Option.some.injEq] at k1
      subst k1
      have hcc := (k3.cells k5).1.len
      rw [Array.length_toList, hcl] at hcc
      rw [Int.toNat_natCast] at hby ⊢
      have hrun := run_append_zeros (P := C.P) w t tn o.type elem i zv k kn hu htn hi k2 A n (by omega) h0 (by omega) (by omega)
      have hzc : (Builtin.zeroCells zv.cells n).toList = (List.replicate n zv.cells.toList).flatten := by
        have := range_mod (z := zv.cells) n (by omega)
        unfold Builtin.zeroCells
        exact this
      refine gives_new (r := { elems := replic n z, elem, sz := i.size, ext := none, leaf := true, fz := false }) (cs := Builtin.zeroCells zv.cells n ++ Builtin.zeroCells zv.cells (grownCap w n 0 elem - n)) (vs := (Builtin.zeroCells zv.cells n).toList) (rest := (Builtin.zeroCells zv.cells (grownCap w n 0 elem - n)).toList) (x := .slice (some ⟨w.heap.size, 0, none⟩) n (grownCap w n 0 elem)) (w' := w.drew.alloc (.cells (Builtin.zeroCells zv.cells n ++ Builtin.zeroCells zv.cells (grownCap w n 0 elem - n)) elem)) hrel hslot ?_ rfl rfl rfl rfl (fun e he => absurd he (by simp)) ?_ (by simp) (fun _ => imms_replic him _) rfl ?_
      · simp only [execOp, ho, resolve, invoke, builtin, Sem.run_bind, Sem.run_pure, Result.andThen_ok, List.map_toArray, List.map_cons, List.map_nil]
        rw [hsv, hx]
        simp only [List.length_nil]
        rw [hrun]
        rfl
      · show RepEs w (Nn N0 φ H) φ i.size (replic n z) (Builtin.zeroCells zv.cells n).toList
        rw [hzc]; exact replic_rep k3 k5 hcc _
      · intro N φ' hφ
        have hge := grownCap_ge w n 0 elem
        refine ref_new hφ hge ?_
        simp only [Array.size_append, size_zeroCells, hcc, ← Nat.add_mul]
        congr 1
        omega
    · cases h
  · cases h
end
end Go.PM
end
section
namespace Go.PM
open Go
set_option linter.unusedVariables false
section
variable {C : Cfg} {N0 : Nat → Prop} {slot : Nat} {a : Act} {w : World} {φ : Phi} {H : Heap} {o : Oper}
theorem bind_ev {ev : Operand → Option DV} {xs : Array Operand} {k : Nat} {d : DV} (h : (xs[k]?).bind ev = some d) : ∃ x, xs[k]? = some x ∧ ev x = some d := by
  obtain ⟨x, h1, h2⟩ := Option.bind_eq_some_iff.1 h
  exact ⟨x, h1, h2⟩
theorem call_eta {c : Call} {b : Builtin} {x y : Operand} {t : TypeId} (hb : c.callee = .builtin b) (ha : c.args = #[x, y]) (ht : c.argTypes = #[t, t]) : c = { callee := .builtin b, args := #[x, y], argTypes := #[t, t] } := by
  cases c; simp_all
theorem types2 {ts : Array TypeId} {t u : TypeId} (h : ts.size = 2) (h0 : ts[0]? = some t) (h1 : ts[1]? = some u) : ts = #[t, u] := by
  apply Array.ext
  · simpa using h
  · intro i hi hj
    have hj' : i < 2 := by simpa using hj
    rcases Nat.lt_or_ge i 1 with h2 | h2
    · have : i = 0 := by omega
      subst this
      obtain ⟨_, h3⟩ := Array.getElem?_eq_some_iff.1 h0
      simpa using h3
    · have : i = 1 := by omega
      subst this
      obtain ⟨_, h3⟩ := Array.getElem?_eq_some_iff.1 h1
      simpa using h3
theorem opD_sound {ev : Operand → Option DV} {rd : Nat → Option Blk} {v : DV} {e : Eff} (hrel : HeapRel w N0 φ H) (hrd : ∀ id b, rd id = some b → H id = some b) (hslot : ∀ j, slot ≤ j → j < slot + wide → φ j = none)
    (hev : EvRel ev a w (Nn N0 φ H) φ) (h : C.opD slot ev rd o = some (v, e)) : Gives C N0 slot a w φ H o v e := by
  cases hop : o.op with
  | move x =>
    simp only [Cfg.opD, hop] at h
    obtain ⟨h1, rfl⟩ := val_some h
    exact gives_val hrel (by simp only [execOp, hop, Sem.run_pure]) (hev x v h1)
  | assign x =>
    simp only [Cfg.opD, hop] at h
    obtain ⟨h1, rfl⟩ := val_some h
    exact gives_val hrel (by simp only [execOp, hop, Sem.run_pure]) (hev x v h1)
  | pick c x y =>
    simp only [Cfg.opD, hop] at h
    split at h
    · rename_i t hc
      obtain ⟨h1, rfl⟩ := val_some h
      have hcv := hev c _ hc
      unfold Rep at hcv
      refine gives_val (x := if t then a.eval x else a.eval y) hrel ?_ ?_
      · simp only [execOp, hop, hcv, asBool, Sem.run_bind, Sem.run_pure, Result.andThen_ok]
      · cases t
        · exact hev y v h1
        · exact hev x v h1
    · cases h
  | alloc elem =>
    simp only [Cfg.opD, hop] at h
    split at h
    · rename_i z hz
      simp only [Option.some.injEq, Prod.mk.injEq] at h
      obtain ⟨rfl, rfl⟩ := h
      exact alloc_sound hrel hslot hop hz
    · cases h
  | box elem x =>
    simp only [Cfg.opD, hop] at h
    split at h
    · rename_i z hz
      split at h
      · cases h
      · rename_i hs
        simp only [Option.some.injEq, Prod.mk.injEq] at h
        obtain ⟨rfl, rfl⟩ := h
        exact box_sound hrel hslot hop (hev x z hz) (by simpa using hs)
    · cases h
  | build t parts =>
    simp only [Cfg.opD, hop] at h
    split at h
    · rename_i z ps fs hz hps hu
      split at h
      · rename_i pl hpl
        obtain ⟨h1, rfl⟩ := val_some h
        obtain ⟨cs, h2, rfl⟩ := Option.map_eq_some_iff.1 h1
        exact build_sound hrel hev hop hz hps (.inl ⟨fs, pl, hu, hpl, h2⟩)
      · cases h
    · rename_i z ps k elem hz hps hu
      split at h
      · rename_i n hn
        obtain ⟨h1, rfl⟩ := val_some h
        obtain ⟨cs, h2, rfl⟩ := Option.map_eq_some_iff.1 h1
        exact build_sound hrel hev hop hz hps (.inr ⟨k, elem, n, hu, hn, h2⟩)
      · cases h
    · cases h
  | buildSlice t len parts =>
    simp only [Cfg.opD, hop] at h
    split at h
    · rename_i elem hu
      split at h
      · rename_i z ps n hz hps hn
        split at h
        · rename_i hc
          simp only [Bool.and_eq_true, decide_eq_true_eq, List.all_eq_true, beq_iff_eq] at hc
          obtain ⟨⟨⟨⟨h1, h2⟩, h3⟩, h4⟩, h5⟩ := hc
          simp only [Option.some.injEq, Prod.mk.injEq] at h
          obtain ⟨rfl, rfl⟩ := h
          exact buildSlice_sound hrel hslot hev hop hu hz hps hn h1 h2 (fun p hp => by obtain ⟨⟨⟨q1, q2⟩, q3⟩, q4⟩ := h3 p hp; exact ⟨q1, q2, q3, q4⟩) h4 h5
        · cases h
      · cases h
    · cases h
  | load t x =>
    simp only [Cfg.opD, hop] at h
    split at h
    · rename_i p hp
      obtain ⟨h1, rfl⟩ := val_some h
      obtain ⟨y, h2, h3⟩ := loadD_sound hrel hrd (hev x p hp) h1
      exact gives_val hrel (by simp only [execOp, hop, Sem.run_bind, h3, Result.andThen_ok, Sem.run_pure]) h2
    · cases h
  | store t x y =>
    simp only [Cfg.opD, hop] at h
    split at h
    · rename_i p d hp hd
      exact storeD_sound hrel hrd hop (hev x p hp) (hev y d hd) h
    · cases h
  | nilCheck x =>
    simp only [Cfg.opD, hop] at h
    split at h
    · rename_i i j k hx
      split at h
      · rename_i hl
        simp only [Option.some.injEq, Prod.mk.injEq] at h
        obtain ⟨rfl, rfl⟩ := h
        obtain ⟨pb, h1, h2⟩ := ptr_live hrel hrd hl (hev x _ hx)
        refine gives_val hrel (x := a.eval x) ?_ (hev x _ hx)
        simp only [execOp, hop, h2, Sem.run_pure]
      · cases h
    · rename_i e' off hx
      simp only [Option.some.injEq, Prod.mk.injEq] at h
      obtain ⟨rfl, rfl⟩ := h
      have hxv := hev x _ hx
      refine gives_val hrel (x := a.eval x) ?_ hxv
      unfold Rep at hxv
      obtain ⟨_, _, b, o', x', hv, _⟩ := hxv
      simp only [execOp, hop, hv, Sem.run_pure]
    · rename_i f cs hx
      simp only [Option.some.injEq, Prod.mk.injEq] at h
      obtain ⟨rfl, rfl⟩ := h
      have hxv := hev x _ hx
      refine gives_val hrel (x := a.eval x) ?_ hxv
      unfold Rep at hxv
      obtain ⟨vs, hv, _⟩ := hxv
      simp only [execOp, hop, hv, Sem.run_pure]
    · rename_i t d hx
      simp only [Option.some.injEq, Prod.mk.injEq] at h
      obtain ⟨rfl, rfl⟩ := h
      have hxv := hev x _ hx
      refine gives_val hrel (x := a.eval x) ?_ hxv
      unfold Rep at hxv
      obtain ⟨vs, hv, _⟩ := hxv
      simp only [execOp, hop, hv, Sem.run_pure]
    · cases h
  | binOp op t ox oy ty =>
    simp only [Cfg.opD, hop] at h
    split at h
    · rename_i x y hx hy
      obtain ⟨h1, rfl⟩ := val_some h
      obtain ⟨r, h2, h3⟩ := binT_sound (hev ox x hx) (hev oy y hy) h1
      refine gives_val hrel ?_ h2
      simp only [execOp, hop]
      rw [Sem.run_bind, h3, Result.andThen_ok]
      rfl
    · cases h
  | unOp op t x =>
    simp only [Cfg.opD, hop] at h
    split at h
    · rename_i d hx
      obtain ⟨h1, rfl⟩ := val_some h
      obtain ⟨r, h2, h3⟩ := unD_sound (C := C) (hev x d hx) h1
      exact gives_val hrel (by simp only [execOp, hop, Sem.run_bind, h3, Result.andThen_ok, Sem.run_pure]) h2
    · cases h
  | convert src dst x =>
    simp only [Cfg.opD, hop] at h
    split at h
    · rename_i d hx
      obtain ⟨h1, rfl⟩ := val_some h
      exact convD_sound hrel hrd hop (hev x d hx) h1
    · cases h
  | makeInterface t x =>
    simp only [Cfg.opD, hop] at h
    split at h
    · cases h
    · rename_i d dd hn hx hu
      simp only [Option.some.injEq, Prod.mk.injEq] at h
      obtain ⟨rfl, rfl⟩ := h
      refine gives_val hrel (x := .iface t (a.eval x)) ?_ (by unfold Rep; exact ⟨_, rfl, hev x d hx⟩)
      have := makeInterface_run (C := C) (w := w) (x := a.eval x) hu (fun ms q => hn ms q)
      simp only [execOp, hop, Sem.run_bind, this, Result.andThen_ok, Sem.run_pure]
    · cases h
  | makeFunc fn first cap =>
    cases fn with
    | func f =>
      simp only [Cfg.opD, hop] at h
      split at h
      · rename_i c h1 h2
        simp only [Option.some.injEq, Prod.mk.injEq] at h
        obtain ⟨rfl, rfl⟩ := h
        have hf0 : first = #[] := by
          have := mapO_len h1
          exact Array.eq_empty_of_size_eq_zero (by simpa using this.symm)
        refine gives_val hrel (x := .func (.func f) #[] (cap.map a.eval)) ?_ ?_
        · subst hf0
          simp only [execOp, hop, Instr.makeFunc, Sem.run_bind, Sem.run_pure, Result.andThen_ok, Array.map_empty]
        · unfold Rep
          exact ⟨_, rfl, by simpa using mapO_ev hev h2⟩
      · cases h
    | _ => simp [Cfg.opD, hop] at h
  | makeSlice t ol oc =>
    simp only [Cfg.opD, hop] at h
    split at h
    · rename_i elem l c hu hl hc
      split at h
      · rename_i z n i hz hn hi
        split at h
        · rename_i hcc
          simp only [Bool.and_eq_true, decide_eq_true_eq, beq_iff_eq] at hcc
          obtain ⟨⟨⟨⟨⟨⟨h1, h2⟩, h3⟩, h4⟩, h5⟩, h6⟩, h7⟩ := hcc
          simp only [Option.some.injEq, Prod.mk.injEq] at h
          obtain ⟨rfl, rfl⟩ := h
          have hlv := hev ol _ hl
          have hcv := hev oc _ hc
          unfold Rep at hlv hcv
          exact makeSlice_sound hrel hslot hop hlv hcv hu hz hn hi h1 h2 h3 h4 h5 h6 h7
        · cases h
      · cases h
    · cases h
  | slice t x lo hi mx =>
    simp only [Cfg.opD, hop] at h
    split at h
    · rename_i d lo' hi' mx' e' hx hlo hhi hmx hu
      split at h
      · rename_i n hn
        split at h
        · rename_i h0
          obtain ⟨h1, rfl⟩ := val_some h
          obtain ⟨i, hi2, rfl⟩ := size_info hn
          exact sliceD_sound hrel hrd hop hu hi2 h0 (hev x d hx) (optInt_sound hev hlo) (optInt_sound hev hhi) (optInt_sound hev hmx) h1
        · cases h
      · cases h
    · rename_i d lo' hi' mx' hx hlo hhi hmx hu
      obtain ⟨h1, rfl⟩ := val_some h
      exact sliceS_sound hrel hop hu (hev x d hx) (optInt_sound hev hlo) (optInt_sound hev hhi) (optInt_sound hev hmx) h1
    · cases h
  | fieldAddr s x f =>
    simp only [Cfg.opD, hop] at h
    split at h
    · rename_i id ix off fd hx hf
      split at h
      · rename_i hc
        simp only [Bool.and_eq_true] at hc
        simp only [Option.some.injEq, Prod.mk.injEq] at h
        obtain ⟨rfl, rfl⟩ := h
        obtain ⟨pb, h1, h2⟩ := ptr_live hrel hrd hc.2 (hev x _ hx)
        refine gives_val hrel (x := .pointer (some ⟨pb.b, ix * pb.sz + (off + fd.offset), none⟩)) ?_ (ptr_rep h1)
        have := fieldAt_run (w := w) hf hc.1 pb.b (ix * pb.sz + off)
        rw [Nat.add_assoc] at this
        simp only [execOp, hop, h2, Sem.run_bind, this, Result.andThen_ok, Sem.run_pure]
      · cases h
    · rename_i e' off fd hx hf
      split at h
      · rename_i hc
        simp only [Option.some.injEq, Prod.mk.injEq] at h
        obtain ⟨rfl, rfl⟩ := h
        have hxv := hev x _ hx
        unfold Rep at hxv
        obtain ⟨hi, hs, b, o', x', hv, hb, hn, h1, h2, h3⟩ := hxv
        refine gives_val hrel (x := .pointer (some ⟨b, o' + (off + fd.offset), none⟩)) ?_ (by unfold Rep; exact ⟨hi, hs, b, o', x', rfl, hb, hn, h1, h2, h3⟩)
        have := fieldAt_run (w := w) hf hc b (o' + off)
        rw [Nat.add_assoc] at this
        simp only [execOp, hop, hv, Sem.run_bind, this, Result.andThen_ok, Sem.run_pure]
      · cases h
    · cases h
  | field t x f =>
    simp only [Cfg.opD, hop] at h
    split at h
    · rename_i cs fd hx hf
      obtain ⟨h1, rfl⟩ := val_some h
      obtain ⟨y, h2, h3⟩ := field_sound hf (hev x _ hx) h1
      exact gives_val hrel (by simp only [execOp, hop, Sem.run_bind, h3, Result.andThen_ok, Sem.run_pure]) h2
    · cases h
  | indexAddr t x i =>
    simp only [Cfg.opD, hop] at h
    split at h
    · rename_i d k n hx hi
      obtain ⟨h1, rfl⟩ := val_some h
      obtain ⟨y, h2, h3⟩ := indexAddrD_sound (k := k) hrel hrd (hev x _ hx) h1
      have hiv := hev i _ hi
      unfold Rep at hiv
      exact gives_val hrel (by simp only [execOp, hop, hiv, Sem.run_bind, h3, Result.andThen_ok, Sem.run_pure]) h2
    · cases h
  | index t x i =>
    simp only [Cfg.opD, hop] at h
    split at h
    · rename_i d k n hx hi
      obtain ⟨h1, rfl⟩ := val_some h
      obtain ⟨y, h2, h3⟩ := indexD_sound (k := k) (hev x _ hx) h1
      have hiv := hev i _ hi
      unfold Rep at hiv
      exact gives_val hrel (by simp only [execOp, hop, hiv, Sem.run_bind, h3, Result.andThen_ok, Sem.run_pure]) h2
    · cases h
  | range t x =>
    simp only [Cfg.opD, hop] at h
    split at h
    · rename_i s hx hu
      simp only [Option.some.injEq, Prod.mk.injEq] at h
      obtain ⟨rfl, rfl⟩ := h
      exact range_sound hrel hslot hop hu (hev x _ hx)
    · cases h
  | next x isS =>
    cases isS with
    | false => simp [Cfg.opD, hop] at h
    | true =>
      simp only [Cfg.opD, hop] at h
      split at h
      · rename_i id hx
        split at h
        · rename_i s pos hb
          obtain ⟨k1, k2⟩ := next_sound (slot := slot) hrel hrd hop (hev x _ hx) hb
          split at h
          · rename_i c k hck
            simp only [Option.some.injEq, Prod.mk.injEq] at h
            obtain ⟨rfl, rfl⟩ := h
            exact k1 c k hck
          · rename_i hck
            simp only [Option.some.injEq, Prod.mk.injEq] at h
            obtain ⟨rfl, rfl⟩ := h
            exact k2 hck
        · cases h
      · cases h
  | typeAssert x xt asserted ok =>
    simp only [Cfg.opD, hop] at h
    split at h
    · rename_i d hx
      obtain ⟨h1, rfl⟩ := val_some h
      obtain ⟨y, h2, h3⟩ := asserts_sound (xt := xt) (hev x _ hx) h1
      exact gives_val hrel (by simp only [execOp, hop, Sem.run_bind, h3, Result.andThen_ok, Sem.run_pure]) h2
    · cases h
  | extract x ix =>
    simp only [Cfg.opD, hop] at h
    split at h
    · rename_i vs hx
      obtain ⟨h1, rfl⟩ := val_some h
      have hxv := hev x _ hx
      unfold Rep at hxv
      obtain ⟨us, hv, h2⟩ := hxv
      obtain ⟨y, h3, h4⟩ := h2.get ix h1
      refine gives_val hrel ?_ h4
      have h3' : us[ix]? = some y := by simpa using h3
      simp only [execOp, hop, hv, Instr.extract, h3', Sem.run_bind, Sem.run_pure, Result.andThen_ok]
    · cases h
  | call c =>
    simp only [Cfg.opD, hop] at h
    cases hcal : c.callee with
    | value f => simp [hcal] at h
    | invoke r n => simp [hcal] at h
    | builtin b =>
      simp only [hcal] at h
      cases b with
      | len =>
        dsimp only at h
        split at h
        · rename_i x d hx hu
          split at h
          · rename_i hl
            obtain ⟨h1, rfl⟩ := val_some h
            obtain ⟨n, h2, rfl⟩ := Option.map_eq_some_iff.1 h1
            obtain ⟨ox, hox, hxe⟩ := bind_ev hx
            obtain ⟨t, ht, htu⟩ := Option.bind_eq_some_iff.1 hu
            refine gives_val hrel (x := .int .i64 n) (exec_builtin hop hcal ?_) (by unfold Rep; rfl)
            have := lenD_sound (C := C) htu (hev ox x hxe) h2 (fun id off len cap q => by
              subst q
              obtain ⟨b, hb⟩ := Option.isSome_iff_exists.1 hl
              obtain ⟨pb, h3, _⟩ := hrel.here id b (hrd _ _ hb)
              exact ⟨pb, h3⟩) c.argTypes o.type (c.args.map a.eval) ht (arg_map hox)
            simp only [builtin, Sem.run_bind, this, Result.andThen_ok, Sem.run_pure]
          · cases h
        · cases h
      | cap =>
        dsimp only at h
        split at h
        · rename_i id off len cap e' hx hu
          obtain ⟨ox, hox, hxe⟩ := bind_ev hx
          obtain ⟨t, ht, htu⟩ := Option.bind_eq_some_iff.1 hu
          split at h
          · rename_i r hr
            split at h
            · rename_i h0
              obtain ⟨h1, rfl⟩ := val_some h
              obtain ⟨n, h2, rfl⟩ := Option.map_eq_some_iff.1 h1
              obtain ⟨pb, cur, vs, rest, k1, k2, k3, k4, k5, k6, k7, k8, k9, k10⟩ := hrel.row (hrd _ _ (rowAt_some hr))
              have hxv := hev ox _ hxe
              unfold Rep at hxv
              obtain ⟨_, q, hq, hv⟩ := hxv
              rw [k1] at hq
              obtain ⟨cc, hv, hlc, hcap⟩ := hv pb (by simpa using hq.symm)
              have hcn : cc = n := by
                unfold capOf at h2
                cases cap with
                | some c' => simp only [Option.some.injEq] at h2; subst h2; exact hcap.1
                | none =>
                  dsimp only at h2 hcap
                  obtain ⟨e0, he0, rfl⟩ := Option.map_eq_some_iff.1 h2
                  have h11 := k5 e0 he0
                  have h12 : off + cc = e0 := Nat.eq_of_mul_eq_mul_right (by omega : 0 < pb.sz) (hcap.trans (h11.trans (by rw [k4])))
                  omega
              subst hcn
              refine gives_val hrel (x := .int .i64 cc) (exec_builtin hop hcal ?_) (by unfold Rep; rfl)
              have hrun : (Builtin.cap_ c.argTypes o.type (c.args.map a.eval)).run C.P w = .ok (.int .i64 cc) w := by
                unfold Builtin.cap_
                simp only [ht, arg_map hox, hv, Sem.run_bind, run_underlying htu, Result.andThen_ok]
                rfl
              simp only [builtin, Sem.run_bind, hrun, Result.andThen_ok, Sem.run_pure]
            · cases h
          · cases h
        · rename_i es e' hx hu
          obtain ⟨ox, hox, hxe⟩ := bind_ev hx
          obtain ⟨t, ht, htu⟩ := Option.bind_eq_some_iff.1 hu
          simp only [Option.some.injEq, Prod.mk.injEq] at h
          obtain ⟨rfl, rfl⟩ := h
          have hxv := hev ox _ hxe
          unfold Rep at hxv
          obtain ⟨_, A, cc, hv, htt, _⟩ := hxv
          have := htt rfl
          subst this
          refine gives_val hrel (x := .int .i64 es.length) (exec_builtin hop hcal ?_) (by unfold Rep; rfl)
          have hrun : (Builtin.cap_ c.argTypes o.type (c.args.map a.eval)).run C.P w = .ok (.int .i64 es.length) w := by
            unfold Builtin.cap_
            simp only [ht, arg_map hox, hv, Sem.run_bind, run_underlying htu, Result.andThen_ok]
            rfl
          simp only [builtin, Sem.run_bind, hrun, Result.andThen_ok, Sem.run_pure]
        · cases h
      | append =>
        dsimp only at h
        split at h
        · rename_i s x elem hs hx hu
          split at h
          · rename_i n i hn hi
            split at h
            · rename_i hc
              simp only [Bool.and_eq_true, decide_eq_true_eq, beq_iff_eq] at hc
              obtain ⟨⟨⟨⟨h0, h1⟩, h2⟩, h3⟩, h4⟩ := hc
              obtain ⟨os, hos, hse⟩ := bind_ev hs
              obtain ⟨ox, hox, hxe⟩ := bind_ev hx
              obtain ⟨t, ht, htu⟩ := Option.bind_eq_some_iff.1 hu
              obtain ⟨z, hz, hzs⟩ := Option.map_eq_some_iff.1 h4
              obtain ⟨i', hi', hn'⟩ := size_info hn
              rw [hi] at hi'
              simp only [Option.some.injEq] at hi'
              subst hi'
              subst hn'
              have hargs := args2 h2 hos hox
              have htys := types2 h3 ht (h1.trans ht)
              have hce := call_eta hcal hargs htys
              exact appendD_sound hrel hrd hslot (by rw [hop, hce]) htu hi hz hzs h0 (hev os s hse) (hev ox x hxe) h
            · split at h
              · rename_i hc
                simp only [Bool.and_eq_true, decide_eq_true_eq, beq_iff_eq] at hc
                obtain ⟨⟨⟨h0, h2⟩, h3⟩, h4⟩ := hc
                obtain ⟨z, hz, h⟩ := Option.bind_eq_some_iff.1 h
                obtain ⟨os, hos, hse⟩ := bind_ev hs
                obtain ⟨ox, hox, hxe⟩ := bind_ev hx
                obtain ⟨t, ht, htu⟩ := Option.bind_eq_some_iff.1 hu
                obtain ⟨i', hi', hn'⟩ := size_info hn
                rw [hi] at hi'
                simp only [Option.some.injEq] at hi'
                subst hi'
                subst hn'
                have hint : ∃ tn kn, c.argTypes[1]? = some tn ∧ C.P.underlying tn = some (.int kn) := by
                  cases h5 : c.argTypes[1]? with
                  | none => rw [h5] at h4; cases h4
                  | some tn =>
                    rw [h5] at h4
                    simp only [Option.bind_some] at h4
                    unfold isIntD at h4
                    split at h4
                    · rename_i kn hk
                      exact ⟨tn, kn, rfl, hk⟩
                    · cases h4
                obtain ⟨tn, kn, htn, htnu⟩ := hint
                have hce : c = { callee := .builtin .append, args := #[os, ox], argTypes := #[t, tn] } := by
                  have hargs := args2 h2 hos hox
                  have htys := types2 h3 ht htn
                  cases c
                  simp_all
                exact appendZ_sound hrel hslot (by rw [hop, hce]) htu htnu hi hz h0 (hev os s hse) (hev ox x hxe) h
              · cases h
          · cases h
        · cases h
      | copy =>
        dsimp only at h
        split at h
        · rename_i d x elem hd hx hu
          split at h
          · rename_i n hn
            split at h
            · rename_i hc
              simp only [Bool.and_eq_true, decide_eq_true_eq, beq_iff_eq] at hc
              obtain ⟨od, hod, hde⟩ := bind_ev hd
              obtain ⟨ox, hox, hxe⟩ := bind_ev hx
              obtain ⟨t, ht, htu⟩ := Option.bind_eq_some_iff.1 hu
              obtain ⟨i, hi, rfl⟩ := size_info hn
              exact copyD_sound hrel hrd hop hcal (args2 hc.2 hod hox) ht htu hi hc.1 (hev od d hde) (hev ox x hxe) h
            · cases h
          · cases h
        · cases h
      | min =>
        dsimp only at h
        split at h
        · rename_i x r hxs
          obtain ⟨h1, rfl⟩ := val_some h
          have hl := mapO_ev hev hxs
          unfold RepL at hl
          obtain ⟨u, us, he, hx, hr⟩ := hl
          obtain ⟨y, h2, h3⟩ := foldD_sound (C := C) hx hr h1
          refine gives_val hrel (exec_builtin hop hcal ?_) h2
          have hrun : (Builtin.min_ c.argTypes o.type (c.args.map a.eval)).run C.P w = .ok y w := by
            unfold Builtin.min_
            have : (c.args.map a.eval).toList = u :: us := by simpa using he
            rw [this]
            simpa using h3
          simp only [builtin, Sem.run_bind, hrun, Result.andThen_ok, Sem.run_pure]
        · cases h
      | max =>
        dsimp only at h
        split at h
        · rename_i x r hxs
          obtain ⟨h1, rfl⟩ := val_some h
          have hl := mapO_ev hev hxs
          unfold RepL at hl
          obtain ⟨u, us, he, hx, hr⟩ := hl
          obtain ⟨y, h2, h3⟩ := foldD_sound (C := C) hx hr h1
          refine gives_val hrel (exec_builtin hop hcal ?_) h2
          have hrun : (Builtin.max_ c.argTypes o.type (c.args.map a.eval)).run C.P w = .ok y w := by
            unfold Builtin.max_
            have : (c.args.map a.eval).toList = u :: us := by simpa using he
            rw [this]
            simpa using h3
          simp only [builtin, Sem.run_bind, hrun, Result.andThen_ok, Sem.run_pure]
        · cases h
      | _ => simp at h
  | _ => simp [Cfg.opD, hop] at h
end
end Go.PM
end
section
namespace Go.PM
open Go
set_option linter.unusedVariables false
mutual
theorem Rep.ren {w : World} {N N' : Nat → Prop} {φ φ' : Phi} {ρ : Nat → Option Nat} (hN : ∀ b, N' b → N b) (hρ : ∀ i j, ρ i = some j → φ' j = φ i) : ∀ {d : DV} {v : Value}, Rep w N φ d v → Rep w N' φ' (d.ren ρ) v
  | .undef, v, h => by unfold DV.ren; unfold Rep at h ⊢; exact h
  | .dead, v, h => by unfold DV.ren; unfold Rep at h ⊢; exact h
  | .bool b, v, h => by unfold DV.ren; unfold Rep at h ⊢; exact h
  | .int k n, v, h => by unfold DV.ren; unfold Rep at h ⊢; exact h
  | .str s, v, h => by unfold DV.ren; unfold Rep at h ⊢; exact h
  | .nilp, v, h => by unfold DV.ren; unfold Rep at h ⊢; exact h
  | .ptr id ix off, v, h => by
    unfold DV.ren
    unfold Rep at h
    obtain ⟨h0, q, h1, h2⟩ := h
    split
    · rename_i j hj
      unfold Rep
      exact ⟨h0, q, (hρ _ _ hj).trans h1, h2⟩
    · unfold Rep; exact h0
  | .iptr e off, v, h => by
    unfold DV.ren; unfold Rep at h ⊢
    obtain ⟨hi, hst, b, o, x, h1, hb, h2, h3, h4, h5⟩ := h
    exact ⟨hi, hst, b, o, x, h1, hb, fun n => h2 (hN b n), Rep.later ⟨Nat.le_refl _, fun _ _ _ => rfl, fun b _ n => hN b n, fun _ q h => absurd h (by simp)⟩ (Rep.imm (φ' := fun _ => none) hi h3), h4, h5⟩
  | .list es t, v, h => by
    unfold DV.ren; unfold Rep at h ⊢
    obtain ⟨hi, A, c, h1, h2, h3, h4⟩ := h
    refine ⟨hi, A, c, h1, h2, h3, ?_⟩
    rcases h4 with h4 | ⟨b, o, sz, vs, h5, hb, h6, h7, h8⟩
    · exact .inl h4
    · exact .inr ⟨b, o, sz, vs, h5, hb, fun n => h6 (hN b n), RepEs.later ⟨Nat.le_refl _, fun _ _ _ => rfl, fun b _ n => hN b n, fun _ q h => absurd h (by simp)⟩ (RepEs.imm (φ' := fun _ => none) hi h7), h8⟩
  | .ref id off len cap, v, h => by
    unfold DV.ren
    unfold Rep at h
    obtain ⟨h0, q, h1, h2⟩ := h
    split
    · rename_i j hj
      unfold Rep
      exact ⟨h0, q, (hρ _ _ hj).trans h1, h2⟩
    · unfold Rep; exact h0
  | .agg cs, v, h => by
    unfold DV.ren; unfold Rep at h ⊢
    obtain ⟨vs, h1, h2, h3⟩ := h
    exact ⟨vs, h1, RepL.ren hN hρ h2, h3⟩
  | .tuple cs, v, h => by
    unfold DV.ren; unfold Rep at h ⊢
    obtain ⟨vs, h1, h2⟩ := h
    exact ⟨vs, h1, RepL.ren hN hρ h2⟩
  | .func f cs, v, h => by
    unfold DV.ren; unfold Rep at h ⊢
    obtain ⟨vs, h1, h2⟩ := h
    exact ⟨vs, h1, RepL.ren hN hρ h2⟩
  | .nilf, v, h => by unfold DV.ren; unfold Rep at h ⊢; exact h
  | .iface t d, v, h => by
    unfold DV.ren; unfold Rep at h ⊢
    obtain ⟨x, h1, h2⟩ := h
    exact ⟨x, h1, Rep.ren hN hρ h2⟩
  | .nili, v, h => by unfold DV.ren; unfold Rep at h ⊢; exact h
theorem RepL.ren {w : World} {N N' : Nat → Prop} {φ φ' : Phi} {ρ : Nat → Option Nat} (hN : ∀ b, N' b → N b) (hρ : ∀ i j, ρ i = some j → φ' j = φ i) : ∀ {d : List DV} {v : List Value}, RepL w N φ d v → RepL w N' φ' (DV.rens ρ d) v
  | [], v, h => by unfold DV.rens; unfold RepL at h ⊢; exact h
  | d :: ds, v, h => by
    unfold DV.rens; unfold RepL at h ⊢
    obtain ⟨x, r, h1, h2, h3⟩ := h
    exact ⟨x, r, h1, Rep.ren hN hρ h2, RepL.ren hN hρ h3⟩
end
theorem ren_storable {ρ : Nat → Option Nat} {d : DV} (h : d.storable = true) : (d.ren ρ).storable = true := by
  cases d <;> first | exact h | rfl | (unfold DV.ren; split <;> rfl) | (exact absurd h (by simp [DV.storable]))
theorem RepEs.ren {w : World} {N N' : Nat → Prop} {φ φ' : Phi} {ρ : Nat → Option Nat} {sz : Nat} (hN : ∀ b, N' b → N b) (hρ : ∀ i j, ρ i = some j → φ' j = φ i) : ∀ {d : List DV} {v : List Value}, RepEs w N φ sz d v → RepEs w N' φ' sz (DV.rens ρ d) v
  | [], v, h => by unfold DV.rens; unfold RepEs at h ⊢; exact h
  | d :: ds, v, h => by
    unfold DV.rens; unfold RepEs at h ⊢
    obtain ⟨x, r, h1, h2, h3, h4, h5, h6⟩ := h
    exact ⟨x, r, h1, h2, ren_storable h3, h4, Rep.ren hN hρ h5, RepEs.ren hN hρ h6⟩
theorem Rep.weaken {w : World} {N N' : Nat → Prop} {φ φ' : Phi} (hN : ∀ b, N' b → N b) {d : DV} {v : Value} (hi : d.imm = true) (h : Rep w N φ d v) : Rep w N' φ' d v :=
  Rep.imm (φ := fun _ => none) hi (Rep.later ⟨Nat.le_refl _, fun _ _ _ => rfl, fun b _ n => hN b n, fun _ q h => absurd h (by simp)⟩ (Rep.imm (φ' := fun _ => none) hi h))
theorem RepEs.weaken {w : World} {N N' : Nat → Prop} {φ φ' : Phi} {sz : Nat} (hN : ∀ b, N' b → N b) {d : List DV} {v : List Value} (hi : DV.imms d = true) (h : RepEs w N φ sz d v) : RepEs w N' φ' sz d v :=
  RepEs.imm (φ := fun _ => none) hi (RepEs.later ⟨Nat.le_refl _, fun _ _ _ => rfl, fun b _ n => hN b n, fun _ q h => absurd h (by simp)⟩ (RepEs.imm (φ' := fun _ => none) hi h))
theorem rens_len (ρ : Nat → Option Nat) : ∀ l : List DV, (DV.rens ρ l).length = l.length
  | [] => rfl
  | d :: l => by unfold DV.rens; simp [rens_len ρ l]
theorem Blk.ren_fz (ρ : Nat → Option Nat) (b : Blk) : (b.ren ρ).fz = b.fz := by
  cases b with
  | row r => simp only [Blk.ren]; split <;> rfl
  | siter s p => rfl
theorem BlkRep.ren {w : World} {N N' : Nat → Prop} {φ φ' : Phi} {ρ : Nat → Option Nat} (hN : ∀ b, N' b → N b) (hρ : ∀ i j, ρ i = some j → φ' j = φ i) {blk : Blk} {pb : PB} (h : BlkRep w N φ blk pb) : BlkRep w N' φ' (blk.ren ρ) pb := by
  cases blk with
  | row r =>
    obtain ⟨cur, vs, rest, h1, h2, h3, h4, h5, h6, h7, h8⟩ := h
    simp only [Blk.ren]
    split
    · rename_i hl
      exact ⟨cur, vs, rest, h1, h2, h3, h4, h5.weaken hN (h7 hl), h6, h7, h8⟩
    · rename_i hl
      exact ⟨cur, vs, rest, h1, h2, h3, h4, h5.ren hN hρ, h6, fun h => absurd h hl, h8⟩
  | siter s p => exact h
theorem placeFrom_some : ∀ {l : List Nat} {k i j : Nat}, placeFrom l k i = some j → k ≤ j ∧ l[j - k]? = some i
  | [], k, i, j, h => by cases h
  | x :: l, k, i, j, h => by
    simp only [placeFrom] at h
    split at h
    · rename_i hx
      simp only [Option.some.injEq] at h
      subst h; subst hx
      exact ⟨Nat.le_refl _, by simp⟩
    · obtain ⟨h1, h2⟩ := placeFrom_some h
      refine ⟨by omega, ?_⟩
      rw [show j - k = (j - (k + 1)) + 1 by omega]
      simpa using h2
theorem place_some {l : List Nat} {i j : Nat} (h : place l i = some j) : l[j]? = some i := by
  have := placeFrom_some h
  simpa using this.2
theorem placeFrom_of : ∀ {l : List Nat} {k i : Nat}, i ∈ l → ∃ j, placeFrom l k i = some j
  | [], k, i, h => absurd h (by simp)
  | x :: l, k, i, h => by
    simp only [placeFrom]
    by_cases hx : i = x
    · exact ⟨k, if_pos hx⟩
    · rw [if_neg hx]
      exact placeFrom_of ((List.mem_cons.1 h).resolve_left hx)
theorem collect_nodup {h : Nat → Option Blk} : ∀ {n : Nat} {todo acc ids : List Nat}, collect h n todo acc = some ids → acc.Nodup → ids.Nodup ∧ (∀ i ∈ ids, i ∈ acc ∨ ∃ b, h i = some b) ∧ acc <+: ids
  | n, [], acc, ids, hc, hn => by
    unfold collect at hc
    simp only [Option.some.injEq] at hc; subst hc
    exact ⟨hn, fun i hi => .inl hi, List.prefix_refl _⟩
  | 0, i :: r, acc, ids, hc, hn => by unfold collect at hc; cases hc
  | n + 1, i :: r, acc, ids, hc, hn => by
    unfold collect at hc
    split at hc
    · exact collect_nodup hc hn
    · rename_i hnc
      split at hc
      · rename_i b hb
        have hni : i ∉ acc := by simpa using hnc
        obtain ⟨h1, h2, h3⟩ := collect_nodup hc (by
          rw [List.nodup_append]
          exact ⟨hn, by simp, fun x hx y hy => by simp at hy; subst hy; exact fun e => hni (e ▸ hx)⟩)
        refine ⟨h1, fun j hj => ?_, (List.prefix_append acc [i]).trans h3⟩
        rcases h2 j hj with h4 | h4
        · rcases List.mem_append.1 h4 with h5 | h5
          · exact .inl h5
          · simp at h5; subst h5; exact .inr ⟨b, hb⟩
        · exact .inr h4
      · exact collect_nodup hc hn
def phiOf (ids : List Nat) (φ : Phi) : Phi := fun j => (ids[j]?).bind φ
theorem heapOf_pack (ids : List Nat) (H : Heap) (j : Nat) : heapOf (packIds ids H) j = (ids[j]?).bind fun i => (H i).map (Blk.ren (place ids)) := by
  unfold heapOf packIds
  rw [List.getElem?_map]
  cases ids[j]? <;> rfl
theorem place_phi (ids : List Nat) (φ : Phi) : ∀ i j, place ids i = some j → phiOf ids φ j = φ i := fun i j h => by
  unfold phiOf
  rw [place_some h]
  rfl
theorem pack_own {φ : Phi} {H : Heap} {ids : List Nat} {b : Nat} (h : Own (phiOf ids φ) (heapOf (packIds ids H)) b) : Own φ H b ∧ ∃ id ∈ ids, ∃ pb, φ id = some (some pb) ∧ pb.b = b := by
  obtain ⟨j, pb, blk, h1, h2, h3, rfl⟩ := h
  unfold phiOf at h1
  obtain ⟨i, hi, h1⟩ := Option.bind_eq_some_iff.1 h1
  rw [heapOf_pack, hi] at h2
  simp only [Option.bind_some] at h2
  obtain ⟨blk', h4, rfl⟩ := Option.map_eq_some_iff.1 h2
  rw [Blk.ren_fz] at h3
  exact ⟨⟨i, pb, blk', h1, h4, h3, rfl⟩, i, List.mem_of_getElem? hi, pb, h1, rfl⟩
theorem HeapRel.pack {w : World} {N0 N0' : Nat → Prop} {φ : Phi} {H : Heap} (h : HeapRel w N0 φ H) {ids : List Nat} (hn : ids.Nodup) (hN : ∀ b, N0' b → Nn N0 φ H b) (hout : ∀ id ∈ ids, ∀ pb, φ id = some (some pb) → ¬ N0' pb.b) :
    HeapRel w N0' (phiOf ids φ) (heapOf (packIds ids H)) := by
  have hNn : ∀ b, Nn N0' (phiOf ids φ) (heapOf (packIds ids H)) b → Nn N0 φ H b := fun b hb => hb.elim (hN b) fun ho => .inr (pack_own ho).1
  refine ⟨fun j hj => ?_, fun j blk hj => ?_, fun j j' pb pb' h1 h2 hne => ?_, fun j pb h1 => ?_, fun b hb => ?_⟩
  · rw [heapOf_pack] at hj
    unfold phiOf
    cases hi : ids[j]? with
    | none => exact .inl rfl
    | some i =>
      rw [hi] at hj
      simp only [Option.bind_some, Option.map_eq_none_iff] at hj ⊢
      exact h.gone i hj
  · rw [heapOf_pack] at hj
    obtain ⟨i, hi, hj⟩ := Option.bind_eq_some_iff.1 hj
    obtain ⟨blk', h1, rfl⟩ := Option.map_eq_some_iff.1 hj
    obtain ⟨pb, h2, h3⟩ := h.here i blk' h1
    refine ⟨pb, ?_, h3.ren hNn (place_phi ids φ)⟩
    unfold phiOf
    rw [hi]
    exact h2
  · unfold phiOf at h1 h2
    obtain ⟨i, hi, h1⟩ := Option.bind_eq_some_iff.1 h1
    obtain ⟨i', hi', h2⟩ := Option.bind_eq_some_iff.1 h2
    refine h.apart i i' pb pb' h1 h2 fun e => ?_
    subst e
    exact hne ((List.getElem?_inj (List.getElem?_eq_some_iff.1 hi).1 hn).1 (hi.trans hi'.symm))
  · unfold phiOf at h1
    obtain ⟨i, hi, h1⟩ := Option.bind_eq_some_iff.1 h1
    exact hout i (List.mem_of_getElem? hi) pb h1
  · rcases hN b hb with h1 | ⟨id, pb, blk, h1, h2, h3, rfl⟩
    · exact h.lim b h1
    · exact h.lt h1
mutual
theorem freeze_rep {w : World} {N0 N' : Nat → Prop} {φ φ' : Phi} {H : Heap} {rd : Nat → Option Blk} (hrel : HeapRel w N0 φ H) (hrd : ∀ id b, rd id = some b → H id = some b) (hN : ∀ b, N' b → Nn N0 φ H b) :
    ∀ {d d' : DV} {v : Value}, (∀ id ∈ d.ids, ∀ pb, φ id = some (some pb) → ¬ N' pb.b) → d.freeze rd = some d' → Rep w (Nn N0 φ H) φ d v → Rep w N' φ' d' v ∧ d'.imm = true
  | .undef, d', v, hl, hf, h => by unfold DV.freeze at hf; simp only [Option.some.injEq] at hf; subst hf; exact ⟨h.weaken hN rfl, rfl⟩
  | .dead, d', v, hl, hf, h => by unfold DV.freeze at hf; cases hf
  | .bool b, d', v, hl, hf, h => by unfold DV.freeze at hf; simp only [Option.some.injEq] at hf; subst hf; exact ⟨h.weaken hN rfl, rfl⟩
  | .int k n, d', v, hl, hf, h => by unfold DV.freeze at hf; simp only [Option.some.injEq] at hf; subst hf; exact ⟨h.weaken hN rfl, rfl⟩
  | .str s, d', v, hl, hf, h => by unfold DV.freeze at hf; simp only [Option.some.injEq] at hf; subst hf; exact ⟨h.weaken hN rfl, rfl⟩
  | .nilp, d', v, hl, hf, h => by unfold DV.freeze at hf; simp only [Option.some.injEq] at hf; subst hf; exact ⟨h.weaken hN rfl, rfl⟩
  | .ptr id ix off, d', v, hl, hf, h => by
    unfold DV.freeze at hf
    split at hf
    · rename_i r hr
      split at hf
      · rename_i e he
        split at hf
        · rename_i hi
          simp only [Option.some.injEq] at hf; subst hf
          obtain ⟨pb, cur, vs, rest, h1, h2, h3, h4, h5, h6, h7, h8, h9, h10⟩ := hrel.row (hrd _ _ (rowAt_some hr))
          have hn := hl id (by simp [DV.ids]) pb h1
          unfold Rep at h
          obtain ⟨_, q, hq, hvv⟩ := h
          rw [h1] at hq
          have hv := hvv pb (by simpa using hq.symm)
          obtain ⟨x, k1, k2, k3, k4, k5⟩ := RepEs.get ix h6 he
          have hie := imms_mem hi (List.mem_of_getElem? he)
          refine ⟨?_, rfl⟩
          unfold Rep
          refine ⟨hie, k2, pb.b, ix * pb.sz, x, hv, hrel.lt h1, hn, k1.weaken hN hie, k4, fun k y hk => ?_⟩
          have h11 : cur.toList[ix * pb.sz + k]? = some y := by
            rw [← k5, List.getElem?_take, List.getElem?_drop] at hk
            split at hk
            · rw [h7, h4]
              exact List.getElem?_append_left (List.getElem?_eq_some_iff.1 hk).1 ▸ hk
            · cases hk
          have := h10 _ _ h11
          rwa [Nat.zero_add] at this
        · cases hf
      · cases hf
    · cases hf
  | .iptr e off, d', v, hl, hf, h => by unfold DV.freeze at hf; simp only [Option.some.injEq] at hf; subst hf; exact ⟨h.weaken hN rfl, rfl⟩
  | .list es t, d', v, hl, hf, h => by
    unfold DV.freeze at hf; simp only [Option.some.injEq] at hf; subst hf
    have h2 : Rep w N' φ' (.list es t) v := h.weaken hN rfl
    refine ⟨?_, rfl⟩
    unfold Rep at h2 ⊢
    obtain ⟨hi, A, c, h1, _, h3, h4⟩ := h2
    exact ⟨hi, A, c, h1, fun q => absurd q (by simp), h3, h4⟩
  | .ref id off len cap, d', v, hl, hf, h => by
    unfold DV.freeze at hf
    split at hf
    · rename_i r hr
      split at hf
      · rename_i hc
        simp only [Bool.and_eq_true, decide_eq_true_eq] at hc
        simp only [Option.some.injEq] at hf; subst hf
        refine ⟨?_, rfl⟩
        have he : elemsOf rd (.ref id off len cap) = some ((r.elems.drop off).take len) := by
          simp [elemsOf, hr, hc.1, hc.2]
        obtain ⟨iy, A, c, hv, hlc, hm⟩ := elemsOf_rep hrel hrd h he
        obtain ⟨pb, cur, vs, rest, h1, h2, h3, h4, h5, h6, h7, h8, h9, h10⟩ := hrel.row (hrd _ _ (rowAt_some hr))
        have hn := hl id (by simp [DV.ids]) pb h1
        unfold Rep at h
        obtain ⟨_, q, hq, hvv⟩ := h
        rw [h1] at hq
        obtain ⟨c', hv', hlc', _⟩ := hvv pb (by simpa using hq.symm)
        unfold Rep
        refine ⟨iy, A, c, hv, fun q => absurd q (by simp), hlc, hm.imp (fun q => q) ?_⟩
        rintro ⟨b, o, sz, us, rfl, hE, hcell⟩
        have hb : b = pb.b := by
          rw [hv'] at hv
          simp only [Value.slice.injEq, Option.some.injEq, Addr.mk.injEq] at hv
          exact hv.1.1.symm
        subst hb
        exact ⟨pb.b, o, sz, us, rfl, hrel.lt h1, hn, hE.weaken hN iy, hcell⟩
      · cases hf
    · cases hf
  | .agg cs, d', v, hl, hf, h => by
    unfold DV.freeze at hf
    obtain ⟨ds, h1, rfl⟩ := Option.map_eq_some_iff.1 hf
    unfold Rep at h
    obtain ⟨vs, rfl, h2, h3⟩ := h
    obtain ⟨h4, h5⟩ := freezes_rep (φ' := φ') hrel hrd hN (by simpa [DV.ids] using hl) h1 h2
    exact ⟨by unfold Rep; exact ⟨vs, rfl, h4, h3⟩, by simpa [DV.imm] using h5⟩
  | .tuple cs, d', v, hl, hf, h => by
    unfold DV.freeze at hf
    obtain ⟨ds, h1, rfl⟩ := Option.map_eq_some_iff.1 hf
    unfold Rep at h
    obtain ⟨vs, rfl, h2⟩ := h
    obtain ⟨h4, h5⟩ := freezes_rep (φ' := φ') hrel hrd hN (by simpa [DV.ids] using hl) h1 h2
    exact ⟨by unfold Rep; exact ⟨vs, rfl, h4⟩, by simpa [DV.imm] using h5⟩
  | .func f cs, d', v, hl, hf, h => by
    unfold DV.freeze at hf
    obtain ⟨ds, h1, rfl⟩ := Option.map_eq_some_iff.1 hf
    unfold Rep at h
    obtain ⟨vs, rfl, h2⟩ := h
    obtain ⟨h4, h5⟩ := freezes_rep (φ' := φ') hrel hrd hN (by simpa [DV.ids] using hl) h1 h2
    exact ⟨by unfold Rep; exact ⟨vs, rfl, h4⟩, by simpa [DV.imm] using h5⟩
  | .nilf, d', v, hl, hf, h => by unfold DV.freeze at hf; simp only [Option.some.injEq] at hf; subst hf; exact ⟨h.weaken hN rfl, rfl⟩
  | .iface t d, d', v, hl, hf, h => by
    unfold DV.freeze at hf
    obtain ⟨e, h1, rfl⟩ := Option.map_eq_some_iff.1 hf
    unfold Rep at h
    obtain ⟨x, rfl, h2⟩ := h
    obtain ⟨h4, h5⟩ := freeze_rep (φ' := φ') hrel hrd hN (by simpa [DV.ids] using hl) h1 h2
    exact ⟨by unfold Rep; exact ⟨x, rfl, h4⟩, by simpa [DV.imm] using h5⟩
  | .nili, d', v, hl, hf, h => by unfold DV.freeze at hf; simp only [Option.some.injEq] at hf; subst hf; exact ⟨h.weaken hN rfl, rfl⟩
theorem freezes_rep {w : World} {N0 N' : Nat → Prop} {φ φ' : Phi} {H : Heap} {rd : Nat → Option Blk} (hrel : HeapRel w N0 φ H) (hrd : ∀ id b, rd id = some b → H id = some b) (hN : ∀ b, N' b → Nn N0 φ H b) :
    ∀ {d d' : List DV} {v : List Value}, (∀ id ∈ DV.idss d, ∀ pb, φ id = some (some pb) → ¬ N' pb.b) → DV.freezes rd d = some d' → RepL w (Nn N0 φ H) φ d v → RepL w N' φ' d' v ∧ DV.imms d' = true
  | [], d', v, hl, hf, h => by
    unfold DV.freezes at hf; simp only [Option.some.injEq] at hf; subst hf
    unfold RepL at h ⊢; exact ⟨h, rfl⟩
  | d :: ds, d', v, hl, hf, h => by
    unfold DV.freezes at hf
    split at hf
    · rename_i a l h1 h2
      simp only [Option.some.injEq] at hf; subst hf
      unfold RepL at h
      obtain ⟨x, r, rfl, h3, h4⟩ := h
      have hl1 : ∀ id ∈ d.ids, ∀ pb, φ id = some (some pb) → ¬ N' pb.b := fun id hid => hl id (by unfold DV.idss; exact List.mem_append_left _ hid)
      have hl2 : ∀ id ∈ DV.idss ds, ∀ pb, φ id = some (some pb) → ¬ N' pb.b := fun id hid => hl id (by unfold DV.idss; exact List.mem_append_right _ hid)
      obtain ⟨h5, h6⟩ := freeze_rep (φ' := φ') hrel hrd hN hl1 h1 h3
      obtain ⟨h7, h8⟩ := freezes_rep (φ' := φ') hrel hrd hN hl2 h2 h4
      exact ⟨by unfold RepL; exact ⟨x, r, rfl, h5, h7⟩, by simp [DV.imms, h6, h8]⟩
    · cases hf
end
mutual
theorem Rep.scalar {w w' : World} {N N' : Nat → Prop} {φ φ' : Phi} : ∀ {d : DV} {v : Value}, d.scalar = true → Rep w N φ d v → Rep w' N' φ' d v
  | .undef, v, _, h => by unfold Rep at h ⊢; exact h
  | .dead, v, s, h => absurd s (by simp [DV.scalar])
  | .bool b, v, _, h => by unfold Rep at h ⊢; exact h
  | .int k n, v, _, h => by unfold Rep at h ⊢; exact h
  | .str s, v, _, h => by unfold Rep at h ⊢; exact h
  | .nilp, v, _, h => by unfold Rep at h ⊢; exact h
  | .ptr id ix off, v, s, h => absurd s (by simp [DV.scalar])
  | .iptr e off, v, s, h => absurd s (by simp [DV.scalar])
  | .list es t, v, s, h => absurd s (by simp [DV.scalar])
  | .ref id off len cap, v, s, h => absurd s (by simp [DV.scalar])
  | .agg cs, v, s, h => by
    unfold Rep at h ⊢
    obtain ⟨vs, h1, h2, h3⟩ := h
    exact ⟨vs, h1, RepL.scalar (by simpa [DV.scalar] using s) h2, h3⟩
  | .tuple cs, v, s, h => by
    unfold Rep at h ⊢
    obtain ⟨vs, h1, h2⟩ := h
    exact ⟨vs, h1, RepL.scalar (by simpa [DV.scalar] using s) h2⟩
  | .func f cs, v, s, h => by
    unfold Rep at h ⊢
    obtain ⟨vs, h1, h2⟩ := h
    exact ⟨vs, h1, RepL.scalar (by simpa [DV.scalar] using s) h2⟩
  | .nilf, v, _, h => by unfold Rep at h ⊢; exact h
  | .iface t d, v, s, h => by
    unfold Rep at h ⊢
    obtain ⟨x, h1, h2⟩ := h
    exact ⟨x, h1, Rep.scalar (by simpa [DV.scalar] using s) h2⟩
  | .nili, v, _, h => by unfold Rep at h ⊢; exact h
theorem RepL.scalar {w w' : World} {N N' : Nat → Prop} {φ φ' : Phi} : ∀ {d : List DV} {v : List Value}, DV.scalars d = true → RepL w N φ d v → RepL w' N' φ' d v
  | [], v, _, h => by unfold RepL at h ⊢; exact h
  | d :: ds, v, s, h => by
    unfold RepL at h ⊢
    obtain ⟨x, r, h1, h2, h3⟩ := h
    simp only [DV.scalars, Bool.and_eq_true] at s
    exact ⟨x, r, h1, Rep.scalar s.1 h2, RepL.scalar s.2 h3⟩
end
end Go.PM
end
section
namespace Go.PM
open Go
set_option linter.unusedVariables false
structure Back (N0 : Nat → Prop) (w : World) (φ : Phi) (H : Heap) (m : Nat) (w' : World) (φ' : Phi) (H' : Heap) (m' : Nat) : Prop where
  os : w'.os = w.os
  tape : w'.tape = w.tape
  output : w'.output = w.output
  size : w.heap.size ≤ w'.heap.size
  same : ∀ b, b < w.heap.size → ¬ Own φ H b → w'.heap[b]? = w.heap[b]?
  own : ∀ b, b < w.heap.size → Own φ' H' b → Own φ H b
  keep : ∀ id q, id < m → φ id = some q → φ' id = some q ∨ φ' id = some none
  old : ∀ id pb, φ' id = some (some pb) → pb.b < w.heap.size → ∃ id0 pb0, φ id0 = some (some pb0) ∧ pb0.b = pb.b
  rel : HeapRel w' N0 φ' H'
  tail : ∀ k, m' ≤ k → φ' k = none
  le : m ≤ m'
structure GlobRel (C : Cfg) (w : World) (N : Nat → Prop) : Prop where
  vals : ∀ g d, C.globs g = some d → d.imm = true ∧ Rep w N (fun _ => none) d (.pointer (some ⟨g, 0, none⟩))
  fix : ∀ g q, C.fix g = some q → ¬ N g ∧ ∃ o, w.heap[g]? = some o ∧ q o
section
variable {N0 N0' : Nat → Prop} {w w1 : World} {φ φ1 : Phi} {H : Heap} {ids : List Nat} {hs1 : List (Option Blk)} {slot : Nat}
def invTo (ids : List Nat) (slot n : Nat) (i : Nat) : Option Nat := match place ids i with
  | some k => some k
  | none => if slot ≤ i ∧ i < slot + (n - ids.length) then some (ids.length + (i - slot)) else none
theorem inv_back {n i k : Nat} (hle : ids.length ≤ n) (h : invTo ids slot n i = some k) : backTo ids slot n k = some i ∧ k < n ∧ (k < ids.length → i ∈ ids) := by
  unfold invTo at h
  split at h
  · rename_i k' hk
    simp only [Option.some.injEq] at h; subst h
    have := place_some hk
    have hlt := (List.getElem?_eq_some_iff.1 this).1
    exact ⟨by unfold backTo; rw [this], by omega, fun _ => List.mem_of_getElem? this⟩
  · split at h
    · rename_i hc
      simp only [Option.some.injEq] at h; subst h
      refine ⟨?_, by omega, fun hh => absurd hh (by omega)⟩
      unfold backTo
      rw [List.getElem?_eq_none (by omega)]
      simp only []
      rw [if_pos (by omega)]
      congr 1
      omega
    · cases h
theorem back_inv {n i k : Nat} (hn : ids.Nodup) (hslots : ∀ j, slot ≤ j → j < slot + (n - ids.length) → j ∉ ids) (hk : k < n) (h : backTo ids slot n k = some i) : invTo ids slot n i = some k := by
  unfold backTo at h
  split at h
  · rename_i j hj
    simp only [Option.some.injEq] at h; subst h
    obtain ⟨k', hk'⟩ := placeFrom_of (k := 0) (List.mem_of_getElem? hj)
    have h2 : place ids j = some k' := hk'
    have h3 := place_some h2
    have : k = k' := (List.getElem?_inj (List.getElem?_eq_some_iff.1 hj).1 hn).1 (hj.trans h3.symm)
    unfold invTo
    rw [h2, this]
  · rename_i hnone
    have hge : ids.length ≤ k := by simpa using hnone
    rw [if_pos hk] at h
    simp only [Option.some.injEq] at h; subst h
    have hni : slot + (k - ids.length) ∉ ids := hslots _ (by omega) (by omega)
    have : place ids (slot + (k - ids.length)) = none := by
      cases hp : place ids (slot + (k - ids.length)) with
      | none => rfl
      | some j => exact absurd (List.mem_of_getElem? (place_some hp)) hni
    unfold invTo
    rw [this]
    simp only []
    rw [if_pos (by omega)]
    congr 1
    omega
theorem put_back {ρ : Nat → Option Nat} {i : Nat} : ∀ (bs : List (Option Blk)) (j : Nat) (H : Heap), (∀ k k', j ≤ k → k < j + bs.length → j ≤ k' → k' < j + bs.length → ρ k = some i → ρ k' = some i → k = k') →
    (∀ k, j ≤ k → k < j + bs.length → ρ k = some i → (H.put (backEff ρ j bs)) i = (bs[k - j]?).bind fun b => b.map (Blk.ren ρ)) ∧ ((∀ k, j ≤ k → k < j + bs.length → ρ k ≠ some i) → (H.put (backEff ρ j bs)) i = H i)
  | [], j, H, hinj => ⟨fun k h1 h2 => absurd h2 (by simp; omega), fun _ => rfl⟩
  | b :: r, j, H, hinj => by
    have ih := fun H' => put_back (ρ := ρ) (i := i) r (j + 1) H' (fun k k' h1 h2 h3 h4 => hinj k k' (by omega) (by simp; omega) (by omega) (by simp; omega))
    unfold backEff
    split
    · rename_i i0 hi0
      simp only [Heap.put]
      obtain ⟨h1, h2⟩ := ih (fun j => if j = i0 then b.map (Blk.ren ρ) else H j)
      refine ⟨fun k hk1 hk2 hk => ?_, fun hne => ?_⟩
      · by_cases hkj : k = j
        · subst hkj
          have he : i0 = i := by rw [hi0] at hk; simpa using hk
          rw [h2 fun k' a1 a2 a3 => by
            have := hinj k k' (by omega) hk2 (by omega) (by simp; omega) hk a3
            omega]
          simp [he]
        · rw [h1 k (by omega) (by simp at hk2; omega) hk, show k - j = (k - (j + 1)) + 1 by omega, List.getElem?_cons_succ]
      · rw [h2 fun k' a1 a2 => hne k' (by omega) (by simp; omega)]
        have : i ≠ i0 := fun e => hne j (Nat.le_refl _) (by simp) (by rw [hi0, e])
        simp [this]
    · rename_i hi0
      obtain ⟨h1, h2⟩ := ih H
      refine ⟨fun k hk1 hk2 hk => ?_, fun hne => h2 fun k' a1 a2 => hne k' (by omega) (by simp; omega)⟩
      have hkj : k ≠ j := fun e => by subst e; rw [hi0] at hk; cases hk
      rw [h1 k (by omega) (by simp at hk2; omega) hk, show k - j = (k - (j + 1)) + 1 by omega, List.getElem?_cons_succ]
theorem back_sound (h : HeapRel w N0 φ H) (hn : ids.Nodup) (hids : ∀ i ∈ ids, φ i ≠ none) (hN1 : ∀ b, N0 b → N0' b)
    (hN2 : ∀ id pb blk, φ id = some (some pb) → H id = some blk → blk.fz = false → id ∉ ids → N0' pb.b)
    (B : Back N0' w (phiOf ids φ) (heapOf (packIds ids H)) ids.length w1 φ1 (heapOf hs1) hs1.length)
    (hslot : ∀ j, slot ≤ j → j < slot + wide → φ j = none) (hw : hs1.length ≤ ids.length + wide) :
    ∃ φ2, Step N0 w φ H w1 φ2 (H.put (backEff (backTo ids slot hs1.length) 0 hs1)) ∧
      (∀ d v, Rep w1 (Nn N0' φ1 (heapOf hs1)) φ1 d v → Rep w1 (Nn N0 φ2 (H.put (backEff (backTo ids slot hs1.length) 0 hs1))) φ2 (d.ren (backTo ids slot hs1.length)) v) ∧
      ∀ id, φ id = none → ¬ (slot ≤ id ∧ id < slot + wide) → φ2 id = none := by
  have hle := B.le
  have hslots : ∀ j, slot ≤ j → j < slot + (hs1.length - ids.length) → j ∉ ids := fun j h1 h2 hj => hids j hj (hslot j h1 (by omega))
  have hH2 : ∀ i, (H.put (backEff (backTo ids slot hs1.length) 0 hs1)) i = match invTo ids slot hs1.length i with
      | some k => (heapOf hs1 k).map (Blk.ren (backTo ids slot hs1.length))
      | none => H i := by
    intro i
    obtain ⟨h1, h2⟩ := put_back (ρ := backTo ids slot hs1.length) (i := i) hs1 0 H (fun k k' _ a1 _ a2 a3 a4 => by
      have b1 := back_inv hn hslots (by omega) a3
      have b2 := back_inv hn hslots (by omega) a4
      rw [b1] at b2
      simpa using b2)
    cases hi : invTo ids slot hs1.length i with
    | some k =>
      obtain ⟨a1, a2, _⟩ := inv_back hle hi
      rw [h1 k (Nat.zero_le _) (by omega) a1]
      unfold heapOf
      simp only [Nat.sub_zero]
      cases hs1[k]? with
      | none => rfl
      | some b => rfl
    | none =>
      refine h2 fun k _ a1 a2 => ?_
      have := back_inv hn hslots (by omega) a2
      rw [hi] at this
      cases this
  let φ2 : Phi := fun i => match invTo ids slot hs1.length i with | some k => φ1 k | none => φ i
  have hφ2 : ∀ i k, invTo ids slot hs1.length i = some k → φ2 i = φ1 k := fun i k hi => by simp only [φ2, hi]
  have hφ2' : ∀ i, invTo ids slot hs1.length i = none → φ2 i = φ i := fun i hi => by simp only [φ2, hi]
  have hρ : ∀ k j, backTo ids slot hs1.length k = some j → φ2 j = φ1 k := fun k j hk => by
    by_cases hkn : k < hs1.length
    · exact hφ2 _ _ (back_inv hn hslots hkn hk)
    · unfold backTo at hk
      split at hk
      · rename_i j' hj
        have := (List.getElem?_eq_some_iff.1 hj).1
        omega
      · rw [if_neg hkn] at hk
        cases hk
  have hNn : ∀ b, Nn N0 φ2 (H.put (backEff (backTo ids slot hs1.length) 0 hs1)) b → Nn N0' φ1 (heapOf hs1) b := by
    rintro b (hb | ⟨id, pb, blk, h1, h2, h3, rfl⟩)
    · exact .inl (hN1 b hb)
    · cases hi : invTo ids slot hs1.length id with
      | some k =>
        rw [hφ2 _ _ hi] at h1
        rw [hH2, hi] at h2
        obtain ⟨blk', h4, rfl⟩ := Option.map_eq_some_iff.1 h2
        rw [Blk.ren_fz] at h3
        exact .inr ⟨k, pb, blk', h1, h4, h3, rfl⟩
      | none =>
        rw [hφ2' _ hi] at h1
        rw [hH2, hi] at h2
        refine .inl (hN2 id pb blk h1 h2 h3 fun hid => ?_)
        obtain ⟨k, hk⟩ := placeFrom_of (k := 0) hid
        have hk' : place ids id = some k := hk
        unfold invTo at hi
        rw [hk'] at hi
        cases hi
  refine ⟨φ2, Step.gen h (fun i => (invTo ids slot hs1.length i).isSome = true) B.os B.tape B.output B.size (fun b hb hno => B.same b hb fun ho => hno (pack_own ho).1) (fun i ht => ?_) (fun i q hq => ?_) (fun i ht pb hp => ?_) (fun i ht pb blk h1 h2 h3 h4 => ?_) (fun i ht h1 => ?_) (fun L i ht blk h1 => ?_) (fun i ht i' pb pb' h1 h2 hne => ?_) (fun i ht pb h1 => ?_) (fun i ht pb h1 h2 => ?_),
    fun d v hd => hd.ren hNn hρ, fun i hi hns => ?_⟩
  · have hi : invTo ids slot hs1.length i = none := by simpa using ht
    exact ⟨hφ2' _ hi, by rw [hH2, hi]⟩
  · cases hi : invTo ids slot hs1.length i with
    | none => exact .inl (by rw [hφ2' _ hi]; exact hq)
    | some k =>
      rw [hφ2 _ _ hi]
      unfold invTo at hi
      split at hi
      · rename_i k' hk
        simp only [Option.some.injEq] at hi; subst hi
        have h5 := place_some hk
        exact B.keep k' q (List.getElem?_eq_some_iff.1 h5).1 (by unfold phiOf; rw [h5]; exact hq)
      · split at hi
        · rename_i hc
          have := hslot i hc.1 (by omega)
          rw [hq] at this
          cases this
        · cases hi
  · have hi : invTo ids slot hs1.length i = none := by simpa using ht
    refine B.same _ (h.lt hp) fun ho => ?_
    obtain ⟨_, id', hid', pb', h5, h6⟩ := pack_own ho
    by_cases he : i = id'
    · subst he
      obtain ⟨k, hk⟩ := placeFrom_of (k := 0) hid'
      have hk' : place ids i = some k := hk
      unfold invTo at hi
      rw [hk'] at hi
      cases hi
    · exact h.apart _ _ _ _ hp h5 he h6.symm
  · obtain ⟨k, hi⟩ := Option.isSome_iff_exists.1 ht
    rw [hφ2 _ _ hi] at h1
    rw [hH2, hi] at h2
    obtain ⟨blk', h5, rfl⟩ := Option.map_eq_some_iff.1 h2
    rw [Blk.ren_fz] at h3
    exact (pack_own (B.own _ h4 ⟨k, pb, blk', h1, h5, h3, rfl⟩)).1
  · obtain ⟨k, hi⟩ := Option.isSome_iff_exists.1 ht
    rw [hH2, hi] at h1
    simp only [Option.map_eq_none_iff] at h1
    rw [hφ2 _ _ hi]
    exact B.rel.gone k h1
  · obtain ⟨k, hi⟩ := Option.isSome_iff_exists.1 ht
    rw [hH2, hi] at h1
    obtain ⟨blk', h5, rfl⟩ := Option.map_eq_some_iff.1 h1
    obtain ⟨pb, h6, h7⟩ := B.rel.here k blk' h5
    exact ⟨pb, by rw [hφ2 _ _ hi]; exact h6, h7.ren hNn hρ⟩
  · obtain ⟨k, hi⟩ := Option.isSome_iff_exists.1 ht
    rw [hφ2 _ _ hi] at h1
    cases hi' : invTo ids slot hs1.length i' with
    | some k' =>
      rw [hφ2 _ _ hi'] at h2
      refine B.rel.apart k k' pb pb' h1 h2 fun e => ?_
      subst e
      have a1 := (inv_back hle hi).1
      have a2 := (inv_back hle hi').1
      rw [a1] at a2
      exact hne (by simpa using a2)
    | none =>
      rw [hφ2' _ hi'] at h2
      intro he
      have hlt := h.lt h2
      obtain ⟨k0, pb0, h5, h6⟩ := B.old k pb h1 (by rw [he]; exact hlt)
      unfold phiOf at h5
      obtain ⟨id0, h7, h8⟩ := Option.bind_eq_some_iff.1 h5
      refine h.apart id0 i' pb0 pb' h8 h2 (fun e => ?_) (h6.trans he)
      subst e
      obtain ⟨k2, hk2⟩ := placeFrom_of (k := 0) (List.mem_of_getElem? h7)
      have hk' : place ids id0 = some k2 := hk2
      unfold invTo at hi'
      rw [hk'] at hi'
      cases hi'
  · obtain ⟨k, hi⟩ := Option.isSome_iff_exists.1 ht
    rw [hφ2 _ _ hi] at h1
    exact fun hb => B.rel.out k pb h1 (hN1 _ hb)
  · obtain ⟨k, hi⟩ := Option.isSome_iff_exists.1 ht
    rw [hφ2 _ _ hi] at h1
    obtain ⟨k0, pb0, h5, h6⟩ := B.old k pb h1 h2
    unfold phiOf at h5
    obtain ⟨id0, h7, h8⟩ := Option.bind_eq_some_iff.1 h5
    exact ⟨id0, pb0, h8, h6⟩
  · cases hi' : invTo ids slot hs1.length i with
    | none => rw [hφ2' _ hi']; exact hi
    | some k =>
      unfold invTo at hi'
      split at hi'
      · rename_i k' hk
        exact absurd hi (hids i (List.mem_of_getElem? (place_some hk)))
      · split at hi'
        · rename_i hc
          exact absurd ⟨hc.1, by omega⟩ hns
        · cases hi'
end
end Go.PM
end
section
namespace Go.PM
open Go
set_option linter.unusedVariables false
def CallOK (C : Cfg) (f : FuncId) (args : List DV) (hs : List (Option Blk)) (v : DV) (hs' : List (Option Blk)) : Prop :=
  ∀ (w : World) (N0 : Nat → Prop) (φ : Phi) (vals : List Value), (∀ k, hs.length ≤ k → φ k = none) → HeapRel w N0 φ (heapOf hs) → GlobRel C w (Nn N0 φ (heapOf hs)) → RepL w (Nn N0 φ (heapOf hs)) φ args vals →
    Calls C.P f vals.toArray w fun e w' => ∃ x φ', e = .returned x ∧ Back N0 w φ (heapOf hs) hs.length w' φ' (heapOf hs') hs'.length ∧ Rep w' (Nn N0 φ' (heapOf hs')) φ' v x
def ExtOK (C : Cfg) : Prop := ∀ g x, C.ext g = some x → ∀ args v hs', x args = some (v, hs') → CallOK C g args [] v hs'
section
variable {C : Cfg} {N0 : Nat → Prop} {w : World} {φ : Phi} {H : Heap}
mutual
theorem freeze_rows {rd : Nat → Option Blk} : ∀ {d d' : DV}, d.freeze rd = some d' → ∀ id ∈ d.ids, ∃ r, rowAt rd id = some r ∧ (r.leaf = true ∨ DV.imms r.elems = true)
  | .undef, d', hf, id, hid => absurd hid (by simp [DV.ids])
  | .dead, d', hf, id, hid => absurd hid (by simp [DV.ids])
  | .bool b, d', hf, id, hid => absurd hid (by simp [DV.ids])
  | .int k n, d', hf, id, hid => absurd hid (by simp [DV.ids])
  | .str s, d', hf, id, hid => absurd hid (by simp [DV.ids])
  | .nilp, d', hf, id, hid => absurd hid (by simp [DV.ids])
  | .ptr i ix off, d', hf, id, hid => by
    unfold DV.freeze at hf
    simp only [DV.ids, List.mem_singleton] at hid
    subst hid
    split at hf
    · rename_i r hr
      split at hf
      · split at hf
        · rename_i hc
          exact ⟨r, hr, .inr hc⟩
        · cases hf
      · cases hf
    · cases hf
  | .iptr e off, d', hf, id, hid => absurd hid (by simp [DV.ids])
  | .list es t, d', hf, id, hid => absurd hid (by simp [DV.ids])
  | .ref i off len cap, d', hf, id, hid => by
    unfold DV.freeze at hf
    simp only [DV.ids, List.mem_singleton] at hid
    subst hid
    split at hf
    · rename_i r hr
      split at hf
      · rename_i hc
        simp only [Bool.and_eq_true] at hc
        exact ⟨r, hr, .inl hc.1⟩
      · cases hf
    · cases hf
  | .agg cs, d', hf, id, hid => by
    unfold DV.freeze at hf
    obtain ⟨ds, h1, rfl⟩ := Option.map_eq_some_iff.1 hf
    exact freezes_rows h1 id (by simpa [DV.ids] using hid)
  | .tuple cs, d', hf, id, hid => by
    unfold DV.freeze at hf
    obtain ⟨ds, h1, rfl⟩ := Option.map_eq_some_iff.1 hf
    exact freezes_rows h1 id (by simpa [DV.ids] using hid)
  | .func f cs, d', hf, id, hid => by
    unfold DV.freeze at hf
    obtain ⟨ds, h1, rfl⟩ := Option.map_eq_some_iff.1 hf
    exact freezes_rows h1 id (by simpa [DV.ids] using hid)
  | .nilf, d', hf, id, hid => absurd hid (by simp [DV.ids])
  | .iface t d, d', hf, id, hid => by
    unfold DV.freeze at hf
    obtain ⟨ds, h1, rfl⟩ := Option.map_eq_some_iff.1 hf
    exact freeze_rows h1 id (by simpa [DV.ids] using hid)
  | .nili, d', hf, id, hid => absurd hid (by simp [DV.ids])
theorem freezes_rows {rd : Nat → Option Blk} : ∀ {d d' : List DV}, DV.freezes rd d = some d' → ∀ id ∈ DV.idss d, ∃ r, rowAt rd id = some r ∧ (r.leaf = true ∨ DV.imms r.elems = true)
  | [], d', hf, id, hid => absurd hid (by simp [DV.idss])
  | d :: ds, d', hf, id, hid => by
    unfold DV.freezes at hf
    split at hf
    · rename_i a l h1 h2
      unfold DV.idss at hid
      rcases List.mem_append.1 hid with h3 | h3
      · exact freeze_rows h1 id h3
      · exact freezes_rows h2 id h3
    · cases hf
end
theorem lent_step {rd : Nat → Option Blk} (hrd : ∀ id b, rd id = some b → H id = some b) : ∀ (ids : List Nat) (H1 : Heap), HeapRel w N0 φ H1 → (∀ i, H1 i = H i ∨ ∃ r, H i = some (.row r) ∧ H1 i = some (.row { r with fz := true, leaf := true })) → (∀ i ∈ ids, ∃ r, rowAt rd i = some r ∧ (r.leaf = true ∨ DV.imms r.elems = true)) →
    Step N0 w φ H1 w φ (H1.put (lentEff rd ids)) ∧ (∀ i, (H1.put (lentEff rd ids)) i = H i ∨ ∃ r, H i = some (.row r) ∧ (H1.put (lentEff rd ids)) i = some (.row { r with fz := true, leaf := true })) ∧
      (∀ i, (∃ r, H1 i = some (.row r) ∧ r.fz = true) ∨ i ∈ ids → ∃ r, (H1.put (lentEff rd ids)) i = some (.row r) ∧ r.fz = true)
  | [], H1, hrel, hinv, hrows => ⟨Step.refl hrel, hinv, fun i hi => hi.elim id fun h => absurd h (by simp)⟩
  | i :: ids, H1, hrel, hinv, hrows => by
    obtain ⟨r, hr, hl⟩ := hrows i List.mem_cons_self
    have hH := hrd _ _ (rowAt_some hr)
    unfold lentEff
    rw [hr]
    simp only [Heap.put]
    obtain ⟨r1, hr1, hl1, he⟩ : ∃ r1, H1 i = some (.row r1) ∧ DV.imms r1.elems = true ∧ ({ r1 with fz := true, leaf := true } : Row) = { r with fz := true, leaf := true } := by
      rcases hinv i with h1 | ⟨r', h1, h2⟩
      · refine ⟨r, h1.trans hH, ?_, rfl⟩
        rcases hl with hl | hl
        · obtain ⟨_, _, _, _, _, _, _, _, _, _, _, h8, _⟩ := hrel.row (h1.trans hH)
          exact h8 hl
        · exact hl
      · rw [hH] at h1
        simp only [Option.some.injEq, Blk.row.injEq] at h1
        subst h1
        obtain ⟨_, _, _, _, _, _, _, _, _, _, _, h8, _⟩ := hrel.row h2
        exact ⟨_, h2, h8 rfl, rfl⟩
    have st := Step.freeze hrel hr1 hl1
    rw [he] at st
    have heq : H1.put [(i, some (Blk.row { r with fz := true, leaf := true }))] = fun j => if j = i then some (Blk.row { r with fz := true, leaf := true }) else H1 j := rfl
    rw [heq] at st
    have hinv' : ∀ j, (if j = i then some (Blk.row { r with fz := true, leaf := true }) else H1 j) = H j ∨ ∃ r', H j = some (.row r') ∧ (if j = i then some (Blk.row { r with fz := true, leaf := true }) else H1 j) = some (.row { r' with fz := true, leaf := true }) := by
      intro j
      by_cases hj : j = i
      · subst hj
        exact .inr ⟨r, hH, by simp⟩
      · simpa [hj] using hinv j
    obtain ⟨k1, k2, k3⟩ := lent_step hrd ids _ st.rel hinv' fun j hj => hrows j (List.mem_cons_of_mem _ hj)
    refine ⟨st.trans k1, k2, fun j hj => k3 j ?_⟩
    rcases hj with ⟨r2, h1, h2⟩ | hj
    · left
      by_cases hji : j = i
      · subst hji; exact ⟨_, if_pos rfl, rfl⟩
      · exact ⟨r2, by simpa [hji] using h1, h2⟩
    · rcases List.mem_cons.1 hj with hj | hj
      · subst hj; exact .inl ⟨_, if_pos rfl, rfl⟩
      · exact .inr hj
theorem put_append : ∀ (a b : Eff) (H : Heap), H.put (a ++ b) = (H.put a).put b
  | [], b, H => rfl
  | (i, x) :: a, b, H => by
    simp only [List.cons_append, Heap.put]
    exact put_append a b _
theorem heapOf_nil : heapOf [] = fun _ => none := by funext i; rfl
theorem phiOf_nil (φ : Phi) : phiOf [] φ = fun _ => none := by funext i; rfl
theorem Step.grow (h : HeapRel w N0 φ H) {w' : World} (hos : w'.os = w.os) (htape : w'.tape = w.tape) (hout : w'.output = w.output) (hsize : w.heap.size ≤ w'.heap.size) (hsame : ∀ b, b < w.heap.size → w'.heap[b]? = w.heap[b]?) : Step N0 w φ H w' φ H :=
  Step.gen h (fun _ => False) hos htape hout hsize (fun b hb _ => hsame b hb) (fun _ _ => ⟨rfl, rfl⟩) (fun _ _ h => .inl h)
    (fun id _ pb hp => hsame _ (h.lt hp)) (fun _ h => h.elim) (fun _ h => h.elim) (fun _ _ h => h.elim) (fun _ h => h.elim) (fun _ h => h.elim) (fun _ h => h.elim)
def Told (N0 : Nat → Prop) (slot : Nat) (w : World) (φ : Phi) (H : Heap) (v : DV) (e : Eff) (x : Value) (w' : World) : Prop :=
  ∃ φ', Step N0 w φ H w' φ' (H.put e) ∧ Rep w' (Nn N0 φ' (H.put e)) φ' v x ∧ ∀ id, φ id = none → ¬ (slot ≤ id ∧ id < slot + wide) → φ' id = none
theorem GlobRel.weaken {N N' : Nat → Prop} (h : GlobRel C w N) (hN : ∀ b, N' b → N b) : GlobRel C w N' := ⟨fun g d hg => ⟨(h.vals g d hg).1, (h.vals g d hg).2.weaken hN (h.vals g d hg).1⟩, fun g q hg => ⟨fun hn => (h.fix g q hg).1 (hN g hn), (h.fix g q hg).2⟩⟩
theorem callD_sound {rec : Req → Option Res} {slot : Nat} {rd : Nat → Option Blk} {g : FuncId} {args : List DV} {vals : List Value} {v : DV} {e : Eff} (hrec : ∀ g args hs v hs', rec (.call g args hs) = some (.done v hs') → CallOK C g args hs v hs') (hext : ExtOK C)
    (hrel : HeapRel w N0 φ H) (hrd : ∀ id b, rd id = some b → H id = some b) (hslot : ∀ j, slot ≤ j → j < slot + wide → φ j = none) (hglob : GlobRel C w (Nn N0 φ H)) (hargs : RepL w (Nn N0 φ H) φ args vals) (h : C.callD rec slot rd g args = some (v, e)) :
    Calls C.P g vals.toArray w fun en w' => ∃ x, en = .returned x ∧ Told N0 slot w φ H v e x w' := by
  unfold Cfg.callD at h
  split at h
  ·
    split at h
    · rename_i ids hids
      split at h
      · rename_i v1 hs1 hr
        split at h
        · rename_i hw
          simp only [Option.some.injEq, Prod.mk.injEq] at h
          obtain ⟨rfl, rfl⟩ := h
          obtain ⟨hnd, hmem, _⟩ := collect_nodup hids (by simp)
          have hmem' : ∀ i ∈ ids, ∃ b, H i = some b := fun i hi => by
            obtain ⟨b, hb⟩ := (hmem i hi).resolve_left (by simp)
            exact ⟨b, hrd _ _ hb⟩
          have hidsφ : ∀ i ∈ ids, φ i ≠ none := fun i hi => by
            obtain ⟨b, hb⟩ := hmem' i hi
            obtain ⟨pb, h1, _⟩ := hrel.here i b hb
            rw [h1]; simp
          have hpk : packIds ids rd = packIds ids H := by
            unfold packIds
            refine List.map_congr_left fun i hi => ?_
            obtain ⟨b, hb⟩ := (hmem i hi).resolve_left (by simp)
            rw [hb, hrd _ _ hb]
          rw [hpk] at hr
          let N0' : Nat → Prop := fun b => Nn N0 φ H b ∧ ¬ ∃ id ∈ ids, ∃ pb, φ id = some (some pb) ∧ pb.b = b
          have hN1 : ∀ b, N0 b → N0' b := fun b hb => ⟨.inl hb, fun ⟨id, hid, pb, h1, h2⟩ => hrel.out id pb h1 (h2 ▸ hb)⟩
          have hN2 : ∀ id pb blk, φ id = some (some pb) → H id = some blk → blk.fz = false → id ∉ ids → N0' pb.b := fun id pb blk h1 h2 h3 h4 =>
            ⟨.inr ⟨id, pb, blk, h1, h2, h3, rfl⟩, fun ⟨id', hid', pb', h5, h6⟩ => hrel.apart id' id pb' pb h5 h1 (fun e => h4 (e ▸ hid')) h6⟩
          have hrel' := hrel.pack (N0' := N0') hnd (fun b hb => hb.1) (fun id hid pb hp hb => hb.2 ⟨id, hid, pb, hp, rfl⟩)
          have hsub : ∀ b, Nn N0' (phiOf ids φ) (heapOf (packIds ids H)) b → Nn N0 φ H b := fun b hb => hb.elim (fun q => q.1) fun q => .inr (pack_own q).1
          have hlen : (packIds ids H).length = ids.length := by unfold packIds; simp
          refine (hrec _ _ _ _ _ hr w N0' (phiOf ids φ) vals (fun k hk => ?_) hrel' (hglob.weaken hsub) (hargs.ren hsub (place_phi ids φ))).mono fun en w1 hpost => ?_
          · unfold phiOf
            rw [List.getElem?_eq_none (by omega)]
            rfl
          · obtain ⟨x, φ1, rfl, B, hx⟩ := hpost
            rw [hlen] at B
            obtain ⟨φ2, k1, k2, k3⟩ := back_sound hrel hnd hidsφ hN1 hN2 B hslot hw
            exact ⟨x, rfl, φ2, k1, k2 _ _ hx, k3⟩
        · cases h
      · cases h
    · cases h
  · split at h
    · cases h
    · rename_i args' hf
      split at h
      · rename_i v1 hs1 hr
        split at h
        · rename_i hw
          let lent : Nat → Prop := fun b => ∃ id ∈ DV.idss args, ∃ pb, φ id = some (some pb) ∧ pb.b = b
          let N0' : Nat → Prop := fun b => Nn N0 φ H b ∧ ¬ lent b
          have hargs' := (freezes_rep (N' := Nn N0' (fun _ => none) (heapOf [])) (φ' := fun _ => none) hrel hrd (fun b hb => by
            rcases hb with hb | ⟨id, pb, blk, h1, _⟩
            · exact hb.1
            · cases h1) (fun id hid pb hp hb => by
            rcases hb with hb | ⟨id, pb, blk, h1, _⟩
            · exact hb.2 ⟨id, hid, pb, hp, rfl⟩
            · cases h1) hf hargs).1
          have hrel0 : HeapRel w N0' (fun _ => none) (heapOf []) := by
            refine ⟨fun _ _ => .inl rfl, fun id blk h => ?_, fun _ _ _ _ h => ?_, fun _ _ h => ?_, fun b hb => ?_⟩
            · rw [heapOf_nil] at h
              cases h
            · cases h
            · cases h
            · rcases hb.1 with h1 | ⟨id, pb, blk, h1, h2, h3, rfl⟩
              · exact hrel.lim b h1
              · exact hrel.lt h1
          have hcall : CallOK C g args' [] v1 hs1 := by
            unfold Cfg.askD at hr
            split at hr
            · rename_i x hx
              obtain ⟨⟨v2, hs2⟩, h1, h2⟩ := Option.map_eq_some_iff.1 hr
              simp only [Res.done.injEq] at h2
              obtain ⟨rfl, rfl⟩ := h2
              exact hext g x hx _ _ _ h1
            · exact hrec _ _ _ _ _ hr
          refine (hcall w N0' (fun _ => none) vals (fun _ _ => rfl) hrel0 (hglob.weaken fun b hb => by
            rcases hb with hb | ⟨id, pb, blk, h1, _⟩
            · exact hb.1
            · cases h1) hargs').mono fun en w1 hpost => ?_
          obtain ⟨x, φ1, rfl, B, hx⟩ := hpost
          refine ⟨x, rfl, ?_⟩
          split at h
          · rename_i hsc
            simp only [Option.some.injEq, Prod.mk.injEq] at h
            obtain ⟨rfl, rfl⟩ := h
            exact ⟨φ, Step.grow hrel B.os B.tape B.output B.size (fun b hb => B.same b hb fun ⟨id, pb, blk, h1, _⟩ => (by cases h1)), hx.scalar hsc, fun _ h _ => h⟩
          · simp only [Option.some.injEq, Prod.mk.injEq] at h
            obtain ⟨rfl, rfl⟩ := h
            obtain ⟨s1, s2, s3⟩ := lent_step hrd (DV.idss args) H hrel (fun i => .inl rfl) (freezes_rows hf)
            have hN1 : ∀ b, N0 b → N0' b := fun b hb => ⟨.inl hb, fun ⟨id, hid, pb, h1, h2⟩ => hrel.out id pb h1 (h2 ▸ hb)⟩
            have hN2 : ∀ id pb blk, φ id = some (some pb) → (H.put (lentEff rd (DV.idss args))) id = some blk → blk.fz = false → id ∉ ([] : List Nat) → N0' pb.b := fun id pb blk h1 h2 h3 _ => by
              refine ⟨.inr ⟨id, pb, blk, h1, ?_, h3, rfl⟩, fun ⟨id', hid', pb', h5, h6⟩ => ?_⟩
              · rcases s2 id with h4 | ⟨r, h4, h5⟩
                · rw [← h4]; exact h2
                · rw [h2] at h5
                  simp only [Option.some.injEq] at h5
                  subst h5
                  exact absurd h3 (by simp [Blk.fz])
              · by_cases he : id' = id
                · subst he
                  obtain ⟨r, h7, h8⟩ := s3 id' (.inr hid')
                  rw [h2] at h7
                  simp only [Option.some.injEq] at h7
                  subst h7
                  simp [Blk.fz, h8] at h3
                · exact hrel.apart id' id pb' pb h5 h1 he h6
            have B' : Back N0' w (phiOf [] φ) (heapOf (packIds [] (H.put (lentEff rd (DV.idss args))))) ([] : List Nat).length w1 φ1 (heapOf hs1) hs1.length := by
              rw [phiOf_nil]
              exact B
            obtain ⟨φ2, k1, k2, k3⟩ := back_sound s1.rel (by simp) (fun i hi => absurd hi (by simp)) hN1 hN2 B' hslot (by simpa using hw)
            refine ⟨φ2, ?_, ?_, k3⟩
            · rw [put_append]; exact s1.trans k1
            · rw [put_append]; exact k2 _ _ hx
        · cases h
      · cases h
  · cases h
end
end Go.PM
end
section
namespace Go.PM
open Go
set_option linter.unusedVariables false
def BodyOK (C : Cfg) : Prop := ∀ g, C.mode g ≠ none → ∃ fn, C.P.funcs[g]? = some fn ∧ fn.body.isSome = true ∧ (fn.name == "runtime.NumGoroutine") = false
section
variable {C : Cfg} {N0 : Nat → Prop} {w : World} {φ : Phi} {H : Heap} {a : Act}
theorem callFunc_run (hb : BodyOK C) {g : FuncId} (hg : C.mode g ≠ none) (args : Array Value) : (callFunc g args).run C.P w = .ok (.enter g args) w := by
  obtain ⟨fn, h1, h2, h3⟩ := hb g hg
  unfold callFunc
  have h4 : fn.body.isNone = false := by cases h : fn.body <;> simp_all
  simp only [Sem.run_bind, run_program, Result.andThen_ok, h1, h3, h4, Bool.false_eq_true, if_false, Sem.run_pure]
theorem target_sound (hb : BodyOK C) {ev : Operand → Option DV} (hev : EvRel ev a w (Nn N0 φ H) φ) {o : Oper} {c : Call} (ho : o.op = .call c) {g : FuncId} {args : List DV} (hg : C.mode g ≠ none) (h : C.target ev c = some (g, args)) :
    ∃ vals : List Value, RepL w (Nn N0 φ H) φ args vals ∧ (execOp a.eval o).run C.P w = .ok (.enter g vals.toArray) w := by
  unfold Cfg.target at h
  split at h
  · rename_i f hcal
    split at h
    · rename_i g' cap args' hf ha
      simp only [Option.some.injEq, Prod.mk.injEq] at h
      obtain ⟨rfl, rfl⟩ := h
      have hfv := hev f _ hf
      unfold Rep at hfv
      obtain ⟨cvs, hv, hcap⟩ := hfv
      refine ⟨c.args.toList.map a.eval ++ cvs.toList, (mapO_ev hev ha).append hcap, ?_⟩
      have := callFunc_run (w := w) hb hg (c.args.map a.eval ++ cvs)
      simp only [execOp, ho, resolve, hcal, hv, Deferred.ofValue, Sem.run_bind, Sem.run_pure, Result.andThen_ok, invoke, Array.empty_append, this]
      congr 2
      simp
    · cases h
  · rename_i r name hcal
    split at h
    · rename_i t d args' hr ha
      split at h
      · rename_i m hm
        obtain ⟨ti, hti, hfind⟩ := Option.bind_eq_some_iff.1 hm
        have hrv := hev r _ hr
        unfold Rep at hrv
        obtain ⟨x, hv, hx⟩ := hrv
        have fin : ∀ g' ptr dd, m.path.isEmpty = true → m.func = some (g', ptr) → C.P.underlying t = some dd → ((ptr = true ∧ ∃ e, dd = .pointer e) ∨ (ptr = false ∧ ∀ e, dd ≠ .pointer e)) → g' = g → d :: args' = args →
            ∃ vals : List Value, RepL w (Nn N0 φ H) φ args vals ∧ (execOp a.eval o).run C.P w = .ok (.enter g vals.toArray) w := by
          rintro g' ptr dd hpath hfunc hu hcase rfl rfl
          have hp0 : m.path = #[] := by simpa using hpath
          refine ⟨x :: c.args.toList.map a.eval, by unfold RepL; exact ⟨_, _, rfl, hx, mapO_ev hev ha⟩, ?_⟩
          have hcf := callFunc_run (w := w) hb hg (#[x] ++ c.args.map a.eval)
          have hmeth : (method (C.P.types.size + Made.depth) t x name).run C.P w = .ok (g', x) w := by
            cases hfuel : C.P.types.size + Made.depth with
            | zero => simp [Made.depth] at hfuel
            | succ n =>
              unfold method
              simp only [Sem.run_bind, typeInfo, run_program, Result.andThen_ok, hti, Sem.run_pure, hfind, hp0, follow, hfunc, receiverAt, run_underlying hu]
              rcases hcase with ⟨rfl, e, rfl⟩ | ⟨rfl, hne⟩
              · simp only [Place.get, Sem.run_pure, Result.andThen_ok]
              · cases dd <;> first | exact absurd rfl (hne _) | rfl
          simp only [execOp, ho, resolve, hcal, hv, Sem.run_bind, Sem.run_pure, Result.andThen_ok, invoke]
          have e1 : (#[Value.iface t x] ++ c.args.map a.eval)[0]? = some (Value.iface t x) := by
            rw [Array.getElem?_append_left (by simp)]
            rfl
          have e2 : (#[Value.iface t x] ++ c.args.map a.eval).extract 1 (#[Value.iface t x] ++ c.args.map a.eval).size = c.args.map a.eval := by
            apply Array.toList_inj.1
            rw [Array.toList_extract, List.extract_eq_take_drop, Array.toList_append]
            have hd : (#[Value.iface t x].toList ++ (c.args.map a.eval).toList).drop 1 = (c.args.map a.eval).toList := rfl
            rw [hd]
            exact List.take_of_length_le (by simp)
          simp only [e1, e2, callMethod, Sem.run_bind, run_program, Result.andThen_ok, hmeth, hcf]
          congr 2
          simp
        split at h
        · rename_i g' e hpath hfunc hu
          simp only [Option.some.injEq, Prod.mk.injEq] at h
          exact fin g' true _ hpath hfunc hu (.inl ⟨rfl, e, rfl⟩) h.1 h.2
        · cases h
        · rename_i g' dd hn hpath hfunc hu
          simp only [Option.some.injEq, Prod.mk.injEq] at h
          exact fin g' false _ hpath hfunc hu (.inr ⟨rfl, fun e he => hn e he⟩) h.1 h.2
        · cases h
      · cases h
    · cases h
  · cases h
theorem callD_mode {rec : Req → Option Res} {slot : Nat} {rd : Nat → Option Blk} {g : FuncId} {args : List DV} {r : DV × Eff} (h : C.callD rec slot rd g args = some r) : C.mode g ≠ none := by
  intro hm
  unfold Cfg.callD at h
  rw [hm] at h
  cases h
theorem stepD_sound {rec : Req → Option Res} (hrec : ∀ g args hs v hs', rec (.call g args hs) = some (.done v hs') → CallOK C g args hs v hs') (hext : ExtOK C) (hb : BodyOK C)
    {slot : Nat} {ev : Operand → Option DV} {rd : Nat → Option Blk} {o : Oper} {v : DV} {e : Eff} (hrel : HeapRel w N0 φ H) (hrd : ∀ id b, rd id = some b → H id = some b) (hslot : ∀ j, slot ≤ j → j < slot + wide → φ j = none) (hglob : GlobRel C w (Nn N0 φ H))
    (hev : EvRel ev a w (Nn N0 φ H) φ) (h : C.stepD rec slot ev rd o = some (v, e)) {next : Act → World → Prop} {Q : Exit → Act → World → Prop} (hnext : ∀ x w', Told N0 slot w φ H v e x w' → next (a.put o.dst x) w') : o.wp C.P a w next Q := by
  have simple : C.opD slot ev rd o = some (v, e) → o.wp C.P a w next Q := fun h => by
    obtain ⟨x, w', φ', hr, st, hx, hf⟩ := opD_sound hrel hrd hslot hev h
    unfold Oper.wp
    rcases hr with hr | ⟨hr, rfl⟩
    · rw [hr, Oper.upon_value]
      exact hnext _ _ ⟨φ', st, hx, hf⟩
    · rw [hr, Oper.upon_skip]
      exact hnext _ _ ⟨φ', st, hx, hf⟩
  unfold Cfg.stepD at h
  split at h
  · rename_i c hop
    split at h
    · exact simple h
    · split at h
      · rename_i g args ht
        obtain ⟨vals, h1, h2⟩ := target_sound hb hev hop (callD_mode h) ht
        unfold Oper.wp
        rw [h2, Oper.upon_enter]
        refine (callD_sound hrec hext hrel hrd hslot hglob h1 h).mono fun en w' ⟨x, he, ht⟩ => ?_
        subst he
        exact hnext x w' ht
      · cases h
  · exact simple h
def EnvRel (e : Env) (a : Act) (w : World) (N : Nat → Prop) (φ : Phi) : Prop := ∀ t d, e t = some d → Rep w N φ d (a.tmps.getD t undef)
theorem evalOp_rel {e e' : Env} {N : Nat → Prop} (he : EnvRel e a w N φ) (hsub : ∀ t d, e' t = some d → e t = some d) (hg : GlobRel C w N) : EvRel (evalOp C e') a w N φ := by
  intro x d h
  cases x with
  | tmp t => exact he t d (hsub t d h)
  | const v => exact (rep_const v d h).1
  | global g => exact Rep.imm (hg.vals g d h).1 (hg.vals g d h).2
  | func f =>
    simp only [evalOp, Option.some.injEq] at h
    subst h
    unfold Rep
    exact ⟨#[], rfl, by unfold RepL; rfl⟩
theorem EnvRel.set {e : Env} {N : Nat → Prop} {dst : Option Nat} {v : DV} {x : Value} (he : EnvRel e a w N φ) (hx : Rep w N φ v x) (hd : ∀ d, dst = some d → d < a.tmps.size) : EnvRel (e.set dst v) (a.put dst x) w N φ := by
  intro t d h
  cases dst with
  | none => exact he t d h
  | some k =>
    simp only [Env.set] at h
    split at h
    · rename_i hk
      simp only [Option.some.injEq] at h
      subst h; subst hk
      have := hd t rfl
      simp only [Act.put]
      rw [Array.getD_eq_getD_getElem?, Array.getElem?_setIfInBounds]
      simp [this, hx]
    · rename_i hk
      have := he t d h
      simp only [Act.put]
      rw [Array.getD_eq_getD_getElem?, Array.getElem?_setIfInBounds, if_neg (Ne.symm hk), ← Array.getD_eq_getD_getElem?]
      exact this
theorem EnvRel.later {e : Env} {w' : World} {N N' : Nat → Prop} {φ' : Phi} (L : Later w N φ w' N' φ') (he : EnvRel e a w N φ) : EnvRel e a w' N' φ' := fun t d h => (he t d h).later L
theorem GlobRel.later {w' : World} {N N' : Nat → Prop} {φ φ' : Phi} (L : Later w N φ w' N' φ') (h : GlobRel C w N) : GlobRel C w' N' := by
  refine ⟨fun g d hg => ⟨(h.vals g d hg).1, (h.vals g d hg).2.later ⟨L.size, L.same, L.less, fun _ _ h => by cases h⟩⟩, fun g q hq => ?_⟩
  obtain ⟨hn, o, ho, hp⟩ := h.fix g q hq
  have hlt := (Array.getElem?_eq_some_iff.1 ho).1
  exact ⟨fun h2 => hn (L.less g hlt h2), o, (L.same g hlt hn).trans ho, hp⟩
theorem put_size (a : Act) (dst : Option Tmp) (v : Value) : (a.put dst v).tmps.size = a.tmps.size := by cases dst <;> simp [Act.put]
theorem put_defers (a : Act) (dst : Option Tmp) (v : Value) : (a.put dst v).defers = a.defers := by cases dst <;> rfl
def OneStep (C : Cfg) (rec : Req → Option Res) (ops : Array Oper) (i : Nat) (s s' : St) : Prop :=
  ∃ o e' rd, ops[i]? = some o ∧ (∀ t d, e' t = some d → s.env t = some d) ∧ (∀ id b, rd id = some b → s.heap id = some b) ∧
    ((guardD ops e' o = some false ∧ s' = { s with env := s.env.set o.dst .undef }) ∨
     (guardD ops e' o = some true ∧ ∃ v e, C.stepD rec (s.top + i * wide) (evalOp C e') rd o = some (v, e) ∧ s' = { s with env := s.env.set o.dst v, heap := s.heap.put e }))
theorem runOp_one {rec : Req → Option Res} {ops : Array Oper} {i : Nat} {s s' : St} (h : C.runOp rec ops i s = some s') : OneStep C rec ops i s s' := by
  unfold Cfg.runOp at h
  split at h
  · cases h
  · rename_i o ho
    refine ⟨o, s.env, s.heap, ho, fun _ _ h => h, fun _ _ h => h, ?_⟩
    split at h
    · cases h
    · rename_i hg
      simp only [Option.some.injEq] at h
      exact .inl ⟨hg, h.symm⟩
    · rename_i hg
      split at h
      · cases h
      · rename_i v e hs
        simp only [Option.some.injEq] at h
        exact .inr ⟨hg, v, e, hs, h.symm⟩
theorem runOpD_one {rec : Req → Option Res} {ops : Array Oper} {i : Nat} {s s' : St} (h : C.runOpD rec ops i s = some s') : OneStep C rec ops i s s' := by
  unfold Cfg.runOpD at h
  split at h
  · cases h
  · rename_i o ho
    dsimp only at h
    refine ⟨o, fun t => if (looks ops o).contains t then s.env t else none, fun id => if maySee ops s.env s.top i id then s.heap id else none, ho, fun t d h => ?_, fun id b h => ?_, ?_⟩
    · dsimp only at h
      split at h
      · exact h
      · cases h
    · dsimp only at h
      split at h
      · exact h
      · cases h
    · split at h
      · cases h
      · rename_i hg
        simp only [Option.some.injEq] at h
        exact .inl ⟨hg, h.symm⟩
      · rename_i hg
        split at h
        · cases h
        · rename_i v e hs
          split at h
          · simp only [Option.some.injEq] at h
            exact .inr ⟨hg, v, e, hs, h.symm⟩
          · cases h
theorem guard_sound {ops : Array Oper} {e' : Env} {o : Oper} {b : Bool} {N : Nat → Prop} (he : EnvRel e' a w N φ) (hds : ∀ t d, e' t = some d → t < a.tmps.size) (h : guardD ops e' o = some b) : Region.wanted o (yielded ops a.tmps) = b := by
  unfold guardD at h
  unfold Region.wanted
  split at h
  · rename_i hg
    simp only [Option.some.injEq] at h
    rw [hg]; exact h
  · rename_i j want hg
    rw [hg]
    simp only []
    split at h
    · rename_i d hd
      unfold yielded
      rw [hd]
      simp only [Option.bind_some]
      split at h
      · rename_i q hq
        simp only [Option.some.injEq] at h; subst h
        have hlt := hds d _ hq
        have := he d _ hq
        unfold Rep at this
        rw [Array.getD_eq_getD_getElem?, Array.getElem?_eq_getElem hlt] at this
        simp only [Option.getD_some] at this
        rw [Array.getElem?_eq_getElem hlt, this]
        cases q <;> cases want <;> rfl
      · rename_i hq
        simp only [Option.some.injEq] at h; subst h
        have hlt := hds d _ hq
        have := he d _ hq
        unfold Rep at this
        rw [Array.getD_eq_getD_getElem?, Array.getElem?_eq_getElem hlt] at this
        simp only [Option.getD_some] at this
        rw [Array.getElem?_eq_getElem hlt, this]
        cases want <;> rfl
      · cases h
    · cases h
inductive Chain (C : Cfg) (rec : Req → Option Res) (ops : Array Oper) : List Nat → St → St → Prop
  | nil (s : St) : Chain C rec ops [] s s
  | cons {i : Nat} {l : List Nat} {s s1 s2 : St} (h : OneStep C rec ops i s s1) (t : Chain C rec ops l s1 s2) : Chain C rec ops (i :: l) s s2
theorem runOps_chain {rec : Req → Option Res} {ops : Array Oper} : ∀ {l : List Nat} {s s' : St}, C.runOps rec ops l s = some s' → Chain C rec ops l s s'
  | [], s, s', h => by
    unfold Cfg.runOps at h
    simp only [Option.some.injEq] at h; subst h
    exact .nil s
  | i :: l, s, s', h => by
    unfold Cfg.runOps at h
    split at h
    · cases h
    · rename_i s1 h1
      exact .cons (runOp_one h1) (runOps_chain h)
theorem runOpsD_chain {rec : Req → Option Res} {ops : Array Oper} : ∀ {l : List Nat} {s s' : St}, C.runOpsD rec ops l s = some s' → Chain C rec ops l s s'
  | [], s, s', h => by
    unfold Cfg.runOpsD at h
    simp only [Option.some.injEq] at h; subst h
    exact .nil s
  | i :: l, s, s', h => by
    unfold Cfg.runOpsD at h
    split at h
    · cases h
    · rename_i s1 h1
      exact .cons (runOpD_one h1) (runOpsD_chain h)
def EnvIn (e : Env) (n : Nat) : Prop := ∀ t d, e t = some d → t < n
theorem EnvIn.set {e : Env} {n : Nat} {dst : Option Nat} {v : DV} (h : EnvIn e n) (hd : ∀ d, dst = some d → d < n) : EnvIn (e.set dst v) n := by
  intro t d hh
  cases dst with
  | none => exact h t d hh
  | some k =>
    simp only [Env.set] at hh
    split at hh
    · rename_i hk; subst hk; exact hd t rfl
    · exact h t d hh
theorem chain_sound {rec : Req → Option Res} (hrec : ∀ g args hs v hs', rec (.call g args hs) = some (.done v hs') → CallOK C g args hs v hs') (hext : ExtOK C) (hb : BodyOK C) {ops : Array Oper} {Q : Exit → Act → World → Prop} {n : Nat} (hdst : ∀ (i : Nat) (o : Oper) (d : Nat), ops[i]? = some o → o.dst = some d → d < n) :
    ∀ {l : List Nat} {s s' : St} {a : Act} {w : World} {φ : Phi}, Chain C rec ops l s s' → l.Nodup → (∀ i ∈ l, i < ops.size) → a.tmps.size = n → HeapRel w N0 φ s.heap → EnvRel s.env a w (Nn N0 φ s.heap) φ → EnvIn s.env n → GlobRel C w (Nn N0 φ s.heap) →
      (∀ i ∈ l, ∀ j, s.top + i * wide ≤ j → j < s.top + i * wide + wide → φ j = none) → (∀ j, s.top + ops.size * wide ≤ j → φ j = none) →
      (∀ a' w' φ', a'.defers = a.defers → a'.tmps.size = n → Step N0 w φ s.heap w' φ' s'.heap → EnvRel s'.env a' w' (Nn N0 φ' s'.heap) φ' → EnvIn s'.env n → GlobRel C w' (Nn N0 φ' s'.heap) → s'.top = s.top → s'.base = s.base → (∀ j, s.top + ops.size * wide ≤ j → φ' j = none) → Q .normal a' w') →
      wpOps C.P ops Q l a w := by
  intro l
  induction l with
  | nil =>
    intro s s' a w φ hc hnd hlt hsz hrel henv hin hglob hslots hbey hQ
    cases hc
    exact hQ a w φ rfl hsz (Step.refl hrel) henv hin hglob rfl rfl hbey
  | cons i l ih =>
    intro s s' a w φ hc hnd hlt hsz hrel henv hin hglob hslots hbey hQ
    cases hc with
    | cons h1 h2 =>
      rename_i s1
      obtain ⟨o, e', rd, ho, hsub, hrd, hcase⟩ := h1
      rw [List.nodup_cons] at hnd
      simp only [wpOps, ho]
      have he' : EnvRel e' a w (Nn N0 φ s.heap) φ := fun t d h => henv t d (hsub t d h)
      have hin' : ∀ t d, e' t = some d → t < a.tmps.size := fun t d h => by rw [hsz]; exact hin t d (hsub t d h)
      have hd : ∀ d, o.dst = some d → d < n := fun d hd => hdst i o d ho hd
      rcases hcase with ⟨hg, rfl⟩ | ⟨hg, v, e, hs, rfl⟩
      · have hw := guard_sound he' hin' hg
        rw [hw]
        simp only [Bool.false_eq_true, if_false]
        exact ih h2 hnd.2 (fun j hj => hlt j (List.mem_cons_of_mem _ hj)) (by rw [put_size]; exact hsz) hrel (henv.set (by unfold Rep; rfl) (fun d hd' => by rw [hsz]; exact hd d hd')) (hin.set hd) hglob
          (fun j hj => hslots j (List.mem_cons_of_mem _ hj)) hbey (fun a' w' φ' k1 k2 k3 k4 k5 k6 k7 k8 k9 => hQ a' w' φ' (k1.trans (put_defers _ _ _)) k2 k3 k4 k5 k6 k7 k8 k9)
      · have hw := guard_sound he' hin' hg
        rw [hw]
        simp only [if_true]
        refine .inl (stepD_sound hrec hext hb hrel hrd (hslots i List.mem_cons_self) hglob (evalOp_rel henv hsub hglob) hs fun x w' ht => ?_)
        obtain ⟨φ', st, hx, hf⟩ := ht
        have hi := hlt i List.mem_cons_self
        have hslotj : ∀ j ∈ l, ∀ k, s.top + j * wide ≤ k → k < s.top + j * wide + wide → φ' k = none := fun j hj k hk1 hk2 => by
          refine hf k (hslots j (List.mem_cons_of_mem _ hj) k hk1 hk2) fun ⟨q1, q2⟩ => ?_
          have hne : j ≠ i := fun e => hnd.1 (e ▸ hj)
          unfold wide at *
          omega
        have hbey' : ∀ j, s.top + ops.size * wide ≤ j → φ' j = none := fun j hj => by
          refine hf j (hbey j hj) fun ⟨q1, q2⟩ => ?_
          unfold wide at *
          omega
        exact ih h2 hnd.2 (fun j hj => hlt j (List.mem_cons_of_mem _ hj)) (by rw [put_size]; exact hsz) st.rel ((henv.later st.later).set hx (fun d hd' => by rw [hsz]; exact hd d hd')) (hin.set hd) (hglob.later st.later)
          hslotj hbey' (fun a' w'' φ'' k1 k2 k3 k4 k5 k6 k7 k8 k9 => hQ a' w'' φ'' (k1.trans (put_defers _ _ _)) k2 (st.trans k3) k4 k5 k6 k7 k8 k9)
end
end Go.PM
end
section
namespace Go.PM
open Go
set_option linter.unusedVariables false
def dstIn (o : Oper) (l : List Nat) : Bool := match o.dst with | some d => l.contains d | none => false
def sameDst (x y : Oper) : Bool := match x.dst, y.dst with | some d, some e => d == e | _, _ => false
def tmpsApart (ops : Array Oper) (i j : Nat) : Bool := match ops[i]?, ops[j]? with
  | some x, some y => !dstIn x (looks ops y) && !dstIn y (looks ops x) && !sameDst x y
  | _, _ => true
def drawOK (ops : Array Oper) : Bool :=
  ((List.range ops.size).all fun i => (List.range i).all fun j => comparable ops i j || tmpsApart ops i j) &&
  ((List.range ops.size).all fun i => match ops[i]? with | some o => o.after.all fun e => !Region.binds .any e || decide (e.on < i) | none => true)
theorem put_out : ∀ {e : Eff} {H : Heap} {id : Nat}, (∀ p ∈ e, p.1 ≠ id) → (H.put e) id = H id
  | [], H, id, h => rfl
  | (i, b) :: e, H, id, h => by
    simp only [Heap.put]
    rw [put_out fun p hp => h p (List.mem_cons_of_mem _ hp)]
    exact if_neg fun q => h (i, b) List.mem_cons_self q.symm
theorem put_in : ∀ {e : Eff} {H H' : Heap} {id : Nat}, (∃ p ∈ e, p.1 = id) → (H.put e) id = (H'.put e) id
  | [], H, H', id, h => by obtain ⟨p, hp, _⟩ := h; cases hp
  | (i, b) :: e, H, H', id, h => by
    simp only [Heap.put]
    by_cases hr : ∃ p ∈ e, p.1 = id
    · exact put_in hr
    · have hn : ∀ p ∈ e, p.1 ≠ id := fun p hp q => hr ⟨p, hp, q⟩
      rw [put_out hn, put_out hn]
      obtain ⟨p, hp, hq⟩ := h
      rcases List.mem_cons.1 hp with rfl | hp
      · simp only at hq; subst hq; simp
      · exact absurd hq (hn p hp)
theorem put_comm {e f : Eff} (h : ∀ p ∈ e, ∀ q ∈ f, p.1 ≠ q.1) (H : Heap) : (H.put e).put f = (H.put f).put e := by
  funext id
  by_cases he : ∃ p ∈ e, p.1 = id
  · have hf : ∀ q ∈ f, q.1 ≠ id := fun q hq hid => by
      obtain ⟨p, hp, hpi⟩ := he
      exact h p hp q hq (hpi.trans hid.symm)
    rw [put_out hf]
    exact put_in he
  · have he' : ∀ p ∈ e, p.1 ≠ id := fun p hp q => he ⟨p, hp, q⟩
    rw [put_out (e := e) he']
    by_cases hf : ∃ q ∈ f, q.1 = id
    · exact put_in hf
    · have hf' : ∀ p ∈ f, p.1 ≠ id := fun p hp q => hf ⟨p, hp, q⟩
      rw [put_out hf', put_out hf', put_out he']
theorem set_comm {e : Env} {d1 d2 : Option Nat} {v1 v2 : DV} (h : ∀ a b, d1 = some a → d2 = some b → a ≠ b) : (e.set d1 v1).set d2 v2 = (e.set d2 v2).set d1 v1 := by
  cases d1 with
  | none => cases d2 <;> rfl
  | some a =>
    cases d2 with
    | none => rfl
    | some b =>
      funext t
      simp only [Env.set]
      have := h a b rfl rfl
      by_cases h1 : t = a
      · subst h1; simp [this]
      · simp [h1]
section
variable {C : Cfg} {rec : Req → Option Res} {ops : Array Oper}
structure Indep (ops : Array Oper) (i j : Nat) : Prop where
  ne : i ≠ j
  free : comparable ops i j = false
  tmps : tmpsApart ops i j = true
theorem comparable_symm (i j : Nat) : comparable ops i j = comparable ops j i := by
  unfold comparable
  rw [Bool.or_assoc, Bool.or_assoc, Bool.or_comm (Nat.testBit _ _)]
  congr 1
  rw [Bool.eq_iff_iff, beq_iff_eq, beq_iff_eq]
  exact eq_comm
theorem Indep.symm {i j : Nat} (h : Indep ops i j) : Indep ops j i := by
  refine ⟨h.ne.symm, by rw [comparable_symm]; exact h.free, ?_⟩
  have := h.tmps
  unfold tmpsApart at this ⊢
  cases hi : ops[i]? <;> cases hj : ops[j]? <;> simp only [hi, hj] at this ⊢
  simp only [Bool.and_eq_true, Bool.not_eq_true'] at this ⊢
  refine ⟨⟨this.1.2, this.1.1⟩, ?_⟩
  rw [← this.2]
  rename_i x y
  unfold sameDst
  cases x.dst <;> cases y.dst <;> first | rfl | exact Bool.eq_iff_iff.2 (by rw [beq_iff_eq, beq_iff_eq]; exact eq_comm)
theorem see_write {E : Env} {i j top id : Nat} (h : Indep ops i j) (hi : i < ops.size) (hj : j < ops.size) (hw : mayWrite ops E top i id = true) : maySee ops E top j id = false := by
  have hc := h.free
  have hne := h.ne
  unfold comparable at hc
  simp only [Bool.or_eq_false_iff, beq_eq_false_iff_ne, ne_eq] at hc
  obtain ⟨⟨_, hc1⟩, hc2⟩ := hc
  unfold mayWrite at hw
  unfold maySee
  by_cases hid : id < top
  · simp only [hid, if_true, Bool.and_eq_true] at hw
    obtain ⟨_, hw⟩ := hw
    have := List.all_eq_true.1 hw j (by simpa using hj)
    have hcj : comparable ops j i = false := by rw [comparable_symm]; exact h.free
    rw [hcj] at this
    simp only [Bool.false_or, Bool.or_eq_true, Bool.not_eq_true'] at this
    rw [if_pos hid]
    rcases this with h1 | h1 <;> simp [h1]
  · simp only [hid, if_false] at hw
    rw [if_neg hid]
    cases hh : heapyAt ops j with
    | false => rfl
    | true =>
      simp only [Bool.true_and, Bool.or_eq_false_iff, beq_eq_false_iff_ne, ne_eq]
      simp only [Bool.or_eq_true, beq_iff_eq, Bool.and_eq_true] at hw
      rcases hw with hw | ⟨⟨_, hw⟩, hs⟩
      · rw [hw]
        exact ⟨hne, hc2⟩
      · refine ⟨fun e => ?_, ?_⟩
        · rw [e] at hw
          rw [hw] at hc1; cases hc1
        · unfold soleUser at hs
          have := List.all_eq_true.1 hs j (by simpa using hj)
          rw [h.free, hh] at this
          simpa using this
theorem write_write {E : Env} {i j top id : Nat} (h : Indep ops i j) (hi : i < ops.size) (hj : j < ops.size) (hw : mayWrite ops E top i id = true) : mayWrite ops E top j id = false := by
  have hc := h.free
  have hne := h.ne
  unfold comparable at hc
  simp only [Bool.or_eq_false_iff, beq_eq_false_iff_ne, ne_eq] at hc
  obtain ⟨⟨_, hc1⟩, hc2⟩ := hc
  cases hwj : mayWrite ops E top j id with
  | false => rfl
  | true =>
    have s1 := see_write h hi hj hw
    have s2 := see_write h.symm hj hi hwj
    unfold mayWrite at hw hwj
    unfold maySee at s1 s2
    by_cases hid : id < top
    · simp only [hid, if_true, Bool.and_eq_true] at hwj
      simp [hid, hwj.1.1, hwj.1.2] at s1
    · simp only [hid, if_false, Bool.or_eq_true, beq_iff_eq, Bool.and_eq_true] at hw hwj
      rcases hwj with hwj | ⟨⟨hhj, hwj⟩, _⟩
      · rcases hw with hw | ⟨⟨_, hw⟩, _⟩
        · exact absurd (hw.symm.trans hwj) hne
        · rw [hwj] at hw
          rw [hw] at hc1; cases hc1
      · simp [hid, hhj, hwj] at s1
theorem footT_out {i j t : Nat} {y : Oper} (hy : ops[i]? = some y) (h : footT ops j = some t) : y.dst ≠ some t := by
  unfold footT at h
  have key : ∀ t', (if ops.toList.any (fun x => dstIs x t') then none else some t') = some t → y.dst ≠ some t := by
    intro t' h
    split at h
    · cases h
    · rename_i hn
      cases h
      intro e
      apply hn
      rw [List.any_eq_true]
      exact ⟨y, by simpa using Array.mem_of_getElem? hy, by unfold dstIs; rw [e]; exact Nat.beq_refl t⟩
  split at h
  · split at h
    · exact key _ h
    · exact key _ h
    · cases h
  · cases h
theorem foot_set {E : Env} {i j : Nat} {y : Oper} {u : DV} (hy : ops[i]? = some y) : foot ops (E.set y.dst u) j = foot ops E j := by
  unfold foot
  split
  · rename_i t ht
    have hne := footT_out hy ht
    have : (E.set y.dst u) t = E t := by
      cases hd : y.dst with
      | none => rfl
      | some d =>
        rw [hd] at hne
        simp only [Env.set]
        rw [if_neg fun e => hne (by rw [e])]
    rw [this]
  · rfl
theorem see_set {E : Env} {i j top id : Nat} {y : Oper} {u : DV} (hy : ops[i]? = some y) : maySee ops (E.set y.dst u) top j id = maySee ops E top j id := by
  unfold maySee seesOld
  rw [foot_set hy]
theorem write_set {E : Env} {i j top id : Nat} {y : Oper} {u : DV} (hy : ops[i]? = some y) : mayWrite ops (E.set y.dst u) top j id = mayWrite ops E top j id := by
  unfold mayWrite seesOld
  simp only [foot_set hy]
theorem env_mask {i j : Nat} {x y : Oper} {s : St} {v : DV} (h : Indep ops i j) (hx : ops[i]? = some x) (hy : ops[j]? = some y) :
    (fun t => if (looks ops x).contains t then (s.env.set y.dst v) t else none) = (fun t => if (looks ops x).contains t then s.env t else none) := by
  funext t
  split
  · rename_i ht
    have := h.tmps
    unfold tmpsApart at this
    simp only [hx, hy, Bool.and_eq_true, Bool.not_eq_true'] at this
    have h2 := this.1.2
    unfold dstIn at h2
    cases hd : y.dst with
    | none => rfl
    | some d =>
      rw [hd] at h2
      simp only at h2
      simp only [Env.set]
      rw [if_neg]
      intro e
      subst e
      rw [ht] at h2; cases h2
  · rfl
theorem dst_ne {i j : Nat} {x y : Oper} (h : Indep ops i j) (hx : ops[i]? = some x) (hy : ops[j]? = some y) : ∀ a b, x.dst = some a → y.dst = some b → a ≠ b := by
  intro a b ha hb e
  have := h.tmps
  unfold tmpsApart at this
  simp only [hx, hy, Bool.and_eq_true, Bool.not_eq_true'] at this
  have h2 := this.2
  unfold sameDst at h2
  rw [ha, hb] at h2
  simp [e] at h2
theorem heap_mask {E : Env} {i j top : Nat} {e : Eff} {H : Heap} (h : Indep ops i j) (hi : i < ops.size) (hj : j < ops.size) (he : (e.all fun p => mayWrite ops E top i p.1) = true) :
    (fun id => if maySee ops E top j id then (H.put e) id else none) = fun id => if maySee ops E top j id then H id else none := by
  funext id
  by_cases hs : maySee ops E top j id = true
  · rw [if_pos hs, if_pos hs]
    refine put_out fun p hp hq => ?_
    have := List.all_eq_true.1 he p hp
    rw [hq] at this
    rw [see_write h hi hj this] at hs
    cases hs
  · rw [if_neg hs, if_neg hs]
theorem swap {i j : Nat} {s s1 s2 : St} (h : Indep ops i j) (hi : i < ops.size) (hj : j < ops.size) (h1 : C.runOpD rec ops j s = some s1) (h2 : C.runOpD rec ops i s1 = some s2) : ∃ s1', C.runOpD rec ops i s = some s1' ∧ C.runOpD rec ops j s1' = some s2 := by
  obtain ⟨x, hx⟩ : ∃ x, ops[i]? = some x := ⟨_, Array.getElem?_eq_getElem hi⟩
  obtain ⟨y, hy⟩ : ∃ y, ops[j]? = some y := ⟨_, Array.getElem?_eq_getElem hj⟩
  have hcomm : ∀ (v u : DV) (e : Env), (e.set y.dst u).set x.dst v = (e.set x.dst v).set y.dst u := fun v u e => set_comm fun a b ha hb => (dst_ne h hx hy b a hb ha).symm
  unfold Cfg.runOpD at h1
  simp only [hy] at h1

  have goI : ∀ (u : DV) (e : Eff), (e.all fun p => mayWrite ops s.env s.top j p.1) = true → C.runOpD rec ops i { s with env := s.env.set y.dst u, heap := s.heap.put e } = some s2 →
      ∃ v f, (f.all fun p => mayWrite ops s.env s.top i p.1) = true ∧ C.runOpD rec ops i s = some { s with env := s.env.set x.dst v, heap := s.heap.put f } ∧ s2 = { s with env := (s.env.set y.dst u).set x.dst v, heap := (s.heap.put e).put f } := by
    intro u e he hr
    unfold Cfg.runOpD at hr ⊢
    simp only [hx] at hr ⊢
    have m1 := env_mask (s := s) (v := u) h hx hy
    have m2 := heap_mask (H := s.heap) h.symm hj hi he
    simp only [see_set hy, write_set hy] at hr
    rw [m1, m2] at hr
    split at hr
    · cases hr
    · simp only [Option.some.injEq] at hr
      exact ⟨.undef, [], rfl, rfl, hr.symm⟩
    · split at hr
      · cases hr
      · rename_i v f hv
        split at hr
        · rename_i hf
          simp only [Option.some.injEq] at hr
          refine ⟨v, f, hf, ?_, hr.symm⟩
          rw [if_pos hf]
        · cases hr
  have comm2 : ∀ (e f : Eff), (e.all fun p => mayWrite ops s.env s.top j p.1) = true → (f.all fun p => mayWrite ops s.env s.top i p.1) = true → (s.heap.put e).put f = (s.heap.put f).put e := fun e f he hf => put_comm (fun p hp q hq hpq => by
    have a1 := List.all_eq_true.1 he p hp
    have a2 := List.all_eq_true.1 hf q hq
    rw [hpq] at a1
    rw [write_write h hi hj a2] at a1
    cases a1) s.heap
  have back : ∀ (v : DV) (f : Eff), (f.all fun p => mayWrite ops s.env s.top i p.1) = true →
      (fun t => if (looks ops y).contains t then (s.env.set x.dst v) t else none) = (fun t => if (looks ops y).contains t then s.env t else none) ∧ (fun id => if maySee ops s.env s.top j id then (s.heap.put f) id else none) = fun id => if maySee ops s.env s.top j id then s.heap id else none := fun v f hf => by
    refine ⟨env_mask (s := s) h.symm hy hx, ?_⟩
    exact heap_mask (H := s.heap) h hi hj hf
  split at h1
  · cases h1
  · rename_i hg
    simp only [Option.some.injEq] at h1
    subst h1
    obtain ⟨v, f, hf, k1, rfl⟩ := goI .undef [] rfl h2
    refine ⟨_, k1, ?_⟩
    obtain ⟨b1, b2⟩ := back v f hf
    unfold Cfg.runOpD
    simp only [hy, b1, hg]
    rw [hcomm]
    rfl
  · rename_i hg
    split at h1
    · cases h1
    · rename_i u e he
      split at h1
      · rename_i hall
        simp only [Option.some.injEq] at h1
        subst h1
        obtain ⟨v, f, hf, k1, rfl⟩ := goI u e hall h2
        refine ⟨_, k1, ?_⟩
        obtain ⟨b1, b2⟩ := back v f hf
        unfold Cfg.runOpD
        simp only [hy, see_set hx, write_set hx, b1, b2, hg, he]
        rw [if_pos hall, hcomm, comm2 e f hall hf]
      · cases h1
theorem front {i : Nat} {s' : St} (hi : i < ops.size) : ∀ (l1 : List Nat) {l2 : List Nat} {s : St}, (∀ j ∈ l1, Indep ops i j ∧ j < ops.size) → C.runOpsD rec ops (l1 ++ i :: l2) s = some s' → ∃ s1, C.runOpD rec ops i s = some s1 ∧ C.runOpsD rec ops (l1 ++ l2) s1 = some s'
  | [], l2, s, hind, h => by
    simp only [List.nil_append] at h ⊢
    unfold Cfg.runOpsD at h
    split at h
    · cases h
    · rename_i s1 h1
      exact ⟨s1, h1, h⟩
  | j :: l1, l2, s, hind, h => by
    simp only [List.cons_append] at h ⊢
    unfold Cfg.runOpsD at h
    split at h
    · cases h
    · rename_i sj hj
      obtain ⟨s1, h1, h2⟩ := front hi l1 (fun k hk => hind k (List.mem_cons_of_mem _ hk)) h
      obtain ⟨hij, hjs⟩ := hind j List.mem_cons_self
      obtain ⟨s1', h3, h4⟩ := swap hij hi hjs hj h1
      refine ⟨s1', h3, ?_⟩
      unfold Cfg.runOpsD
      rw [h4]
      exact h2
theorem edges_bit {g : Nat → Nat} {k : Nat} : ∀ (es : List Edge) (s : Nat), (es.foldl (fun s e => if Region.binds .any e then s ||| 2 ^ e.on ||| g e.on else s) s).testBit k = true → s.testBit k = true ∨ ∃ e ∈ es, Region.binds .any e = true ∧ (e.on = k ∨ (g e.on).testBit k = true)
  | [], s, h => .inl h
  | e :: es, s, h => by
    simp only [List.foldl_cons] at h
    rcases edges_bit es _ h with h1 | ⟨e', he', hh⟩
    · split at h1
      · rename_i hb
        simp only [Nat.testBit_or, Nat.testBit_two_pow, Bool.or_eq_true, decide_eq_true_eq] at h1
        rcases h1 with (h1 | h1) | h1
        · exact .inl h1
        · exact .inr ⟨e, List.mem_cons_self, hb, .inl h1⟩
        · exact .inr ⟨e, List.mem_cons_self, hb, .inr h1⟩
      · exact .inl h1
    · exact .inr ⟨e', List.mem_cons_of_mem _ he', hh⟩
def stepB (acc : Array Nat) (o : Oper) : Array Nat := acc.push (o.after.foldl (fun s e => if Region.binds .any e then s ||| 2 ^ e.on ||| acc.getD e.on 0 else s) 0)
theorem foldB_size : ∀ (l : List Oper) (acc : Array Nat), (l.foldl stepB acc).size = acc.size + l.length
  | [], acc => rfl
  | o :: l, acc => by
    simp only [List.foldl_cons, foldB_size l, List.length_cons]
    simp only [stepB, Array.size_push]
    omega
theorem foldB_keep : ∀ (l : List Oper) (acc : Array Nat) (i : Nat), i < acc.size → (l.foldl stepB acc).getD i 0 = acc.getD i 0
  | [], acc, i, hi => rfl
  | o :: l, acc, i, hi => by
    simp only [List.foldl_cons]
    rw [foldB_keep l _ i (by simp [stepB]; omega)]
    simp [stepB, Array.getD_eq_getD_getElem?, Array.getElem?_push, Nat.ne_of_lt hi]
theorem foldB_get : ∀ (l : List Oper) (acc : Array Nat) (i : Nat) (o : Oper), l[i]? = some o → (∀ e ∈ o.after.toList, Region.binds .any e = true → e.on < acc.size + i) →
    ∀ k, ((l.foldl stepB acc).getD (acc.size + i) 0).testBit k = true → ∃ e ∈ o.after.toList, Region.binds .any e = true ∧ (e.on = k ∨ ((l.foldl stepB acc).getD e.on 0).testBit k = true)
  | [], acc, i, o, h, _, k, hk => by cases h
  | x :: l, acc, 0, o, h, hb, k, hk => by
    simp only [List.getElem?_cons_zero, Option.some.injEq] at h
    subst h
    simp only [List.foldl_cons, Nat.add_zero] at hk ⊢
    rw [foldB_keep l (stepB acc x) acc.size (by simp [stepB])] at hk
    have : (stepB acc x).getD acc.size 0 = x.after.foldl (fun s e => if Region.binds .any e then s ||| 2 ^ e.on ||| acc.getD e.on 0 else s) 0 := by
      simp [stepB, Array.getD_eq_getD_getElem?]
    rw [this, ← Array.foldl_toList] at hk
    rcases edges_bit (g := fun x => acc.getD x 0) _ _ hk with h1 | ⟨e, he, h2, h3⟩
    · simp at h1
    · refine ⟨e, he, h2, h3.imp id fun h4 => ?_⟩
      have hlt := hb e he h2
      rw [foldB_keep l (stepB acc x) e.on (by simp [stepB]; omega)]
      have : (stepB acc x).getD e.on 0 = acc.getD e.on 0 := by
        simp [stepB, Array.getD_eq_getD_getElem?, Array.getElem?_push, Nat.ne_of_lt (show e.on < acc.size by omega)]
      rw [this]
      exact h4
  | x :: l, acc, i + 1, o, h, hb, k, hk => by
    simp only [List.getElem?_cons_succ] at h
    simp only [List.foldl_cons] at hk ⊢
    have hs : (stepB acc x).size = acc.size + 1 := by simp [stepB]
    have := foldB_get l (stepB acc x) i o h (fun e he hbd => by have := hb e he hbd; omega) k (by rw [hs, show acc.size + 1 + i = acc.size + (i + 1) by omega]; exact hk)
    exact this
theorem anc_step (hok : drawOK ops = true) {i k : Nat} (hi : i < ops.size) (h : (anc ops i).testBit k = true) : ∃ o, ops[i]? = some o ∧ ∃ e ∈ o.after.toList, Region.binds .any e = true ∧ e.on < i ∧ (e.on = k ∨ (anc ops e.on).testBit k = true) := by
  obtain ⟨o, ho⟩ : ∃ o, ops[i]? = some o := ⟨_, Array.getElem?_eq_getElem hi⟩
  unfold drawOK at hok
  simp only [Bool.and_eq_true] at hok
  have hb := List.all_eq_true.1 hok.2 i (by simpa using hi)
  rw [ho] at hb
  simp only at hb
  have hedge : ∀ e ∈ o.after.toList, Region.binds .any e = true → e.on < i := fun e he hbd => by
    have := Array.all_eq_true'.1 hb e (by simpa using he)
    rw [hbd] at this
    simpa using this
  have hbef : Region.before ops = ops.toList.foldl stepB #[] := by
    unfold Region.before
    rw [← Array.foldl_toList]
    rfl
  unfold anc at h ⊢
  rw [hbef] at h ⊢
  obtain ⟨e, he, h2, h3⟩ := foldB_get ops.toList #[] i o (by simpa using ho) (fun e he hbd => by have := hedge e he hbd; simpa using this) k (by simpa using h)
  exact ⟨o, ho, e, he, h2, hedge e he h2, h3⟩
theorem anc_lt (hok : drawOK ops = true) : ∀ (n i k : Nat), i < n → i < ops.size → (anc ops i).testBit k = true → k < i := by
  intro n
  induction n with
  | zero => intro i k hn; omega
  | succ n ih =>
    intro i k hn hi h
    obtain ⟨o, ho, e, he, h2, h3, h4⟩ := anc_step hok hi h
    rcases h4 with rfl | h4
    · exact h3
    · have := ih e.on k (by omega) (by omega) h4
      omega
def unl (n : Nat) (listed : Array Bool) : List Nat := (List.range n).filter fun i => !listed.getD i true
def ClosedL (ops : Array Oper) (listed : Array Bool) : Prop := ∀ i, listed.getD i true = true → ∀ o, ops[i]? = some o → ∀ e ∈ o.after.toList, Region.binds .any e = true → listed.getD e.on true = true
theorem anc_listed (hok : drawOK ops = true) {listed : Array Bool} (hc : ClosedL ops listed) : ∀ (n i k : Nat), i < n → i < ops.size → (∀ o, ops[i]? = some o → ∀ e ∈ o.after.toList, Region.binds .any e = true → listed.getD e.on true = true) → (anc ops i).testBit k = true → listed.getD k true = true := by
  intro n
  induction n with
  | zero => intro i k hn; omega
  | succ n ih =>
    intro i k hn hi hr h
    obtain ⟨o, ho, e, he, h2, h3, h4⟩ := anc_step hok hi h
    have hl := hr o ho e he h2
    rcases h4 with rfl | h4
    · exact hl
    · exact ih e.on k (by omega) (by omega) (fun o' ho' e' he' hb' => hc e.on hl o' ho' e' he' hb') h4
theorem unl_split {n i : Nat} {listed : Array Bool} (hi : i < n) (hl : listed.getD i true = false) (hsz : listed.size = n) :
    unl n listed = (List.range i).filter (fun j => !listed.getD j true) ++ i :: (List.range' (i + 1) (n - (i + 1))).filter (fun j => !listed.getD j true) ∧
    unl n (listed.setIfInBounds i true) = (List.range i).filter (fun j => !listed.getD j true) ++ (List.range' (i + 1) (n - (i + 1))).filter (fun j => !listed.getD j true) := by
  have hr : List.range n = List.range i ++ i :: List.range' (i + 1) (n - (i + 1)) := by
    rw [List.range_eq_range', List.range_eq_range', show n = i + (1 + (n - (i + 1))) by omega, ← List.range'_append, ← List.range'_append]
    simp [List.range'_one, show i + (1 + (n - (i + 1))) - (i + 1) = n - (i + 1) by omega]
  have hset : ∀ j, j ≠ i → (listed.setIfInBounds i true).getD j true = listed.getD j true := fun j hj => by
    simp [Array.getD_eq_getD_getElem?, Ne.symm hj]
  have hseti : (listed.setIfInBounds i true).getD i true = true := by
    simp [Array.getD_eq_getD_getElem?, hsz, hi]
  refine ⟨?_, ?_⟩
  · unfold unl
    rw [hr, List.filter_append, List.filter_cons]
    simp [hl]
  · unfold unl
    rw [hr, List.filter_append, List.filter_cons]
    simp only [hseti, Bool.not_true, Bool.false_eq_true, if_false]
    congr 1
    · refine List.filter_congr fun j hj => ?_
      rw [hset j (by have := List.mem_range.1 hj; omega)]
    · refine List.filter_congr fun j hj => ?_
      rw [hset j (by have := List.mem_range'_1.1 hj; omega)]
theorem mem_unl {n i : Nat} {listed : Array Bool} : i ∈ unl n listed ↔ i < n ∧ listed.getD i true = false := by
  unfold unl; simp
theorem edge_lt (hok : drawOK ops = true) {i : Nat} {o : Oper} (ho : ops[i]? = some o) {e : Edge} (he : e ∈ o.after.toList) (hb : Region.binds .any e = true) : e.on < i := by
  unfold drawOK at hok
  simp only [Bool.and_eq_true] at hok
  have := List.all_eq_true.1 hok.2 i (by simpa using (Array.getElem?_eq_some_iff.1 ho).1)
  rw [ho] at this
  have := Array.all_eq_true'.1 this e (by simpa using he)
  rw [hb] at this
  simpa using this
theorem getD_any {listed : Array Bool} {i : Nat} (h : i < listed.size) (a b : Bool) : listed.getD i a = listed.getD i b := by
  simp [Array.getD_eq_getD_getElem?, h]
theorem mem_ready (hok : drawOK ops = true) {listed : Array Bool} (hsz : listed.size = ops.size) {i : Nat} : i ∈ Region.ready .any ops listed ↔ i < ops.size ∧ listed.getD i true = false ∧ ∀ o, ops[i]? = some o → ∀ e ∈ o.after.toList, Region.binds .any e = true → listed.getD e.on true = true := by
  unfold Region.ready
  simp only [List.mem_filter, List.mem_range, Bool.and_eq_true, Bool.not_eq_true']
  refine ⟨fun ⟨h1, h2, h3⟩ => ⟨h1, h2, fun o ho e he hb => ?_⟩, fun ⟨h1, h2, h3⟩ => ⟨h1, h2, ?_⟩⟩
  · rw [ho] at h3
    simp only [Option.map_some, Option.getD_some] at h3
    have := Array.all_eq_true'.1 h3 e (by simpa using he)
    rw [hb] at this
    have hlt := edge_lt hok ho he hb
    rw [getD_any (by omega) true false]
    simpa using this
  · obtain ⟨o, ho⟩ : ∃ o, ops[i]? = some o := ⟨_, Array.getElem?_eq_getElem h1⟩
    rw [ho]
    simp only [Option.map_some, Option.getD_some]
    refine Array.all_eq_true'.2 fun e he => ?_
    cases hb : Region.binds .any e with
    | false => rfl
    | true =>
      have hlt := edge_lt hok ho (by simpa using he) hb
      rw [getD_any (by omega) false true]
      simpa using h3 o ho e (by simpa using he) hb
theorem order_go (hok : drawOK ops = true) {s' : St} : ∀ (fuel t : Nat) (listed : Array Bool) (s : St), listed.size = ops.size → ClosedL ops listed → (unl ops.size listed).length ≤ fuel → C.runOpsD rec ops (unl ops.size listed) s = some s' →
    C.runOpsD rec ops (Region.linearise.go .any ops fuel t listed []) s = some s' ∧ (Region.linearise.go .any ops fuel t listed []).Nodup ∧ ∀ i ∈ Region.linearise.go .any ops fuel t listed [], i < ops.size ∧ listed.getD i true = false
  | 0, t, listed, s, hsz, hc, hf, h => by
    have : unl ops.size listed = [] := List.eq_nil_of_length_eq_zero (by omega)
    rw [this] at h
    simp only [Region.linearise.go, List.reverse_nil]
    exact ⟨h, by simp, by simp⟩
  | fuel + 1, t, listed, s, hsz, hc, hf, h => by
    simp only [Region.linearise.go]
    change C.runOpsD rec ops (match (Region.ready .any ops listed)[t % (Region.ready .any ops listed).length]? with
      | some i => Region.linearise.go .any ops fuel (t / (Region.ready .any ops listed).length) (listed.setIfInBounds i true) [i]
      | none => [].reverse) s = some s' ∧ (match (Region.ready .any ops listed)[t % (Region.ready .any ops listed).length]? with
      | some i => Region.linearise.go .any ops fuel (t / (Region.ready .any ops listed).length) (listed.setIfInBounds i true) [i]
      | none => [].reverse).Nodup ∧ ∀ i ∈ (match (Region.ready .any ops listed)[t % (Region.ready .any ops listed).length]? with
      | some i => Region.linearise.go .any ops fuel (t / (Region.ready .any ops listed).length) (listed.setIfInBounds i true) [i]
      | none => [].reverse), i < ops.size ∧ listed.getD i true = false
    cases hi : (Region.ready .any ops listed)[t % (Region.ready .any ops listed).length]? with
    | none =>
      have hnil : Region.ready .any ops listed = [] := by
        cases hr : Region.ready .any ops listed with
        | nil => rfl
        | cons x xs =>
          rw [hr] at hi
          have hlt : t % (x :: xs).length < (x :: xs).length := Nat.mod_lt _ (by simp)
          rw [List.getElem?_eq_none_iff] at hi
          omega
      have hu : unl ops.size listed = [] := by
        cases hq : unl ops.size listed with
        | nil => rfl
        | cons u us =>
          exfalso

          have hmem : u ∈ unl ops.size listed := by rw [hq]; exact List.mem_cons_self
          obtain ⟨h1, h2⟩ := mem_unl.1 hmem
          have hmin : ∀ j, j < u → listed.getD j true = true := fun j hj => by
            cases hjl : listed.getD j true with
            | true => rfl
            | false =>
              have hjm : j ∈ unl ops.size listed := mem_unl.2 ⟨by omega, hjl⟩
              have hsorted : (unl ops.size listed).Pairwise (· < ·) := by
                unfold unl
                exact List.Pairwise.filter _ List.pairwise_lt_range
              rw [hq] at hjm hsorted
              rcases List.mem_cons.1 hjm with rfl | hjm
              · omega
              · have := (List.pairwise_cons.1 hsorted).1 j hjm
                omega
          have : u ∈ Region.ready .any ops listed := (mem_ready hok hsz).2 ⟨h1, h2, fun o ho e he hb => hmin e.on (by
            unfold drawOK at hok
            simp only [Bool.and_eq_true] at hok
            have := List.all_eq_true.1 hok.2 u (by simpa using h1)
            rw [ho] at this
            have := Array.all_eq_true'.1 this e (by simpa using he)
            rw [hb] at this
            simpa using this)⟩
          rw [hnil] at this
          cases this
      rw [hu] at h
      exact ⟨h, by simp, by simp⟩
    | some i =>
      simp only []
      rw [linearise_go_acc, List.reverse_singleton, List.singleton_append]
      obtain ⟨h1, h2, h3⟩ := (mem_ready hok hsz).1 (List.mem_of_getElem? hi)
      obtain ⟨k1, k2⟩ := unl_split h1 h2 hsz
      rw [k1] at h
      have hind : ∀ j ∈ (List.range i).filter (fun j => !listed.getD j true), Indep ops i j ∧ j < ops.size := fun j hj => by
        simp only [List.mem_filter, List.mem_range, Bool.not_eq_true'] at hj
        refine ⟨⟨by omega, ?_, ?_⟩, by omega⟩
        · unfold comparable
          simp only [Bool.or_eq_false_iff, beq_eq_false_iff_ne, ne_eq]
          refine ⟨⟨by omega, ?_⟩, ?_⟩
          · cases hb : (anc ops i).testBit j with
            | false => rfl
            | true =>
              have := anc_listed hok hc (i + 1) i j (by omega) h1 h3 hb
              rw [hj.2] at this; cases this
          · cases hb : (anc ops j).testBit i with
            | false => rfl
            | true =>
              have := anc_lt hok (j + 1) j i (by omega) (by omega) hb
              omega
        · unfold drawOK at hok
          simp only [Bool.and_eq_true] at hok
          have := List.all_eq_true.1 hok.1 i (by simpa using h1)
          have := List.all_eq_true.1 this j (by simpa using hj.1)
          have hcf : comparable ops i j = false := by
            unfold comparable
            simp only [Bool.or_eq_false_iff, beq_eq_false_iff_ne, ne_eq]
            refine ⟨⟨by omega, ?_⟩, ?_⟩
            · cases hb : (anc ops i).testBit j with
              | false => rfl
              | true =>
                have := anc_listed (by unfold drawOK; simp only [Bool.and_eq_true]; exact hok) hc (i + 1) i j (by omega) h1 h3 hb
                rw [hj.2] at this; cases this
            · cases hb : (anc ops j).testBit i with
              | false => rfl
              | true =>
                have := anc_lt (by unfold drawOK; simp only [Bool.and_eq_true]; exact hok) (j + 1) j i (by omega) (by omega) hb
                omega
          rw [hcf] at this
          simpa using this
      obtain ⟨s1, h4, h5⟩ := front h1 _ hind h
      rw [← k2] at h5
      have hget : ∀ j, (listed.setIfInBounds i true).getD j true = if j = i then true else listed.getD j true := fun j => by
        by_cases hj : j = i
        · subst hj
          simp [Array.getD_eq_getD_getElem?, hsz, h1]
        · simp [Array.getD_eq_getD_getElem?, Ne.symm hj, hj]
      have hc' : ClosedL ops (listed.setIfInBounds i true) := fun j hj o ho e he hb => by
        rw [hget] at hj ⊢
        split at hj
        · rename_i hji
          subst hji
          split
          · rfl
          · exact h3 o ho e he hb
        · split
          · rfl
          · exact hc j hj o ho e he hb
      have hlen : (unl ops.size (listed.setIfInBounds i true)).length ≤ fuel := by
        rw [k1] at hf
        rw [k2]
        simp only [List.length_append, List.length_cons] at hf ⊢
        omega
      obtain ⟨r1, r2, r3⟩ := order_go hok fuel (t / (Region.ready .any ops listed).length) _ s1 (by simpa using hsz) hc' hlen h5
      refine ⟨?_, ?_, ?_⟩
      · unfold Cfg.runOpsD
        rw [h4]
        exact r1
      · rw [List.nodup_cons]
        refine ⟨fun hm => ?_, r2⟩
        have := (r3 i hm).2
        rw [hget] at this
        simp at this
      · intro j hj
        rcases List.mem_cons.1 hj with rfl | hj
        · exact ⟨h1, h2⟩
        · have := r3 j hj
          rw [hget] at this
          refine ⟨this.1, ?_⟩
          split at this
          · exact absurd this.2 (by simp)
          · exact this.2
theorem order_sound {s s' : St} (hok : drawOK ops = true) (h : C.runOpsD rec ops (List.range ops.size) s = some s') (t : Nat) :
    C.runOpsD rec ops (Region.schedule true ops t) s = some s' ∧ (Region.schedule true ops t).Nodup ∧ ∀ i ∈ Region.schedule true ops t, i < ops.size := by
  have hget : ∀ i, i < ops.size → (Array.replicate ops.size false).getD i true = false := fun i hi => by simp [Array.getD_eq_getD_getElem?, hi]
  have hu : unl ops.size (Array.replicate ops.size false) = List.range ops.size := by
    unfold unl
    rw [List.filter_eq_self]
    intro i hi
    rw [hget i (by simpa using hi)]
    rfl
  have hs : Region.schedule true ops t = Region.linearise.go .any ops ops.size t (Array.replicate ops.size false) [] := by
    simp only [Region.schedule, Bool.true_or, if_true, Region.linearise]
  rw [hs]
  have hc : ClosedL ops (Array.replicate ops.size false) := fun i hi o ho => by
    have := hget i (Array.getElem?_eq_some_iff.1 ho).1
    rw [this] at hi
    cases hi
  obtain ⟨r1, r2, r3⟩ := order_go (C := C) (rec := rec) hok ops.size t (Array.replicate ops.size false) s (by simp) hc (by rw [hu]; simp) (by rw [hu]; exact h)
  exact ⟨r1, r2, fun i hi => (r3 i hi).1⟩
end
end Go.PM
end
section
namespace Go.PM
open Go
set_option linter.unusedVariables false
abbrev wf (ro : Option Nat) : Fence := { Fence.wide with round := ro }
theorem stepsIn_wf {P : Program} {ro : Option Nat} {m m' : Machine} : StepsIn (Machine.fenced P (wf ro)) P m m' ↔ Steps P m m' := stepsIn_wide
theorem calls_wf {P : Program} {ro : Option Nat} {n : Nat} {f : FuncId} {args : Array Value} {w : World} {R : Ending → World → Prop} (h : Calls P f args w R) : CallsIn (wf ro) n P f args w R := callsIn_wide.2 h
theorem op_in {P : Program} {ro : Option Nat} {o : Oper} {a : Act} {w : World} {K K' : Act → World → Prop} {Q : Exit → Act → World → Prop} (hnd : ∀ c, o.op ≠ .defer c) (hk : ∀ a w, K a w → K' a w) (h : o.wp P a w K Q) : o.wpIn (wf ro) 0 P a w K' Q := by
  unfold Oper.wpIn
  refine ⟨fun _ _ => trivial, ?_⟩
  rw [Oper.semAt_eq _ _ _ hnd]
  unfold Oper.wp at h
  generalize (execOp a.eval o).run P w = r at *
  unfold Oper.upon at h
  split at h
  · exact hk _ _ h
  · exact hk _ _ h
  · exact hk _ _ h
  · rw [Oper.uponIn_enter]
    refine ⟨fun h => (by cases h), (calls_wf h).mono ?_⟩
    intro e w' h
    cases e with
    | returned v => exact hk _ _ h
    | panicked c => exact h
    | outgrown => exact h
  · rw [Oper.uponIn_row]
    exact ⟨fun h => (by cases h), fun c cs _ => let ⟨v, w', r, s⟩ := h c cs; ⟨v, w', hk _ _ r, stepsIn_wf.2 s⟩⟩
  · exact h
  · exact h.elim
theorem ops_in {P : Program} {ro : Option Nat} {ops : Array Oper} {Q : Exit → Act → World → Prop} (hq : ¬ LetsOut Q) (hnd : ∀ (i : Nat) (o : Oper), ops[i]? = some o → ∀ c, o.op ≠ .defer c) :
    ∀ (l : List Nat) (a : Act) (w : World), wpOps P ops Q l a w → wpOpsIn (wf ro) 0 P ops Q l a w
  | [], a, w, h => h
  | i :: rest, a, w, h => by
    simp only [wpOps] at h
    simp only [wpOpsIn]
    cases ho : ops[i]? with
    | none =>
      simp only [ho] at h
      exact ops_in hq hnd rest a w h
    | some o =>
      simp only [ho] at h
      dsimp only
      split
      · rename_i hw
        rw [if_pos hw] at h
        rcases h with h | ⟨_, h⟩
        · exact op_in (hnd i o ho) (fun a w h => ops_in hq hnd rest a w h) h
        · exact absurd h hq
      · rename_i hw
        rw [if_neg hw] at h
        exact ⟨fun _ _ => trivial, ops_in hq hnd rest _ w h⟩
theorem stepR_scope {P : Program} {b : Frame} {a : Act} {k : List Item} {cs : List Frame} {w : World} {c : Code} : step P (lone (b.atR a (.code (.scope c) :: k)) cs w) = .next (lone (b.atR a (.code c :: .inScope c :: k)) cs w) :=
  step_lone_go (by simp [stepG, stepG.exec, Frame.atR])
theorem stepR_inScope {P : Program} {b : Frame} {a : Act} {k : List Item} {cs : List Frame} {w : World} {c : Code} : step P (lone (b.atR a (.inScope c :: k)) cs w) = .next (lone (b.atR a k) cs w) :=
  step_lone_go (by simp [stepG, stepG.exec, Frame.atR])
def noGoto (Q : Exit → Act → World → Prop) : Exit → Act → World → Prop
  | .goto _, _, _ => False
  | e, a, w => Q e a w
theorem wpIn_scope {P : Program} {ro : Option Nat} {Q : Exit → Act → World → Prop} {a : Act} {w : World} {c : Code} (h : c.wpIn (wf ro) 0 P (noGoto Q) a w) : (Code.scope c).wpIn (wf ro) 0 P Q a w := by
  intro b k cs hro hb hr
  obtain ⟨e, a1, w1, hq, harr⟩ := h b (.inScope c :: k) cs hro hb hr
  have h0 : (lone (b.atR a (.code (.scope c) :: k)) cs w).fenced P (wf ro) := fenced_wide P _
  cases e with
  | normal => exact ⟨.normal, a1, w1, hq, .of_steps (.one h0 stepR_scope) (StepsIn.trans harr (.one (fenced_wide P _) stepR_inScope))⟩
  | exit id =>
    have hx : exitTo id (.inScope c :: k) = exitTo id k := by simp [exitTo]
    exact ⟨.exit id, a1, w1, hq, .of_steps (.one h0 stepR_scope) ⟨fun k' hk => harr.1 k' (by rw [hx]; exact hk), fun hr hk => harr.2 hr (by rw [hx]; exact hk)⟩⟩
  | goto l => exact hq.elim
  | ret => exact ⟨_, a1, w1, hq, .of_steps (.one h0 stepR_scope) harr⟩
  | panic ch => exact ⟨_, a1, w1, hq, .of_steps (.one h0 stepR_scope) harr⟩
  | outgrown => exact ⟨_, a1, w1, hq, .of_steps (.one h0 stepR_scope) harr⟩
def LW (ro : Option Nat) (P : Program) (b : Code) (Q : Exit → Act → World → Prop) (a : Act) (w : World) : Prop :=
  ∀ (fr : Frame) (k : List Item) (cs : List Frame), fr.roundOf = ro → ∃ e a' w', Q e a' w' ∧ ArrivesIn (Machine.fenced P (wf ro)) P (lone (fr.atR a (.code b :: .inLoop b :: k)) cs w) fr k cs e a' w'
section
variable {P : Program} {ro : Option Nat}
theorem fenced_wf (m : Machine) : m.fenced P (wf ro) := fenced_wide P m
theorem LW.wp {b : Code} {Q : Exit → Act → World → Prop} {a : Act} {w : World} (h : LW ro P b Q a w) : (Code.loop b).wpIn (wf ro) 0 P Q a w := fun fr k cs hro _ _ =>
  let ⟨e, a', w', q, r⟩ := h fr k cs hro; ⟨e, a', w', q, .of_steps (.one (fenced_wf _) stepR_loop) r⟩
theorem LW.unroll {b : Code} {Q : Exit → Act → World → Prop} {a : Act} {w : World} (h : b.wpIn (wf ro) 0 P (Exit.then (LW ro P b Q) Q) a w) : LW ro P b Q a w := by
  intro fr k cs hro
  obtain ⟨e, a1, w1, hq, harr⟩ := h fr (.inLoop b :: k) cs hro trivial (room_wide _)
  cases e with
  | normal =>
    obtain ⟨e2, a2, w2, hq2, harr2⟩ := hq fr k cs hro
    exact ⟨e2, a2, w2, hq2, .of_steps (StepsIn.trans harr (.one (fenced_wf _) stepR_inLoop)) harr2⟩
  | exit id => exact ⟨_, a1, w1, hq, .pass (x := .inLoop b) rfl (fun _ _ => .inl (by simp)) harr⟩
  | goto l => exact ⟨_, a1, w1, hq, .pass (x := .inLoop b) rfl (fun _ _ => .inl (by simp)) harr⟩
  | ret => exact ⟨_, a1, w1, hq, .pass (x := .inLoop b) rfl (fun _ _ => .inl (by simp)) harr⟩
  | panic ch => exact ⟨_, a1, w1, hq, .pass (x := .inLoop b) rfl (fun _ _ => .inl (by simp)) harr⟩
  | outgrown => exact ⟨_, a1, w1, hq, .pass (x := .inLoop b) rfl (fun _ _ => .inl (by simp)) harr⟩
theorem LW.mono {b : Code} {Q Q' : Exit → Act → World → Prop} {a : Act} {w : World} (h : LW ro P b Q a w) (hq : ∀ e a w, Q e a w → Q' e a w) : LW ro P b Q' a w := fun fr k cs hro =>
  let ⟨e, a', w', q, r⟩ := h fr k cs hro; ⟨e, a', w', hq _ _ _ q, r⟩
end
end Go.PM
end
section
namespace Go.PM
open Go
set_option linter.unusedVariables false
theorem Back.trans {N0 : Nat → Prop} {w w1 w2 : World} {φ φ1 φ2 : Phi} {H H1 H2 : Heap} {m m1 m2 : Nat} (h : Back N0 w φ H m w1 φ1 H1 m1) (k : Back N0 w1 φ1 H1 m w2 φ2 H2 m2) : Back N0 w φ H m w2 φ2 H2 m2 := by
  refine ⟨k.os.trans h.os, k.tape.trans h.tape, k.output.trans h.output, Nat.le_trans h.size k.size, fun b hb hn => ?_, fun b hb ho => h.own b hb (k.own b (Nat.lt_of_lt_of_le hb h.size) ho), fun id q hid hq => ?_, fun id pb hp hb => ?_, k.rel, k.tail, k.le⟩
  · exact (k.same b (Nat.lt_of_lt_of_le hb h.size) fun o => hn (h.own b hb o)).trans (h.same b hb hn)
  · rcases h.keep id q hid hq with h1 | h1
    · exact k.keep id q hid h1
    · exact (k.keep id none hid h1).elim .inr .inr
  · obtain ⟨i1, p1, h1, h2⟩ := k.old id pb hp (Nat.lt_of_lt_of_le hb h.size)
    obtain ⟨i0, p0, h3, h4⟩ := h.old i1 p1 h1 (by rw [h2]; exact hb)
    exact ⟨i0, p0, h3, h4.trans h2⟩
theorem Back.of_step {N0 : Nat → Prop} {w w1 : World} {φ φ1 : Phi} {H H1 : Heap} {m m1 : Nat} (h : Step N0 w φ H w1 φ1 H1) (ht : ∀ k, m1 ≤ k → φ1 k = none) (hm : m ≤ m1) : Back N0 w φ H m w1 φ1 H1 m1 :=
  ⟨h.os, h.tape, h.output, h.size, h.same, h.own, fun id q _ hq => h.keep id q hq, h.old, h.rel, ht, hm⟩
theorem Back.refl {N0 : Nat → Prop} {w : World} {φ : Phi} {H : Heap} {m m1 : Nat} (h : HeapRel w N0 φ H) (ht : ∀ k, m1 ≤ k → φ k = none) (hm : m ≤ m1) : Back N0 w φ H m w φ H m1 := Back.of_step (Step.refl h) ht hm
theorem Back.laterN {N0 : Nat → Prop} {w w1 : World} {φ φ1 : Phi} {H H1 : Heap} {m m1 : Nat} (h : Back N0 w φ H m w1 φ1 H1 m1) : ∀ b, b < w.heap.size → Nn N0 φ1 H1 b → Nn N0 φ H b := fun b hb hn => hn.imp id (h.own b hb)
theorem GlobRel.back {C : Cfg} {N0 : Nat → Prop} {w w1 : World} {φ φ1 : Phi} {H H1 : Heap} {m m1 : Nat} (h : Back N0 w φ H m w1 φ1 H1 m1) (hg : GlobRel C w (Nn N0 φ H)) : GlobRel C w1 (Nn N0 φ1 H1) := by
  refine ⟨fun g d hd => ⟨(hg.vals g d hd).1, (hg.vals g d hd).2.later ⟨h.size, fun b hb hn => h.same b hb fun o => hn (.inr o), h.laterN, fun _ _ h => by cases h⟩⟩, fun g q hq => ?_⟩
  obtain ⟨hn, o, ho, hp⟩ := hg.fix g q hq
  have hlt := (Array.getElem?_eq_some_iff.1 ho).1
  exact ⟨fun h2 => hn (h.laterN g hlt h2), o, (h.same g hlt fun o => hn (.inr o)).trans ho, hp⟩
theorem idsPrefix {m : Nat} {ids : List Nat} (h : List.range m <+: ids) : ∀ k, k < m → ids[k]? = some k := fun k hk => by
  obtain ⟨r, rfl⟩ := h
  rw [List.getElem?_append_left (by simpa using hk)]
  simp [hk]
theorem pack_back {N0 : Nat → Prop} {w : World} {φ : Phi} {H : Heap} {m : Nat} {ids : List Nat} (h : HeapRel w N0 φ H) (hn : ids.Nodup) (hp : List.range m <+: ids) : Back N0 w φ H m w (phiOf ids φ) (heapOf (packIds ids H)) (packIds ids H).length := by
  have hlen : (packIds ids H).length = ids.length := by unfold packIds; simp
  refine ⟨rfl, rfl, rfl, Nat.le_refl _, fun _ _ _ => rfl, fun b _ ho => (pack_own ho).1, fun id q hid hq => .inl ?_, fun id pb hpb _ => ?_, h.pack hn (fun b hb => .inl hb) (fun id _ pb hp => h.out id pb hp), fun k hk => ?_, ?_⟩
  · unfold phiOf
    rw [idsPrefix hp id hid]
    exact hq
  · unfold phiOf at hpb
    obtain ⟨i, h1, h2⟩ := Option.bind_eq_some_iff.1 hpb
    exact ⟨i, pb, h2, rfl⟩
  · unfold phiOf
    rw [List.getElem?_eq_none (by omega)]
    rfl
  · obtain ⟨r, rfl⟩ := hp
    rw [hlen]; simp
theorem pack_sub {N0 : Nat → Prop} {φ : Phi} {H : Heap} {ids : List Nat} : ∀ b, Nn N0 (phiOf ids φ) (heapOf (packIds ids H)) b → Nn N0 φ H b := fun b hb => hb.imp id fun q => (pack_own q).1
theorem envOf_pack {ρ : Nat → Option Nat} {e : Env} : ∀ {ts : List Nat} {t : Nat} {d : DV}, envOf ts (renO ρ (ts.map e)) t = some d → ∃ d0, e t = some d0 ∧ d = d0.ren ρ
  | [], t, d, h => by simp [envOf] at h
  | u :: ts, t, d, h => by
    simp only [List.map_cons, renO, envOf] at h
    split at h
    · rename_i hu
      subst hu
      obtain ⟨d0, h1, h2⟩ := Option.map_eq_some_iff.1 h
      exact ⟨d0, h1, h2.symm⟩
    · exact envOf_pack h
theorem pack_some {m : Nat} {vals vals' : List (Option DV)} {h : Heap} {hs : List (Option Blk)} (hp : pack m vals h = some (vals', hs)) : ∃ ids, ids.Nodup ∧ List.range m <+: ids ∧ vals' = renO (place ids) vals ∧ hs = packIds ids h := by
  unfold pack at hp
  split at hp
  · rename_i ids hids
    simp only [Option.some.injEq, Prod.mk.injEq] at hp
    obtain ⟨h1, _, h3⟩ := collect_nodup hids List.nodup_range
    exact ⟨ids, h1, h3, hp.1.symm, hp.2.symm⟩
  · cases hp
def isDefer : Op → Bool
  | .defer _ => true
  | _ => false
def checkRegion (n : Nat) (ops : Array Oper) (draw : Bool) : Bool := (ops.all fun o => (match o.dst with | some d => decide (d < n) | none => true) && !isDefer o.op) && (!draw || drawOK ops)
def noEach : Code → Bool
  | .seq a b | .cond _ a b => noEach a && noEach b
  | .block _ c | .loop c | .scope c => noEach c
  | .rangeFunc .. => false
  | _ => true
def checkCode (n : Nat) : Code → Bool
  | .region _ ops d => checkRegion n ops d
  | .seq a b | .cond _ a b => checkCode n a && checkCode n b
  | .block _ c | .loop c | .scope c => checkCode n c
  | .rangeFunc _ ps as bd => checkCode n as && checkCode n bd && noEach as && noEach bd && ps.all (fun p => decide (p < n))
  | _ => true
theorem codeAt_check {n : Nat} {c : Code} {l : Live} (h : checkCode n c = true) : ∀ {p : List Bool} {c' : Code} {l' : Live}, codeAt c l p = some (c', l') → checkCode n c' = true
  | [], c', l', hc => by
    simp only [codeAt, Option.some.injEq, Prod.mk.injEq] at hc
    rw [← hc.1]; exact h
  | b :: p, c', l', hc => by
    simp only [codeAt] at hc
    split at hc
    · rename_i x y l1 h1
      have h2 := codeAt_check h h1
      simp only [checkCode, Bool.and_eq_true] at h2
      split at hc <;> simp only [Option.some.injEq, Prod.mk.injEq] at hc <;> rw [← hc.1]
      · exact h2.2
      · exact h2.1
    · rename_i q x y l1 h1
      have h2 := codeAt_check h h1
      simp only [checkCode, Bool.and_eq_true] at h2
      simp only [Option.some.injEq, Prod.mk.injEq] at hc
      rw [← hc.1]
      split
      · exact h2.2
      · exact h2.1
    · rename_i id x l1 h1
      have h2 := codeAt_check h h1
      simp only [Option.some.injEq, Prod.mk.injEq] at hc
      rw [← hc.1]; exact h2
    · rename_i x l1 h1
      have h2 := codeAt_check h h1
      simp only [Option.some.injEq, Prod.mk.injEq] at hc
      rw [← hc.1]; exact h2
    · rename_i x l1 h1
      have h2 := codeAt_check h h1
      simp only [Option.some.injEq, Prod.mk.injEq] at hc
      rw [← hc.1]; exact h2
    · rename_i g ps as bd l1 h1
      have h2 := codeAt_check h h1
      simp only [checkCode, Bool.and_eq_true] at h2
      split at hc <;> simp only [Option.some.injEq, Prod.mk.injEq] at hc <;> rw [← hc.1]
      · exact h2.1.1.1.2
      · exact h2.1.1.1.1
    · cases hc
def ExRel : Ex → Exit → Prop
  | .normal, .normal => True
  | .exit i, .exit j => i = j
  | .ret, .ret => True
  | _, _ => False
def isMark : Obj → Bool
  | .loop _ => true
  | .deferred _ => true
  | _ => false
def Marks (lo : Nat) (w : World) : Nat → List Deferred → Prop
  | _, [] => True
  | hi, d :: ds => ∃ D, lo ≤ D ∧ D < hi ∧ d = { target := .collected D, args := #[] } ∧ w.heap[D]? = some (.deferred (some [])) ∧ Marks lo w D ds
theorem Marks.up {lo hi hi' : Nat} {w : World} {ds : List Deferred} (h : Marks lo w hi ds) (hh : hi ≤ hi') : Marks lo w hi' ds := by
  cases ds with
  | nil => trivial
  | cons d ds =>
    obtain ⟨D, h1, h2, h3⟩ := h
    exact ⟨D, h1, Nat.lt_of_lt_of_le h2 hh, h3⟩
theorem Marks.above {lo : Nat} {w w' : World} (hm : ∀ D : Nat, lo ≤ D → w.heap[D]? = some (Obj.deferred (some [])) → w'.heap[D]? = some (Obj.deferred (some []))) : ∀ {ds : List Deferred} {hi : Nat}, Marks lo w hi ds → Marks lo w' hi ds
  | [], _, h => trivial
  | d :: ds, hi, h => by
    obtain ⟨D, h1, h2, h3, h4, h5⟩ := h
    exact ⟨D, h1, h2, h3, hm D h1 h4, Marks.above hm h5⟩
theorem Marks.below {lo : Nat} {w w' : World} : ∀ {ds : List Deferred} {hi : Nat}, (∀ D : Nat, D < hi → w.heap[D]? = some (Obj.deferred (some [])) → w'.heap[D]? = some (Obj.deferred (some []))) → Marks lo w hi ds → Marks lo w' hi ds
  | [], _, _, h => trivial
  | d :: ds, hi, hm, h => by
    obtain ⟨D, h1, h2, h3, h4, h5⟩ := h
    exact ⟨D, h1, h2, h3, hm D h2 h4, Marks.below (fun D' hD => hm D' (Nat.lt_trans hD h2)) h5⟩
theorem Marks.mono {lo : Nat} {w w' : World} (hm : ∀ D : Nat, w.heap[D]? = some (Obj.deferred (some [])) → w'.heap[D]? = some (Obj.deferred (some []))) : ∀ {ds : List Deferred} {hi : Nat}, Marks lo w hi ds → Marks lo w' hi ds
  | [], _, h => trivial
  | d :: ds, hi, h => by
    obtain ⟨D, h1, h2, h3, h4, h5⟩ := h
    exact ⟨D, h1, h2, h3, hm D h4, Marks.mono hm h5⟩
theorem HeapRel.mark {w : World} {N0 : Nat → Prop} {φ : Phi} {H : Heap} (h : HeapRel w N0 φ H) {b : Nat} {o : Obj} (ho : w.heap[b]? = some o) (hm : isMark o = true) : ¬ Own φ H b := by
  rintro ⟨id, pb, blk, h1, h2, h3, rfl⟩
  obtain ⟨pb', h4, h5⟩ := h.here id blk h2
  rw [h1] at h4
  cases h4
  cases blk with
  | row r =>
    obtain ⟨cur, vs, rest, h6, _⟩ := h5
    rw [ho] at h6
    cases h6
    cases hm
  | siter s pos =>
    obtain ⟨t, h6, _⟩ := h5
    rw [ho] at h6
    cases h6
    cases hm
theorem Back.mark {N0 : Nat → Prop} {w w1 : World} {φ φ1 : Phi} {H H1 : Heap} {m m1 : Nat} (B : Back N0 w φ H m w1 φ1 H1 m1) (hr : HeapRel w N0 φ H) {b : Nat} {o : Obj} (ho : w.heap[b]? = some o) (hm : isMark o = true) : w1.heap[b]? = some o :=
  (B.same b (Array.getElem?_eq_some_iff.1 ho).1 (hr.mark ho hm)).trans ho
theorem Back.marks {N0 : Nat → Prop} {w w1 : World} {φ φ1 : Phi} {H H1 : Heap} {m m1 lo : Nat} (B : Back N0 w φ H m w1 φ1 H1 m1) (hr : HeapRel w N0 φ H) {ds : List Deferred} (h : Marks lo w w.heap.size ds) : Marks lo w1 w1.heap.size ds :=
  (h.mono fun D hD => B.mark hr hD rfl).up B.size
theorem Back.base {N0 : Nat → Prop} {w w1 : World} {φ φ1 : Phi} {H H1 : Heap} {m m' m1 : Nat} (B : Back N0 w φ H m' w1 φ1 H1 m1) (h : m ≤ m') : Back N0 w φ H m w1 φ1 H1 m1 :=
  ⟨B.os, B.tape, B.output, B.size, B.same, B.own, fun id q hid hq => B.keep id q (Nat.lt_of_lt_of_le hid h) hq, B.old, B.rel, B.tail, Nat.le_trans h B.le⟩
structure GrownX (L : Nat) (W W1 : World) : Prop where
  os : W1.os = W.os
  tape : W1.tape = W.tape
  output : W1.output = W.output
  size : W.heap.size ≤ W1.heap.size
  same : ∀ b, b < W.heap.size → b ≠ L → W1.heap[b]? = W.heap[b]?
theorem GrownX.refl (L : Nat) (W : World) : GrownX L W W := ⟨rfl, rfl, rfl, Nat.le_refl _, fun _ _ _ => rfl⟩
theorem GrownX.trans {L : Nat} {A B D : World} (h : GrownX L A B) (k : GrownX L B D) : GrownX L A D :=
  ⟨k.os.trans h.os, k.tape.trans h.tape, k.output.trans h.output, Nat.le_trans h.size k.size, fun b hb hn => (k.same b (Nat.lt_of_lt_of_le hb h.size) hn).trans (h.same b hb hn)⟩
theorem GrownX.put (L : Nat) (W : World) (o : Obj) : GrownX L W (W.putObj L o) := ⟨rfl, rfl, rfl, by simp, fun b _ hn => World.putObj_heap_other hn⟩
def MarkAt (W : World) (L : Nat) : Prop := ∃ o, W.heap[L]? = some o ∧ isMark o = true
theorem cell_mark {W : World} {L i : Nat} {x : Value} (h : MarkAt W L) : W.cell? ⟨L, i, none⟩ ≠ some x := by
  obtain ⟨o, h1, h2⟩ := h
  intro h3
  unfold World.cell? at h3
  simp only [h1] at h3
  cases o <;> first | (cases h2; done) | (cases h3; done)
theorem GrownX.laterC {L : Nat} {W W1 : World} (h : GrownX L W W1) (hL : MarkAt W L) (N : Nat → Prop) (φ : Phi) : LaterC W N φ W1 N φ := by
  refine ⟨h.size, fun b i x hb hn hx => ?_, fun _ _ h => h, fun _ _ h => .inl h⟩
  have hne : b ≠ L := fun e => by subst e; exact cell_mark hL hx
  rw [← hx]
  exact World.cell?_of_block (h.same b hb hne)
theorem GrownX.block {L : Nat} {W W1 : World} (h : GrownX L W W1) (hL : MarkAt W L) {N0 : Nat → Prop} {φ : Phi} {H : Heap} (hr : HeapRel W N0 φ H) {id : Nat} {blk : Blk} {pb : PB} (hp : BlkRep W (Nn N0 φ H) φ blk pb) : W1.heap[pb.b]? = W.heap[pb.b]? := by
  refine h.same _ hp.lt fun e => ?_
  obtain ⟨o, h1, h2⟩ := hL
  cases blk with
  | row r =>
    obtain ⟨cur, vs, rest, h6, _⟩ := hp
    rw [e, h1] at h6
    cases h6
    cases h2
  | siter s pos =>
    obtain ⟨t, h6, _⟩ := hp
    rw [e, h1] at h6
    cases h6
    cases h2
theorem BlkRep.laterC {w w' : World} {N N' : Nat → Prop} {φ φ' : Phi} (L : LaterC w N φ w' N' φ') {blk : Blk} {pb : PB} (hb : w'.heap[pb.b]? = w.heap[pb.b]?) (h : BlkRep w N φ blk pb) : BlkRep w' N' φ' blk pb := by
  cases blk with
  | row r =>
    obtain ⟨cur, vs, rest, h1, h2, h3, h4, h5, h6, h7, h8⟩ := h
    exact ⟨cur, vs, rest, hb.trans h1, h2, h3, h4, RepEs.laterC L h5, h6, h7, h8⟩
  | siter s pos =>
    obtain ⟨t, h1, h2⟩ := h
    exact ⟨t, hb.trans h1, h2⟩
theorem HeapRel.grown {L : Nat} {W W1 : World} {N0 : Nat → Prop} {φ : Phi} {H : Heap} (hr : HeapRel W N0 φ H) (h : GrownX L W W1) (hL : MarkAt W L) : HeapRel W1 N0 φ H :=
  ⟨hr.gone, fun id blk hb => by
    obtain ⟨pb, h1, h2⟩ := hr.here id blk hb
    exact ⟨pb, h1, h2.laterC (h.laterC hL _ _) (h.block (id := id) hL hr h2)⟩, hr.apart, hr.out, fun b hb => Nat.lt_of_lt_of_le (hr.lim b hb) h.size⟩
theorem EnvRel.laterC {e : Env} {a : Act} {w w' : World} {N N' : Nat → Prop} {φ φ' : Phi} (L : LaterC w N φ w' N' φ') (he : EnvRel e a w N φ) : EnvRel e a w' N' φ' := fun t d h => (he t d h).laterC L
theorem Back.grown {N0 : Nat → Prop} {w W W1 : World} {φ φ1 : Phi} {H H1 : Heap} {m m1 L : Nat} (B : Back N0 w φ H m W φ1 H1 m1) (h : GrownX L W W1) (hL : MarkAt W L) (hle : w.heap.size ≤ L) : Back N0 w φ H m W1 φ1 H1 m1 :=
  ⟨h.os.trans B.os, h.tape.trans B.tape, h.output.trans B.output, Nat.le_trans B.size h.size, fun b hb hn => (h.same b (Nat.lt_of_lt_of_le hb B.size) (by omega)).trans (B.same b hb hn), B.own, B.keep, B.old, B.rel.grown h hL, B.tail, B.le⟩
structure Stay (N : Nat → Prop) (w W : World) : Prop where
  size : w.heap.size ≤ W.heap.size
  same : ∀ b, b < w.heap.size → ¬ N b → W.heap[b]? = w.heap[b]?
theorem Back.stay {N0 : Nat → Prop} {w W : World} {φ φ1 : Phi} {H H1 : Heap} {m m1 : Nat} (B : Back N0 w φ H m W φ1 H1 m1) : Stay (Nn N0 φ H) w W := ⟨B.size, fun b hb hn => B.same b hb fun o => hn (.inr o)⟩
structure Grown (W W1 : World) : Prop where
  os : W1.os = W.os
  tape : W1.tape = W.tape
  output : W1.output = W.output
  size : W.heap.size ≤ W1.heap.size
  same : ∀ b, b < W.heap.size → W1.heap[b]? = W.heap[b]?
theorem Grown.refl (W : World) : Grown W W := ⟨rfl, rfl, rfl, Nat.le_refl _, fun _ _ => rfl⟩
theorem Grown.toX {W W1 : World} (L : Nat) (h : Grown W W1) : GrownX L W W1 := ⟨h.os, h.tape, h.output, h.size, fun b hb _ => h.same b hb⟩
structure SeqOK (P : Program) (g : FuncId) (sq : List DV → Option (List (List DV))) : Prop where
  enters : ∀ args w, (callFunc g args).run P w = .ok (.enter g args) w
  tells : ∀ cap xs, sq cap = some xs → ∀ (w : World) (N : Nat → Prop) (vals : List Value), RepL w N (fun _ => none) cap vals →
    ∀ (l : Nat) (J : Nat → World → Prop) (Jx : World → Prop), (∀ k W, J k W → Stay N w W) →
      (∀ k x W W1 vs, xs[k]? = some x → J k W → Grown W W1 → (∀ N1, (∀ b, b < w.heap.size → N1 b → N b) → (∀ b, N1 b → b < W.heap.size) → RepL W1 N1 (fun _ => none) x vs) →
        YieldAt Fence.wide 0 P l vs.toArray W1 fun e W' => (e = .returned (.bool true) ∧ J (k + 1) W') ∨ (e = .returned (.bool false) ∧ Jx W')) →
      ∀ W, J 0 W → Calls P g (#[.func (.yield l) #[] #[]] ++ vals.toArray) W fun e W' => (∃ v, e = .returned v) ∧ ((∃ Wp, J xs.length Wp ∧ Grown Wp W') ∨ (∃ Wp, Jx Wp ∧ Grown Wp W'))
def SeqsOK (C : Cfg) : Prop := ∀ g sq, C.seqs g = some sq → SeqOK C.P g sq
def Post (C : Cfg) (N0 : Nat → Prop) (w : World) (φ : Phi) (H : Heap) (m n : Nat) (lo : Nat) (e : Ex) (env : Env) (H' : Heap) (m' : Nat) (x : Exit) (a' : Act) (w' : World) : Prop :=
  ExRel e x ∧ Marks lo w' w'.heap.size a'.defers ∧ a'.tmps.size = n ∧ ∃ φ', Back N0 w φ H m w' φ' H' m' ∧ EnvRel env a' w' (Nn N0 φ' H') φ' ∧ EnvIn env n
def LoopOK (C : Cfg) (f : FuncId) (p : List Bool) (m : Nat) (vals : List (Option DV)) (hs : List (Option Blk)) (e : Ex) (vals' : List (Option DV)) (hs' : List (Option Blk)) : Prop :=
  ∀ (fn : Func) (c b : Code) (l : Live), C.P.funcs[f]? = some fn → fn.body = some c → checkCode fn.ntmps c = true → codeAt c (Func.live fn) p = some (.loop b, l) →
    ∀ (ro : Option Nat) (lo : Nat) (a : Act) (w : World) (N0 : Nat → Prop) (φ : Phi) (n : Nat), (ro ≠ none → noEach b = true) → Marks lo w w.heap.size a.defers → lo ≤ w.heap.size → a.tmps.size = n → fn.ntmps ≤ n → (∀ k, hs.length ≤ k → φ k = none) → m ≤ hs.length → HeapRel w N0 φ (heapOf hs) → EnvRel (envOf (liveIn (.loop b) l) vals) a w (Nn N0 φ (heapOf hs)) φ → EnvIn (envOf (liveIn (.loop b) l) vals) n →
      GlobRel C w (Nn N0 φ (heapOf hs)) → LW ro C.P b (Post C N0 w φ (heapOf hs) m n lo e (envOf (e.live l) vals') (heapOf hs') hs'.length) a w
def Fixed (W W' : World) : Prop := ∀ (b : Nat) (o : Obj), W.heap[b]? = some o → isMark o = true → W'.heap[b]? = some o
theorem Back.fixed {N0 : Nat → Prop} {w W : World} {φ φ1 : Phi} {H H1 : Heap} {m m1 : Nat} (B : Back N0 w φ H m W φ1 H1 m1) (hr : HeapRel w N0 φ H) : Fixed w W := fun b o ho hm => B.mark hr ho hm
def roundAct (ps : Array Tmp) (a : Act) (vs : List Value) : Act := { tmps := (ps.zip vs.toArray).foldl (fun t (p, v) => t.setIfInBounds p v) a.tmps, defers := [] }
def RW (P : Program) (L : Nat) (ps : Array Tmp) (as bd : Code) (a : Act) (w : World) (N : Nat → Prop) (Q : Exit → World → Prop) : List (List DV) → World → Prop
  | [], W => ∀ W1, GrownX L W W1 → Q .normal W1
  | x :: r, W => x.length = ps.size ∧ DV.imms x = true ∧ ∀ W1 vs, GrownX L W W1 → MarkAt W1 L → (∀ N1, (∀ b, b < w.heap.size → N1 b → N b) → (∀ b, N1 b → b < W.heap.size) → RepL W1 N1 (fun _ => none) x vs) →
      as.wpIn (wf (some L)) 0 P (Exit.then (fun a1 W2 => Fixed W1 W2 ∧ ∀ W2', GrownX L W2 W2' → MarkAt W2' L → bd.wpIn (wf (some L)) 0 P (fun e a3 W3 => Fixed W2' W3 ∧ Stay N w W3 ∧ (match e with
        | .normal => RW P L ps as bd a w N Q r W3
        | .ret => ∀ W4, GrownX L W3 W4 → Q .ret W4
        | .exit id => ∀ W4, GrownX L W3 W4 → Q (.exit id) W4
        | _ => False)) a1 W2') (fun _ _ _ => False)) (roundAct ps a vs) W1
def PostR (C : Cfg) (N0 : Nat → Prop) (w : World) (φ : Phi) (H : Heap) (m n : Nat) (e : Ex) (env : Env) (H' : Heap) (m' : Nat) (a : Act) (x : Exit) (w' : World) : Prop :=
  ExRel e x ∧ ∃ φ', Back N0 w φ H m w' φ' H' m' ∧ EnvRel env a w' (Nn N0 φ' H') φ' ∧ EnvIn env n
def EachOK (C : Cfg) (f : FuncId) (p : List Bool) (m : Nat) (xs : List (List DV)) (vals : List (Option DV)) (hs : List (Option Blk)) (e : Ex) (vals' : List (Option DV)) (hs' : List (Option Blk)) : Prop :=
  ∀ (fn : Func) (c as bd : Code) (g : Operand) (ps : Array Tmp) (l : Live), C.P.funcs[f]? = some fn → fn.body = some c → checkCode fn.ntmps c = true → codeAt c (Func.live fn) p = some (.rangeFunc g ps as bd, l) →
    ∀ (a : Act) (w : World) (N0 : Nat → Prop) (φ0 : Phi) (H0 : Heap) (W : World) (φ : Phi) (n L : Nat), a.tmps.size = n → fn.ntmps ≤ n → Back N0 w φ0 H0 m W φ (heapOf hs) hs.length → EnvRel (envOf (keepsR ps as bd l) vals) a W (Nn N0 φ (heapOf hs)) φ → EnvIn (envOf (keepsR ps as bd l) vals) n →
      GlobRel C w (Nn N0 φ0 H0) → w.heap.size ≤ L → MarkAt W L →
      RW C.P L ps as bd a w (Nn N0 φ0 H0) (PostR C N0 w φ0 H0 m n e (envOf (e.live l) vals') (heapOf hs') hs'.length a) xs W
section
variable {C : Cfg} {rec : Req → Option Res}
theorem Post.back {N0 : Nat → Prop} {w w1 : World} {φ φ1 : Phi} {H H1 H' : Heap} {m m1 m' n : Nat} {lo : Nat} {e : Ex} {env : Env} {x : Exit} {a' : Act} {w' : World} (B : Back N0 w φ H m w1 φ1 H1 m1) (h : Post C N0 w1 φ1 H1 m n lo e env H' m' x a' w') : Post C N0 w φ H m n lo e env H' m' x a' w' := by
  obtain ⟨h1, h2, h3, φ', h4, h5⟩ := h
  exact ⟨h1, h2, h3, φ', B.trans h4, h5⟩
theorem chain_base {ops : Array Oper} : ∀ {l : List Nat} {s s' : St}, Chain C rec ops l s s' → s'.base = s.base
  | _, _, _, .nil s => rfl
  | _, _, _, .cons h t => by
    rw [chain_base t]
    obtain ⟨o, e', rd, _, _, _, hc⟩ := h
    rcases hc with ⟨_, rfl⟩ | ⟨_, v, e, _, rfl⟩ <;> rfl
theorem RW.grown {P : Program} {L : Nat} {ps : Array Tmp} {as bd : Code} {a : Act} {w : World} {N : Nat → Prop} {Q : Exit → World → Prop} {W W' : World} (h : GrownX L W W') : ∀ {xs : List (List DV)}, RW P L ps as bd a w N Q xs W → RW P L ps as bd a w N Q xs W'
  | [], hq => fun W1 h1 => hq W1 (h.trans h1)
  | x :: r, hq => ⟨hq.1, hq.2.1, fun W1 vs h1 hm hv => hq.2.2 W1 vs (h.trans h1) hm fun N1 k1 k2 => hv N1 k1 fun b hb => Nat.lt_of_lt_of_le (k2 b hb) h.size⟩
theorem RW.at {P : Program} {L : Nat} {ps : Array Tmp} {as bd : Code} {a : Act} {w : World} {N : Nat → Prop} {Q : Exit → World → Prop} {W : World} {xs : List (List DV)} {k : Nat} {x : List DV} (hx : xs[k]? = some x) (h : RW P L ps as bd a w N Q (xs.drop k) W) : RW P L ps as bd a w N Q (x :: xs.drop (k + 1)) W := by
  have : xs.drop k = x :: xs.drop (k + 1) := by
    obtain ⟨hlt, rfl⟩ := List.getElem?_eq_some_iff.1 hx
    exact List.drop_eq_getElem_cons hlt
  rwa [this] at h
theorem foldl_put_size {l : List (Tmp × Value)} : ∀ {t : Array Value}, (l.foldl (fun t (p : Tmp × Value) => t.setIfInBounds p.1 p.2) t).size = t.size := by
  induction l with
  | nil => intro t; rfl
  | cons x l ih => intro t; rw [List.foldl_cons, ih]; simp
theorem roundAct_size {ps : Array Tmp} {a : Act} {vs : List Value} : (roundAct ps a vs).tmps.size = a.tmps.size := by
  unfold roundAct
  dsimp only
  rw [← Array.foldl_toList]
  exact foldl_put_size
def jumpOf : Exit → Option Code
  | .ret => some .ret
  | .exit id => some (.exit id)
  | _ => none
theorem each_wp {gf : FuncId} {sq : List DV → Option (List (List DV))} (hseq : SeqOK C.P gf sq) {cap : List DV} {xs : List (List DV)} (hsq : sq cap = some xs) (himm : DV.imms cap = true) {g : Operand} {ps : Array Tmp} {as bd : Code} {a : Act} {w : World} {lb : Array Value} (hge : a.eval g = .func (.func gf) #[] lb)
    {N0 : Nat → Prop} {φ φ1 : Phi} {H H1 : Heap} {m m1 n lo : Nat} (hcap : RepL w (Nn N0 φ H) φ cap lb.toList) (hmk : Marks lo w w.heap.size a.defers) (hlo : lo ≤ w.heap.size) (hsz : a.tmps.size = n) (hrel : HeapRel w N0 φ H) (B : Back N0 w φ H m w φ1 H1 m1) {keep : Env} {e : Ex} {env : Env} {H' : Heap} {m' : Nat}
    (hrounds : ∀ (W : World) (φ' : Phi) (L : Nat), Back N0 w φ H m W φ' H1 m1 → EnvRel keep a W (Nn N0 φ' H1) φ' → EnvIn keep n → w.heap.size ≤ L → MarkAt W L → RW C.P L ps as bd a w (Nn N0 φ H) (PostR C N0 w φ H m n e env H' m' a) xs W)
    (hk : EnvRel keep a w (Nn N0 φ1 H1) φ1) (hki : EnvIn keep n) :
    (Code.rangeFunc g ps as bd).wpIn (wf none) 0 C.P (Post C N0 w φ H m n lo e env H' m') a w := by
  refine wpIn_rangeFunc ?_
  intro fn hfn
  obtain ⟨rec, hrec⟩ : ∃ rec : LoopState → Option Code → Loop, rec = fun st pe => { state := st, pending := pe, fn, tmps := a.tmps, params := ps, assign := as, body := bd, defers := w.heap.size } := ⟨_, rfl⟩
  obtain ⟨W1, hW1⟩ : ∃ W1, (w.alloc (.deferred (some []))).alloc (.loop (rec .ready none)) = W1 := ⟨_, rfl⟩
  have hL1 : W1.heap[w.heap.size + 1]? = some (.loop (rec .ready none)) := by
    rw [← hW1]; have := World.alloc_heap_new (w.alloc (.deferred (some []))) (.loop (rec .ready none)); rwa [World.size_alloc] at this
  have hK1 : W1.heap[w.heap.size]? = some (.deferred (some [])) := by
    rw [← hW1]; exact (Go.RowKit.Below.heap_alloc _ _ _ (by simp)).trans (World.alloc_heap_new w _)
  have hold : ∀ b, b < w.heap.size → W1.heap[b]? = w.heap[b]? := fun b hb => by
    rw [← hW1]; exact (Go.RowKit.Below.heap_alloc _ _ _ (by simp; omega)).trans (Go.RowKit.Below.heap_alloc _ _ _ hb)
  have hs1 : w.heap.size + 2 ≤ W1.heap.size := by rw [← hW1]; simp
  have hg1 : GrownX (w.heap.size + 1) w W1 := ⟨by rw [← hW1]; rfl, by rw [← hW1]; rfl, by rw [← hW1]; rfl, by omega, fun b hb _ => hold b hb⟩
  have hlat : ∀ (N : Nat → Prop) (φ : Phi), Later w N φ W1 N φ := fun N φ => ⟨by omega, fun b hb _ => hold b hb, fun _ _ h => h, fun _ _ h => .inl h⟩
  have B1 : Back N0 w φ H m W1 φ1 H1 m1 := by
    refine ⟨hg1.os, hg1.tape, hg1.output, hg1.size, fun b hb _ => hold b hb, fun b hb ho => B.own b hb ho, B.keep, B.old, ⟨B.rel.gone, fun id blk hb => ?_, B.rel.apart, B.rel.out, fun b hb => Nat.lt_of_lt_of_le (B.rel.lim b hb) hg1.size⟩, B.tail, B.le⟩
    obtain ⟨pb, k1, k2⟩ := B.rel.here id blk hb
    exact ⟨pb, k1, k2.later (hlat _ _) (hold _ k2.lt)⟩
  have hRW := hrounds W1 φ1 (w.heap.size + 1) B1 (hk.later (hlat _ _)) hki (by omega) ⟨_, hL1, rfl⟩
  have hcap' : RepL w (Nn N0 φ H) (fun _ => none) cap lb.toList := hcap.imm himm
  refine ⟨w.heap.size + 1, [{ target := .collected w.heap.size, args := #[] }], W1, { target := .fn (.func gf) lb, args := #[.func (.yield (w.heap.size + 1)) #[] #[]] }, W1, gf,
    #[.func (.yield (w.heap.size + 1)) #[] #[]] ++ lb, W1, ?_, ?_, ?_, ?_, fun h => (by cases h), ?_⟩
  · rw [← hW1, hrec]; exact run_enterLoop_outer _ _ _ _ _
  · simp only [resolve, hge]
    simp [go_sem]
  · intro f' hf'; trivial
  · simp [invoke, go_sem, hseq.enters]
  · have fin : ∀ (jump : Option Code) (W3 : World), W3.heap[w.heap.size + 1]? = some (.loop { rec .ready none with state := .busy }) →
          (Instr.endRound (w.heap.size + 1) jump).run C.P W3 = .ok (.bool jump.isNone) (W3.putObj (w.heap.size + 1) (.loop (rec (if jump.isNone then .ready else .done) jump))) ∧
          (W3.putObj (w.heap.size + 1) (.loop (rec (if jump.isNone then .ready else .done) jump))).heap[w.heap.size + 1]? = some (.loop (rec (if jump.isNone then .ready else .done) jump)) := fun jump W3 hl3 => by
      have := run_endRound (P := C.P) jump hl3
      rw [hrec] at this ⊢
      exact ⟨this, World.putObj_heap_same (Array.getElem?_eq_some_iff.1 hl3).1⟩
    have hcall := hseq.tells cap xs hsq w (Nn N0 φ H) lb.toList hcap' (w.heap.size + 1)
      (fun k W => RW C.P (w.heap.size + 1) ps as bd a w (Nn N0 φ H) (PostR C N0 w φ H m n e env H' m' a) (xs.drop k) W ∧ Stay (Nn N0 φ H) w W ∧ W.heap[w.heap.size + 1]? = some (.loop (rec .ready none)) ∧ W.heap[w.heap.size]? = some (.deferred (some [])))
      (fun W => ∃ x c, jumpOf x = some c ∧ (∀ W4, GrownX (w.heap.size + 1) W W4 → PostR C N0 w φ H m n e env H' m' a x W4) ∧ W.heap[w.heap.size + 1]? = some (.loop (rec .done (some c))) ∧ W.heap[w.heap.size]? = some (.deferred (some [])))
      (fun k W h => h.2.1) ?_ W1 ⟨hRW, B1.stay, hL1, hK1⟩
    · refine (calls_wf (ro := none) hcall).mono ?_
      rintro en W2 ⟨⟨v, rfl⟩, h⟩
      have marks : ∀ {x : Exit} {W4 : World}, W4.heap[w.heap.size]? = some (.deferred (some [])) → PostR C N0 w φ H m n e env H' m' a x W4 → Post C N0 w φ H m n lo e env H' m' x { a with defers := { target := .collected w.heap.size, args := #[] } :: a.defers } W4 := by
        rintro x W4 hk4 ⟨q1, φ', q2, q3, q4⟩
        refine ⟨q1, ⟨w.heap.size, hlo, (Array.getElem?_eq_some_iff.1 hk4).1, rfl, hk4, hmk.mono fun D hD => q2.mark hrel hD rfl⟩, hsz, φ', q2, q3, q4⟩
      rcases h with ⟨Wp, ⟨hR, _, hl, hk⟩, hgr⟩ | ⟨Wp, ⟨x, c, hx, hR, hl, hk⟩, hgr⟩
      · have hlt := (Array.getElem?_eq_some_iff.1 hl).1
        have hl2 : W2.heap[w.heap.size + 1]? = some (.loop (rec .ready none)) := (hgr.same _ hlt).trans hl
        have hk2 : W2.heap[w.heap.size]? = some (.deferred (some [])) := (hgr.same _ (by omega)).trans hk
        refine ⟨none, _, by have := run_endLoop (P := C.P) hl2 (by rw [hrec]; simp); rw [hrec] at this; exact this, ?_⟩
        rw [List.drop_length] at hR
        exact marks ((World.putObj_heap_other (by omega)).trans hk2) (hR _ ((hgr.toX _).trans (GrownX.put _ _ _)))
      · have hlt := (Array.getElem?_eq_some_iff.1 hl).1
        have hl2 : W2.heap[w.heap.size + 1]? = some (.loop (rec .done (some c))) := (hgr.same _ hlt).trans hl
        have hk2 : W2.heap[w.heap.size]? = some (.deferred (some [])) := (hgr.same _ (by omega)).trans hk
        refine ⟨some c, _, by have := run_endLoop (P := C.P) hl2 (by rw [hrec]; simp); rw [hrec] at this; exact this, ?_⟩
        have hfin := marks (x := x) ((World.putObj_heap_other (by omega)).trans hk2) (hR _ ((hgr.toX _).trans (GrownX.put _ _ (.loop { rec .done (some c) with state := .exhausted }))))
        cases x with
        | ret =>
          simp only [jumpOf, Option.some.injEq] at hx
          subst hx
          exact wpIn_ret (by rw [hrec] at hfin; exact hfin)
        | exit id =>
          simp only [jumpOf, Option.some.injEq] at hx
          subst hx
          exact wpIn_exit (by rw [hrec] at hfin; exact hfin)
        | _ => cases hx
    ·
      rintro k x W Wg vs hx ⟨hR, hst, hl, hkd⟩ hgr hv
      have hR' := RW.at hx hR
      obtain ⟨hxl, hxi, hbody⟩ := hR'
      have hlt := (Array.getElem?_eq_some_iff.1 hl).1
      have hl1 : Wg.heap[w.heap.size + 1]? = some (.loop (rec .ready none)) := (hgr.same _ hlt).trans hl
      have hk1 : Wg.heap[w.heap.size]? = some (.deferred (some [])) := (hgr.same _ (by omega)).trans hkd
      have hvl : vs.length = x.length := (hv (fun _ => False) (fun _ _ h => h.elim) (fun _ h => h.elim)).len
      have hy := run_yield (P := C.P) (args := vs.toArray) hl1 (by rw [hrec]; simp [hvl, hxl])
      rw [hrec] at hy
      refine ⟨fn, _, as, bd, hy, roundIn_of_wpIn (F := Fence.wide) hfn ?_⟩
      refine wpIn_mono (hbody Wg vs (hgr.toX _) ⟨_, hl1, rfl⟩ hv) ?_
      rintro e1 a1 W2 hp
      cases e1 with
      | normal =>
        obtain ⟨hf1, hb2⟩ := hp
        have hl2 := hf1 _ _ hl1 rfl
        have hk2 := hf1 _ _ hk1 rfl
        refine ⟨_, run_beginRound hl2 (by rw [hrec]), ?_⟩
        have hl3 : (W2.putObj (w.heap.size + 1) (.loop { rec .ready none with state := .busy })).heap[w.heap.size + 1]? = some (.loop { rec .ready none with state := .busy }) := World.putObj_heap_same (Array.getElem?_eq_some_iff.1 hl2).1
        have hk3 : (W2.putObj (w.heap.size + 1) (.loop { rec .ready none with state := .busy })).heap[w.heap.size]? = some (.deferred (some [])) := (World.putObj_heap_other (by omega)).trans hk2
        refine wpIn_mono (hb2 _ (GrownX.put _ _ _) ⟨_, hl3, rfl⟩) ?_
        rintro e2 a3 W3 ⟨hf3, hst3, hp3⟩
        have hl4 := hf3 _ _ hl3 rfl
        have hk4 := hf3 _ _ hk3 rfl
        have stay : ∀ o, Stay (Nn N0 φ H) w (W3.putObj (w.heap.size + 1) o) := fun o => ⟨by rw [World.putObj_size]; exact hst3.size, fun b hb hn => (World.putObj_heap_other (by omega)).trans (hst3.same b hb hn)⟩
        cases e2 with
        | normal =>
          obtain ⟨hr, hl5⟩ := fin none W3 hl4
          exact ⟨_, _, hr, .inl ⟨rfl, RW.grown (GrownX.put _ _ _) hp3, stay _, hl5, (World.putObj_heap_other (by omega)).trans hk4⟩⟩
        | ret =>
          obtain ⟨hr, hl5⟩ := fin (some .ret) W3 hl4
          exact ⟨_, _, hr, .inr ⟨rfl, .ret, _, rfl, fun W4 h4 => hp3 W4 ((GrownX.put _ _ _).trans h4), hl5, (World.putObj_heap_other (by omega)).trans hk4⟩⟩
        | exit id =>
          obtain ⟨hr, hl5⟩ := fin (some (.exit id)) W3 hl4
          exact ⟨_, _, hr, .inr ⟨rfl, .exit id, _, rfl, fun W4 h4 => hp3 W4 ((GrownX.put _ _ _).trans h4), hl5, (World.putObj_heap_other (by omega)).trans hk4⟩⟩
        | goto l => exact hp3.elim
        | panic ch => exact hp3.elim
        | outgrown => exact hp3.elim
      | exit id => exact hp.elim
      | goto t => exact hp.elim
      | ret => exact hp.elim
      | panic chain => exact hp.elim
      | outgrown => exact hp.elim
theorem runC_sound (hrec : ∀ g args hs v hs', rec (.call g args hs) = some (.done v hs') → CallOK C g args hs v hs') (hloop : ∀ f p m vals hs e vals' hs', rec (.loop f p m vals hs) = some (.left e vals' hs') → LoopOK C f p m vals hs e vals' hs')
    (heach : ∀ f p m xs vals hs e vals' hs', rec (.each f p m xs vals hs) = some (.left e vals' hs') → EachOK C f p m xs vals hs e vals' hs') (hseqs : SeqsOK C) (hext : ExtOK C) (hb : BodyOK C) (hmix : C.P.follows .mixedOrders = true) {f : FuncId} {fn : Func} {c0 : Code} (hf : C.P.funcs[f]? = some fn) (hbody : fn.body = some c0) (hck : checkCode fn.ntmps c0 = true) {N0 : Nat → Prop} {n : Nat} (hn : fn.ntmps ≤ n) (lo : Nat) (ro : Option Nat) :
    ∀ (c : Code) {p : List Bool} {l : Live} {s s' : St} {e : Ex} {a : Act} {w : World} {φ : Phi}, codeAt c0 (Func.live fn) p = some (c, l) → C.runC rec f p l c s = some (e, s') → (ro ≠ none → noEach c = true) → Marks lo w w.heap.size a.defers → lo ≤ w.heap.size →
      a.tmps.size = n → (∀ k, s.top ≤ k → φ k = none) → s.base ≤ s.top → HeapRel w N0 φ s.heap → EnvRel s.env a w (Nn N0 φ s.heap) φ → EnvIn s.env n → GlobRel C w (Nn N0 φ s.heap) →
      s'.base = s.base ∧ c.wpIn (wf ro) 0 C.P (Post C N0 w φ s.heap s.base n lo e s'.env s'.heap s'.top) a w
  | .skip, p, l, s, s', e, a, w, φ, hat, h, hro, hmk, hlo, hsz, htop, hle, hrel, henv, hin, hg => by
    unfold Cfg.runC at h
    simp only [Option.some.injEq, Prod.mk.injEq] at h
    obtain ⟨rfl, rfl⟩ := h
    exact ⟨rfl, wpIn_skip ⟨trivial, hmk, hsz, φ, Back.refl hrel htop hle, henv, hin⟩⟩
  | .region id ops d, p, l, s, s', e, a, w, φ, hat, h, hro, hmk, hlo, hsz, htop, hle, hrel, henv, hin, hg => by
    unfold Cfg.runC at h
    obtain ⟨s1, h1, h2⟩ := Option.map_eq_some_iff.1 h
    simp only [Prod.mk.injEq] at h2
    obtain ⟨rfl, rfl⟩ := h2
    unfold Cfg.runRegion at h1
    obtain ⟨s2, h2, rfl⟩ := Option.map_eq_some_iff.1 h1
    have hchk := codeAt_check hck hat
    simp only [checkCode, checkRegion, Bool.and_eq_true, Bool.or_eq_true, Bool.not_eq_true'] at hchk
    have hdst : ∀ (i : Nat) (o : Oper) (d : Nat), ops[i]? = some o → o.dst = some d → d < n := fun i o d ho hd => by
      have := Array.all_eq_true'.1 hchk.1 o (Array.mem_of_getElem? ho)
      rw [hd, Bool.and_eq_true] at this
      exact Nat.lt_of_lt_of_le (of_decide_eq_true this.1) hn
    have hnd : ∀ (i : Nat) (o : Oper), ops[i]? = some o → ∀ c, o.op ≠ .defer c := fun i o ho c hc => by
      have := Array.all_eq_true'.1 hchk.1 o (Array.mem_of_getElem? ho)
      rw [hc, Bool.and_eq_true] at this
      exact absurd this.2 (by simp [isDefer])
    have hlet : ∀ env H m', ¬ LetsOut (Post C N0 w φ s.heap s.base n lo .normal env H m') := fun env H m' ⟨a, w, h⟩ => h.1.elim
    have main : ∀ (l : List Nat) (w0 : World), Chain C rec ops l s s2 → l.Nodup → (∀ i ∈ l, i < ops.size) → w0.heap = w.heap → w0.os = w.os → w0.tape = w.tape → w0.output = w.output →
        s2.base = s.base ∧ wpOps C.P ops (Post C N0 w φ s.heap s.base n lo .normal s2.env s2.heap (s.top + ops.size * wide)) l a w0 := by
      intro l w0 hchain hnd hlt e1 e2 e3 e4
      have L0 : Later w (Nn N0 φ s.heap) φ w0 (Nn N0 φ s.heap) φ := ⟨by rw [e1]; exact Nat.le_refl _, fun b _ _ => by rw [e1], fun b _ h => h, fun _ q h => .inl h⟩
      have hrel0 : HeapRel w0 N0 φ s.heap := ⟨hrel.gone, fun i b hb => by
        obtain ⟨pb, k1, k2⟩ := hrel.here i b hb
        exact ⟨pb, k1, k2.later L0 (by rw [e1])⟩, hrel.apart, hrel.out, fun b hb => by rw [e1]; exact hrel.lim b hb⟩
      have hb2 : s2.base = s.base := chain_base hchain
      refine ⟨hb2, chain_sound hrec hext hb hdst hchain hnd hlt hsz hrel0 (henv.later L0) hin (hg.later L0) (fun i hi j hj _ => htop j (by omega)) (fun j hj => htop j (by omega)) fun a' w' φ' k1 k2 k3 k4 k5 k6 k7 k8 k9 => ?_⟩
      have B := Back.of_step (m := s.base) k3 k9 (by omega)
      refine ⟨trivial, ?_, k2, φ', ?_, k4, k5⟩
      · rw [k1]
        exact B.marks hrel0 ((hmk.mono fun D hD => by rw [e1]; exact hD).up (by rw [e1]; exact Nat.le_refl _))
      exact ⟨B.os.trans e2, B.tape.trans e3, B.output.trans e4, by rw [← e1]; exact B.size, fun b hb hn => by rw [← e1] at hb ⊢; exact B.same b hb hn, fun b hb => by rw [← e1] at hb; exact B.own b hb, B.keep, fun i pb hp hb => by rw [← e1] at hb; exact B.old i pb hp hb, B.rel, B.tail, B.le⟩
    cases d with
    | false =>
      simp only [Bool.false_eq_true, if_false] at h2
      obtain ⟨k1, k2⟩ := main (List.range ops.size) w (runOps_chain h2) List.nodup_range (fun i hi => by simpa using hi) rfl rfl rfl rfl
      exact ⟨k1, wpIn_region (ops_in (hlet _ _ _) hnd _ _ _ k2)⟩
    | true =>
      simp only [if_true] at h2
      have hd : drawOK ops = true := hchk.2.resolve_left (by simp)
      refine ⟨(main (Region.schedule true ops 0) w (runOpsD_chain (order_sound hd h2 0).1) (order_sound hd h2 0).2.1 (order_sound hd h2 0).2.2 rfl rfl rfl rfl).1, wpIn_region_draw fun t => ?_⟩
      rw [hmix]
      obtain ⟨k1, k2, k3⟩ := order_sound hd h2 t
      exact ops_in (hlet _ _ _) hnd _ _ _ (main _ { w with drawn := w.drawn + 1 } (runOpsD_chain k1) k2 k3 rfl rfl rfl rfl).2
  | .seq x y, p, l, s, s', e, a, w, φ, hat, h, hro, hmk, hlo, hsz, htop, hle, hrel, henv, hin, hg => by
    unfold Cfg.runC at h
    have hro1 : ro ≠ none → noEach x = true := fun hr => by have := hro hr; simp only [noEach, Bool.and_eq_true] at this; exact this.1
    have hro2 : ro ≠ none → noEach y = true := fun hr => by have := hro hr; simp only [noEach, Bool.and_eq_true] at this; exact this.2
    have hat1 : codeAt c0 (Func.live fn) (false :: p) = some (x, { l with normal := liveIn y l }) := by simp only [codeAt, hat]; rfl
    have hat2 : codeAt c0 (Func.live fn) (true :: p) = some (y, l) := by simp only [codeAt, hat]; rfl
    split at h
    · rename_i s1 h1
      obtain ⟨k1, k2⟩ := runC_sound hrec hloop heach hseqs hext hb hmix hf hbody hck hn lo ro x hat1 h1 hro1 hmk hlo hsz htop hle hrel henv hin hg
      have hfin : ∀ a1 w1, Post C N0 w φ s.heap s.base n lo .normal s1.env s1.heap s1.top .normal a1 w1 → s'.base = s.base ∧ y.wpIn (wf ro) 0 C.P (Post C N0 w φ s.heap s.base n lo e s'.env s'.heap s'.top) a1 w1 := by
        rintro a1 w1 ⟨_, d1, d2, φ1, B, e1, e2⟩
        obtain ⟨k3, k4⟩ := runC_sound hrec hloop heach hseqs hext hb hmix hf hbody hck hn lo ro y hat2 h hro2 d1 (Nat.le_trans hlo B.size) d2 B.tail (by rw [k1]; exact B.le) B.rel e1 e2 (hg.back B)
        rw [k1] at k4
        exact ⟨k3.trans k1, wpIn_mono k4 fun x a w hp => hp.back B⟩
      refine ⟨?_, wpIn_seq (wpIn_mono k2 fun x1 a1 w1 hp => ?_)⟩
      · obtain ⟨e1, a1, w1, hp, _⟩ := k2 { (default : Frame) with roundOf := ro } [] [] rfl trivial (room_wide _)
        cases e1 with
        | normal => exact (hfin a1 w1 hp).1
        | exit id => exact hp.1.elim
        | goto l => exact hp.1.elim
        | ret => exact hp.1.elim
        | panic ch => exact hp.1.elim
        | outgrown => exact hp.1.elim
      · cases x1 with
        | normal => exact (hfin a1 w1 hp).2
        | exit id => exact hp.1.elim
        | goto l => exact hp.1.elim
        | ret => exact hp.1.elim
        | panic ch => exact hp.1.elim
        | outgrown => exact hp.1.elim
    · rename_i hne
      obtain ⟨k1, k2⟩ := runC_sound hrec hloop heach hseqs hext hb hmix hf hbody hck hn lo ro x hat1 h hro1 hmk hlo hsz htop hle hrel henv hin hg
      refine ⟨k1, wpIn_seq (wpIn_mono k2 fun x1 a1 w1 hp => ?_)⟩
      cases x1 with
      | normal =>
        cases e with
        | normal => exact absurd h (hne s')
        | exit id => exact hp.1.elim
        | ret => exact hp.1.elim
      | exit id => exact hp
      | goto l => exact hp
      | ret => exact hp
      | panic ch => exact hp
      | outgrown => exact hp
  | .cond q x y, p, l, s, s', e, a, w, φ, hat, h, hro, hmk, hlo, hsz, htop, hle, hrel, henv, hin, hg => by
    unfold Cfg.runC at h
    have hro1 : ro ≠ none → noEach x = true := fun hr => by have := hro hr; simp only [noEach, Bool.and_eq_true] at this; exact this.1
    have hro2 : ro ≠ none → noEach y = true := fun hr => by have := hro hr; simp only [noEach, Bool.and_eq_true] at this; exact this.2
    have hat1 : codeAt c0 (Func.live fn) (false :: p) = some (x, l) := by simp only [codeAt, hat]; rfl
    have hat2 : codeAt c0 (Func.live fn) (true :: p) = some (y, l) := by simp only [codeAt, hat]; rfl
    split at h
    · rename_i t ht
      have hq := evalOp_rel (C := C) henv (fun _ _ h => h) hg q _ ht
      unfold Rep at hq
      cases t with
      | true =>
        simp only [if_true] at h
        obtain ⟨k1, k2⟩ := runC_sound hrec hloop heach hseqs hext hb hmix hf hbody hck hn lo ro x hat1 h hro1 hmk hlo hsz htop hle hrel henv hin hg
        exact ⟨k1, wpIn_cond_true hq k2⟩
      | false =>
        simp only [Bool.false_eq_true, if_false] at h
        obtain ⟨k1, k2⟩ := runC_sound hrec hloop heach hseqs hext hb hmix hf hbody hck hn lo ro y hat2 h hro2 hmk hlo hsz htop hle hrel henv hin hg
        exact ⟨k1, wpIn_cond_false hq k2⟩
    · cases h
  | .block id x, p, l, s, s', e, a, w, φ, hat, h, hro, hmk, hlo, hsz, htop, hle, hrel, henv, hin, hg => by
    unfold Cfg.runC at h
    have hro1 : ro ≠ none → noEach x = true := fun hr => by have := hro hr; simpa only [noEach] using this
    have hat1 : codeAt c0 (Func.live fn) (false :: p) = some (x, { l with exits := (id, l.normal) :: l.exits }) := by simp only [codeAt, hat]
    split at h
    · rename_i j s1 h1
      obtain ⟨k1, k2⟩ := runC_sound hrec hloop heach hseqs hext hb hmix hf hbody hck hn lo ro x hat1 h1 hro1 hmk hlo hsz htop hle hrel henv hin hg
      split at h
      · rename_i hj
        simp only [Option.some.injEq, Prod.mk.injEq] at h
        obtain ⟨rfl, rfl⟩ := h
        refine ⟨k1, wpIn_block (wpIn_mono k2 fun x1 a1 w1 hp => ?_)⟩
        cases x1 with
        | exit i =>
          have : j = i := hp.1
          subst this
          simp only [Exit.inBlock, hj, if_true]
          exact ⟨trivial, hp.2⟩
        | normal => exact hp.1.elim
        | goto l => exact hp.1.elim
        | ret => exact hp.1.elim
        | panic ch => exact hp.1.elim
        | outgrown => exact hp.1.elim
      · rename_i hj
        simp only [Option.some.injEq, Prod.mk.injEq] at h
        obtain ⟨rfl, rfl⟩ := h
        refine ⟨k1, wpIn_block (wpIn_mono k2 fun x1 a1 w1 hp => ?_)⟩
        cases x1 with
        | exit i =>
          have : j = i := hp.1
          subst this
          simp only [Exit.inBlock, hj, if_false]
          exact hp
        | normal => exact hp.1.elim
        | goto l => exact hp.1.elim
        | ret => exact hp.1.elim
        | panic ch => exact hp.1.elim
        | outgrown => exact hp.1.elim
    · rename_i hne
      obtain ⟨k1, k2⟩ := runC_sound hrec hloop heach hseqs hext hb hmix hf hbody hck hn lo ro x hat1 h hro1 hmk hlo hsz htop hle hrel henv hin hg
      refine ⟨k1, wpIn_block (wpIn_mono k2 fun x1 a1 w1 hp => ?_)⟩
      cases x1 with
      | exit i =>
        cases e with
        | exit j => exact absurd h (hne j s')
        | normal => exact hp.1.elim
        | ret => exact hp.1.elim
      | normal => exact hp
      | goto l => exact hp
      | ret => exact hp
      | panic ch => exact hp
      | outgrown => exact hp
  | .loop b, p, l, s, s', e, a, w, φ, hat, h, hro, hmk, hlo, hsz, htop, hle, hrel, henv, hin, hg => by
    unfold Cfg.runC at h
    dsimp only at h
    split at h
    · cases h
    · rename_i vals hs hp
      split at h
      · rename_i e1 vals' hs' hr
        simp only [Option.some.injEq, Prod.mk.injEq] at h
        obtain ⟨rfl, rfl⟩ := h
        obtain ⟨ids, hnd, hpre, rfl, rfl⟩ := pack_some hp
        have B := pack_back hrel hnd hpre
        have hL := hloop _ _ _ _ _ _ _ _ hr fn c0 b l hf hbody hck hat ro lo a w N0 (phiOf ids φ) n (fun hr => by have := hro hr; simpa only [noEach] using this) hmk hlo hsz hn B.tail B.le B.rel (fun t d hd => by
          obtain ⟨d0, h1, rfl⟩ := envOf_pack hd
          exact (henv t d0 h1).ren pack_sub (place_phi ids φ)) (fun t d hd => by
          obtain ⟨d0, h1, rfl⟩ := envOf_pack hd
          exact hin t d0 h1) (hg.back B)
        exact ⟨rfl, (hL.mono fun x a1 w1 hp => hp.back B).wp⟩
      · cases h
  | .exit id, p, l, s, s', e, a, w, φ, hat, h, hro, hmk, hlo, hsz, htop, hle, hrel, henv, hin, hg => by
    unfold Cfg.runC at h
    simp only [Option.some.injEq, Prod.mk.injEq] at h
    obtain ⟨rfl, rfl⟩ := h
    exact ⟨rfl, wpIn_exit ⟨rfl, hmk, hsz, φ, Back.refl hrel htop hle, henv, hin⟩⟩
  | .ret, p, l, s, s', e, a, w, φ, hat, h, hro, hmk, hlo, hsz, htop, hle, hrel, henv, hin, hg => by
    unfold Cfg.runC at h
    simp only [Option.some.injEq, Prod.mk.injEq] at h
    obtain ⟨rfl, rfl⟩ := h
    exact ⟨rfl, wpIn_ret ⟨trivial, hmk, hsz, φ, Back.refl hrel htop hle, henv, hin⟩⟩
  | .rangeFunc g ps as bd, p, l, s, s', e, a, w, φ, hat, h, hro, hmk, hlo, hsz, htop, hle, hrel, henv, hin, hg => by
    have hro0 : ro = none := by
      cases ro with
      | none => rfl
      | some r => exact absurd (hro (by simp)) (by simp [noEach])
    subst hro0
    unfold Cfg.runC at h
    split at h
    · rename_i xs vals hs hsq hp
      split at h
      · rename_i e1 vals' hs' hr
        simp only [Option.some.injEq, Prod.mk.injEq] at h
        obtain ⟨rfl, rfl⟩ := h
        obtain ⟨ids, hnd, hpre, rfl, rfl⟩ := pack_some hp
        have B := pack_back hrel hnd hpre
        unfold Cfg.seqOf at hsq
        split at hsq
        · rename_i gf cap hgv
          split at hsq
          · rename_i sq hsq0
            split at hsq
            · rename_i himm
              have hgr := evalOp_rel (C := C) henv (fun _ _ h => h) hg g _ hgv
              unfold Rep at hgr
              obtain ⟨lb, hge, hcap⟩ := hgr
              have hse := heach _ _ _ _ _ _ _ _ _ hr fn c0 as bd g ps l hf hbody hck hat
              exact ⟨rfl, each_wp (hseqs gf sq hsq0) hsq himm hge hcap hmk hlo hsz hrel B (fun W φ' L B2 he hi hL hm => hse a w N0 φ s.heap W φ' n L hsz hn B2 he hi hg hL hm) (fun t d hd => by
                obtain ⟨d0, h1, rfl⟩ := envOf_pack hd
                exact (henv t d0 h1).ren pack_sub (place_phi ids φ)) (fun t d hd => by
                obtain ⟨d0, h1, rfl⟩ := envOf_pack hd
                exact hin t d0 h1)⟩
            · cases hsq
          · cases hsq
        · cases hsq
      · cases h
    · cases h
  | .scope x, p, l, s, s', e, a, w, φ, hat, h, hro, hmk, hlo, hsz, htop, hle, hrel, henv, hin, hg => by
    unfold Cfg.runC at h
    have hro1 : ro ≠ none → noEach x = true := fun hr => by have := hro hr; simpa only [noEach] using this
    have hat1 : codeAt c0 (Func.live fn) (false :: p) = some (x, l) := by simp only [codeAt, hat]
    obtain ⟨k1, k2⟩ := runC_sound hrec hloop heach hseqs hext hb hmix hf hbody hck hn lo ro x hat1 h hro1 hmk hlo hsz htop hle hrel henv hin hg
    refine ⟨k1, wpIn_scope (wpIn_mono k2 fun x1 a1 w1 hp => ?_)⟩
    cases x1 with
    | goto t => exact (by cases e <;> exact hp.1.elim)
    | normal => exact hp
    | exit id => exact hp
    | ret => exact hp
    | panic ch => exact hp
    | outgrown => exact hp
  | .label t, p, l, s, s', e, a, w, φ, hat, h, hro, hmk, hlo, hsz, htop, hle, hrel, henv, hin, hg => by
    unfold Cfg.runC at h
    simp only [Option.some.injEq, Prod.mk.injEq] at h
    obtain ⟨rfl, rfl⟩ := h
    exact ⟨rfl, wpIn_label ⟨trivial, hmk, hsz, φ, Back.refl hrel htop hle, henv, hin⟩⟩
  | .goto .., p, l, s, s', e, a, w, φ, hat, h, hro, hmk, hlo, hsz, htop, hle, hrel, henv, hin, hg => by unfold Cfg.runC at h; cases h
  | .refuse .., p, l, s, s', e, a, w, φ, hat, h, hro, hmk, hlo, hsz, htop, hle, hrel, henv, hin, hg => by unfold Cfg.runC at h; cases h
end
end Go.PM
end
section
namespace Go.PM
open Go
set_option linter.unusedVariables false
structure CfgOK (C : Cfg) : Prop where
  body : BodyOK C
  ext : ExtOK C
  mixed : C.P.follows .mixedOrders = true
  seqs : SeqsOK C
  code : ∀ f fn c, C.mode f ≠ none → C.P.funcs[f]? = some fn → fn.body = some c → checkCode fn.ntmps c = true
def Motive (C : Cfg) : Req → Res → Prop
  | .call f args hs, .done v hs' => CallOK C f args hs v hs'
  | .loop f p m vals hs, .left e vals' hs' => LoopOK C f p m vals hs e vals' hs'
  | .each f p m xs vals hs, .left e vals' hs' => EachOK C f p m xs vals hs e vals' hs'
  | _, _ => False
section
variable {C : Cfg} {rec : Req → Option Res}
theorem loadAt_some {t : TypeId} {v x : Value} {w : World} (h : (Instr.loadAt t v).run C.P w = .ok x w) : ∃ a, v = .pointer (some a) ∧ (loadVar t a).run C.P w = .ok x w := by
  cases v with
  | pointer p =>
    cases p with
    | some a => exact ⟨a, rfl, by simpa [Instr.loadAt, Instr.sureAddr] using h⟩
    | none => simp [Instr.loadAt, Instr.sureAddr] at h
  | _ => simp [Instr.loadAt, Instr.sureAddr] at h
def resV (tmps : Array Value) : ResultVar → Sem Value
  | .tmp t => pure (tmps.getD t undef)
  | .cell a t => do loadVar t (← asAddr (tmps.getD a undef))
theorem results_list {N0 : Nat → Prop} {w : World} {φ : Phi} {s : St} {a : Act} (hrel : HeapRel w N0 φ s.heap) (henv : EnvRel s.env a w (Nn N0 φ s.heap) φ) : ∀ {l : List ResultVar} {vs : List DV},
    mapO (C.resD s) l = some vs → ∃ xs, RepL w (Nn N0 φ s.heap) φ vs xs ∧ (l.mapM (resV a.tmps)).run C.P w = .ok xs w
  | [], vs, h => by
    simp only [mapO, Option.some.injEq] at h; subst h
    exact ⟨[], by unfold RepL; rfl, rfl⟩
  | r :: l, vs, h => by
    simp only [mapO] at h
    split at h
    · rename_i d ds h1 h2
      simp only [Option.some.injEq] at h; subst h
      obtain ⟨xs, h3, h4⟩ := results_list hrel henv h2
      have head : ∃ x, Rep w (Nn N0 φ s.heap) φ d x ∧ (resV a.tmps r).run C.P w = .ok x w := by
        cases r with
        | tmp t => exact ⟨_, henv t d h1, rfl⟩
        | cell b t =>
          simp only [Cfg.resD] at h1
          split at h1
          · rename_i p h5
            obtain ⟨x, h7, h8⟩ := loadD_sound hrel (fun _ _ h => h) (henv b p h5) h1
            obtain ⟨ad, h9, h10⟩ := loadAt_some h8
            exact ⟨x, h7, by simp only [resV, h9, asAddr, Sem.run_bind, Sem.run_pure, Result.andThen_ok, h10]⟩
          · cases h1
      obtain ⟨x, h5, h6⟩ := head
      refine ⟨x :: xs, by unfold RepL; exact ⟨x, xs, rfl, h5, h3⟩, ?_⟩
      rw [List.mapM_cons, Sem.run_bind, h6, Result.andThen_ok, Sem.run_bind, h4, Result.andThen_ok]
      rfl
    · cases h
theorem results_sound {N0 : Nat → Prop} {w : World} {φ : Phi} {s : St} {a : Act} {fn : Func} {v : DV} (hrel : HeapRel w N0 φ s.heap) (henv : EnvRel s.env a w (Nn N0 φ s.heap) φ) (h : C.results fn s = some v) :
    ∃ x, Rep w (Nn N0 φ s.heap) φ v x ∧ (results fn a.tmps).run C.P w = .ok x w := by
  unfold Cfg.results at h
  have fin : ∀ vs, mapO (C.resD s) fn.results.toList = some vs → ∃ xs : List Value, RepL w (Nn N0 φ s.heap) φ vs xs ∧ (results fn a.tmps).run C.P w = .ok (if h : xs.toArray.size = 1 then xs.toArray[0] else .tuple xs.toArray) w := by
    intro vs hvs
    obtain ⟨xs, h1, h2⟩ := results_list (C := C) hrel henv hvs
    refine ⟨xs, h1, ?_⟩
    have hres : results fn a.tmps = (do let vs ← fn.results.mapM (resV a.tmps); pure (if h : vs.size = 1 then vs[0] else .tuple vs) : Sem Value) := by
      unfold results
      congr 2
    rw [hres, Sem.run_bind, Array.mapM_eq_mapM_toList, Sem.run_map, h2]
    rfl
  split at h
  · rename_i d hvs
    simp only [Option.some.injEq] at h; subst h
    obtain ⟨xs, h1, h2⟩ := fin _ hvs
    unfold RepL at h1
    obtain ⟨x, r, rfl, h3, h4⟩ := h1
    unfold RepL at h4
    subst h4
    exact ⟨x, h3, by rw [h2]; rfl⟩
  · rename_i vs hne hvs
    simp only [Option.some.injEq] at h; subst h
    obtain ⟨xs, h1, h2⟩ := fin _ hvs
    refine ⟨.tuple xs.toArray, by unfold Rep; exact ⟨_, rfl, h1⟩, ?_⟩
    rw [h2, dif_neg]
    intro h3
    have h4 := h1.len
    have h5 : vs.length = 1 := by rw [← h4]; simpa using h3
    match vs, h5 with
    | [d], _ => exact hne d rfl
  · cases h
theorem handBack_sound {N0 : Nat → Prop} {w w' : World} {φ φ' : Phi} {H H' : Heap} {m m1 : Nat} {f : FuncId} {v r : DV} {hs' : List (Option Blk)} {x : Value} (B : Back N0 w φ H m w' φ' H' m1) (hx : Rep w' (Nn N0 φ' H') φ' v x) (h : C.handBack f m v H' = some (.done r hs')) :
    ∃ φ2, Back N0 w φ H m w' φ2 (heapOf hs') hs'.length ∧ Rep w' (Nn N0 φ2 (heapOf hs')) φ2 r x := by
  unfold Cfg.handBack at h
  split at h
  · split at h
    · rename_i hm
      subst hm
      obtain ⟨r', h1, h2⟩ := Option.map_eq_some_iff.1 h
      simp only [Res.done.injEq] at h2
      obtain ⟨rfl, rfl⟩ := h2
      refine ⟨fun _ => none, ⟨B.os, B.tape, B.output, B.size, B.same, fun b hb ⟨id, pb, blk, h1, _⟩ => (by cases h1), fun id q hid => absurd hid (by omega), fun id pb h => (by cases h), ?_, fun _ _ => rfl, Nat.le_refl _⟩, ?_⟩
      · refine ⟨fun _ _ => .inl rfl, fun id blk h => ?_, fun _ _ _ _ h => ?_, fun _ _ h => ?_, fun b hb => B.rel.lim b hb⟩
        · rw [heapOf_nil] at h
          cases h
        · cases h
        · cases h
      · refine (freeze_rep B.rel (fun _ _ h => h) (fun b hb => ?_) (fun id hid pb hp hb => ?_) h1 hx).1
        · rcases hb with hb | ⟨id, pb, blk, h1, _⟩
          · exact .inl hb
          · cases h1
        · rcases hb with hb | ⟨id, pb, blk, h1, _⟩
          · exact B.rel.out _ _ hp hb
          · cases h1
    · cases h
  · split at h
    · rename_i ids hids
      simp only [Option.some.injEq, Res.done.injEq] at h
      obtain ⟨rfl, rfl⟩ := h
      obtain ⟨h1, _, h3⟩ := collect_nodup hids List.nodup_range
      have P := pack_back (m := m) B.rel h1 h3
      exact ⟨_, B.trans P, hx.ren pack_sub (place_phi ids φ')⟩
    · cases h
  · cases h
theorem envOf_range {vals : List DV} {t : Nat} {d : DV} : ∀ {n k : Nat} {l : List DV}, n = l.length → envOf (List.range' k n) (l.map some) t = some d → k ≤ t ∧ l[t - k]? = some d
  | 0, k, l, hn, h => by simp [envOf] at h
  | n + 1, k, [], hn, h => by cases hn
  | n + 1, k, x :: l, hn, h => by
    simp only [List.range'_succ, List.map_cons, envOf] at h
    split at h
    · rename_i ht
      subst ht
      simp only [Option.some.injEq] at h
      exact ⟨Nat.le_refl _, by simp [h]⟩
    · rename_i ht
      obtain ⟨h1, h2⟩ := envOf_range (vals := vals) (by simpa using hn) h
      refine ⟨by omega, ?_⟩
      rw [show t - k = (t - (k + 1)) + 1 by omega]
      simpa using h2
theorem leaves_marks {N0 : Nat → Prop} {w0 : World} {φ φ1 : Phi} {H H1 : Heap} {m m1 lo : Nat} {fn : Func} {a : Act} {env : Env} {R : Ending → World → Prop} (hlo : w0.heap.size ≤ lo)
    (hfin : ∀ w', Back N0 w0 φ H m w' φ1 H1 m1 → EnvRel env a w' (Nn N0 φ1 H1) φ1 → ∃ v, (results fn a.tmps).run C.P w' = .ok v w' ∧ R (.returned v) w') :
    ∀ {ds : List Deferred} {hi : Nat} {w : World}, Marks lo w hi ds → Back N0 w0 φ H m w φ1 H1 m1 → EnvRel env a w (Nn N0 φ1 H1) φ1 → LeavesInM (wf none) 0 C.P fn a.tmps R ds .returning w
  | [], hi, w, hm, B, he => hfin w B he
  | d :: ds, hi, w, hm, B, he => by
    obtain ⟨D, h1, h2, rfl, h4, h5⟩ := hm
    have hX : GrownX D w (w.putObj D (.deferred none)) := GrownX.put _ _ _
    have hM : MarkAt w D := ⟨_, h4, rfl⟩
    exact ⟨by simp, .inl ⟨D, _, rfl, run_takeDeferred h4, leaves_marks hlo hfin (h5.below fun D' hD h => (World.putObj_heap_other (by omega)).trans h) (B.grown hX hM (by omega)) (he.laterC (hX.laterC hM _ _))⟩⟩
theorem foldl_put_get {l : List (Tmp × Value)} {t : Array Value} {e : Env} {w : World} {N : Nat → Prop} {φ : Phi} {x : List DV} {ps : List Tmp} {vs : List Value} (hl : l = ps.zip vs) (he : ∀ k d, e k = some d → Rep w N φ d (t.getD k undef)) (hr : RepL w N φ x vs) (hb : ∀ p ∈ ps, p < t.size) :
    ∀ k d, ((ps.zip x).foldl (fun e p => e.set (some p.1) p.2) e : Env) k = some d → Rep w N φ d ((l.foldl (fun t (p : Tmp × Value) => t.setIfInBounds p.1 p.2) t).getD k undef) := by
  subst hl
  induction ps generalizing t e x vs with
  | nil => exact he
  | cons p ps ih =>
    cases x with
    | nil =>
      unfold RepL at hr
      subst hr
      exact he
    | cons y x =>
      unfold RepL at hr
      obtain ⟨v, r, rfl, h1, h2⟩ := hr
      simp only [List.zip_cons_cons, List.foldl_cons]
      refine ih (t := t.setIfInBounds p v) (e := e.set (some p) y) ?_ h2 (fun q hq => by simpa using hb q (List.mem_cons_of_mem _ hq))
      intro k d hk
      have hp := hb p List.mem_cons_self
      simp only [Env.set] at hk
      rw [Array.getD_eq_getD_getElem?, Array.getElem?_setIfInBounds]
      split at hk
      · rename_i hkp
        subst hkp
        simp only [Option.some.injEq] at hk
        subst hk
        simp [hp, h1]
      · rename_i hkp
        rw [if_neg (Ne.symm hkp), ← Array.getD_eq_getD_getElem?]
        exact he k d hk
theorem params_rel {e : Env} {a : Act} {w : World} {N : Nat → Prop} {φ : Phi} {ps : Array Tmp} {x : List DV} {vs : List Value} (he : EnvRel e a w N φ) (hr : RepL w N φ x vs) (hb : ∀ p ∈ ps.toList, p < a.tmps.size) : EnvRel (setParams e ps x) (roundAct ps a vs) w N φ := by
  intro k d hk
  unfold setParams at hk
  unfold roundAct
  dsimp only
  rw [← Array.foldl_toList, Array.toList_zip]
  exact foldl_put_get (ps := ps.toList) rfl he hr hb k d hk
theorem params_in {n : Nat} {ps : List Tmp} {x : List DV} {e : Env} (he : EnvIn e n) (hb : ∀ p ∈ ps, p < n) : EnvIn ((ps.zip x).foldl (fun e p => e.set (some p.1) p.2) e : Env) n := by
  induction ps generalizing e x with
  | nil => exact he
  | cons p ps ih =>
    cases x with
    | nil => exact he
    | cons y x =>
      simp only [List.zip_cons_cons, List.foldl_cons]
      exact ih (he.set fun d hd => by cases hd; exact hb _ List.mem_cons_self) fun q hq => hb q (List.mem_cons_of_mem _ hq)
theorem each_sound (ok : CfgOK C) (hrec : ∀ g args hs v hs', rec (.call g args hs) = some (.done v hs') → CallOK C g args hs v hs') (hloop : ∀ f p m vals hs e vals' hs', rec (.loop f p m vals hs) = some (.left e vals' hs') → LoopOK C f p m vals hs e vals' hs')
    (heach : ∀ f p m xs vals hs e vals' hs', rec (.each f p m xs vals hs) = some (.left e vals' hs') → EachOK C f p m xs vals hs e vals' hs') (ih : ∀ r x, rec r = some x → Motive C r x)
    {f : FuncId} {p : List Bool} {m : Nat} {xs : List (List DV)} {vals : List (Option DV)} {hs : List (Option Blk)} {x : Res} {fn : Func} {c as bd : Code} {g : Operand} {ps : Array Nat} {l : Live} (hf : C.P.funcs[f]? = some fn) (hbody : fn.body = some c) (hat : codeAt c (Func.live fn) p = some (.rangeFunc g ps as bd, l))
    (h : C.eachBody rec f p m xs vals hs ps as bd l = some x) : Motive C (.each f p m xs vals hs) x := by
  have hx : ∃ e vals' hs', x = .left e vals' hs' := by
    unfold Cfg.eachBody at h
    split at h
    · split at h
      · simp only [Option.some.injEq] at h; subst h
        exact ⟨_, _, _, rfl⟩
      · cases h
    · split at h
      · split at h
        · split at h
          · cases h
          · split at h
            · have := ih _ _ h
              cases x with
              | left e v2 h2 => exact ⟨e, v2, h2, rfl⟩
              | done v h2 => exact this.elim
            · cases h
          · split at h
            · simp only [Option.some.injEq] at h; subst h
              exact ⟨_, _, _, rfl⟩
            · cases h
        · cases h
      · cases h
  obtain ⟨e, vals', hs', rfl⟩ := hx
  intro fn' c' as' bd' g' ps' l' hf' hbody' hck hat' a w N0 φ0 H0 W φ n L hsz hn B henv hin hg hL hm
  rw [hf] at hf'
  simp only [Option.some.injEq] at hf'
  subst hf'
  rw [hbody] at hbody'
  simp only [Option.some.injEq] at hbody'
  subst hbody'
  rw [hat] at hat'
  simp only [Option.some.injEq, Prod.mk.injEq, Code.rangeFunc.injEq] at hat'
  obtain ⟨⟨rfl, rfl, rfl, rfl⟩, rfl⟩ := hat'
  have hat1 : codeAt c (Func.live fn) (false :: p) = some (as, { l.inR with normal := liveIn bd l.inR }) := by simp only [codeAt, hat]; rfl
  have hat2 : codeAt c (Func.live fn) (true :: p) = some (bd, l.inR) := by simp only [codeAt, hat]; rfl
  have hchk := codeAt_check hck hat
  simp only [checkCode, Bool.and_eq_true] at hchk
  have hps : ∀ q ∈ ps.toList, q < n := fun q hq => Nat.lt_of_lt_of_le (of_decide_eq_true (Array.all_eq_true'.1 hchk.2 q (by simpa using hq))) hn
  unfold Cfg.eachBody at h
  cases xs with
  | nil =>
    dsimp only at h
    split at h
    · rename_i vals2 hs2 hp
      simp only [Option.some.injEq, Res.left.injEq] at h
      obtain ⟨rfl, rfl, rfl⟩ := h
      obtain ⟨ids, hnd, hpre, rfl, rfl⟩ := pack_some hp
      intro W1 hW1
      have B1 := B.grown hW1 hm hL
      have P := pack_back (m := m) B1.rel hnd hpre
      have hX := hW1.laterC hm (Nn N0 φ (heapOf hs)) φ
      exact ⟨trivial, phiOf ids φ, B1.trans P, fun t d hd => by
        obtain ⟨d0, h1, rfl⟩ := envOf_pack hd
        exact ((henv t d0 h1).laterC hX).ren pack_sub (place_phi ids φ), fun t d hd => by
        obtain ⟨d0, h1, rfl⟩ := envOf_pack hd
        exact hin t d0 h1⟩
    · cases h
  | cons x r =>
    dsimp only at h
    split at h
    · rename_i hc
      refine ⟨hc.1, hc.2, ?_⟩
      intro W1 vs hW1 hM1 hv
      have B1 := B.grown hW1 hm hL
      have hX := hW1.laterC hm (Nn N0 φ (heapOf hs)) φ
      have henv1 := henv.laterC hX
      have hvr : RepL W1 (Nn N0 φ (heapOf hs)) φ x vs := (hv (Nn N0 φ (heapOf hs)) (fun b hb hn => B.laterN b hb hn) (fun b hb => by
        rcases hb with hb | ⟨id, pb, blk, h1, h2, h3, rfl⟩
        · exact B.rel.lim b hb
        · obtain ⟨pb', h4, h5⟩ := B.rel.here id blk h2
          rw [h1] at h4
          cases h4
          exact h5.lt)).imm hc.2
      split at h
      · rename_i s1 hrun1
        obtain ⟨k1, k2⟩ := runC_sound hrec hloop heach ok.seqs ok.ext ok.body ok.mixed hf hbody hck (N0 := N0) (n := n) hn (L + 1) (some L) as (a := roundAct ps a vs) (w := W1) (φ := φ) hat1 hrun1 (fun _ => hchk.1.1.2) trivial (by
          obtain ⟨o, h1, _⟩ := hM1
          exact (Array.getElem?_eq_some_iff.1 h1).1) (by rw [roundAct_size]; exact hsz) B.tail (Nat.le_refl _) B1.rel
          (params_rel henv1 hvr (by rw [hsz]; exact hps)) (params_in hin hps) (hg.back B1)
        refine wpIn_mono k2 ?_
        rintro e1 a1 W2 ⟨q1, q2, q3, φ2, B2, q4, q5⟩
        dsimp only at B2 k1
        have B02 := B1.trans (B2.base B.le)
        cases e1 with
        | normal =>
          refine ⟨B2.fixed B1.rel, ?_⟩
          intro W2' hW2 hM2
          have hM2' : MarkAt W2 L := by
            obtain ⟨o, h1, h2⟩ := hM1
            exact ⟨o, B2.fixed B1.rel L o h1 h2, h2⟩
          have B02' := B02.grown hW2 hM2' hL
          have hX2 := hW2.laterC hM2' (Nn N0 φ2 s1.heap) φ2
          have B2r := B2.rel.grown hW2 hM2'
          obtain ⟨φr, hφr⟩ : ∃ φr : Phi, φr = fun id => if id < hs.length then φ2 id else none := ⟨_, rfl⟩
          have L12 : Later W1 (Nn N0 φ (heapOf hs)) φ W2 (Nn N0 φ2 s1.heap) φr := ⟨B2.size, fun b hb hn => B2.same b hb fun o => hn (.inr o), B2.laterN, fun id q hq => by
            have hid : id < hs.length := by
              rcases Nat.lt_or_ge id hs.length with h | h
              · exact h
              · rw [B.tail id h] at hq
                cases hq
            rw [hφr]
            dsimp only
            rw [if_pos hid]
            exact B2.keep id q hid hq⟩
          have hX2r := hW2.laterC hM2' (Nn N0 φ2 s1.heap) φr
          have henv2 := ((henv1.later L12).laterC hX2r)
          have step : ∀ {e2 : Ex} {s : St}, C.runC rec f (true :: p) l.inR bd s1 = some (e2, s) → bd.wpIn (wf (some L)) 0 C.P (fun x a3 W3 => ExRel e2 x ∧ Fixed W2' W3 ∧ Stay (Nn N0 φ0 H0) w W3 ∧ ∃ φ3, Back N0 w φ0 H0 m W3 φ3 s.heap s.top ∧ EnvRel (envOf (keepsR ps as bd l) vals) a W3 (Nn N0 φ3 s.heap) φ3) a1 W2' := by
            intro e2 s hrun2
            obtain ⟨k3, k4⟩ := runC_sound hrec hloop heach ok.seqs ok.ext ok.body ok.mixed hf hbody hck (N0 := N0) (n := n) hn (L + 1) (some L) bd (a := a1) (w := W2') (φ := φ2) hat2 hrun2 (fun _ => hchk.1.2) ((q2.above fun D hl hD => (hW2.same D (Array.getElem?_eq_some_iff.1 hD).1 (by omega)).trans hD).up hW2.size) (by
                obtain ⟨o, h1, _⟩ := hM2
                exact (Array.getElem?_eq_some_iff.1 h1).1) q3 B2.tail (by rw [k1]; exact B2.le) B2r (q4.laterC hX2) q5 (hg.back B02')
            refine wpIn_mono k4 ?_
            rintro x a3 W3 ⟨r1, r2, r3, φ3, B3, r4, r5⟩
            rw [k1] at B3
            have B03 := B02'.trans (B3.base B.le)
            have L23 : Later W2' (Nn N0 φ2 s1.heap) φr W3 (Nn N0 φ3 s.heap) φ3 := ⟨B3.size, fun b hb hn => B3.same b hb fun o => hn (.inr o), B3.laterN, fun id q hq => by
              rw [hφr] at hq
              dsimp only at hq
              split at hq
              · rename_i hid
                exact B3.keep id q hid hq
              · cases hq⟩
            exact ⟨r1, B3.fixed B2r, B03.stay, φ3, B03, henv2.later L23⟩
          split at h
          · cases h
          · rename_i s hrun2
            split at h
            · rename_i vals2 hs2 hp
              obtain ⟨ids, hnd, hpre, rfl, rfl⟩ := pack_some hp
              refine wpIn_mono (step hrun2) ?_
              rintro x a3 W3 ⟨r1, r2, r3, φ3, B03, r4⟩
              cases x with
              | normal =>
                have P := pack_back (m := m) B03.rel hnd hpre
                exact ⟨r2, r3, heach _ _ _ _ _ _ _ _ _ h fn c as bd g ps l hf hbody hck hat a w N0 φ0 H0 W3 (phiOf ids φ3) n L hsz hn (B03.trans P) (fun t d hd => by
                  obtain ⟨d0, h1, rfl⟩ := envOf_pack hd
                  exact (r4 t d0 h1).ren pack_sub (place_phi ids φ3)) (fun t d hd => by
                  obtain ⟨d0, h1, rfl⟩ := envOf_pack hd
                  exact hin t d0 h1) hg hL (by
                  obtain ⟨o, h1, h2⟩ := hM2
                  exact ⟨o, r2 L o h1 h2, h2⟩)⟩
              | exit id => exact r1.elim
              | goto t => exact r1.elim
              | ret => exact r1.elim
              | panic ch => exact r1.elim
              | outgrown => exact r1.elim
            · cases h
          · rename_i e2 s hne hrun2
            split at h
            · rename_i vals2 hs2 hp
              simp only [Option.some.injEq, Res.left.injEq] at h
              obtain ⟨rfl, rfl, rfl⟩ := h
              obtain ⟨ids, hnd, hpre, rfl, rfl⟩ := pack_some hp
              refine wpIn_mono (step hrun2) ?_
              rintro x a3 W3 ⟨r1, r2, r3, φ3, B03, r4⟩
              have done : ∀ x, ExRel e2 x → ∀ W4, GrownX L W3 W4 → PostR C N0 w φ0 H0 m n e2 (envOf (e2.live l) (renO (place ids) ((e2.live l).map (envOf (keepsR ps as bd l) vals)))) (heapOf (packIds ids s.heap)) (packIds ids s.heap).length a x W4 := by
                intro x hx W4 hW4
                have hM3 : MarkAt W3 L := by
                  obtain ⟨o, h1, h2⟩ := hM2
                  exact ⟨o, r2 L o h1 h2, h2⟩
                have B04 := B03.grown hW4 hM3 hL
                have P := pack_back (m := m) B04.rel hnd hpre
                have hX4 := hW4.laterC hM3 (Nn N0 φ3 s.heap) φ3
                exact ⟨hx, phiOf ids φ3, B04.trans P, fun t d hd => by
                  obtain ⟨d0, h1, rfl⟩ := envOf_pack hd
                  exact ((r4 t d0 h1).laterC hX4).ren pack_sub (place_phi ids φ3), fun t d hd => by
                  obtain ⟨d0, h1, rfl⟩ := envOf_pack hd
                  exact hin t d0 h1⟩
              cases x with
              | normal =>
                cases e2 with
                | normal => exact absurd rfl hne
                | exit id => exact r1.elim
                | ret => exact r1.elim
              | exit id => exact ⟨r2, r3, done _ r1⟩
              | ret => exact ⟨r2, r3, done _ r1⟩
              | goto t => cases e2 <;> exact r1.elim
              | panic ch => cases e2 <;> exact r1.elim
              | outgrown => cases e2 <;> exact r1.elim
            · cases h
        | exit id => exact q1.elim
        | goto t => exact q1.elim
        | ret => exact q1.elim
        | panic ch => exact q1.elim
        | outgrown => exact q1.elim
      · cases h
    · cases h
theorem step_sound (ok : CfgOK C) (ih : ∀ r x, rec r = some x → Motive C r x) : ∀ r x, C.step rec r = some x → Motive C r x := by
  intro r x h
  have hrec : ∀ g args hs v hs', rec (.call g args hs) = some (.done v hs') → CallOK C g args hs v hs' := fun g args hs v hs' h => ih _ _ h
  have hloop : ∀ f p m vals hs e vals' hs', rec (.loop f p m vals hs) = some (.left e vals' hs') → LoopOK C f p m vals hs e vals' hs' := fun f p m vals hs e vals' hs' h => ih _ _ h
  have heach : ∀ f p m xs vals hs e vals' hs', rec (.each f p m xs vals hs) = some (.left e vals' hs') → EachOK C f p m xs vals hs e vals' hs' := fun f p m xs vals hs e vals' hs' h => ih _ _ h
  cases r with
  | call f args hs =>
    unfold Cfg.step at h
    dsimp only at h
    split at h
    · cases h
    · rename_i fn hf
      split at h
      · cases h
      · rename_i c hbody
        unfold Cfg.callBody at h
        have main : ∀ e s v, C.runC rec f [] (Func.live fn) c { env := envOf (List.range args.length) (args.map some), heap := heapOf hs, top := hs.length, base := hs.length } = some (e, s) → (e = .normal ∨ e = .ret) → C.results fn s = some v → C.handBack f hs.length v s.heap = some x → Motive C (.call f args hs) x := by
          intro e s v hrun he hres hback
          have hm : C.mode f ≠ none := fun q => by
            unfold Cfg.handBack at hback
            rw [q] at hback
            cases hback
          have hck := ok.code f fn c hm hf hbody
          cases x with
          | left e' vals' hs' =>
            unfold Cfg.handBack at hback
            split at hback
            · split at hback
              · obtain ⟨_, _, hq⟩ := Option.map_eq_some_iff.1 hback
                cases hq
              · cases hback
            · split at hback
              · cases hback
              · cases hback
            · cases hback
          | done r hs' =>
            intro w N0 φ vals htop hrel hg hargs
            refine (callsIn_wide (n := 0)).1 (callsIn_of_wp_marks (F := wf none) hf hbody trivial ?_)
            have hvl := hargs.len
            have hsz : (vals.toArray ++ Array.replicate (fn.ntmps - vals.toArray.size) undef).size = vals.length + (fn.ntmps - vals.length) := by simp
            have henv : ∀ t d, envOf (List.range args.length) (args.map some) t = some d → ∃ v, vals[t]? = some v ∧ Rep w (Nn N0 φ (heapOf hs)) φ d v := fun t d hd => by
              rw [List.range_eq_range'] at hd
              obtain ⟨_, h2⟩ := envOf_range (vals := args) rfl hd
              exact hargs.get t (by simpa using h2)
            obtain ⟨k1, k2⟩ := runC_sound hrec hloop heach ok.seqs ok.ext ok.body ok.mixed hf hbody hck (N0 := N0) (n := vals.length + (fn.ntmps - vals.length)) (by omega) w.heap.size none c (p := []) (a := { tmps := vals.toArray ++ Array.replicate (fn.ntmps - vals.toArray.size) undef, defers := [] }) (w := w) (φ := φ) rfl hrun (fun h => absurd rfl h) trivial (Nat.le_refl _) hsz htop (Nat.le_refl _) hrel
              (fun t d hd => by
                obtain ⟨v, h1, h2⟩ := henv t d hd
                have hlt := (List.getElem?_eq_some_iff.1 h1).1
                have : (vals.toArray ++ Array.replicate (fn.ntmps - vals.toArray.size) undef).getD t undef = v := by
                  rw [Array.getD_eq_getD_getElem?, Array.getElem?_append_left (by simpa using hlt)]
                  simp [h1]
                show Rep _ _ _ _ ((vals.toArray ++ Array.replicate (fn.ntmps - vals.toArray.size) undef).getD t undef)
                rw [this]
                exact h2) (fun t d hd => by
                obtain ⟨v, h1, h2⟩ := henv t d hd
                have hlt := (List.getElem?_eq_some_iff.1 h1).1
                omega) hg
            refine wpIn_mono k2 fun x1 a1 w1 hp => ?_
            obtain ⟨q1, q2, q3, φ1, B, q4, q5⟩ := hp
            have fin : LeavesInM (wf none) 0 C.P fn a1.tmps (fun e w' => ∃ x φ', e = .returned x ∧ Back N0 w φ (heapOf hs) hs.length w' φ' (heapOf hs') hs'.length ∧ Rep w' (Nn N0 φ' (heapOf hs')) φ' r x) a1.defers .returning w1 :=
              leaves_marks (Nat.le_refl _) (fun w' B' he' => by
                obtain ⟨y, h1, h2⟩ := results_sound (C := C) B'.rel he' hres
                obtain ⟨φ2, h3, h4⟩ := handBack_sound B' h1 hback
                exact ⟨y, h2, y, φ2, rfl, h3, h4⟩) q2 B q4
            rcases he with rfl | rfl
            · cases x1 with
              | normal => exact fin
              | _ => exact q1.elim
            · cases x1 with
              | ret => exact fin
              | _ => exact q1.elim
        split at h
        · rename_i s hrun
          split at h
          · cases h
          · rename_i v hres
            exact main _ _ _ hrun (.inl rfl) hres h
        · rename_i s hrun
          split at h
          · cases h
          · rename_i v hres
            exact main _ _ _ hrun (.inr rfl) hres h
        · cases h
  | loop f p m vals hs =>
    unfold Cfg.step at h
    dsimp only at h
    split at h
    · cases h
    · rename_i fn hf
      split at h
      · cases h
      · rename_i c hbody
        split at h
        · rename_i b l hat
          have hx : ∃ e vals' hs', x = .left e vals' hs' := by
            unfold Cfg.loopBody at h
            split at h
            · cases h
            · split at h
              · have := ih _ _ h
                cases x with
                | left e v2 h2 => exact ⟨e, v2, h2, rfl⟩
                | done v h2 => exact this.elim
              · cases h
            · split at h
              · simp only [Option.some.injEq] at h; subst h
                exact ⟨_, _, _, rfl⟩
              · cases h
          obtain ⟨e, vals', hs', rfl⟩ := hx
          intro fn' c' b' l' hf' hbody' hck hat' ro lo a w N0 φ n hro hmk hlo hsz hn htop hle hrel henv hin hg
          rw [hf] at hf'
          simp only [Option.some.injEq] at hf'
          subst hf'
          rw [hbody] at hbody'
          simp only [Option.some.injEq] at hbody'
          subst hbody'
          rw [hat] at hat'
          simp only [Option.some.injEq, Prod.mk.injEq, Code.loop.injEq] at hat'
          obtain ⟨rfl, rfl⟩ := hat'
          have hat1 : codeAt c (Func.live fn) (false :: p) = some (b, { l with normal := liveIn (.loop b) l }) := by simp only [codeAt, hat]
          unfold Cfg.loopBody at h
          split at h
          · cases h
          · rename_i s hrun
            obtain ⟨k1, k2⟩ := runC_sound hrec hloop heach ok.seqs ok.ext ok.body ok.mixed hf hbody hck (N0 := N0) (n := n) hn lo ro b hat1 hrun hro hmk hlo hsz htop hle hrel henv hin hg
            dsimp only at k1 k2
            split at h
            · rename_i vals2 hs2 hp
              obtain ⟨ids, hnd, hpre, rfl, rfl⟩ := pack_some hp
              refine LW.unroll (wpIn_mono k2 fun x1 a1 w1 hq => ?_)
              cases x1 with
              | normal =>
                obtain ⟨_, d1, d2, φ1, B, e1, e2⟩ := hq
                have P := pack_back (m := m) B.rel hnd hpre
                have B2 := B.trans P
                have hL := hloop _ _ _ _ _ _ _ _ h fn c b l hf hbody hck hat ro lo a1 w1 N0 (phiOf ids φ1) n hro d1 (Nat.le_trans hlo B.size) d2 hn P.tail P.le P.rel (fun t d hd => by
                  obtain ⟨d0, h1, rfl⟩ := envOf_pack hd
                  exact (e1 t d0 h1).ren pack_sub (place_phi ids φ1)) (fun t d hd => by
                  obtain ⟨d0, h1, rfl⟩ := envOf_pack hd
                  exact e2 t d0 h1) (hg.back B2)
                exact hL.mono fun x a w hp => hp.back B2
              | exit id => exact hq.1.elim
              | goto l => exact hq.1.elim
              | ret => exact hq.1.elim
              | panic ch => exact hq.1.elim
              | outgrown => exact hq.1.elim
            · cases h
          · rename_i e1 s hne hrun
            obtain ⟨k1, k2⟩ := runC_sound hrec hloop heach ok.seqs ok.ext ok.body ok.mixed hf hbody hck (N0 := N0) (n := n) hn lo ro b hat1 hrun hro hmk hlo hsz htop hle hrel henv hin hg
            dsimp only at k1 k2
            split at h
            · rename_i vals2 hs2 hp
              simp only [Option.some.injEq, Res.left.injEq] at h
              obtain ⟨rfl, rfl, rfl⟩ := h
              obtain ⟨ids, hnd, hpre, rfl, rfl⟩ := pack_some hp
              have done : ∀ x1 a1 w1, Post C N0 w φ (heapOf hs) m n lo e1 s.env s.heap s.top x1 a1 w1 → Post C N0 w φ (heapOf hs) m n lo e1 (envOf (e1.live l) (renO (place ids) ((e1.live l).map s.env))) (heapOf (packIds ids s.heap)) (packIds ids s.heap).length x1 a1 w1 := by
                rintro x1 a1 w1 ⟨q1, d1, d2, φ1, B, f1, f2⟩
                have P := pack_back (m := m) B.rel hnd hpre
                exact ⟨q1, d1, d2, phiOf ids φ1, B.trans P, fun t d hd => by
                  obtain ⟨d0, h1, rfl⟩ := envOf_pack hd
                  exact (f1 t d0 h1).ren pack_sub (place_phi ids φ1), fun t d hd => by
                  obtain ⟨d0, h1, rfl⟩ := envOf_pack hd
                  exact f2 t d0 h1⟩
              refine LW.unroll (wpIn_mono k2 fun x1 a1 w1 hq => ?_)
              cases x1 with
              | normal =>
                cases e1 with
                | normal => exact absurd rfl hne
                | exit id => exact hq.1.elim
                | ret => exact hq.1.elim
              | exit id => exact done _ _ _ hq
              | goto l => exact done _ _ _ hq
              | ret => exact done _ _ _ hq
              | panic ch => exact done _ _ _ hq
              | outgrown => exact done _ _ _ hq
            · cases h
        · cases h
  | each f p m xs vals hs =>
    unfold Cfg.step at h
    dsimp only at h
    split at h
    · cases h
    · rename_i fn hf
      split at h
      · cases h
      · rename_i c hbody
        split at h
        · rename_i g ps as bd l hat
          exact each_sound ok hrec hloop heach ih hf hbody hat h
        · cases h
end
theorem runN_sound {C : Cfg} (ok : CfgOK C) : ∀ n r x, C.runN n r = some x → Motive C r x
  | 0, r, x, h => by cases h
  | n + 1, r, x, h => step_sound ok (fun r x h => runN_sound ok n r x h) r x h
theorem run_sound {C : Cfg} (ok : CfgOK C) (r : Req) (x : Res) (h : C.run r = some x) : Motive C r x := by
  obtain ⟨n, hn⟩ := (run_iff C r x).1 h
  exact runN_sound ok n r x hn
theorem call_sound {C : Cfg} (ok : CfgOK C) {f : FuncId} {args : List DV} {v : DV} {hs' : List (Option Blk)} (h : C.run (.call f args []) = some (.done v hs')) : CallOK C f args [] v hs' := run_sound ok _ _ h
end Go.PM
end
section
namespace Go.PM
open Go Go.Deep Go.WideShapes Go.RowKit
set_option linter.unusedVariables false
section
variable {C : Cfg}
theorem law_calls (ok : CfgOK C) {f : FuncId} {args : List DV} (h : C.run (.call f args []) = some (.done (.bool true) [])) {w : World} {vals : List Value} (hG : ∀ N : Nat → Prop, (∀ b, ¬ N b) → GlobRel C w N)
    (hv : ∀ N : Nat → Prop, (∀ b, ¬ N b) → RepL w N (fun _ => none) args vals) : Calls C.P f vals.toArray w fun e w' => e = .returned (.bool true) ∧ Below w.heap.size w w' := by
  have hN : ∀ b, ¬ Nn (fun _ => False) (fun _ => none) (heapOf []) b := by
    intro b hb
    rcases hb with hb | hb
    · exact hb
    · obtain ⟨id, pb, _, h1, _⟩ := hb
      cases h1
  have hR : HeapRel w (fun _ => False) (fun _ => none) (heapOf []) := {
    gone := fun _ _ => .inl rfl
    here := fun id blk h => by simp [heapOf] at h
    apart := fun _ _ _ _ h => by cases h
    out := fun _ _ h => by cases h
    lim := fun _ h => h.elim }
  refine (call_sound ok h w _ _ vals (fun _ _ => rfl) hR (hG _ hN) (hv _ hN)).mono ?_
  rintro e w' ⟨x, φ', rfl, hb, hx⟩
  have : x = .bool true := hx
  subst this
  refine ⟨rfl, hb.os, hb.tape, hb.output, hb.size, fun k hk => hb.same k hk ?_⟩
  rintro ⟨id, pb, _, h1, _⟩
  cases h1
theorem law_told (ok : CfgOK C) {f : FuncId} {args : List DV} (h : C.run (.call f args []) = some (.done (.bool true) [])) {w : World} {vals : List Value} (hG : GlobRel C w (fun _ => False))
    (hv : RepL w (fun _ => False) (fun _ => none) args vals) : Calls C.P f vals.toArray w fun e w' => e = .returned (.bool true) ∧ Below w.heap.size w w' := by
  have e : ∀ N : Nat → Prop, (∀ b, ¬ N b) → N = fun _ => False := fun N hN => funext fun b => propext ⟨fun h => hN b h, fun h => h.elim⟩
  exact law_calls ok h (fun N hN => by rw [e N hN]; exact hG) (fun N hN => by rw [e N hN]; exact hv)
end
def Reads {H : Type} (enc : TypeId × Value → H) (P : Program) (w : World) (N : Nat → Prop) (t : TypeId) {α : Type} (E : α → DV) (sz : Nat) (wf : α → Prop) : Prop :=
  (∀ a, (E a).imm = true ∧ (E a).storable = true) ∧ ∀ (spare : Nat → Bool) (held : Bool) (fuel : Nat) (cs : List Value) (x : DataW H × List MemPlace), DataW.trod enc P w 0 spare held fuel t cs = some x → ∃ a v, v.cells.toList = cs ∧ cs.length = sz ∧ One cs ∧ Rep w N (fun _ => none) (E a) v ∧ wf a
section
variable {H : Type} {enc : TypeId × Value → H} {P : Program} {w : World} {N : Nat → Prop}
theorem reads_int {t : TypeId} {k : IntKind} (hu : P.underlying t = some (.int k)) : Reads enc P w N t (DV.int k) 1 (fun n => (Lit.int k n).wf = true) := ⟨fun _ => ⟨rfl, rfl⟩, fun spare held fuel cs x h => by
  obtain ⟨n, rfl, _, hw⟩ := DataW.trod_int hu h
  exact ⟨n, .int k n, rfl, rfl, fun u hu => by simp at hu; subst hu; rfl, rfl, hw⟩⟩
theorem reads_bool {t : TypeId} (hu : P.underlying t = some .bool) : Reads enc P w N t DV.bool 1 (fun _ => True) := ⟨fun _ => ⟨rfl, rfl⟩, fun spare held fuel cs x h => by
  obtain ⟨n, rfl, _⟩ := DataW.trod_bool hu h
  exact ⟨n, .bool n, rfl, rfl, fun u hu => by simp at hu; subst hu; rfl, rfl, trivial⟩⟩
theorem reads_string {t : TypeId} (hu : P.underlying t = some .string) : Reads enc P w N t DV.str 1 (fun s => s.length ≤ maxLen) := ⟨fun _ => ⟨rfl, rfl⟩, fun spare held fuel cs x h => by
  obtain ⟨n, rfl, _, hw⟩ := DataW.trod_string hu h
  exact ⟨n.data.toList, .string n, rfl, rfl, fun u hu => by simp at hu; subst hu; rfl, ⟨n, rfl, rfl⟩, by simpa using hw⟩⟩
theorem imms_map {α : Type} {E : α → DV} (h : ∀ a, (E a).imm = true) : ∀ l : List α, DV.imms (l.map E) = true
  | [] => rfl
  | a :: l => by
    show ((E a).imm && DV.imms (l.map E)) = true
    rw [h a, imms_map h l]
    rfl
theorem reads_elems {t : TypeId} {α : Type} {E : α → DV} {sz : Nat} {wf : α → Prop} (h : Reads enc P w N t E sz wf) (hsz : P.cellsOf t = sz) (spare : Nat → Bool) (held : Bool) (n : Nat) (a : Addr) :
    ∀ (len k : Nat), (∀ i, k ≤ i → i < k + len → ∃ cs' x, w.cells? 0 (a.add (i * P.cellsOf t)) (P.cellsOf t) = some cs' ∧ DataW.trod enc P w 0 spare held n t cs' = some x) →
      ∃ (l : List α) (vs : List Value), l.length = len ∧ vs.length = len * sz ∧ RepEs w N (fun _ => none) sz (l.map E) vs ∧ (∀ x ∈ l, wf x) ∧ ∀ j x, vs[j]? = some x → w.cell? (a.add (k * sz + j)) = some x
  | 0, k, _ => ⟨[], [], rfl, by simp, rfl, by simp, fun j x hx => by simp at hx⟩
  | len + 1, k, hx => by
    obtain ⟨l, vs, h1, h2, h3, h4, h5⟩ := reads_elems h hsz spare held n a len (k + 1) fun i h1 h2 => hx i (by omega) (by omega)
    obtain ⟨cs', x, h6, h7⟩ := hx k (Nat.le_refl _) (by omega)
    obtain ⟨e, v, h8, h9, h10, h11, h12⟩ := h.2 spare held n cs' x h7
    refine ⟨e :: l, cs' ++ vs, by simp [h1], by rw [List.length_append, h9, h2, Nat.add_mul, Nat.one_mul, Nat.add_comm], ?_, ?_, ?_⟩
    · refine ⟨v, vs, by rw [h8], ?_, (h.1 e).2, by rw [h8]; exact h10, h11, h3⟩
      rw [← Array.length_toList, h8, h9]
    · intro y hy
      rcases List.mem_cons.1 hy with rfl | hy
      · exact h12
      · exact h4 y hy
    · intro j y hj
      rcases Nat.lt_or_ge j sz with hlt | hge
      · rw [List.getElem?_append_left (by omega)] at hj
        have hc := World.cells?_some h6
        have := hc.2.2 j (by rw [hsz]; exact hlt)
        rw [Go.Deep.add_add, hsz] at this
        rw [this]
        exact hj
      · rw [List.getElem?_append_right (by omega), h9] at hj
        have := h5 (j - sz) y hj
        rw [← this]
        congr 2
        rw [Nat.add_mul, Nat.one_mul]
        omega
theorem reads_slice {t e : TypeId} {α : Type} {E : α → DV} {sz : Nat} {wf : α → Prop} (hu : P.underlying t = some (.slice e)) (hsz : P.cellsOf e = sz) (h0 : 0 < sz) (hN : ∀ b, ¬ N b) (h : Reads enc P w N e E sz wf) :
    Reads enc P w N t (fun l : List α => DV.list (l.map E) false) 1 (fun l => l.length ≤ maxLen ∧ ∀ x ∈ l, wf x) := ⟨fun a => ⟨rfl, rfl⟩, fun spare held fuel cs x hx => by
  rcases open_slice hu hx with ⟨rfl, _⟩ | ⟨a, len, cap, m, n, D, Pl, rfl, _, hl, hm, hmm, _, hel⟩
  · exact ⟨[], .slice none 0 0, rfl, rfl, fun u hu => by simp at hu; subst hu; rfl, ⟨rfl, none, 0, rfl, (fun h => by cases h), Nat.le_refl _, .inl rfl⟩, by simp, fun _ hx => by simp at hx⟩
  · have hlm : len ≤ m := by rw [hmm]; split <;> omega
    obtain ⟨l, vs, h1, h2, h3, h4, h5⟩ := reads_elems h hsz spare held n a len 0 fun i _ hi => by
      obtain ⟨cs', h1, h2⟩ := hel i (by omega)
      exact ⟨cs', _, h1, h2⟩
    subst h1
    refine ⟨l, .slice (some a) l.length cap, rfl, rfl, fun u hu => by simp at hu; subst hu; rfl, ⟨imms_map (fun a => (h.1 a).1) l, some a, cap, by rw [List.length_map], (fun h => by cases h), by rw [List.length_map]; exact hl, ?_⟩, by omega, h4⟩
    cases l with
    | nil => exact .inl rfl
    | cons b l =>
      right
      have hne : ∃ x, vs[0]? = some x := by
        have : 0 < vs.length := by
          rw [h2]
          exact Nat.mul_pos (by simp) h0
        exact ⟨_, List.getElem?_eq_getElem this⟩
      obtain ⟨x0, hx0⟩ := hne
      have hc0 := h5 0 x0 hx0
      rw [Nat.zero_mul, Nat.add_zero] at hc0
      have hadd0 : a.add 0 = a := rfl
      rw [hadd0] at hc0
      obtain ⟨ab, ao, sp⟩ := a
      have hsp : sp = none := by
        unfold World.cell? at hc0
        dsimp only at hc0
        split at hc0
        · cases sp with
          | none => rfl
          | some s => cases hc0
        · cases hc0
      subst hsp
      refine ⟨ab, ao, sz, vs, rfl, ?_, hN _, h3, ?_⟩
      · unfold World.cell? at hc0
        dsimp only at hc0
        split at hc0
        · rename_i hh
          exact (Array.getElem?_eq_some_iff.1 hh).1
        · cases hc0
      · intro k x hk
        have := h5 k x hk
        rw [Nat.zero_mul, Nat.zero_add] at this
        rw [← this]
        congr 1
        unfold Addr.add
        split
        · rename_i hk0
          subst hk0
          rfl
        · rfl⟩
def ReadsF {H : Type} (enc : TypeId × Value → H) (P : Program) (w : World) (N : Nat → Prop) (fs : List Field) (off : Nat) {α : Type} (E : α → List DV) (sz : Nat) (wf : α → Prop) : Prop :=
  (∀ a, DV.imms (E a) = true) ∧ ∀ (spare : Nat → Bool) (held : Bool) (fuel : Nat) (cs : List Value), cs.length = off + sz →
    (∀ f ∈ fs, ∃ x, DataW.trod enc P w 0 spare held fuel f.type ((cs.drop f.offset).take (P.cellsOf f.type)) = some x) → ∃ a, One (cs.drop off) ∧ RepL w N (fun _ => none) (E a) (cs.drop off) ∧ wf a
theorem readsF_last {f : Field} {off : Nat} {α : Type} {E : α → DV} {sz : Nat} {wf : α → Prop} (hoff : f.offset = off) (hsz : P.cellsOf f.type = sz) (h : Reads enc P w N f.type E sz wf) : ReadsF enc P w N [f] off (fun a => (E a).cells) sz wf := ⟨fun a => imms_cells (h.1 a).1, fun spare held fuel cs hl hf => by
  obtain ⟨x, hx⟩ := hf f (List.mem_singleton.2 rfl)
  obtain ⟨a, v, h1, h2, h3, h4, h5⟩ := h.2 _ _ _ _ _ hx
  rw [hoff, hsz, List.take_of_length_le (by rw [List.length_drop]; omega)] at h1 h3
  refine ⟨a, h3, ?_, h5⟩
  rw [← h1]
  exact (h4.cells (h.1 a).2).1⟩
theorem readsF_cons {f : Field} {fs : List Field} {off : Nat} {α β : Type} {E : α → DV} {E2 : β → List DV} {sz sz2 : Nat} {wf : α → Prop} {wf2 : β → Prop} (hoff : f.offset = off) (hsz : P.cellsOf f.type = sz) (h : Reads enc P w N f.type E sz wf) (hr : ReadsF enc P w N fs (off + sz) E2 sz2 wf2) :
    ReadsF enc P w N (f :: fs) off (fun a : α × β => (E a.1).cells ++ E2 a.2) (sz + sz2) (fun a => wf a.1 ∧ wf2 a.2) := ⟨fun a => imms_append (imms_cells (h.1 a.1).1) (hr.1 a.2), fun spare held fuel cs hl hf => by
  obtain ⟨x, hx⟩ := hf f List.mem_cons_self
  obtain ⟨a, v, h1, h2, h3, h4, h5⟩ := h.2 _ _ _ _ _ hx
  obtain ⟨b, h6, h7, h8⟩ := hr.2 spare held fuel cs (by rw [hl]; omega) (fun g hg => hf g (List.mem_cons_of_mem _ hg))
  have hd : cs.drop off = (cs.drop off).take sz ++ cs.drop (off + sz) := by rw [← List.drop_drop, List.take_append_drop]
  rw [hoff, hsz] at h1 h3
  refine ⟨(a, b), ?_, ?_, h5, h8⟩
  · rw [hd]
    exact h3.append h6
  · rw [hd]
    refine RepL.append ?_ h7
    rw [← h1]
    exact (h4.cells (h.1 a).2).1⟩
theorem reads_struct {t : TypeId} {fs : Array Field} {α : Type} {E : α → List DV} {sz : Nat} {wf : α → Prop} (hu : P.underlying t = some (.struct fs)) (hc : P.cellsOf t = sz) (h : ReadsF enc P w N fs.toList 0 E sz wf) : Reads enc P w N t (fun a => DV.agg (E a)) sz wf := ⟨fun a => ⟨h.1 a, rfl⟩, fun spare held fuel cs x hx => by
  obtain ⟨xs, n, _, _, hl, hn, hel⟩ := DataW.trod_struct hu hx
  obtain ⟨a, h1, h2, h3⟩ := h.2 spare held n cs (by rw [hl, hc]; omega) (fun f hf => by
    obtain ⟨i, hi⟩ := List.getElem?_of_mem hf
    have hi' : fs[i]? = some f := by simpa using hi
    have hlt : i < xs.length := by
      rw [hn]
      exact (Array.getElem?_eq_some_iff.1 hi').1
    exact ⟨_, (hel i f hi').trans (List.getElem?_eq_getElem hlt)⟩)
  rw [List.drop_zero] at h1 h2
  exact ⟨a, .agg cs.toArray, rfl, by rw [hl, hc], h1, ⟨_, rfl, h2, h1⟩, h3⟩⟩
theorem reads_iso {t : TypeId} {α β : Type} {E : α → DV} {sz : Nat} {wf : α → Prop} (E' : β → DV) (g : α → β) (f : β → α) (hg : ∀ a, E' (g a) = E a) (hgf : ∀ b, g (f b) = b) (hfg : ∀ a, f (g a) = a) (h : Reads enc P w N t E sz wf) : Reads enc P w N t E' sz (fun b => wf (f b)) := ⟨fun b => by rw [← hgf b, hg]; exact h.1 _, fun spare held fuel cs x hx => by
  obtain ⟨a, v, h1, h2, h3, h4, h5⟩ := h.2 _ _ _ _ _ hx
  exact ⟨g a, v, h1, h2, h3, by rw [hg]; exact h4, by show wf (f (g a)); rw [hfg]; exact h5⟩⟩
theorem rep_agg {d : DV} {cs : Array Value} (h : Rep w N (fun _ => none) d (.agg cs)) (hd : ∀ cs, d ≠ .agg cs) : (1 : Nat) ≠ 1 := by
  cases d with
  | agg c => exact absurd rfl (hd c)
  | undef => exact absurd (show Value.agg cs = Go.undef from h) (by intro h; cases h)
  | dead => exact absurd (show (Value.agg cs).oneCell' = true from h) (by simp [Value.oneCell'])
  | bool b => exact absurd (show Value.agg cs = .bool b from h) (by intro h; cases h)
  | int k n => exact absurd (show Value.agg cs = .int k n from h) (by intro h; cases h)
  | str s => obtain ⟨_, h, _⟩ := h; cases h
  | nilp => exact absurd (show Value.agg cs = .pointer none from h) (by intro h; cases h)
  | ptr a b c => exact absurd h.1 (by simp [Value.oneCell'])
  | iptr e o => obtain ⟨_, _, _, _, _, h, _⟩ := h; cases h
  | list es t => obtain ⟨_, _, _, h, _⟩ := h; cases h
  | ref a b c d => exact absurd h.1 (by simp [Value.oneCell'])
  | tuple cs => obtain ⟨_, h, _⟩ := h; cases h
  | func f cs => obtain ⟨_, h, _⟩ := h; cases h
  | nilf => exact absurd (show Value.agg cs = .nilFunc from h) (by intro h; cases h)
  | iface t v => obtain ⟨_, h, _⟩ := h; cases h
  | nili => exact absurd (show Value.agg cs = .nilIface from h) (by intro h; cases h)
theorem arg_one {t : TypeId} {α : Type} {E : α → DV} {wf : α → Prop} {v : Value} {d : DataW H} {p : List MemPlace} {spare : Nat → Bool} {held : Bool} (ho : Reads enc P w N t E 1 wf) (ha : ∀ a cs, E a ≠ .agg cs) (h1 : v.cells = #[v]) (h : DataW.Trod enc P w 0 spare held t v d p) : ∃ a, Rep w N (fun _ => none) (E a) v ∧ wf a := by
  obtain ⟨fuel, hf⟩ := h
  obtain ⟨a, v', h2, h3, h4, h5, h6⟩ := ho.2 _ _ _ _ _ hf
  rw [h1] at h2
  refine ⟨a, ?_, h6⟩
  have h7 : v'.cells = #[v'] ∨ ∃ cs, v' = .agg cs := by cases v' <;> first | exact .inl rfl | exact .inr ⟨_, rfl⟩
  rcases h7 with h7 | ⟨cs, rfl⟩
  · rw [h7] at h2
    simp at h2
    rw [← h2]
    exact h5
  · exact absurd rfl (rep_agg h5 (ha a))
theorem arg_agg {t : TypeId} {fs : Array Field} {α : Type} {E : α → List DV} {sz : Nat} {wf : α → Prop} {r : Reach} {b0 : Nat} {v : Value} {d : DataW H} {p : List MemPlace} {spare : Nat → Bool} {held : Bool} (hu : P.underlying t = some (.struct fs)) (ho : Reads enc P w N t (fun a => DV.agg (E a)) sz wf) (hv : Value.okWide P w r b0 t v)
    (h : DataW.Trod enc P w 0 spare held t v d p) : ∃ a, Rep w N (fun _ => none) (.agg (E a)) v ∧ wf a := by
  obtain ⟨cs, rfl, _⟩ := okWide_struct hu hv
  obtain ⟨fuel, hf⟩ := h
  obtain ⟨a, v', h2, h3, h4, h5, h6⟩ := ho.2 _ _ _ _ _ hf
  refine ⟨a, ?_, h6⟩
  obtain ⟨vs, rfl, h7⟩ := h5
  have : vs = cs := by
    have h2' : vs.toList = cs.toList := h2
    exact Array.toList_inj.1 h2'
  rw [← this]
  exact ⟨vs, rfl, h7⟩
theorem trod_places {t : TypeId} {v : Value} {d : DataW H} {p : List MemPlace} {spare : Nat → Bool} {held : Bool} (h : DataW.Trod enc P w 0 spare held t v d p) : ∀ x ∈ p, x.block < w.heap.size := by
  obtain ⟨m, hm⟩ := h
  exact DataW.trod_lt m _ _ _ hm
theorem argL_nil : RepL w N (fun _ => none) [] [] := rfl
theorem argL_cons {d : DV} {ds : List DV} {v : Value} {vs : List Value} (h : Rep w N (fun _ => none) d v) (hr : RepL w N (fun _ => none) ds vs) : RepL w N (fun _ => none) (d :: ds) (v :: vs) := ⟨v, vs, rfl, h, hr⟩
end
end Go.PM
end
