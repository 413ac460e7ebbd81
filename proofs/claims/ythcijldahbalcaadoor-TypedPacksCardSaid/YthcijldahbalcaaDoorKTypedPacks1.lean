/- What the law TypedPacks rests on, part 2: a machine for the model's programs, proved sound. -/
import Derived.Test.YthcijldahbalcaaDoorKTypedPacks0
import Derived.Orders
import Derived.Below
import Derived.Deep.Slices
import Derived.WideShapes
import Derived.ChangeArms
import Derived.Lib.ParseIntBTie
import Derived.Lib.ParseIntBCases
import Derived.Lib.ItoaLen
import Derived.Lib.ItoaNum
set_option linter.unusedVariables false
set_option linter.unusedSimpArgs false
section
namespace Go.PM
open Go
set_option linter.unusedVariables false
section
variable {C : Cfg} {N0 : Nat → Prop} {slot : Nat} {a : Act} {w : World} {φ : Phi} {H : Heap} {o : Oper}
theorem bind_ev {ev : Operand → Option DV} {xs : Array Operand} {k : Nat} {d : DV} (h : (xs[k]?).bind ev = some d) : ∃ x, xs[k]? = some x ∧ ev x = some d := by
  obtain ⟨x, h1, h2⟩ := Option.bind_eq_some_iff.1 h
  exact ⟨x, h1, h2⟩
theorem call_eta {c : Call} {b : Builtin} {x y : Operand} {t : TypeId} (hb : c.callee = .builtin b) (ha : c.args = #[x, y]) (ht : c.argTypes = #[t, t]) : c = { callee := .builtin b, args := #[x, y], argTypes := #[t, t] } := by
  cases c; simp_all
theorem types2 {ts : Array TypeId} {t u : TypeId} (h : ts.size = 2) (h0 : ts[0]? = some t) (h1 : ts[1]? = some u) : ts = #[t, u] := by
  apply Array.ext
  · simpa using h
  · intro i hi hj
    have hj' : i < 2 := by simpa using hj
    rcases Nat.lt_or_ge i 1 with h2 | h2
    · have : i = 0 := by omega
      subst this
      obtain ⟨_, h3⟩ := Array.getElem?_eq_some_iff.1 h0
      simpa using h3
    · have : i = 1 := by omega
      subst this
      obtain ⟨_, h3⟩ := Array.getElem?_eq_some_iff.1 h1
      simpa using h3
theorem opD_sound {ev : Operand → Option DV} {rd : Nat → Option Blk} {v : DV} {e : Eff} (hrel : HeapRel w N0 φ H) (hrd : ∀ id b, rd id = some b → H id = some b) (hslot : ∀ j, slot ≤ j → j < slot + wide → φ j = none)
    (hev : EvRel ev a w (Nn N0 φ H) φ) (h : C.opD slot ev rd o = some (v, e)) : Gives C N0 slot a w φ H o v e := by
  cases hop : o.op with
  | move x =>
    simp only [Cfg.opD, hop] at h
    obtain ⟨h1, rfl⟩ := val_some h
    exact gives_val hrel (by simp only [execOp, hop, Sem.run_pure]) (hev x v h1)
  | assign x =>
    simp only [Cfg.opD, hop] at h
    obtain ⟨h1, rfl⟩ := val_some h
    exact gives_val hrel (by simp only [execOp, hop, Sem.run_pure]) (hev x v h1)
  | pick c x y =>
    simp only [Cfg.opD, hop] at h
    split at h
    · rename_i t hc
      obtain ⟨h1, rfl⟩ := val_some h
      have hcv := hev c _ hc
      unfold Rep at hcv
      refine gives_val (x := if t then a.eval x else a.eval y) hrel ?_ ?_
      · simp only [execOp, hop, hcv, asBool, Sem.run_bind, Sem.run_pure, Result.andThen_ok]
      · cases t
        · exact hev y v h1
        · exact hev x v h1
    · cases h
  | alloc elem =>
    simp only [Cfg.opD, hop] at h
    split at h
    · rename_i z hz
      simp only [Option.some.injEq, Prod.mk.injEq] at h
      obtain ⟨rfl, rfl⟩ := h
      exact alloc_sound hrel hslot hop hz
    · cases h
  | box elem x =>
    simp only [Cfg.opD, hop] at h
    split at h
    · rename_i z hz
      split at h
      · cases h
      · rename_i hs
        simp only [Option.some.injEq, Prod.mk.injEq] at h
        obtain ⟨rfl, rfl⟩ := h
        exact box_sound hrel hslot hop (hev x z hz) (by simpa using hs)
    · cases h
  | build t parts =>
    simp only [Cfg.opD, hop] at h
    split at h
    · rename_i z ps fs hz hps hu
      split at h
      · rename_i pl hpl
        obtain ⟨h1, rfl⟩ := val_some h
        obtain ⟨cs, h2, rfl⟩ := Option.map_eq_some_iff.1 h1
        exact build_sound hrel hev hop hz hps (.inl ⟨fs, pl, hu, hpl, h2⟩)
      · cases h
    · rename_i z ps k elem hz hps hu
      split at h
      · rename_i n hn
        obtain ⟨h1, rfl⟩ := val_some h
        obtain ⟨cs, h2, rfl⟩ := Option.map_eq_some_iff.1 h1
        exact build_sound hrel hev hop hz hps (.inr ⟨k, elem, n, hu, hn, h2⟩)
      · cases h
    · cases h
  | buildSlice t len parts =>
    simp only [Cfg.opD, hop] at h
    split at h
    · rename_i elem hu
      split at h
      · rename_i z ps n hz hps hn
        split at h
        · rename_i hc
          simp only [Bool.and_eq_true, decide_eq_true_eq, List.all_eq_true, beq_iff_eq] at hc
          obtain ⟨⟨⟨⟨h1, h2⟩, h3⟩, h4⟩, h5⟩ := hc
          simp only [Option.some.injEq, Prod.mk.injEq] at h
          obtain ⟨rfl, rfl⟩ := h
          exact buildSlice_sound hrel hslot hev hop hu hz hps hn h1 h2 (fun p hp => by obtain ⟨⟨⟨q1, q2⟩, q3⟩, q4⟩ := h3 p hp; exact ⟨q1, q2, q3, q4⟩) h4 h5
        · cases h
      · cases h
    · cases h
  | load t x =>
    simp only [Cfg.opD, hop] at h
    split at h
    · rename_i p hp
      obtain ⟨h1, rfl⟩ := val_some h
      obtain ⟨y, h2, h3⟩ := loadD_sound hrel hrd (hev x p hp) h1
      exact gives_val hrel (by simp only [execOp, hop, Sem.run_bind, h3, Result.andThen_ok, Sem.run_pure]) h2
    · cases h
  | store t x y =>
    simp only [Cfg.opD, hop] at h
    split at h
    · rename_i p d hp hd
      exact storeD_sound hrel hrd hop (hev x p hp) (hev y d hd) h
    · cases h
  | nilCheck x =>
    simp only [Cfg.opD, hop] at h
    split at h
    · rename_i i j k hx
      split at h
      · rename_i hl
        simp only [Option.some.injEq, Prod.mk.injEq] at h
        obtain ⟨rfl, rfl⟩ := h
        obtain ⟨pb, h1, h2⟩ := ptr_live hrel hrd hl (hev x _ hx)
        refine gives_val hrel (x := a.eval x) ?_ (hev x _ hx)
        simp only [execOp, hop, h2, Sem.run_pure]
      · cases h
    · rename_i e' off hx
      simp only [Option.some.injEq, Prod.mk.injEq] at h
      obtain ⟨rfl, rfl⟩ := h
      have hxv := hev x _ hx
      refine gives_val hrel (x := a.eval x) ?_ hxv
      unfold Rep at hxv
      obtain ⟨_, _, b, o', x', hv, _⟩ := hxv
      simp only [execOp, hop, hv, Sem.run_pure]
    · rename_i f cs hx
      simp only [Option.some.injEq, Prod.mk.injEq] at h
      obtain ⟨rfl, rfl⟩ := h
      have hxv := hev x _ hx
      refine gives_val hrel (x := a.eval x) ?_ hxv
      unfold Rep at hxv
      obtain ⟨vs, hv, _⟩ := hxv
      simp only [execOp, hop, hv, Sem.run_pure]
    · rename_i t d hx
      simp only [Option.some.injEq, Prod.mk.injEq] at h
      obtain ⟨rfl, rfl⟩ := h
      have hxv := hev x _ hx
      refine gives_val hrel (x := a.eval x) ?_ hxv
      unfold Rep at hxv
      obtain ⟨vs, hv, _⟩ := hxv
      simp only [execOp, hop, hv, Sem.run_pure]
    · cases h
  | binOp op t ox oy ty =>
    simp only [Cfg.opD, hop] at h
    split at h
    · rename_i x y hx hy
      obtain ⟨h1, rfl⟩ := val_some h
      obtain ⟨r, h2, h3⟩ := binT_sound (hev ox x hx) (hev oy y hy) h1
      refine gives_val hrel ?_ h2
      simp only [execOp, hop]
      rw [Sem.run_bind, h3, Result.andThen_ok]
      rfl
    · cases h
  | unOp op t x =>
    simp only [Cfg.opD, hop] at h
    split at h
    · rename_i d hx
      obtain ⟨h1, rfl⟩ := val_some h
      obtain ⟨r, h2, h3⟩ := unD_sound (C := C) (hev x d hx) h1
      exact gives_val hrel (by simp only [execOp, hop, Sem.run_bind, h3, Result.andThen_ok, Sem.run_pure]) h2
    · cases h
  | convert src dst x =>
    simp only [Cfg.opD, hop] at h
    split at h
    · rename_i d hx
      obtain ⟨h1, rfl⟩ := val_some h
      exact convD_sound hrel hrd hop (hev x d hx) h1
    · cases h
  | makeInterface t x =>
    simp only [Cfg.opD, hop] at h
    split at h
    · cases h
    · rename_i d dd hn hx hu
      simp only [Option.some.injEq, Prod.mk.injEq] at h
      obtain ⟨rfl, rfl⟩ := h
      refine gives_val hrel (x := .iface t (a.eval x)) ?_ (by unfold Rep; exact ⟨_, rfl, hev x d hx⟩)
      have := makeInterface_run (C := C) (w := w) (x := a.eval x) hu (fun ms q => hn ms q)
      simp only [execOp, hop, Sem.run_bind, this, Result.andThen_ok, Sem.run_pure]
    · cases h
  | makeFunc fn first cap =>
    cases fn with
    | func f =>
      simp only [Cfg.opD, hop] at h
      split at h
      · rename_i c h1 h2
        simp only [Option.some.injEq, Prod.mk.injEq] at h
        obtain ⟨rfl, rfl⟩ := h
        have hf0 : first = #[] := by
          have := mapO_len h1
          exact Array.eq_empty_of_size_eq_zero (by simpa using this.symm)
        refine gives_val hrel (x := .func (.func f) #[] (cap.map a.eval)) ?_ ?_
        · subst hf0
          simp only [execOp, hop, Instr.makeFunc, Sem.run_bind, Sem.run_pure, Result.andThen_ok, Array.map_empty]
        · unfold Rep
          exact ⟨_, rfl, by simpa using mapO_ev hev h2⟩
      · cases h
    | _ => simp [Cfg.opD, hop] at h
  | makeSlice t ol oc =>
    simp only [Cfg.opD, hop] at h
    split at h
    · rename_i elem l c hu hl hc
      split at h
      · rename_i z n i hz hn hi
        split at h
        · rename_i hcc
          simp only [Bool.and_eq_true, decide_eq_true_eq, beq_iff_eq] at hcc
          obtain ⟨⟨⟨⟨⟨⟨h1, h2⟩, h3⟩, h4⟩, h5⟩, h6⟩, h7⟩ := hcc
          simp only [Option.some.injEq, Prod.mk.injEq] at h
          obtain ⟨rfl, rfl⟩ := h
          have hlv := hev ol _ hl
          have hcv := hev oc _ hc
          unfold Rep at hlv hcv
          exact makeSlice_sound hrel hslot hop hlv hcv hu hz hn hi h1 h2 h3 h4 h5 h6 h7
        · cases h
      · cases h
    · cases h
  | slice t x lo hi mx =>
    simp only [Cfg.opD, hop] at h
    split at h
    · rename_i d lo' hi' mx' e' hx hlo hhi hmx hu
      split at h
      · rename_i n hn
        split at h
        · rename_i h0
          obtain ⟨h1, rfl⟩ := val_some h
          obtain ⟨i, hi2, rfl⟩ := size_info hn
          exact sliceD_sound hrel hrd hop hu hi2 h0 (hev x d hx) (optInt_sound hev hlo) (optInt_sound hev hhi) (optInt_sound hev hmx) h1
        · cases h
      · cases h
    · rename_i d lo' hi' mx' hx hlo hhi hmx hu
      obtain ⟨h1, rfl⟩ := val_some h
      exact sliceS_sound hrel hop hu (hev x d hx) (optInt_sound hev hlo) (optInt_sound hev hhi) (optInt_sound hev hmx) h1
    · cases h
  | fieldAddr s x f =>
    simp only [Cfg.opD, hop] at h
    split at h
    · rename_i id ix off fd hx hf
      split at h
      · rename_i hc
        simp only [Bool.and_eq_true] at hc
        simp only [Option.some.injEq, Prod.mk.injEq] at h
        obtain ⟨rfl, rfl⟩ := h
        obtain ⟨pb, h1, h2⟩ := ptr_live hrel hrd hc.2 (hev x _ hx)
        refine gives_val hrel (x := .pointer (some ⟨pb.b, ix * pb.sz + (off + fd.offset), none⟩)) ?_ (ptr_rep h1)
        have := fieldAt_run (w := w) hf hc.1 pb.b (ix * pb.sz + off)
        rw [Nat.add_assoc] at this
        simp only [execOp, hop, h2, Sem.run_bind, this, Result.andThen_ok, Sem.run_pure]
      · cases h
    · rename_i e' off fd hx hf
      split at h
      · rename_i hc
        simp only [Option.some.injEq, Prod.mk.injEq] at h
        obtain ⟨rfl, rfl⟩ := h
        have hxv := hev x _ hx
        unfold Rep at hxv
        obtain ⟨hi, hs, b, o', x', hv, hb, hn, h1, h2, h3⟩ := hxv
        refine gives_val hrel (x := .pointer (some ⟨b, o' + (off + fd.offset), none⟩)) ?_ (by unfold Rep; exact ⟨hi, hs, b, o', x', rfl, hb, hn, h1, h2, h3⟩)
        have := fieldAt_run (w := w) hf hc b (o' + off)
        rw [Nat.add_assoc] at this
        simp only [execOp, hop, hv, Sem.run_bind, this, Result.andThen_ok, Sem.run_pure]
      · cases h
    · cases h
  | field t x f =>
    simp only [Cfg.opD, hop] at h
    split at h
    · rename_i cs fd hx hf
      obtain ⟨h1, rfl⟩ := val_some h
      obtain ⟨y, h2, h3⟩ := field_sound hf (hev x _ hx) h1
      exact gives_val hrel (by simp only [execOp, hop, Sem.run_bind, h3, Result.andThen_ok, Sem.run_pure]) h2
    · cases h
  | indexAddr t x i =>
    simp only [Cfg.opD, hop] at h
    split at h
    · rename_i d k n hx hi
      obtain ⟨h1, rfl⟩ := val_some h
      obtain ⟨y, h2, h3⟩ := indexAddrD_sound (k := k) hrel hrd (hev x _ hx) h1
      have hiv := hev i _ hi
      unfold Rep at hiv
      exact gives_val hrel (by simp only [execOp, hop, hiv, Sem.run_bind, h3, Result.andThen_ok, Sem.run_pure]) h2
    · cases h
  | index t x i =>
    simp only [Cfg.opD, hop] at h
    split at h
    · rename_i d k n hx hi
      obtain ⟨h1, rfl⟩ := val_some h
      obtain ⟨y, h2, h3⟩ := indexD_sound (k := k) (hev x _ hx) h1
      have hiv := hev i _ hi
      unfold Rep at hiv
      exact gives_val hrel (by simp only [execOp, hop, hiv, Sem.run_bind, h3, Result.andThen_ok, Sem.run_pure]) h2
    · cases h
  | range t x =>
    simp only [Cfg.opD, hop] at h
    split at h
    · rename_i s hx hu
      simp only [Option.some.injEq, Prod.mk.injEq] at h
      obtain ⟨rfl, rfl⟩ := h
      exact range_sound hrel hslot hop hu (hev x _ hx)
    · cases h
  | next x isS =>
    cases isS with
    | false => simp [Cfg.opD, hop] at h
    | true =>
      simp only [Cfg.opD, hop] at h
      split at h
      · rename_i id hx
        split at h
        · rename_i s pos hb
          obtain ⟨k1, k2⟩ := next_sound (slot := slot) hrel hrd hop (hev x _ hx) hb
          split at h
          · rename_i c k hck
            simp only [Option.some.injEq, Prod.mk.injEq] at h
            obtain ⟨rfl, rfl⟩ := h
            exact k1 c k hck
          · rename_i hck
            simp only [Option.some.injEq, Prod.mk.injEq] at h
            obtain ⟨rfl, rfl⟩ := h
            exact k2 hck
        · cases h
      · cases h
  | typeAssert x xt asserted ok =>
    simp only [Cfg.opD, hop] at h
    split at h
    · rename_i d hx
      obtain ⟨h1, rfl⟩ := val_some h
      obtain ⟨y, h2, h3⟩ := asserts_sound (xt := xt) (hev x _ hx) h1
      exact gives_val hrel (by simp only [execOp, hop, Sem.run_bind, h3, Result.andThen_ok, Sem.run_pure]) h2
    · cases h
  | extract x ix =>
    simp only [Cfg.opD, hop] at h
    split at h
    · rename_i vs hx
      obtain ⟨h1, rfl⟩ := val_some h
      have hxv := hev x _ hx
      unfold Rep at hxv
      obtain ⟨us, hv, h2⟩ := hxv
      obtain ⟨y, h3, h4⟩ := h2.get ix h1
      refine gives_val hrel ?_ h4
      have h3' : us[ix]? = some y := by simpa using h3
      simp only [execOp, hop, hv, Instr.extract, h3', Sem.run_bind, Sem.run_pure, Result.andThen_ok]
    · cases h
  | call c =>
    simp only [Cfg.opD, hop] at h
    cases hcal : c.callee with
    | value f => simp [hcal] at h
    | invoke r n => simp [hcal] at h
    | builtin b =>
      simp only [hcal] at h
      cases b with
      | len =>
        dsimp only at h
        split at h
        · rename_i x d hx hu
          split at h
          · rename_i hl
            obtain ⟨h1, rfl⟩ := val_some h
            obtain ⟨n, h2, rfl⟩ := Option.map_eq_some_iff.1 h1
            obtain ⟨ox, hox, hxe⟩ := bind_ev hx
            obtain ⟨t, ht, htu⟩ := Option.bind_eq_some_iff.1 hu
            refine gives_val hrel (x := .int .i64 n) (exec_builtin hop hcal ?_) (by unfold Rep; rfl)
            have := lenD_sound (C := C) htu (hev ox x hxe) h2 (fun id off len cap q => by
              subst q
              obtain ⟨b, hb⟩ := Option.isSome_iff_exists.1 hl
              obtain ⟨pb, h3, _⟩ := hrel.here id b (hrd _ _ hb)
              exact ⟨pb, h3⟩) c.argTypes o.type (c.args.map a.eval) ht (arg_map hox)
            simp only [builtin, Sem.run_bind, this, Result.andThen_ok, Sem.run_pure]
          · cases h
        · cases h
      | cap =>
        dsimp only at h
        split at h
        · rename_i id off len cap e' hx hu
          obtain ⟨ox, hox, hxe⟩ := bind_ev hx
          obtain ⟨t, ht, htu⟩ := Option.bind_eq_some_iff.1 hu
          split at h
          · rename_i r hr
            split at h
            · rename_i h0
              obtain ⟨h1, rfl⟩ := val_some h
              obtain ⟨n, h2, rfl⟩ := Option.map_eq_some_iff.1 h1
              obtain ⟨pb, cur, vs, rest, k1, k2, k3, k4, k5, k6, k7, k8, k9, k10⟩ := hrel.row (hrd _ _ (rowAt_some hr))
              have hxv := hev ox _ hxe
              unfold Rep at hxv
              obtain ⟨_, q, hq, hv⟩ := hxv
              rw [k1] at hq
              obtain ⟨cc, hv, hlc, hcap⟩ := hv pb (by simpa using hq.symm)
              have hcn : cc = n := by
                unfold capOf at h2
                cases cap with
                | some c' => simp only [Option.some.injEq] at h2; subst h2; exact hcap.1
                | none =>
                  dsimp only at h2 hcap
                  obtain ⟨e0, he0, rfl⟩ := Option.map_eq_some_iff.1 h2
                  have h11 := k5 e0 he0
                  have h12 : off + cc = e0 := Nat.eq_of_mul_eq_mul_right (by omega : 0 < pb.sz) (hcap.trans (h11.trans (by rw [k4])))
                  omega
              subst hcn
              refine gives_val hrel (x := .int .i64 cc) (exec_builtin hop hcal ?_) (by unfold Rep; rfl)
              have hrun : (Builtin.cap_ c.argTypes o.type (c.args.map a.eval)).run C.P w = .ok (.int .i64 cc) w := by
                unfold Builtin.cap_
                simp only [ht, arg_map hox, hv, Sem.run_bind, run_underlying htu, Result.andThen_ok]
                rfl
              simp only [builtin, Sem.run_bind, hrun, Result.andThen_ok, Sem.run_pure]
            · cases h
          · cases h
        · rename_i es e' hx hu
          obtain ⟨ox, hox, hxe⟩ := bind_ev hx
          obtain ⟨t, ht, htu⟩ := Option.bind_eq_some_iff.1 hu
          simp only [Option.some.injEq, Prod.mk.injEq] at h
          obtain ⟨rfl, rfl⟩ := h
          have hxv := hev ox _ hxe
          unfold Rep at hxv
          obtain ⟨_, A, cc, hv, htt, _⟩ := hxv
          have := htt rfl
          subst this
          refine gives_val hrel (x := .int .i64 es.length) (exec_builtin hop hcal ?_) (by unfold Rep; rfl)
          have hrun : (Builtin.cap_ c.argTypes o.type (c.args.map a.eval)).run C.P w = .ok (.int .i64 es.length) w := by
            unfold Builtin.cap_
            simp only [ht, arg_map hox, hv, Sem.run_bind, run_underlying htu, Result.andThen_ok]
            rfl
          simp only [builtin, Sem.run_bind, hrun, Result.andThen_ok, Sem.run_pure]
        · cases h
      | append =>
        dsimp only at h
        split at h
        · rename_i s x elem hs hx hu
          split at h
          · rename_i n i hn hi
            split at h
            · rename_i hc
              simp only [Bool.and_eq_true, decide_eq_true_eq, beq_iff_eq] at hc
              obtain ⟨⟨⟨⟨h0, h1⟩, h2⟩, h3⟩, h4⟩ := hc
              obtain ⟨os, hos, hse⟩ := bind_ev hs
              obtain ⟨ox, hox, hxe⟩ := bind_ev hx
              obtain ⟨t, ht, htu⟩ := Option.bind_eq_some_iff.1 hu
              obtain ⟨z, hz, hzs⟩ := Option.map_eq_some_iff.1 h4
              obtain ⟨i', hi', hn'⟩ := size_info hn
              rw [hi] at hi'
              simp only [Option.some.injEq] at hi'
              subst hi'
              subst hn'
              have hargs := args2 h2 hos hox
              have htys := types2 h3 ht (h1.trans ht)
              have hce := call_eta hcal hargs htys
              exact appendD_sound hrel hrd hslot (by rw [hop, hce]) htu hi hz hzs h0 (hev os s hse) (hev ox x hxe) h
            · cases h
          · cases h
        · cases h
      | copy =>
        dsimp only at h
        split at h
        · rename_i d x elem hd hx hu
          split at h
          · rename_i n hn
            split at h
            · rename_i hc
              simp only [Bool.and_eq_true, decide_eq_true_eq, beq_iff_eq] at hc
              obtain ⟨od, hod, hde⟩ := bind_ev hd
              obtain ⟨ox, hox, hxe⟩ := bind_ev hx
              obtain ⟨t, ht, htu⟩ := Option.bind_eq_some_iff.1 hu
              obtain ⟨i, hi, rfl⟩ := size_info hn
              exact copyD_sound hrel hrd hop hcal (args2 hc.2 hod hox) ht htu hi hc.1 (hev od d hde) (hev ox x hxe) h
            · cases h
          · cases h
        · cases h
      | min =>
        dsimp only at h
        split at h
        · rename_i x r hxs
          obtain ⟨h1, rfl⟩ := val_some h
          have hl := mapO_ev hev hxs
          unfold RepL at hl
          obtain ⟨u, us, he, hx, hr⟩ := hl
          obtain ⟨y, h2, h3⟩ := foldD_sound (C := C) hx hr h1
          refine gives_val hrel (exec_builtin hop hcal ?_) h2
          have hrun : (Builtin.min_ c.argTypes o.type (c.args.map a.eval)).run C.P w = .ok y w := by
            unfold Builtin.min_
            have : (c.args.map a.eval).toList = u :: us := by simpa using he
            rw [this]
            simpa using h3
          simp only [builtin, Sem.run_bind, hrun, Result.andThen_ok, Sem.run_pure]
        · cases h
      | max =>
        dsimp only at h
        split at h
        · rename_i x r hxs
          obtain ⟨h1, rfl⟩ := val_some h
          have hl := mapO_ev hev hxs
          unfold RepL at hl
          obtain ⟨u, us, he, hx, hr⟩ := hl
          obtain ⟨y, h2, h3⟩ := foldD_sound (C := C) hx hr h1
          refine gives_val hrel (exec_builtin hop hcal ?_) h2
          have hrun : (Builtin.max_ c.argTypes o.type (c.args.map a.eval)).run C.P w = .ok y w := by
            unfold Builtin.max_
            have : (c.args.map a.eval).toList = u :: us := by simpa using he
            rw [this]
            simpa using h3
          simp only [builtin, Sem.run_bind, hrun, Result.andThen_ok, Sem.run_pure]
        · cases h
      | _ => simp at h
  | _ => simp [Cfg.opD, hop] at h
end
end Go.PM
end
section
namespace Go.PM
open Go
set_option linter.unusedVariables false
mutual
theorem Rep.ren {w : World} {N N' : Nat → Prop} {φ φ' : Phi} {ρ : Nat → Option Nat} (hN : ∀ b, N' b → N b) (hρ : ∀ i j, ρ i = some j → φ' j = φ i) : ∀ {d : DV} {v : Value}, Rep w N φ d v → Rep w N' φ' (d.ren ρ) v
  | .undef, v, h => by unfold DV.ren; unfold Rep at h ⊢; exact h
  | .dead, v, h => by unfold DV.ren; unfold Rep at h ⊢; exact h
  | .bool b, v, h => by unfold DV.ren; unfold Rep at h ⊢; exact h
  | .int k n, v, h => by unfold DV.ren; unfold Rep at h ⊢; exact h
  | .str s, v, h => by unfold DV.ren; unfold Rep at h ⊢; exact h
  | .nilp, v, h => by unfold DV.ren; unfold Rep at h ⊢; exact h
  | .ptr id ix off, v, h => by
    unfold DV.ren
    unfold Rep at h
    obtain ⟨h0, q, h1, h2⟩ := h
    split
    · rename_i j hj
      unfold Rep
      exact ⟨h0, q, (hρ _ _ hj).trans h1, h2⟩
    · unfold Rep; exact h0
  | .iptr e off, v, h => by
    unfold DV.ren; unfold Rep at h ⊢
    obtain ⟨hi, hst, b, o, x, h1, hb, h2, h3, h4, h5⟩ := h
    exact ⟨hi, hst, b, o, x, h1, hb, fun n => h2 (hN b n), Rep.later ⟨Nat.le_refl _, fun _ _ _ => rfl, fun b _ n => hN b n, fun _ q h => absurd h (by simp)⟩ (Rep.imm (φ' := fun _ => none) hi h3), h4, h5⟩
  | .list es t, v, h => by
    unfold DV.ren; unfold Rep at h ⊢
    obtain ⟨hi, A, c, h1, h2, h3, h4⟩ := h
    refine ⟨hi, A, c, h1, h2, h3, ?_⟩
    rcases h4 with h4 | ⟨b, o, sz, vs, h5, hb, h6, h7, h8⟩
    · exact .inl h4
    · exact .inr ⟨b, o, sz, vs, h5, hb, fun n => h6 (hN b n), RepEs.later ⟨Nat.le_refl _, fun _ _ _ => rfl, fun b _ n => hN b n, fun _ q h => absurd h (by simp)⟩ (RepEs.imm (φ' := fun _ => none) hi h7), h8⟩
  | .ref id off len cap, v, h => by
    unfold DV.ren
    unfold Rep at h
    obtain ⟨h0, q, h1, h2⟩ := h
    split
    · rename_i j hj
      unfold Rep
      exact ⟨h0, q, (hρ _ _ hj).trans h1, h2⟩
    · unfold Rep; exact h0
  | .agg cs, v, h => by
    unfold DV.ren; unfold Rep at h ⊢
    obtain ⟨vs, h1, h2, h3⟩ := h
    exact ⟨vs, h1, RepL.ren hN hρ h2, h3⟩
  | .tuple cs, v, h => by
    unfold DV.ren; unfold Rep at h ⊢
    obtain ⟨vs, h1, h2⟩ := h
    exact ⟨vs, h1, RepL.ren hN hρ h2⟩
  | .func f cs, v, h => by
    unfold DV.ren; unfold Rep at h ⊢
    obtain ⟨vs, h1, h2⟩ := h
    exact ⟨vs, h1, RepL.ren hN hρ h2⟩
  | .nilf, v, h => by unfold DV.ren; unfold Rep at h ⊢; exact h
  | .iface t d, v, h => by
    unfold DV.ren; unfold Rep at h ⊢
    obtain ⟨x, h1, h2⟩ := h
    exact ⟨x, h1, Rep.ren hN hρ h2⟩
  | .nili, v, h => by unfold DV.ren; unfold Rep at h ⊢; exact h
theorem RepL.ren {w : World} {N N' : Nat → Prop} {φ φ' : Phi} {ρ : Nat → Option Nat} (hN : ∀ b, N' b → N b) (hρ : ∀ i j, ρ i = some j → φ' j = φ i) : ∀ {d : List DV} {v : List Value}, RepL w N φ d v → RepL w N' φ' (DV.rens ρ d) v
  | [], v, h => by unfold DV.rens; unfold RepL at h ⊢; exact h
  | d :: ds, v, h => by
    unfold DV.rens; unfold RepL at h ⊢
    obtain ⟨x, r, h1, h2, h3⟩ := h
    exact ⟨x, r, h1, Rep.ren hN hρ h2, RepL.ren hN hρ h3⟩
end
theorem ren_storable {ρ : Nat → Option Nat} {d : DV} (h : d.storable = true) : (d.ren ρ).storable = true := by
  cases d <;> first | exact h | rfl | (unfold DV.ren; split <;> rfl) | (exact absurd h (by simp [DV.storable]))
theorem RepEs.ren {w : World} {N N' : Nat → Prop} {φ φ' : Phi} {ρ : Nat → Option Nat} {sz : Nat} (hN : ∀ b, N' b → N b) (hρ : ∀ i j, ρ i = some j → φ' j = φ i) : ∀ {d : List DV} {v : List Value}, RepEs w N φ sz d v → RepEs w N' φ' sz (DV.rens ρ d) v
  | [], v, h => by unfold DV.rens; unfold RepEs at h ⊢; exact h
  | d :: ds, v, h => by
    unfold DV.rens; unfold RepEs at h ⊢
    obtain ⟨x, r, h1, h2, h3, h4, h5, h6⟩ := h
    exact ⟨x, r, h1, h2, ren_storable h3, h4, Rep.ren hN hρ h5, RepEs.ren hN hρ h6⟩
theorem Rep.weaken {w : World} {N N' : Nat → Prop} {φ φ' : Phi} (hN : ∀ b, N' b → N b) {d : DV} {v : Value} (hi : d.imm = true) (h : Rep w N φ d v) : Rep w N' φ' d v :=
  Rep.imm (φ := fun _ => none) hi (Rep.later ⟨Nat.le_refl _, fun _ _ _ => rfl, fun b _ n => hN b n, fun _ q h => absurd h (by simp)⟩ (Rep.imm (φ' := fun _ => none) hi h))
theorem RepEs.weaken {w : World} {N N' : Nat → Prop} {φ φ' : Phi} {sz : Nat} (hN : ∀ b, N' b → N b) {d : List DV} {v : List Value} (hi : DV.imms d = true) (h : RepEs w N φ sz d v) : RepEs w N' φ' sz d v :=
  RepEs.imm (φ := fun _ => none) hi (RepEs.later ⟨Nat.le_refl _, fun _ _ _ => rfl, fun b _ n => hN b n, fun _ q h => absurd h (by simp)⟩ (RepEs.imm (φ' := fun _ => none) hi h))
theorem rens_len (ρ : Nat → Option Nat) : ∀ l : List DV, (DV.rens ρ l).length = l.length
  | [] => rfl
  | d :: l => by unfold DV.rens; simp [rens_len ρ l]
theorem Blk.ren_fz (ρ : Nat → Option Nat) (b : Blk) : (b.ren ρ).fz = b.fz := by
  cases b with
  | row r => simp only [Blk.ren]; split <;> rfl
  | siter s p => rfl
theorem BlkRep.ren {w : World} {N N' : Nat → Prop} {φ φ' : Phi} {ρ : Nat → Option Nat} (hN : ∀ b, N' b → N b) (hρ : ∀ i j, ρ i = some j → φ' j = φ i) {blk : Blk} {pb : PB} (h : BlkRep w N φ blk pb) : BlkRep w N' φ' (blk.ren ρ) pb := by
  cases blk with
  | row r =>
    obtain ⟨cur, vs, rest, h1, h2, h3, h4, h5, h6, h7, h8⟩ := h
    simp only [Blk.ren]
    split
    · rename_i hl
      exact ⟨cur, vs, rest, h1, h2, h3, h4, h5.weaken hN (h7 hl), h6, h7, h8⟩
    · rename_i hl
      exact ⟨cur, vs, rest, h1, h2, h3, h4, h5.ren hN hρ, h6, fun h => absurd h hl, h8⟩
  | siter s p => exact h
theorem placeFrom_some : ∀ {l : List Nat} {k i j : Nat}, placeFrom l k i = some j → k ≤ j ∧ l[j - k]? = some i
  | [], k, i, j, h => by cases h
  | x :: l, k, i, j, h => by
    simp only [placeFrom] at h
    split at h
    · rename_i hx
      simp only [Option.some.injEq] at h
      subst h; subst hx
      exact ⟨Nat.le_refl _, by simp⟩
    · obtain ⟨h1, h2⟩ := placeFrom_some h
      refine ⟨by omega, ?_⟩
      rw [show j - k = (j - (k + 1)) + 1 by omega]
      simpa using h2
theorem place_some {l : List Nat} {i j : Nat} (h : place l i = some j) : l[j]? = some i := by
  have := placeFrom_some h
  simpa using this.2
theorem placeFrom_of : ∀ {l : List Nat} {k i : Nat}, i ∈ l → ∃ j, placeFrom l k i = some j
  | [], k, i, h => absurd h (by simp)
  | x :: l, k, i, h => by
    simp only [placeFrom]
    by_cases hx : i = x
    · exact ⟨k, if_pos hx⟩
    · rw [if_neg hx]
      exact placeFrom_of ((List.mem_cons.1 h).resolve_left hx)
theorem collect_nodup {h : Nat → Option Blk} : ∀ {n : Nat} {todo acc ids : List Nat}, collect h n todo acc = some ids → acc.Nodup → ids.Nodup ∧ (∀ i ∈ ids, i ∈ acc ∨ ∃ b, h i = some b) ∧ acc <+: ids
  | n, [], acc, ids, hc, hn => by
    unfold collect at hc
    simp only [Option.some.injEq] at hc; subst hc
    exact ⟨hn, fun i hi => .inl hi, List.prefix_refl _⟩
  | 0, i :: r, acc, ids, hc, hn => by unfold collect at hc; cases hc
  | n + 1, i :: r, acc, ids, hc, hn => by
    unfold collect at hc
    split at hc
    · exact collect_nodup hc hn
    · rename_i hnc
      split at hc
      · rename_i b hb
        have hni : i ∉ acc := by simpa using hnc
        obtain ⟨h1, h2, h3⟩ := collect_nodup hc (by
          rw [List.nodup_append]
          exact ⟨hn, by simp, fun x hx y hy => by simp at hy; subst hy; exact fun e => hni (e ▸ hx)⟩)
        refine ⟨h1, fun j hj => ?_, (List.prefix_append acc [i]).trans h3⟩
        rcases h2 j hj with h4 | h4
        · rcases List.mem_append.1 h4 with h5 | h5
          · exact .inl h5
          · simp at h5; subst h5; exact .inr ⟨b, hb⟩
        · exact .inr h4
      · exact collect_nodup hc hn
def phiOf (ids : List Nat) (φ : Phi) : Phi := fun j => (ids[j]?).bind φ
theorem heapOf_pack (ids : List Nat) (H : Heap) (j : Nat) : heapOf (packIds ids H) j = (ids[j]?).bind fun i => (H i).map (Blk.ren (place ids)) := by
  unfold heapOf packIds
  rw [List.getElem?_map]
  cases ids[j]? <;> rfl
theorem place_phi (ids : List Nat) (φ : Phi) : ∀ i j, place ids i = some j → phiOf ids φ j = φ i := fun i j h => by
  unfold phiOf
  rw [place_some h]
  rfl
theorem pack_own {φ : Phi} {H : Heap} {ids : List Nat} {b : Nat} (h : Own (phiOf ids φ) (heapOf (packIds ids H)) b) : Own φ H b ∧ ∃ id ∈ ids, ∃ pb, φ id = some (some pb) ∧ pb.b = b := by
  obtain ⟨j, pb, blk, h1, h2, h3, rfl⟩ := h
  unfold phiOf at h1
  obtain ⟨i, hi, h1⟩ := Option.bind_eq_some_iff.1 h1
  rw [heapOf_pack, hi] at h2
  simp only [Option.bind_some] at h2
  obtain ⟨blk', h4, rfl⟩ := Option.map_eq_some_iff.1 h2
  rw [Blk.ren_fz] at h3
  exact ⟨⟨i, pb, blk', h1, h4, h3, rfl⟩, i, List.mem_of_getElem? hi, pb, h1, rfl⟩
theorem HeapRel.pack {w : World} {N0 N0' : Nat → Prop} {φ : Phi} {H : Heap} (h : HeapRel w N0 φ H) {ids : List Nat} (hn : ids.Nodup) (hN : ∀ b, N0' b → Nn N0 φ H b) (hout : ∀ id ∈ ids, ∀ pb, φ id = some (some pb) → ¬ N0' pb.b) :
    HeapRel w N0' (phiOf ids φ) (heapOf (packIds ids H)) := by
  have hNn : ∀ b, Nn N0' (phiOf ids φ) (heapOf (packIds ids H)) b → Nn N0 φ H b := fun b hb => hb.elim (hN b) fun ho => .inr (pack_own ho).1
  refine ⟨fun j hj => ?_, fun j blk hj => ?_, fun j j' pb pb' h1 h2 hne => ?_, fun j pb h1 => ?_, fun b hb => ?_⟩
  · rw [heapOf_pack] at hj
    unfold phiOf
    cases hi : ids[j]? with
    | none => exact .inl rfl
    | some i =>
      rw [hi] at hj
      simp only [Option.bind_some, Option.map_eq_none_iff] at hj ⊢
      exact h.gone i hj
  · rw [heapOf_pack] at hj
    obtain ⟨i, hi, hj⟩ := Option.bind_eq_some_iff.1 hj
    obtain ⟨blk', h1, rfl⟩ := Option.map_eq_some_iff.1 hj
    obtain ⟨pb, h2, h3⟩ := h.here i blk' h1
    refine ⟨pb, ?_, h3.ren hNn (place_phi ids φ)⟩
    unfold phiOf
    rw [hi]
    exact h2
  · unfold phiOf at h1 h2
    obtain ⟨i, hi, h1⟩ := Option.bind_eq_some_iff.1 h1
    obtain ⟨i', hi', h2⟩ := Option.bind_eq_some_iff.1 h2
    refine h.apart i i' pb pb' h1 h2 fun e => ?_
    subst e
    exact hne ((List.getElem?_inj (List.getElem?_eq_some_iff.1 hi).1 hn).1 (hi.trans hi'.symm))
  · unfold phiOf at h1
    obtain ⟨i, hi, h1⟩ := Option.bind_eq_some_iff.1 h1
    exact hout i (List.mem_of_getElem? hi) pb h1
  · rcases hN b hb with h1 | ⟨id, pb, blk, h1, h2, h3, rfl⟩
    · exact h.lim b h1
    · exact h.lt h1
mutual
theorem freeze_rep {w : World} {N0 N' : Nat → Prop} {φ φ' : Phi} {H : Heap} {rd : Nat → Option Blk} (hrel : HeapRel w N0 φ H) (hrd : ∀ id b, rd id = some b → H id = some b) (hN : ∀ b, N' b → Nn N0 φ H b) :
    ∀ {d d' : DV} {v : Value}, (∀ id ∈ d.ids, ∀ pb, φ id = some (some pb) → ¬ N' pb.b) → d.freeze rd = some d' → Rep w (Nn N0 φ H) φ d v → Rep w N' φ' d' v ∧ d'.imm = true
  | .undef, d', v, hl, hf, h => by unfold DV.freeze at hf; simp only [Option.some.injEq] at hf; subst hf; exact ⟨h.weaken hN rfl, rfl⟩
  | .dead, d', v, hl, hf, h => by unfold DV.freeze at hf; cases hf
  | .bool b, d', v, hl, hf, h => by unfold DV.freeze at hf; simp only [Option.some.injEq] at hf; subst hf; exact ⟨h.weaken hN rfl, rfl⟩
  | .int k n, d', v, hl, hf, h => by unfold DV.freeze at hf; simp only [Option.some.injEq] at hf; subst hf; exact ⟨h.weaken hN rfl, rfl⟩
  | .str s, d', v, hl, hf, h => by unfold DV.freeze at hf; simp only [Option.some.injEq] at hf; subst hf; exact ⟨h.weaken hN rfl, rfl⟩
  | .nilp, d', v, hl, hf, h => by unfold DV.freeze at hf; simp only [Option.some.injEq] at hf; subst hf; exact ⟨h.weaken hN rfl, rfl⟩
  | .ptr id ix off, d', v, hl, hf, h => by
    unfold DV.freeze at hf
    split at hf
    · rename_i r hr
      split at hf
      · rename_i e he
        split at hf
        · rename_i hi
          simp only [Option.some.injEq] at hf; subst hf
          obtain ⟨pb, cur, vs, rest, h1, h2, h3, h4, h5, h6, h7, h8, h9, h10⟩ := hrel.row (hrd _ _ (rowAt_some hr))
          have hn := hl id (by simp [DV.ids]) pb h1
          unfold Rep at h
          obtain ⟨_, q, hq, hvv⟩ := h
          rw [h1] at hq
          have hv := hvv pb (by simpa using hq.symm)
          obtain ⟨x, k1, k2, k3, k4, k5⟩ := RepEs.get ix h6 he
          have hie := imms_mem hi (List.mem_of_getElem? he)
          refine ⟨?_, rfl⟩
          unfold Rep
          refine ⟨hie, k2, pb.b, ix * pb.sz, x, hv, hrel.lt h1, hn, k1.weaken hN hie, k4, fun k y hk => ?_⟩
          have h11 : cur.toList[ix * pb.sz + k]? = some y := by
            rw [← k5, List.getElem?_take, List.getElem?_drop] at hk
            split at hk
            · rw [h7, h4]
              exact List.getElem?_append_left (List.getElem?_eq_some_iff.1 hk).1 ▸ hk
            · cases hk
          have := h10 _ _ h11
          rwa [Nat.zero_add] at this
        · cases hf
      · cases hf
    · cases hf
  | .iptr e off, d', v, hl, hf, h => by unfold DV.freeze at hf; simp only [Option.some.injEq] at hf; subst hf; exact ⟨h.weaken hN rfl, rfl⟩
  | .list es t, d', v, hl, hf, h => by
    unfold DV.freeze at hf; simp only [Option.some.injEq] at hf; subst hf
    have h2 : Rep w N' φ' (.list es t) v := h.weaken hN rfl
    refine ⟨?_, rfl⟩
    unfold Rep at h2 ⊢
    obtain ⟨hi, A, c, h1, _, h3, h4⟩ := h2
    exact ⟨hi, A, c, h1, fun q => absurd q (by simp), h3, h4⟩
  | .ref id off len cap, d', v, hl, hf, h => by
    unfold DV.freeze at hf
    split at hf
    · rename_i r hr
      split at hf
      · rename_i hc
        simp only [Bool.and_eq_true, decide_eq_true_eq] at hc
        simp only [Option.some.injEq] at hf; subst hf
        refine ⟨?_, rfl⟩
        have he : elemsOf rd (.ref id off len cap) = some ((r.elems.drop off).take len) := by
          simp [elemsOf, hr, hc.1, hc.2]
        obtain ⟨iy, A, c, hv, hlc, hm⟩ := elemsOf_rep hrel hrd h he
        obtain ⟨pb, cur, vs, rest, h1, h2, h3, h4, h5, h6, h7, h8, h9, h10⟩ := hrel.row (hrd _ _ (rowAt_some hr))
        have hn := hl id (by simp [DV.ids]) pb h1
        unfold Rep at h
        obtain ⟨_, q, hq, hvv⟩ := h
        rw [h1] at hq
        obtain ⟨c', hv', hlc', _⟩ := hvv pb (by simpa using hq.symm)
        unfold Rep
        refine ⟨iy, A, c, hv, fun q => absurd q (by simp), hlc, hm.imp (fun q => q) ?_⟩
        rintro ⟨b, o, sz, us, rfl, hE, hcell⟩
        have hb : b = pb.b := by
          rw [hv'] at hv
          simp only [Value.slice.injEq, Option.some.injEq, Addr.mk.injEq] at hv
          exact hv.1.1.symm
        subst hb
        exact ⟨pb.b, o, sz, us, rfl, hrel.lt h1, hn, hE.weaken hN iy, hcell⟩
      · cases hf
    · cases hf
  | .agg cs, d', v, hl, hf, h => by
    unfold DV.freeze at hf
    obtain ⟨ds, h1, rfl⟩ := Option.map_eq_some_iff.1 hf
    unfold Rep at h
    obtain ⟨vs, rfl, h2, h3⟩ := h
    obtain ⟨h4, h5⟩ := freezes_rep (φ' := φ') hrel hrd hN (by simpa [DV.ids] using hl) h1 h2
    exact ⟨by unfold Rep; exact ⟨vs, rfl, h4, h3⟩, by simpa [DV.imm] using h5⟩
  | .tuple cs, d', v, hl, hf, h => by
    unfold DV.freeze at hf
    obtain ⟨ds, h1, rfl⟩ := Option.map_eq_some_iff.1 hf
    unfold Rep at h
    obtain ⟨vs, rfl, h2⟩ := h
    obtain ⟨h4, h5⟩ := freezes_rep (φ' := φ') hrel hrd hN (by simpa [DV.ids] using hl) h1 h2
    exact ⟨by unfold Rep; exact ⟨vs, rfl, h4⟩, by simpa [DV.imm] using h5⟩
  | .func f cs, d', v, hl, hf, h => by
    unfold DV.freeze at hf
    obtain ⟨ds, h1, rfl⟩ := Option.map_eq_some_iff.1 hf
    unfold Rep at h
    obtain ⟨vs, rfl, h2⟩ := h
    obtain ⟨h4, h5⟩ := freezes_rep (φ' := φ') hrel hrd hN (by simpa [DV.ids] using hl) h1 h2
    exact ⟨by unfold Rep; exact ⟨vs, rfl, h4⟩, by simpa [DV.imm] using h5⟩
  | .nilf, d', v, hl, hf, h => by unfold DV.freeze at hf; simp only [Option.some.injEq] at hf; subst hf; exact ⟨h.weaken hN rfl, rfl⟩
  | .iface t d, d', v, hl, hf, h => by
    unfold DV.freeze at hf
    obtain ⟨e, h1, rfl⟩ := Option.map_eq_some_iff.1 hf
    unfold Rep at h
    obtain ⟨x, rfl, h2⟩ := h
    obtain ⟨h4, h5⟩ := freeze_rep (φ' := φ') hrel hrd hN (by simpa [DV.ids] using hl) h1 h2
    exact ⟨by unfold Rep; exact ⟨x, rfl, h4⟩, by simpa [DV.imm] using h5⟩
  | .nili, d', v, hl, hf, h => by unfold DV.freeze at hf; simp only [Option.some.injEq] at hf; subst hf; exact ⟨h.weaken hN rfl, rfl⟩
theorem freezes_rep {w : World} {N0 N' : Nat → Prop} {φ φ' : Phi} {H : Heap} {rd : Nat → Option Blk} (hrel : HeapRel w N0 φ H) (hrd : ∀ id b, rd id = some b → H id = some b) (hN : ∀ b, N' b → Nn N0 φ H b) :
    ∀ {d d' : List DV} {v : List Value}, (∀ id ∈ DV.idss d, ∀ pb, φ id = some (some pb) → ¬ N' pb.b) → DV.freezes rd d = some d' → RepL w (Nn N0 φ H) φ d v → RepL w N' φ' d' v ∧ DV.imms d' = true
  | [], d', v, hl, hf, h => by
    unfold DV.freezes at hf; simp only [Option.some.injEq] at hf; subst hf
    unfold RepL at h ⊢; exact ⟨h, rfl⟩
  | d :: ds, d', v, hl, hf, h => by
    unfold DV.freezes at hf
    split at hf
    · rename_i a l h1 h2
      simp only [Option.some.injEq] at hf; subst hf
      unfold RepL at h
      obtain ⟨x, r, rfl, h3, h4⟩ := h
      have hl1 : ∀ id ∈ d.ids, ∀ pb, φ id = some (some pb) → ¬ N' pb.b := fun id hid => hl id (by unfold DV.idss; exact List.mem_append_left _ hid)
      have hl2 : ∀ id ∈ DV.idss ds, ∀ pb, φ id = some (some pb) → ¬ N' pb.b := fun id hid => hl id (by unfold DV.idss; exact List.mem_append_right _ hid)
      obtain ⟨h5, h6⟩ := freeze_rep (φ' := φ') hrel hrd hN hl1 h1 h3
      obtain ⟨h7, h8⟩ := freezes_rep (φ' := φ') hrel hrd hN hl2 h2 h4
      exact ⟨by unfold RepL; exact ⟨x, r, rfl, h5, h7⟩, by simp [DV.imms, h6, h8]⟩
    · cases hf
end
mutual
theorem Rep.scalar {w w' : World} {N N' : Nat → Prop} {φ φ' : Phi} : ∀ {d : DV} {v : Value}, d.scalar = true → Rep w N φ d v → Rep w' N' φ' d v
  | .undef, v, _, h => by unfold Rep at h ⊢; exact h
  | .dead, v, s, h => absurd s (by simp [DV.scalar])
  | .bool b, v, _, h => by unfold Rep at h ⊢; exact h
  | .int k n, v, _, h => by unfold Rep at h ⊢; exact h
  | .str s, v, _, h => by unfold Rep at h ⊢; exact h
  | .nilp, v, _, h => by unfold Rep at h ⊢; exact h
  | .ptr id ix off, v, s, h => absurd s (by simp [DV.scalar])
  | .iptr e off, v, s, h => absurd s (by simp [DV.scalar])
  | .list es t, v, s, h => absurd s (by simp [DV.scalar])
  | .ref id off len cap, v, s, h => absurd s (by simp [DV.scalar])
  | .agg cs, v, s, h => by
    unfold Rep at h ⊢
    obtain ⟨vs, h1, h2, h3⟩ := h
    exact ⟨vs, h1, RepL.scalar (by simpa [DV.scalar] using s) h2, h3⟩
  | .tuple cs, v, s, h => by
    unfold Rep at h ⊢
    obtain ⟨vs, h1, h2⟩ := h
    exact ⟨vs, h1, RepL.scalar (by simpa [DV.scalar] using s) h2⟩
  | .func f cs, v, s, h => by
    unfold Rep at h ⊢
    obtain ⟨vs, h1, h2⟩ := h
    exact ⟨vs, h1, RepL.scalar (by simpa [DV.scalar] using s) h2⟩
  | .nilf, v, _, h => by unfold Rep at h ⊢; exact h
  | .iface t d, v, s, h => by
    unfold Rep at h ⊢
    obtain ⟨x, h1, h2⟩ := h
    exact ⟨x, h1, Rep.scalar (by simpa [DV.scalar] using s) h2⟩
  | .nili, v, _, h => by unfold Rep at h ⊢; exact h
theorem RepL.scalar {w w' : World} {N N' : Nat → Prop} {φ φ' : Phi} : ∀ {d : List DV} {v : List Value}, DV.scalars d = true → RepL w N φ d v → RepL w' N' φ' d v
  | [], v, _, h => by unfold RepL at h ⊢; exact h
  | d :: ds, v, s, h => by
    unfold RepL at h ⊢
    obtain ⟨x, r, h1, h2, h3⟩ := h
    simp only [DV.scalars, Bool.and_eq_true] at s
    exact ⟨x, r, h1, Rep.scalar s.1 h2, RepL.scalar s.2 h3⟩
end
end Go.PM
end
section
namespace Go.PM
open Go
set_option linter.unusedVariables false
structure Back (N0 : Nat → Prop) (w : World) (φ : Phi) (H : Heap) (m : Nat) (w' : World) (φ' : Phi) (H' : Heap) (m' : Nat) : Prop where
  os : w'.os = w.os
  tape : w'.tape = w.tape
  output : w'.output = w.output
  size : w.heap.size ≤ w'.heap.size
  same : ∀ b, b < w.heap.size → ¬ Own φ H b → w'.heap[b]? = w.heap[b]?
  own : ∀ b, b < w.heap.size → Own φ' H' b → Own φ H b
  keep : ∀ id q, id < m → φ id = some q → φ' id = some q ∨ φ' id = some none
  old : ∀ id pb, φ' id = some (some pb) → pb.b < w.heap.size → ∃ id0 pb0, φ id0 = some (some pb0) ∧ pb0.b = pb.b
  rel : HeapRel w' N0 φ' H'
  tail : ∀ k, m' ≤ k → φ' k = none
  le : m ≤ m'
structure GlobRel (C : Cfg) (w : World) (N : Nat → Prop) : Prop where
  vals : ∀ g d, C.globs g = some d → d.imm = true ∧ Rep w N (fun _ => none) d (.pointer (some ⟨g, 0, none⟩))
  fix : ∀ g q, C.fix g = some q → ¬ N g ∧ ∃ o, w.heap[g]? = some o ∧ q o
section
variable {N0 N0' : Nat → Prop} {w w1 : World} {φ φ1 : Phi} {H : Heap} {ids : List Nat} {hs1 : List (Option Blk)} {slot : Nat}
def invTo (ids : List Nat) (slot n : Nat) (i : Nat) : Option Nat := match place ids i with
  | some k => some k
  | none => if slot ≤ i ∧ i < slot + (n - ids.length) then some (ids.length + (i - slot)) else none
theorem inv_back {n i k : Nat} (hle : ids.length ≤ n) (h : invTo ids slot n i = some k) : backTo ids slot n k = some i ∧ k < n ∧ (k < ids.length → i ∈ ids) := by
  unfold invTo at h
  split at h
  · rename_i k' hk
    simp only [Option.some.injEq] at h; subst h
    have := place_some hk
    have hlt := (List.getElem?_eq_some_iff.1 this).1
    exact ⟨by unfold backTo; rw [this], by omega, fun _ => List.mem_of_getElem? this⟩
  · split at h
    · rename_i hc
      simp only [Option.some.injEq] at h; subst h
      refine ⟨?_, by omega, fun hh => absurd hh (by omega)⟩
      unfold backTo
      rw [List.getElem?_eq_none (by omega)]
      simp only []
      rw [if_pos (by omega)]
      congr 1
      omega
    · cases h
theorem back_inv {n i k : Nat} (hn : ids.Nodup) (hslots : ∀ j, slot ≤ j → j < slot + (n - ids.length) → j ∉ ids) (hk : k < n) (h : backTo ids slot n k = some i) : invTo ids slot n i = some k := by
  unfold backTo at h
  split at h
  · rename_i j hj
    simp only [Option.some.injEq] at h; subst h
    obtain ⟨k', hk'⟩ := placeFrom_of (k := 0) (List.mem_of_getElem? hj)
    have h2 : place ids j = some k' := hk'
    have h3 := place_some h2
    have : k = k' := (List.getElem?_inj (List.getElem?_eq_some_iff.1 hj).1 hn).1 (hj.trans h3.symm)
    unfold invTo
    rw [h2, this]
  · rename_i hnone
    have hge : ids.length ≤ k := by simpa using hnone
    rw [if_pos hk] at h
    simp only [Option.some.injEq] at h; subst h
    have hni : slot + (k - ids.length) ∉ ids := hslots _ (by omega) (by omega)
    have : place ids (slot + (k - ids.length)) = none := by
      cases hp : place ids (slot + (k - ids.length)) with
      | none => rfl
      | some j => exact absurd (List.mem_of_getElem? (place_some hp)) hni
    unfold invTo
    rw [this]
    simp only []
    rw [if_pos (by omega)]
    congr 1
    omega
theorem put_back {ρ : Nat → Option Nat} {i : Nat} : ∀ (bs : List (Option Blk)) (j : Nat) (H : Heap), (∀ k k', j ≤ k → k < j + bs.length → j ≤ k' → k' < j + bs.length → ρ k = some i → ρ k' = some i → k = k') →
    (∀ k, j ≤ k → k < j + bs.length → ρ k = some i → (H.put (backEff ρ j bs)) i = (bs[k - j]?).bind fun b => b.map (Blk.ren ρ)) ∧ ((∀ k, j ≤ k → k < j + bs.length → ρ k ≠ some i) → (H.put (backEff ρ j bs)) i = H i)
  | [], j, H, hinj => ⟨fun k h1 h2 => absurd h2 (by simp; omega), fun _ => rfl⟩
  | b :: r, j, H, hinj => by
    have ih := fun H' => put_back (ρ := ρ) (i := i) r (j + 1) H' (fun k k' h1 h2 h3 h4 => hinj k k' (by omega) (by simp; omega) (by omega) (by simp; omega))
    unfold backEff
    split
    · rename_i i0 hi0
      simp only [Heap.put]
      obtain ⟨h1, h2⟩ := ih (fun j => if j = i0 then b.map (Blk.ren ρ) else H j)
      refine ⟨fun k hk1 hk2 hk => ?_, fun hne => ?_⟩
      · by_cases hkj : k = j
        · subst hkj
          have he : i0 = i := by rw [hi0] at hk; simpa using hk
          rw [h2 fun k' a1 a2 a3 => by
            have := hinj k k' (by omega) hk2 (by omega) (by simp; omega) hk a3
            omega]
          simp [he]
        · rw [h1 k (by omega) (by simp at hk2; omega) hk, show k - j = (k - (j + 1)) + 1 by omega, List.getElem?_cons_succ]
      · rw [h2 fun k' a1 a2 => hne k' (by omega) (by simp; omega)]
        have : i ≠ i0 := fun e => hne j (Nat.le_refl _) (by simp) (by rw [hi0, e])
        simp [this]
    · rename_i hi0
      obtain ⟨h1, h2⟩ := ih H
      refine ⟨fun k hk1 hk2 hk => ?_, fun hne => h2 fun k' a1 a2 => hne k' (by omega) (by simp; omega)⟩
      have hkj : k ≠ j := fun e => by subst e; rw [hi0] at hk; cases hk
      rw [h1 k (by omega) (by simp at hk2; omega) hk, show k - j = (k - (j + 1)) + 1 by omega, List.getElem?_cons_succ]
theorem back_sound (h : HeapRel w N0 φ H) (hn : ids.Nodup) (hids : ∀ i ∈ ids, φ i ≠ none) (hN1 : ∀ b, N0 b → N0' b)
    (hN2 : ∀ id pb blk, φ id = some (some pb) → H id = some blk → blk.fz = false → id ∉ ids → N0' pb.b)
    (B : Back N0' w (phiOf ids φ) (heapOf (packIds ids H)) ids.length w1 φ1 (heapOf hs1) hs1.length)
    (hslot : ∀ j, slot ≤ j → j < slot + wide → φ j = none) (hw : hs1.length ≤ ids.length + wide) :
    ∃ φ2, Step N0 w φ H w1 φ2 (H.put (backEff (backTo ids slot hs1.length) 0 hs1)) ∧
      (∀ d v, Rep w1 (Nn N0' φ1 (heapOf hs1)) φ1 d v → Rep w1 (Nn N0 φ2 (H.put (backEff (backTo ids slot hs1.length) 0 hs1))) φ2 (d.ren (backTo ids slot hs1.length)) v) ∧
      ∀ id, φ id = none → ¬ (slot ≤ id ∧ id < slot + wide) → φ2 id = none := by
  have hle := B.le
  have hslots : ∀ j, slot ≤ j → j < slot + (hs1.length - ids.length) → j ∉ ids := fun j h1 h2 hj => hids j hj (hslot j h1 (by omega))
  have hH2 : ∀ i, (H.put (backEff (backTo ids slot hs1.length) 0 hs1)) i = match invTo ids slot hs1.length i with
      | some k => (heapOf hs1 k).map (Blk.ren (backTo ids slot hs1.length))
      | none => H i := by
    intro i
    obtain ⟨h1, h2⟩ := put_back (ρ := backTo ids slot hs1.length) (i := i) hs1 0 H (fun k k' _ a1 _ a2 a3 a4 => by
      have b1 := back_inv hn hslots (by omega) a3
      have b2 := back_inv hn hslots (by omega) a4
      rw [b1] at b2
      simpa using b2)
    cases hi : invTo ids slot hs1.length i with
    | some k =>
      obtain ⟨a1, a2, _⟩ := inv_back hle hi
      rw [h1 k (Nat.zero_le _) (by omega) a1]
      unfold heapOf
      simp only [Nat.sub_zero]
      cases hs1[k]? with
      | none => rfl
      | some b => rfl
    | none =>
      refine h2 fun k _ a1 a2 => ?_
      have := back_inv hn hslots (by omega) a2
      rw [hi] at this
      cases this
  let φ2 : Phi := fun i => match invTo ids slot hs1.length i with | some k => φ1 k | none => φ i
  have hφ2 : ∀ i k, invTo ids slot hs1.length i = some k → φ2 i = φ1 k := fun i k hi => by simp only [φ2, hi]
  have hφ2' : ∀ i, invTo ids slot hs1.length i = none → φ2 i = φ i := fun i hi => by simp only [φ2, hi]
  have hρ : ∀ k j, backTo ids slot hs1.length k = some j → φ2 j = φ1 k := fun k j hk => by
    by_cases hkn : k < hs1.length
    · exact hφ2 _ _ (back_inv hn hslots hkn hk)
    · unfold backTo at hk
      split at hk
      · rename_i j' hj
        have := (List.getElem?_eq_some_iff.1 hj).1
        omega
      · rw [if_neg hkn] at hk
        cases hk
  have hNn : ∀ b, Nn N0 φ2 (H.put (backEff (backTo ids slot hs1.length) 0 hs1)) b → Nn N0' φ1 (heapOf hs1) b := by
    rintro b (hb | ⟨id, pb, blk, h1, h2, h3, rfl⟩)
    · exact .inl (hN1 b hb)
    · cases hi : invTo ids slot hs1.length id with
      | some k =>
        rw [hφ2 _ _ hi] at h1
        rw [hH2, hi] at h2
        obtain ⟨blk', h4, rfl⟩ := Option.map_eq_some_iff.1 h2
        rw [Blk.ren_fz] at h3
        exact .inr ⟨k, pb, blk', h1, h4, h3, rfl⟩
      | none =>
        rw [hφ2' _ hi] at h1
        rw [hH2, hi] at h2
        refine .inl (hN2 id pb blk h1 h2 h3 fun hid => ?_)
        obtain ⟨k, hk⟩ := placeFrom_of (k := 0) hid
        have hk' : place ids id = some k := hk
        unfold invTo at hi
        rw [hk'] at hi
        cases hi
  refine ⟨φ2, Step.gen h (fun i => (invTo ids slot hs1.length i).isSome = true) B.os B.tape B.output B.size (fun b hb hno => B.same b hb fun ho => hno (pack_own ho).1) (fun i ht => ?_) (fun i q hq => ?_) (fun i ht pb hp => ?_) (fun i ht pb blk h1 h2 h3 h4 => ?_) (fun i ht h1 => ?_) (fun L i ht blk h1 => ?_) (fun i ht i' pb pb' h1 h2 hne => ?_) (fun i ht pb h1 => ?_) (fun i ht pb h1 h2 => ?_),
    fun d v hd => hd.ren hNn hρ, fun i hi hns => ?_⟩
  · have hi : invTo ids slot hs1.length i = none := by simpa using ht
    exact ⟨hφ2' _ hi, by rw [hH2, hi]⟩
  · cases hi : invTo ids slot hs1.length i with
    | none => exact .inl (by rw [hφ2' _ hi]; exact hq)
    | some k =>
      rw [hφ2 _ _ hi]
      unfold invTo at hi
      split at hi
      · rename_i k' hk
        simp only [Option.some.injEq] at hi; subst hi
        have h5 := place_some hk
        exact B.keep k' q (List.getElem?_eq_some_iff.1 h5).1 (by unfold phiOf; rw [h5]; exact hq)
      · split at hi
        · rename_i hc
          have := hslot i hc.1 (by omega)
          rw [hq] at this
          cases this
        · cases hi
  · have hi : invTo ids slot hs1.length i = none := by simpa using ht
    refine B.same _ (h.lt hp) fun ho => ?_
    obtain ⟨_, id', hid', pb', h5, h6⟩ := pack_own ho
    by_cases he : i = id'
    · subst he
      obtain ⟨k, hk⟩ := placeFrom_of (k := 0) hid'
      have hk' : place ids i = some k := hk
      unfold invTo at hi
      rw [hk'] at hi
      cases hi
    · exact h.apart _ _ _ _ hp h5 he h6.symm
  · obtain ⟨k, hi⟩ := Option.isSome_iff_exists.1 ht
    rw [hφ2 _ _ hi] at h1
    rw [hH2, hi] at h2
    obtain ⟨blk', h5, rfl⟩ := Option.map_eq_some_iff.1 h2
    rw [Blk.ren_fz] at h3
    exact (pack_own (B.own _ h4 ⟨k, pb, blk', h1, h5, h3, rfl⟩)).1
  · obtain ⟨k, hi⟩ := Option.isSome_iff_exists.1 ht
    rw [hH2, hi] at h1
    simp only [Option.map_eq_none_iff] at h1
    rw [hφ2 _ _ hi]
    exact B.rel.gone k h1
  · obtain ⟨k, hi⟩ := Option.isSome_iff_exists.1 ht
    rw [hH2, hi] at h1
    obtain ⟨blk', h5, rfl⟩ := Option.map_eq_some_iff.1 h1
    obtain ⟨pb, h6, h7⟩ := B.rel.here k blk' h5
    exact ⟨pb, by rw [hφ2 _ _ hi]; exact h6, h7.ren hNn hρ⟩
  · obtain ⟨k, hi⟩ := Option.isSome_iff_exists.1 ht
    rw [hφ2 _ _ hi] at h1
    cases hi' : invTo ids slot hs1.length i' with
    | some k' =>
      rw [hφ2 _ _ hi'] at h2
      refine B.rel.apart k k' pb pb' h1 h2 fun e => ?_
      subst e
      have a1 := (inv_back hle hi).1
      have a2 := (inv_back hle hi').1
      rw [a1] at a2
      exact hne (by simpa using a2)
    | none =>
      rw [hφ2' _ hi'] at h2
      intro he
      have hlt := h.lt h2
      obtain ⟨k0, pb0, h5, h6⟩ := B.old k pb h1 (by rw [he]; exact hlt)
      unfold phiOf at h5
      obtain ⟨id0, h7, h8⟩ := Option.bind_eq_some_iff.1 h5
      refine h.apart id0 i' pb0 pb' h8 h2 (fun e => ?_) (h6.trans he)
      subst e
      obtain ⟨k2, hk2⟩ := placeFrom_of (k := 0) (List.mem_of_getElem? h7)
      have hk' : place ids id0 = some k2 := hk2
      unfold invTo at hi'
      rw [hk'] at hi'
      cases hi'
  · obtain ⟨k, hi⟩ := Option.isSome_iff_exists.1 ht
    rw [hφ2 _ _ hi] at h1
    exact fun hb => B.rel.out k pb h1 (hN1 _ hb)
  · obtain ⟨k, hi⟩ := Option.isSome_iff_exists.1 ht
    rw [hφ2 _ _ hi] at h1
    obtain ⟨k0, pb0, h5, h6⟩ := B.old k pb h1 h2
    unfold phiOf at h5
    obtain ⟨id0, h7, h8⟩ := Option.bind_eq_some_iff.1 h5
    exact ⟨id0, pb0, h8, h6⟩
  · cases hi' : invTo ids slot hs1.length i with
    | none => rw [hφ2' _ hi']; exact hi
    | some k =>
      unfold invTo at hi'
      split at hi'
      · rename_i k' hk
        exact absurd hi (hids i (List.mem_of_getElem? (place_some hk)))
      · split at hi'
        · rename_i hc
          exact absurd ⟨hc.1, by omega⟩ hns
        · cases hi'
end
end Go.PM
end
section
namespace Go.PM
open Go
set_option linter.unusedVariables false
def CallOK (C : Cfg) (f : FuncId) (args : List DV) (hs : List (Option Blk)) (v : DV) (hs' : List (Option Blk)) : Prop :=
  ∀ (w : World) (N0 : Nat → Prop) (φ : Phi) (vals : List Value), (∀ k, hs.length ≤ k → φ k = none) → HeapRel w N0 φ (heapOf hs) → GlobRel C w (Nn N0 φ (heapOf hs)) → RepL w (Nn N0 φ (heapOf hs)) φ args vals →
    Calls C.P f vals.toArray w fun e w' => ∃ x φ', e = .returned x ∧ Back N0 w φ (heapOf hs) hs.length w' φ' (heapOf hs') hs'.length ∧ Rep w' (Nn N0 φ' (heapOf hs')) φ' v x
def ExtOK (C : Cfg) : Prop := ∀ g x, C.ext g = some x → ∀ args v hs', x args = some (v, hs') → CallOK C g args [] v hs'
section
variable {C : Cfg} {N0 : Nat → Prop} {w : World} {φ : Phi} {H : Heap}
mutual
theorem freeze_rows {rd : Nat → Option Blk} : ∀ {d d' : DV}, d.freeze rd = some d' → ∀ id ∈ d.ids, ∃ r, rowAt rd id = some r ∧ (r.leaf = true ∨ DV.imms r.elems = true)
  | .undef, d', hf, id, hid => absurd hid (by simp [DV.ids])
  | .dead, d', hf, id, hid => absurd hid (by simp [DV.ids])
  | .bool b, d', hf, id, hid => absurd hid (by simp [DV.ids])
  | .int k n, d', hf, id, hid => absurd hid (by simp [DV.ids])
  | .str s, d', hf, id, hid => absurd hid (by simp [DV.ids])
  | .nilp, d', hf, id, hid => absurd hid (by simp [DV.ids])
  | .ptr i ix off, d', hf, id, hid => by
    unfold DV.freeze at hf
    simp only [DV.ids, List.mem_singleton] at hid
    subst hid
    split at hf
    · rename_i r hr
      split at hf
      · split at hf
        · rename_i hc
          exact ⟨r, hr, .inr hc⟩
        · cases hf
      · cases hf
    · cases hf
  | .iptr e off, d', hf, id, hid => absurd hid (by simp [DV.ids])
  | .list es t, d', hf, id, hid => absurd hid (by simp [DV.ids])
  | .ref i off len cap, d', hf, id, hid => by
    unfold DV.freeze at hf
    simp only [DV.ids, List.mem_singleton] at hid
    subst hid
    split at hf
    · rename_i r hr
      split at hf
      · rename_i hc
        simp only [Bool.and_eq_true] at hc
        exact ⟨r, hr, .inl hc.1⟩
      · cases hf
    · cases hf
  | .agg cs, d', hf, id, hid => by
    unfold DV.freeze at hf
    obtain ⟨ds, h1, rfl⟩ := Option.map_eq_some_iff.1 hf
    exact freezes_rows h1 id (by simpa [DV.ids] using hid)
  | .tuple cs, d', hf, id, hid => by
    unfold DV.freeze at hf
    obtain ⟨ds, h1, rfl⟩ := Option.map_eq_some_iff.1 hf
    exact freezes_rows h1 id (by simpa [DV.ids] using hid)
  | .func f cs, d', hf, id, hid => by
    unfold DV.freeze at hf
    obtain ⟨ds, h1, rfl⟩ := Option.map_eq_some_iff.1 hf
    exact freezes_rows h1 id (by simpa [DV.ids] using hid)
  | .nilf, d', hf, id, hid => absurd hid (by simp [DV.ids])
  | .iface t d, d', hf, id, hid => by
    unfold DV.freeze at hf
    obtain ⟨ds, h1, rfl⟩ := Option.map_eq_some_iff.1 hf
    exact freeze_rows h1 id (by simpa [DV.ids] using hid)
  | .nili, d', hf, id, hid => absurd hid (by simp [DV.ids])
theorem freezes_rows {rd : Nat → Option Blk} : ∀ {d d' : List DV}, DV.freezes rd d = some d' → ∀ id ∈ DV.idss d, ∃ r, rowAt rd id = some r ∧ (r.leaf = true ∨ DV.imms r.elems = true)
  | [], d', hf, id, hid => absurd hid (by simp [DV.idss])
  | d :: ds, d', hf, id, hid => by
    unfold DV.freezes at hf
    split at hf
    · rename_i a l h1 h2
      unfold DV.idss at hid
      rcases List.mem_append.1 hid with h3 | h3
      · exact freeze_rows h1 id h3
      · exact freezes_rows h2 id h3
    · cases hf
end
theorem lent_step {rd : Nat → Option Blk} (hrd : ∀ id b, rd id = some b → H id = some b) : ∀ (ids : List Nat) (H1 : Heap), HeapRel w N0 φ H1 → (∀ i, H1 i = H i ∨ ∃ r, H i = some (.row r) ∧ H1 i = some (.row { r with fz := true, leaf := true })) → (∀ i ∈ ids, ∃ r, rowAt rd i = some r ∧ (r.leaf = true ∨ DV.imms r.elems = true)) →
    Step N0 w φ H1 w φ (H1.put (lentEff rd ids)) ∧ (∀ i, (H1.put (lentEff rd ids)) i = H i ∨ ∃ r, H i = some (.row r) ∧ (H1.put (lentEff rd ids)) i = some (.row { r with fz := true, leaf := true })) ∧
      (∀ i, (∃ r, H1 i = some (.row r) ∧ r.fz = true) ∨ i ∈ ids → ∃ r, (H1.put (lentEff rd ids)) i = some (.row r) ∧ r.fz = true)
  | [], H1, hrel, hinv, hrows => ⟨Step.refl hrel, hinv, fun i hi => hi.elim id fun h => absurd h (by simp)⟩
  | i :: ids, H1, hrel, hinv, hrows => by
    obtain ⟨r, hr, hl⟩ := hrows i List.mem_cons_self
    have hH := hrd _ _ (rowAt_some hr)
    unfold lentEff
    rw [hr]
    simp only [Heap.put]
    obtain ⟨r1, hr1, hl1, he⟩ : ∃ r1, H1 i = some (.row r1) ∧ DV.imms r1.elems = true ∧ ({ r1 with fz := true, leaf := true } : Row) = { r with fz := true, leaf := true } := by
      rcases hinv i with h1 | ⟨r', h1, h2⟩
      · refine ⟨r, h1.trans hH, ?_, rfl⟩
        rcases hl with hl | hl
        · obtain ⟨_, _, _, _, _, _, _, _, _, _, _, h8, _⟩ := hrel.row (h1.trans hH)
          exact h8 hl
        · exact hl
      · rw [hH] at h1
        simp only [Option.some.injEq, Blk.row.injEq] at h1
        subst h1
        obtain ⟨_, _, _, _, _, _, _, _, _, _, _, h8, _⟩ := hrel.row h2
        exact ⟨_, h2, h8 rfl, rfl⟩
    have st := Step.freeze hrel hr1 hl1
    rw [he] at st
    have heq : H1.put [(i, some (Blk.row { r with fz := true, leaf := true }))] = fun j => if j = i then some (Blk.row { r with fz := true, leaf := true }) else H1 j := rfl
    rw [heq] at st
    have hinv' : ∀ j, (if j = i then some (Blk.row { r with fz := true, leaf := true }) else H1 j) = H j ∨ ∃ r', H j = some (.row r') ∧ (if j = i then some (Blk.row { r with fz := true, leaf := true }) else H1 j) = some (.row { r' with fz := true, leaf := true }) := by
      intro j
      by_cases hj : j = i
      · subst hj
        exact .inr ⟨r, hH, by simp⟩
      · simpa [hj] using hinv j
    obtain ⟨k1, k2, k3⟩ := lent_step hrd ids _ st.rel hinv' fun j hj => hrows j (List.mem_cons_of_mem _ hj)
    refine ⟨st.trans k1, k2, fun j hj => k3 j ?_⟩
    rcases hj with ⟨r2, h1, h2⟩ | hj
    · left
      by_cases hji : j = i
      · subst hji; exact ⟨_, if_pos rfl, rfl⟩
      · exact ⟨r2, by simpa [hji] using h1, h2⟩
    · rcases List.mem_cons.1 hj with hj | hj
      · subst hj; exact .inl ⟨_, if_pos rfl, rfl⟩
      · exact .inr hj
theorem put_append : ∀ (a b : Eff) (H : Heap), H.put (a ++ b) = (H.put a).put b
  | [], b, H => rfl
  | (i, x) :: a, b, H => by
    simp only [List.cons_append, Heap.put]
    exact put_append a b _
theorem heapOf_nil : heapOf [] = fun _ => none := by funext i; rfl
theorem phiOf_nil (φ : Phi) : phiOf [] φ = fun _ => none := by funext i; rfl
theorem Step.grow (h : HeapRel w N0 φ H) {w' : World} (hos : w'.os = w.os) (htape : w'.tape = w.tape) (hout : w'.output = w.output) (hsize : w.heap.size ≤ w'.heap.size) (hsame : ∀ b, b < w.heap.size → w'.heap[b]? = w.heap[b]?) : Step N0 w φ H w' φ H :=
  Step.gen h (fun _ => False) hos htape hout hsize (fun b hb _ => hsame b hb) (fun _ _ => ⟨rfl, rfl⟩) (fun _ _ h => .inl h)
    (fun id _ pb hp => hsame _ (h.lt hp)) (fun _ h => h.elim) (fun _ h => h.elim) (fun _ _ h => h.elim) (fun _ h => h.elim) (fun _ h => h.elim) (fun _ h => h.elim)
def Told (N0 : Nat → Prop) (slot : Nat) (w : World) (φ : Phi) (H : Heap) (v : DV) (e : Eff) (x : Value) (w' : World) : Prop :=
  ∃ φ', Step N0 w φ H w' φ' (H.put e) ∧ Rep w' (Nn N0 φ' (H.put e)) φ' v x ∧ ∀ id, φ id = none → ¬ (slot ≤ id ∧ id < slot + wide) → φ' id = none
theorem GlobRel.weaken {N N' : Nat → Prop} (h : GlobRel C w N) (hN : ∀ b, N' b → N b) : GlobRel C w N' := ⟨fun g d hg => ⟨(h.vals g d hg).1, (h.vals g d hg).2.weaken hN (h.vals g d hg).1⟩, fun g q hg => ⟨fun hn => (h.fix g q hg).1 (hN g hn), (h.fix g q hg).2⟩⟩
theorem callD_sound {rec : Req → Option Res} {slot : Nat} {rd : Nat → Option Blk} {g : FuncId} {args : List DV} {vals : List Value} {v : DV} {e : Eff} (hrec : ∀ g args hs v hs', rec (.call g args hs) = some (.done v hs') → CallOK C g args hs v hs') (hext : ExtOK C)
    (hrel : HeapRel w N0 φ H) (hrd : ∀ id b, rd id = some b → H id = some b) (hslot : ∀ j, slot ≤ j → j < slot + wide → φ j = none) (hglob : GlobRel C w (Nn N0 φ H)) (hargs : RepL w (Nn N0 φ H) φ args vals) (h : C.callD rec slot rd g args = some (v, e)) :
    Calls C.P g vals.toArray w fun en w' => ∃ x, en = .returned x ∧ Told N0 slot w φ H v e x w' := by
  unfold Cfg.callD at h
  split at h
  ·
    split at h
    · rename_i ids hids
      split at h
      · rename_i v1 hs1 hr
        split at h
        · rename_i hw
          simp only [Option.some.injEq, Prod.mk.injEq] at h
          obtain ⟨rfl, rfl⟩ := h
          obtain ⟨hnd, hmem, _⟩ := collect_nodup hids (by simp)
          have hmem' : ∀ i ∈ ids, ∃ b, H i = some b := fun i hi => by
            obtain ⟨b, hb⟩ := (hmem i hi).resolve_left (by simp)
            exact ⟨b, hrd _ _ hb⟩
          have hidsφ : ∀ i ∈ ids, φ i ≠ none := fun i hi => by
            obtain ⟨b, hb⟩ := hmem' i hi
            obtain ⟨pb, h1, _⟩ := hrel.here i b hb
            rw [h1]; simp
          have hpk : packIds ids rd = packIds ids H := by
            unfold packIds
            refine List.map_congr_left fun i hi => ?_
            obtain ⟨b, hb⟩ := (hmem i hi).resolve_left (by simp)
            rw [hb, hrd _ _ hb]
          rw [hpk] at hr
          let N0' : Nat → Prop := fun b => Nn N0 φ H b ∧ ¬ ∃ id ∈ ids, ∃ pb, φ id = some (some pb) ∧ pb.b = b
          have hN1 : ∀ b, N0 b → N0' b := fun b hb => ⟨.inl hb, fun ⟨id, hid, pb, h1, h2⟩ => hrel.out id pb h1 (h2 ▸ hb)⟩
          have hN2 : ∀ id pb blk, φ id = some (some pb) → H id = some blk → blk.fz = false → id ∉ ids → N0' pb.b := fun id pb blk h1 h2 h3 h4 =>
            ⟨.inr ⟨id, pb, blk, h1, h2, h3, rfl⟩, fun ⟨id', hid', pb', h5, h6⟩ => hrel.apart id' id pb' pb h5 h1 (fun e => h4 (e ▸ hid')) h6⟩
          have hrel' := hrel.pack (N0' := N0') hnd (fun b hb => hb.1) (fun id hid pb hp hb => hb.2 ⟨id, hid, pb, hp, rfl⟩)
          have hsub : ∀ b, Nn N0' (phiOf ids φ) (heapOf (packIds ids H)) b → Nn N0 φ H b := fun b hb => hb.elim (fun q => q.1) fun q => .inr (pack_own q).1
          have hlen : (packIds ids H).length = ids.length := by unfold packIds; simp
          refine (hrec _ _ _ _ _ hr w N0' (phiOf ids φ) vals (fun k hk => ?_) hrel' (hglob.weaken hsub) (hargs.ren hsub (place_phi ids φ))).mono fun en w1 hpost => ?_
          · unfold phiOf
            rw [List.getElem?_eq_none (by omega)]
            rfl
          · obtain ⟨x, φ1, rfl, B, hx⟩ := hpost
            rw [hlen] at B
            obtain ⟨φ2, k1, k2, k3⟩ := back_sound hrel hnd hidsφ hN1 hN2 B hslot hw
            exact ⟨x, rfl, φ2, k1, k2 _ _ hx, k3⟩
        · cases h
      · cases h
    · cases h
  · split at h
    · cases h
    · rename_i args' hf
      split at h
      · rename_i v1 hs1 hr
        split at h
        · rename_i hw
          let lent : Nat → Prop := fun b => ∃ id ∈ DV.idss args, ∃ pb, φ id = some (some pb) ∧ pb.b = b
          let N0' : Nat → Prop := fun b => Nn N0 φ H b ∧ ¬ lent b
          have hargs' := (freezes_rep (N' := Nn N0' (fun _ => none) (heapOf [])) (φ' := fun _ => none) hrel hrd (fun b hb => by
            rcases hb with hb | ⟨id, pb, blk, h1, _⟩
            · exact hb.1
            · cases h1) (fun id hid pb hp hb => by
            rcases hb with hb | ⟨id, pb, blk, h1, _⟩
            · exact hb.2 ⟨id, hid, pb, hp, rfl⟩
            · cases h1) hf hargs).1
          have hrel0 : HeapRel w N0' (fun _ => none) (heapOf []) := by
            refine ⟨fun _ _ => .inl rfl, fun id blk h => ?_, fun _ _ _ _ h => ?_, fun _ _ h => ?_, fun b hb => ?_⟩
            · rw [heapOf_nil] at h
              cases h
            · cases h
            · cases h
            · rcases hb.1 with h1 | ⟨id, pb, blk, h1, h2, h3, rfl⟩
              · exact hrel.lim b h1
              · exact hrel.lt h1
          have hcall : CallOK C g args' [] v1 hs1 := by
            unfold Cfg.askD at hr
            split at hr
            · rename_i x hx
              obtain ⟨⟨v2, hs2⟩, h1, h2⟩ := Option.map_eq_some_iff.1 hr
              simp only [Res.done.injEq] at h2
              obtain ⟨rfl, rfl⟩ := h2
              exact hext g x hx _ _ _ h1
            · exact hrec _ _ _ _ _ hr
          refine (hcall w N0' (fun _ => none) vals (fun _ _ => rfl) hrel0 (hglob.weaken fun b hb => by
            rcases hb with hb | ⟨id, pb, blk, h1, _⟩
            · exact hb.1
            · cases h1) hargs').mono fun en w1 hpost => ?_
          obtain ⟨x, φ1, rfl, B, hx⟩ := hpost
          refine ⟨x, rfl, ?_⟩
          split at h
          · rename_i hsc
            simp only [Option.some.injEq, Prod.mk.injEq] at h
            obtain ⟨rfl, rfl⟩ := h
            exact ⟨φ, Step.grow hrel B.os B.tape B.output B.size (fun b hb => B.same b hb fun ⟨id, pb, blk, h1, _⟩ => (by cases h1)), hx.scalar hsc, fun _ h _ => h⟩
          · simp only [Option.some.injEq, Prod.mk.injEq] at h
            obtain ⟨rfl, rfl⟩ := h
            obtain ⟨s1, s2, s3⟩ := lent_step hrd (DV.idss args) H hrel (fun i => .inl rfl) (freezes_rows hf)
            have hN1 : ∀ b, N0 b → N0' b := fun b hb => ⟨.inl hb, fun ⟨id, hid, pb, h1, h2⟩ => hrel.out id pb h1 (h2 ▸ hb)⟩
            have hN2 : ∀ id pb blk, φ id = some (some pb) → (H.put (lentEff rd (DV.idss args))) id = some blk → blk.fz = false → id ∉ ([] : List Nat) → N0' pb.b := fun id pb blk h1 h2 h3 _ => by
              refine ⟨.inr ⟨id, pb, blk, h1, ?_, h3, rfl⟩, fun ⟨id', hid', pb', h5, h6⟩ => ?_⟩
              · rcases s2 id with h4 | ⟨r, h4, h5⟩
                · rw [← h4]; exact h2
                · rw [h2] at h5
                  simp only [Option.some.injEq] at h5
                  subst h5
                  exact absurd h3 (by simp [Blk.fz])
              · by_cases he : id' = id
                · subst he
                  obtain ⟨r, h7, h8⟩ := s3 id' (.inr hid')
                  rw [h2] at h7
                  simp only [Option.some.injEq] at h7
                  subst h7
                  simp [Blk.fz, h8] at h3
                · exact hrel.apart id' id pb' pb h5 h1 he h6
            have B' : Back N0' w (phiOf [] φ) (heapOf (packIds [] (H.put (lentEff rd (DV.idss args))))) ([] : List Nat).length w1 φ1 (heapOf hs1) hs1.length := by
              rw [phiOf_nil]
              exact B
            obtain ⟨φ2, k1, k2, k3⟩ := back_sound s1.rel (by simp) (fun i hi => absurd hi (by simp)) hN1 hN2 B' hslot (by simpa using hw)
            refine ⟨φ2, ?_, ?_, k3⟩
            · rw [put_append]; exact s1.trans k1
            · rw [put_append]; exact k2 _ _ hx
        · cases h
      · cases h
  · cases h
end
end Go.PM
end
section
namespace Go.PM
open Go
set_option linter.unusedVariables false
def BodyOK (C : Cfg) : Prop := ∀ g, C.mode g ≠ none → ∃ fn, C.P.funcs[g]? = some fn ∧ fn.body.isSome = true ∧ (fn.name == "runtime.NumGoroutine") = false
section
variable {C : Cfg} {N0 : Nat → Prop} {w : World} {φ : Phi} {H : Heap} {a : Act}
theorem callFunc_run (hb : BodyOK C) {g : FuncId} (hg : C.mode g ≠ none) (args : Array Value) : (callFunc g args).run C.P w = .ok (.enter g args) w := by
  obtain ⟨fn, h1, h2, h3⟩ := hb g hg
  unfold callFunc
  have h4 : fn.body.isNone = false := by cases h : fn.body <;> simp_all
  simp only [Sem.run_bind, run_program, Result.andThen_ok, h1, h3, h4, Bool.false_eq_true, if_false, Sem.run_pure]
theorem target_sound (hb : BodyOK C) {ev : Operand → Option DV} (hev : EvRel ev a w (Nn N0 φ H) φ) {o : Oper} {c : Call} (ho : o.op = .call c) {g : FuncId} {args : List DV} (hg : C.mode g ≠ none) (h : C.target ev c = some (g, args)) :
    ∃ vals : List Value, RepL w (Nn N0 φ H) φ args vals ∧ (execOp a.eval o).run C.P w = .ok (.enter g vals.toArray) w := by
  unfold Cfg.target at h
  split at h
  · rename_i f hcal
    split at h
    · rename_i g' cap args' hf ha
      simp only [Option.some.injEq, Prod.mk.injEq] at h
      obtain ⟨rfl, rfl⟩ := h
      have hfv := hev f _ hf
      unfold Rep at hfv
      obtain ⟨cvs, hv, hcap⟩ := hfv
      refine ⟨c.args.toList.map a.eval ++ cvs.toList, (mapO_ev hev ha).append hcap, ?_⟩
      have := callFunc_run (w := w) hb hg (c.args.map a.eval ++ cvs)
      simp only [execOp, ho, resolve, hcal, hv, Deferred.ofValue, Sem.run_bind, Sem.run_pure, Result.andThen_ok, invoke, Array.empty_append, this]
      congr 2
      simp
    · cases h
  · rename_i r name hcal
    split at h
    · rename_i t d args' hr ha
      split at h
      · rename_i m hm
        obtain ⟨ti, hti, hfind⟩ := Option.bind_eq_some_iff.1 hm
        have hrv := hev r _ hr
        unfold Rep at hrv
        obtain ⟨x, hv, hx⟩ := hrv
        have fin : ∀ g' ptr dd, m.path.isEmpty = true → m.func = some (g', ptr) → C.P.underlying t = some dd → ((ptr = true ∧ ∃ e, dd = .pointer e) ∨ (ptr = false ∧ ∀ e, dd ≠ .pointer e)) → g' = g → d :: args' = args →
            ∃ vals : List Value, RepL w (Nn N0 φ H) φ args vals ∧ (execOp a.eval o).run C.P w = .ok (.enter g vals.toArray) w := by
          rintro g' ptr dd hpath hfunc hu hcase rfl rfl
          have hp0 : m.path = #[] := by simpa using hpath
          refine ⟨x :: c.args.toList.map a.eval, by unfold RepL; exact ⟨_, _, rfl, hx, mapO_ev hev ha⟩, ?_⟩
          have hcf := callFunc_run (w := w) hb hg (#[x] ++ c.args.map a.eval)
          have hmeth : (method (C.P.types.size + Made.depth) t x name).run C.P w = .ok (g', x) w := by
            cases hfuel : C.P.types.size + Made.depth with
            | zero => simp [Made.depth] at hfuel
            | succ n =>
              unfold method
              simp only [Sem.run_bind, typeInfo, run_program, Result.andThen_ok, hti, Sem.run_pure, hfind, hp0, follow, hfunc, receiverAt, run_underlying hu]
              rcases hcase with ⟨rfl, e, rfl⟩ | ⟨rfl, hne⟩
              · simp only [Place.get, Sem.run_pure, Result.andThen_ok]
              · cases dd <;> first | exact absurd rfl (hne _) | rfl
          simp only [execOp, ho, resolve, hcal, hv, Sem.run_bind, Sem.run_pure, Result.andThen_ok, invoke]
          have e1 : (#[Value.iface t x] ++ c.args.map a.eval)[0]? = some (Value.iface t x) := by
            rw [Array.getElem?_append_left (by simp)]
            rfl
          have e2 : (#[Value.iface t x] ++ c.args.map a.eval).extract 1 (#[Value.iface t x] ++ c.args.map a.eval).size = c.args.map a.eval := by
            apply Array.toList_inj.1
            rw [Array.toList_extract, List.extract_eq_take_drop, Array.toList_append]
            have hd : (#[Value.iface t x].toList ++ (c.args.map a.eval).toList).drop 1 = (c.args.map a.eval).toList := rfl
            rw [hd]
            exact List.take_of_length_le (by simp)
          simp only [e1, e2, callMethod, Sem.run_bind, run_program, Result.andThen_ok, hmeth, hcf]
          congr 2
          simp
        split at h
        · rename_i g' e hpath hfunc hu
          simp only [Option.some.injEq, Prod.mk.injEq] at h
          exact fin g' true _ hpath hfunc hu (.inl ⟨rfl, e, rfl⟩) h.1 h.2
        · cases h
        · rename_i g' dd hn hpath hfunc hu
          simp only [Option.some.injEq, Prod.mk.injEq] at h
          exact fin g' false _ hpath hfunc hu (.inr ⟨rfl, fun e he => hn e he⟩) h.1 h.2
        · cases h
      · cases h
    · cases h
  · cases h
theorem callD_mode {rec : Req → Option Res} {slot : Nat} {rd : Nat → Option Blk} {g : FuncId} {args : List DV} {r : DV × Eff} (h : C.callD rec slot rd g args = some r) : C.mode g ≠ none := by
  intro hm
  unfold Cfg.callD at h
  rw [hm] at h
  cases h
theorem stepD_sound {rec : Req → Option Res} (hrec : ∀ g args hs v hs', rec (.call g args hs) = some (.done v hs') → CallOK C g args hs v hs') (hext : ExtOK C) (hb : BodyOK C)
    {slot : Nat} {ev : Operand → Option DV} {rd : Nat → Option Blk} {o : Oper} {v : DV} {e : Eff} (hrel : HeapRel w N0 φ H) (hrd : ∀ id b, rd id = some b → H id = some b) (hslot : ∀ j, slot ≤ j → j < slot + wide → φ j = none) (hglob : GlobRel C w (Nn N0 φ H))
    (hev : EvRel ev a w (Nn N0 φ H) φ) (h : C.stepD rec slot ev rd o = some (v, e)) {next : Act → World → Prop} {Q : Exit → Act → World → Prop} (hnext : ∀ x w', Told N0 slot w φ H v e x w' → next (a.put o.dst x) w') : o.wp C.P a w next Q := by
  have simple : C.opD slot ev rd o = some (v, e) → o.wp C.P a w next Q := fun h => by
    obtain ⟨x, w', φ', hr, st, hx, hf⟩ := opD_sound hrel hrd hslot hev h
    unfold Oper.wp
    rcases hr with hr | ⟨hr, rfl⟩
    · rw [hr, Oper.upon_value]
      exact hnext _ _ ⟨φ', st, hx, hf⟩
    · rw [hr, Oper.upon_skip]
      exact hnext _ _ ⟨φ', st, hx, hf⟩
  unfold Cfg.stepD at h
  split at h
  · rename_i c hop
    split at h
    · exact simple h
    · split at h
      · rename_i g args ht
        obtain ⟨vals, h1, h2⟩ := target_sound hb hev hop (callD_mode h) ht
        unfold Oper.wp
        rw [h2, Oper.upon_enter]
        refine (callD_sound hrec hext hrel hrd hslot hglob h1 h).mono fun en w' ⟨x, he, ht⟩ => ?_
        subst he
        exact hnext x w' ht
      · cases h
  · exact simple h
def EnvRel (e : Env) (a : Act) (w : World) (N : Nat → Prop) (φ : Phi) : Prop := ∀ t d, e t = some d → Rep w N φ d (a.tmps.getD t undef)
theorem evalOp_rel {e e' : Env} {N : Nat → Prop} (he : EnvRel e a w N φ) (hsub : ∀ t d, e' t = some d → e t = some d) (hg : GlobRel C w N) : EvRel (evalOp C e') a w N φ := by
  intro x d h
  cases x with
  | tmp t => exact he t d (hsub t d h)
  | const v => exact (rep_const v d h).1
  | global g => exact Rep.imm (hg.vals g d h).1 (hg.vals g d h).2
  | func f =>
    simp only [evalOp, Option.some.injEq] at h
    subst h
    unfold Rep
    exact ⟨#[], rfl, by unfold RepL; rfl⟩
theorem EnvRel.set {e : Env} {N : Nat → Prop} {dst : Option Nat} {v : DV} {x : Value} (he : EnvRel e a w N φ) (hx : Rep w N φ v x) (hd : ∀ d, dst = some d → d < a.tmps.size) : EnvRel (e.set dst v) (a.put dst x) w N φ := by
  intro t d h
  cases dst with
  | none => exact he t d h
  | some k =>
    simp only [Env.set] at h
    split at h
    · rename_i hk
      simp only [Option.some.injEq] at h
      subst h; subst hk
      have := hd t rfl
      simp only [Act.put]
      rw [Array.getD_eq_getD_getElem?, Array.getElem?_setIfInBounds]
      simp [this, hx]
    · rename_i hk
      have := he t d h
      simp only [Act.put]
      rw [Array.getD_eq_getD_getElem?, Array.getElem?_setIfInBounds, if_neg (Ne.symm hk), ← Array.getD_eq_getD_getElem?]
      exact this
theorem EnvRel.later {e : Env} {w' : World} {N N' : Nat → Prop} {φ' : Phi} (L : Later w N φ w' N' φ') (he : EnvRel e a w N φ) : EnvRel e a w' N' φ' := fun t d h => (he t d h).later L
theorem GlobRel.later {w' : World} {N N' : Nat → Prop} {φ φ' : Phi} (L : Later w N φ w' N' φ') (h : GlobRel C w N) : GlobRel C w' N' := by
  refine ⟨fun g d hg => ⟨(h.vals g d hg).1, (h.vals g d hg).2.later ⟨L.size, L.same, L.less, fun _ _ h => by cases h⟩⟩, fun g q hq => ?_⟩
  obtain ⟨hn, o, ho, hp⟩ := h.fix g q hq
  have hlt := (Array.getElem?_eq_some_iff.1 ho).1
  exact ⟨fun h2 => hn (L.less g hlt h2), o, (L.same g hlt hn).trans ho, hp⟩
theorem put_size (a : Act) (dst : Option Tmp) (v : Value) : (a.put dst v).tmps.size = a.tmps.size := by cases dst <;> simp [Act.put]
theorem put_defers (a : Act) (dst : Option Tmp) (v : Value) : (a.put dst v).defers = a.defers := by cases dst <;> rfl
def OneStep (C : Cfg) (rec : Req → Option Res) (ops : Array Oper) (i : Nat) (s s' : St) : Prop :=
  ∃ o e' rd, ops[i]? = some o ∧ (∀ t d, e' t = some d → s.env t = some d) ∧ (∀ id b, rd id = some b → s.heap id = some b) ∧
    ((guardD ops e' o = some false ∧ s' = { s with env := s.env.set o.dst .undef }) ∨
     (guardD ops e' o = some true ∧ ∃ v e, C.stepD rec (s.top + i * wide) (evalOp C e') rd o = some (v, e) ∧ s' = { s with env := s.env.set o.dst v, heap := s.heap.put e }))
theorem runOp_one {rec : Req → Option Res} {ops : Array Oper} {i : Nat} {s s' : St} (h : C.runOp rec ops i s = some s') : OneStep C rec ops i s s' := by
  unfold Cfg.runOp at h
  split at h
  · cases h
  · rename_i o ho
    refine ⟨o, s.env, s.heap, ho, fun _ _ h => h, fun _ _ h => h, ?_⟩
    split at h
    · cases h
    · rename_i hg
      simp only [Option.some.injEq] at h
      exact .inl ⟨hg, h.symm⟩
    · rename_i hg
      split at h
      · cases h
      · rename_i v e hs
        simp only [Option.some.injEq] at h
        exact .inr ⟨hg, v, e, hs, h.symm⟩
theorem runOpD_one {rec : Req → Option Res} {ops : Array Oper} {i : Nat} {s s' : St} (h : C.runOpD rec ops i s = some s') : OneStep C rec ops i s s' := by
  unfold Cfg.runOpD at h
  split at h
  · cases h
  · rename_i o ho
    dsimp only at h
    refine ⟨o, fun t => if (looks ops o).contains t then s.env t else none, fun id => if maySee ops s.top i id then s.heap id else none, ho, fun t d h => ?_, fun id b h => ?_, ?_⟩
    · dsimp only at h
      split at h
      · exact h
      · cases h
    · dsimp only at h
      split at h
      · exact h
      · cases h
    · split at h
      · cases h
      · rename_i hg
        simp only [Option.some.injEq] at h
        exact .inl ⟨hg, h.symm⟩
      · rename_i hg
        split at h
        · cases h
        · rename_i v e hs
          split at h
          · simp only [Option.some.injEq] at h
            exact .inr ⟨hg, v, e, hs, h.symm⟩
          · cases h
theorem guard_sound {ops : Array Oper} {e' : Env} {o : Oper} {b : Bool} {N : Nat → Prop} (he : EnvRel e' a w N φ) (hds : ∀ t d, e' t = some d → t < a.tmps.size) (h : guardD ops e' o = some b) : Region.wanted o (yielded ops a.tmps) = b := by
  unfold guardD at h
  unfold Region.wanted
  split at h
  · rename_i hg
    simp only [Option.some.injEq] at h
    rw [hg]; exact h
  · rename_i j want hg
    rw [hg]
    simp only []
    split at h
    · rename_i d hd
      unfold yielded
      rw [hd]
      simp only [Option.bind_some]
      split at h
      · rename_i q hq
        simp only [Option.some.injEq] at h; subst h
        have hlt := hds d _ hq
        have := he d _ hq
        unfold Rep at this
        rw [Array.getD_eq_getD_getElem?, Array.getElem?_eq_getElem hlt] at this
        simp only [Option.getD_some] at this
        rw [Array.getElem?_eq_getElem hlt, this]
        cases q <;> cases want <;> rfl
      · rename_i hq
        simp only [Option.some.injEq] at h; subst h
        have hlt := hds d _ hq
        have := he d _ hq
        unfold Rep at this
        rw [Array.getD_eq_getD_getElem?, Array.getElem?_eq_getElem hlt] at this
        simp only [Option.getD_some] at this
        rw [Array.getElem?_eq_getElem hlt, this]
        cases want <;> rfl
      · cases h
    · cases h
inductive Chain (C : Cfg) (rec : Req → Option Res) (ops : Array Oper) : List Nat → St → St → Prop
  | nil (s : St) : Chain C rec ops [] s s
  | cons {i : Nat} {l : List Nat} {s s1 s2 : St} (h : OneStep C rec ops i s s1) (t : Chain C rec ops l s1 s2) : Chain C rec ops (i :: l) s s2
theorem runOps_chain {rec : Req → Option Res} {ops : Array Oper} : ∀ {l : List Nat} {s s' : St}, C.runOps rec ops l s = some s' → Chain C rec ops l s s'
  | [], s, s', h => by
    unfold Cfg.runOps at h
    simp only [Option.some.injEq] at h; subst h
    exact .nil s
  | i :: l, s, s', h => by
    unfold Cfg.runOps at h
    split at h
    · cases h
    · rename_i s1 h1
      exact .cons (runOp_one h1) (runOps_chain h)
theorem runOpsD_chain {rec : Req → Option Res} {ops : Array Oper} : ∀ {l : List Nat} {s s' : St}, C.runOpsD rec ops l s = some s' → Chain C rec ops l s s'
  | [], s, s', h => by
    unfold Cfg.runOpsD at h
    simp only [Option.some.injEq] at h; subst h
    exact .nil s
  | i :: l, s, s', h => by
    unfold Cfg.runOpsD at h
    split at h
    · cases h
    · rename_i s1 h1
      exact .cons (runOpD_one h1) (runOpsD_chain h)
def EnvIn (e : Env) (n : Nat) : Prop := ∀ t d, e t = some d → t < n
theorem EnvIn.set {e : Env} {n : Nat} {dst : Option Nat} {v : DV} (h : EnvIn e n) (hd : ∀ d, dst = some d → d < n) : EnvIn (e.set dst v) n := by
  intro t d hh
  cases dst with
  | none => exact h t d hh
  | some k =>
    simp only [Env.set] at hh
    split at hh
    · rename_i hk; subst hk; exact hd t rfl
    · exact h t d hh
theorem chain_sound {rec : Req → Option Res} (hrec : ∀ g args hs v hs', rec (.call g args hs) = some (.done v hs') → CallOK C g args hs v hs') (hext : ExtOK C) (hb : BodyOK C) {ops : Array Oper} {Q : Exit → Act → World → Prop} {n : Nat} (hdst : ∀ (i : Nat) (o : Oper) (d : Nat), ops[i]? = some o → o.dst = some d → d < n) :
    ∀ {l : List Nat} {s s' : St} {a : Act} {w : World} {φ : Phi}, Chain C rec ops l s s' → l.Nodup → (∀ i ∈ l, i < ops.size) → a.tmps.size = n → HeapRel w N0 φ s.heap → EnvRel s.env a w (Nn N0 φ s.heap) φ → EnvIn s.env n → GlobRel C w (Nn N0 φ s.heap) →
      (∀ i ∈ l, ∀ j, s.top + i * wide ≤ j → j < s.top + i * wide + wide → φ j = none) → (∀ j, s.top + ops.size * wide ≤ j → φ j = none) →
      (∀ a' w' φ', a'.defers = a.defers → a'.tmps.size = n → Step N0 w φ s.heap w' φ' s'.heap → EnvRel s'.env a' w' (Nn N0 φ' s'.heap) φ' → EnvIn s'.env n → GlobRel C w' (Nn N0 φ' s'.heap) → s'.top = s.top → s'.base = s.base → (∀ j, s.top + ops.size * wide ≤ j → φ' j = none) → Q .normal a' w') →
      wpOps C.P ops Q l a w := by
  intro l
  induction l with
  | nil =>
    intro s s' a w φ hc hnd hlt hsz hrel henv hin hglob hslots hbey hQ
    cases hc
    exact hQ a w φ rfl hsz (Step.refl hrel) henv hin hglob rfl rfl hbey
  | cons i l ih =>
    intro s s' a w φ hc hnd hlt hsz hrel henv hin hglob hslots hbey hQ
    cases hc with
    | cons h1 h2 =>
      rename_i s1
      obtain ⟨o, e', rd, ho, hsub, hrd, hcase⟩ := h1
      rw [List.nodup_cons] at hnd
      simp only [wpOps, ho]
      have he' : EnvRel e' a w (Nn N0 φ s.heap) φ := fun t d h => henv t d (hsub t d h)
      have hin' : ∀ t d, e' t = some d → t < a.tmps.size := fun t d h => by rw [hsz]; exact hin t d (hsub t d h)
      have hd : ∀ d, o.dst = some d → d < n := fun d hd => hdst i o d ho hd
      rcases hcase with ⟨hg, rfl⟩ | ⟨hg, v, e, hs, rfl⟩
      · have hw := guard_sound he' hin' hg
        rw [hw]
        simp only [Bool.false_eq_true, if_false]
        exact ih h2 hnd.2 (fun j hj => hlt j (List.mem_cons_of_mem _ hj)) (by rw [put_size]; exact hsz) hrel (henv.set (by unfold Rep; rfl) (fun d hd' => by rw [hsz]; exact hd d hd')) (hin.set hd) hglob
          (fun j hj => hslots j (List.mem_cons_of_mem _ hj)) hbey (fun a' w' φ' k1 k2 k3 k4 k5 k6 k7 k8 k9 => hQ a' w' φ' (k1.trans (put_defers _ _ _)) k2 k3 k4 k5 k6 k7 k8 k9)
      · have hw := guard_sound he' hin' hg
        rw [hw]
        simp only [if_true]
        refine .inl (stepD_sound hrec hext hb hrel hrd (hslots i List.mem_cons_self) hglob (evalOp_rel henv hsub hglob) hs fun x w' ht => ?_)
        obtain ⟨φ', st, hx, hf⟩ := ht
        have hi := hlt i List.mem_cons_self
        have hslotj : ∀ j ∈ l, ∀ k, s.top + j * wide ≤ k → k < s.top + j * wide + wide → φ' k = none := fun j hj k hk1 hk2 => by
          refine hf k (hslots j (List.mem_cons_of_mem _ hj) k hk1 hk2) fun ⟨q1, q2⟩ => ?_
          have hne : j ≠ i := fun e => hnd.1 (e ▸ hj)
          unfold wide at *
          omega
        have hbey' : ∀ j, s.top + ops.size * wide ≤ j → φ' j = none := fun j hj => by
          refine hf j (hbey j hj) fun ⟨q1, q2⟩ => ?_
          unfold wide at *
          omega
        exact ih h2 hnd.2 (fun j hj => hlt j (List.mem_cons_of_mem _ hj)) (by rw [put_size]; exact hsz) st.rel ((henv.later st.later).set hx (fun d hd' => by rw [hsz]; exact hd d hd')) (hin.set hd) (hglob.later st.later)
          hslotj hbey' (fun a' w'' φ'' k1 k2 k3 k4 k5 k6 k7 k8 k9 => hQ a' w'' φ'' (k1.trans (put_defers _ _ _)) k2 (st.trans k3) k4 k5 k6 k7 k8 k9)
end
end Go.PM
end
section
namespace Go.PM
open Go
set_option linter.unusedVariables false
def dstIn (o : Oper) (l : List Nat) : Bool := match o.dst with | some d => l.contains d | none => false
def sameDst (x y : Oper) : Bool := match x.dst, y.dst with | some d, some e => d == e | _, _ => false
def tmpsApart (ops : Array Oper) (i j : Nat) : Bool := match ops[i]?, ops[j]? with
  | some x, some y => !dstIn x (looks ops y) && !dstIn y (looks ops x) && !sameDst x y
  | _, _ => true
def drawOK (ops : Array Oper) : Bool :=
  ((List.range ops.size).all fun i => (List.range i).all fun j => comparable ops i j || tmpsApart ops i j) &&
  ((List.range ops.size).all fun i => match ops[i]? with | some o => o.after.all fun e => !Region.binds .any e || decide (e.on < i) | none => true)
theorem put_out : ∀ {e : Eff} {H : Heap} {id : Nat}, (∀ p ∈ e, p.1 ≠ id) → (H.put e) id = H id
  | [], H, id, h => rfl
  | (i, b) :: e, H, id, h => by
    simp only [Heap.put]
    rw [put_out fun p hp => h p (List.mem_cons_of_mem _ hp)]
    exact if_neg fun q => h (i, b) List.mem_cons_self q.symm
theorem put_in : ∀ {e : Eff} {H H' : Heap} {id : Nat}, (∃ p ∈ e, p.1 = id) → (H.put e) id = (H'.put e) id
  | [], H, H', id, h => by obtain ⟨p, hp, _⟩ := h; cases hp
  | (i, b) :: e, H, H', id, h => by
    simp only [Heap.put]
    by_cases hr : ∃ p ∈ e, p.1 = id
    · exact put_in hr
    · have hn : ∀ p ∈ e, p.1 ≠ id := fun p hp q => hr ⟨p, hp, q⟩
      rw [put_out hn, put_out hn]
      obtain ⟨p, hp, hq⟩ := h
      rcases List.mem_cons.1 hp with rfl | hp
      · simp only at hq; subst hq; simp
      · exact absurd hq (hn p hp)
theorem put_comm {e f : Eff} (h : ∀ p ∈ e, ∀ q ∈ f, p.1 ≠ q.1) (H : Heap) : (H.put e).put f = (H.put f).put e := by
  funext id
  by_cases he : ∃ p ∈ e, p.1 = id
  · have hf : ∀ q ∈ f, q.1 ≠ id := fun q hq hid => by
      obtain ⟨p, hp, hpi⟩ := he
      exact h p hp q hq (hpi.trans hid.symm)
    rw [put_out hf]
    exact put_in he
  · have he' : ∀ p ∈ e, p.1 ≠ id := fun p hp q => he ⟨p, hp, q⟩
    rw [put_out (e := e) he']
    by_cases hf : ∃ q ∈ f, q.1 = id
    · exact put_in hf
    · have hf' : ∀ p ∈ f, p.1 ≠ id := fun p hp q => hf ⟨p, hp, q⟩
      rw [put_out hf', put_out hf', put_out he']
theorem set_comm {e : Env} {d1 d2 : Option Nat} {v1 v2 : DV} (h : ∀ a b, d1 = some a → d2 = some b → a ≠ b) : (e.set d1 v1).set d2 v2 = (e.set d2 v2).set d1 v1 := by
  cases d1 with
  | none => cases d2 <;> rfl
  | some a =>
    cases d2 with
    | none => rfl
    | some b =>
      funext t
      simp only [Env.set]
      have := h a b rfl rfl
      by_cases h1 : t = a
      · subst h1; simp [this]
      · simp [h1]
section
variable {C : Cfg} {rec : Req → Option Res} {ops : Array Oper}
structure Indep (ops : Array Oper) (i j : Nat) : Prop where
  ne : i ≠ j
  free : comparable ops i j = false
  tmps : tmpsApart ops i j = true
theorem comparable_symm (i j : Nat) : comparable ops i j = comparable ops j i := by
  unfold comparable
  rw [Bool.or_assoc, Bool.or_assoc, Bool.or_comm (Nat.testBit _ _)]
  congr 1
  rw [Bool.eq_iff_iff, beq_iff_eq, beq_iff_eq]
  exact eq_comm
theorem Indep.symm {i j : Nat} (h : Indep ops i j) : Indep ops j i := by
  refine ⟨h.ne.symm, by rw [comparable_symm]; exact h.free, ?_⟩
  have := h.tmps
  unfold tmpsApart at this ⊢
  cases hi : ops[i]? <;> cases hj : ops[j]? <;> simp only [hi, hj] at this ⊢
  simp only [Bool.and_eq_true, Bool.not_eq_true'] at this ⊢
  refine ⟨⟨this.1.2, this.1.1⟩, ?_⟩
  rw [← this.2]
  rename_i x y
  unfold sameDst
  cases x.dst <;> cases y.dst <;> first | rfl | exact Bool.eq_iff_iff.2 (by rw [beq_iff_eq, beq_iff_eq]; exact eq_comm)
theorem see_write {i j top id : Nat} (h : Indep ops i j) (hi : i < ops.size) (hj : j < ops.size) (hw : mayWrite ops top i id = true) : maySee ops top j id = false := by
  have hc := h.free
  have hne := h.ne
  unfold comparable at hc
  simp only [Bool.or_eq_false_iff, beq_eq_false_iff_ne, ne_eq] at hc
  obtain ⟨⟨_, hc1⟩, hc2⟩ := hc
  unfold mayWrite at hw
  unfold maySee
  by_cases hid : id < top
  · simp only [hid, if_true, Bool.and_eq_true] at hw
    obtain ⟨_, hw⟩ := hw
    unfold barrier at hw
    have := List.all_eq_true.1 hw j (by simpa using hj)
    have hcj : comparable ops j i = false := by rw [comparable_symm]; exact h.free
    rw [hcj] at this
    simp only [Bool.false_or, Bool.not_eq_true'] at this
    unfold heapyAt
    rw [this]; rfl
  · simp only [hid, if_false] at hw
    simp only [hid, decide_false, Bool.false_or]
    cases hh : heapyAt ops j with
    | false => rfl
    | true =>
      simp only [Bool.true_and, Bool.or_eq_false_iff, beq_eq_false_iff_ne, ne_eq]
      simp only [Bool.or_eq_true, beq_iff_eq, Bool.and_eq_true] at hw
      rcases hw with hw | ⟨⟨_, hw⟩, hs⟩
      · rw [hw]
        exact ⟨hne, hc2⟩
      · refine ⟨fun e => ?_, ?_⟩
        · rw [e] at hw
          rw [hw] at hc1; cases hc1
        · unfold soleUser at hs
          have := List.all_eq_true.1 hs j (by simpa using hj)
          rw [h.free, hh] at this
          simpa using this
theorem write_write {i j top id : Nat} (h : Indep ops i j) (hi : i < ops.size) (hj : j < ops.size) (hw : mayWrite ops top i id = true) : mayWrite ops top j id = false := by
  have hc := h.free
  have hne := h.ne
  unfold comparable at hc
  simp only [Bool.or_eq_false_iff, beq_eq_false_iff_ne, ne_eq] at hc
  obtain ⟨⟨_, hc1⟩, hc2⟩ := hc
  cases hwj : mayWrite ops top j id with
  | false => rfl
  | true =>
    have s1 := see_write h hi hj hw
    have s2 := see_write h.symm hj hi hwj
    unfold mayWrite at hw hwj
    unfold maySee at s1 s2
    by_cases hid : id < top
    · simp only [hid, if_true, Bool.and_eq_true] at hwj
      simp [hid, hwj.1] at s1
    · simp only [hid, if_false, Bool.or_eq_true, beq_iff_eq, Bool.and_eq_true] at hw hwj
      rcases hwj with hwj | ⟨⟨hhj, hwj⟩, _⟩
      · rcases hw with hw | ⟨⟨_, hw⟩, _⟩
        · exact absurd (hw.symm.trans hwj) hne
        · rw [hwj] at hw
          rw [hw] at hc1; cases hc1
      · simp [hhj, hwj] at s1
theorem env_mask {i j : Nat} {x y : Oper} {s : St} {v : DV} (h : Indep ops i j) (hx : ops[i]? = some x) (hy : ops[j]? = some y) :
    (fun t => if (looks ops x).contains t then (s.env.set y.dst v) t else none) = (fun t => if (looks ops x).contains t then s.env t else none) := by
  funext t
  split
  · rename_i ht
    have := h.tmps
    unfold tmpsApart at this
    simp only [hx, hy, Bool.and_eq_true, Bool.not_eq_true'] at this
    have h2 := this.1.2
    unfold dstIn at h2
    cases hd : y.dst with
    | none => rfl
    | some d =>
      rw [hd] at h2
      simp only at h2
      simp only [Env.set]
      rw [if_neg]
      intro e
      subst e
      rw [ht] at h2; cases h2
  · rfl
theorem dst_ne {i j : Nat} {x y : Oper} (h : Indep ops i j) (hx : ops[i]? = some x) (hy : ops[j]? = some y) : ∀ a b, x.dst = some a → y.dst = some b → a ≠ b := by
  intro a b ha hb e
  have := h.tmps
  unfold tmpsApart at this
  simp only [hx, hy, Bool.and_eq_true, Bool.not_eq_true'] at this
  have h2 := this.2
  unfold sameDst at h2
  rw [ha, hb] at h2
  simp [e] at h2
theorem heap_mask {i j top : Nat} {e : Eff} {H : Heap} (h : Indep ops i j) (hi : i < ops.size) (hj : j < ops.size) (he : (e.all fun p => mayWrite ops top i p.1) = true) :
    (fun id => if maySee ops top j id then (H.put e) id else none) = fun id => if maySee ops top j id then H id else none := by
  funext id
  by_cases hs : maySee ops top j id = true
  · rw [if_pos hs, if_pos hs]
    refine put_out fun p hp hq => ?_
    have := List.all_eq_true.1 he p hp
    rw [hq] at this
    rw [see_write h hi hj this] at hs
    cases hs
  · rw [if_neg hs, if_neg hs]
theorem swap {i j : Nat} {s s1 s2 : St} (h : Indep ops i j) (hi : i < ops.size) (hj : j < ops.size) (h1 : C.runOpD rec ops j s = some s1) (h2 : C.runOpD rec ops i s1 = some s2) : ∃ s1', C.runOpD rec ops i s = some s1' ∧ C.runOpD rec ops j s1' = some s2 := by
  obtain ⟨x, hx⟩ : ∃ x, ops[i]? = some x := ⟨_, Array.getElem?_eq_getElem hi⟩
  obtain ⟨y, hy⟩ : ∃ y, ops[j]? = some y := ⟨_, Array.getElem?_eq_getElem hj⟩
  have hcomm : ∀ (v u : DV) (e : Env), (e.set y.dst u).set x.dst v = (e.set x.dst v).set y.dst u := fun v u e => set_comm fun a b ha hb => (dst_ne h hx hy b a hb ha).symm
  unfold Cfg.runOpD at h1
  simp only [hy] at h1

  have goI : ∀ (u : DV) (e : Eff), (e.all fun p => mayWrite ops s.top j p.1) = true → C.runOpD rec ops i { s with env := s.env.set y.dst u, heap := s.heap.put e } = some s2 →
      ∃ v f, (f.all fun p => mayWrite ops s.top i p.1) = true ∧ C.runOpD rec ops i s = some { s with env := s.env.set x.dst v, heap := s.heap.put f } ∧ s2 = { s with env := (s.env.set y.dst u).set x.dst v, heap := (s.heap.put e).put f } := by
    intro u e he hr
    unfold Cfg.runOpD at hr ⊢
    simp only [hx] at hr ⊢
    have m1 := env_mask (s := s) (v := u) h hx hy
    have m2 := heap_mask (H := s.heap) h.symm hj hi he
    rw [m1, m2] at hr
    split at hr
    · cases hr
    · simp only [Option.some.injEq] at hr
      exact ⟨.undef, [], rfl, rfl, hr.symm⟩
    · split at hr
      · cases hr
      · rename_i v f hv
        split at hr
        · rename_i hf
          simp only [Option.some.injEq] at hr
          refine ⟨v, f, hf, ?_, hr.symm⟩
          rw [if_pos hf]
        · cases hr
  have comm2 : ∀ (e f : Eff), (e.all fun p => mayWrite ops s.top j p.1) = true → (f.all fun p => mayWrite ops s.top i p.1) = true → (s.heap.put e).put f = (s.heap.put f).put e := fun e f he hf => put_comm (fun p hp q hq hpq => by
    have a1 := List.all_eq_true.1 he p hp
    have a2 := List.all_eq_true.1 hf q hq
    rw [hpq] at a1
    rw [write_write h hi hj a2] at a1
    cases a1) s.heap
  have back : ∀ (v : DV) (f : Eff), (f.all fun p => mayWrite ops s.top i p.1) = true →
      (fun t => if (looks ops y).contains t then (s.env.set x.dst v) t else none) = (fun t => if (looks ops y).contains t then s.env t else none) ∧ (fun id => if maySee ops s.top j id then (s.heap.put f) id else none) = fun id => if maySee ops s.top j id then s.heap id else none := fun v f hf => by
    refine ⟨env_mask (s := s) h.symm hy hx, ?_⟩
    exact heap_mask (H := s.heap) h hi hj hf
  split at h1
  · cases h1
  · rename_i hg
    simp only [Option.some.injEq] at h1
    subst h1
    obtain ⟨v, f, hf, k1, rfl⟩ := goI .undef [] rfl h2
    refine ⟨_, k1, ?_⟩
    obtain ⟨b1, b2⟩ := back v f hf
    unfold Cfg.runOpD
    simp only [hy, b1, hg]
    rw [hcomm]
    rfl
  · rename_i hg
    split at h1
    · cases h1
    · rename_i u e he
      split at h1
      · rename_i hall
        simp only [Option.some.injEq] at h1
        subst h1
        obtain ⟨v, f, hf, k1, rfl⟩ := goI u e hall h2
        refine ⟨_, k1, ?_⟩
        obtain ⟨b1, b2⟩ := back v f hf
        unfold Cfg.runOpD
        simp only [hy, b1, b2, hg, he]
        rw [if_pos hall, hcomm, comm2 e f hall hf]
      · cases h1
theorem front {i : Nat} {s' : St} (hi : i < ops.size) : ∀ (l1 : List Nat) {l2 : List Nat} {s : St}, (∀ j ∈ l1, Indep ops i j ∧ j < ops.size) → C.runOpsD rec ops (l1 ++ i :: l2) s = some s' → ∃ s1, C.runOpD rec ops i s = some s1 ∧ C.runOpsD rec ops (l1 ++ l2) s1 = some s'
  | [], l2, s, hind, h => by
    simp only [List.nil_append] at h ⊢
    unfold Cfg.runOpsD at h
    split at h
    · cases h
    · rename_i s1 h1
      exact ⟨s1, h1, h⟩
  | j :: l1, l2, s, hind, h => by
    simp only [List.cons_append] at h ⊢
    unfold Cfg.runOpsD at h
    split at h
    · cases h
    · rename_i sj hj
      obtain ⟨s1, h1, h2⟩ := front hi l1 (fun k hk => hind k (List.mem_cons_of_mem _ hk)) h
      obtain ⟨hij, hjs⟩ := hind j List.mem_cons_self
      obtain ⟨s1', h3, h4⟩ := swap hij hi hjs hj h1
      refine ⟨s1', h3, ?_⟩
      unfold Cfg.runOpsD
      rw [h4]
      exact h2
theorem edges_bit {g : Nat → Nat} {k : Nat} : ∀ (es : List Edge) (s : Nat), (es.foldl (fun s e => if Region.binds .any e then s ||| 2 ^ e.on ||| g e.on else s) s).testBit k = true → s.testBit k = true ∨ ∃ e ∈ es, Region.binds .any e = true ∧ (e.on = k ∨ (g e.on).testBit k = true)
  | [], s, h => .inl h
  | e :: es, s, h => by
    simp only [List.foldl_cons] at h
    rcases edges_bit es _ h with h1 | ⟨e', he', hh⟩
    · split at h1
      · rename_i hb
        simp only [Nat.testBit_or, Nat.testBit_two_pow, Bool.or_eq_true, decide_eq_true_eq] at h1
        rcases h1 with (h1 | h1) | h1
        · exact .inl h1
        · exact .inr ⟨e, List.mem_cons_self, hb, .inl h1⟩
        · exact .inr ⟨e, List.mem_cons_self, hb, .inr h1⟩
      · exact .inl h1
    · exact .inr ⟨e', List.mem_cons_of_mem _ he', hh⟩
def stepB (acc : Array Nat) (o : Oper) : Array Nat := acc.push (o.after.foldl (fun s e => if Region.binds .any e then s ||| 2 ^ e.on ||| acc.getD e.on 0 else s) 0)
theorem foldB_size : ∀ (l : List Oper) (acc : Array Nat), (l.foldl stepB acc).size = acc.size + l.length
  | [], acc => rfl
  | o :: l, acc => by
    simp only [List.foldl_cons, foldB_size l, List.length_cons]
    simp only [stepB, Array.size_push]
    omega
theorem foldB_keep : ∀ (l : List Oper) (acc : Array Nat) (i : Nat), i < acc.size → (l.foldl stepB acc).getD i 0 = acc.getD i 0
  | [], acc, i, hi => rfl
  | o :: l, acc, i, hi => by
    simp only [List.foldl_cons]
    rw [foldB_keep l _ i (by simp [stepB]; omega)]
    simp [stepB, Array.getD_eq_getD_getElem?, Array.getElem?_push, Nat.ne_of_lt hi]
theorem foldB_get : ∀ (l : List Oper) (acc : Array Nat) (i : Nat) (o : Oper), l[i]? = some o → (∀ e ∈ o.after.toList, Region.binds .any e = true → e.on < acc.size + i) →
    ∀ k, ((l.foldl stepB acc).getD (acc.size + i) 0).testBit k = true → ∃ e ∈ o.after.toList, Region.binds .any e = true ∧ (e.on = k ∨ ((l.foldl stepB acc).getD e.on 0).testBit k = true)
  | [], acc, i, o, h, _, k, hk => by cases h
  | x :: l, acc, 0, o, h, hb, k, hk => by
    simp only [List.getElem?_cons_zero, Option.some.injEq] at h
    subst h
    simp only [List.foldl_cons, Nat.add_zero] at hk ⊢
    rw [foldB_keep l (stepB acc x) acc.size (by simp [stepB])] at hk
    have : (stepB acc x).getD acc.size 0 = x.after.foldl (fun s e => if Region.binds .any e then s ||| 2 ^ e.on ||| acc.getD e.on 0 else s) 0 := by
      simp [stepB, Array.getD_eq_getD_getElem?]
    rw [this, ← Array.foldl_toList] at hk
    rcases edges_bit (g := fun x => acc.getD x 0) _ _ hk with h1 | ⟨e, he, h2, h3⟩
    · simp at h1
    · refine ⟨e, he, h2, h3.imp id fun h4 => ?_⟩
      have hlt := hb e he h2
      rw [foldB_keep l (stepB acc x) e.on (by simp [stepB]; omega)]
      have : (stepB acc x).getD e.on 0 = acc.getD e.on 0 := by
        simp [stepB, Array.getD_eq_getD_getElem?, Array.getElem?_push, Nat.ne_of_lt (show e.on < acc.size by omega)]
      rw [this]
      exact h4
  | x :: l, acc, i + 1, o, h, hb, k, hk => by
    simp only [List.getElem?_cons_succ] at h
    simp only [List.foldl_cons] at hk ⊢
    have hs : (stepB acc x).size = acc.size + 1 := by simp [stepB]
    have := foldB_get l (stepB acc x) i o h (fun e he hbd => by have := hb e he hbd; omega) k (by rw [hs, show acc.size + 1 + i = acc.size + (i + 1) by omega]; exact hk)
    exact this
theorem anc_step (hok : drawOK ops = true) {i k : Nat} (hi : i < ops.size) (h : (anc ops i).testBit k = true) : ∃ o, ops[i]? = some o ∧ ∃ e ∈ o.after.toList, Region.binds .any e = true ∧ e.on < i ∧ (e.on = k ∨ (anc ops e.on).testBit k = true) := by
  obtain ⟨o, ho⟩ : ∃ o, ops[i]? = some o := ⟨_, Array.getElem?_eq_getElem hi⟩
  unfold drawOK at hok
  simp only [Bool.and_eq_true] at hok
  have hb := List.all_eq_true.1 hok.2 i (by simpa using hi)
  rw [ho] at hb
  simp only at hb
  have hedge : ∀ e ∈ o.after.toList, Region.binds .any e = true → e.on < i := fun e he hbd => by
    have := Array.all_eq_true'.1 hb e (by simpa using he)
    rw [hbd] at this
    simpa using this
  have hbef : Region.before ops = ops.toList.foldl stepB #[] := by
    unfold Region.before
    rw [← Array.foldl_toList]
    rfl
  unfold anc at h ⊢
  rw [hbef] at h ⊢
  obtain ⟨e, he, h2, h3⟩ := foldB_get ops.toList #[] i o (by simpa using ho) (fun e he hbd => by have := hedge e he hbd; simpa using this) k (by simpa using h)
  exact ⟨o, ho, e, he, h2, hedge e he h2, h3⟩
theorem anc_lt (hok : drawOK ops = true) : ∀ (n i k : Nat), i < n → i < ops.size → (anc ops i).testBit k = true → k < i := by
  intro n
  induction n with
  | zero => intro i k hn; omega
  | succ n ih =>
    intro i k hn hi h
    obtain ⟨o, ho, e, he, h2, h3, h4⟩ := anc_step hok hi h
    rcases h4 with rfl | h4
    · exact h3
    · have := ih e.on k (by omega) (by omega) h4
      omega
def unl (n : Nat) (listed : Array Bool) : List Nat := (List.range n).filter fun i => !listed.getD i true
def ClosedL (ops : Array Oper) (listed : Array Bool) : Prop := ∀ i, listed.getD i true = true → ∀ o, ops[i]? = some o → ∀ e ∈ o.after.toList, Region.binds .any e = true → listed.getD e.on true = true
theorem anc_listed (hok : drawOK ops = true) {listed : Array Bool} (hc : ClosedL ops listed) : ∀ (n i k : Nat), i < n → i < ops.size → (∀ o, ops[i]? = some o → ∀ e ∈ o.after.toList, Region.binds .any e = true → listed.getD e.on true = true) → (anc ops i).testBit k = true → listed.getD k true = true := by
  intro n
  induction n with
  | zero => intro i k hn; omega
  | succ n ih =>
    intro i k hn hi hr h
    obtain ⟨o, ho, e, he, h2, h3, h4⟩ := anc_step hok hi h
    have hl := hr o ho e he h2
    rcases h4 with rfl | h4
    · exact hl
    · exact ih e.on k (by omega) (by omega) (fun o' ho' e' he' hb' => hc e.on hl o' ho' e' he' hb') h4
theorem unl_split {n i : Nat} {listed : Array Bool} (hi : i < n) (hl : listed.getD i true = false) (hsz : listed.size = n) :
    unl n listed = (List.range i).filter (fun j => !listed.getD j true) ++ i :: (List.range' (i + 1) (n - (i + 1))).filter (fun j => !listed.getD j true) ∧
    unl n (listed.setIfInBounds i true) = (List.range i).filter (fun j => !listed.getD j true) ++ (List.range' (i + 1) (n - (i + 1))).filter (fun j => !listed.getD j true) := by
  have hr : List.range n = List.range i ++ i :: List.range' (i + 1) (n - (i + 1)) := by
    rw [List.range_eq_range', List.range_eq_range', show n = i + (1 + (n - (i + 1))) by omega, ← List.range'_append, ← List.range'_append]
    simp [List.range'_one, show i + (1 + (n - (i + 1))) - (i + 1) = n - (i + 1) by omega]
  have hset : ∀ j, j ≠ i → (listed.setIfInBounds i true).getD j true = listed.getD j true := fun j hj => by
    simp [Array.getD_eq_getD_getElem?, Ne.symm hj]
  have hseti : (listed.setIfInBounds i true).getD i true = true := by
    simp [Array.getD_eq_getD_getElem?, hsz, hi]
  refine ⟨?_, ?_⟩
  · unfold unl
    rw [hr, List.filter_append, List.filter_cons]
    simp [hl]
  · unfold unl
    rw [hr, List.filter_append, List.filter_cons]
    simp only [hseti, Bool.not_true, Bool.false_eq_true, if_false]
    congr 1
    · refine List.filter_congr fun j hj => ?_
      rw [hset j (by have := List.mem_range.1 hj; omega)]
    · refine List.filter_congr fun j hj => ?_
      rw [hset j (by have := List.mem_range'_1.1 hj; omega)]
theorem mem_unl {n i : Nat} {listed : Array Bool} : i ∈ unl n listed ↔ i < n ∧ listed.getD i true = false := by
  unfold unl; simp
theorem edge_lt (hok : drawOK ops = true) {i : Nat} {o : Oper} (ho : ops[i]? = some o) {e : Edge} (he : e ∈ o.after.toList) (hb : Region.binds .any e = true) : e.on < i := by
  unfold drawOK at hok
  simp only [Bool.and_eq_true] at hok
  have := List.all_eq_true.1 hok.2 i (by simpa using (Array.getElem?_eq_some_iff.1 ho).1)
  rw [ho] at this
  have := Array.all_eq_true'.1 this e (by simpa using he)
  rw [hb] at this
  simpa using this
theorem getD_any {listed : Array Bool} {i : Nat} (h : i < listed.size) (a b : Bool) : listed.getD i a = listed.getD i b := by
  simp [Array.getD_eq_getD_getElem?, h]
theorem mem_ready (hok : drawOK ops = true) {listed : Array Bool} (hsz : listed.size = ops.size) {i : Nat} : i ∈ Region.ready .any ops listed ↔ i < ops.size ∧ listed.getD i true = false ∧ ∀ o, ops[i]? = some o → ∀ e ∈ o.after.toList, Region.binds .any e = true → listed.getD e.on true = true := by
  unfold Region.ready
  simp only [List.mem_filter, List.mem_range, Bool.and_eq_true, Bool.not_eq_true']
  refine ⟨fun ⟨h1, h2, h3⟩ => ⟨h1, h2, fun o ho e he hb => ?_⟩, fun ⟨h1, h2, h3⟩ => ⟨h1, h2, ?_⟩⟩
  · rw [ho] at h3
    simp only [Option.map_some, Option.getD_some] at h3
    have := Array.all_eq_true'.1 h3 e (by simpa using he)
    rw [hb] at this
    have hlt := edge_lt hok ho he hb
    rw [getD_any (by omega) true false]
    simpa using this
  · obtain ⟨o, ho⟩ : ∃ o, ops[i]? = some o := ⟨_, Array.getElem?_eq_getElem h1⟩
    rw [ho]
    simp only [Option.map_some, Option.getD_some]
    refine Array.all_eq_true'.2 fun e he => ?_
    cases hb : Region.binds .any e with
    | false => rfl
    | true =>
      have hlt := edge_lt hok ho (by simpa using he) hb
      rw [getD_any (by omega) false true]
      simpa using h3 o ho e (by simpa using he) hb
theorem order_go (hok : drawOK ops = true) {s' : St} : ∀ (fuel t : Nat) (listed : Array Bool) (s : St), listed.size = ops.size → ClosedL ops listed → (unl ops.size listed).length ≤ fuel → C.runOpsD rec ops (unl ops.size listed) s = some s' →
    C.runOpsD rec ops (Region.linearise.go .any ops fuel t listed []) s = some s' ∧ (Region.linearise.go .any ops fuel t listed []).Nodup ∧ ∀ i ∈ Region.linearise.go .any ops fuel t listed [], i < ops.size ∧ listed.getD i true = false
  | 0, t, listed, s, hsz, hc, hf, h => by
    have : unl ops.size listed = [] := List.eq_nil_of_length_eq_zero (by omega)
    rw [this] at h
    simp only [Region.linearise.go, List.reverse_nil]
    exact ⟨h, by simp, by simp⟩
  | fuel + 1, t, listed, s, hsz, hc, hf, h => by
    simp only [Region.linearise.go]
    change C.runOpsD rec ops (match (Region.ready .any ops listed)[t % (Region.ready .any ops listed).length]? with
      | some i => Region.linearise.go .any ops fuel (t / (Region.ready .any ops listed).length) (listed.setIfInBounds i true) [i]
      | none => [].reverse) s = some s' ∧ (match (Region.ready .any ops listed)[t % (Region.ready .any ops listed).length]? with
      | some i => Region.linearise.go .any ops fuel (t / (Region.ready .any ops listed).length) (listed.setIfInBounds i true) [i]
      | none => [].reverse).Nodup ∧ ∀ i ∈ (match (Region.ready .any ops listed)[t % (Region.ready .any ops listed).length]? with
      | some i => Region.linearise.go .any ops fuel (t / (Region.ready .any ops listed).length) (listed.setIfInBounds i true) [i]
      | none => [].reverse), i < ops.size ∧ listed.getD i true = false
    cases hi : (Region.ready .any ops listed)[t % (Region.ready .any ops listed).length]? with
    | none =>
      have hnil : Region.ready .any ops listed = [] := by
        cases hr : Region.ready .any ops listed with
        | nil => rfl
        | cons x xs =>
          rw [hr] at hi
          have hlt : t % (x :: xs).length < (x :: xs).length := Nat.mod_lt _ (by simp)
          rw [List.getElem?_eq_none_iff] at hi
          omega
      have hu : unl ops.size listed = [] := by
        cases hq : unl ops.size listed with
        | nil => rfl
        | cons u us =>
          exfalso

          have hmem : u ∈ unl ops.size listed := by rw [hq]; exact List.mem_cons_self
          obtain ⟨h1, h2⟩ := mem_unl.1 hmem
          have hmin : ∀ j, j < u → listed.getD j true = true := fun j hj => by
            cases hjl : listed.getD j true with
            | true => rfl
            | false =>
              have hjm : j ∈ unl ops.size listed := mem_unl.2 ⟨by omega, hjl⟩
              have hsorted : (unl ops.size listed).Pairwise (· < ·) := by
                unfold unl
                exact List.Pairwise.filter _ List.pairwise_lt_range
              rw [hq] at hjm hsorted
              rcases List.mem_cons.1 hjm with rfl | hjm
              · omega
              · have := (List.pairwise_cons.1 hsorted).1 j hjm
                omega
          have : u ∈ Region.ready .any ops listed := (mem_ready hok hsz).2 ⟨h1, h2, fun o ho e he hb => hmin e.on (by
            unfold drawOK at hok
            simp only [Bool.and_eq_true] at hok
            have := List.all_eq_true.1 hok.2 u (by simpa using h1)
            rw [ho] at this
            have := Array.all_eq_true'.1 this e (by simpa using he)
            rw [hb] at this
            simpa using this)⟩
          rw [hnil] at this
          cases this
      rw [hu] at h
      exact ⟨h, by simp, by simp⟩
    | some i =>
      simp only []
      rw [linearise_go_acc, List.reverse_singleton, List.singleton_append]
      obtain ⟨h1, h2, h3⟩ := (mem_ready hok hsz).1 (List.mem_of_getElem? hi)
      obtain ⟨k1, k2⟩ := unl_split h1 h2 hsz
      rw [k1] at h
      have hind : ∀ j ∈ (List.range i).filter (fun j => !listed.getD j true), Indep ops i j ∧ j < ops.size := fun j hj => by
        simp only [List.mem_filter, List.mem_range, Bool.not_eq_true'] at hj
        refine ⟨⟨by omega, ?_, ?_⟩, by omega⟩
        · unfold comparable
          simp only [Bool.or_eq_false_iff, beq_eq_false_iff_ne, ne_eq]
          refine ⟨⟨by omega, ?_⟩, ?_⟩
          · cases hb : (anc ops i).testBit j with
            | false => rfl
            | true =>
              have := anc_listed hok hc (i + 1) i j (by omega) h1 h3 hb
              rw [hj.2] at this; cases this
          · cases hb : (anc ops j).testBit i with
            | false => rfl
            | true =>
              have := anc_lt hok (j + 1) j i (by omega) (by omega) hb
              omega
        · unfold drawOK at hok
          simp only [Bool.and_eq_true] at hok
          have := List.all_eq_true.1 hok.1 i (by simpa using h1)
          have := List.all_eq_true.1 this j (by simpa using hj.1)
          have hcf : comparable ops i j = false := by
            unfold comparable
            simp only [Bool.or_eq_false_iff, beq_eq_false_iff_ne, ne_eq]
            refine ⟨⟨by omega, ?_⟩, ?_⟩
            · cases hb : (anc ops i).testBit j with
              | false => rfl
              | true =>
                have := anc_listed (by unfold drawOK; simp only [Bool.and_eq_true]; exact hok) hc (i + 1) i j (by omega) h1 h3 hb
                rw [hj.2] at this; cases this
            · cases hb : (anc ops j).testBit i with
              | false => rfl
              | true =>
                have := anc_lt (by unfold drawOK; simp only [Bool.and_eq_true]; exact hok) (j + 1) j i (by omega) (by omega) hb
                omega
          rw [hcf] at this
          simpa using this
      obtain ⟨s1, h4, h5⟩ := front h1 _ hind h
      rw [← k2] at h5
      have hget : ∀ j, (listed.setIfInBounds i true).getD j true = if j = i then true else listed.getD j true := fun j => by
        by_cases hj : j = i
        · subst hj
          simp [Array.getD_eq_getD_getElem?, hsz, h1]
        · simp [Array.getD_eq_getD_getElem?, Ne.symm hj, hj]
      have hc' : ClosedL ops (listed.setIfInBounds i true) := fun j hj o ho e he hb => by
        rw [hget] at hj ⊢
        split at hj
        · rename_i hji
          subst hji
          split
          · rfl
          · exact h3 o ho e he hb
        · split
          · rfl
          · exact hc j hj o ho e he hb
      have hlen : (unl ops.size (listed.setIfInBounds i true)).length ≤ fuel := by
        rw [k1] at hf
        rw [k2]
        simp only [List.length_append, List.length_cons] at hf ⊢
        omega
      obtain ⟨r1, r2, r3⟩ := order_go hok fuel (t / (Region.ready .any ops listed).length) _ s1 (by simpa using hsz) hc' hlen h5
      refine ⟨?_, ?_, ?_⟩
      · unfold Cfg.runOpsD
        rw [h4]
        exact r1
      · rw [List.nodup_cons]
        refine ⟨fun hm => ?_, r2⟩
        have := (r3 i hm).2
        rw [hget] at this
        simp at this
      · intro j hj
        rcases List.mem_cons.1 hj with rfl | hj
        · exact ⟨h1, h2⟩
        · have := r3 j hj
          rw [hget] at this
          refine ⟨this.1, ?_⟩
          split at this
          · exact absurd this.2 (by simp)
          · exact this.2
theorem order_sound {s s' : St} (hok : drawOK ops = true) (h : C.runOpsD rec ops (List.range ops.size) s = some s') (t : Nat) :
    C.runOpsD rec ops (Region.schedule true ops t) s = some s' ∧ (Region.schedule true ops t).Nodup ∧ ∀ i ∈ Region.schedule true ops t, i < ops.size := by
  have hget : ∀ i, i < ops.size → (Array.replicate ops.size false).getD i true = false := fun i hi => by simp [Array.getD_eq_getD_getElem?, hi]
  have hu : unl ops.size (Array.replicate ops.size false) = List.range ops.size := by
    unfold unl
    rw [List.filter_eq_self]
    intro i hi
    rw [hget i (by simpa using hi)]
    rfl
  have hs : Region.schedule true ops t = Region.linearise.go .any ops ops.size t (Array.replicate ops.size false) [] := by
    simp only [Region.schedule, Bool.true_or, if_true, Region.linearise]
  rw [hs]
  have hc : ClosedL ops (Array.replicate ops.size false) := fun i hi o ho => by
    have := hget i (Array.getElem?_eq_some_iff.1 ho).1
    rw [this] at hi
    cases hi
  obtain ⟨r1, r2, r3⟩ := order_go (C := C) (rec := rec) hok ops.size t (Array.replicate ops.size false) s (by simp) hc (by rw [hu]; simp) (by rw [hu]; exact h)
  exact ⟨r1, r2, fun i hi => (r3 i hi).1⟩
end
end Go.PM
end
section
namespace Go.PM
open Go
set_option linter.unusedVariables false
theorem Back.trans {N0 : Nat → Prop} {w w1 w2 : World} {φ φ1 φ2 : Phi} {H H1 H2 : Heap} {m m1 m2 : Nat} (h : Back N0 w φ H m w1 φ1 H1 m1) (k : Back N0 w1 φ1 H1 m w2 φ2 H2 m2) : Back N0 w φ H m w2 φ2 H2 m2 := by
  refine ⟨k.os.trans h.os, k.tape.trans h.tape, k.output.trans h.output, Nat.le_trans h.size k.size, fun b hb hn => ?_, fun b hb ho => h.own b hb (k.own b (Nat.lt_of_lt_of_le hb h.size) ho), fun id q hid hq => ?_, fun id pb hp hb => ?_, k.rel, k.tail, k.le⟩
  · exact (k.same b (Nat.lt_of_lt_of_le hb h.size) fun o => hn (h.own b hb o)).trans (h.same b hb hn)
  · rcases h.keep id q hid hq with h1 | h1
    · exact k.keep id q hid h1
    · exact (k.keep id none hid h1).elim .inr .inr
  · obtain ⟨i1, p1, h1, h2⟩ := k.old id pb hp (Nat.lt_of_lt_of_le hb h.size)
    obtain ⟨i0, p0, h3, h4⟩ := h.old i1 p1 h1 (by rw [h2]; exact hb)
    exact ⟨i0, p0, h3, h4.trans h2⟩
theorem Back.of_step {N0 : Nat → Prop} {w w1 : World} {φ φ1 : Phi} {H H1 : Heap} {m m1 : Nat} (h : Step N0 w φ H w1 φ1 H1) (ht : ∀ k, m1 ≤ k → φ1 k = none) (hm : m ≤ m1) : Back N0 w φ H m w1 φ1 H1 m1 :=
  ⟨h.os, h.tape, h.output, h.size, h.same, h.own, fun id q _ hq => h.keep id q hq, h.old, h.rel, ht, hm⟩
theorem Back.refl {N0 : Nat → Prop} {w : World} {φ : Phi} {H : Heap} {m m1 : Nat} (h : HeapRel w N0 φ H) (ht : ∀ k, m1 ≤ k → φ k = none) (hm : m ≤ m1) : Back N0 w φ H m w φ H m1 := Back.of_step (Step.refl h) ht hm
theorem Back.laterN {N0 : Nat → Prop} {w w1 : World} {φ φ1 : Phi} {H H1 : Heap} {m m1 : Nat} (h : Back N0 w φ H m w1 φ1 H1 m1) : ∀ b, b < w.heap.size → Nn N0 φ1 H1 b → Nn N0 φ H b := fun b hb hn => hn.imp id (h.own b hb)
theorem GlobRel.back {C : Cfg} {N0 : Nat → Prop} {w w1 : World} {φ φ1 : Phi} {H H1 : Heap} {m m1 : Nat} (h : Back N0 w φ H m w1 φ1 H1 m1) (hg : GlobRel C w (Nn N0 φ H)) : GlobRel C w1 (Nn N0 φ1 H1) := by
  refine ⟨fun g d hd => ⟨(hg.vals g d hd).1, (hg.vals g d hd).2.later ⟨h.size, fun b hb hn => h.same b hb fun o => hn (.inr o), h.laterN, fun _ _ h => by cases h⟩⟩, fun g q hq => ?_⟩
  obtain ⟨hn, o, ho, hp⟩ := hg.fix g q hq
  have hlt := (Array.getElem?_eq_some_iff.1 ho).1
  exact ⟨fun h2 => hn (h.laterN g hlt h2), o, (h.same g hlt fun o => hn (.inr o)).trans ho, hp⟩
theorem idsPrefix {m : Nat} {ids : List Nat} (h : List.range m <+: ids) : ∀ k, k < m → ids[k]? = some k := fun k hk => by
  obtain ⟨r, rfl⟩ := h
  rw [List.getElem?_append_left (by simpa using hk)]
  simp [hk]
theorem pack_back {N0 : Nat → Prop} {w : World} {φ : Phi} {H : Heap} {m : Nat} {ids : List Nat} (h : HeapRel w N0 φ H) (hn : ids.Nodup) (hp : List.range m <+: ids) : Back N0 w φ H m w (phiOf ids φ) (heapOf (packIds ids H)) (packIds ids H).length := by
  have hlen : (packIds ids H).length = ids.length := by unfold packIds; simp
  refine ⟨rfl, rfl, rfl, Nat.le_refl _, fun _ _ _ => rfl, fun b _ ho => (pack_own ho).1, fun id q hid hq => .inl ?_, fun id pb hpb _ => ?_, h.pack hn (fun b hb => .inl hb) (fun id _ pb hp => h.out id pb hp), fun k hk => ?_, ?_⟩
  · unfold phiOf
    rw [idsPrefix hp id hid]
    exact hq
  · unfold phiOf at hpb
    obtain ⟨i, h1, h2⟩ := Option.bind_eq_some_iff.1 hpb
    exact ⟨i, pb, h2, rfl⟩
  · unfold phiOf
    rw [List.getElem?_eq_none (by omega)]
    rfl
  · obtain ⟨r, rfl⟩ := hp
    rw [hlen]; simp
theorem pack_sub {N0 : Nat → Prop} {φ : Phi} {H : Heap} {ids : List Nat} : ∀ b, Nn N0 (phiOf ids φ) (heapOf (packIds ids H)) b → Nn N0 φ H b := fun b hb => hb.imp id fun q => (pack_own q).1
theorem envOf_pack {ρ : Nat → Option Nat} {e : Env} : ∀ {ts : List Nat} {t : Nat} {d : DV}, envOf ts (renO ρ (ts.map e)) t = some d → ∃ d0, e t = some d0 ∧ d = d0.ren ρ
  | [], t, d, h => by simp [envOf] at h
  | u :: ts, t, d, h => by
    simp only [List.map_cons, renO, envOf] at h
    split at h
    · rename_i hu
      subst hu
      obtain ⟨d0, h1, h2⟩ := Option.map_eq_some_iff.1 h
      exact ⟨d0, h1, h2.symm⟩
    · exact envOf_pack h
theorem pack_some {m : Nat} {vals vals' : List (Option DV)} {h : Heap} {hs : List (Option Blk)} (hp : pack m vals h = some (vals', hs)) : ∃ ids, ids.Nodup ∧ List.range m <+: ids ∧ vals' = renO (place ids) vals ∧ hs = packIds ids h := by
  unfold pack at hp
  split at hp
  · rename_i ids hids
    simp only [Option.some.injEq, Prod.mk.injEq] at hp
    obtain ⟨h1, _, h3⟩ := collect_nodup hids List.nodup_range
    exact ⟨ids, h1, h3, hp.1.symm, hp.2.symm⟩
  · cases hp
def checkRegion (n : Nat) (ops : Array Oper) (draw : Bool) : Bool := (ops.all fun o => match o.dst with | some d => decide (d < n) | none => true) && (!draw || drawOK ops)
def checkCode (n : Nat) : Code → Bool
  | .region _ ops d => checkRegion n ops d
  | .seq a b | .cond _ a b => checkCode n a && checkCode n b
  | .block _ c | .loop c => checkCode n c
  | _ => true
theorem codeAt_check {n : Nat} {c : Code} {l : Live} (h : checkCode n c = true) : ∀ {p : List Bool} {c' : Code} {l' : Live}, codeAt c l p = some (c', l') → checkCode n c' = true
  | [], c', l', hc => by
    simp only [codeAt, Option.some.injEq, Prod.mk.injEq] at hc
    rw [← hc.1]; exact h
  | b :: p, c', l', hc => by
    simp only [codeAt] at hc
    split at hc
    · rename_i x y l1 h1
      have h2 := codeAt_check h h1
      simp only [checkCode, Bool.and_eq_true] at h2
      split at hc <;> simp only [Option.some.injEq, Prod.mk.injEq] at hc <;> rw [← hc.1]
      · exact h2.2
      · exact h2.1
    · rename_i q x y l1 h1
      have h2 := codeAt_check h h1
      simp only [checkCode, Bool.and_eq_true] at h2
      simp only [Option.some.injEq, Prod.mk.injEq] at hc
      rw [← hc.1]
      split
      · exact h2.2
      · exact h2.1
    · rename_i id x l1 h1
      have h2 := codeAt_check h h1
      simp only [Option.some.injEq, Prod.mk.injEq] at hc
      rw [← hc.1]; exact h2
    · rename_i x l1 h1
      have h2 := codeAt_check h h1
      simp only [Option.some.injEq, Prod.mk.injEq] at hc
      rw [← hc.1]; exact h2
    · cases hc
def LW (P : Program) (b : Code) (Q : Exit → Act → World → Prop) (a : Act) (w : World) : Prop :=
  ∀ (fr : Frame) (k : List Item) (cs : List Frame), ∃ e a' w', Q e a' w' ∧ Arrives P (lone (fr.at a (.code b :: .inLoop b :: k)) cs w) fr k cs e a' w'
theorem LW.wp {P : Program} {b : Code} {Q : Exit → Act → World → Prop} {a : Act} {w : World} (h : LW P b Q a w) : (Code.loop b).wp P Q a w := fun fr k cs =>
  let ⟨e, a', w', q, r⟩ := h fr k cs; ⟨e, a', w', q, .of_steps (.one step_loop) r⟩
theorem LW.unroll {P : Program} {b : Code} {Q : Exit → Act → World → Prop} {a : Act} {w : World} (h : b.wp P (Exit.then (LW P b Q) Q) a w) : LW P b Q a w := by
  intro fr k cs
  obtain ⟨e, a1, w1, hq, harr⟩ := h fr (.inLoop b :: k) cs
  cases e with
  | normal =>
    obtain ⟨e2, a2, w2, hq2, harr2⟩ := hq fr k cs
    exact ⟨e2, a2, w2, hq2, .of_steps (Steps.trans harr (.one step_inLoop)) harr2⟩
  | exit id => exact ⟨_, a1, w1, hq, .pass (x := .inLoop b) rfl (fun _ _ => .inl (by simp)) harr⟩
  | goto l => exact ⟨_, a1, w1, hq, .pass (x := .inLoop b) rfl (fun _ _ => .inl (by simp)) harr⟩
  | ret => exact ⟨_, a1, w1, hq, .pass (x := .inLoop b) rfl (fun _ _ => .inl (by simp)) harr⟩
  | panic ch => exact ⟨_, a1, w1, hq, .pass (x := .inLoop b) rfl (fun _ _ => .inl (by simp)) harr⟩
  | outgrown => exact ⟨_, a1, w1, hq, .pass (x := .inLoop b) rfl (fun _ _ => .inl (by simp)) harr⟩
theorem LW.mono {P : Program} {b : Code} {Q Q' : Exit → Act → World → Prop} {a : Act} {w : World} (h : LW P b Q a w) (hq : ∀ e a w, Q e a w → Q' e a w) : LW P b Q' a w := fun fr k cs =>
  let ⟨e, a', w', q, r⟩ := h fr k cs; ⟨e, a', w', hq _ _ _ q, r⟩
def ExRel : Ex → Exit → Prop
  | .normal, .normal => True
  | .exit i, .exit j => i = j
  | .ret, .ret => True
  | _, _ => False
def Post (C : Cfg) (N0 : Nat → Prop) (w : World) (φ : Phi) (H : Heap) (m n : Nat) (ds : List Deferred) (e : Ex) (env : Env) (H' : Heap) (m' : Nat) (x : Exit) (a' : Act) (w' : World) : Prop :=
  ExRel e x ∧ a'.defers = ds ∧ a'.tmps.size = n ∧ ∃ φ', Back N0 w φ H m w' φ' H' m' ∧ EnvRel env a' w' (Nn N0 φ' H') φ' ∧ EnvIn env n
def LoopOK (C : Cfg) (f : FuncId) (p : List Bool) (m : Nat) (vals : List (Option DV)) (hs : List (Option Blk)) (e : Ex) (vals' : List (Option DV)) (hs' : List (Option Blk)) : Prop :=
  ∀ (fn : Func) (c b : Code) (l : Live), C.P.funcs[f]? = some fn → fn.body = some c → checkCode fn.ntmps c = true → codeAt c (Func.live fn) p = some (.loop b, l) →
    ∀ (a : Act) (w : World) (N0 : Nat → Prop) (φ : Phi) (n : Nat), a.tmps.size = n → fn.ntmps ≤ n → (∀ k, hs.length ≤ k → φ k = none) → m ≤ hs.length → HeapRel w N0 φ (heapOf hs) → EnvRel (envOf (liveIn (.loop b) l) vals) a w (Nn N0 φ (heapOf hs)) φ → EnvIn (envOf (liveIn (.loop b) l) vals) n →
      GlobRel C w (Nn N0 φ (heapOf hs)) → LW C.P b (Post C N0 w φ (heapOf hs) m n a.defers e (envOf (e.live l) vals') (heapOf hs') hs'.length) a w
section
variable {C : Cfg} {rec : Req → Option Res}
theorem Post.back {N0 : Nat → Prop} {w w1 : World} {φ φ1 : Phi} {H H1 H' : Heap} {m m1 m' n : Nat} {ds : List Deferred} {e : Ex} {env : Env} {x : Exit} {a' : Act} {w' : World} (B : Back N0 w φ H m w1 φ1 H1 m1) (h : Post C N0 w1 φ1 H1 m n ds e env H' m' x a' w') : Post C N0 w φ H m n ds e env H' m' x a' w' := by
  obtain ⟨h1, h2, h3, φ', h4, h5⟩ := h
  exact ⟨h1, h2, h3, φ', B.trans h4, h5⟩
theorem chain_base {ops : Array Oper} : ∀ {l : List Nat} {s s' : St}, Chain C rec ops l s s' → s'.base = s.base
  | _, _, _, .nil s => rfl
  | _, _, _, .cons h t => by
    rw [chain_base t]
    obtain ⟨o, e', rd, _, _, _, hc⟩ := h
    rcases hc with ⟨_, rfl⟩ | ⟨_, v, e, _, rfl⟩ <;> rfl
theorem runC_sound (hrec : ∀ g args hs v hs', rec (.call g args hs) = some (.done v hs') → CallOK C g args hs v hs') (hloop : ∀ f p m vals hs e vals' hs', rec (.loop f p m vals hs) = some (.left e vals' hs') → LoopOK C f p m vals hs e vals' hs')
    (hext : ExtOK C) (hb : BodyOK C) (hmix : C.P.follows .mixedOrders = true) {f : FuncId} {fn : Func} {c0 : Code} (hf : C.P.funcs[f]? = some fn) (hbody : fn.body = some c0) (hck : checkCode fn.ntmps c0 = true) {N0 : Nat → Prop} {n : Nat} (hn : fn.ntmps ≤ n) :
    ∀ (c : Code) {p : List Bool} {l : Live} {s s' : St} {e : Ex} {a : Act} {w : World} {φ : Phi}, codeAt c0 (Func.live fn) p = some (c, l) → C.runC rec f p l c s = some (e, s') →
      a.tmps.size = n → (∀ k, s.top ≤ k → φ k = none) → s.base ≤ s.top → HeapRel w N0 φ s.heap → EnvRel s.env a w (Nn N0 φ s.heap) φ → EnvIn s.env n → GlobRel C w (Nn N0 φ s.heap) →
      s'.base = s.base ∧ c.wp C.P (Post C N0 w φ s.heap s.base n a.defers e s'.env s'.heap s'.top) a w
  | .skip, p, l, s, s', e, a, w, φ, hat, h, hsz, htop, hle, hrel, henv, hin, hg => by
    unfold Cfg.runC at h
    simp only [Option.some.injEq, Prod.mk.injEq] at h
    obtain ⟨rfl, rfl⟩ := h
    exact ⟨rfl, wp_skip ⟨trivial, rfl, hsz, φ, Back.refl hrel htop hle, henv, hin⟩⟩
  | .region id ops d, p, l, s, s', e, a, w, φ, hat, h, hsz, htop, hle, hrel, henv, hin, hg => by
    unfold Cfg.runC at h
    obtain ⟨s1, h1, h2⟩ := Option.map_eq_some_iff.1 h
    simp only [Prod.mk.injEq] at h2
    obtain ⟨rfl, rfl⟩ := h2
    unfold Cfg.runRegion at h1
    obtain ⟨s2, h2, rfl⟩ := Option.map_eq_some_iff.1 h1
    have hchk := codeAt_check hck hat
    simp only [checkCode, checkRegion, Bool.and_eq_true, Bool.or_eq_true, Bool.not_eq_true'] at hchk
    have hdst : ∀ (i : Nat) (o : Oper) (d : Nat), ops[i]? = some o → o.dst = some d → d < n := fun i o d ho hd => by
      have := Array.all_eq_true'.1 hchk.1 o (Array.mem_of_getElem? ho)
      rw [hd] at this
      exact Nat.lt_of_lt_of_le (of_decide_eq_true this) hn
    have main : ∀ (l : List Nat) (w0 : World), Chain C rec ops l s s2 → l.Nodup → (∀ i ∈ l, i < ops.size) → w0.heap = w.heap → w0.os = w.os → w0.tape = w.tape → w0.output = w.output →
        s2.base = s.base ∧ wpOps C.P ops (Post C N0 w φ s.heap s.base n a.defers .normal s2.env s2.heap (s.top + ops.size * wide)) l a w0 := by
      intro l w0 hchain hnd hlt e1 e2 e3 e4
      have L0 : Later w (Nn N0 φ s.heap) φ w0 (Nn N0 φ s.heap) φ := ⟨by rw [e1]; exact Nat.le_refl _, fun b _ _ => by rw [e1], fun b _ h => h, fun _ q h => .inl h⟩
      have hrel0 : HeapRel w0 N0 φ s.heap := ⟨hrel.gone, fun i b hb => by
        obtain ⟨pb, k1, k2⟩ := hrel.here i b hb
        exact ⟨pb, k1, k2.later L0 (by rw [e1])⟩, hrel.apart, hrel.out, fun b hb => by rw [e1]; exact hrel.lim b hb⟩
      have hb2 : s2.base = s.base := chain_base hchain
      refine ⟨hb2, chain_sound hrec hext hb hdst hchain hnd hlt hsz hrel0 (henv.later L0) hin (hg.later L0) (fun i hi j hj _ => htop j (by omega)) (fun j hj => htop j (by omega)) fun a' w' φ' k1 k2 k3 k4 k5 k6 k7 k8 k9 => ⟨trivial, k1, k2, φ', ?_, k4, k5⟩⟩
      have B := Back.of_step (m := s.base) k3 k9 (by omega)
      exact ⟨B.os.trans e2, B.tape.trans e3, B.output.trans e4, by rw [← e1]; exact B.size, fun b hb hn => by rw [← e1] at hb ⊢; exact B.same b hb hn, fun b hb => by rw [← e1] at hb; exact B.own b hb, B.keep, fun i pb hp hb => by rw [← e1] at hb; exact B.old i pb hp hb, B.rel, B.tail, B.le⟩
    cases d with
    | false =>
      simp only [Bool.false_eq_true, if_false] at h2
      obtain ⟨k1, k2⟩ := main (List.range ops.size) w (runOps_chain h2) List.nodup_range (fun i hi => by simpa using hi) rfl rfl rfl rfl
      exact ⟨k1, wp_region k2⟩
    | true =>
      simp only [if_true] at h2
      have hd : drawOK ops = true := hchk.2.resolve_left (by simp)
      refine ⟨(main (Region.schedule true ops 0) w (runOpsD_chain (order_sound hd h2 0).1) (order_sound hd h2 0).2.1 (order_sound hd h2 0).2.2 rfl rfl rfl rfl).1, wp_region_draw fun t => ?_⟩
      rw [hmix]
      obtain ⟨k1, k2, k3⟩ := order_sound hd h2 t
      exact (main _ { w with drawn := w.drawn + 1 } (runOpsD_chain k1) k2 k3 rfl rfl rfl rfl).2
  | .seq x y, p, l, s, s', e, a, w, φ, hat, h, hsz, htop, hle, hrel, henv, hin, hg => by
    unfold Cfg.runC at h
    have hat1 : codeAt c0 (Func.live fn) (false :: p) = some (x, { l with normal := liveIn y l }) := by simp only [codeAt, hat]; rfl
    have hat2 : codeAt c0 (Func.live fn) (true :: p) = some (y, l) := by simp only [codeAt, hat]; rfl
    split at h
    · rename_i s1 h1
      obtain ⟨k1, k2⟩ := runC_sound hrec hloop hext hb hmix hf hbody hck hn x hat1 h1 hsz htop hle hrel henv hin hg
      have hfin : ∀ a1 w1, Post C N0 w φ s.heap s.base n a.defers .normal s1.env s1.heap s1.top .normal a1 w1 → s'.base = s.base ∧ y.wp C.P (Post C N0 w φ s.heap s.base n a.defers e s'.env s'.heap s'.top) a1 w1 := by
        rintro a1 w1 ⟨_, d1, d2, φ1, B, e1, e2⟩
        obtain ⟨k3, k4⟩ := runC_sound hrec hloop hext hb hmix hf hbody hck hn y hat2 h d2 B.tail (by rw [k1]; exact B.le) B.rel e1 e2 (hg.back B)
        rw [k1, d1] at k4
        exact ⟨k3.trans k1, wp_mono k4 fun x a w hp => hp.back B⟩
      refine ⟨?_, wp_seq (wp_mono k2 fun x1 a1 w1 hp => ?_)⟩
      · obtain ⟨e1, a1, w1, hp, _⟩ := k2 default [] []
        cases e1 with
        | normal => exact (hfin a1 w1 hp).1
        | exit id => exact hp.1.elim
        | goto l => exact hp.1.elim
        | ret => exact hp.1.elim
        | panic ch => exact hp.1.elim
        | outgrown => exact hp.1.elim
      · cases x1 with
        | normal => exact (hfin a1 w1 hp).2
        | exit id => exact hp.1.elim
        | goto l => exact hp.1.elim
        | ret => exact hp.1.elim
        | panic ch => exact hp.1.elim
        | outgrown => exact hp.1.elim
    · rename_i hne
      obtain ⟨k1, k2⟩ := runC_sound hrec hloop hext hb hmix hf hbody hck hn x hat1 h hsz htop hle hrel henv hin hg
      refine ⟨k1, wp_seq (wp_mono k2 fun x1 a1 w1 hp => ?_)⟩
      cases x1 with
      | normal =>
        cases e with
        | normal => exact absurd h (hne s')
        | exit id => exact hp.1.elim
        | ret => exact hp.1.elim
      | exit id => exact hp
      | goto l => exact hp
      | ret => exact hp
      | panic ch => exact hp
      | outgrown => exact hp
  | .cond q x y, p, l, s, s', e, a, w, φ, hat, h, hsz, htop, hle, hrel, henv, hin, hg => by
    unfold Cfg.runC at h
    have hat1 : codeAt c0 (Func.live fn) (false :: p) = some (x, l) := by simp only [codeAt, hat]; rfl
    have hat2 : codeAt c0 (Func.live fn) (true :: p) = some (y, l) := by simp only [codeAt, hat]; rfl
    split at h
    · rename_i t ht
      have hq := evalOp_rel (C := C) henv (fun _ _ h => h) hg q _ ht
      unfold Rep at hq
      cases t with
      | true =>
        simp only [if_true] at h
        obtain ⟨k1, k2⟩ := runC_sound hrec hloop hext hb hmix hf hbody hck hn x hat1 h hsz htop hle hrel henv hin hg
        exact ⟨k1, wp_cond_true hq k2⟩
      | false =>
        simp only [Bool.false_eq_true, if_false] at h
        obtain ⟨k1, k2⟩ := runC_sound hrec hloop hext hb hmix hf hbody hck hn y hat2 h hsz htop hle hrel henv hin hg
        exact ⟨k1, wp_cond_false hq k2⟩
    · cases h
  | .block id x, p, l, s, s', e, a, w, φ, hat, h, hsz, htop, hle, hrel, henv, hin, hg => by
    unfold Cfg.runC at h
    have hat1 : codeAt c0 (Func.live fn) (false :: p) = some (x, { l with exits := (id, l.normal) :: l.exits }) := by simp only [codeAt, hat]
    split at h
    · rename_i j s1 h1
      obtain ⟨k1, k2⟩ := runC_sound hrec hloop hext hb hmix hf hbody hck hn x hat1 h1 hsz htop hle hrel henv hin hg
      split at h
      · rename_i hj
        simp only [Option.some.injEq, Prod.mk.injEq] at h
        obtain ⟨rfl, rfl⟩ := h
        refine ⟨k1, wp_block (wp_mono k2 fun x1 a1 w1 hp => ?_)⟩
        cases x1 with
        | exit i =>
          have : j = i := hp.1
          subst this
          simp only [Exit.inBlock, hj, if_true]
          exact ⟨trivial, hp.2⟩
        | normal => exact hp.1.elim
        | goto l => exact hp.1.elim
        | ret => exact hp.1.elim
        | panic ch => exact hp.1.elim
        | outgrown => exact hp.1.elim
      · rename_i hj
        simp only [Option.some.injEq, Prod.mk.injEq] at h
        obtain ⟨rfl, rfl⟩ := h
        refine ⟨k1, wp_block (wp_mono k2 fun x1 a1 w1 hp => ?_)⟩
        cases x1 with
        | exit i =>
          have : j = i := hp.1
          subst this
          simp only [Exit.inBlock, hj, if_false]
          exact hp
        | normal => exact hp.1.elim
        | goto l => exact hp.1.elim
        | ret => exact hp.1.elim
        | panic ch => exact hp.1.elim
        | outgrown => exact hp.1.elim
    · rename_i hne
      obtain ⟨k1, k2⟩ := runC_sound hrec hloop hext hb hmix hf hbody hck hn x hat1 h hsz htop hle hrel henv hin hg
      refine ⟨k1, wp_block (wp_mono k2 fun x1 a1 w1 hp => ?_)⟩
      cases x1 with
      | exit i =>
        cases e with
        | exit j => exact absurd h (hne j s')
        | normal => exact hp.1.elim
        | ret => exact hp.1.elim
      | normal => exact hp
      | goto l => exact hp
      | ret => exact hp
      | panic ch => exact hp
      | outgrown => exact hp
  | .loop b, p, l, s, s', e, a, w, φ, hat, h, hsz, htop, hle, hrel, henv, hin, hg => by
    unfold Cfg.runC at h
    dsimp only at h
    split at h
    · cases h
    · rename_i vals hs hp
      split at h
      · rename_i e1 vals' hs' hr
        simp only [Option.some.injEq, Prod.mk.injEq] at h
        obtain ⟨rfl, rfl⟩ := h
        obtain ⟨ids, hnd, hpre, rfl, rfl⟩ := pack_some hp
        have B := pack_back hrel hnd hpre
        have hL := hloop _ _ _ _ _ _ _ _ hr fn c0 b l hf hbody hck hat a w N0 (phiOf ids φ) n hsz hn B.tail B.le B.rel (fun t d hd => by
          obtain ⟨d0, h1, rfl⟩ := envOf_pack hd
          exact (henv t d0 h1).ren pack_sub (place_phi ids φ)) (fun t d hd => by
          obtain ⟨d0, h1, rfl⟩ := envOf_pack hd
          exact hin t d0 h1) (hg.back B)
        exact ⟨rfl, (hL.mono fun x a1 w1 hp => hp.back B).wp⟩
      · cases h
  | .exit id, p, l, s, s', e, a, w, φ, hat, h, hsz, htop, hle, hrel, henv, hin, hg => by
    unfold Cfg.runC at h
    simp only [Option.some.injEq, Prod.mk.injEq] at h
    obtain ⟨rfl, rfl⟩ := h
    exact ⟨rfl, wp_exit ⟨rfl, rfl, hsz, φ, Back.refl hrel htop hle, henv, hin⟩⟩
  | .ret, p, l, s, s', e, a, w, φ, hat, h, hsz, htop, hle, hrel, henv, hin, hg => by
    unfold Cfg.runC at h
    simp only [Option.some.injEq, Prod.mk.injEq] at h
    obtain ⟨rfl, rfl⟩ := h
    exact ⟨rfl, wp_ret ⟨trivial, rfl, hsz, φ, Back.refl hrel htop hle, henv, hin⟩⟩
  | .rangeFunc .., p, l, s, s', e, a, w, φ, hat, h, hsz, htop, hle, hrel, henv, hin, hg => by unfold Cfg.runC at h; cases h
  | .scope .., p, l, s, s', e, a, w, φ, hat, h, hsz, htop, hle, hrel, henv, hin, hg => by unfold Cfg.runC at h; cases h
  | .label .., p, l, s, s', e, a, w, φ, hat, h, hsz, htop, hle, hrel, henv, hin, hg => by unfold Cfg.runC at h; cases h
  | .goto .., p, l, s, s', e, a, w, φ, hat, h, hsz, htop, hle, hrel, henv, hin, hg => by unfold Cfg.runC at h; cases h
  | .refuse .., p, l, s, s', e, a, w, φ, hat, h, hsz, htop, hle, hrel, henv, hin, hg => by unfold Cfg.runC at h; cases h
end
end Go.PM
end
section
namespace Go.PM
open Go
set_option linter.unusedVariables false
structure CfgOK (C : Cfg) : Prop where
  body : BodyOK C
  ext : ExtOK C
  mixed : C.P.follows .mixedOrders = true
  code : ∀ f fn c, C.mode f ≠ none → C.P.funcs[f]? = some fn → fn.body = some c → checkCode fn.ntmps c = true
def Motive (C : Cfg) : Req → Res → Prop
  | .call f args hs, .done v hs' => CallOK C f args hs v hs'
  | .loop f p m vals hs, .left e vals' hs' => LoopOK C f p m vals hs e vals' hs'
  | _, _ => False
section
variable {C : Cfg} {rec : Req → Option Res}
theorem loadAt_some {t : TypeId} {v x : Value} {w : World} (h : (Instr.loadAt t v).run C.P w = .ok x w) : ∃ a, v = .pointer (some a) ∧ (loadVar t a).run C.P w = .ok x w := by
  cases v with
  | pointer p =>
    cases p with
    | some a => exact ⟨a, rfl, by simpa [Instr.loadAt, Instr.sureAddr] using h⟩
    | none => simp [Instr.loadAt, Instr.sureAddr] at h
  | _ => simp [Instr.loadAt, Instr.sureAddr] at h
def resV (tmps : Array Value) : ResultVar → Sem Value
  | .tmp t => pure (tmps.getD t undef)
  | .cell a t => do loadVar t (← asAddr (tmps.getD a undef))
theorem results_list {N0 : Nat → Prop} {w : World} {φ : Phi} {s : St} {a : Act} (hrel : HeapRel w N0 φ s.heap) (henv : EnvRel s.env a w (Nn N0 φ s.heap) φ) : ∀ {l : List ResultVar} {vs : List DV},
    mapO (C.resD s) l = some vs → ∃ xs, RepL w (Nn N0 φ s.heap) φ vs xs ∧ (l.mapM (resV a.tmps)).run C.P w = .ok xs w
  | [], vs, h => by
    simp only [mapO, Option.some.injEq] at h; subst h
    exact ⟨[], by unfold RepL; rfl, rfl⟩
  | r :: l, vs, h => by
    simp only [mapO] at h
    split at h
    · rename_i d ds h1 h2
      simp only [Option.some.injEq] at h; subst h
      obtain ⟨xs, h3, h4⟩ := results_list hrel henv h2
      have head : ∃ x, Rep w (Nn N0 φ s.heap) φ d x ∧ (resV a.tmps r).run C.P w = .ok x w := by
        cases r with
        | tmp t => exact ⟨_, henv t d h1, rfl⟩
        | cell b t =>
          simp only [Cfg.resD] at h1
          split at h1
          · rename_i p h5
            obtain ⟨x, h7, h8⟩ := loadD_sound hrel (fun _ _ h => h) (henv b p h5) h1
            obtain ⟨ad, h9, h10⟩ := loadAt_some h8
            exact ⟨x, h7, by simp only [resV, h9, asAddr, Sem.run_bind, Sem.run_pure, Result.andThen_ok, h10]⟩
          · cases h1
      obtain ⟨x, h5, h6⟩ := head
      refine ⟨x :: xs, by unfold RepL; exact ⟨x, xs, rfl, h5, h3⟩, ?_⟩
      rw [List.mapM_cons, Sem.run_bind, h6, Result.andThen_ok, Sem.run_bind, h4, Result.andThen_ok]
      rfl
    · cases h
theorem results_sound {N0 : Nat → Prop} {w : World} {φ : Phi} {s : St} {a : Act} {fn : Func} {v : DV} (hrel : HeapRel w N0 φ s.heap) (henv : EnvRel s.env a w (Nn N0 φ s.heap) φ) (h : C.results fn s = some v) :
    ∃ x, Rep w (Nn N0 φ s.heap) φ v x ∧ (results fn a.tmps).run C.P w = .ok x w := by
  unfold Cfg.results at h
  have fin : ∀ vs, mapO (C.resD s) fn.results.toList = some vs → ∃ xs : List Value, RepL w (Nn N0 φ s.heap) φ vs xs ∧ (results fn a.tmps).run C.P w = .ok (if h : xs.toArray.size = 1 then xs.toArray[0] else .tuple xs.toArray) w := by
    intro vs hvs
    obtain ⟨xs, h1, h2⟩ := results_list (C := C) hrel henv hvs
    refine ⟨xs, h1, ?_⟩
    have hres : results fn a.tmps = (do let vs ← fn.results.mapM (resV a.tmps); pure (if h : vs.size = 1 then vs[0] else .tuple vs) : Sem Value) := by
      unfold results
      congr 2
    rw [hres, Sem.run_bind, Array.mapM_eq_mapM_toList, Sem.run_map, h2]
    rfl
  split at h
  · rename_i d hvs
    simp only [Option.some.injEq] at h; subst h
    obtain ⟨xs, h1, h2⟩ := fin _ hvs
    unfold RepL at h1
    obtain ⟨x, r, rfl, h3, h4⟩ := h1
    unfold RepL at h4
    subst h4
    exact ⟨x, h3, by rw [h2]; rfl⟩
  · rename_i vs hne hvs
    simp only [Option.some.injEq] at h; subst h
    obtain ⟨xs, h1, h2⟩ := fin _ hvs
    refine ⟨.tuple xs.toArray, by unfold Rep; exact ⟨_, rfl, h1⟩, ?_⟩
    rw [h2, dif_neg]
    intro h3
    have h4 := h1.len
    have h5 : vs.length = 1 := by rw [← h4]; simpa using h3
    match vs, h5 with
    | [d], _ => exact hne d rfl
  · cases h
theorem handBack_sound {N0 : Nat → Prop} {w w' : World} {φ φ' : Phi} {H H' : Heap} {m m1 : Nat} {f : FuncId} {v r : DV} {hs' : List (Option Blk)} {x : Value} (B : Back N0 w φ H m w' φ' H' m1) (hx : Rep w' (Nn N0 φ' H') φ' v x) (h : C.handBack f m v H' = some (.done r hs')) :
    ∃ φ2, Back N0 w φ H m w' φ2 (heapOf hs') hs'.length ∧ Rep w' (Nn N0 φ2 (heapOf hs')) φ2 r x := by
  unfold Cfg.handBack at h
  split at h
  · split at h
    · rename_i hm
      subst hm
      obtain ⟨r', h1, h2⟩ := Option.map_eq_some_iff.1 h
      simp only [Res.done.injEq] at h2
      obtain ⟨rfl, rfl⟩ := h2
      refine ⟨fun _ => none, ⟨B.os, B.tape, B.output, B.size, B.same, fun b hb ⟨id, pb, blk, h1, _⟩ => (by cases h1), fun id q hid => absurd hid (by omega), fun id pb h => (by cases h), ?_, fun _ _ => rfl, Nat.le_refl _⟩, ?_⟩
      · refine ⟨fun _ _ => .inl rfl, fun id blk h => ?_, fun _ _ _ _ h => ?_, fun _ _ h => ?_, fun b hb => B.rel.lim b hb⟩
        · rw [heapOf_nil] at h
          cases h
        · cases h
        · cases h
      · refine (freeze_rep B.rel (fun _ _ h => h) (fun b hb => ?_) (fun id hid pb hp hb => ?_) h1 hx).1
        · rcases hb with hb | ⟨id, pb, blk, h1, _⟩
          · exact .inl hb
          · cases h1
        · rcases hb with hb | ⟨id, pb, blk, h1, _⟩
          · exact B.rel.out _ _ hp hb
          · cases h1
    · cases h
  · split at h
    · rename_i ids hids
      simp only [Option.some.injEq, Res.done.injEq] at h
      obtain ⟨rfl, rfl⟩ := h
      obtain ⟨h1, _, h3⟩ := collect_nodup hids List.nodup_range
      have P := pack_back (m := m) B.rel h1 h3
      exact ⟨_, B.trans P, hx.ren pack_sub (place_phi ids φ')⟩
    · cases h
  · cases h
theorem envOf_range {vals : List DV} {t : Nat} {d : DV} : ∀ {n k : Nat} {l : List DV}, n = l.length → envOf (List.range' k n) (l.map some) t = some d → k ≤ t ∧ l[t - k]? = some d
  | 0, k, l, hn, h => by simp [envOf] at h
  | n + 1, k, [], hn, h => by cases hn
  | n + 1, k, x :: l, hn, h => by
    simp only [List.range'_succ, List.map_cons, envOf] at h
    split at h
    · rename_i ht
      subst ht
      simp only [Option.some.injEq] at h
      exact ⟨Nat.le_refl _, by simp [h]⟩
    · rename_i ht
      obtain ⟨h1, h2⟩ := envOf_range (vals := vals) (by simpa using hn) h
      refine ⟨by omega, ?_⟩
      rw [show t - k = (t - (k + 1)) + 1 by omega]
      simpa using h2
theorem step_sound (ok : CfgOK C) (ih : ∀ r x, rec r = some x → Motive C r x) : ∀ r x, C.step rec r = some x → Motive C r x := by
  intro r x h
  have hrec : ∀ g args hs v hs', rec (.call g args hs) = some (.done v hs') → CallOK C g args hs v hs' := fun g args hs v hs' h => ih _ _ h
  have hloop : ∀ f p m vals hs e vals' hs', rec (.loop f p m vals hs) = some (.left e vals' hs') → LoopOK C f p m vals hs e vals' hs' := fun f p m vals hs e vals' hs' h => ih _ _ h
  cases r with
  | call f args hs =>
    unfold Cfg.step at h
    dsimp only at h
    split at h
    · cases h
    · rename_i fn hf
      split at h
      · cases h
      · rename_i c hbody
        unfold Cfg.callBody at h
        have main : ∀ e s v, C.runC rec f [] (Func.live fn) c { env := envOf (List.range args.length) (args.map some), heap := heapOf hs, top := hs.length, base := hs.length } = some (e, s) → (e = .normal ∨ e = .ret) → C.results fn s = some v → C.handBack f hs.length v s.heap = some x → Motive C (.call f args hs) x := by
          intro e s v hrun he hres hback
          have hm : C.mode f ≠ none := fun q => by
            unfold Cfg.handBack at hback
            rw [q] at hback
            cases hback
          have hck := ok.code f fn c hm hf hbody
          cases x with
          | left e' vals' hs' =>
            unfold Cfg.handBack at hback
            split at hback
            · split at hback
              · obtain ⟨_, _, hq⟩ := Option.map_eq_some_iff.1 hback
                cases hq
              · cases hback
            · split at hback
              · cases hback
              · cases hback
            · cases hback
          | done r hs' =>
            intro w N0 φ vals htop hrel hg hargs
            refine calls_of_wp hf hbody ?_
            have hvl := hargs.len
            have hsz : (vals.toArray ++ Array.replicate (fn.ntmps - vals.toArray.size) undef).size = vals.length + (fn.ntmps - vals.length) := by simp
            have henv : ∀ t d, envOf (List.range args.length) (args.map some) t = some d → ∃ v, vals[t]? = some v ∧ Rep w (Nn N0 φ (heapOf hs)) φ d v := fun t d hd => by
              rw [List.range_eq_range'] at hd
              obtain ⟨_, h2⟩ := envOf_range (vals := args) rfl hd
              exact hargs.get t (by simpa using h2)
            obtain ⟨k1, k2⟩ := runC_sound hrec hloop ok.ext ok.body ok.mixed hf hbody hck (N0 := N0) (n := vals.length + (fn.ntmps - vals.length)) (by omega) c (p := []) (a := { tmps := vals.toArray ++ Array.replicate (fn.ntmps - vals.toArray.size) undef, defers := [] }) (w := w) (φ := φ) rfl hrun hsz htop (Nat.le_refl _) hrel
              (fun t d hd => by
                obtain ⟨v, h1, h2⟩ := henv t d hd
                have hlt := (List.getElem?_eq_some_iff.1 h1).1
                have : (vals.toArray ++ Array.replicate (fn.ntmps - vals.toArray.size) undef).getD t undef = v := by
                  rw [Array.getD_eq_getD_getElem?, Array.getElem?_append_left (by simpa using hlt)]
                  simp [h1]
                show Rep _ _ _ _ ((vals.toArray ++ Array.replicate (fn.ntmps - vals.toArray.size) undef).getD t undef)
                rw [this]
                exact h2) (fun t d hd => by
                obtain ⟨v, h1, h2⟩ := henv t d hd
                have hlt := (List.getElem?_eq_some_iff.1 h1).1
                omega) hg
            refine wp_mono k2 fun x1 a1 w1 hp => ?_
            obtain ⟨q1, q2, q3, φ1, B, q4, q5⟩ := hp
            have fin : a1.defers = [] ∧ ∃ v, (results fn a1.tmps).run C.P w1 = .ok v w1 ∧ ∃ x φ', Ending.returned v = .returned x ∧ Back N0 w φ (heapOf hs) hs.length w1 φ' (heapOf hs') hs'.length ∧ Rep w1 (Nn N0 φ' (heapOf hs')) φ' r x := by
              obtain ⟨y, h1, h2⟩ := results_sound (C := C) B.rel q4 hres
              obtain ⟨φ2, h3, h4⟩ := handBack_sound B h1 hback
              exact ⟨q2, y, h2, y, φ2, rfl, h3, h4⟩
            rcases he with rfl | rfl
            · cases x1 with
              | normal => exact fin
              | _ => exact q1.elim
            · cases x1 with
              | ret => exact fin
              | _ => exact q1.elim
        split at h
        · rename_i s hrun
          split at h
          · cases h
          · rename_i v hres
            exact main _ _ _ hrun (.inl rfl) hres h
        · rename_i s hrun
          split at h
          · cases h
          · rename_i v hres
            exact main _ _ _ hrun (.inr rfl) hres h
        · cases h
  | loop f p m vals hs =>
    unfold Cfg.step at h
    dsimp only at h
    split at h
    · cases h
    · rename_i fn hf
      split at h
      · cases h
      · rename_i c hbody
        split at h
        · rename_i b l hat
          have hx : ∃ e vals' hs', x = .left e vals' hs' := by
            unfold Cfg.loopBody at h
            split at h
            · cases h
            · split at h
              · have := ih _ _ h
                cases x with
                | left e v2 h2 => exact ⟨e, v2, h2, rfl⟩
                | done v h2 => exact this.elim
              · cases h
            · split at h
              · simp only [Option.some.injEq] at h; subst h
                exact ⟨_, _, _, rfl⟩
              · cases h
          obtain ⟨e, vals', hs', rfl⟩ := hx
          intro fn' c' b' l' hf' hbody' hck hat' a w N0 φ n hsz hn htop hle hrel henv hin hg
          rw [hf] at hf'
          simp only [Option.some.injEq] at hf'
          subst hf'
          rw [hbody] at hbody'
          simp only [Option.some.injEq] at hbody'
          subst hbody'
          rw [hat] at hat'
          simp only [Option.some.injEq, Prod.mk.injEq, Code.loop.injEq] at hat'
          obtain ⟨rfl, rfl⟩ := hat'
          have hat1 : codeAt c (Func.live fn) (false :: p) = some (b, { l with normal := liveIn (.loop b) l }) := by simp only [codeAt, hat]
          unfold Cfg.loopBody at h
          split at h
          · cases h
          · rename_i s hrun
            obtain ⟨k1, k2⟩ := runC_sound hrec hloop ok.ext ok.body ok.mixed hf hbody hck (N0 := N0) (n := n) hn b hat1 hrun hsz htop hle hrel henv hin hg
            dsimp only at k1 k2
            split at h
            · rename_i vals2 hs2 hp
              obtain ⟨ids, hnd, hpre, rfl, rfl⟩ := pack_some hp
              refine LW.unroll (wp_mono k2 fun x1 a1 w1 hq => ?_)
              cases x1 with
              | normal =>
                obtain ⟨_, d1, d2, φ1, B, e1, e2⟩ := hq
                have P := pack_back (m := m) B.rel hnd hpre
                have B2 := B.trans P
                have hL := hloop _ _ _ _ _ _ _ _ h fn c b l hf hbody hck hat a1 w1 N0 (phiOf ids φ1) n d2 hn P.tail P.le P.rel (fun t d hd => by
                  obtain ⟨d0, h1, rfl⟩ := envOf_pack hd
                  exact (e1 t d0 h1).ren pack_sub (place_phi ids φ1)) (fun t d hd => by
                  obtain ⟨d0, h1, rfl⟩ := envOf_pack hd
                  exact e2 t d0 h1) (hg.back B2)
                rw [d1] at hL
                exact hL.mono fun x a w hp => hp.back B2
              | exit id => exact hq.1.elim
              | goto l => exact hq.1.elim
              | ret => exact hq.1.elim
              | panic ch => exact hq.1.elim
              | outgrown => exact hq.1.elim
            · cases h
          · rename_i e1 s hne hrun
            obtain ⟨k1, k2⟩ := runC_sound hrec hloop ok.ext ok.body ok.mixed hf hbody hck (N0 := N0) (n := n) hn b hat1 hrun hsz htop hle hrel henv hin hg
            dsimp only at k1 k2
            split at h
            · rename_i vals2 hs2 hp
              simp only [Option.some.injEq, Res.left.injEq] at h
              obtain ⟨rfl, rfl, rfl⟩ := h
              obtain ⟨ids, hnd, hpre, rfl, rfl⟩ := pack_some hp
              have done : ∀ x1 a1 w1, Post C N0 w φ (heapOf hs) m n a.defers e1 s.env s.heap s.top x1 a1 w1 → Post C N0 w φ (heapOf hs) m n a.defers e1 (envOf (e1.live l) (renO (place ids) ((e1.live l).map s.env))) (heapOf (packIds ids s.heap)) (packIds ids s.heap).length x1 a1 w1 := by
                rintro x1 a1 w1 ⟨q1, d1, d2, φ1, B, f1, f2⟩
                have P := pack_back (m := m) B.rel hnd hpre
                exact ⟨q1, d1, d2, phiOf ids φ1, B.trans P, fun t d hd => by
                  obtain ⟨d0, h1, rfl⟩ := envOf_pack hd
                  exact (f1 t d0 h1).ren pack_sub (place_phi ids φ1), fun t d hd => by
                  obtain ⟨d0, h1, rfl⟩ := envOf_pack hd
                  exact f2 t d0 h1⟩
              refine LW.unroll (wp_mono k2 fun x1 a1 w1 hq => ?_)
              cases x1 with
              | normal =>
                cases e1 with
                | normal => exact absurd rfl hne
                | exit id => exact hq.1.elim
                | ret => exact hq.1.elim
              | exit id => exact done _ _ _ hq
              | goto l => exact done _ _ _ hq
              | ret => exact done _ _ _ hq
              | panic ch => exact done _ _ _ hq
              | outgrown => exact done _ _ _ hq
            · cases h
        · cases h
end
theorem runN_sound {C : Cfg} (ok : CfgOK C) : ∀ n r x, C.runN n r = some x → Motive C r x
  | 0, r, x, h => by cases h
  | n + 1, r, x, h => step_sound ok (fun r x h => runN_sound ok n r x h) r x h
theorem run_sound {C : Cfg} (ok : CfgOK C) (r : Req) (x : Res) (h : C.run r = some x) : Motive C r x := by
  obtain ⟨n, hn⟩ := (run_iff C r x).1 h
  exact runN_sound ok n r x hn
theorem call_sound {C : Cfg} (ok : CfgOK C) {f : FuncId} {args : List DV} {v : DV} {hs' : List (Option Blk)} (h : C.run (.call f args []) = some (.done v hs')) : CallOK C f args [] v hs' := run_sound ok _ _ h
end Go.PM
end
section
namespace Go.PM
open Go Go.Deep Go.WideShapes Go.RowKit
set_option linter.unusedVariables false
section
variable {C : Cfg}
theorem law_calls (ok : CfgOK C) {f : FuncId} {args : List DV} (h : C.run (.call f args []) = some (.done (.bool true) [])) {w : World} {vals : List Value} (hG : ∀ N : Nat → Prop, (∀ b, ¬ N b) → GlobRel C w N)
    (hv : ∀ N : Nat → Prop, (∀ b, ¬ N b) → RepL w N (fun _ => none) args vals) : Calls C.P f vals.toArray w fun e w' => e = .returned (.bool true) ∧ Below w.heap.size w w' := by
  have hN : ∀ b, ¬ Nn (fun _ => False) (fun _ => none) (heapOf []) b := by
    intro b hb
    rcases hb with hb | hb
    · exact hb
    · obtain ⟨id, pb, _, h1, _⟩ := hb
      cases h1
  have hR : HeapRel w (fun _ => False) (fun _ => none) (heapOf []) := {
    gone := fun _ _ => .inl rfl
    here := fun id blk h => by simp [heapOf] at h
    apart := fun _ _ _ _ h => by cases h
    out := fun _ _ h => by cases h
    lim := fun _ h => h.elim }
  refine (call_sound ok h w _ _ vals (fun _ _ => rfl) hR (hG _ hN) (hv _ hN)).mono ?_
  rintro e w' ⟨x, φ', rfl, hb, hx⟩
  have : x = .bool true := hx
  subst this
  refine ⟨rfl, hb.os, hb.tape, hb.output, hb.size, fun k hk => hb.same k hk ?_⟩
  rintro ⟨id, pb, _, h1, _⟩
  cases h1
theorem law_told (ok : CfgOK C) {f : FuncId} {args : List DV} (h : C.run (.call f args []) = some (.done (.bool true) [])) {w : World} {vals : List Value} (hG : GlobRel C w (fun _ => False))
    (hv : RepL w (fun _ => False) (fun _ => none) args vals) : Calls C.P f vals.toArray w fun e w' => e = .returned (.bool true) ∧ Below w.heap.size w w' := by
  have e : ∀ N : Nat → Prop, (∀ b, ¬ N b) → N = fun _ => False := fun N hN => funext fun b => propext ⟨fun h => hN b h, fun h => h.elim⟩
  exact law_calls ok h (fun N hN => by rw [e N hN]; exact hG) (fun N hN => by rw [e N hN]; exact hv)
end
def Reads {H : Type} (enc : TypeId × Value → H) (P : Program) (w : World) (N : Nat → Prop) (t : TypeId) {α : Type} (E : α → DV) (sz : Nat) (wf : α → Prop) : Prop :=
  (∀ a, (E a).imm = true ∧ (E a).storable = true) ∧ ∀ (spare : Nat → Bool) (held : Bool) (fuel : Nat) (cs : List Value) (x : DataW H × List MemPlace), DataW.trod enc P w 0 spare held fuel t cs = some x → ∃ a v, v.cells.toList = cs ∧ cs.length = sz ∧ One cs ∧ Rep w N (fun _ => none) (E a) v ∧ wf a
section
variable {H : Type} {enc : TypeId × Value → H} {P : Program} {w : World} {N : Nat → Prop}
theorem reads_int {t : TypeId} {k : IntKind} (hu : P.underlying t = some (.int k)) : Reads enc P w N t (DV.int k) 1 (fun n => (Lit.int k n).wf = true) := ⟨fun _ => ⟨rfl, rfl⟩, fun spare held fuel cs x h => by
  obtain ⟨n, rfl, _, hw⟩ := DataW.trod_int hu h
  exact ⟨n, .int k n, rfl, rfl, fun u hu => by simp at hu; subst hu; rfl, rfl, hw⟩⟩
theorem reads_bool {t : TypeId} (hu : P.underlying t = some .bool) : Reads enc P w N t DV.bool 1 (fun _ => True) := ⟨fun _ => ⟨rfl, rfl⟩, fun spare held fuel cs x h => by
  obtain ⟨n, rfl, _⟩ := DataW.trod_bool hu h
  exact ⟨n, .bool n, rfl, rfl, fun u hu => by simp at hu; subst hu; rfl, rfl, trivial⟩⟩
theorem reads_string {t : TypeId} (hu : P.underlying t = some .string) : Reads enc P w N t DV.str 1 (fun s => s.length ≤ maxLen) := ⟨fun _ => ⟨rfl, rfl⟩, fun spare held fuel cs x h => by
  obtain ⟨n, rfl, _, hw⟩ := DataW.trod_string hu h
  exact ⟨n.data.toList, .string n, rfl, rfl, fun u hu => by simp at hu; subst hu; rfl, ⟨n, rfl, rfl⟩, by simpa using hw⟩⟩
theorem imms_map {α : Type} {E : α → DV} (h : ∀ a, (E a).imm = true) : ∀ l : List α, DV.imms (l.map E) = true
  | [] => rfl
  | a :: l => by
    show ((E a).imm && DV.imms (l.map E)) = true
    rw [h a, imms_map h l]
    rfl
theorem reads_elems {t : TypeId} {α : Type} {E : α → DV} {sz : Nat} {wf : α → Prop} (h : Reads enc P w N t E sz wf) (hsz : P.cellsOf t = sz) (spare : Nat → Bool) (held : Bool) (n : Nat) (a : Addr) :
    ∀ (len k : Nat), (∀ i, k ≤ i → i < k + len → ∃ cs' x, w.cells? 0 (a.add (i * P.cellsOf t)) (P.cellsOf t) = some cs' ∧ DataW.trod enc P w 0 spare held n t cs' = some x) →
      ∃ (l : List α) (vs : List Value), l.length = len ∧ vs.length = len * sz ∧ RepEs w N (fun _ => none) sz (l.map E) vs ∧ (∀ x ∈ l, wf x) ∧ ∀ j x, vs[j]? = some x → w.cell? (a.add (k * sz + j)) = some x
  | 0, k, _ => ⟨[], [], rfl, by simp, rfl, by simp, fun j x hx => by simp at hx⟩
  | len + 1, k, hx => by
    obtain ⟨l, vs, h1, h2, h3, h4, h5⟩ := reads_elems h hsz spare held n a len (k + 1) fun i h1 h2 => hx i (by omega) (by omega)
    obtain ⟨cs', x, h6, h7⟩ := hx k (Nat.le_refl _) (by omega)
    obtain ⟨e, v, h8, h9, h10, h11, h12⟩ := h.2 spare held n cs' x h7
    refine ⟨e :: l, cs' ++ vs, by simp [h1], by rw [List.length_append, h9, h2, Nat.add_mul, Nat.one_mul, Nat.add_comm], ?_, ?_, ?_⟩
    · refine ⟨v, vs, by rw [h8], ?_, (h.1 e).2, by rw [h8]; exact h10, h11, h3⟩
      rw [← Array.length_toList, h8, h9]
    · intro y hy
      rcases List.mem_cons.1 hy with rfl | hy
      · exact h12
      · exact h4 y hy
    · intro j y hj
      rcases Nat.lt_or_ge j sz with hlt | hge
      · rw [List.getElem?_append_left (by omega)] at hj
        have hc := World.cells?_some h6
        have := hc.2.2 j (by rw [hsz]; exact hlt)
        rw [Go.Deep.add_add, hsz] at this
        rw [this]
        exact hj
      · rw [List.getElem?_append_right (by omega), h9] at hj
        have := h5 (j - sz) y hj
        rw [← this]
        congr 2
        rw [Nat.add_mul, Nat.one_mul]
        omega
theorem reads_slice {t e : TypeId} {α : Type} {E : α → DV} {sz : Nat} {wf : α → Prop} (hu : P.underlying t = some (.slice e)) (hsz : P.cellsOf e = sz) (h0 : 0 < sz) (hN : ∀ b, ¬ N b) (h : Reads enc P w N e E sz wf) :
    Reads enc P w N t (fun l : List α => DV.list (l.map E) false) 1 (fun l => l.length ≤ maxLen ∧ ∀ x ∈ l, wf x) := ⟨fun a => ⟨rfl, rfl⟩, fun spare held fuel cs x hx => by
  rcases open_slice hu hx with ⟨rfl, _⟩ | ⟨a, len, cap, m, n, D, Pl, rfl, _, hl, hm, hmm, _, hel⟩
  · exact ⟨[], .slice none 0 0, rfl, rfl, fun u hu => by simp at hu; subst hu; rfl, ⟨rfl, none, 0, rfl, (fun h => by cases h), Nat.le_refl _, .inl rfl⟩, by simp, fun _ hx => by simp at hx⟩
  · have hlm : len ≤ m := by rw [hmm]; split <;> omega
    obtain ⟨l, vs, h1, h2, h3, h4, h5⟩ := reads_elems h hsz spare held n a len 0 fun i _ hi => by
      obtain ⟨cs', h1, h2⟩ := hel i (by omega)
      exact ⟨cs', _, h1, h2⟩
    subst h1
    refine ⟨l, .slice (some a) l.length cap, rfl, rfl, fun u hu => by simp at hu; subst hu; rfl, ⟨imms_map (fun a => (h.1 a).1) l, some a, cap, by rw [List.length_map], (fun h => by cases h), by rw [List.length_map]; exact hl, ?_⟩, by omega, h4⟩
    cases l with
    | nil => exact .inl rfl
    | cons b l =>
      right
      have hne : ∃ x, vs[0]? = some x := by
        have : 0 < vs.length := by
          rw [h2]
          exact Nat.mul_pos (by simp) h0
        exact ⟨_, List.getElem?_eq_getElem this⟩
      obtain ⟨x0, hx0⟩ := hne
      have hc0 := h5 0 x0 hx0
      rw [Nat.zero_mul, Nat.add_zero] at hc0
      have hadd0 : a.add 0 = a := rfl
      rw [hadd0] at hc0
      obtain ⟨ab, ao, sp⟩ := a
      have hsp : sp = none := by
        unfold World.cell? at hc0
        dsimp only at hc0
        split at hc0
        · cases sp with
          | none => rfl
          | some s => cases hc0
        · cases hc0
      subst hsp
      refine ⟨ab, ao, sz, vs, rfl, ?_, hN _, h3, ?_⟩
      · unfold World.cell? at hc0
        dsimp only at hc0
        split at hc0
        · rename_i hh
          exact (Array.getElem?_eq_some_iff.1 hh).1
        · cases hc0
      · intro k x hk
        have := h5 k x hk
        rw [Nat.zero_mul, Nat.zero_add] at this
        rw [← this]
        congr 1
        unfold Addr.add
        split
        · rename_i hk0
          subst hk0
          rfl
        · rfl⟩
def ReadsF {H : Type} (enc : TypeId × Value → H) (P : Program) (w : World) (N : Nat → Prop) (fs : List Field) (off : Nat) {α : Type} (E : α → List DV) (sz : Nat) (wf : α → Prop) : Prop :=
  (∀ a, DV.imms (E a) = true) ∧ ∀ (spare : Nat → Bool) (held : Bool) (fuel : Nat) (cs : List Value), cs.length = off + sz →
    (∀ f ∈ fs, ∃ x, DataW.trod enc P w 0 spare held fuel f.type ((cs.drop f.offset).take (P.cellsOf f.type)) = some x) → ∃ a, One (cs.drop off) ∧ RepL w N (fun _ => none) (E a) (cs.drop off) ∧ wf a
theorem readsF_last {f : Field} {off : Nat} {α : Type} {E : α → DV} {sz : Nat} {wf : α → Prop} (hoff : f.offset = off) (hsz : P.cellsOf f.type = sz) (h : Reads enc P w N f.type E sz wf) : ReadsF enc P w N [f] off (fun a => (E a).cells) sz wf := ⟨fun a => imms_cells (h.1 a).1, fun spare held fuel cs hl hf => by
  obtain ⟨x, hx⟩ := hf f (List.mem_singleton.2 rfl)
  obtain ⟨a, v, h1, h2, h3, h4, h5⟩ := h.2 _ _ _ _ _ hx
  rw [hoff, hsz, List.take_of_length_le (by rw [List.length_drop]; omega)] at h1 h3
  refine ⟨a, h3, ?_, h5⟩
  rw [← h1]
  exact (h4.cells (h.1 a).2).1⟩
theorem readsF_cons {f : Field} {fs : List Field} {off : Nat} {α β : Type} {E : α → DV} {E2 : β → List DV} {sz sz2 : Nat} {wf : α → Prop} {wf2 : β → Prop} (hoff : f.offset = off) (hsz : P.cellsOf f.type = sz) (h : Reads enc P w N f.type E sz wf) (hr : ReadsF enc P w N fs (off + sz) E2 sz2 wf2) :
    ReadsF enc P w N (f :: fs) off (fun a : α × β => (E a.1).cells ++ E2 a.2) (sz + sz2) (fun a => wf a.1 ∧ wf2 a.2) := ⟨fun a => imms_append (imms_cells (h.1 a.1).1) (hr.1 a.2), fun spare held fuel cs hl hf => by
  obtain ⟨x, hx⟩ := hf f List.mem_cons_self
  obtain ⟨a, v, h1, h2, h3, h4, h5⟩ := h.2 _ _ _ _ _ hx
  obtain ⟨b, h6, h7, h8⟩ := hr.2 spare held fuel cs (by rw [hl]; omega) (fun g hg => hf g (List.mem_cons_of_mem _ hg))
  have hd : cs.drop off = (cs.drop off).take sz ++ cs.drop (off + sz) := by rw [← List.drop_drop, List.take_append_drop]
  rw [hoff, hsz] at h1 h3
  refine ⟨(a, b), ?_, ?_, h5, h8⟩
  · rw [hd]
    exact h3.append h6
  · rw [hd]
    refine RepL.append ?_ h7
    rw [← h1]
    exact (h4.cells (h.1 a).2).1⟩
theorem reads_struct {t : TypeId} {fs : Array Field} {α : Type} {E : α → List DV} {sz : Nat} {wf : α → Prop} (hu : P.underlying t = some (.struct fs)) (hc : P.cellsOf t = sz) (h : ReadsF enc P w N fs.toList 0 E sz wf) : Reads enc P w N t (fun a => DV.agg (E a)) sz wf := ⟨fun a => ⟨h.1 a, rfl⟩, fun spare held fuel cs x hx => by
  obtain ⟨xs, n, _, _, hl, hn, hel⟩ := DataW.trod_struct hu hx
  obtain ⟨a, h1, h2, h3⟩ := h.2 spare held n cs (by rw [hl, hc]; omega) (fun f hf => by
    obtain ⟨i, hi⟩ := List.getElem?_of_mem hf
    have hi' : fs[i]? = some f := by simpa using hi
    have hlt : i < xs.length := by
      rw [hn]
      exact (Array.getElem?_eq_some_iff.1 hi').1
    exact ⟨_, (hel i f hi').trans (List.getElem?_eq_getElem hlt)⟩)
  rw [List.drop_zero] at h1 h2
  exact ⟨a, .agg cs.toArray, rfl, by rw [hl, hc], h1, ⟨_, rfl, h2, h1⟩, h3⟩⟩
theorem reads_iso {t : TypeId} {α β : Type} {E : α → DV} {sz : Nat} {wf : α → Prop} (E' : β → DV) (g : α → β) (f : β → α) (hg : ∀ a, E' (g a) = E a) (hgf : ∀ b, g (f b) = b) (hfg : ∀ a, f (g a) = a) (h : Reads enc P w N t E sz wf) : Reads enc P w N t E' sz (fun b => wf (f b)) := ⟨fun b => by rw [← hgf b, hg]; exact h.1 _, fun spare held fuel cs x hx => by
  obtain ⟨a, v, h1, h2, h3, h4, h5⟩ := h.2 _ _ _ _ _ hx
  exact ⟨g a, v, h1, h2, h3, by rw [hg]; exact h4, by show wf (f (g a)); rw [hfg]; exact h5⟩⟩
theorem rep_agg {d : DV} {cs : Array Value} (h : Rep w N (fun _ => none) d (.agg cs)) (hd : ∀ cs, d ≠ .agg cs) : (1 : Nat) ≠ 1 := by
  cases d with
  | agg c => exact absurd rfl (hd c)
  | undef => exact absurd (show Value.agg cs = Go.undef from h) (by intro h; cases h)
  | dead => exact absurd (show (Value.agg cs).oneCell' = true from h) (by simp [Value.oneCell'])
  | bool b => exact absurd (show Value.agg cs = .bool b from h) (by intro h; cases h)
  | int k n => exact absurd (show Value.agg cs = .int k n from h) (by intro h; cases h)
  | str s => obtain ⟨_, h, _⟩ := h; cases h
  | nilp => exact absurd (show Value.agg cs = .pointer none from h) (by intro h; cases h)
  | ptr a b c => exact absurd h.1 (by simp [Value.oneCell'])
  | iptr e o => obtain ⟨_, _, _, _, _, h, _⟩ := h; cases h
  | list es t => obtain ⟨_, _, _, h, _⟩ := h; cases h
  | ref a b c d => exact absurd h.1 (by simp [Value.oneCell'])
  | tuple cs => obtain ⟨_, h, _⟩ := h; cases h
  | func f cs => obtain ⟨_, h, _⟩ := h; cases h
  | nilf => exact absurd (show Value.agg cs = .nilFunc from h) (by intro h; cases h)
  | iface t v => obtain ⟨_, h, _⟩ := h; cases h
  | nili => exact absurd (show Value.agg cs = .nilIface from h) (by intro h; cases h)
theorem arg_one {t : TypeId} {α : Type} {E : α → DV} {wf : α → Prop} {v : Value} {d : DataW H} {p : List MemPlace} {spare : Nat → Bool} {held : Bool} (ho : Reads enc P w N t E 1 wf) (ha : ∀ a cs, E a ≠ .agg cs) (h1 : v.cells = #[v]) (h : DataW.Trod enc P w 0 spare held t v d p) : ∃ a, Rep w N (fun _ => none) (E a) v ∧ wf a := by
  obtain ⟨fuel, hf⟩ := h
  obtain ⟨a, v', h2, h3, h4, h5, h6⟩ := ho.2 _ _ _ _ _ hf
  rw [h1] at h2
  refine ⟨a, ?_, h6⟩
  have h7 : v'.cells = #[v'] ∨ ∃ cs, v' = .agg cs := by cases v' <;> first | exact .inl rfl | exact .inr ⟨_, rfl⟩
  rcases h7 with h7 | ⟨cs, rfl⟩
  · rw [h7] at h2
    simp at h2
    rw [← h2]
    exact h5
  · exact absurd rfl (rep_agg h5 (ha a))
theorem arg_agg {t : TypeId} {fs : Array Field} {α : Type} {E : α → List DV} {sz : Nat} {wf : α → Prop} {r : Reach} {b0 : Nat} {v : Value} {d : DataW H} {p : List MemPlace} {spare : Nat → Bool} {held : Bool} (hu : P.underlying t = some (.struct fs)) (ho : Reads enc P w N t (fun a => DV.agg (E a)) sz wf) (hv : Value.okWide P w r b0 t v)
    (h : DataW.Trod enc P w 0 spare held t v d p) : ∃ a, Rep w N (fun _ => none) (.agg (E a)) v ∧ wf a := by
  obtain ⟨cs, rfl, _⟩ := okWide_struct hu hv
  obtain ⟨fuel, hf⟩ := h
  obtain ⟨a, v', h2, h3, h4, h5, h6⟩ := ho.2 _ _ _ _ _ hf
  refine ⟨a, ?_, h6⟩
  obtain ⟨vs, rfl, h7⟩ := h5
  have : vs = cs := by
    have h2' : vs.toList = cs.toList := h2
    exact Array.toList_inj.1 h2'
  rw [← this]
  exact ⟨vs, rfl, h7⟩
theorem trod_places {t : TypeId} {v : Value} {d : DataW H} {p : List MemPlace} {spare : Nat → Bool} {held : Bool} (h : DataW.Trod enc P w 0 spare held t v d p) : ∀ x ∈ p, x.block < w.heap.size := by
  obtain ⟨m, hm⟩ := h
  exact DataW.trod_lt m _ _ _ hm
theorem argL_nil : RepL w N (fun _ => none) [] [] := rfl
theorem argL_cons {d : DV} {ds : List DV} {v : Value} {vs : List Value} (h : Rep w N (fun _ => none) d v) (hr : RepL w N (fun _ => none) ds vs) : RepL w N (fun _ => none) (d :: ds) (v :: vs) := ⟨v, vs, rfl, h, hr⟩
end
end Go.PM
end
section
namespace Go.PM
theorem wi (n : Int) : IntKind.i64.wrap n = (n + 9223372036854775808) % 18446744073709551616 - 9223372036854775808 := by
  unfold IntKind.wrap
  have e1 : (2 ^ IntKind.i64.bits : Int) = 18446744073709551616 := by decide
  have e2 : (2 ^ (IntKind.i64.bits - 1) : Int) = 9223372036854775808 := by decide
  have e3 : IntKind.i64.signed = true := rfl
  rw [e1, e2, e3]
  dsimp only
  by_cases h : n % 18446744073709551616 ≥ 9223372036854775808
  · rw [if_pos (by simpa using h)]
    omega
  · rw [if_neg (by simpa using h)]
    omega
theorem wq (n : Int) (h0 : -9223372036854775808 ≤ n) (h1 : n ≤ 9223372036854775807) : IntKind.i64.wrap n = n := by
  rw [wi]
  omega
def Wd (n : Int) : Prop := -9223372036854775808 ≤ n ∧ n ≤ 9223372036854775807
theorem or_byte (x b : Int) (h0 : 0 ≤ b) (h1 : b < 256) : IntKind.i64.wrap ((BitVec.ofInt 64 (IntKind.i64.wrap (x * 256)) ||| BitVec.ofInt 64 b).toNat : Nat) = IntKind.i64.wrap (x * 256 + b) := by
  obtain ⟨B, rfl⟩ := Int.eq_ofNat_of_zero_le h0
  have hB : B < 256 := by omega
  have e1 : (BitVec.ofInt 64 (B : Int)).toNat = B := by
    rw [BitVec.ofInt_natCast, BitVec.toNat_ofNat]
    exact Nat.mod_eq_of_lt (by omega)
  obtain ⟨A, hA⟩ : ∃ A : Nat, (BitVec.ofInt 64 (IntKind.i64.wrap (x * 256))).toNat = 2 ^ 8 * A ∧ ∃ q : Int, ((2 ^ 8 * A : Nat) : Int) = x * 256 + q * 18446744073709551616 := by
    have e2 : (BitVec.ofInt 64 (IntKind.i64.wrap (x * 256))).toNat = (IntKind.i64.wrap (x * 256) % 18446744073709551616).toNat := by
      rw [BitVec.toNat_ofInt]
      rfl
    have hw : ∃ q : Int, IntKind.i64.wrap (x * 256) % 18446744073709551616 = x * 256 + q * 18446744073709551616 := by
      refine ⟨-((x * 256) / 18446744073709551616), ?_⟩
      rw [wi]
      omega
    obtain ⟨q, hq⟩ := hw
    have hp : 0 ≤ IntKind.i64.wrap (x * 256) % 18446744073709551616 := Int.emod_nonneg _ (by decide)
    refine ⟨(IntKind.i64.wrap (x * 256) % 18446744073709551616).toNat / 256, ?_, q, ?_⟩
    · rw [e2]
      omega
    · omega
  obtain ⟨hA, q, hq⟩ := hA
  rw [BitVec.toNat_or, e1, hA, ← Nat.two_pow_add_eq_or_of_lt (by omega : B < 2 ^ 8) A]
  have e3 : ((2 ^ 8 * A + B : Nat) : Int) = x * 256 + B + q * 18446744073709551616 := by
    rw [Int.natCast_add, hq]; omega
  rw [e3, wi, wi]
  omega
def putL (x : Int) : Nat → List Int
  | 0 => []
  | n + 1 => putL (x / 256) n ++ [x % 256]
theorem putL_len (x : Int) (n : Nat) : (putL x n).length = n := by
  induction n generalizing x with
  | zero => rfl
  | succ n ih => simp [putL, ih]
theorem putL_byte (x : Int) (n : Nat) : ∀ b ∈ putL x n, 0 ≤ b ∧ b < 256 := by
  induction n generalizing x with
  | zero => intro b h; simp [putL] at h
  | succ n ih =>
    intro b h
    simp only [putL, List.mem_append, List.mem_singleton] at h
    rcases h with h | h
    · exact ih _ b h
    · subst h; omega
theorem putL_front (x : Int) (i : Nat) : putL x (i + 1) = (x / 256 ^ i % 256) :: putL x i := by
  induction i generalizing x with
  | zero => simp [putL]
  | succ i ih =>
    have h1 : putL x (i + 1 + 1) = putL (x / 256) (i + 1) ++ [x % 256] := rfl
    have h2 : putL x (i + 1) = putL (x / 256) i ++ [x % 256] := rfl
    rw [h1, ih, h2, List.cons_append]
    congr 2
    rw [Int.pow_succ', Int.ediv_ediv_of_nonneg (by decide)]
def getV : List Int → Int
  | [] => 0
  | b :: t => t.foldl (fun a c => IntKind.i64.wrap (a * 256 + c)) (IntKind.i8.wrap b)
theorem getV_snoc (l : List Int) (b : Int) (h : l ≠ []) : getV (l ++ [b]) = IntKind.i64.wrap (getV l * 256 + b) := by
  cases l with
  | nil => exact absurd rfl h
  | cons c t => simp [getV, List.foldl_append]
def fitN (n : Nat) (v : Int) : Prop := -(128 * 256 ^ (n - 1)) ≤ v ∧ v < 128 * 256 ^ (n - 1)
theorem i8_b (b : Int) (h0 : 0 ≤ b) (h1 : b < 256) : -128 ≤ IntKind.i8.wrap b ∧ IntKind.i8.wrap b < 128 ∧ IntKind.i8.wrap b % 256 = b := by
  simp only [IntKind.wrap, IntKind.bits, IntKind.signed]
  simp
  split <;> omega
theorem i8_w (v : Int) (h0 : -128 ≤ v) (h1 : v < 128) : IntKind.i8.wrap (v % 256) = v := by
  simp only [IntKind.wrap, IntKind.bits, IntKind.signed]
  simp
  split <;> omega
theorem get_put : ∀ (n : Nat) (v : Int), fitN (n + 1) v → Wd v → getV (putL v (n + 1)) = v
  | 0, v, h, _ => by
    unfold fitN at h
    have : putL v 1 = [v % 256] := by simp [putL]
    rw [this]
    have h2 : -128 ≤ v ∧ v < 128 := by simpa using h
    exact i8_w v h2.1 h2.2
  | n + 1, v, h, hw => by
    have hne : putL (v / 256) (n + 1) ≠ [] := by
      intro he
      have := putL_len (v / 256) (n + 1)
      rw [he] at this
      simp at this
    have hf : fitN (n + 1) (v / 256) := by
      unfold fitN at h ⊢
      have e : n + 1 + 1 - 1 = n + 1 := by omega
      have e2 : n + 1 - 1 = n := by omega
      rw [e, Int.pow_succ] at h
      rw [e2]
      generalize (256 : Int) ^ n = p at h ⊢
      omega
    unfold Wd at hw
    have ih := get_put n (v / 256) hf (by unfold Wd; omega)
    show getV (putL (v / 256) (n + 1) ++ [v % 256]) = v
    rw [getV_snoc _ _ hne, ih]
    have : v / 256 * 256 + v % 256 = v := by omega
    rw [this]
    exact wq _ hw.1 hw.2
theorem fit_wd (m : Nat) (v : Int) (h1 : 1 ≤ m) (h8 : m ≤ 8) (h : fitN m v) : Wd v := by
  have hm : m = 1 ∨ m = 2 ∨ m = 3 ∨ m = 4 ∨ m = 5 ∨ m = 6 ∨ m = 7 ∨ m = 8 := by omega
  unfold fitN at h
  unfold Wd
  rcases hm with rfl | rfl | rfl | rfl | rfl | rfl | rfl | rfl <;> simp at h <;> omega
theorem put_get : ∀ (n : Nat) (c : List Int), c.length = n + 1 → (∀ b ∈ c, 0 ≤ b ∧ b < 256) → n + 1 ≤ 8 → fitN (n + 1) (getV c) ∧ putL (getV c) (n + 1) = c
  | 0, c, hl, hb, _ => by
    obtain ⟨b, rfl⟩ := List.length_eq_one_iff.1 hl
    have h := hb b (by simp)
    have hv : getV [b] = IntKind.i8.wrap b := rfl
    have hw := i8_b b h.1 h.2
    rw [hv]
    refine ⟨by unfold fitN; simp; omega, ?_⟩
    simp [putL, hw.2.2]
  | n + 1, c, hl, hb, h8 => by
    have hne : c ≠ [] := by intro hq; rw [hq] at hl; simp at hl
    have hsp := List.dropLast_concat_getLast hne
    obtain ⟨c', hc'⟩ : ∃ c', c.dropLast = c' := ⟨_, rfl⟩
    obtain ⟨b, hbb⟩ : ∃ b, c.getLast hne = b := ⟨_, rfl⟩
    rw [hc', hbb] at hsp
    have hl' : c'.length = n + 1 := by
      have := congrArg List.length hsp
      rw [List.length_append, hl] at this
      simp at this
      omega
    have hne' : c' ≠ [] := by intro hq; rw [hq] at hl'; simp at hl'
    have hb' := hb b (by rw [← hsp]; simp)
    obtain ⟨f1, f2⟩ := put_get n c' hl' (fun x hx => hb x (by rw [← hsp]; simp [hx])) (by omega)
    have hfit : fitN (n + 1 + 1) (getV c' * 256 + b) := by
      unfold fitN at f1 ⊢
      have e : n + 1 + 1 - 1 = n + 1 := by omega
      have e2 : n + 1 - 1 = n := by omega
      rw [e2] at f1
      rw [e, Int.pow_succ]
      generalize (256 : Int) ^ n = p at f1 ⊢
      omega
    have hwd := fit_wd (n + 1 + 1) _ (by omega) h8 hfit
    unfold Wd at hwd
    have hv : getV c = getV c' * 256 + b := by
      rw [← hsp, getV_snoc c' b hne']
      exact wq _ hwd.1 hwd.2
    rw [hv]
    refine ⟨hfit, ?_⟩
    show putL ((getV c' * 256 + b) / 256) (n + 1) ++ [(getV c' * 256 + b) % 256] = c
    rw [show (getV c' * 256 + b) / 256 = getV c' by omega, show (getV c' * 256 + b) % 256 = b by omega, f2, hsp]
def layL (n : Nat) (l : List Int) : List Int := l.flatMap fun x => putL x n
theorem layL_cons (n : Nat) (x : Int) (l : List Int) : layL n (x :: l) = putL x n ++ layL n l := rfl
theorem layL_len (n : Nat) (l : List Int) : (layL n l).length = l.length * n := by
  induction l with
  | nil => simp [layL]
  | cons x l ih =>
    rw [layL_cons, List.length_append, putL_len, ih, List.length_cons, Nat.succ_mul]
    omega
theorem layL_byte (n : Nat) (l : List Int) : ∀ b ∈ layL n l, 0 ≤ b ∧ b < 256 := by
  intro b h
  obtain ⟨x, _, hb⟩ := List.mem_flatMap.1 h
  exact putL_byte x n b hb
def chunkL (n : Nat) : Nat → List Int → List Int
  | 0, _ => []
  | q + 1, bs => getV (bs.take n) :: chunkL n q (bs.drop n)
theorem chunk_len (n q : Nat) (bs : List Int) : (chunkL n q bs).length = q := by
  induction q generalizing bs with
  | zero => rfl
  | succ q ih => simp [chunkL, ih]
theorem chunk_at (n q : Nat) (bs : List Int) (i : Nat) (h : i < q) : (chunkL n q bs)[i]? = some (getV ((bs.drop (i * n)).take n)) := by
  induction q generalizing bs i with
  | zero => omega
  | succ q ih =>
    cases i with
    | zero => simp [chunkL]
    | succ i =>
      simp only [chunkL, List.getElem?_cons_succ]
      rw [ih (bs.drop n) i (by omega), List.drop_drop]
      congr 4
      rw [Nat.succ_mul]
      omega
theorem chunk_ok (n : Nat) (h1 : 1 ≤ n) (h8 : n ≤ 8) : ∀ (q : Nat) (bs : List Int), bs.length = q * n → (∀ b ∈ bs, 0 ≤ b ∧ b < 256) → layL n (chunkL n q bs) = bs ∧ ∀ x ∈ chunkL n q bs, Wd x ∧ fitN n x
  | 0, bs, hl, _ => by
    have : bs = [] := List.eq_nil_of_length_eq_zero (by omega)
    subst this
    exact ⟨rfl, fun x hx => by simp [chunkL] at hx⟩
  | q + 1, bs, hl, hb => by
    have hm : (q + 1) * n = q * n + n := Nat.succ_mul q n
    obtain ⟨m, rfl⟩ : ∃ m, n = m + 1 := ⟨n - 1, by omega⟩
    have ht : (bs.take (m + 1)).length = m + 1 := by rw [List.length_take]; omega
    obtain ⟨f1, f2⟩ := put_get m (bs.take (m + 1)) ht (fun b hx => hb b (List.mem_of_mem_take hx)) h8
    obtain ⟨g1, g2⟩ := chunk_ok (m + 1) h1 h8 q (bs.drop (m + 1)) (by rw [List.length_drop]; omega) (fun b hx => hb b (List.mem_of_mem_drop hx))
    constructor
    · show putL (getV (bs.take (m + 1))) (m + 1) ++ layL (m + 1) (chunkL (m + 1) q (bs.drop (m + 1))) = bs
      rw [f2, g1, List.take_append_drop]
    · intro x hx
      simp only [chunkL, List.mem_cons] at hx
      rcases hx with rfl | hx
      · exact ⟨fit_wd _ _ h1 h8 f1, f1⟩
      · exact g2 x hx
theorem chunk_lay (n : Nat) (h1 : 1 ≤ n) : ∀ (l : List Int), (∀ x ∈ l, Wd x ∧ fitN n x) → chunkL n l.length (layL n l) = l
  | [], _ => rfl
  | x :: l, h => by
    obtain ⟨m, rfl⟩ : ∃ m, n = m + 1 := ⟨n - 1, by omega⟩
    have hx := h x (by simp)
    show getV ((putL x (m + 1) ++ layL (m + 1) l).take (m + 1)) :: chunkL (m + 1) l.length ((putL x (m + 1) ++ layL (m + 1) l).drop (m + 1)) = x :: l
    rw [List.take_left' (putL_len x (m + 1)), List.drop_left' (putL_len x (m + 1)), get_put m x hx.2 hx.1, chunk_lay (m + 1) h1 l (fun y hy => h y (by simp [hy]))]
def bI (s : List UInt8) : List Int := s.map fun c => (c.toNat : Int)
theorem bI_len (s : List UInt8) : (bI s).length = s.length := by simp [bI]
theorem bI_byte (s : List UInt8) : ∀ b ∈ bI s, 0 ≤ b ∧ b < 256 := by
  intro b h
  obtain ⟨c, _, rfl⟩ := List.mem_map.1 h
  have := c.toNat_lt
  omega
def bU (l : List Int) : List UInt8 := l.map fun n => UInt8.ofNat n.toNat
theorem bI_U (l : List Int) (h : ∀ b ∈ l, 0 ≤ b ∧ b < 256) : bI (bU l) = l := by
  unfold bI bU
  rw [List.map_map]
  conv => rhs; rw [← List.map_id l]
  apply List.map_congr_left
  intro b hb
  have := h b hb
  simp [UInt8.toNat_ofNat']
  omega
theorem bU_I (s : List UInt8) : bU (bI s) = s := by
  unfold bI bU
  rw [List.map_map]
  conv => rhs; rw [← List.map_id s]
  apply List.map_congr_left
  intro c _
  simp
theorem bI_inj {s t : List UInt8} (h : bI s = bI t) : s = t := by
  have := congrArg bU h
  rwa [bU_I, bU_I] at this
end Go.PM
end
section
namespace Go.PM
abbrev Tx := List UInt8
def dig (c : UInt8) : Nat := c.toNat - 48
def isD (c : UInt8) : Bool := decide (48 ≤ c.toNat) && decide (c.toNat ≤ 57)
def allD (s : Tx) : Bool := s.all isD
def nv (s : Tx) : Nat := s.foldl (fun a c => 10 * a + dig c) 0
def chD (n : Nat) : UInt8 := UInt8.ofNat (48 + n)
theorem isD_iff (c : UInt8) : isD c = true ↔ 48 ≤ c.toNat ∧ c.toNat ≤ 57 := by
  unfold isD; simp
theorem chD_toNat {n : Nat} (h : n < 10) : (chD n).toNat = 48 + n := by
  unfold chD
  simp [UInt8.toNat_ofNat']
  omega
theorem dig_chD {n : Nat} (h : n < 10) : dig (chD n) = n := by
  unfold dig
  rw [chD_toNat h]
  omega
theorem isD_chD {n : Nat} (h : n < 10) : isD (chD n) = true := by
  rw [isD_iff, chD_toNat h]
  omega
theorem chD_dig {c : UInt8} (h : isD c = true) : chD (dig c) = c := by
  rw [isD_iff] at h
  apply UInt8.toNat_inj.1
  rw [chD_toNat (by unfold dig; omega)]
  unfold dig
  omega
theorem dig_lt {c : UInt8} (h : isD c = true) : dig c < 10 := by
  rw [isD_iff] at h
  unfold dig
  omega
theorem nv_snoc (s : Tx) (c : UInt8) : nv (s ++ [c]) = 10 * nv s + dig c := by
  unfold nv
  rw [List.foldl_append]
  rfl
theorem foldl_nv (s : Tx) (a : Nat) : s.foldl (fun a c => 10 * a + dig c) a = a * 10 ^ s.length + nv s := by
  induction s generalizing a with
  | nil => simp [nv]
  | cons c s ih =>
    unfold nv
    simp only [List.foldl_cons, List.length_cons]
    rw [ih, ih (10 * 0 + dig c), Nat.pow_succ, Nat.add_mul, Nat.mul_zero, Nat.zero_add, ← Nat.add_assoc, Nat.mul_comm 10 a, Nat.mul_assoc, Nat.mul_comm 10]
theorem nv_cons (c : UInt8) (s : Tx) : nv (c :: s) = dig c * 10 ^ s.length + nv s := by
  have := foldl_nv s (10 * 0 + dig c)
  rw [Nat.mul_zero, Nat.zero_add] at this
  rw [← this]
  simp [nv]
theorem nv_nil : nv [] = 0 := rfl
theorem allD_cons {c : UInt8} {s : Tx} : allD (c :: s) = true ↔ isD c = true ∧ allD s = true := by
  unfold allD
  rw [List.all_cons, Bool.and_eq_true]
theorem allD_snoc {c : UInt8} {s : Tx} : allD (s ++ [c]) = true ↔ allD s = true ∧ isD c = true := by
  unfold allD
  rw [List.all_append, Bool.and_eq_true]
  simp
theorem nv_lt : ∀ (s : Tx), allD s = true → nv s < 10 ^ s.length
  | [], _ => by decide
  | c :: s, h => by
    obtain ⟨h1, h2⟩ := allD_cons.1 h
    have := nv_lt s h2
    have hd := dig_lt h1
    rw [nv_cons, List.length_cons, Nat.pow_succ, Nat.mul_comm _ 10]
    have : dig c * 10 ^ s.length ≤ 9 * 10 ^ s.length := Nat.mul_le_mul_right _ (by omega)
    omega
theorem nv_inj : ∀ (s t : Tx), allD s = true → allD t = true → s.length = t.length → nv s = nv t → s = t
  | [], t, _, _, hl, _ => (List.eq_nil_of_length_eq_zero hl.symm).symm
  | c :: s, [], _, _, hl, _ => by cases hl
  | c :: s, d :: t, h, k, hl, he => by
    obtain ⟨h1, h2⟩ := allD_cons.1 h
    obtain ⟨k1, k2⟩ := allD_cons.1 k
    have hl' : s.length = t.length := by simpa using hl
    rw [nv_cons, nv_cons, ← hl'] at he
    have a1 := nv_lt s h2
    have a2 := nv_lt t k2
    rw [← hl'] at a2
    have hcd : dig c = dig d := by
      apply Decidable.byContradiction
      intro hne
      rcases Nat.lt_or_gt_of_ne hne with hlt | hlt
      · have : (dig c + 1) * 10 ^ s.length ≤ dig d * 10 ^ s.length := Nat.mul_le_mul_right _ hlt
        rw [Nat.succ_mul] at this
        omega
      · have : (dig d + 1) * 10 ^ s.length ≤ dig c * 10 ^ s.length := Nat.mul_le_mul_right _ hlt
        rw [Nat.succ_mul] at this
        omega
    rw [hcd] at he
    have := nv_inj s t h2 k2 hl' (by omega)
    rw [← chD_dig h1, ← chD_dig k1, hcd, this]
def natT (n : Nat) : Tx := if n < 10 then [chD n] else natT (n / 10) ++ [chD (n % 10)]
termination_by n
theorem natT_lt {n : Nat} (h : n < 10) : natT n = [chD n] := by
  rw [natT, if_pos h]
theorem natT_ge {n : Nat} (h : 10 ≤ n) : natT n = natT (n / 10) ++ [chD (n % 10)] := by
  rw [natT, if_neg (by omega)]
theorem natT_all (n : Nat) : allD (natT n) = true ∧ nv (natT n) = n ∧ natT n ≠ [] ∧ (0 < n → (natT n).head? ≠ some 48) := by
  induction n using Nat.strongRecOn with
  | ind n ih =>
    by_cases h : n < 10
    · rw [natT_lt h]
      refine ⟨?_, ?_, by simp, ?_⟩
      · unfold allD
        simp [isD_chD h]
      · unfold nv
        simp [dig_chD h]
      · intro hn
        simp
        intro hc
        have := congrArg UInt8.toNat hc
        rw [chD_toNat h] at this
        simp at this
        omega
    · obtain ⟨i1, i2, i3, i4⟩ := ih (n / 10) (by omega)
      rw [natT_ge (by omega)]
      refine ⟨?_, ?_, by simp, ?_⟩
      · rw [allD_snoc]
        exact ⟨i1, isD_chD (by omega)⟩
      · rw [nv_snoc, i2, dig_chD (by omega)]
        omega
      · intro _
        have i4 := i4 (by omega)
        cases hq : natT (n / 10) with
        | nil => exact absurd hq i3
        | cons x r =>
          rw [hq] at i4
          exact i4
theorem natT_len (n : Nat) (k : Nat) (hk : 1 ≤ k) : (natT n).length ≤ k ↔ n < 10 ^ k := by
  induction n using Nat.strongRecOn generalizing k with
  | ind n ih =>
    by_cases h : n < 10
    · rw [natT_lt h]
      have : 10 ^ 1 ≤ 10 ^ k := Nat.pow_le_pow_right (by decide) hk
      simp
      omega
    · rw [natT_ge (by omega), List.length_append, List.length_singleton]
      by_cases hk1 : k = 1
      · subst hk1
        have : (natT (n / 10)).length ≠ 0 := fun h0 => (natT_all (n / 10)).2.2.1 (List.eq_nil_of_length_eq_zero h0)
        constructor
        · intro hx; omega
        · intro hx; rw [Nat.pow_one] at hx; omega
      · obtain ⟨j, rfl⟩ : ∃ j, k = j + 1 := ⟨k - 1, by omega⟩
        have := ih (n / 10) (by omega) j (by omega)
        rw [Nat.pow_succ]
        omega
theorem natT_nv (s : Tx) (h : allD s = true) (hn : s ≠ []) (h0 : s.head? = some 48 → s = [48]) : natT (nv s) = s := by
  have hx : ∀ (m : Nat) (s : Tx), s.length = m → allD s = true → s ≠ [] → (s.head? = some 48 → s = [48]) → natT (nv s) = s := by
    intro m
    induction m with
    | zero => intro s hm _ hn; exact absurd (List.eq_nil_of_length_eq_zero hm) hn
    | succ m ih =>
      intro s hm h hn h0
      have hsp := List.dropLast_concat_getLast hn
      obtain ⟨r, hr⟩ : ∃ r, s.dropLast = r := ⟨_, rfl⟩
      obtain ⟨c, hc⟩ : ∃ c, s.getLast hn = c := ⟨_, rfl⟩
      rw [hr, hc] at hsp
      rw [← hsp] at h
      obtain ⟨g1, g2⟩ := allD_snoc.1 h
      have hd := dig_lt g2
      cases r with
      | nil =>
        have hs : s = [c] := by rw [← hsp]; rfl
        subst hs
        have e : nv [c] = dig c := by unfold nv; simp
        rw [e, natT_lt hd, chD_dig g2]
      | cons x r =>
        have hx0 : x ≠ 48 := by
          intro e
          subst e
          have := h0 (by rw [← hsp]; rfl)
          rw [← hsp] at this
          have := congrArg List.length this
          simp at this
        have hl : (x :: r).length = m := by
          have := congrArg List.length hsp
          simp at this ⊢
          omega
        have hi := ih (x :: r) hl g1 (by simp) (by intro e; simp at e; exact absurd e hx0)
        have hpos : 0 < nv (x :: r) := by
          obtain ⟨q1, _⟩ := allD_cons.1 g1
          rw [nv_cons]
          have : 0 < dig x := by
            rw [isD_iff] at q1
            unfold dig
            have : x.toNat ≠ 48 := fun e => hx0 (UInt8.toNat_inj.1 e)
            omega
          have : 0 < dig x * 10 ^ r.length := Nat.mul_pos this (Nat.pow_pos (by decide))
          omega
        rw [← hsp, nv_snoc, natT_ge (by omega), show (10 * nv (x :: r) + dig c) / 10 = nv (x :: r) by omega, show (10 * nv (x :: r) + dig c) % 10 = dig c by omega, hi, chD_dig g2]
  exact hx _ s rfl h hn h0
def bareF : Tx → Tx
  | [] => [48]
  | [c] => [c]
  | c :: d :: s => if c = 48 then bareF (d :: s) else c :: d :: s
theorem bareF_eq : ∀ (s : Tx), allD s = true → bareF s = natT (nv s)
  | [], _ => by rw [nv_nil, natT_lt (by decide)]; rfl
  | [c], h => by
    have h1 := (allD_cons.1 h).1
    have e : nv [c] = dig c := by unfold nv; simp
    rw [e, natT_lt (dig_lt h1), chD_dig h1]
    rfl
  | c :: d :: s, h => by
    unfold bareF
    by_cases hc : c = 48
    · rw [if_pos hc, bareF_eq (d :: s) (allD_cons.1 h).2, nv_cons c (d :: s), hc]
      have : dig 48 = 0 := by decide
      rw [this, Nat.zero_mul, Nat.zero_add]
    · rw [if_neg hc]
      exact (natT_nv _ h (by simp) (by intro e; simp at e; exact absurd e hc)).symm
def moreL : Tx → Tx → Int
  | [], _ => 0
  | _ :: _, [] => 0
  | a :: s, b :: t => if a.toNat < b.toNat then -1 else if a.toNat > b.toNat then 1 else moreL s t
def cmpN (a b : Nat) : Int := if a < b then -1 else if a > b then 1 else 0
theorem moreL_eq : ∀ (s t : Tx), allD s = true → allD t = true → s.length = t.length → moreL s t = cmpN (nv s) (nv t)
  | [], t, _, _, hl => by
    obtain rfl := (List.eq_nil_of_length_eq_zero hl.symm)
    rfl
  | c :: s, [], _, _, hl => by cases hl
  | c :: s, d :: t, h, k, hl => by
    obtain ⟨h1, h2⟩ := allD_cons.1 h
    obtain ⟨k1, k2⟩ := allD_cons.1 k
    have hl' : s.length = t.length := by simpa using hl
    have a1 := nv_lt s h2
    have a2 := nv_lt t k2
    rw [← hl'] at a2
    have ih := moreL_eq s t h2 k2 hl'
    unfold moreL
    rw [nv_cons, nv_cons, ← hl', ih]
    rw [isD_iff] at h1 k1
    by_cases hlt : c.toNat < d.toNat
    · rw [if_pos hlt]
      have : (dig c + 1) * 10 ^ s.length ≤ dig d * 10 ^ s.length := Nat.mul_le_mul_right _ (by unfold dig; omega)
      rw [Nat.succ_mul] at this
      unfold cmpN
      rw [if_pos (by omega)]
    · rw [if_neg hlt]
      by_cases hgt : c.toNat > d.toNat
      · rw [if_pos hgt]
        have : (dig d + 1) * 10 ^ s.length ≤ dig c * 10 ^ s.length := Nat.mul_le_mul_right _ (by unfold dig; omega)
        rw [Nat.succ_mul] at this
        unfold cmpN
        rw [if_neg (by omega), if_pos (by omega)]
      · rw [if_neg hgt]
        have : dig c = dig d := by unfold dig; omega
        rw [this]
        unfold cmpN
        congr 1
        · simp
        · congr 1
          simp
def intT (x : Int) : Tx := if x < 0 then 45 :: natT (-x).toNat else natT x.toNat
def tv : Tx → Int
  | [] => 0
  | c :: s => if c = 45 then -(nv s : Int) else (nv (c :: s) : Int)
theorem natT_head (n : Nat) (c : UInt8) (s : Tx) (h : natT n = c :: s) : isD c = true := by
  have := (natT_all n).1
  rw [h] at this
  exact (allD_cons.1 this).1
theorem tv_natT (n : Nat) : tv (natT n) = n := by
  cases h : natT n with
  | nil => exact absurd h (natT_all n).2.2.1
  | cons c s =>
    have h1 := natT_head n c s h
    show (if c = 45 then -(nv s : Int) else (nv (c :: s) : Int)) = n
    rw [if_neg (by rintro rfl; revert h1; decide), ← h, (natT_all n).2.1]
theorem tv_intT (x : Int) : tv (intT x) = x := by
  unfold intT
  by_cases h : x < 0
  · rw [if_pos h]
    show (if (45 : UInt8) = 45 then -(nv (natT (-x).toNat) : Int) else (nv (45 :: natT (-x).toNat) : Int)) = x
    rw [if_pos rfl, (natT_all _).2.1]
    omega
  · rw [if_neg h, tv_natT]
    omega
end Go.PM
end
section
namespace Go.PM
section
variable {C : Cfg} {rec : Req → Option Res} {f : FuncId}
structure WC (C : Cfg) (rec : Req → Option Res) (f : FuncId) (p : List Bool) (l : Live) (c : Code) (s : St) (Q : Ex → St → Prop) : Prop where
  out : ∃ e s', C.runC rec f p l c s = some (e, s') ∧ Q e s'
def onw (Q : Ex → St → Prop) (N : St → Prop) : Ex → St → Prop
  | .normal, s => N s
  | e, s => Q e s
theorem wc_skip {p l s} {Q : Ex → St → Prop} (h : Q .normal s) : WC C rec f p l .skip s Q := ⟨⟨_, _, rfl, h⟩⟩
theorem wc_ret {p l s} {Q : Ex → St → Prop} (h : Q .ret s) : WC C rec f p l .ret s Q := ⟨⟨_, _, rfl, h⟩⟩
theorem wc_exit {p l s id} {Q : Ex → St → Prop} (h : Q (.exit id) s) : WC C rec f p l (.exit id) s Q := ⟨⟨_, _, rfl, h⟩⟩
theorem wc_seq {p l a b s} {Q : Ex → St → Prop} (h : WC C rec f (false :: p) { l with normal := liveIn b l } a s (onw Q fun s => WC C rec f (true :: p) l b s Q)) : WC C rec f p l (.seq a b) s Q := by
  obtain ⟨⟨e, s', h1, h2⟩⟩ := h
  cases e with
  | normal =>
    obtain ⟨⟨e2, s2, h3, h4⟩⟩ := h2
    refine ⟨⟨e2, s2, ?_, h4⟩⟩
    unfold Cfg.runC
    rw [h1]
    exact h3
  | exit id =>
    refine ⟨⟨_, s', ?_, h2⟩⟩
    unfold Cfg.runC
    rw [h1]
  | ret =>
    refine ⟨⟨_, s', ?_, h2⟩⟩
    unfold Cfg.runC
    rw [h1]
theorem wc_cond {p l c a b s} {t : Bool} {Q : Ex → St → Prop} (h : evalOp C s.env c = some (.bool t)) (ha : t = true → WC C rec f (false :: p) l a s Q) (hb : t = false → WC C rec f (true :: p) l b s Q) : WC C rec f p l (.cond c a b) s Q := by
  cases t with
  | true =>
    obtain ⟨⟨e, s', h1, h2⟩⟩ := ha rfl
    refine ⟨⟨e, s', ?_, h2⟩⟩
    unfold Cfg.runC
    rw [h]
    exact h1
  | false =>
    obtain ⟨⟨e, s', h1, h2⟩⟩ := hb rfl
    refine ⟨⟨e, s', ?_, h2⟩⟩
    unfold Cfg.runC
    rw [h]
    exact h1
def onx (id : Nat) (Q : Ex → St → Prop) : Ex → St → Prop
  | .exit j, s => if j = id then Q .normal s else Q (.exit j) s
  | e, s => Q e s
theorem wc_block {p l id c s} {Q : Ex → St → Prop} (h : WC C rec f (false :: p) { l with exits := (id, l.normal) :: l.exits } c s (onx id Q)) : WC C rec f p l (.block id c) s Q := by
  obtain ⟨⟨e, s', h1, h2⟩⟩ := h
  cases e with
  | normal =>
    refine ⟨⟨_, s', ?_, h2⟩⟩
    unfold Cfg.runC
    rw [h1]
  | ret =>
    refine ⟨⟨_, s', ?_, h2⟩⟩
    unfold Cfg.runC
    rw [h1]
  | exit j =>
    unfold onx at h2
    dsimp only at h2
    by_cases hj : j = id
    · rw [if_pos hj] at h2
      refine ⟨⟨_, s', ?_, h2⟩⟩
      unfold Cfg.runC
      rw [h1]
      exact if_pos hj
    · rw [if_neg hj] at h2
      refine ⟨⟨_, s', ?_, h2⟩⟩
      unfold Cfg.runC
      rw [h1]
      exact if_neg hj
theorem wc_loop {p l c s} {Q : Ex → St → Prop} (ks : List Nat) {vals hs e vals' hs'} (ke : List Nat) (hk : liveIn (.loop c) l = ks) (hp : pack s.base (ks.map s.env) s.heap = some (vals, hs))
    (hr : rec (.loop f p s.base vals hs) = some (.left e vals' hs')) (he : Ex.live l e = ke) (hQ : Q e { env := envOf ke vals', heap := heapOf hs', top := hs'.length, base := s.base }) : WC C rec f p l (.loop c) s Q := by
  subst hk he
  refine ⟨⟨_, _, ?_, hQ⟩⟩
  unfold Cfg.runC
  dsimp only
  rw [hp]
  dsimp only
  rw [hr]
structure WL (C : Cfg) (rec : Req → Option Res) (ops : Array Oper) (i : Nat) (os : List Oper) (s : St) (Q : St → Prop) : Prop where
  out : ops.toList.drop i = os → ∃ s', C.runOps rec ops (List.range' i os.length) s = some s' ∧ Q s'
structure WK (C : Cfg) (rec : Req → Option Res) (ops : Array Oper) (i : Nat) (os : List Oper) (s : St) (Q : St → Prop) : Prop where
  out : ops.toList.drop i = os → ∃ s', C.runOpsD rec ops (List.range' i os.length) s = some s' ∧ Q s'
def RQ (Q : Ex → St → Prop) (T : Nat) (s : St) : Prop := Q .normal { s with top := T }
theorem wl_nil {ops i E H T B T'} {Q : Ex → St → Prop} (h : Q .normal ⟨E, H, T', B⟩) : WL C rec ops i [] ⟨E, H, T, B⟩ (RQ Q T') := ⟨fun _ => ⟨_, rfl, h⟩⟩
theorem wk_nil {ops i E H T B T'} {Q : Ex → St → Prop} (h : Q .normal ⟨E, H, T', B⟩) : WK C rec ops i [] ⟨E, H, T, B⟩ (RQ Q T') := ⟨fun _ => ⟨_, rfl, h⟩⟩
theorem at_drop {ops : Array Oper} {i : Nat} {o : Oper} {os : List Oper} (h : ops.toList.drop i = o :: os) : ops[i]? = some o ∧ ops.toList.drop (i + 1) = os := by
  constructor
  · have := congrArg (·[0]?) h
    simpa using this
  · have := congrArg List.tail h
    simpa [List.tail_drop] using this
theorem wl_v {ops i o os E H T B d v} {Q : St → Prop} (hd : o.dst = d) (hg : guardD ops E o = some true) (hs : C.stepD rec (T + i * wide) (evalOp C E) H o = some (v, [])) (h : WL C rec ops (i + 1) os ⟨Env.set E d v, H, T, B⟩ Q) : WL C rec ops i (o :: os) ⟨E, H, T, B⟩ Q := by
  refine ⟨fun hi => ?_⟩
  obtain ⟨ho, hi'⟩ := at_drop hi
  obtain ⟨s', h1, h2⟩ := h.out hi'
  refine ⟨s', ?_, h2⟩
  subst hd
  show C.runOps rec ops (i :: List.range' (i + 1) os.length) _ = _
  unfold Cfg.runOps Cfg.runOp
  rw [ho]
  dsimp only
  rw [hg]
  dsimp only
  rw [hs]
  exact h1
theorem wl_e {ops i o os E H T B d v} {e : Eff} {Q : St → Prop} (hd : o.dst = d) (hg : guardD ops E o = some true) (hs : C.stepD rec (T + i * wide) (evalOp C E) H o = some (v, e)) (h : WL C rec ops (i + 1) os ⟨Env.set E d v, Heap.put H e, T, B⟩ Q) : WL C rec ops i (o :: os) ⟨E, H, T, B⟩ Q := by
  refine ⟨fun hi => ?_⟩
  obtain ⟨ho, hi'⟩ := at_drop hi
  obtain ⟨s', h1, h2⟩ := h.out hi'
  refine ⟨s', ?_, h2⟩
  subst hd
  show C.runOps rec ops (i :: List.range' (i + 1) os.length) _ = _
  unfold Cfg.runOps Cfg.runOp
  rw [ho]
  dsimp only
  rw [hg]
  dsimp only
  rw [hs]
  exact h1
theorem wl_n {ops i o os E H T B d} {Q : St → Prop} (hd : o.dst = d) (hg : guardD ops E o = some false) (h : WL C rec ops (i + 1) os ⟨Env.set E d .undef, H, T, B⟩ Q) : WL C rec ops i (o :: os) ⟨E, H, T, B⟩ Q := by
  refine ⟨fun hi => ?_⟩
  obtain ⟨ho, hi'⟩ := at_drop hi
  obtain ⟨s', h1, h2⟩ := h.out hi'
  refine ⟨s', ?_, h2⟩
  subst hd
  show C.runOps rec ops (i :: List.range' (i + 1) os.length) _ = _
  unfold Cfg.runOps Cfg.runOp
  rw [ho]
  dsimp only
  rw [hg]
  exact h1
def isCmp : Op → Bool
  | .binOp op .. => match op with
    | .eql | .neq | .lss | .leq | .gtr | .geq => true
    | _ => false
  | _ => false
theorem wl_b {ops i o os E H T B d gg} {b : Bool} {Q : St → Prop} (hcm : isCmp o.op = true) (hgg : o.guard = some gg) (hd : o.dst = d) (hg : guardD ops E o = some true) (hs : C.stepD rec (T + i * wide) (evalOp C E) H o = some (.bool b, [])) (h : b = true → WL C rec ops (i + 1) os ⟨Env.set E d (.bool true), H, T, B⟩ Q) (h' : b = false → WL C rec ops (i + 1) os ⟨Env.set E d (.bool false), H, T, B⟩ Q) : WL C rec ops i (o :: os) ⟨E, H, T, B⟩ Q := by
  cases b with
  | true => exact wl_v hd hg hs (h rfl)
  | false => exact wl_v hd hg hs (h' rfl)
def seenE (ops : Array Oper) (o : Oper) (E : Env) : Env := fun t => if (looks ops o).contains t then E t else none
def seenH (ops : Array Oper) (T i : Nat) (H : Heap) : Nat → Option Blk := fun id => if maySee ops T i id then H id else none
theorem wk_v {ops i o os E H T B d v} {Q : St → Prop} (hd : o.dst = d) (hg : guardD ops (seenE ops o E) o = some true) (hs : C.stepD rec (T + i * wide) (evalOp C (seenE ops o E)) (seenH ops T i H) o = some (v, [])) (h : WK C rec ops (i + 1) os ⟨Env.set E d v, H, T, B⟩ Q) : WK C rec ops i (o :: os) ⟨E, H, T, B⟩ Q := by
  refine ⟨fun hi => ?_⟩
  obtain ⟨ho, hi'⟩ := at_drop hi
  obtain ⟨s', h1, h2⟩ := h.out hi'
  refine ⟨s', ?_, h2⟩
  subst hd
  show C.runOpsD rec ops (i :: List.range' (i + 1) os.length) _ = _
  unfold Cfg.runOpsD Cfg.runOpD
  rw [ho]
  dsimp only
  unfold seenE at hg hs
  unfold seenH at hs
  rw [hg]
  dsimp only
  rw [hs]
  exact h1
theorem wk_e {ops i o os E H T B d v} {e : Eff} {Q : St → Prop} (hd : o.dst = d) (hg : guardD ops (seenE ops o E) o = some true) (hs : C.stepD rec (T + i * wide) (evalOp C (seenE ops o E)) (seenH ops T i H) o = some (v, e)) (hw : (e.all fun p => mayWrite ops T i p.1) = true) (h : WK C rec ops (i + 1) os ⟨Env.set E d v, Heap.put H e, T, B⟩ Q) : WK C rec ops i (o :: os) ⟨E, H, T, B⟩ Q := by
  refine ⟨fun hi => ?_⟩
  obtain ⟨ho, hi'⟩ := at_drop hi
  obtain ⟨s', h1, h2⟩ := h.out hi'
  refine ⟨s', ?_, h2⟩
  subst hd
  show C.runOpsD rec ops (i :: List.range' (i + 1) os.length) _ = _
  unfold Cfg.runOpsD Cfg.runOpD
  rw [ho]
  dsimp only
  unfold seenE at hg hs
  unfold seenH at hs
  rw [hg]
  dsimp only
  rw [hs]
  dsimp only
  rw [if_pos hw]
  exact h1
theorem wk_n {ops i o os E H T B d} {Q : St → Prop} (hd : o.dst = d) (hg : guardD ops (seenE ops o E) o = some false) (h : WK C rec ops (i + 1) os ⟨Env.set E d .undef, H, T, B⟩ Q) : WK C rec ops i (o :: os) ⟨E, H, T, B⟩ Q := by
  refine ⟨fun hi => ?_⟩
  obtain ⟨ho, hi'⟩ := at_drop hi
  obtain ⟨s', h1, h2⟩ := h.out hi'
  refine ⟨s', ?_, h2⟩
  subst hd
  show C.runOpsD rec ops (i :: List.range' (i + 1) os.length) _ = _
  unfold Cfg.runOpsD Cfg.runOpD
  rw [ho]
  dsimp only
  unfold seenE at hg
  rw [hg]
  exact h1
theorem wc_region {p l n ops os E H T B} {Q : Ex → St → Prop} (ho : ops.toList = os) (h : WL C rec ops 0 os ⟨E, H, T, B⟩ (RQ Q (T + os.length * wide))) : WC C rec f p l (.region n ops false) ⟨E, H, T, B⟩ Q := by
  obtain ⟨s', h1, h2⟩ := h.out (by simpa using ho)
  subst ho
  refine ⟨⟨_, _, ?_, h2⟩⟩
  unfold Cfg.runC Cfg.runRegion
  rw [if_neg Bool.false_ne_true, List.range_eq_range']
  rw [Array.length_toList] at h1 ⊢
  rw [h1]
  rfl
theorem wc_draw {p l n ops os E H T B} {Q : Ex → St → Prop} (ho : ops.toList = os) (h : WK C rec ops 0 os ⟨E, H, T, B⟩ (RQ Q (T + os.length * wide))) : WC C rec f p l (.region n ops true) ⟨E, H, T, B⟩ Q := by
  obtain ⟨s', h1, h2⟩ := h.out (by simpa using ho)
  subst ho
  refine ⟨⟨_, _, ?_, h2⟩⟩
  unfold Cfg.runC Cfg.runRegion
  rw [if_pos rfl, List.range_eq_range']
  rw [Array.length_toList] at h1 ⊢
  rw [h1]
  rfl
theorem wk_b {ops i o os E H T B d gg} {b : Bool} {Q : St → Prop} (hcm : isCmp o.op = true) (hgg : o.guard = some gg) (hd : o.dst = d) (hg : guardD ops (seenE ops o E) o = some true) (hs : C.stepD rec (T + i * wide) (evalOp C (seenE ops o E)) (seenH ops T i H) o = some (.bool b, [])) (h : b = true → WK C rec ops (i + 1) os ⟨Env.set E d (.bool true), H, T, B⟩ Q) (h' : b = false → WK C rec ops (i + 1) os ⟨Env.set E d (.bool false), H, T, B⟩ Q) : WK C rec ops i (o :: os) ⟨E, H, T, B⟩ Q := by
  cases b with
  | true => exact wk_v hd hg hs (h rfl)
  | false => exact wk_v hd hg hs (h' rfl)
theorem s_index {slot ev rd o t x i elem es tt k n e} (ho : o.op = .indexAddr t x i) (hu : C.P.underlying t = some (.slice elem)) (hx : ev x = some (.list es tt)) (hi : ev i = some (.int k n)) (h0 : 0 ≤ n) (he : es[n.toNat]? = some e) (hz : C.size elem = some e.cells.length) : C.stepD rec slot ev rd o = some (.iptr e 0, []) := by
  unfold Cfg.stepD
  rw [ho]
  dsimp only
  unfold Cfg.opD
  rw [ho]
  dsimp only
  rw [hx, hi]
  dsimp only
  unfold Cfg.indexAddrD
  rw [hu]
  dsimp only
  rw [if_pos h0, he]
  dsimp only
  rw [if_pos hz]
  rfl
def isB : Callee → Bool
  | .builtin _ => true
  | _ => false
theorem s_call {slot ev rd o c g args args' v m} (ho : o.op = .call c) (hnb : isB c.callee = false) (ht : C.target ev c = some (g, args)) (hm : C.mode g = some m) (hs : m ≠ .shared) (hx : C.ext g = none) (hr : rec (.call g args' []) = some (.done v [])) (hf : DV.freezes rd args = some args') (hv : v.ren (backTo [] slot 0) = v) (hl : v.scalar = true ∨ lentEff rd (DV.idss args) = []) : C.stepD rec slot ev rd o = some (v, []) := by
  have hb : C.stepD rec slot ev rd o = C.callD rec slot rd g args := by
    unfold Cfg.stepD
    rw [ho]
    dsimp only
    split
    · rename_i b hcb
      rw [hcb] at hnb
      cases hnb
    · rw [ht]
  rw [hb]
  unfold Cfg.callD
  rw [hm]
  cases m with
  | shared => exact absurd rfl hs
  | pure =>
    dsimp only
    rw [hf]
    dsimp only
    unfold Cfg.askD
    rw [hx]
    dsimp only
    rw [hr]
    dsimp only
    rw [if_pos (show ([] : List (Option Blk)).length ≤ wide from Nat.zero_le _)]
    rcases hl with hl | hl
    · rw [if_pos hl]
    · by_cases h : v.scalar = true
      · rw [if_pos h]
      · rw [if_neg h, hl]
        dsimp only [List.length_nil]
        rw [hv]
        rfl
  | adopt =>
    dsimp only
    rw [hf]
    dsimp only
    unfold Cfg.askD
    rw [hx]
    dsimp only
    rw [hr]
    dsimp only
    rw [if_pos (show ([] : List (Option Blk)).length ≤ wide from Nat.zero_le _)]
    rcases hl with hl | hl
    · rw [if_pos hl]
    · by_cases h : v.scalar = true
      · rw [if_pos h]
      · rw [if_neg h, hl]
        dsimp only [List.length_nil]
        rw [hv]
        rfl
theorem wn_go {Q : Ex → St → Prop} {N : St → Prop} {s} (h : N s) : onw Q N .normal s := h
theorem wn_ret {Q : Ex → St → Prop} {N : St → Prop} {s} (h : Q .ret s) : onw Q N .ret s := h
theorem wn_exit {Q : Ex → St → Prop} {N : St → Prop} {s j} (h : Q (.exit j) s) : onw Q N (.exit j) s := h
theorem wx_go {Q : Ex → St → Prop} {id s} (h : Q .normal s) : onx id Q .normal s := h
theorem wx_ret {Q : Ex → St → Prop} {id s} (h : Q .ret s) : onx id Q .ret s := h
theorem wx_here {Q : Ex → St → Prop} {id s} (h : Q .normal s) : onx id Q (.exit id) s := by
  show if id = id then _ else _
  rw [if_pos rfl]
  exact h
theorem wx_on {Q : Ex → St → Prop} {id j s} (hj : Nat.beq j id = false) (h : Q (.exit j) s) : onx id Q (.exit j) s := by
  show if j = id then _ else _
  rw [if_neg (Nat.ne_of_beq_eq_false hj)]
  exact h
def EndQ (C : Cfg) (f : FuncId) (fn : Func) (m : Nat) (r : Res) (e : Ex) (s : St) : Prop := (e = .normal ∨ e = .ret) ∧ ∃ v, C.results fn s = some v ∧ C.handBack f m v s.heap = some r
theorem eq_ret {fn m r s v} (h : C.results fn s = some v) (h2 : C.handBack f m v s.heap = some r) : EndQ C f fn m r .ret s := ⟨.inr rfl, v, h, h2⟩
theorem eq_go {fn m r s v} (h : C.results fn s = some v) (h2 : C.handBack f m v s.heap = some r) : EndQ C f fn m r .normal s := ⟨.inl rfl, v, h, h2⟩
def LoopQ (rec : Req → Option Res) (f : FuncId) (p : List Bool) (m : Nat) (ks : List Nat) (l : Live) (r : Res) : Ex → St → Prop
  | .normal, s => ∃ vals' hs', pack m (ks.map s.env) s.heap = some (vals', hs') ∧ rec (.loop f p m vals' hs') = some r
  | e, s => ∃ ke, Ex.live l e = ke ∧ ∃ vals' hs', pack m (ke.map s.env) s.heap = some (vals', hs') ∧ r = .left e vals' hs'
theorem lq_go {p m ks l r s vals' hs'} (h : pack m (ks.map s.env) s.heap = some (vals', hs')) (hr : rec (.loop f p m vals' hs') = some r) : LoopQ rec f p m ks l r .normal s := ⟨_, _, h, hr⟩
theorem lq_ret {p m ks l r s vals' hs'} (ke : List Nat) (hk : Ex.live l .ret = ke) (h : pack m (ke.map s.env) s.heap = some (vals', hs')) (hr : r = .left .ret vals' hs') : LoopQ rec f p m ks l r .ret s := ⟨ke, hk, _, _, h, hr⟩
theorem lq_exit {p m ks l r s j vals' hs'} (ke : List Nat) (hk : Ex.live l (.exit j) = ke) (h : pack m (ke.map s.env) s.heap = some (vals', hs')) (hr : r = .left (.exit j) vals' hs') : LoopQ rec f p m ks l r (.exit j) s := ⟨ke, hk, _, _, h, hr⟩
theorem call_told {fn : Func} {c : Code} {args hs r} (hf : C.P.funcs[f]? = some fn) (hb : fn.body = some c)
    (h : WC C rec f [] (Func.live fn) c { env := envOf (List.range args.length) (args.map some), heap := heapOf hs, top := hs.length, base := hs.length } (EndQ C f fn hs.length r)) : C.step rec (.call f args hs) = some r := by
  obtain ⟨⟨e, s, h1, he, v, h2, h3⟩⟩ := h
  unfold Cfg.step
  dsimp only
  rw [hf]
  dsimp only
  rw [hb]
  dsimp only
  unfold Cfg.callBody
  rw [h1]
  rcases he with rfl | rfl <;> (dsimp only; rw [h2]; exact h3)
theorem walk_loop {fn : Func} {c b : Code} {l : Live} {p m vals hs r} (hf : C.P.funcs[f]? = some fn) (hb : fn.body = some c) (hc : codeAt c (Func.live fn) p = some (.loop b, l)) (ks : List Nat) (hk : liveIn (.loop b) l = ks)
    (h : WC C rec f (false :: p) { l with normal := ks } b { env := envOf ks vals, heap := heapOf hs, top := hs.length, base := m } (LoopQ rec f p m ks l r)) : C.step rec (.loop f p m vals hs) = some r := by
  subst hk
  obtain ⟨⟨e, s, h1, h2⟩⟩ := h
  unfold Cfg.step
  dsimp only
  rw [hf]
  dsimp only
  rw [hb]
  dsimp only
  rw [hc]
  dsimp only
  unfold Cfg.loopBody
  rw [h1]
  cases e with
  | normal =>
    obtain ⟨v2, h3, h4, h5⟩ := h2
    dsimp only
    rw [h4]
    exact h5
  | exit id =>
    obtain ⟨ke, rfl, v2, h3, h4, rfl⟩ := h2
    dsimp only
    rw [h4]
  | ret =>
    obtain ⟨ke, rfl, v2, h3, h4, rfl⟩ := h2
    dsimp only
    rw [h4]
theorem a_new {slot rd elem size bytes id off len cap x b ys c n} (hy : elemsOf rd x = some ys) (hz : headSz size ys = true) (hn : ys.length = n + 1) (hb : rowAt rd id = some b) (hl : b.leaf = true) (hf : b.fz = false) (he : b.elem = elem) (hs : b.sz = size) (hc : capOf b off cap = some c) (hlt : c < len + ys.length) (hr : roomy (len + ys.length) bytes = true) (hle : off + len ≤ b.elems.length) {m es} (hm : len + ys.length = m) (hes : (b.elems.drop off).take len ++ ys = es) :
    appendD slot rd elem size bytes (.ref id off len cap) x = some (.ref slot 0 m none, [(slot, some (.row { elems := es, elem := elem, sz := size, ext := none, leaf := true, fz := false }))]) := by
  have h0 : ys.isEmpty = false := by cases ys with
    | nil => cases hn
    | cons => rfl
  subst he hs hm hes
  unfold appendD
  simp only [hy, Option.bind_eq_bind, Option.bind_some, hz, Bool.not_true, Bool.false_eq_true, if_false, hb, h0, hl, hf, bne_self_eq_false, Bool.or_false, hr, Bool.false_or]
  rw [if_neg (by simp; omega), hc]
  dsimp only
  rw [if_neg (by omega)]
theorem a_on {slot rd elem size bytes id len x b ys n} (hy : elemsOf rd x = some ys) (hz : headSz size ys = true) (hn : ys.length = n + 1) (hb : rowAt rd id = some b) (hl : b.leaf = true) (hf : b.fz = false) (he : b.elem = elem) (hs : b.sz = size) (hc : b.ext = none) (hr : roomy (len + ys.length) bytes = true) (hle : len ≤ b.elems.length) {m es} (hm : len + ys.length = m) (hes : b.elems.take len ++ ys = es) :
    appendD slot rd elem size bytes (.ref id 0 len none) x = some (.ref slot 0 m none, [(id, none), (slot, some (.row { elems := es, elem := elem, sz := size, ext := none, leaf := true, fz := false }))]) := by
  have h0 : ys.isEmpty = false := by cases ys with
    | nil => cases hn
    | cons => rfl
  subst he hs hm hes
  unfold appendD
  simp only [hy, Option.bind_eq_bind, Option.bind_some, hz, Bool.not_true, Bool.false_eq_true, if_false, hb, h0, hl, hf, bne_self_eq_false, Bool.or_false, hr, Bool.false_or, capOf, hc, Option.map_none, List.drop_zero]
  rw [if_neg (by simp; omega), if_pos trivial]
theorem a_nil {slot rd elem size bytes x ys n} (hy : elemsOf rd x = some ys) (hz : headSz size ys = true) (hn : ys.length = n + 1) (hr : roomy ys.length bytes = true) :
    appendD slot rd elem size bytes (.list [] true) x = some (.ref slot 0 ys.length none, [(slot, some (.row { elems := ys, elem := elem, sz := size, ext := none, leaf := true, fz := false }))]) := by
  have h0 : ys.isEmpty = false := by cases ys with
    | nil => cases hn
    | cons => rfl
  have h2 : headSz size ([] : List DV) = true := rfl
  unfold appendD
  simp only [hy, Option.bind_eq_bind, Option.bind_some, hz, Bool.not_true, Bool.false_eq_true, if_false, h0, h2, Bool.and_self, List.length_nil, Nat.zero_add, hr, if_true, List.nil_append]
theorem s_app {slot ev rd o c elem size i s x r} (bytes : Nat) (ho : o.op = .call c) (hc : c.callee = .builtin .append) (h0 : (c.args[0]?).bind ev = some s) (h1 : (c.args[1]?).bind ev = some x) (hu : (c.argTypes[0]?).bind C.P.underlying = some (.slice elem)) (hz : C.size elem = some size) (hi : C.P.info? elem = some i)
    (hg : (decide (0 < size) && c.argTypes[1]? == c.argTypes[0]? && c.args.size == 2 && c.argTypes.size == 2 && (i.zero.map (·.cells.size)) == some size) = true) (hb : i.bytes = bytes) (h : appendD slot rd elem size bytes s x = some r) : C.stepD rec slot ev rd o = some r := by
  subst hb
  unfold Cfg.stepD
  rw [ho]
  dsimp only
  rw [hc]
  dsimp only
  unfold Cfg.opD
  rw [ho]
  dsimp only
  rw [hc]
  dsimp only
  rw [h0, h1, hu]
  dsimp only
  rw [hz, hi]
  dsimp only
  rw [if_pos hg]
  exact h
theorem s_quo {slot ev rd o t x y tt k a b} (ho : o.op = .binOp .quo t x y tt) (hx : ev x = some (.int k a)) (hy : ev y = some (.int k b)) (hb : b ≠ 0) : C.stepD rec slot ev rd o = some (.int k (k.wrap (a.tdiv b)), []) := by
  unfold Cfg.stepD
  rw [ho]
  dsimp only
  unfold Cfg.opD
  rw [ho]
  dsimp only
  rw [hx, hy]
  dsimp only
  unfold Cfg.binT binD
  dsimp only
  rw [if_neg (fun h => h rfl), if_neg hb]
  rfl
theorem s_rem {slot ev rd o t x y tt k a b} (ho : o.op = .binOp .rem t x y tt) (hx : ev x = some (.int k a)) (hy : ev y = some (.int k b)) (hb : b ≠ 0) : C.stepD rec slot ev rd o = some (.int k (a.tmod b), []) := by
  unfold Cfg.stepD
  rw [ho]
  dsimp only
  unfold Cfg.opD
  rw [ho]
  dsimp only
  rw [hx, hy]
  dsimp only
  unfold Cfg.binT binD
  dsimp only
  rw [if_neg (fun h => h rfl), if_neg hb]
  rfl
end
end Go.PM
end
section
namespace Go.PM
open Go Go.RowKit
def cloneX (elem : TypeId) (sz bytes : Nat) : List DV → Option (DV × List (Option Blk))
  | [.list [] _] => some (.list [] false, [])
  | [.list (e :: es) _] => if e.cells.length = sz ∧ roomy (es.length + 1) bytes = true then some (.ref 0 0 (es.length + 1) none, [some (.row { elems := e :: es, elem := elem, sz := sz, ext := none, leaf := true, fz := false })]) else none
  | _ => none
theorem clone_ext {C C' : Cfg} (ok : CfgOK C') (hP : C'.P = C.P) (hg : C'.globs = C.globs) (hfx : C'.fix = C.fix) {g : FuncId} {elem : TypeId} {sz bytes : Nat}
    (hrun : ∀ e es t, e.cells.length = sz → roomy (es.length + 1) bytes = true → C'.run (.call g [.list (e :: es) t] []) = some (.done (.ref 0 0 (es.length + 1) none) [some (.row { elems := e :: es, elem := elem, sz := sz, ext := none, leaf := true, fz := false })]))
    (h0 : ∀ (A : Option Addr) (c : Nat) (w : World), Calls C.P g #[.slice A 0 c] w fun e w' => (∃ A c', e = .returned (.slice A 0 c')) ∧ Below w.heap.size w w')
    {args v hs'} (h : cloneX elem sz bytes args = some (v, hs')) : CallOK C g args [] v hs' := by
  unfold cloneX at h
  split at h
  · cases h
    intro w N0 φ vals ht hR hG hv
    obtain ⟨x, r, rfl, hx, hr⟩ := hv
    obtain rfl : r = [] := hr
    obtain ⟨_, A, c, rfl, _, _, _⟩ := hx
    refine (h0 A c w).mono ?_
    rintro e w' ⟨⟨A', c', rfl⟩, hb⟩
    have hlt : ∀ {b}, Own φ (heapOf []) b → False := by
      rintro b ⟨id, pb, r, h1, h2, _⟩
      simp [heapOf] at h2
    refine ⟨_, φ, rfl, { os := hb.os, tape := hb.tape, output := hb.output, size := hb.size, same := fun b hb' _ => hb.block b hb', own := fun _ _ h => h, keep := fun _ _ _ h => .inl h, old := fun id pb h _ => ⟨id, pb, h, rfl⟩, rel := ?_, tail := fun k hk => ht k hk, le := Nat.le_refl _ }, ⟨rfl, A', c', rfl, (fun h => by cases h), Nat.zero_le _, .inl rfl⟩⟩
    exact { gone := hR.gone, here := fun id blk h => by simp [heapOf] at h, apart := hR.apart, out := hR.out, lim := fun b h => Nat.lt_of_lt_of_le (hR.lim b h) hb.size }
  · rename_i e es tt
    split at h
    · rename_i hc
      cases h
      have := call_sound ok (hrun e es tt hc.1 hc.2)
      intro w N0 φ vals ht hR hG hv
      rw [← hP]
      refine this w N0 φ vals ht hR ?_ hv
      exact ⟨fun g d hd => hG.vals g d (by rw [← hg]; exact hd), fun g q hq => hG.fix g q (by rw [← hfx]; exact hq)⟩
    · cases h
  · cases h
end Go.PM
end
section
namespace Go.PM
open Go Go.RowKit
theorem decDigits_nat (n : Nat) : Lib.decDigits n = natT n := by
  induction n using Nat.strongRecOn with
  | ind n ih =>
    rw [Lib.decDigits]
    by_cases h : n < 10
    · rw [dif_pos h, natT_lt h]
      rfl
    · rw [dif_neg h, natT_ge (by omega), ih (n / 10) (by omega)]
      rfl
def natF : Nat → Nat → Tx
  | 0, n => [chD n]
  | k + 1, n => if n < 10 then [chD n] else natF k (n / 10) ++ [chD (n % 10)]
theorem natF_eq : ∀ (k n : Nat), n < 10 ^ (k + 1) → natF k n = natT n
  | 0, n, h => by
    rw [natT_lt (by simpa using h)]
    rfl
  | k + 1, n, h => by
    unfold natF
    by_cases hn : n < 10
    · rw [if_pos hn, natT_lt hn]
    · rw [if_neg hn, natT_ge (by omega), natF_eq k (n / 10) (by rw [Nat.pow_succ] at h; omega)]
def intF (x : Int) : Tx := if x < 0 then 45 :: natF 19 (-x).toNat else natF 19 x.toNat
theorem intF_eq (x : Int) (h0 : -9223372036854775808 ≤ x) (h1 : x ≤ 9223372036854775807) : intF x = intT x := by
  unfold intF intT
  rw [natF_eq 19 _ (by omega), natF_eq 19 _ (by omega)]
theorem itoa_eq (x : Int) : Lib.itoa x = intT x := by
  unfold Lib.itoa intT
  by_cases h : x < 0
  · rw [if_pos h, if_pos h, decDigits_nat]
    congr 2
    omega
  · rw [if_neg h, if_neg h, decDigits_nat]
def fmtX : List DV → Option (DV × List (Option Blk))
  | [.int .i64 n, .int .i64 b] => if b = 10 ∧ -9223372036854775808 ≤ n ∧ n ≤ 9223372036854775807 then some (.str (intF n), []) else none
  | _ => none
def parseX (T : TypeId) : List DV → Option (DV × List (Option Blk))
  | [.str s, .int .i64 b, .int .i64 z] => if b = 10 ∧ z = 64 ∧ s.length ≤ 1000000000 then match Lib.parseIntB 64 s with
    | .ok v => some (.tuple [.int .i64 v, .nili], [])
    | .range => some (.tuple [.int .i64 (Lib.intSat 64 s), .iface T .dead], [])
    | _ => none
    else none
  | _ => none
theorem ext_below {C : Cfg} {g : FuncId} {args : List DV} {v : DV} (h : ∀ (w : World) (N : Nat → Prop) (vals : List Value), GlobRel C w N → RepL w N (fun _ => none) args vals →
    Calls C.P g vals.toArray w fun e w' => ∃ x, e = .returned x ∧ Below w.heap.size w w' ∧ ∀ (w : World) (N : Nat → Prop) (φ : Phi), Rep w N φ v x) (hi : DV.imms args = true) : CallOK C g args [] v [] := by
  intro w N0 φ vals ht hR hG hv
  refine (h w _ vals hG (RepL.imm hi hv)).mono ?_
  rintro e w' ⟨x, rfl, hb, hx⟩
  have hlt : ∀ {b}, Own φ (heapOf []) b → False := by
    rintro b ⟨id, pb, r, h1, h2, _⟩
    simp [heapOf] at h2
  refine ⟨_, φ, rfl, { os := hb.os, tape := hb.tape, output := hb.output, size := hb.size, same := fun b hb' _ => hb.block b hb', own := fun _ _ h => h, keep := fun _ _ _ h => .inl h, old := fun id pb h _ => ⟨id, pb, h, rfl⟩, rel := ?_, tail := fun k hk => ht k hk, le := Nat.le_refl _ }, hx _ _ _⟩
  exact { gone := hR.gone, here := fun id blk h => by simp [heapOf] at h, apart := hR.apart, out := hR.out, lim := fun b h => Nat.lt_of_lt_of_le (hR.lim b h) hb.size }
theorem pu_figs (M : Nat) (hM : M ≤ 18446744073709551615) : ∀ (l : Tx) (acc : Nat), allD l = true → acc ≤ M → Lib.parseUintM M acc l = if acc * 10 ^ l.length + nv l ≤ M then .ok (acc * 10 ^ l.length + nv l) else .range
  | [], acc, _, ha => by
    rw [Lib.parseUintM]
    simp [nv, ha]
  | c :: l, acc, h, ha => by
    obtain ⟨h1, h2⟩ := allD_cons.1 h
    have hd := dig_lt h1
    have hp : 1 ≤ 10 ^ l.length := Nat.pow_pos (by decide)
    rw [nv_cons, List.length_cons, Nat.pow_succ]
    have e : acc * (10 ^ l.length * 10) + (dig c * 10 ^ l.length + nv l) = (acc * 10 + dig c) * 10 ^ l.length + nv l := by
      rw [Nat.add_mul, ← Nat.add_assoc, Nat.mul_assoc acc 10, Nat.mul_comm 10]
    rw [e]
    have hge : (acc * 10 + dig c) ≤ (acc * 10 + dig c) * 10 ^ l.length := Nat.le_mul_of_pos_right _ hp
    rw [Lib.parseUintM, if_pos ((isD_iff c).1 h1)]
    have hdg : c.toNat - 48 = dig c := rfl
    rw [hdg]
    by_cases g1 : 1844674407370955162 ≤ acc
    · rw [if_pos g1, if_neg (by omega)]
    · rw [if_neg g1]
      by_cases g2 : M < acc * 10 + dig c
      · rw [if_pos g2, if_neg (by omega)]
      · rw [if_neg g2]
        exact pu_figs M hM l _ h2 (by omega)
def trimM : Tx → Tx
  | [] => []
  | c :: r => if c = 45 then r else c :: r
def mayT (s : Tx) : Bool := let f := trimM s; decide (1 ≤ f.length) && decide (f.length ≤ 100) && (!(f.head? == some 48) || s == [48]) && allD f
def W64 (x : Int) : Bool := decide (-9223372036854775808 ≤ x) && decide (x ≤ 9223372036854775807)
theorem parse_may (s : Tx) (h : mayT s = true) : Lib.parseIntB 64 s = if W64 (tv s) = true then .ok (tv s) else .range := by
  have h := h
  unfold mayT at h
  simp only [Bool.and_eq_true, decide_eq_true_eq] at h
  obtain ⟨⟨⟨h1, _⟩, _⟩, h4⟩ := h
  unfold W64
  cases s with
  | nil => simp [trimM] at h1
  | cons c r =>
    by_cases hc : c = 45
    · subst hc
      have ht : trimM (45 :: r) = r := by simp [trimM]
      rw [ht] at h1 h4
      have e : tv (45 :: r) = -(nv r : Int) := by simp [tv]
      rw [Lib.parseIntB_minus, e]
      unfold Lib.parseUintB
      rw [if_neg (by rintro rfl; simp at h1), pu_figs _ (by decide) r 0 h4 (by omega), Nat.zero_mul, Nat.zero_add]
      by_cases g : nv r ≤ 2 ^ 64 - 1
      · rw [if_pos g]
        unfold Lib.signedC
        dsimp only
        by_cases g2 : 2 ^ (64 - 1) < nv r
        · rw [if_pos g2, if_neg (by simp; omega)]
        · rw [if_neg g2, if_pos (by simp; omega)]
      · rw [if_neg g, if_neg (by simp; omega)]
        rfl
    · have ht : trimM (c :: r) = c :: r := if_neg hc
      rw [ht] at h4
      have hd := (isD_iff c).1 (allD_cons.1 h4).1
      have e : tv (c :: r) = (nv (c :: r) : Int) := if_neg hc
      rw [Lib.parseIntB_plain 64 c r (by omega) (by omega), e]
      unfold Lib.parseUintB
      rw [if_neg (by simp), pu_figs _ (by decide) _ 0 h4 (by omega), Nat.zero_mul, Nat.zero_add]
      by_cases g : nv (c :: r) ≤ 2 ^ 64 - 1
      · rw [if_pos g]
        unfold Lib.signlessC
        dsimp only
        by_cases g2 : 2 ^ (64 - 1) ≤ nv (c :: r)
        · rw [if_pos g2, if_neg (by simp; omega)]
        · rw [if_neg g2, if_pos (by simp; omega)]
      · rw [if_neg g, if_neg (by simp; omega)]
        rfl
theorem mayT_iff (s : Tx) : mayT s = true ↔ s = intT (tv s) ∧ (tv s).natAbs < 10 ^ 100 := by
  constructor
  · intro h
    unfold mayT at h
    simp only [Bool.and_eq_true, decide_eq_true_eq] at h
    obtain ⟨⟨⟨h1, h2⟩, h3⟩, h4⟩ := h
    cases s with
    | nil => simp [trimM] at h1
    | cons c r =>
      by_cases hc : c = 45
      · subst hc
        have ht : trimM (45 :: r) = r := by simp [trimM]
        rw [ht] at h1 h2 h3 h4
        have hne : r ≠ [] := by rintro rfl; simp at h1
        have hh : r.head? ≠ some 48 := by
          intro he
          rw [he] at h3
          simp at h3
        have hnat := natT_nv r h4 hne (fun he => absurd he hh)
        have hpos : 0 < nv r := by
          apply Nat.pos_of_ne_zero
          intro h0
          rw [h0, natT_lt (by decide)] at hnat
          exact hh (by rw [← hnat]; rfl)
        have e : tv (45 :: r) = -(nv r : Int) := by simp [tv]
        have hlt := nv_lt r h4
        have hle : 10 ^ r.length ≤ 10 ^ 100 := Nat.pow_le_pow_right (by decide) h2
        rw [e]
        constructor
        · unfold intT
          rw [if_pos (by omega)]
          rw [show (- -(nv r : Int)).toNat = nv r by omega, hnat]
        · rw [Int.natAbs_neg, Int.natAbs_natCast]
          omega
      · have ht : trimM (c :: r) = c :: r := if_neg hc
        rw [ht] at h1 h2 h3 h4
        have hnat := natT_nv (c :: r) h4 (by simp) (fun he => by
          rw [he] at h3
          simpa using h3)
        have e : tv (c :: r) = (nv (c :: r) : Int) := if_neg hc
        have hlt := nv_lt (c :: r) h4
        have hle : 10 ^ (c :: r).length ≤ 10 ^ 100 := Nat.pow_le_pow_right (by decide) h2
        rw [e]
        constructor
        · unfold intT
          rw [if_neg (by omega), Int.toNat_natCast, hnat]
        · rw [Int.natAbs_natCast]
          omega
  · rintro ⟨h, hb⟩
    obtain ⟨x, hx⟩ : ∃ x, tv s = x := ⟨_, rfl⟩
    rw [hx] at h hb
    subst h
    unfold mayT intT
    by_cases h0 : x < 0
    · rw [if_pos h0]
      obtain ⟨a1, a2, a3, a4⟩ := natT_all (-x).toNat
      have ht : trimM (45 :: natT (-x).toNat) = natT (-x).toNat := by simp [trimM]
      have hl := (natT_len (-x).toNat 100 (by decide)).2 (by omega)
      have h1 : 1 ≤ (natT (-x).toNat).length := Nat.pos_of_ne_zero fun h => a3 (List.eq_nil_of_length_eq_zero h)
      have h2 := a4 (by omega)
      simp only [ht, a1, Bool.and_true, Bool.and_eq_true, decide_eq_true_eq, Bool.or_eq_true]
      exact ⟨⟨h1, hl⟩, .inl (by simpa using h2)⟩
    · rw [if_neg h0]
      obtain ⟨a1, a2, a3, a4⟩ := natT_all x.toNat
      have ht : trimM (natT x.toNat) = natT x.toNat := by
        cases hq : natT x.toNat with
        | nil => exact absurd hq a3
        | cons c r =>
          have := natT_head _ c r hq
          have hc : c ≠ 45 := by rintro rfl; revert this; decide
          exact if_neg hc
      have hl := (natT_len x.toNat 100 (by decide)).2 (by omega)
      have h1 : 1 ≤ (natT x.toNat).length := Nat.pos_of_ne_zero fun h => a3 (List.eq_nil_of_length_eq_zero h)
      simp only [ht, a1, Bool.and_true, Bool.and_eq_true, decide_eq_true_eq, Bool.or_eq_true]
      refine ⟨⟨h1, hl⟩, ?_⟩
      by_cases hz : x = 0
      · subst hz
        right
        rw [show (0 : Int).toNat = 0 from rfl, natT_lt (by decide)]
        decide
      · exact .inl (by simpa using a4 (by omega))
end Go.PM
end
section
namespace Go.PM
theorem nv_at : ∀ (n : Nat) (a : Tx), a.length = n → allD a = true → ∀ i, (hi : i < a.length) → nv a / 10 ^ i % 10 = dig (a[a.length - 1 - i])
  | 0, a, hn, _, i, hi => by omega
  | n + 1, a, hn, h, i, hi => by
    have hne : a ≠ [] := by rintro rfl; simp at hi
    obtain ⟨r, c, rfl⟩ : ∃ r c, a = r ++ [c] := ⟨a.dropLast, a.getLast hne, (List.dropLast_concat_getLast hne).symm⟩
    obtain ⟨h1, h2⟩ := allD_snoc.1 h
    have hd := dig_lt h2
    rw [nv_snoc]
    cases i with
    | zero =>
      rw [Nat.pow_zero, Nat.div_one]
      have : (r ++ [c])[(r ++ [c]).length - 1 - 0] = c := by simp
      rw [this]
      omega
    | succ i =>
      have hl : r.length = n := by simpa using hn
      have hir : i < r.length := by simp at hi; omega
      have ih := nv_at n r hl h1 i hir
      rw [Nat.pow_succ, Nat.mul_comm (10 ^ i) 10, ← Nat.div_div_eq_div_mul, show (10 * nv r + dig c) / 10 = nv r by omega, ih]
      congr 1
      have e : (r ++ [c]).length - 1 - (i + 1) = r.length - 1 - i := by simp; omega
      simp only [e]
      rw [List.getElem_append_left (by omega)]
def plusS : Nat → Nat → Nat → Nat → Tx → Tx
  | 0, _, _, _, s => s
  | j + 1, A, B, c, s => plusS j (A / 10) (B / 10) ((A % 10 + B % 10 + c) / 10) (chD ((A % 10 + B % 10 + c) % 10) :: s)
theorem plusS_nv : ∀ (j A B c : Nat) (s : Tx), allD s = true → allD (plusS j A B c s) = true ∧ nv (plusS j A B c s) = (A + B + c) % 10 ^ j * 10 ^ s.length + nv s
  | 0, A, B, c, s, h => by
    refine ⟨h, ?_⟩
    unfold plusS
    rw [Nat.pow_zero, Nat.mod_one, Nat.zero_mul, Nat.zero_add]
  | j + 1, A, B, c, s, h => by
    have hd : (A % 10 + B % 10 + c) % 10 < 10 := Nat.mod_lt _ (by decide)
    obtain ⟨h1, h2⟩ := plusS_nv j (A / 10) (B / 10) ((A % 10 + B % 10 + c) / 10) (chD ((A % 10 + B % 10 + c) % 10) :: s) (allD_cons.2 ⟨isD_chD hd, h⟩)
    refine ⟨h1, ?_⟩
    unfold plusS
    rw [h2, nv_cons, dig_chD hd, List.length_cons]
    have e1 : A / 10 + B / 10 + (A % 10 + B % 10 + c) / 10 = (A + B + c) / 10 := by omega
    have e2 : (A % 10 + B % 10 + c) % 10 = (A + B + c) % 10 := by omega
    rw [e1, e2, Nat.pow_succ 10 j, Nat.mul_comm (10 ^ j) 10, Nat.mod_mul, Nat.add_mul, Nat.pow_succ 10 s.length, ← Nat.add_assoc, Nat.add_comm ((A + B + c) % 10 * _)]
    congr 2
    rw [Nat.mul_comm (10 ^ s.length) 10, ← Nat.mul_assoc, Nat.mul_comm _ 10]
def minusS : Nat → Nat → Nat → Nat → Tx → Tx
  | 0, _, _, _, s => s
  | j + 1, A, B, c, s => if A % 10 < B % 10 + c then minusS j (A / 10) (B / 10) 1 (chD (A % 10 + 10 - (B % 10 + c)) :: s) else minusS j (A / 10) (B / 10) 0 (chD (A % 10 - (B % 10 + c)) :: s)
theorem minusS_nv : ∀ (j A B c : Nat) (s : Tx), allD s = true → c ≤ 1 → B + c ≤ A → A < 10 ^ j → allD (minusS j A B c s) = true ∧ nv (minusS j A B c s) = (A - B - c) * 10 ^ s.length + nv s
  | 0, A, B, c, s, h, hc, hb, ha => by
    refine ⟨h, ?_⟩
    unfold minusS
    have : A = 0 := by simpa using ha
    subst this
    simp
  | j + 1, A, B, c, s, h, hc, hb, ha => by
    rw [Nat.pow_succ] at ha
    unfold minusS
    by_cases hlt : A % 10 < B % 10 + c
    · rw [if_pos hlt]
      have hd : A % 10 + 10 - (B % 10 + c) < 10 := by omega
      obtain ⟨h1, h2⟩ := minusS_nv j (A / 10) (B / 10) 1 (chD (A % 10 + 10 - (B % 10 + c)) :: s) (allD_cons.2 ⟨isD_chD hd, h⟩) (by omega) (by omega) (by omega)
      refine ⟨h1, ?_⟩
      rw [h2, nv_cons, dig_chD hd, List.length_cons, Nat.pow_succ, Nat.mul_comm (10 ^ s.length) 10, ← Nat.mul_assoc, ← Nat.add_assoc, ← Nat.add_mul]
      congr 2
      omega
    · rw [if_neg hlt]
      have hd : A % 10 - (B % 10 + c) < 10 := by omega
      obtain ⟨h1, h2⟩ := minusS_nv j (A / 10) (B / 10) 0 (chD (A % 10 - (B % 10 + c)) :: s) (allD_cons.2 ⟨isD_chD hd, h⟩) (by omega) (by omega) (by omega)
      refine ⟨h1, ?_⟩
      rw [h2, nv_cons, dig_chD hd, List.length_cons, Nat.pow_succ, Nat.mul_comm (10 ^ s.length) 10, ← Nat.mul_assoc, ← Nat.add_assoc, ← Nat.add_mul]
      congr 2
      omega
end Go.PM
end
section
namespace Go.PM
section
variable {C : Cfg} {rec : Req → Option Res}
theorem s_strix {slot ev rd o t x i s k n b} (ho : o.op = .index t x i) (hu : C.P.underlying t = some .string) (hx : ev x = some (.str s)) (hi : ev i = some (.int k n)) (h0 : 0 ≤ n) (hb : s[n.toNat]? = some b) : C.stepD rec slot ev rd o = some (.int .u8 (b.toNat : Nat), []) := by
  unfold Cfg.stepD
  rw [ho]
  dsimp only
  unfold Cfg.opD
  rw [ho]
  dsimp only
  rw [hx, hi]
  dsimp only
  unfold Cfg.indexD
  rw [hu]
  dsimp only
  rw [if_pos h0, hb]
  rfl
theorem s_cut {slot ev rd o t x lo hi s k k'} {a b : Int} (ho : o.op = .slice t x (some lo) (some hi) none) (hu : C.P.underlying t = some .string) (hx : ev x = some (.str s)) (hl : ev lo = some (.int k a)) (hh : ev hi = some (.int k' b)) (h0 : 0 ≤ a) (h1 : a ≤ b) (h2 : b ≤ (s.length : Nat)) : C.stepD rec slot ev rd o = some (.str ((s.drop a.toNat).take (b.toNat - a.toNat)), []) := by
  unfold Cfg.stepD
  rw [ho]
  dsimp only
  unfold Cfg.opD
  rw [ho]
  dsimp only
  unfold optInt
  dsimp only
  rw [hx, hl, hh, hu]
  dsimp only
  unfold sliceS bounds
  dsimp only
  have e1 : boundMx none s.length = some none := rfl
  have e2 : boundHi (some b) none none s.length s.length = some b.toNat := by
    unfold boundHi
    dsimp only
    rw [if_pos (by simp; omega)]
  have e3 : boundLo (some a) b.toNat = some a.toNat := by
    unfold boundLo
    dsimp only
    rw [if_pos (by simp; omega)]
  rw [e1]
  dsimp only
  rw [e2]
  dsimp only
  rw [e3]
  rfl
theorem wl_c {ops i o os E H T B d} {b : Bool} {Q : St → Prop} (hcm : isCmp o.op = true) (hd : o.dst = d) (hg : guardD ops E o = some true) (hs : C.stepD rec (T + i * wide) (evalOp C E) H o = some (.bool b, [])) (h : b = true → WL C rec ops (i + 1) os ⟨Env.set E d (.bool true), H, T, B⟩ Q) (h' : b = false → WL C rec ops (i + 1) os ⟨Env.set E d (.bool false), H, T, B⟩ Q) : WL C rec ops i (o :: os) ⟨E, H, T, B⟩ Q := by
  have _ := hcm
  cases b with
  | true => exact wl_v hd hg hs (h rfl)
  | false => exact wl_v hd hg hs (h' rfl)
theorem wk_c {ops i o os E H T B d} {b : Bool} {Q : St → Prop} (hcm : isCmp o.op = true) (hd : o.dst = d) (hg : guardD ops (seenE ops o E) o = some true) (hs : C.stepD rec (T + i * wide) (evalOp C (seenE ops o E)) (seenH ops T i H) o = some (.bool b, [])) (h : b = true → WK C rec ops (i + 1) os ⟨Env.set E d (.bool true), H, T, B⟩ Q) (h' : b = false → WK C rec ops (i + 1) os ⟨Env.set E d (.bool false), H, T, B⟩ Q) : WK C rec ops i (o :: os) ⟨E, H, T, B⟩ Q := by
  have _ := hcm
  cases b with
  | true => exact wk_v hd hg hs (h rfl)
  | false => exact wk_v hd hg hs (h' rfl)
end
end Go.PM
end
