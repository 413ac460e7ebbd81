/- What the law TypedPacks rests on, part 3: a machine for the model's programs, proved sound. -/
import Derived.Test.YthcijldahbalcaaDoorKTypedPacks1
import Derived.KernelRfl
set_option linter.unusedVariables false
set_option linter.unusedSimpArgs false
section
namespace Go.PM
section
variable {C : Cfg} {rec : Req → Option Res} {f : FuncId}
theorem fz_ref {rd : Nat → Option Blk} {id len : Nat} {cp b es} (hb : rowAt rd id = some b) (hl : b.leaf = true) (he : b.elems = es) (hn : es.length = len) : DV.freeze rd (.ref id 0 len cp) = some (.list es false) := by
  subst he hn
  unfold DV.freeze
  rw [hb]
  dsimp only
  rw [hl, if_pos (by simp), List.drop_zero, List.take_length]
theorem fz_agg {rd : Nat → Option Blk} {l l' : List DV} (h : DV.freezes rd l = some l') : DV.freeze rd (.agg l) = some (.agg l') := by
  unfold DV.freeze
  rw [h]
  rfl
theorem fz_tup {rd : Nat → Option Blk} {l l' : List DV} (h : DV.freezes rd l = some l') : DV.freeze rd (.tuple l) = some (.tuple l') := by
  unfold DV.freeze
  rw [h]
  rfl
theorem fz_cons {rd : Nat → Option Blk} {v v' : DV} {l l' : List DV} (h : DV.freeze rd v = some v') (h2 : DV.freezes rd l = some l') : DV.freezes rd (v :: l) = some (v' :: l') := by
  unfold DV.freezes
  rw [h, h2]
theorem asks {g args r} (hx : C.ext g = none) (h : rec (.call g args []) = r) : C.askD rec g args = r := by
  unfold Cfg.askD
  rw [hx]
  exact h
theorem s_ask {slot ev rd o c g args args' v m hs' r} (ho : o.op = .call c) (hnb : isB c.callee = false) (ht : C.target ev c = some (g, args)) (hm : C.mode g = some m) (hs : m ≠ .shared) (hf : DV.freezes rd args = some args') (ha : C.askD rec g args' = some (.done v hs'))
    (hr : (if v.scalar then some (v, []) else if hs'.length ≤ wide then some (v.ren (backTo [] slot hs'.length), lentEff rd (DV.idss args) ++ backEff (backTo [] slot hs'.length) 0 hs') else none) = some r) (hw : v.scalar = true → hs'.length ≤ wide) : C.stepD rec slot ev rd o = some r := by
  have hb : C.stepD rec slot ev rd o = C.callD rec slot rd g args := by
    unfold Cfg.stepD
    rw [ho]
    dsimp only
    split
    · rename_i b hcb
      rw [hcb] at hnb
      cases hnb
    · rw [ht]
  rw [hb]
  unfold Cfg.callD
  rw [hm]
  have key : ∀ args'', DV.freezes rd args = some args'' → (match C.askD rec g args'' with
      | some (.done v hs) => if hs.length ≤ wide then let ρ := backTo [] slot hs.length; if v.scalar then some (v, []) else some (v.ren ρ, lentEff rd (DV.idss args) ++ backEff ρ 0 hs) else none
      | _ => none) = some r := by
    intro args'' h
    rw [hf] at h
    cases h
    rw [ha]
    dsimp only
    by_cases h : v.scalar = true
    · rw [if_pos h] at hr
      rw [if_pos (hw h), if_pos h]
      exact hr
    · rw [if_neg h] at hr
      by_cases h2 : hs'.length ≤ wide
      · rw [if_pos h2] at hr
        rw [if_pos h2, if_neg h]
        exact hr
      · rw [if_neg h2] at hr
        cases hr
  cases m with
  | shared => exact absurd rfl hs
  | pure =>
    dsimp only
    rw [hf]
    exact key args' hf
  | adopt =>
    dsimp only
    rw [hf]
    exact key args' hf
theorem kV {ops i o os E H T B d v} {Q : St → Prop} (h : WL C rec ops (i + 1) os ⟨Env.set E d v, H, T, B⟩ Q) (hd : o.dst = d := by exact rfl) (hg : guardD ops E o = some true := by exact rfl) (hs : C.stepD rec (T + i * wide) (evalOp C E) H o = some (v, []) := by exact rfl) : WL C rec ops i (o :: os) ⟨E, H, T, B⟩ Q := wl_v hd hg hs h
theorem kE {ops i o os E H T B d v} {e : Eff} {Q : St → Prop} (h : WL C rec ops (i + 1) os ⟨Env.set E d v, Heap.put H e, T, B⟩ Q) (hd : o.dst = d := by exact rfl) (hg : guardD ops E o = some true := by exact rfl) (hs : C.stepD rec (T + i * wide) (evalOp C E) H o = some (v, e) := by exact rfl) : WL C rec ops i (o :: os) ⟨E, H, T, B⟩ Q := wl_e hd hg hs h
theorem kN {ops i o os E H T B d} {Q : St → Prop} (h : WL C rec ops (i + 1) os ⟨Env.set E d .undef, H, T, B⟩ Q) (hd : o.dst = d := by exact rfl) (hg : guardD ops E o = some false := by exact rfl) : WL C rec ops i (o :: os) ⟨E, H, T, B⟩ Q := wl_n hd hg h
theorem kB {ops i o os E H T B d} {b : Bool} {Q : St → Prop} (h : b = true → WL C rec ops (i + 1) os ⟨Env.set E d (.bool true), H, T, B⟩ Q) (h' : b = false → WL C rec ops (i + 1) os ⟨Env.set E d (.bool false), H, T, B⟩ Q) (hcm : isCmp o.op = true := by exact rfl) (hd : o.dst = d := by exact rfl) (hg : guardD ops E o = some true := by exact rfl) (hs : C.stepD rec (T + i * wide) (evalOp C E) H o = some (.bool b, []) := by exact rfl) : WL C rec ops i (o :: os) ⟨E, H, T, B⟩ Q := wl_c hcm hd hg hs h h'
theorem jV {ops i o os E H T B d v} {Q : St → Prop} (h : WK C rec ops (i + 1) os ⟨Env.set E d v, H, T, B⟩ Q) (hd : o.dst = d := by exact rfl) (hg : guardD ops (seenE ops o E) o = some true := by exact rfl) (hs : C.stepD rec (T + i * wide) (evalOp C (seenE ops o E)) (seenH ops T i H) o = some (v, []) := by exact rfl) : WK C rec ops i (o :: os) ⟨E, H, T, B⟩ Q := wk_v hd hg hs h
theorem jE {ops i o os E H T B d v} {e : Eff} {Q : St → Prop} (h : WK C rec ops (i + 1) os ⟨Env.set E d v, Heap.put H e, T, B⟩ Q) (hd : o.dst = d := by exact rfl) (hg : guardD ops (seenE ops o E) o = some true := by exact rfl) (hs : C.stepD rec (T + i * wide) (evalOp C (seenE ops o E)) (seenH ops T i H) o = some (v, e) := by exact rfl) (hw : (e.all fun p => mayWrite ops T i p.1) = true := by first | exact rfl | kernel_rfl) : WK C rec ops i (o :: os) ⟨E, H, T, B⟩ Q := wk_e hd hg hs hw h
theorem jN {ops i o os E H T B d} {Q : St → Prop} (h : WK C rec ops (i + 1) os ⟨Env.set E d .undef, H, T, B⟩ Q) (hd : o.dst = d := by exact rfl) (hg : guardD ops (seenE ops o E) o = some false := by exact rfl) : WK C rec ops i (o :: os) ⟨E, H, T, B⟩ Q := wk_n hd hg h
theorem jB {ops i o os E H T B d} {b : Bool} {Q : St → Prop} (h : b = true → WK C rec ops (i + 1) os ⟨Env.set E d (.bool true), H, T, B⟩ Q) (h' : b = false → WK C rec ops (i + 1) os ⟨Env.set E d (.bool false), H, T, B⟩ Q) (hcm : isCmp o.op = true := by exact rfl) (hd : o.dst = d := by exact rfl) (hg : guardD ops (seenE ops o E) o = some true := by exact rfl) (hs : C.stepD rec (T + i * wide) (evalOp C (seenE ops o E)) (seenH ops T i H) o = some (.bool b, []) := by exact rfl) : WK C rec ops i (o :: os) ⟨E, H, T, B⟩ Q := wk_c hcm hd hg hs h h'
theorem kC {ops i o os E H T B d c g args args' v m hs' r} {Q : St → Prop} (h : WL C rec ops (i + 1) os ⟨Env.set E d r.1, Heap.put H r.2, T, B⟩ Q) (ho : o.op = .call c := by exact rfl) (hnb : isB c.callee = false := by exact rfl) (hd : o.dst = d := by exact rfl) (hg : guardD ops E o = some true := by exact rfl) (ht : C.target (evalOp C E) c = some (g, args) := by exact rfl) (hm : C.mode g = some m := by first | exact rfl | assumption) (hs : m ≠ .shared := by decide) (hf : DV.freezes H args = some args' := by first | exact rfl | (repeat' (first | exact rfl | refine' fz_cons ?_ ?_ | (refine' fz_ref rfl rfl rfl ?_ <;> simp) | refine' fz_agg ?_))) (ha : C.askD rec g args' = some (.done v hs') := by first | assumption | exact asks rfl (by assumption) | exact asks (by assumption) (by assumption))
    (hr : (if v.scalar then some (v, []) else if hs'.length ≤ wide then some (v.ren (backTo [] (T + i * wide) hs'.length), lentEff H (DV.idss args) ++ backEff (backTo [] (T + i * wide) hs'.length) 0 hs') else none) = some r := by exact rfl) (hw : v.scalar = true → hs'.length ≤ wide := by exact fun _ => Nat.le_of_ble_eq_true rfl) : WL C rec ops i (o :: os) ⟨E, H, T, B⟩ Q := wl_e hd hg (s_ask ho hnb ht hm hs hf ha hr hw) h
theorem jC {ops i o os E H T B d c g args args' v m hs' r} {Q : St → Prop} (h : WK C rec ops (i + 1) os ⟨Env.set E d r.1, Heap.put H r.2, T, B⟩ Q) (ho : o.op = .call c := by exact rfl) (hnb : isB c.callee = false := by exact rfl) (hd : o.dst = d := by exact rfl) (hg : guardD ops (seenE ops o E) o = some true := by exact rfl) (ht : C.target (evalOp C (seenE ops o E)) c = some (g, args) := by exact rfl) (hm : C.mode g = some m := by first | exact rfl | assumption) (hs : m ≠ .shared := by decide) (hf : DV.freezes (seenH ops T i H) args = some args' := by first | exact rfl | (repeat' (first | exact rfl | refine' fz_cons ?_ ?_ | (refine' fz_ref rfl rfl rfl ?_ <;> simp) | refine' fz_agg ?_))) (ha : C.askD rec g args' = some (.done v hs') := by first | assumption | exact asks rfl (by assumption) | exact asks (by assumption) (by assumption))
    (hr : (if v.scalar then some (v, []) else if hs'.length ≤ wide then some (v.ren (backTo [] (T + i * wide) hs'.length), lentEff (seenH ops T i H) (DV.idss args) ++ backEff (backTo [] (T + i * wide) hs'.length) 0 hs') else none) = some r := by exact rfl) (hw : v.scalar = true → hs'.length ≤ wide := by exact fun _ => Nat.le_of_ble_eq_true rfl) (hww : (r.2.all fun p => mayWrite ops T i p.1) = true := by first | exact rfl | kernel_rfl) : WK C rec ops i (o :: os) ⟨E, H, T, B⟩ Q := wk_e hd hg (s_ask ho hnb ht hm hs hf ha hr hw) hww h
theorem kI {ops i o os E H T B d t x j elem es tt k n e} {Q : St → Prop} (h : WL C rec ops (i + 1) os ⟨Env.set E d (.iptr e 0), H, T, B⟩ Q) (ho : o.op = .indexAddr t x j := by exact rfl) (hd : o.dst = d := by exact rfl) (hg : guardD ops E o = some true := by exact rfl) (hu : C.P.underlying t = some (.slice elem) := by exact rfl) (hx : evalOp C E x = some (.list es tt) := by exact rfl) (hi : evalOp C E j = some (.int k n) := by exact rfl) (h0 : 0 ≤ n := by assumption) (he : es[n.toNat]? = some e := by assumption) (hz : C.size elem = some e.cells.length := by exact rfl) : WL C rec ops i (o :: os) ⟨E, H, T, B⟩ Q := wl_v hd hg (s_index ho hu hx hi h0 he hz) h
theorem jI {ops i o os E H T B d t x j elem es tt k n e} {Q : St → Prop} (h : WK C rec ops (i + 1) os ⟨Env.set E d (.iptr e 0), H, T, B⟩ Q) (ho : o.op = .indexAddr t x j := by exact rfl) (hd : o.dst = d := by exact rfl) (hg : guardD ops (seenE ops o E) o = some true := by exact rfl) (hu : C.P.underlying t = some (.slice elem) := by exact rfl) (hx : evalOp C (seenE ops o E) x = some (.list es tt) := by exact rfl) (hi : evalOp C (seenE ops o E) j = some (.int k n) := by exact rfl) (h0 : 0 ≤ n := by assumption) (he : es[n.toNat]? = some e := by assumption) (hz : C.size elem = some e.cells.length := by exact rfl) : WK C rec ops i (o :: os) ⟨E, H, T, B⟩ Q := wk_v hd hg (s_index ho hu hx hi h0 he hz) h
theorem kS {ops i o os E H T B d t x j s k n b} {Q : St → Prop} (h : WL C rec ops (i + 1) os ⟨Env.set E d (.int .u8 (b.toNat : Nat)), H, T, B⟩ Q) (ho : o.op = .index t x j := by exact rfl) (hd : o.dst = d := by exact rfl) (hg : guardD ops E o = some true := by exact rfl) (hu : C.P.underlying t = some .string := by exact rfl) (hx : evalOp C E x = some (.str s) := by exact rfl) (hi : evalOp C E j = some (.int k n) := by exact rfl) (h0 : 0 ≤ n := by assumption) (he : s[n.toNat]? = some b := by assumption) : WL C rec ops i (o :: os) ⟨E, H, T, B⟩ Q := wl_v hd hg (s_strix ho hu hx hi h0 he) h
theorem jS {ops i o os E H T B d t x j s k n b} {Q : St → Prop} (h : WK C rec ops (i + 1) os ⟨Env.set E d (.int .u8 (b.toNat : Nat)), H, T, B⟩ Q) (ho : o.op = .index t x j := by exact rfl) (hd : o.dst = d := by exact rfl) (hg : guardD ops (seenE ops o E) o = some true := by exact rfl) (hu : C.P.underlying t = some .string := by exact rfl) (hx : evalOp C (seenE ops o E) x = some (.str s) := by exact rfl) (hi : evalOp C (seenE ops o E) j = some (.int k n) := by exact rfl) (h0 : 0 ≤ n := by assumption) (he : s[n.toNat]? = some b := by assumption) : WK C rec ops i (o :: os) ⟨E, H, T, B⟩ Q := wk_v hd hg (s_strix ho hu hx hi h0 he) h
theorem kR {p l n ops os E H T B} {Q : Ex → St → Prop} (h : WL C rec ops 0 os ⟨E, H, T, B⟩ (RQ Q (T + os.length * wide))) (ho : ops.toList = os := by exact rfl) : WC C rec f p l (.region n ops false) ⟨E, H, T, B⟩ Q := wc_region ho h
theorem jR {p l n ops os E H T B} {Q : Ex → St → Prop} (h : WK C rec ops 0 os ⟨E, H, T, B⟩ (RQ Q (T + os.length * wide))) (ho : ops.toList = os := by exact rfl) : WC C rec f p l (.region n ops true) ⟨E, H, T, B⟩ Q := wc_draw ho h
theorem kX {Q : Ex → St → Prop} {id j s} (h : Q (.exit j) s) (hj : Nat.beq j id = false := by exact rfl) : onx id Q (.exit j) s := wx_on hj h
theorem kF {p l c a b s} {t : Bool} {Q : Ex → St → Prop} (ha : t = true → WC C rec f (false :: p) l a s Q) (hb : t = false → WC C rec f (true :: p) l b s Q) (h : evalOp C s.env c = some (.bool t) := by exact rfl) : WC C rec f p l (.cond c a b) s Q := wc_cond h ha hb
end
end Go.PM
end
section
namespace Go.PM
section
variable {C : Cfg} {rec : Req → Option Res}
theorem s_bin {slot ev rd o op t x y tt a b v} (ho : o.op = .binOp op t x y tt) (hx : ev x = some a) (hy : ev y = some b) (hv : binD op a b = some v) : C.stepD rec slot ev rd o = some (v, []) := by
  unfold Cfg.stepD
  rw [ho]
  dsimp only
  unfold Cfg.opD
  rw [ho]
  dsimp only
  rw [hx, hy]
  dsimp only
  unfold Cfg.binT
  rw [hv]
  rfl
theorem s_un {slot ev rd o op t x a v} (ho : o.op = .unOp op t x) (hx : ev x = some a) (hv : unD op a = some v) : C.stepD rec slot ev rd o = some (v, []) := by
  unfold Cfg.stepD
  rw [ho]
  dsimp only
  unfold Cfg.opD
  rw [ho]
  dsimp only
  rw [hx]
  dsimp only
  rw [hv]
  rfl
theorem kZ {ops i o os E H T B d t x y tt a b} {Q : St → Prop} (op : BinOp) (v : DV) (h : WL C rec ops (i + 1) os ⟨Env.set E d v, H, T, B⟩ Q) (ho : o.op = .binOp op t x y tt := by exact rfl) (hd : o.dst = d := by exact rfl) (hg : guardD ops E o = some true := by exact rfl) (hx : evalOp C E x = some a := by exact rfl) (hy : evalOp C E y = some b := by exact rfl) (hv : binD op a b = some v := by first | assumption | kernel_rfl) : WL C rec ops i (o :: os) ⟨E, H, T, B⟩ Q := wl_v hd hg (s_bin ho hx hy hv) h
theorem jZ {ops i o os E H T B d t x y tt a b} {Q : St → Prop} (op : BinOp) (v : DV) (h : WK C rec ops (i + 1) os ⟨Env.set E d v, H, T, B⟩ Q) (ho : o.op = .binOp op t x y tt := by exact rfl) (hd : o.dst = d := by exact rfl) (hg : guardD ops (seenE ops o E) o = some true := by exact rfl) (hx : evalOp C (seenE ops o E) x = some a := by exact rfl) (hy : evalOp C (seenE ops o E) y = some b := by exact rfl) (hv : binD op a b = some v := by first | assumption | kernel_rfl) : WK C rec ops i (o :: os) ⟨E, H, T, B⟩ Q := wk_v hd hg (s_bin ho hx hy hv) h
theorem kY {ops i o os E H T B d t x a} {Q : St → Prop} (op : UnOp) (v : DV) (h : WL C rec ops (i + 1) os ⟨Env.set E d v, H, T, B⟩ Q) (ho : o.op = .unOp op t x := by exact rfl) (hd : o.dst = d := by exact rfl) (hg : guardD ops E o = some true := by exact rfl) (hx : evalOp C E x = some a := by exact rfl) (hv : unD op a = some v := by first | assumption | kernel_rfl) : WL C rec ops i (o :: os) ⟨E, H, T, B⟩ Q := wl_v hd hg (s_un ho hx hv) h
theorem jY {ops i o os E H T B d t x a} {Q : St → Prop} (op : UnOp) (v : DV) (h : WK C rec ops (i + 1) os ⟨Env.set E d v, H, T, B⟩ Q) (ho : o.op = .unOp op t x := by exact rfl) (hd : o.dst = d := by exact rfl) (hg : guardD ops (seenE ops o E) o = some true := by exact rfl) (hx : evalOp C (seenE ops o E) x = some a := by exact rfl) (hv : unD op a = some v := by first | assumption | kernel_rfl) : WK C rec ops i (o :: os) ⟨E, H, T, B⟩ Q := wk_v hd hg (s_un ho hx hv) h
theorem b_shr {k : IntKind} {a b v : Int} {k' : IntKind} (h : 0 ≤ b) (hv : a.fdiv (2 ^ (min b.toNat k.bits)) = v) : binD .shr (.int k a) (.int k' b) = some (.int k v) := by
  unfold binD
  dsimp only
  rw [if_neg (by omega), hv]
theorem b_quo {k : IntKind} {a b v : Int} (h : b ≠ 0) (hv : k.wrap (a.tdiv b) = v) : binD .quo (.int k a) (.int k b) = some (.int k v) := by
  unfold binD
  dsimp only
  rw [if_neg (fun h => h rfl), if_neg h, hv]
theorem b_rem {k : IntKind} {a b v : Int} (h : b ≠ 0) (hv : a.tmod b = v) : binD .rem (.int k a) (.int k b) = some (.int k v) := by
  unfold binD
  dsimp only
  rw [if_neg (fun h => h rfl), if_neg h, hv]
theorem s_place {slot ev rd o t x i elem id off len cap b k n} (ho : o.op = .indexAddr t x i) (hu : C.P.underlying t = some (.slice elem)) (hx : ev x = some (.ref id off len cap)) (hi : ev i = some (.int k n)) (h0 : (0 : Int) ≤ n) (h1 : n < ((len : Nat) : Int)) (hb : rowAt rd id = some b) (hz : C.size elem = some b.sz) : C.stepD rec slot ev rd o = some (.ptr id (off + n.toNat) 0, []) := by
  unfold Cfg.stepD
  rw [ho]
  dsimp only
  unfold Cfg.opD
  rw [ho]
  dsimp only
  rw [hx, hi]
  dsimp only
  unfold Cfg.indexAddrD
  rw [hu]
  dsimp only
  rw [if_pos (by simp; omega), hb]
  dsimp only
  rw [if_pos hz]
  rfl
theorem s_load {slot ev rd o t x id ix b e v} (ho : o.op = .load t x) (hx : ev x = some (.ptr id ix 0)) (hb : rowAt rd id = some b) (he : b.elems[ix]? = some e) (hv : C.part t e.cells 0 = some v) : C.stepD rec slot ev rd o = some (v, []) := by
  unfold Cfg.stepD
  rw [ho]
  dsimp only
  unfold Cfg.opD
  rw [ho]
  dsimp only
  rw [hx]
  dsimp only
  unfold Cfg.loadD
  dsimp only
  rw [hb]
  dsimp only
  rw [he]
  dsimp only
  rw [hv]
  rfl
def isAggD : DV → Bool
  | .agg _ => true
  | _ => false
theorem s_store {slot ev rd o t a y id ix b e x} (ho : o.op = .store t a y) (ha : ev a = some (.ptr id ix 0)) (hy : ev y = some x) (hb : rowAt rd id = some b) (he : b.elems[ix]? = some e) (hz : C.size t = some 1) (hs : x.storable = true) (hl : x.cells.length = 1) (hel : e.cells.length = 1) (hf : b.fz = false) (hi : (!b.leaf || x.imm) = true) (hna : isAggD e = false) (hnx : isAggD x = false) : C.stepD rec slot ev rd o = some (.undef, [(id, some (.row { b with elems := b.elems.set ix x }))]) := by
  unfold Cfg.stepD
  rw [ho]
  dsimp only
  unfold Cfg.opD
  rw [ho]
  dsimp only
  rw [ha, hy]
  dsimp only
  unfold Cfg.storeD
  dsimp only
  rw [hb]
  dsimp only
  rw [he, hz]
  dsimp only
  rw [hs, hl, hel, hf, hi]
  cases e <;> first | (cases hna; done) | (cases x <;> first | (cases hnx; done) | rfl)
theorem kP {ops i o os E H T B d t x j elem id off len cap b k n} {Q : St → Prop} (h : WL C rec ops (i + 1) os ⟨Env.set E d (.ptr id (off + Int.toNat n) 0), H, T, B⟩ Q) (ho : o.op = .indexAddr t x j := by exact rfl) (hd : o.dst = d := by exact rfl) (hg : guardD ops E o = some true := by exact rfl) (hu : C.P.underlying t = some (.slice elem) := by exact rfl) (hx : evalOp C E x = some (.ref id off len cap) := by exact rfl) (hi : evalOp C E j = some (.int k n) := by exact rfl) (h0 : (0 : Int) ≤ n := by assumption) (h1 : n < ((len : Nat) : Int) := by assumption) (hb : rowAt H id = some b := by exact rfl) (hz : C.size elem = some b.sz := by exact rfl) : WL C rec ops i (o :: os) ⟨E, H, T, B⟩ Q := wl_v hd hg (s_place ho hu hx hi h0 h1 hb hz) h
theorem jP {ops i o os E H T B d t x j elem id off len cap b k n} {Q : St → Prop} (h : WK C rec ops (i + 1) os ⟨Env.set E d (.ptr id (off + Int.toNat n) 0), H, T, B⟩ Q) (ho : o.op = .indexAddr t x j := by exact rfl) (hd : o.dst = d := by exact rfl) (hg : guardD ops (seenE ops o E) o = some true := by exact rfl) (hu : C.P.underlying t = some (.slice elem) := by exact rfl) (hx : evalOp C (seenE ops o E) x = some (.ref id off len cap) := by exact rfl) (hi : evalOp C (seenE ops o E) j = some (.int k n) := by exact rfl) (h0 : (0 : Int) ≤ n := by assumption) (h1 : n < ((len : Nat) : Int) := by assumption) (hb : rowAt (seenH ops T i H) id = some b := by exact rfl) (hz : C.size elem = some b.sz := by exact rfl) : WK C rec ops i (o :: os) ⟨E, H, T, B⟩ Q := wk_v hd hg (s_place ho hu hx hi h0 h1 hb hz) h
theorem kD {ops i o os E H T B d t x id ix b e v} {Q : St → Prop} (h : WL C rec ops (i + 1) os ⟨Env.set E d v, H, T, B⟩ Q) (ho : o.op = .load t x := by exact rfl) (hd : o.dst = d := by exact rfl) (hg : guardD ops E o = some true := by exact rfl) (hx : evalOp C E x = some (.ptr id ix 0) := by exact rfl) (hb : rowAt H id = some b := by exact rfl) (he : b.elems[ix]? = some e := by assumption) (hv : C.part t e.cells 0 = some v := by exact rfl) : WL C rec ops i (o :: os) ⟨E, H, T, B⟩ Q := wl_v hd hg (s_load ho hx hb he hv) h
theorem jD {ops i o os E H T B d t x id ix b e v} {Q : St → Prop} (h : WK C rec ops (i + 1) os ⟨Env.set E d v, H, T, B⟩ Q) (ho : o.op = .load t x := by exact rfl) (hd : o.dst = d := by exact rfl) (hg : guardD ops (seenE ops o E) o = some true := by exact rfl) (hx : evalOp C (seenE ops o E) x = some (.ptr id ix 0) := by exact rfl) (hb : rowAt (seenH ops T i H) id = some b := by exact rfl) (he : b.elems[ix]? = some e := by assumption) (hv : C.part t e.cells 0 = some v := by exact rfl) : WK C rec ops i (o :: os) ⟨E, H, T, B⟩ Q := wk_v hd hg (s_load ho hx hb he hv) h
theorem kT {ops i o os E H T B d t a y id ix b e x} {Q : St → Prop} (h : WL C rec ops (i + 1) os ⟨Env.set E d .undef, Heap.put H [(id, some (.row { b with elems := b.elems.set ix x }))], T, B⟩ Q) (ho : o.op = .store t a y := by exact rfl) (hd : o.dst = d := by exact rfl) (hg : guardD ops E o = some true := by exact rfl) (ha : evalOp C E a = some (.ptr id ix 0) := by exact rfl) (hy : evalOp C E y = some x := by exact rfl) (hb : rowAt H id = some b := by exact rfl) (he : b.elems[ix]? = some e := by assumption) (hz : C.size t = some 1 := by exact rfl) (hs : x.storable = true := by exact rfl) (hl : x.cells.length = 1 := by exact rfl) (hel : e.cells.length = 1 := by exact rfl) (hf : b.fz = false := by exact rfl) (hi : (!b.leaf || x.imm) = true := by exact rfl) (hna : isAggD e = false := by exact rfl) (hnx : isAggD x = false := by exact rfl) : WL C rec ops i (o :: os) ⟨E, H, T, B⟩ Q := wl_e hd hg (s_store ho ha hy hb he hz hs hl hel hf hi hna hnx) h
theorem jT {ops i o os E H T B d t a y id ix b e x} {Q : St → Prop} (h : WK C rec ops (i + 1) os ⟨Env.set E d .undef, Heap.put H [(id, some (.row { b with elems := b.elems.set ix x }))], T, B⟩ Q) (ho : o.op = .store t a y := by exact rfl) (hd : o.dst = d := by exact rfl) (hg : guardD ops (seenE ops o E) o = some true := by exact rfl) (ha : evalOp C (seenE ops o E) a = some (.ptr id ix 0) := by exact rfl) (hy : evalOp C (seenE ops o E) y = some x := by exact rfl) (hb : rowAt (seenH ops T i H) id = some b := by exact rfl) (he : b.elems[ix]? = some e := by assumption) (hz : C.size t = some 1 := by exact rfl) (hs : x.storable = true := by exact rfl) (hl : x.cells.length = 1 := by exact rfl) (hel : e.cells.length = 1 := by exact rfl) (hf : b.fz = false := by exact rfl) (hi : (!b.leaf || x.imm) = true := by exact rfl) (hna : isAggD e = false := by exact rfl) (hnx : isAggD x = false := by exact rfl) (hw : mayWrite ops T i id = true := by first | exact rfl | kernel_rfl) : WK C rec ops i (o :: os) ⟨E, H, T, B⟩ Q := wk_e hd hg (s_store ho ha hy hb he hz hs hl hel hf hi hna hnx) (by simp [hw]) h
theorem kQ {ops i o os E H T B d t x lo hi s k k'} {a b : Int} {Q : St → Prop} (h : WL C rec ops (i + 1) os ⟨Env.set E d (.str ((s.drop a.toNat).take (b.toNat - a.toNat))), H, T, B⟩ Q) (ho : o.op = .slice t x (some lo) (some hi) none := by exact rfl) (hd : o.dst = d := by exact rfl) (hg : guardD ops E o = some true := by exact rfl) (hu : C.P.underlying t = some .string := by exact rfl) (hx : evalOp C E x = some (.str s) := by exact rfl) (hl : evalOp C E lo = some (.int k a) := by exact rfl) (hh : evalOp C E hi = some (.int k' b) := by exact rfl) (h0 : 0 ≤ a := by assumption) (h1 : a ≤ b := by assumption) (h2 : b ≤ (s.length : Nat) := by assumption) : WL C rec ops i (o :: os) ⟨E, H, T, B⟩ Q := wl_v hd hg (s_cut ho hu hx hl hh h0 h1 h2) h
theorem jQ {ops i o os E H T B d t x lo hi s k k'} {a b : Int} {Q : St → Prop} (h : WK C rec ops (i + 1) os ⟨Env.set E d (.str ((s.drop a.toNat).take (b.toNat - a.toNat))), H, T, B⟩ Q) (ho : o.op = .slice t x (some lo) (some hi) none := by exact rfl) (hd : o.dst = d := by exact rfl) (hg : guardD ops (seenE ops o E) o = some true := by exact rfl) (hu : C.P.underlying t = some .string := by exact rfl) (hx : evalOp C (seenE ops o E) x = some (.str s) := by exact rfl) (hl : evalOp C (seenE ops o E) lo = some (.int k a) := by exact rfl) (hh : evalOp C (seenE ops o E) hi = some (.int k' b) := by exact rfl) (h0 : 0 ≤ a := by assumption) (h1 : a ≤ b := by assumption) (h2 : b ≤ (s.length : Nat) := by assumption) : WK C rec ops i (o :: os) ⟨E, H, T, B⟩ Q := wk_v hd hg (s_cut ho hu hx hl hh h0 h1 h2) h
theorem roomy_le {n b : Nat} (h : n < 10000000) (hb : Nat.ble b 1000000 = true) : roomy n b = true := by
  have hb := Nat.le_of_ble_eq_true hb
  have : n * b ≤ 10000000 * 1000000 := Nat.mul_le_mul (by omega) hb
  simp only [roomy, Bool.and_eq_true, decide_eq_true_eq]
  omega
theorem kAn {ops i o os E H T B d} {c : Call} {elem : TypeId} {size bytes : Nat} {inf} {x : DV} {ys : List DV} {n m : Nat} {es : List DV} {Q : St → Prop} (h : WL C rec ops (i + 1) os ⟨Env.set E d (.ref (T + i * wide) 0 m none), Heap.put H [(T + i * wide, some (Blk.row { elems := es, elem := elem, sz := size, ext := none, leaf := true, fz := false }))], T, B⟩ Q) (ho : o.op = .call c := by exact rfl) (hc : c.callee = .builtin .append := by exact rfl) (hd : o.dst = d := by exact rfl) (hg : guardD ops E o = some true := by exact rfl) (h0 : (c.args[0]?).bind (evalOp C E) = some (.list [] true) := by exact rfl) (h1 : (c.args[1]?).bind (evalOp C E) = some x := by exact rfl) (hu : (c.argTypes[0]?).bind C.P.underlying = some (.slice elem) := by exact rfl) (hz : C.size elem = some size := by exact rfl) (hi : C.P.info? elem = some inf := by exact rfl) (hgd : (decide (0 < size) && c.argTypes[1]? == c.argTypes[0]? && c.args.size == 2 && c.argTypes.size == 2 && (inf.zero.map (·.cells.size)) == some size) = true := by exact rfl) (hby : inf.bytes = bytes := by exact rfl) (hy : elemsOf H x = some ys := by exact rfl) (hys : headSz size ys = true := by first | assumption | exact rfl) (hn : ys.length = n + 1 := by first | assumption | exact rfl) (hr : roomy ys.length bytes = true := by first | assumption | (refine roomy_le ?_ rfl; first | (simp only [List.length_map, List.length_cons, List.length_append, List.length_nil]; omega) | (simp [setElems, replic]; omega))) (hm : ys.length = m := by exact rfl) (hes : ys = es := by exact rfl) : WL C rec ops i (o :: os) ⟨E, H, T, B⟩ Q := by
  subst hm hes
  exact wl_e hd hg (s_app bytes ho hc h0 h1 hu hz hi hgd hby (a_nil hy hys hn hr)) h
theorem kAo {ops i o os E H T B d} {c : Call} {elem : TypeId} {size bytes : Nat} {inf} {x : DV} {ys : List DV} {n m : Nat} {es : List DV} {id len : Nat} {b : Row} {Q : St → Prop} (h : WL C rec ops (i + 1) os ⟨Env.set E d (.ref (T + i * wide) 0 m none), Heap.put H [(id, none), (T + i * wide, some (Blk.row { elems := es, elem := elem, sz := size, ext := none, leaf := true, fz := false }))], T, B⟩ Q) (ho : o.op = .call c := by exact rfl) (hc : c.callee = .builtin .append := by exact rfl) (hd : o.dst = d := by exact rfl) (hg : guardD ops E o = some true := by exact rfl) (h0 : (c.args[0]?).bind (evalOp C E) = some (.ref id 0 len none) := by exact rfl) (h1 : (c.args[1]?).bind (evalOp C E) = some x := by exact rfl) (hu : (c.argTypes[0]?).bind C.P.underlying = some (.slice elem) := by exact rfl) (hz : C.size elem = some size := by exact rfl) (hi : C.P.info? elem = some inf := by exact rfl) (hgd : (decide (0 < size) && c.argTypes[1]? == c.argTypes[0]? && c.args.size == 2 && c.argTypes.size == 2 && (inf.zero.map (·.cells.size)) == some size) = true := by exact rfl) (hby : inf.bytes = bytes := by exact rfl) (hy : elemsOf H x = some ys := by exact rfl) (hys : headSz size ys = true := by first | assumption | exact rfl) (hn : ys.length = n + 1 := by first | assumption | exact rfl) (hb : rowAt H id = some b := by exact rfl) (hl : b.leaf = true := by exact rfl) (hf : b.fz = false := by exact rfl) (he : b.elem = elem := by exact rfl) (hs : b.sz = size := by exact rfl) (hx : b.ext = none := by exact rfl) (hr : roomy (len + ys.length) bytes = true := by first | assumption | (refine roomy_le ?_ rfl; first | (simp only [List.length_map, List.length_cons, List.length_append, List.length_nil]; omega) | (simp [setElems, replic]; omega))) (hle : len ≤ b.elems.length := by first | assumption | (simp; done) | (simp; omega)) (hm : len + ys.length = m := by exact rfl) (hes : b.elems.take len ++ ys = es := by exact rfl) : WL C rec ops i (o :: os) ⟨E, H, T, B⟩ Q := wl_e hd hg (s_app bytes ho hc h0 h1 hu hz hi hgd hby (a_on hy hys hn hb hl hf he hs hx hr hle hm hes)) h
theorem jAn {ops i o os E H T B d} {c : Call} {elem : TypeId} {size bytes : Nat} {inf} {x : DV} {ys : List DV} {n m : Nat} {es : List DV} {Q : St → Prop} (h : WK C rec ops (i + 1) os ⟨Env.set E d (.ref (T + i * wide) 0 m none), Heap.put H [(T + i * wide, some (Blk.row { elems := es, elem := elem, sz := size, ext := none, leaf := true, fz := false }))], T, B⟩ Q) (ho : o.op = .call c := by exact rfl) (hc : c.callee = .builtin .append := by exact rfl) (hd : o.dst = d := by exact rfl) (hg : guardD ops (seenE ops o E) o = some true := by exact rfl) (h0 : (c.args[0]?).bind (evalOp C (seenE ops o E)) = some (.list [] true) := by exact rfl) (h1 : (c.args[1]?).bind (evalOp C (seenE ops o E)) = some x := by exact rfl) (hu : (c.argTypes[0]?).bind C.P.underlying = some (.slice elem) := by exact rfl) (hz : C.size elem = some size := by exact rfl) (hi : C.P.info? elem = some inf := by exact rfl) (hgd : (decide (0 < size) && c.argTypes[1]? == c.argTypes[0]? && c.args.size == 2 && c.argTypes.size == 2 && (inf.zero.map (·.cells.size)) == some size) = true := by exact rfl) (hby : inf.bytes = bytes := by exact rfl) (hy : elemsOf (seenH ops T i H) x = some ys := by exact rfl) (hys : headSz size ys = true := by first | assumption | exact rfl) (hn : ys.length = n + 1 := by first | assumption | exact rfl) (hr : roomy ys.length bytes = true := by first | assumption | (refine roomy_le ?_ rfl; first | (simp only [List.length_map, List.length_cons, List.length_append, List.length_nil]; omega) | (simp [setElems, replic]; omega))) (hm : ys.length = m := by exact rfl) (hes : ys = es := by exact rfl) (hw : (List.all [(T + i * wide, some (Blk.row { elems := es, elem := elem, sz := size, ext := none, leaf := true, fz := false }))] fun p => mayWrite ops T i p.1) = true := by first | exact rfl | kernel_rfl) : WK C rec ops i (o :: os) ⟨E, H, T, B⟩ Q := by
  subst hm hes
  exact wk_e hd hg (s_app bytes ho hc h0 h1 hu hz hi hgd hby (a_nil hy hys hn hr)) hw h
theorem jAo {ops i o os E H T B d} {c : Call} {elem : TypeId} {size bytes : Nat} {inf} {x : DV} {ys : List DV} {n m : Nat} {es : List DV} {id len : Nat} {b : Row} {Q : St → Prop} (h : WK C rec ops (i + 1) os ⟨Env.set E d (.ref (T + i * wide) 0 m none), Heap.put H [(id, none), (T + i * wide, some (Blk.row { elems := es, elem := elem, sz := size, ext := none, leaf := true, fz := false }))], T, B⟩ Q) (ho : o.op = .call c := by exact rfl) (hc : c.callee = .builtin .append := by exact rfl) (hd : o.dst = d := by exact rfl) (hg : guardD ops (seenE ops o E) o = some true := by exact rfl) (h0 : (c.args[0]?).bind (evalOp C (seenE ops o E)) = some (.ref id 0 len none) := by exact rfl) (h1 : (c.args[1]?).bind (evalOp C (seenE ops o E)) = some x := by exact rfl) (hu : (c.argTypes[0]?).bind C.P.underlying = some (.slice elem) := by exact rfl) (hz : C.size elem = some size := by exact rfl) (hi : C.P.info? elem = some inf := by exact rfl) (hgd : (decide (0 < size) && c.argTypes[1]? == c.argTypes[0]? && c.args.size == 2 && c.argTypes.size == 2 && (inf.zero.map (·.cells.size)) == some size) = true := by exact rfl) (hby : inf.bytes = bytes := by exact rfl) (hy : elemsOf (seenH ops T i H) x = some ys := by exact rfl) (hys : headSz size ys = true := by first | assumption | exact rfl) (hn : ys.length = n + 1 := by first | assumption | exact rfl) (hb : rowAt (seenH ops T i H) id = some b := by exact rfl) (hl : b.leaf = true := by exact rfl) (hf : b.fz = false := by exact rfl) (he : b.elem = elem := by exact rfl) (hs : b.sz = size := by exact rfl) (hx : b.ext = none := by exact rfl) (hr : roomy (len + ys.length) bytes = true := by first | assumption | (refine roomy_le ?_ rfl; first | (simp only [List.length_map, List.length_cons, List.length_append, List.length_nil]; omega) | (simp [setElems, replic]; omega))) (hle : len ≤ b.elems.length := by first | assumption | (simp; done) | (simp; omega)) (hm : len + ys.length = m := by exact rfl) (hes : b.elems.take len ++ ys = es := by exact rfl) (hw : (List.all [(id, none), (T + i * wide, some (Blk.row { elems := es, elem := elem, sz := size, ext := none, leaf := true, fz := false }))] fun p => mayWrite ops T i p.1) = true := by first | exact rfl | kernel_rfl) : WK C rec ops i (o :: os) ⟨E, H, T, B⟩ Q := wk_e hd hg (s_app bytes ho hc h0 h1 hu hz hi hgd hby (a_on hy hys hn hb hl hf he hs hx hr hle hm hes)) hw h
theorem elems_whole {rd : Nat → Option Blk} {id len : Nat} {cp b} (hb : rowAt rd id = some b) (hl : b.leaf = true) (hn : b.elems.length = len) : elemsOf rd (.ref id 0 len cp) = some b.elems := by
  subst hn
  unfold elemsOf
  dsimp only
  rw [hb]
  dsimp only
  rw [hl, if_pos (by simp), List.drop_zero, List.take_length]
theorem s_text {slot ev rd o src dst x e v es s} (ho : o.op = .convert src dst x) (hu : C.P.underlying src = some (.slice e)) (hd : C.P.underlying dst = some .string) (hx : ev x = some v) (he : C.P.underlying e = some (.int .u8)) (hv : elemsOf rd v = some es) (hs : bytesOf es = some s) : C.stepD rec slot ev rd o = some (.str s, []) := by
  unfold Cfg.stepD
  rw [ho]
  dsimp only
  unfold Cfg.opD
  rw [ho]
  dsimp only
  rw [hx]
  dsimp only
  unfold Cfg.convD
  rw [hu, hd]
  have hne : ∀ b, v ≠ .str b := by
    rintro b rfl
    cases hv
  cases v <;> first | (cases hv; done) | (dsimp only; rw [he, hv]; dsimp only; rw [hs]; rfl)
theorem kW {ops i o os E H T B d src dst x e id len cp b s} {Q : St → Prop} (h : WL C rec ops (i + 1) os ⟨Env.set E d (.str s), H, T, B⟩ Q) (ho : o.op = .convert src dst x := by exact rfl) (hd : o.dst = d := by exact rfl) (hg : guardD ops E o = some true := by exact rfl) (hu : C.P.underlying src = some (.slice e) := by exact rfl) (hdd : C.P.underlying dst = some .string := by exact rfl) (hx : evalOp C E x = some (.ref id 0 len cp) := by exact rfl) (he : C.P.underlying e = some (.int .u8) := by exact rfl) (hb : rowAt H id = some b := by exact rfl) (hl : b.leaf = true := by exact rfl) (hn : b.elems.length = len := by first | assumption | exact rfl | (simp; done)) (hs : bytesOf b.elems = some s := by assumption) : WL C rec ops i (o :: os) ⟨E, H, T, B⟩ Q := wl_v hd hg (s_text ho hu hdd hx he (elems_whole hb hl hn) hs) h
theorem jW {ops i o os E H T B d src dst x e id len cp b s} {Q : St → Prop} (h : WK C rec ops (i + 1) os ⟨Env.set E d (.str s), H, T, B⟩ Q) (ho : o.op = .convert src dst x := by exact rfl) (hd : o.dst = d := by exact rfl) (hg : guardD ops (seenE ops o E) o = some true := by exact rfl) (hu : C.P.underlying src = some (.slice e) := by exact rfl) (hdd : C.P.underlying dst = some .string := by exact rfl) (hx : evalOp C (seenE ops o E) x = some (.ref id 0 len cp) := by exact rfl) (he : C.P.underlying e = some (.int .u8) := by exact rfl) (hb : rowAt (seenH ops T i H) id = some b := by exact rfl) (hl : b.leaf = true := by exact rfl) (hn : b.elems.length = len := by first | assumption | exact rfl | (simp; done)) (hs : bytesOf b.elems = some s := by assumption) : WK C rec ops i (o :: os) ⟨E, H, T, B⟩ Q := wk_v hd hg (s_text ho hu hdd hx he (elems_whole hb hl hn) hs) h
theorem hb_pure {f : FuncId} {v v' : DV} {h : Heap} (hm : C.mode f = some .pure) (hf : v.freeze h = some v') : C.handBack f 0 v h = some (.done v' []) := by
  unfold Cfg.handBack
  rw [hm]
  dsimp only
  rw [if_pos rfl, hf]
  rfl
theorem s_sliceS {slot ev rd o t x lo hi s v} {a b : Option Int} (ho : o.op = .slice t x lo hi none) (hu : C.P.underlying t = some .string) (hx : ev x = some (.str s)) (hl : optInt ev lo = some a) (hh : optInt ev hi = some b) (hv : sliceS (.str s) a b none = some v) : C.stepD rec slot ev rd o = some (v, []) := by
  unfold Cfg.stepD
  rw [ho]
  dsimp only
  unfold Cfg.opD
  rw [ho]
  dsimp only
  have hn : optInt ev none = some none := rfl
  rw [hx, hl, hh, hn, hu]
  dsimp only
  rw [hv]
  rfl
theorem s_sliceD {slot ev rd o t x lo hi mx xs e n v} {a b c : Option Int} (ho : o.op = .slice t x lo hi mx) (hu : C.P.underlying t = some (.slice e)) (hx : ev x = some xs) (hl : optInt ev lo = some a) (hh : optInt ev hi = some b) (hm : optInt ev mx = some c) (hz : C.size e = some n) (h0 : 0 < n) (hv : sliceD rd n xs a b c = some v) : C.stepD rec slot ev rd o = some (v, []) := by
  unfold Cfg.stepD
  rw [ho]
  dsimp only
  unfold Cfg.opD
  rw [ho]
  dsimp only
  rw [hx, hl, hh, hm, hu]
  dsimp only
  rw [hz]
  dsimp only
  rw [if_pos h0, hv]
  rfl
theorem s_next {slot ev rd o x id} {s : List UInt8} {pos c w : Nat} (ho : o.op = .next x true) (hx : ev x = some (.ptr id 0 0)) (hb : rd id = some (.siter s pos)) (hd : decodeL s = some (c, w)) : C.stepD rec slot ev rd o = some (.tuple [.bool true, .int .i64 pos, .int .i32 c], [(id, some (.siter (s.drop w) (pos + w)))]) := by
  unfold Cfg.stepD
  rw [ho]
  dsimp only
  unfold Cfg.opD
  rw [ho]
  dsimp only
  simp only [hx, hb, hd]
theorem kG {ops i o os E H T B d t x lo hi s v} {a b : Option Int} {Q : St → Prop} (h : WL C rec ops (i + 1) os ⟨Env.set E d v, H, T, B⟩ Q) (ho : o.op = .slice t x lo hi none := by exact rfl) (hd : o.dst = d := by exact rfl) (hg : guardD ops E o = some true := by exact rfl) (hu : C.P.underlying t = some .string := by exact rfl) (hx : evalOp C E x = some (.str s) := by exact rfl) (hl : optInt (evalOp C E) lo = some a := by exact rfl) (hh : optInt (evalOp C E) hi = some b := by exact rfl) (hv : sliceS (.str s) a b none = some v := by assumption) : WL C rec ops i (o :: os) ⟨E, H, T, B⟩ Q := wl_v hd hg (s_sliceS ho hu hx hl hh hv) h
theorem jG {ops i o os E H T B d t x lo hi s v} {a b : Option Int} {Q : St → Prop} (h : WK C rec ops (i + 1) os ⟨Env.set E d v, H, T, B⟩ Q) (ho : o.op = .slice t x lo hi none := by exact rfl) (hd : o.dst = d := by exact rfl) (hg : guardD ops (seenE ops o E) o = some true := by exact rfl) (hu : C.P.underlying t = some .string := by exact rfl) (hx : evalOp C (seenE ops o E) x = some (.str s) := by exact rfl) (hl : optInt (evalOp C (seenE ops o E)) lo = some a := by exact rfl) (hh : optInt (evalOp C (seenE ops o E)) hi = some b := by exact rfl) (hv : sliceS (.str s) a b none = some v := by assumption) : WK C rec ops i (o :: os) ⟨E, H, T, B⟩ Q := wk_v hd hg (s_sliceS ho hu hx hl hh hv) h
theorem kH {ops i o os E H T B d x id} {s : List UInt8} {pos c w : Nat} {Q : St → Prop} (h : WL C rec ops (i + 1) os ⟨Env.set E d (.tuple [.bool true, .int .i64 (pos : Nat), .int .i32 (c : Nat)]), Heap.put H [(id, some (.siter (s.drop w) (pos + w)))], T, B⟩ Q) (ho : o.op = .next x true := by exact rfl) (hd : o.dst = d := by exact rfl) (hg : guardD ops E o = some true := by exact rfl) (hx : evalOp C E x = some (.ptr id 0 0) := by exact rfl) (hb : H id = some (.siter s pos) := by exact rfl) (hv : decodeL s = some (c, w) := by assumption) : WL C rec ops i (o :: os) ⟨E, H, T, B⟩ Q := wl_e hd hg (s_next ho hx hb hv) h
theorem kL {ops i o os E H T B d t x lo hi mx xs e n v} {a b c : Option Int} {Q : St → Prop} (h : WL C rec ops (i + 1) os ⟨Env.set E d v, H, T, B⟩ Q) (ho : o.op = .slice t x lo hi mx := by exact rfl) (hd : o.dst = d := by exact rfl) (hg : guardD ops E o = some true := by exact rfl) (hu : C.P.underlying t = some (.slice e) := by exact rfl) (hx : evalOp C E x = some xs := by exact rfl) (hl : optInt (evalOp C E) lo = some a := by exact rfl) (hh : optInt (evalOp C E) hi = some b := by exact rfl) (hm : optInt (evalOp C E) mx = some c := by exact rfl) (hz : C.size e = some n := by exact rfl) (h0 : 0 < n := by exact Nat.le_of_ble_eq_true rfl) (hv : sliceD H n xs a b c = some v := by assumption) : WL C rec ops i (o :: os) ⟨E, H, T, B⟩ Q := wl_v hd hg (s_sliceD ho hu hx hl hh hm hz h0 hv) h
theorem jL {ops i o os E H T B d t x lo hi mx xs e n v} {a b c : Option Int} {Q : St → Prop} (h : WK C rec ops (i + 1) os ⟨Env.set E d v, H, T, B⟩ Q) (ho : o.op = .slice t x lo hi mx := by exact rfl) (hd : o.dst = d := by exact rfl) (hg : guardD ops (seenE ops o E) o = some true := by exact rfl) (hu : C.P.underlying t = some (.slice e) := by exact rfl) (hx : evalOp C (seenE ops o E) x = some xs := by exact rfl) (hl : optInt (evalOp C (seenE ops o E)) lo = some a := by exact rfl) (hh : optInt (evalOp C (seenE ops o E)) hi = some b := by exact rfl) (hm : optInt (evalOp C (seenE ops o E)) mx = some c := by exact rfl) (hz : C.size e = some n := by exact rfl) (h0 : 0 < n := by exact Nat.le_of_ble_eq_true rfl) (hv : sliceD (seenH ops T i H) n xs a b c = some v := by assumption) : WK C rec ops i (o :: os) ⟨E, H, T, B⟩ Q := wk_v hd hg (s_sliceD ho hu hx hl hh hm hz h0 hv) h
theorem s_max {slot ev rd o c x r v} (ho : o.op = .call c) (hc : c.callee = .builtin .max) (ha : mapO ev c.args.toList = some (x :: r)) (hv : foldD (minD false) x r = some v) : C.stepD rec slot ev rd o = some (v, []) := by
  unfold Cfg.stepD
  rw [ho]
  dsimp only
  rw [hc]
  dsimp only
  unfold Cfg.opD
  rw [ho]
  dsimp only
  rw [hc]
  dsimp only
  rw [ha]
  dsimp only
  rw [hv]
  rfl
theorem kM {ops i o os E H T B d c x r v} {Q : St → Prop} (h : WL C rec ops (i + 1) os ⟨Env.set E d v, H, T, B⟩ Q) (ho : o.op = .call c := by exact rfl) (hc : c.callee = .builtin .max := by exact rfl) (hd : o.dst = d := by exact rfl) (hg : guardD ops E o = some true := by exact rfl) (ha : mapO (evalOp C E) c.args.toList = some (x :: r) := by exact rfl) (hv : foldD (minD false) x r = some v := by assumption) : WL C rec ops i (o :: os) ⟨E, H, T, B⟩ Q := wl_v hd hg (s_max ho hc ha hv) h
theorem jM {ops i o os E H T B d c x r v} {Q : St → Prop} (h : WK C rec ops (i + 1) os ⟨Env.set E d v, H, T, B⟩ Q) (ho : o.op = .call c := by exact rfl) (hc : c.callee = .builtin .max := by exact rfl) (hd : o.dst = d := by exact rfl) (hg : guardD ops (seenE ops o E) o = some true := by exact rfl) (ha : mapO (evalOp C (seenE ops o E)) c.args.toList = some (x :: r) := by exact rfl) (hv : foldD (minD false) x r = some v := by assumption) : WK C rec ops i (o :: os) ⟨E, H, T, B⟩ Q := wk_v hd hg (s_max ho hc ha hv) h
theorem b_cat {a b : List UInt8} (h : a.length + b.length ≤ 9223372036854775807) : binD .add (.str a) (.str b) = some (.str (a ++ b)) := by
  unfold binD strOp
  dsimp only
  rw [if_pos h]
theorem kJ {ops i o os E H T B d t x y tt} {a b : List UInt8} {Q : St → Prop} (h : WL C rec ops (i + 1) os ⟨Env.set E d (.str (a ++ b)), H, T, B⟩ Q) (ho : o.op = .binOp .add t x y tt := by exact rfl) (hd : o.dst = d := by exact rfl) (hg : guardD ops E o = some true := by exact rfl) (hx : evalOp C E x = some (.str a) := by exact rfl) (hy : evalOp C E y = some (.str b) := by exact rfl) (hl : a.length + b.length ≤ 9223372036854775807 := by first | assumption | (simp; omega)) : WL C rec ops i (o :: os) ⟨E, H, T, B⟩ Q := wl_v hd hg (s_bin ho hx hy (b_cat hl)) h
theorem jJ {ops i o os E H T B d t x y tt} {a b : List UInt8} {Q : St → Prop} (h : WK C rec ops (i + 1) os ⟨Env.set E d (.str (a ++ b)), H, T, B⟩ Q) (ho : o.op = .binOp .add t x y tt := by exact rfl) (hd : o.dst = d := by exact rfl) (hg : guardD ops (seenE ops o E) o = some true := by exact rfl) (hx : evalOp C (seenE ops o E) x = some (.str a) := by exact rfl) (hy : evalOp C (seenE ops o E) y = some (.str b) := by exact rfl) (hl : a.length + b.length ≤ 9223372036854775807 := by first | assumption | (simp; omega)) : WK C rec ops i (o :: os) ⟨E, H, T, B⟩ Q := wk_v hd hg (s_bin ho hx hy (b_cat hl)) h
end
end Go.PM
end
section
namespace Go.PM
def checkFn (md : FuncId → Option Mode) (f : FuncId) (o : Option Func) : Bool := match md f with
  | none => true
  | some _ => match o with
    | none => false
    | some fn => match fn.body with
      | none => false
      | some c => fn.name != "runtime.NumGoroutine" && checkCode fn.ntmps c
def checkFns (md : FuncId → Option Mode) : FuncId → List Func → Bool
  | _, [] => true
  | f, fn :: r => checkFn md f (some fn) && checkFns md (f + 1) r
theorem checkFns_at {md : FuncId → Option Mode} : ∀ {l : List Func} {k i : Nat} {fn : Func}, checkFns md k l = true → l[i]? = some fn → checkFn md (k + i) (some fn) = true
  | [], k, i, fn, h, hi => by cases hi
  | a :: r, k, i, fn, h, hi => by
    unfold checkFns at h
    rw [Bool.and_eq_true] at h
    cases i with
    | zero =>
      simp only [List.getElem?_cons_zero, Option.some.injEq] at hi
      subst hi
      exact h.1
    | succ i =>
      rw [List.getElem?_cons_succ] at hi
      have := checkFns_at h.2 hi
      rwa [Nat.add_right_comm] at this
theorem cfg_body {C : Cfg} (l : List Func) (hl : C.P.funcs.toList = l) (h : checkFns C.mode 0 l = true) (hb : ∀ f, l.length ≤ f → C.mode f = none) : BodyOK C ∧ ∀ f fn c, C.mode f ≠ none → C.P.funcs[f]? = some fn → fn.body = some c → checkCode fn.ntmps c = true := by
  have key : ∀ f, C.mode f ≠ none → ∃ fn, C.P.funcs[f]? = some fn ∧ checkFn C.mode f (some fn) = true := by
    intro f hf
    have hlt : f < l.length := by
      rcases Nat.lt_or_ge f l.length with h | h
      · exact h
      · exact absurd (hb f h) hf
    have h1 : l[f]? = some l[f] := List.getElem?_eq_getElem hlt
    refine ⟨l[f], ?_, ?_⟩
    · rw [← h1, ← hl, Array.getElem?_toList]
    · have := checkFns_at h h1
      rwa [Nat.zero_add] at this
  have key2 : ∀ f, C.mode f ≠ none → ∃ fn c, C.P.funcs[f]? = some fn ∧ fn.body = some c ∧ (fn.name != "runtime.NumGoroutine") = true ∧ checkCode fn.ntmps c = true := by
    intro f hf
    obtain ⟨fn, h1, h2⟩ := key f hf
    unfold checkFn at h2
    split at h2
    · rename_i hm
      exact absurd hm hf
    · dsimp only at h2
      split at h2
      · cases h2
      · rename_i c hc
        rw [Bool.and_eq_true] at h2
        exact ⟨fn, c, h1, hc, h2.1, h2.2⟩
  constructor
  · intro f hf
    obtain ⟨fn, c, h1, h2, h3, h4⟩ := key2 f hf
    refine ⟨fn, h1, by rw [h2]; rfl, ?_⟩
    simpa using h3
  · intro f fn c hf h1 h2
    obtain ⟨fn', c', h3, h4, h5, h6⟩ := key2 f hf
    rw [h1] at h3
    cases h3
    rw [h2] at h4
    cases h4
    exact h6
end Go.PM
end
