/- Regions, loops, calls and functions of the interpreter are right. -/
import Derived.Test.YtnmgchgmmnjbiaaGreatFb
import Derived.Tactics
import Derived.Deep.LoopGhost
set_option autoImplicit false
set_option linter.unusedVariables false
set_option linter.unusedSimpArgs false
namespace Go.Proofs.Fw
open Go
variable {et : LTag → TypeId}
/-! ### A part of the state, under other names -/
def CellIn (er : Nm → Nm → Prop) (s : St) (m1 : Mem) (st : St) (m : Mem) (c c' : FV) : Prop :=
  (plainCell c = true ∧ c' = c) ∨ ∃ q r g g' xs, c = .own q g ∧ c' = .own r g' ∧ er q r ∧ s.get (.row q) = .ownv g xs ∧ st.get (.row r) = .ownv g' xs ∧ m1.ρ q = m.ρ r
structure SubIn (st : St) (m : Mem) (s : St) (m1 : Mem) (eo er : Nm → Nm → Prop) : Prop where
  w : m1.w = m.w
  X : ∀ b, m1.X b ↔ mutB st m b ∧ ¬ liveB s m1 b
  obj : ∀ p n, s.get (.obj p) = .obj n → ∃ o, eo p o ∧ st.get (.obj o) = .obj n ∧ m1.β p = m.β o ∧ ∀ i, i < n → CellIn er s m1 st m (s.get (.cell p i)) (st.get (.cell o i))
  row : ∀ q g xs, s.get (.row q) = .ownv g xs → notPtr xs = true ∧ ((∃ r g', er q r ∧ st.get (.row r) = .ownv g' xs ∧ m1.ρ q = m.ρ r) ∨ (xs.len = 0 ∧ m1.ρ q = .slice none 0 0))
  injo : ∀ p p' o, eo p o → eo p' o → p = p'
  funo : ∀ p o o', eo p o → eo p o' → o = o'
  injr : ∀ q q' r, er q r → er q' r → q = q'
theorem plain_dr {c : FV} (h : plainCell c = true) {st : St} {m : Mem} {v : Value} : R1 st m c v ↔ DR (mutB st m) m.w c v := by
  cases c <;> first | exact Iff.rfl | (simp [plainCell] at h)
section
variable {st s s' : St} {m m1 m' : Mem} {eo er : Nm → Nm → Prop}
theorem SubIn.live (k : SubIn st m s m1 eo er) {b : Nat} (h : liveB s m1 b) : liveB st m b := by
  rcases h with ⟨p, n, e1, e2⟩ | ⟨q, g, xs, e1, e2⟩
  · obtain ⟨o, _, e3, e4, _⟩ := k.obj p n e1
    exact .inl ⟨o, n, e3, by rw [← e4]; exact e2⟩
  · obtain ⟨_, ⟨r, g', _, e3, e4⟩ | ⟨_, e4⟩⟩ := k.row q g xs e1
    · exact .inr ⟨r, g', xs, e3, by rw [← e4]; exact e2⟩
    · rw [e4] at e2; simp [Value.ownBlock] at e2
theorem SubIn.mut (k : SubIn st m s m1 eo er) (b : Nat) : mutB s m1 b ↔ mutB st m b := by
  constructor
  · rintro (h | h)
    · exact ((k.X b).1 h).1
    · exact .inr (k.live h)
  · intro h
    by_cases hl : liveB s m1 b
    · exact .inr hl
    · exact .inl ((k.X b).2 ⟨h, hl⟩)
theorem SubIn.dr (k : SubIn st m s m1 eo er) {c : FV} {v : Value} (h : DR (mutB st m) m.w c v) : DR (mutB s m1) m1.w c v :=
  h.trans (fun b hb _ => ⟨fun hq => hb ((k.mut b).1 hq), by rw [k.w]⟩) (by rw [k.w]; exact Nat.le_refl _)
theorem SubIn.cell (k : SubIn st m s m1 eo er) {c c' : FV} {v : Value} (h : CellIn er s m1 st m c c') (hv : R1 st m c' v) : R1 s m1 c v := by
  rcases h with ⟨hp, rfl⟩ | ⟨q, r, g, g', xs, rfl, rfl, _, h1, h2, h3⟩
  · exact (plain_dr hp).2 (k.dr ((plain_dr hp).1 hv))
  · refine ⟨hv.1, ⟨g, by rw [h1]; rfl, Nat.le_refl _⟩, fun ys hy => ?_⟩
    rw [hv.2.2 xs h2, h3]
theorem SubIn.mem (k : SubIn st m s m1 eo er) (h : MemOK et st m) : MemOK et s m1 := by
  refine ⟨fun p n hp => ?_, fun q g xs hq => ?_, fun p n p' n' e1 e2 e3 => ?_, fun q g xs q' g' xs' b e1 e2 e3 e4 => ?_, fun p n q g xs e1 e2 => ?_, fun b hb => ?_, fun b hb hl => ?_⟩
  · obtain ⟨o, _, e1, e2, e3⟩ := k.obj p n hp
    obtain ⟨arr, ty, a1, a2, a3⟩ := h.objs o n e1
    refine ⟨arr, ty, by rw [e2, k.w]; exact a1, a2, fun i v hv => k.cell (e3 i ?_) (a3 i v hv)⟩
    rw [← a2]; exact (Array.getElem?_eq_some_iff.1 hv).1
  · obtain ⟨hn, ⟨r, g', _, e1, e2⟩ | ⟨hl0, e2⟩⟩ := k.row q g xs hq
    rotate_left
    · rw [e2]
      exact ⟨[], by rw [hl0]; exact World.ownsRow_nil m1.w 0 _ _, fun i j c hi => by omega⟩
    obtain ⟨cs, a1, a2⟩ := h.rows r g' xs e1
    rw [e2]
    refine ⟨cs, by rw [k.w]; exact a1, fun i j c hi hj => ?_⟩
    obtain ⟨u, a3, a4⟩ := a2 i j c hi hj
    refine ⟨u, a3, ?_⟩
    have hc : ∀ o f, c ≠ .ptr o f := fun o f => notPtr_cells hn i j c hj o f
    have := k.dr (a4.toDR hc)
    cases c <;> first | exact this | exact absurd rfl (hc _ _)
  · obtain ⟨o, a1, a2, a3, _⟩ := k.obj p n e1
    obtain ⟨o', b1, b2, b3, _⟩ := k.obj p' n' e2
    have := h.oo o n o' n' a2 b2 (by rw [← a3, ← b3]; exact e3)
    subst this
    exact k.injo p p' o a1 b1
  · obtain ⟨_, ⟨r, g1, a1, a2, a3⟩ | ⟨_, a3⟩⟩ := k.row q g xs e1
    rotate_left
    · rw [a3] at e3; simp [Value.ownBlock] at e3
    obtain ⟨_, ⟨r', g2, b1, b2, b3⟩ | ⟨_, b3⟩⟩ := k.row q' g' xs' e2
    rotate_left
    · rw [b3] at e4; simp [Value.ownBlock] at e4
    have := h.rr r g1 xs r' g2 xs' b a2 b2 (by rw [← a3]; exact e3) (by rw [← b3]; exact e4)
    subst this
    exact k.injr q q' r a1 b1
  · obtain ⟨o, a1, a2, a3, _⟩ := k.obj p n e1
    obtain ⟨_, ⟨r, g1, b1, b2, b3⟩ | ⟨_, b3⟩⟩ := k.row q g xs e2
    rotate_left
    · rw [b3]; simp [Value.ownBlock]
    rw [a3, b3]
    exact h.or_ o n r g1 xs a2 b2
  · rw [k.w]; exact mutLt h ((k.X b).1 hb).1
  · exact ((k.X b).1 hb).2 hl

/-! ### Back again -/
def CellOut (s' : St) (en : Nm → Nm → Prop) (back : St) (c v : FV) : Prop :=
  (plainCell c = true ∧ v = c) ∨ ∃ q g0 xs r g, c = .own q g0 ∧ s'.get (.row q) = .ownv g0 xs ∧ en q r ∧ v = .own r g ∧ (Loc.row r, FV.ownv g xs) ∈ back
structure SubOut (st : St) (m : Mem) (s : St) (m1 : Mem) (s' : St) (m' : Mem) (eo er en : Nm → Nm → Prop) (back : St) : Prop where
  ext : Ext s m1 s' m'
  obj : ∀ p n, s.get (.obj p) = .obj n → s'.get (.obj p) = .obj n ∧ m'.β p = m1.β p
  keys : ∀ l v v', (l, v) ∈ back → (l, v') ∈ back → v = v'
  noobj : ∀ o v, (Loc.obj o, v) ∉ back
  cell : ∀ o i v, (Loc.cell o i, v) ∈ back → ∃ p n, eo p o ∧ s.get (.obj p) = .obj n ∧ i < n ∧ CellOut s' en back (s'.get (.cell p i)) v
  cov : ∀ p n o i, s.get (.obj p) = .obj n → eo p o → i < n → ∃ v, (Loc.cell o i, v) ∈ back
  row : ∀ r v, (Loc.row r, v) ∈ back → (∃ q g0 g xs, v = .ownv g xs ∧ en q r ∧ s'.get (.row q) = .ownv g0 xs ∧ notPtr xs = true ∧ ∀ g0, genOf (st.get (.row r)) = some g0 → g0 < g) ∨ ∃ g xs, v = .dead g ∧ st.get (.row r) = .ownv g xs
  rcov : ∀ q g xs r, s.get (.row q) = .ownv g xs → er q r → ∃ v, (Loc.row r, v) ∈ back
  injn : ∀ q q' r, en q r → en q' r → q = q'
  funn : ∀ q r r', en q r → en q r' → r = r'
theorem get_back {back st : St} (hk : ∀ l v v', (l, v) ∈ back → (l, v') ∈ back → v = v') {l : Loc} {v : FV} (h : (l, v) ∈ back) : St.get (back ++ st) l = v := by
  rcases get_append back st l with ⟨u, hu, e1, _⟩ | ⟨hn, _⟩
  · rw [e1]; exact hk l u v hu h
  · exact absurd h (hn v)
theorem get_nback {back st : St} {l : Loc} (h : ∀ v, (l, v) ∉ back) : St.get (back ++ st) l = st.get l := by
  rcases get_append back st l with ⟨u, hu, _⟩ | ⟨_, e⟩
  · exact absurd hu (h u)
  · exact e
open Classical in
noncomputable def backMem (m m' : Mem) (en : Nm → Nm → Prop) (back : St) : Mem :=
  { w := m'.w, β := m.β, ρ := fun r => if h : ∃ q, en q r ∧ ∃ g xs, (Loc.row r, FV.ownv g xs) ∈ back then m'.ρ h.choose else m.ρ r, X := m.X }
section
variable {en : Nm → Nm → Prop} {back : St} (k : SubIn st m s m1 eo er) (t : SubOut st m s m1 s' m' eo er en back) (h : MemOK et st m) (h' : MemOK et s' m')
include t in
theorem backMem_new {q r : Nm} {g : Nat} {xs : LS} (h1 : en q r) (h2 : (Loc.row r, FV.ownv g xs) ∈ back) : (backMem m m' en back).ρ r = m'.ρ q := by
  have hx : ∃ q, en q r ∧ ∃ g xs, (Loc.row r, FV.ownv g xs) ∈ back := ⟨q, h1, g, xs, h2⟩
  simp only [backMem]
  rw [dif_pos hx, t.injn _ _ _ hx.choose_spec.1 h1]
theorem backMem_old {r : Nm} (h2 : ∀ v, (Loc.row r, v) ∉ back) : (backMem m m' en back).ρ r = m.ρ r := by
  simp only [backMem]
  rw [dif_neg]
  rintro ⟨q, _, g, xs, hx⟩
  exact h2 _ hx
/-- Blocks of the part. -/
def mine (s : St) (m1 : Mem) (o : Nm) (eo : Nm → Nm → Prop) : Prop := ∃ p n, s.get (.obj p) = .obj n ∧ eo p o
include k h in
theorem notMineO {o : Nm} {n : Nat} (ho : st.get (.obj o) = .obj n) (hn : ¬ mine s m1 o eo) : ¬ liveB s m1 (m.β o) := by
  rintro (⟨p, n', e1, e2⟩ | ⟨q, g, xs, e1, e2⟩)
  · obtain ⟨o', a1, a2, a3, _⟩ := k.obj p n' e1
    have := h.oo o n o' n' ho a2 (by rw [← e2, a3])
    subst this
    exact hn ⟨p, n', e1, a1⟩
  · obtain ⟨_, ⟨r, g', a1, a2, a3⟩ | ⟨_, a3⟩⟩ := k.row q g xs e1
    rotate_left
    · rw [a3] at e2; simp [Value.ownBlock] at e2
    exact h.or_ o n r g' xs ho a2 (by rw [← a3]; exact e2)
include k t h in
theorem notMineR {r : Nm} {g : Nat} {xs : LS} (hr : st.get (.row r) = .ownv g xs) (hn : ∀ v, (Loc.row r, v) ∉ back) {b : Nat} (hb : (m.ρ r).ownBlock = some b) : ¬ liveB s m1 b := by
  rintro (⟨p, n', e1, e2⟩ | ⟨q, g1, ys, e1, e2⟩)
  · obtain ⟨o', a1, a2, a3, _⟩ := k.obj p n' e1
    exact h.or_ o' n' r g xs a2 hr (by rw [hb, ← e2, a3])
  · obtain ⟨_, ⟨r', g', a1, a2, a3⟩ | ⟨_, a3⟩⟩ := k.row q g1 ys e1
    rotate_left
    · rw [a3] at e2; simp [Value.ownBlock] at e2
    have := h.rr r g xs r' g' ys b hr a2 hb (by rw [← a3]; exact e2)
    subst this
    obtain ⟨v, hv⟩ := t.rcov q g1 ys r e1 a1
    exact hn v hv
include t in
theorem back_row {r : Nm} {g : Nat} {xs : LS} (hr : St.get (back ++ st) (.row r) = .ownv g xs) :
    ((∀ v, (Loc.row r, v) ∉ back) ∧ st.get (.row r) = .ownv g xs ∧ (backMem m m' en back).ρ r = m.ρ r) ∨
    (∃ q g0, (Loc.row r, FV.ownv g xs) ∈ back ∧ en q r ∧ s'.get (.row q) = .ownv g0 xs ∧ notPtr xs = true ∧ (backMem m m' en back).ρ r = m'.ρ q ∧ ∀ g0, genOf (st.get (.row r)) = some g0 → g0 < g) := by
  by_cases hin : ∃ v, (Loc.row r, v) ∈ back
  · obtain ⟨v, hv⟩ := hin
    rw [get_back t.keys hv] at hr
    subst hr
    rcases t.row r _ hv with ⟨q, g0, g', xs', e, e1, e2, e3, e4⟩ | ⟨_, _, e, _⟩
    · cases e
      exact .inr ⟨q, g0, hv, e1, e2, e3, backMem_new t e1 hv, e4⟩
    · cases e
  · have hin' : ∀ v, (Loc.row r, v) ∉ back := fun v hv => hin ⟨v, hv⟩
    rw [get_nback hin'] at hr
    exact .inl ⟨hin', hr, backMem_old hin'⟩
include t in
theorem back_obj (o : Nm) : St.get (back ++ st) (.obj o) = st.get (.obj o) := get_nback fun v => t.noobj o v
include k t in
theorem back_live {b : Nat} (hl : liveB (back ++ st) (backMem m m' en back) b) : liveB st m b ∨ m.w.heap.size ≤ b := by
  rcases hl with ⟨o, n, e1, e2⟩ | ⟨r, g, xs, e1, e2⟩
  · rw [back_obj t] at e1
    exact .inl (.inl ⟨o, n, e1, e2⟩)
  · rcases back_row t e1 with ⟨_, e3, e4⟩ | ⟨q, g0, _, e3, e4, _, e5, _⟩
    · rw [e4] at e2; exact .inl (.inr ⟨r, g, xs, e3, e2⟩)
    · rw [e5] at e2
      rcases t.ext.new b (.inr ⟨q, g0, xs, e4, e2⟩) with e6 | e6
      · exact .inl (k.live e6)
      · rw [k.w] at e6; exact .inr e6
include k t in
theorem back_tr : Tr st m (back ++ st) (backMem m m' en back) := by
  refine ⟨fun o n ho => ⟨⟨n, by rw [back_obj t]; exact ho⟩, rfl⟩, fun r g hg => ?_, fun r g xs hr hg => ?_, fun b hb hs => ⟨?_, ?_⟩, ?_⟩
  · by_cases hin : ∃ v, (Loc.row r, v) ∈ back
    · obtain ⟨v, hv⟩ := hin
      rw [get_back t.keys hv]
      rcases t.row r _ hv with ⟨q, g0, g', xs', rfl, e1, e2, e3, e4⟩ | ⟨g', ys, rfl, e⟩
      · exact ⟨g', rfl, Nat.le_of_lt (e4 g hg)⟩
      · rw [e] at hg
        simp [genOf] at hg
        exact ⟨g', rfl, by omega⟩
    · rw [get_nback fun v hv => hin ⟨v, hv⟩]
      exact ⟨g, hg, Nat.le_refl _⟩
  · rcases back_row t hr with ⟨_, e3, e4⟩ | ⟨q, g0, _, e3, e4, _, e5, e6⟩
    · exact ⟨xs, e3, rfl, rfl, e4⟩
    · have := e6 g hg; omega
  · rintro (hx | hl)
    · exact hb (.inl hx)
    · rcases back_live k t hl with e | e
      · exact hb (.inr e)
      · omega
  · have : ¬ liveB s m1 b := fun hl => hb (.inr (k.live hl))
    rw [← k.w]
    exact t.ext.keep b (by rw [k.w]; exact hs) this
  · rw [← k.w]; exact t.ext.size
include k t in
theorem back_step : Step st m (back ++ st) (backMem m m' en back) := by
  refine ⟨back_tr k t, ?_, ?_, ?_, (back_tr k t).size, fun b hb hn => ?_, fun b hb => back_live k t hb, rfl⟩
  · rw [← k.w]; exact t.ext.os
  · rw [← k.w]; exact t.ext.tape
  · rw [← k.w]; exact t.ext.output
  · rw [← k.w]
    exact t.ext.keep b (by rw [k.w]; exact hb) fun hl => hn (k.live hl)
include k t h in
/-- What isn't written in the part isn't written outside. -/
theorem back_dr {c : FV} {v : Value} (hv : DR (mutB s' m') m'.w c v) : DR (mutB (back ++ st) (backMem m m' en back)) (backMem m m' en back).w c v := by
  refine hv.trans (fun b hb hs => ⟨?_, rfl⟩) (Nat.le_refl _)
  have hX : ∀ {b}, ¬ mutB s' m' b → liveB s m1 b ∨ ¬ mutB st m b := fun {b} hb => by
    by_cases hl : liveB s m1 b
    · exact .inl hl
    · refine .inr fun hm => hb (.inl ?_)
      rw [t.ext.X]
      exact (k.X b).2 ⟨hm, hl⟩
  rintro (hx | ⟨o, n, e1, e2⟩ | ⟨r, g, xs, e1, e2⟩)
  · rcases hX hb with hl | hl
    · exact h.xl b hx (k.live hl)
    · exact hl (.inl hx)
  · rw [back_obj t] at e1
    by_cases hm : mine s m1 o eo
    · obtain ⟨p, n', e3, e4⟩ := hm
      obtain ⟨o', a1, a2, a3, _⟩ := k.obj p n' e3
      have := k.funo p o o' e4 a1
      subst this
      obtain ⟨b1, b2⟩ := t.obj p n' e3
      exact hb (.inr (.inl ⟨p, n', b1, by rw [b2, a3]; exact e2⟩))
    · have hnl := notMineO k h e1 hm
      have e2' : m.β o = b := e2
      rw [e2'] at hnl
      rcases hX hb with hl | hl
      · exact hnl hl
      · exact hl (.inr (.inl ⟨o, n, e1, e2⟩))
  · rcases back_row t e1 with ⟨e5, e3, e4⟩ | ⟨q, g0, _, e3, e4, _, e5, _⟩
    · rw [e4] at e2
      have hnl := notMineR k t h e3 e5 e2
      rcases hX hb with hl | hl
      · exact hnl hl
      · exact hl (.inr (.inr ⟨r, g, xs, e3, e2⟩))
    · rw [e5] at e2
      exact hb (.inr (.inr ⟨q, g0, xs, e4, e2⟩))
include k t h in
theorem back_cell {c u : FV} {v : Value} (hc : CellOut s' en back c u) (hv : R1 s' m' c v) : R1 (back ++ st) (backMem m m' en back) u v := by
  rcases hc with ⟨hp, rfl⟩ | ⟨q, g0, xs, r, g, rfl, e1, e2, rfl, e3⟩
  · exact (plain_dr hp).2 (back_dr k t h ((plain_dr hp).1 hv))
  · refine ⟨hv.1, ⟨g, by rw [get_back t.keys e3]; rfl, Nat.le_refl _⟩, fun ys hy => ?_⟩
    rw [backMem_new t e2 e3]
    exact hv.2.2 xs e1
include k t h h' in
theorem back_mem : MemOK et (back ++ st) (backMem m m' en back) := by
  have tr := back_tr k t
  refine ⟨fun o n ho => ?_, fun r g xs hr => ?_, fun o n o' n' e1 e2 e3 => ?_, fun r g xs r' g' xs' b e1 e2 e3 e4 => ?_, fun o n r g xs e1 e2 => ?_, fun b hb => ?_, fun b hb hl => ?_⟩
  · rw [back_obj t] at ho
    by_cases hm : mine s m1 o eo
    · obtain ⟨p, n', e3, e4⟩ := hm
      obtain ⟨o', a1, a2, a3, _⟩ := k.obj p n' e3
      have := k.funo p o o' e4 a1
      subst this
      rw [ho] at a2
      cases a2
      obtain ⟨b1, b2⟩ := t.obj p n e3
      obtain ⟨arr, ty, c1, c2, c3⟩ := h'.objs p n b1
      refine ⟨arr, ty, ?_, c2, fun i v hv => ?_⟩
      · rw [← c1, b2, a3]; rfl
      · have hi : i < n := by rw [← c2]; exact (Array.getElem?_eq_some_iff.1 hv).1
        obtain ⟨u, hu⟩ := t.cov p n o i e3 e4 hi
        rw [get_back t.keys hu]
        obtain ⟨p', n', d1, d2, d3, d4⟩ := t.cell o i u hu
        have := k.injo p p' o e4 d1
        subst this
        exact back_cell k t h d4 (c3 i v hv)
    · refine tr.objOK (h.objs o n ho) ?_ rfl fun i hi => get_nback fun v hv => ?_
      · have := notMineO k h ho hm
        have e := t.ext.keep (m.β o) (by rw [k.w]; exact objLt h ho) this
        rw [k.w] at e
        exact e
      · obtain ⟨p, n', d1, d2, _⟩ := t.cell o i v hv
        exact hm ⟨p, n', d2, d1⟩
  · rcases back_row t hr with ⟨e5, e3, e4⟩ | ⟨q, g0, _, e3, e4, e6, e5, _⟩
    · rw [e4]
      refine tr.rowOK et (h.rows r g xs e3) fun b hb => ?_
      have e := t.ext.keep b (by rw [k.w]; exact rowLt h e3 hb) (notMineR k t h e3 e5 hb)
      rw [k.w] at e
      exact e
    · rw [e5]
      obtain ⟨cs, c1, c2⟩ := h'.rows q g0 xs e4
      refine ⟨cs, c1, fun i j c hi hj => ?_⟩
      obtain ⟨u, c3, c4⟩ := c2 i j c hi hj
      have hc : ∀ o f, c ≠ .ptr o f := fun o f => notPtr_cells e6 i j c hj o f
      have := back_dr k t h (c4.toDR hc)
      exact ⟨u, c3, by cases c <;> first | exact this | exact absurd rfl (hc _ _)⟩
  · rw [back_obj t] at e1 e2
    exact h.oo o n o' n' e1 e2 e3
  · rcases back_row t e1 with ⟨a5, a3, a4⟩ | ⟨q, g0, a1, a3, a4, _, a5, _⟩ <;> rcases back_row t e2 with ⟨b5, b3, b4⟩ | ⟨q', g0', b1, b3, b4, _, b5, _⟩
    · rw [a4] at e3; rw [b4] at e4
      exact h.rr r g xs r' g' xs' b a3 b3 e3 e4
    · rw [a4] at e3; rw [b5] at e4
      exfalso
      rcases t.ext.new b (.inr ⟨q', g0', xs', b4, e4⟩) with e6 | e6
      · exact notMineR k t h a3 a5 e3 e6
      · have := rowLt h a3 e3; rw [k.w] at e6; omega
    · rw [a5] at e3; rw [b4] at e4
      exfalso
      rcases t.ext.new b (.inr ⟨q, g0, xs, a4, e3⟩) with e6 | e6
      · exact notMineR k t h b3 b5 e4 e6
      · have := rowLt h b3 e4; rw [k.w] at e6; omega
    · rw [a5] at e3; rw [b5] at e4
      have := h'.rr q g0 xs q' g0' xs' b a4 b4 e3 e4
      subst this
      exact t.funn q r r' a3 b3
  · rw [back_obj t] at e1
    intro hb
    have hb' : ((backMem m m' en back).ρ r).ownBlock = some (m.β o) := hb
    rcases back_row t e2 with ⟨a5, a3, a4⟩ | ⟨q, g0, a1, a3, a4, _, a5, _⟩
    · rw [a4] at hb'; exact h.or_ o n r g xs e1 a3 hb'
    · rw [a5] at hb'
      by_cases hm : mine s m1 o eo
      · obtain ⟨p, n', e3, e4⟩ := hm
        obtain ⟨o', c1, c2, c3, _⟩ := k.obj p n' e3
        have := k.funo p o o' e4 c1
        subst this
        obtain ⟨d1, d2⟩ := t.obj p n' e3
        exact h'.or_ p n' q g0 xs d1 a4 (by rw [hb', d2, c3])
      · rcases t.ext.new _ (.inr ⟨q, g0, xs, a4, hb'⟩) with e6 | e6
        · exact notMineO k h e1 hm e6
        · have := objLt h e1; rw [k.w] at e6; omega
  · have := h.xlt b hb
    exact Nat.lt_of_lt_of_le this tr.size
  · rcases back_live k t hl with e | e
    · exact h.xl b hb e
    · have := h.xlt b hb; omega
end
end
end Go.Proofs.Fw

set_option autoImplicit false
set_option linter.unusedVariables false
set_option linter.unusedSimpArgs false
namespace Go.Proofs.Fw
open Go
variable {et : LTag → TypeId}
/-! ### 1. Lists without repetition -/
theorem memL_iff (l : Loc) (xs : List Loc) : memL l xs = true ↔ l ∈ xs := by
  induction xs with
  | nil => simp [memL]
  | cons x xs ih => simp [memL, ih, Loc.beq_iff]
theorem memNm_iff (l : Nm) (xs : List Nm) : memNm l xs = true ↔ l ∈ xs := by
  induction xs with
  | nil => simp [memNm]
  | cons x xs ih => simp [memNm, ih, Nm.beq_iff]
theorem meets_iff (xs ys : List Loc) : meets xs ys = true ↔ ∃ l, l ∈ xs ∧ l ∈ ys := by
  induction xs with
  | nil => simp [meets]
  | cons x xs ih => simp [meets, ih, memL_iff]
theorem nodupL_fun {α : Type} {f : α → Loc} : ∀ {xs : List α}, nodupL (xs.map f) = true → ∀ {x y : α}, x ∈ xs → y ∈ xs → f x = f y → x = y
  | [], _, x, y, hx, _, _ => by simp at hx
  | z :: zs, h, x, y, hx, hy, e => by
    simp only [List.map, nodupL, Bool.and_eq_true, Bool.not_eq_true'] at h
    have hn : ∀ w ∈ zs, f w ≠ f z := fun w hw e' => by
      have : memL (f z) (zs.map f) = true := (memL_iff _ _).2 (e' ▸ List.mem_map_of_mem hw)
      rw [h.1] at this; cases this
    simp only [List.mem_cons] at hx hy
    rcases hx with rfl | hx <;> rcases hy with rfl | hy
    · rfl
    · exact absurd e.symm (hn y hy)
    · exact absurd e (hn x hx)
    · exact nodupL_fun h.2 hx hy e
theorem mem_rowsOf {α : Type} {f : α → FV} {r : Nm} {g : Nat} : ∀ {xs : List α} {x : α}, x ∈ xs → f x = .own r g → r ∈ rowsOf (xs.map f)
  | [], x, hx, _ => by simp at hx
  | z :: zs, x, hx, e => by
    simp only [List.mem_cons] at hx
    rcases hx with rfl | hx
    · simp [e, rowsOf]
    · have := mem_rowsOf hx e
      cases hz : f z <;> simp [hz, rowsOf, this]
theorem nodupR_fun {α : Type} {f : α → FV} {r : Nm} : ∀ {xs : List α}, nodupNm (rowsOf (xs.map f)) = true → ∀ {x y : α} {g g' : Nat}, x ∈ xs → y ∈ xs → f x = .own r g → f y = .own r g' → x = y
  | [], _, x, y, _, _, hx, _, _, _ => by simp at hx
  | z :: zs, h, x, y, g, g', hx, hy, e, e' => by
    have rest : nodupNm (rowsOf (zs.map f)) = true := by
      cases hz : f z <;> simp only [List.map, hz, rowsOf] at h <;> first | exact h | (simp only [nodupNm, Bool.and_eq_true] at h; exact h.2)
    have hn : ∀ {g}, f z = .own r g → r ∉ rowsOf (zs.map f) := fun {g} hz hm => by
      simp only [List.map, hz, rowsOf, nodupNm, Bool.and_eq_true, Bool.not_eq_true'] at h
      have := (memNm_iff _ _).2 hm
      rw [h.1] at this; cases this
    simp only [List.mem_cons] at hx hy
    rcases hx with rfl | hx <;> rcases hy with rfl | hy
    · rfl
    · exact absurd (mem_rowsOf hy e') (hn e)
    · exact absurd (mem_rowsOf hx e) (hn e')
    · exact nodupR_fun rest hx hy e e'
theorem nodupNm_get : ∀ {xs : List Nm}, nodupNm xs = true → ∀ {i j : Nat} {x : Nm}, xs[i]? = some x → xs[j]? = some x → i = j
  | [], _, i, j, x, h, _ => by simp at h
  | z :: zs, h, i, j, x, hi, hj => by
    simp only [nodupNm, Bool.and_eq_true, Bool.not_eq_true'] at h
    have hn : ∀ k : Nat, zs[k]? ≠ some z := fun k hk => by
      have := (memNm_iff z zs).2 (List.mem_of_getElem? hk)
      rw [h.1] at this; cases this
    cases i <;> cases j
    · rfl
    · simp at hi hj; subst hi; exact absurd hj (hn _)
    · simp at hi hj; subst hj; exact absurd hi (hn _)
    · simp at hi hj; rw [nodupNm_get h.2 hi hj]
/-! ### 2. Places -/
def isPl : Loc → Prop
  | .slot _ | .cell _ _ => True
  | _ => False
theorem nmOf_inj {l l' : Loc} (h : isPl l) (h' : isPl l') (e : nmOf l = nmOf l') : l = l' := by
  cases l <;> cases l' <;> simp_all [isPl, nmOf]
theorem mem_cellPl (o : Nm) (j : Nat) : ∀ (cs : List FV) (i : Nat) (p : Pl), p ∈ cellPl o j i cs ↔ ∃ k c, cs[k]? = some c ∧ p = ⟨.cell o (i + k), .cell (.arg j) (i + k), c⟩
  | [], i, p => by simp [cellPl]
  | c :: cs, i, p => by
    simp only [cellPl, List.mem_cons, mem_cellPl o j cs (i + 1) p]
    constructor
    · rintro (rfl | ⟨k, c', hk, rfl⟩)
      · exact ⟨0, c, rfl, rfl⟩
      · exact ⟨k + 1, c', by simpa using hk, by rw [show i + 1 + k = i + (k + 1) from by omega]⟩
    · rintro ⟨k, c', hk, rfl⟩
      cases k with
      | zero => simp at hk; subst hk; exact .inl rfl
      | succ k => exact .inr ⟨k, c', by simpa using hk, by rw [show i + 1 + k = i + (k + 1) from by omega]⟩
theorem mem_objPl : ∀ (os : List (Nm × List FV)) (j0 : Nat) (p : Pl), p ∈ objPl j0 os ↔ ∃ k o cs i c, os[k]? = some (o, cs) ∧ cs[i]? = some c ∧ p = ⟨.cell o i, .cell (.arg (j0 + k)) i, c⟩
  | [], j0, p => by simp [objPl]
  | (o, cs) :: os, j0, p => by
    simp only [objPl, List.mem_append, mem_cellPl, mem_objPl os (j0 + 1) p]
    constructor
    · rintro (⟨k, c, hk, rfl⟩ | ⟨k, o', cs', i, c, h1, h2, rfl⟩)
      · exact ⟨0, o, cs, k, c, rfl, hk, by simp⟩
      · exact ⟨k + 1, o', cs', i, c, by simpa using h1, h2, by rw [show j0 + 1 + k = j0 + (k + 1) from by omega]⟩
    · rintro ⟨k, o', cs', i, c, h1, h2, rfl⟩
      cases k with
      | zero => simp at h1; obtain ⟨rfl, rfl⟩ := h1; exact .inl ⟨i, c, h2, by simp⟩
      | succ k => exact .inr ⟨k, o', cs', i, c, by simpa using h1, h2, by rw [show j0 + 1 + k = j0 + (k + 1) from by omega]⟩
theorem mem_slotPl : ∀ (ins : List (Nat × Option LTag)) (vs : List FV) (p : Pl), p ∈ slotPl ins vs → ∃ s, p.ol = .slot s ∧ p.il = .slot s ∧ ∃ (k : Nat) (t : Option LTag), ins[k]? = some (s, t) ∧ vs[k]? = some p.oc
  | [], vs, p, h => by simp [slotPl] at h
  | (s, t) :: ins, [], p, h => by simp [slotPl] at h
  | (s, t) :: ins, v :: vs, p, h => by
    simp only [slotPl, List.mem_cons] at h
    rcases h with rfl | h
    · exact ⟨s, rfl, rfl, 0, t, rfl, rfl⟩
    · obtain ⟨s', h1, h2, k, t', h3, h4⟩ := mem_slotPl ins vs p h
      exact ⟨s', h1, h2, k + 1, t', by simpa using h3, by simpa using h4⟩
def plsOf (ins : List (Nat × Option LTag)) (vs : List FV) (os : List (Nm × List FV)) : List Pl := slotPl ins vs ++ objPl 0 os
theorem plsOf_pl {ins : List (Nat × Option LTag)} {vs : List FV} {os : List (Nm × List FV)} {p : Pl} (h : p ∈ plsOf ins vs os) :
    (∃ s, p.ol = .slot s ∧ p.il = .slot s) ∨ ∃ j o cs i, os[j]? = some (o, cs) ∧ cs[i]? = some p.oc ∧ p.ol = .cell o i ∧ p.il = .cell (.arg j) i := by
  simp only [plsOf, List.mem_append] at h
  rcases h with h | h
  · obtain ⟨s, h1, h2, _⟩ := mem_slotPl _ _ _ h
    exact .inl ⟨s, h1, h2⟩
  · obtain ⟨k, o, cs, i, c, h1, h2, rfl⟩ := (mem_objPl _ _ _).1 h
    exact .inr ⟨k, o, cs, i, h1, h2, rfl, by simp⟩
theorem plsOf_isPl {ins : List (Nat × Option LTag)} {vs : List FV} {os : List (Nm × List FV)} {p : Pl} (h : p ∈ plsOf ins vs os) : isPl p.ol ∧ isPl p.il := by
  rcases plsOf_pl h with ⟨s, h1, h2⟩ | ⟨j, o, cs, i, _, _, h1, h2⟩ <;> rw [h1, h2] <;> exact ⟨trivial, trivial⟩
/-! ### 3. The state at the start of a part -/
def inV (l : Loc) : FV → FV
  | .ownv _ _ => .own (nmOf l) 0
  | d => d
theorem mem_enterW : ∀ (ps : List Pl) (ds : List FV) (x : Loc × FV), x ∈ enterW ps ds ↔ ∃ p d, (p, d) ∈ ps.zip ds ∧ (x = (p.il, inV p.il d) ∨ ∃ g0 xs, d = .ownv g0 xs ∧ x = (.row (nmOf p.il), .ownv 0 xs))
  | [], ds, x => by simp [enterW]
  | p :: ps, [], x => by simp [enterW]
  | p :: ps, d :: ds, x => by
    have ih := mem_enterW ps ds x
    cases d with
    | ownv g xs =>
      simp only [enterW, List.mem_cons, ih, List.zip_cons_cons]
      constructor
      · rintro (rfl | rfl | ⟨p', d', h1, h2⟩)
        · exact ⟨p, _, .inl rfl, .inl rfl⟩
        · exact ⟨p, _, .inl rfl, .inr ⟨g, xs, rfl, rfl⟩⟩
        · exact ⟨p', d', .inr h1, h2⟩
      · rintro ⟨p', d', h1 | h1, h2⟩
        · cases h1
          rcases h2 with rfl | ⟨g0, ys, e, rfl⟩
          · exact .inl rfl
          · cases e; exact .inr (.inl rfl)
        · exact .inr (.inr ⟨p', d', h1, h2⟩)
    | _ =>
      simp only [enterW, List.mem_cons, ih, List.zip_cons_cons]
      constructor
      · rintro (rfl | ⟨p', d', h1, h2⟩)
        · exact ⟨p, _, .inl rfl, .inl rfl⟩
        · exact ⟨p', d', .inr h1, h2⟩
      · rintro ⟨p', d', h1 | h1, h2⟩
        · cases h1
          rcases h2 with rfl | ⟨g0, ys, e, rfl⟩
          · exact .inl rfl
          · cases e
        · exact .inr ⟨p', d', h1, h2⟩
theorem enterW_il : ∀ (ps ps' : List Pl) (ds : List FV), ps.map (·.il) = ps'.map (·.il) → enterW ps ds = enterW ps' ds
  | [], [], ds, _ => rfl
  | [], _ :: _, ds, h => by simp at h
  | _ :: _, [], ds, h => by simp at h
  | p :: ps, p' :: ps', [], h => by cases p; simp [enterW]
  | p :: ps, p' :: ps', d :: ds, h => by
    simp only [List.map, List.cons.injEq] at h
    have ih := enterW_il ps ps' ds h.2
    cases d <;> simp [enterW, h.1, ih]
theorem cellPl_il (o o' : Nm) (j : Nat) : ∀ (cs cs' : List FV) (i : Nat), cs.length = cs'.length → (cellPl o j i cs).map (·.il) = (cellPl o' j i cs').map (·.il)
  | [], [], _, _ => rfl
  | [], _ :: _, _, h => by simp at h
  | _ :: _, [], _, h => by simp at h
  | c :: cs, c' :: cs', i, h => by simp [cellPl, cellPl_il o o' j cs cs' (i + 1) (by simpa using h)]
theorem objPl_il : ∀ (os os' : List (Nm × List FV)) (j : Nat), os.map (·.2.length) = os'.map (·.2.length) → (objPl j os).map (·.il) = (objPl j os').map (·.il)
  | [], [], _, _ => rfl
  | [], _ :: _, _, h => by simp at h
  | _ :: _, [], _, h => by simp at h
  | (o, cs) :: os, (o', cs') :: os', j, h => by
    simp only [List.map, List.cons.injEq] at h
    simp [objPl, objPl_il os os' (j + 1) h.2, cellPl_il o o' j cs cs' 0 h.1]
theorem slotPl_il : ∀ (ins : List (Nat × Option LTag)) (vs vs' : List FV), vs.length = vs'.length → (slotPl ins vs).map (·.il) = (slotPl ins vs').map (·.il)
  | [], _, _, _ => by simp [slotPl]
  | _ :: _, [], [], _ => by simp [slotPl]
  | _ :: _, [], _ :: _, h => by simp at h
  | _ :: _, _ :: _, [], h => by simp at h
  | (s, t) :: ins, v :: vs, v' :: vs', h => by simp [slotPl, slotPl_il ins vs vs' (by simpa using h)]
theorem args0_len : ∀ (j : Nat) (objs : List (List FV)), (args0 j objs).map (·.2.length) = objs.map List.length
  | _, [] => rfl
  | j, cs :: r => by simp [args0, args0_len (j + 1) r]
theorem entry_eq {ins : List (Nat × Option LTag)} {vs ds : List FV} {os : List (Nm × List FV)} {ext : List (List FV)} (h1 : vs.length = ds.length) (h2 : os.map (·.2.length) = ext.map List.length) :
    entry ins ds ext = enterW (plsOf ins vs os) (ds ++ ext.flatten) ++ objHeads 0 ext := by
  unfold entry plsOf
  rw [enterW_il _ _ _ (show _ = (slotPl ins vs ++ objPl 0 os).map (·.il) from ?_)]
  rw [List.map_append, List.map_append, slotPl_il ins ds vs h1.symm, objPl_il _ os 0 (by rw [args0_len, h2])]
theorem objHeads_get : ∀ (objs : List (List FV)) (j0 : Nat) (l : Loc), (∀ n, l = .obj (.arg n) → n < j0) ∨ (∃ k cs, l = .obj (.arg (j0 + k)) ∧ objs[k]? = some cs ∧ St.get (objHeads j0 objs) l = .obj cs.length) ∨ (St.get (objHeads j0 objs) l = .any) := by
  intro objs j0 l
  by_cases hx : ∃ k cs, l = .obj (.arg (j0 + k)) ∧ objs[k]? = some cs
  · obtain ⟨k, cs, rfl, hk⟩ := hx
    refine .inr (.inl ⟨k, cs, rfl, hk, ?_⟩)
    induction objs generalizing j0 k with
    | nil => simp at hk
    | cons c objs ih =>
      rw [objHeads, get_cons]
      cases k with
      | zero => simp at hk; subst hk; simp
      | succ k =>
        rw [if_neg (by simp)]
        have := ih (j0 + 1) k (by simpa using hk)
        rwa [show j0 + 1 + k = j0 + (k + 1) from by omega] at this
  · refine .inr (.inr ?_)
    induction objs generalizing j0 with
    | nil => rfl
    | cons c objs ih =>
      rw [objHeads, get_cons, if_neg]
      · refine ih (j0 + 1) fun ⟨k, cs, h1, h2⟩ => hx ⟨k + 1, cs, by rw [h1, show j0 + 1 + k = j0 + (k + 1) from by omega], by simpa using h2⟩
      · intro e
        exact hx ⟨0, c, by simp [← e], rfl⟩
section
variable {ins : List (Nat × Option LTag)} {vs ds : List FV} {os : List (Nm × List FV)} {ext : List (List FV)}
/-- What is known of a part's places. -/
structure PartOK (ins : List (Nat × Option LTag)) (vs ds : List FV) (os : List (Nm × List FV)) (ext : List (List FV)) : Prop where
  lv : vs.length = ds.length
  li : ins.length = vs.length
  lo : os.map (·.2.length) = ext.map List.length
  il : nodupL ((plsOf ins vs os).map (·.il)) = true
  ol : nodupL ((plsOf ins vs os).map (·.ol)) = true
  on : nodupNm (os.map (·.1)) = true
  rn : nodupNm (rowsOf ((plsOf ins vs os).map (·.oc))) = true
theorem slotPl_len : ∀ (ins : List (Nat × Option LTag)) (vs : List FV), ins.length = vs.length → (slotPl ins vs).length = vs.length
  | [], [], _ => rfl
  | [], _ :: _, h => by simp at h
  | _ :: _, [], h => by simp at h
  | (s, t) :: ins, v :: vs, h => by simp [slotPl, slotPl_len ins vs (by simpa using h)]
theorem cellPl_len (o : Nm) (j : Nat) : ∀ (cs : List FV) (i : Nat), (cellPl o j i cs).length = cs.length
  | [], _ => rfl
  | c :: cs, i => by simp [cellPl, cellPl_len o j cs (i + 1)]
theorem objPl_len : ∀ (os : List (Nm × List FV)) (ext : List (List FV)) (j : Nat), os.map (·.2.length) = ext.map List.length → (objPl j os).length = ext.flatten.length
  | [], [], _, _ => rfl
  | [], _ :: _, _, h => by simp at h
  | _ :: _, [], _, h => by simp at h
  | (o, cs) :: os, e :: ext, j, h => by
    simp only [List.map, List.cons.injEq] at h
    simp [objPl, cellPl_len, objPl_len os ext (j + 1) h.2, h.1]
theorem PartOK.len (k : PartOK ins vs ds os ext) : (plsOf ins vs os).length = (ds ++ ext.flatten).length := by
  simp only [plsOf, List.length_append]
  rw [slotPl_len ins vs k.li, k.lv, objPl_len os ext 0 k.lo]
def zOf (ins : List (Nat × Option LTag)) (vs ds : List FV) (os : List (Nm × List FV)) (ext : List (List FV)) : List (Pl × FV) := (plsOf ins vs os).zip (ds ++ ext.flatten)
theorem PartOK.zfst (k : PartOK ins vs ds os ext) : (zOf ins vs ds os ext).map (·.1) = plsOf ins vs os := by
  unfold zOf
  rw [List.map_fst_zip]
  rw [k.len]; exact Nat.le_refl _
theorem PartOK.zil (k : PartOK ins vs ds os ext) {z z' : Pl × FV} (h : z ∈ zOf ins vs ds os ext) (h' : z' ∈ zOf ins vs ds os ext) (e : z.1.il = z'.1.il) : z = z' := by
  refine nodupL_fun (f := fun z : Pl × FV => z.1.il) ?_ h h' e
  have : (zOf ins vs ds os ext).map (fun z : Pl × FV => z.1.il) = ((zOf ins vs ds os ext).map (·.1)).map (·.il) := by rw [List.map_map]; rfl
  rw [this, k.zfst]; exact k.il
theorem PartOK.zol (k : PartOK ins vs ds os ext) {z z' : Pl × FV} (h : z ∈ zOf ins vs ds os ext) (h' : z' ∈ zOf ins vs ds os ext) (e : z.1.ol = z'.1.ol) : z = z' := by
  refine nodupL_fun (f := fun z : Pl × FV => z.1.ol) ?_ h h' e
  have : (zOf ins vs ds os ext).map (fun z : Pl × FV => z.1.ol) = ((zOf ins vs ds os ext).map (·.1)).map (·.ol) := by rw [List.map_map]; rfl
  rw [this, k.zfst]; exact k.ol
theorem PartOK.zrow (k : PartOK ins vs ds os ext) {z z' : Pl × FV} {r : Nm} {g g' : Nat} (h : z ∈ zOf ins vs ds os ext) (h' : z' ∈ zOf ins vs ds os ext) (e : z.1.oc = .own r g) (e' : z'.1.oc = .own r g') : z = z' := by
  refine nodupR_fun (f := fun z : Pl × FV => z.1.oc) ?_ h h' e e'
  have : (zOf ins vs ds os ext).map (fun z : Pl × FV => z.1.oc) = ((zOf ins vs ds os ext).map (·.1)).map (·.oc) := by rw [List.map_map]; rfl
  rw [this, k.zfst]; exact k.rn
theorem zOf_pl {z : Pl × FV} (h : z ∈ zOf ins vs ds os ext) : z.1 ∈ plsOf ins vs os := (List.of_mem_zip (a := z.1) (b := z.2) h).1
theorem PartOK.zmem (k : PartOK ins vs ds os ext) {p : Pl} (h : p ∈ plsOf ins vs os) : ∃ d, (p, d) ∈ zOf ins vs ds os ext := by
  rw [← k.zfst] at h
  obtain ⟨z, hz, rfl⟩ := List.mem_map.1 h
  exact ⟨z.2, hz⟩
theorem PartOK.keys (k : PartOK ins vs ds os ext) : ∀ l v v', (l, v) ∈ enterW (plsOf ins vs os) (ds ++ ext.flatten) → (l, v') ∈ enterW (plsOf ins vs os) (ds ++ ext.flatten) → v = v' := by
  intro l v v' h h'
  obtain ⟨p, d, hz, h⟩ := (mem_enterW _ _ _).1 h
  obtain ⟨p', d', hz', h'⟩ := (mem_enterW _ _ _).1 h'
  have q := (plsOf_isPl (zOf_pl (ds := ds) (ext := ext) hz)).2
  have q' := (plsOf_isPl (zOf_pl (ds := ds) (ext := ext) hz')).2
  rcases h with h | ⟨g0, xs, rfl, h⟩ <;> rcases h' with h' | ⟨g0', xs', rfl, h'⟩
  · cases h; injection h' with e1 e2
    have := k.zil hz hz' e1
    cases this; exact e2.symm
  · cases h; injection h' with e1 e2; simp only at q; rw [e1] at q; exact q.elim
  · cases h; injection h' with e1 e2; simp only at q'; rw [← e1] at q'; exact q'.elim
  · cases h; injection h' with e1 e2
    injection e1 with e1
    have := k.zil hz hz' (nmOf_inj q q' e1)
    cases this; exact e2.symm
theorem PartOK.get (k : PartOK ins vs ds os ext) {p : Pl} {d : FV} (hz : (p, d) ∈ zOf ins vs ds os ext) : (entry ins ds ext).get p.il = inV p.il d := by
  rw [entry_eq k.lv k.lo]
  exact get_back k.keys ((mem_enterW _ _ _).2 ⟨p, d, hz, .inl rfl⟩)
theorem PartOK.getRow (k : PartOK ins vs ds os ext) {p : Pl} {g : Nat} {xs : LS} (hz : (p, .ownv g xs) ∈ zOf ins vs ds os ext) : (entry ins ds ext).get (.row (nmOf p.il)) = .ownv 0 xs := by
  rw [entry_eq k.lv k.lo]
  exact get_back k.keys ((mem_enterW _ _ _).2 ⟨p, _, hz, .inr ⟨g, xs, rfl, rfl⟩⟩)
theorem heads_ne {l : Loc} (h : ∀ o, l ≠ .obj o) (ext : List (List FV)) (j : Nat) : St.get (objHeads j ext) l = .any := by
  induction ext generalizing j with
  | nil => rfl
  | cons c r ih => rw [objHeads, get_cons, if_neg (fun e => h _ e.symm)]; exact ih _
theorem PartOK.rowGet (k : PartOK ins vs ds os ext) {q : Nm} {g : Nat} {xs : LS} (h : (entry ins ds ext).get (.row q) = .ownv g xs) : g = 0 ∧ ∃ p g0, (p, FV.ownv g0 xs) ∈ zOf ins vs ds os ext ∧ nmOf p.il = q := by
  rw [entry_eq k.lv k.lo] at h
  rcases get_append (enterW (plsOf ins vs os) (ds ++ ext.flatten)) (objHeads 0 ext) (.row q) with ⟨v, hv, e, _⟩ | ⟨_, e⟩
  · rw [e] at h
    subst h
    obtain ⟨p, d, hz, h | ⟨g0, ys, rfl, h⟩⟩ := (mem_enterW _ _ _).1 hv
    · injection h with e1 e2
      have q := (plsOf_isPl (zOf_pl (ds := ds) (ext := ext) hz)).2
      simp only at q
      rw [← e1] at q; exact q.elim
    · injection h with e1 e2
      injection e1 with e1
      injection e2 with e2 e3
      subst e3
      exact ⟨e2, p, g0, hz, e1.symm⟩
  · rw [e, heads_ne (by simp)] at h; cases h
theorem PartOK.slotGet (k : PartOK ins vs ds os ext) {n : Nat} (h : ∀ p ∈ plsOf ins vs os, p.il ≠ .slot n) : (entry ins ds ext).get (.slot n) = .any := by
  rw [entry_eq k.lv k.lo, get_nback, heads_ne (by simp)]
  intro v hv
  obtain ⟨p, d, hz, hh | ⟨g0, ys, rfl, hh⟩⟩ := (mem_enterW _ _ _).1 hv
  · injection hh with e1 e2
    exact h p (zOf_pl (ds := ds) (ext := ext) hz) e1.symm
  · injection hh with e1 e2; cases e1
theorem PartOK.objGet (k : PartOK ins vs ds os ext) (l : Nm) : (entry ins ds ext).get (.obj l) = St.get (objHeads 0 ext) (.obj l) := by
  rw [entry_eq k.lv k.lo, get_nback]
  intro v hv
  obtain ⟨p, d, hz, hh | ⟨g0, ys, rfl, hh⟩⟩ := (mem_enterW _ _ _).1 hv
  · injection hh with e1 e2
    have q := (plsOf_isPl (zOf_pl (ds := ds) (ext := ext) hz)).2
    simp only at q
    rw [← e1] at q; exact q.elim
  · injection hh with e1 e2; cases e1
theorem heads_get {ext : List (List FV)} {l : Nm} {n : Nat} (h : St.get (objHeads 0 ext) (.obj l) = .obj n) : ∃ j cs, l = .arg j ∧ ext[j]? = some cs ∧ n = cs.length := by
  rcases objHeads_get ext 0 (.obj l) with h1 | ⟨k, cs, h1, h2, h3⟩ | h1
  · exfalso
    by_cases hl : ∃ j, l = .arg j
    · obtain ⟨j, rfl⟩ := hl
      have := h1 j rfl; omega
    · clear h1
      have : ∀ (ext : List (List FV)) (j : Nat), St.get (objHeads j ext) (.obj l) = .any := by
        intro ext
        induction ext with
        | nil => intro j; rfl
        | cons c r ih => intro j; rw [objHeads, get_cons, if_neg (fun e => hl ⟨j, by simpa using e.symm⟩)]; exact ih _
      rw [this] at h; cases h
  · rw [h3] at h
    injection h with h
    simp at h1
    exact ⟨k, cs, h1, h2, h.symm⟩
  · rw [h1] at h; cases h
theorem heads_at {ext : List (List FV)} {j : Nat} {cs : List FV} (h : ext[j]? = some cs) : St.get (objHeads 0 ext) (.obj (.arg j)) = .obj cs.length := by
  rcases objHeads_get ext 0 (.obj (.arg j)) with h1 | ⟨k, cs', h1, h2, h3⟩ | h1
  · have := h1 j rfl; omega
  · simp at h1
    subst h1
    rw [h] at h2
    cases h2
    exact h3
  · exfalso
    have : ∀ (ext : List (List FV)) (j0 k : Nat), ext[k]? = some cs → St.get (objHeads j0 ext) (.obj (.arg (j0 + k))) = .obj cs.length := by
      intro ext
      induction ext with
      | nil => intro j0 k hk; simp at hk
      | cons c r ih =>
        intro j0 k hk
        rw [objHeads, get_cons]
        cases k with
        | zero => simp at hk; subst hk; simp
        | succ k => rw [if_neg (by simp)]; have := ih (j0 + 1) k (by simpa using hk); rwa [show j0 + 1 + k = j0 + (k + 1) from by omega] at this
    have := this ext 0 j h
    rw [Nat.zero_add] at this
    rw [this] at h1; cases h1
theorem PartOK.extOf (k : PartOK ins vs ds os ext) {j : Nat} {o : Nm} {cs : List FV} (h : os[j]? = some (o, cs)) : ∃ e, ext[j]? = some e ∧ e.length = cs.length := by
  have := congrArg (fun l => l[j]?) k.lo
  simp only [List.getElem?_map, h, Option.map_some] at this
  cases he : ext[j]? with
  | none => rw [he] at this; cases this
  | some e => rw [he] at this; simp at this; exact ⟨e, rfl, this.symm⟩
theorem PartOK.osOf (k : PartOK ins vs ds os ext) {j : Nat} {e : List FV} (h : ext[j]? = some e) : ∃ o cs, os[j]? = some (o, cs) ∧ e.length = cs.length := by
  have := congrArg (fun l => l[j]?) k.lo
  simp only [List.getElem?_map, h, Option.map_some] at this
  cases he : os[j]? with
  | none => rw [he] at this; cases this
  | some e => rw [he] at this; simp at this; exact ⟨e.1, e.2, rfl, this.symm⟩
end
end Go.Proofs.Fw

set_option autoImplicit false
set_option linter.unusedVariables false
set_option linter.unusedSimpArgs false
namespace Go.Proofs.Fw
open Go
variable {et : LTag → TypeId} {st : St}
/-! ### 1. What a part holds -/
def ZRel (os : List (Nm × List FV)) (st : St) (p : Pl) (d : FV) : Prop :=
  (plainS p.oc = true ∧ ((∃ s, p.ol = .slot s) ∨ plainCell p.oc = true) ∧ d = p.oc) ∨
  (∃ r g xs, p.oc = .own r g ∧ d = .ownv 0 xs ∧ notPtr xs = true ∧ st.get (.row r) = .ownv g xs) ∨
  (∃ t : LTag, p.oc = .nilsl ∧ (∃ s, p.ol = .slot s) ∧ d = .ownv 0 t.nil ∧ notPtr t.nil = true) ∨
  (∃ o j cs, p.oc = .ptr o 0 ∧ d = .ptr (.arg j) 0 ∧ (∃ s, p.ol = .slot s) ∧ os[j]? = some (o, cs))
theorem idxOf_spec {os : List (Nm × List FV)} {o : Nm} : ∀ {k j : Nat}, idxOf os k o = some j → ∃ i cs, j = k + i ∧ os[i]? = some (o, cs) := by
  induction os with
  | nil => intro k j h; simp [idxOf] at h
  | cons p os ih =>
    intro k j h
    obtain ⟨q, cs⟩ := p
    simp only [idxOf] at h
    cases hb : Nm.beq q o with
    | true =>
      rw [hb] at h
      simp at h
      exact ⟨0, cs, by omega, by simp [(Nm.beq_iff _ _).1 hb]⟩
    | false =>
      rw [hb] at h
      simp at h
      obtain ⟨i, cs', h1, h2⟩ := ih h
      exact ⟨i + 1, cs', by omega, by simpa using h2⟩
theorem plain_S {c : FV} (h : plainCell c = true) : plainS c = true := by cases c <;> simp_all [plainS, plainCell]
theorem innerV_spec {os : List (Nm × List FV)} {t : Option LTag} {v d : FV} {s : Nat} {il : Loc} (h : (innerV os t v).run st = some d) : ZRel os st ⟨.slot s, il, v⟩ d := by
  unfold innerV at h
  split at h
  · simp only [Q.run_bind, Option.bind_eq_some_iff] at h
    obtain ⟨xs, hx, h⟩ := h
    split at h
    · simp at h; subst h
      exact .inr (.inl ⟨_, _, xs, rfl, rfl, by assumption, rowc_run hx⟩)
    · simp at h
  · split at h
    · split at h
      · simp at h; subst h
        exact .inr (.inr (.inl ⟨_, rfl, ⟨s, rfl⟩, rfl, by assumption⟩))
      · simp at h
    · simp at h; subst h
      exact .inl ⟨rfl, .inl ⟨s, rfl⟩, rfl⟩
  · split at h
    · simp at h; subst h
      obtain ⟨i, cs, h1, h2⟩ := idxOf_spec (by assumption)
      rw [Nat.zero_add] at h1
      exact .inr (.inr (.inr ⟨_, _, cs, rfl, rfl, ⟨s, rfl⟩, by rw [h1]; exact h2⟩))
    · simp at h
  · split at h
    · simp at h; subst h
      exact .inl ⟨by assumption, .inl ⟨s, rfl⟩, rfl⟩
    · simp at h
theorem innerVs_spec {os : List (Nm × List FV)} : ∀ {ins : List (Nat × Option LTag)} {vs ds : List FV}, (innerVs os ins vs).run st = some ds → ins.length = vs.length ∧ vs.length = ds.length ∧ ∀ z ∈ (slotPl ins vs).zip ds, ZRel os st z.1 z.2
  | [], [], ds, h => by simp [innerVs] at h; subst h; simp [slotPl]
  | [], _ :: _, ds, h => by simp [innerVs] at h
  | _ :: _, [], ds, h => by simp [innerVs] at h
  | (s, t) :: ins, v :: vs, ds, h => by
    simp only [innerVs, Q.run_bind, Option.bind_eq_some_iff] at h
    obtain ⟨d, h1, ds', h2, h⟩ := h
    simp at h; subst h
    obtain ⟨a, b, c⟩ := innerVs_spec h2
    refine ⟨by simp [a], by simp [b], fun z hz => ?_⟩
    simp only [slotPl, List.zip_cons_cons, List.mem_cons] at hz
    rcases hz with rfl | hz
    · exact innerV_spec h1
    · exact c z hz
theorem extCells_spec {os : List (Nm × List FV)} {o : Nm} {j : Nat} : ∀ {cs es : List FV} {i : Nat}, (extCells cs).run st = some es → cs.length = es.length ∧ ∀ z ∈ (cellPl o j i cs).zip es, ZRel os st z.1 z.2
  | [], es, i, h => by simp [extCells] at h; subst h; simp [cellPl]
  | c :: cs, es, i, h => by
    have plain : ∀ (l : List FV), (extCells cs).run st = some l → plainCell c = true → es = c :: l → (c :: cs).length = es.length ∧ ∀ z ∈ (cellPl o j i (c :: cs)).zip es, ZRel os st z.1 z.2 := by
      intro l h1 hp e
      subst e
      obtain ⟨a, b⟩ := extCells_spec (i := i + 1) h1
      refine ⟨by simp [a], fun z hz => ?_⟩
      simp only [cellPl, List.zip_cons_cons, List.mem_cons] at hz
      rcases hz with rfl | hz
      · exact .inl ⟨plain_S hp, .inr hp, rfl⟩
      · exact b z hz
    unfold extCells at h
    split at h
    · rename_i e; cases e
    · rename_i r g vs e
      cases e
      simp only [Q.run_bind, Option.bind_eq_some_iff] at h
      obtain ⟨xs, hx, l, h1, h⟩ := h
      split at h
      · simp at h; subst h
        obtain ⟨a, b⟩ := extCells_spec (i := i + 1) h1
        refine ⟨by simp [a], fun z hz => ?_⟩
        simp only [cellPl, List.zip_cons_cons, List.mem_cons] at hz
        rcases hz with rfl | hz
        · exact .inr (.inl ⟨r, g, xs, rfl, rfl, by assumption, rowc_run hx⟩)
        · exact b z hz
      · simp at h
    · rename_i e
      cases e
      simp only [Q.run_bind, Option.bind_eq_some_iff] at h
      obtain ⟨l, h1, h⟩ := h
      split at h
      · simp at h
        exact plain l h1 (by assumption) h.symm
      · simp at h
theorem extObjs_spec {os0 : List (Nm × List FV)} : ∀ {os : List (Nm × List FV)} {ext : List (List FV)} {j : Nat}, (extObjs os).run st = some ext → os.map (·.2.length) = ext.map List.length ∧ ∀ z ∈ (objPl j os).zip ext.flatten, ZRel os0 st z.1 z.2
  | [], ext, j, h => by simp [extObjs] at h; subst h; simp [objPl]
  | (o, cs) :: os, ext, j, h => by
    simp only [extObjs, Q.run_bind, Option.bind_eq_some_iff] at h
    obtain ⟨e, h1, l, h2, h⟩ := h
    simp at h; subst h
    obtain ⟨a, b⟩ := extCells_spec (os := os0) (o := o) (j := j) (i := 0) h1
    obtain ⟨c, d⟩ := extObjs_spec (os0 := os0) (j := j + 1) h2
    refine ⟨by simp [a, c], fun z hz => ?_⟩
    simp only [objPl, List.flatten_cons] at hz
    rw [List.zip_append (by rw [cellPl_len, a])] at hz
    rcases List.mem_append.1 hz with hz | hz
    · exact b z hz
    · exact d z hz
theorem readObjs_spec : ∀ {names : List Nm} {os : List (Nm × List FV)}, (readObjs names).run st = some os → os.map (·.1) = names ∧ ∀ o cs, (o, cs) ∈ os → st.get (.obj o) = .obj cs.length ∧ ∀ (i : Nat) (c : FV), cs[i]? = some c → st.get (.cell o i) = c
  | [], os, h => by simp [readObjs] at h; subst h; simp
  | o :: names, os, h => by
    simp only [readObjs, Q.run_bind, Option.bind_eq_some_iff] at h
    obtain ⟨v, hv, h⟩ := h
    simp at hv
    split at h
    · simp only [Q.run_bind, Option.bind_eq_some_iff] at h
      obtain ⟨cs, h1, l, h2, h⟩ := h
      simp at h; subst h
      obtain ⟨a, b⟩ := readObjs_spec h2
      rw [readCells_run] at h1
      simp at h1
      refine ⟨by simp [a], fun o' cs' hm => ?_⟩
      simp only [List.mem_cons] at hm
      rcases hm with hm | hm
      · cases hm
        subst h1
        refine ⟨by rw [hv]; simp, fun i c hc => ?_⟩
        simp only [List.getElem?_map, Option.map_eq_some_iff] at hc
        obtain ⟨k, hk, rfl⟩ := hc
        have := List.getElem?_eq_some_iff.1 hk
        obtain ⟨_, e⟩ := this
        simp at e
        rw [e]
      · exact b o' cs' hm
    · simp at h
theorem subSt_spec {names : List Nm} {ins : List (Nat × Option LTag)} {vs ds : List FV} {ws : St} {os : List (Nm × List FV)} {ext : List (List FV)} (h : (subSt names ins vs ws).run st = some (ds, os, ext)) :
    PartOK ins vs ds os ext ∧ os.map (·.1) = names ∧ (∀ o cs, (o, cs) ∈ os → st.get (.obj o) = .obj cs.length ∧ ∀ (i : Nat) (c : FV), cs[i]? = some c → st.get (.cell o i) = c) ∧
    (∀ z ∈ zOf ins vs ds os ext, ZRel os st z.1 z.2) ∧ ∀ r ∈ rowsOf ((plsOf ins vs os).map (·.oc)), ∀ v, (Loc.row r, v) ∉ ws := by
  simp only [subSt, Q.run_bind, Option.bind_eq_some_iff] at h
  obtain ⟨os', h1, ds', h2, ext', h3, h⟩ := h
  split at h
  · rename_i hc
    simp at h
    obtain ⟨rfl, rfl, rfl⟩ := h
    simp only [Bool.and_eq_true, Bool.not_eq_true'] at hc
    obtain ⟨⟨⟨⟨c1, c2⟩, c3⟩, c4⟩, c5⟩ := hc
    obtain ⟨a1, a2, a3⟩ := innerVs_spec h2
    obtain ⟨b1, b2⟩ := extObjs_spec (os0 := os') (j := 0) h3
    obtain ⟨d1, d2⟩ := readObjs_spec h1
    refine ⟨⟨a2, a1, b1, c2, c1, c3, c4⟩, d1, d2, fun z hz => ?_, fun r hr v hv => ?_⟩
    · unfold zOf plsOf at hz
      rw [List.zip_append (by rw [slotPl_len _ _ a1, a2])] at hz
      rcases List.mem_append.1 hz with hz | hz
      · exact a3 z hz
      · exact b2 z hz
    · have := (meets_iff ((rowsOf ((plsOf ins vs os').map (·.oc))).map .row) (ws.map (·.1))).2 ⟨.row r, List.mem_map_of_mem hr, List.mem_map_of_mem hv⟩
      rw [show plsOf ins vs os' = slotPl ins vs ++ objPl 0 os' from rfl, c5] at this
      cases this
  · simp at h
/-! ### 2. The part's memory -/
section
variable {ins : List (Nat × Option LTag)} {vs ds : List FV} {os : List (Nm × List FV)} {ext : List (List FV)} {m : Mem}
open Classical in
noncomputable def subRho (Z : List (Pl × FV)) (m : Mem) (q : Nm) : Value :=
  if h : ∃ z ∈ Z, nmOf z.1.il = q then (match (Classical.choose h).1.oc with
    | .own r _ => m.ρ r
    | _ => .slice none 0 0) else undef
def subBeta (os : List (Nm × List FV)) (m : Mem) : Nm → Nat
  | .arg j => match os[j]? with
    | some (o, _) => m.β o
    | none => 0
  | _ => 0
noncomputable def subMem (ins : List (Nat × Option LTag)) (vs ds : List FV) (os : List (Nm × List FV)) (ext : List (List FV)) (st : St) (m : Mem) : Mem :=
  { w := m.w, β := subBeta os m, ρ := subRho (zOf ins vs ds os ext) m, X := fun b => mutB st m b ∧ ¬ liveB (entry ins ds ext) { w := m.w, β := subBeta os m, ρ := subRho (zOf ins vs ds os ext) m, X := m.X } b }
def eoOf (os : List (Nm × List FV)) (p o : Nm) : Prop := ∃ j cs, p = .arg j ∧ os[j]? = some (o, cs)
def erOf (Z : List (Pl × FV)) (q r : Nm) : Prop := ∃ z ∈ Z, nmOf z.1.il = q ∧ ∃ g, z.1.oc = .own r g
theorem PartOK.rho (k : PartOK ins vs ds os ext) {z : Pl × FV} (h : z ∈ zOf ins vs ds os ext) : subRho (zOf ins vs ds os ext) m (nmOf z.1.il) = (match z.1.oc with
    | .own r _ => m.ρ r
    | _ => .slice none 0 0) := by
  have hx : ∃ z' ∈ zOf ins vs ds os ext, nmOf z'.1.il = nmOf z.1.il := ⟨z, h, rfl⟩
  unfold subRho
  rw [dif_pos hx]
  obtain ⟨h1, h2⟩ := Classical.choose_spec hx
  rw [k.zil h1 h (nmOf_inj (plsOf_isPl (zOf_pl h1)).2 (plsOf_isPl (zOf_pl h)).2 h2)]
theorem PartOK.eo_inj (k : PartOK ins vs ds os ext) : ∀ p p' o, eoOf os p o → eoOf os p' o → p = p' := by
  rintro p p' o ⟨j, cs, rfl, h⟩ ⟨j', cs', rfl, h'⟩
  have : j = j' := nodupNm_get k.on (x := o) (by simp [h]) (by simp [h'])
  rw [this]
theorem eo_fun : ∀ p o o', eoOf os p o → eoOf os p o' → o = o' := by
  rintro p o o' ⟨j, cs, rfl, h⟩ ⟨j', cs', e, h'⟩
  cases e
  rw [h] at h'
  cases h'; rfl
theorem PartOK.er_inj (k : PartOK ins vs ds os ext) : ∀ q q' r, erOf (zOf ins vs ds os ext) q r → erOf (zOf ins vs ds os ext) q' r → q = q' := by
  rintro q q' r ⟨z, hz, rfl, g, e⟩ ⟨z', hz', rfl, g', e'⟩
  rw [k.zrow hz hz' e e']
theorem PartOK.cellZ (k : PartOK ins vs ds os ext) {j : Nat} {o : Nm} {cs : List FV} {i : Nat} {c : FV} (h1 : os[j]? = some (o, cs)) (h2 : cs[i]? = some c) : ∃ d, (⟨.cell o i, .cell (.arg j) i, c⟩, d) ∈ zOf ins vs ds os ext := by
  refine k.zmem ?_
  simp only [plsOf, List.mem_append]
  exact .inr ((mem_objPl _ _ _).2 ⟨j, o, cs, i, c, h1, h2, by simp⟩)
theorem part_in (k : PartOK ins vs ds os ext) (hm : MemOK et st m) (hos : ∀ o cs, (o, cs) ∈ os → st.get (.obj o) = .obj cs.length ∧ ∀ (i : Nat) (c : FV), cs[i]? = some c → st.get (.cell o i) = c)
    (hz : ∀ z ∈ zOf ins vs ds os ext, ZRel os st z.1 z.2) : SubIn st m (entry ins ds ext) (subMem ins vs ds os ext st m) (eoOf os) (erOf (zOf ins vs ds os ext)) := by
  refine ⟨rfl, fun b => Iff.rfl, fun p n hp => ?_, fun q g xs hq => ?_, k.eo_inj, eo_fun, k.er_inj⟩
  · rw [k.objGet] at hp
    obtain ⟨j, e, rfl, he, rfl⟩ := heads_get hp
    obtain ⟨o, cs, ho, hl⟩ := k.osOf he
    obtain ⟨a1, a2⟩ := hos o cs (List.mem_of_getElem? ho)
    refine ⟨o, ⟨j, cs, rfl, ho⟩, by rw [hl]; exact a1, by simp [subMem, subBeta, ho], fun i hi => ?_⟩
    have hc : cs[i]? = some cs[i] := by simp [show i < cs.length from by omega]
    obtain ⟨d, hd⟩ := k.cellZ ho hc
    have hg := k.get hd
    simp only at hg
    rw [hg, a2 i _ hc]
    rcases hz _ hd with ⟨h1, ⟨s, h2⟩ | h2, h3⟩ | ⟨r, g, xs, h1, h2, h3, h4⟩ | ⟨t, h1, ⟨s, h2⟩, h3⟩ | ⟨o', j', cs', h1, h2, ⟨s, h3⟩, h4⟩
    · cases h2
    · left
      simp only at h2 h3
      subst h3
      generalize cs[i] = c at h2
      cases c <;> first | exact ⟨h2, rfl⟩ | (simp [plainCell] at h2)
    · right
      simp only at h1 h2
      subst h2
      refine ⟨.cell (.arg j) i, r, 0, g, xs, rfl, h1, ⟨_, hd, rfl, g, h1⟩, k.getRow hd, h4, ?_⟩
      have := k.rho (m := m) hd
      simp only [h1] at this
      exact this
    · cases h2
    · cases h3
  · obtain ⟨rfl, p, g0, hp, rfl⟩ := k.rowGet hq
    have hr := k.rho (m := m) hp
    rcases hz _ hp with ⟨h1, h2, h3⟩ | ⟨r, g, ys, h1, h2, h3, h4⟩ | ⟨t, h1, ⟨s, h2⟩, h3, h4⟩ | ⟨o', j', cs', h1, h2, ⟨s, h3⟩, h4⟩
    · simp only at h3
      rw [← h3] at h1; simp [plainS, plainCell] at h1
    · simp only at h1 h2
      cases h2
      refine ⟨h3, .inl ⟨r, g, ⟨_, hp, rfl, g, h1⟩, h4, ?_⟩⟩
      simp only [h1] at hr; exact hr
    · simp only at h1 h3
      cases h3
      refine ⟨h4, .inr ⟨LTag.nil_len t, ?_⟩⟩
      simp only [h1] at hr; exact hr
    · simp at h2
section
variable {st' : St} {m' : Mem} (T : ∀ c v, DR (mutB st m) m.w c v → DR (mutB st' m') m'.w c v)
include T in
theorem plain_r1 {c : FV} {v : Value} (h : plainCell c = true) (hv : R1 st m c v) : R1 st' m' c v := (plain_dr h).2 (T c v ((plain_dr h).1 hv))
include T in
theorem plain_all : ∀ {vs : List FV} {cs : List Value}, plainAll vs = true → All2 (R1 st m) vs cs → All2 (R1 st' m') vs cs
  | [], [], _, _ => trivial
  | [], _ :: _, _, h => h.elim
  | _ :: _, [], _, h => h.elim
  | v :: vs, c :: cs, hp, h => by
    simp only [plainAll, Bool.and_eq_true] at hp
    exact ⟨plain_r1 T hp.1 h.1, plain_all hp.2 h.2⟩
include T in
theorem plain_ra {c : FV} {v : Value} (h : plainS c = true) (hv : RA st m c v) : RA st' m' c v := by
  cases c with
  | agg vs =>
    obtain ⟨cs, rfl, hc⟩ := hv
    exact ⟨cs, rfl, plain_all T h hc⟩
  | tup vs => exact hv.elim
  | _ => (simp only [plainS] at h; exact plain_r1 (v := v) T h hv)
include T in
theorem plain_ras : ∀ {vs : List FV} {cs : List Value}, plainSs vs = true → All2 (RA st m) vs cs → All2 (RA st' m') vs cs
  | [], [], _, _ => trivial
  | [], _ :: _, _, h => h.elim
  | _ :: _, [], _, h => h.elim
  | v :: vs, c :: cs, hp, h => by
    simp only [plainSs, Bool.and_eq_true] at hp
    exact ⟨plain_ra T hp.1 h.1, plain_ras hp.2 h.2⟩
include T in
theorem plain_rs {c : FV} {v : Value} (h : plainR c = true) (hv : RS st m c v) : RS st' m' c v := by
  cases c with
  | tup vs =>
    obtain ⟨cs, rfl, hc⟩ := hv
    exact ⟨cs, rfl, plain_ras T h hc⟩
  | _ => (simp only [plainR] at h; exact plain_ra (v := v) T h hv)
end
theorem plainS_R {c : FV} (h : plainS c = true) : plainR c = true := by cases c <;> simp_all [plainR, plainS, plainCell]
theorem plainS_inV {c : FV} (h : plainS c = true) (l : Loc) : inV l c = c := by cases c <;> simp_all [inV, plainS, plainCell]
/-- The slots of a part. -/
theorem part_slot (k : PartOK ins vs ds os ext) (hz : ∀ z ∈ zOf ins vs ds os ext, ZRel os st z.1 z.2) (t : SubIn st m (entry ins ds ext) (subMem ins vs ds os ext st m) (eoOf os) (erOf (zOf ins vs ds os ext)))
    {p : Pl} {d : FV} (hp : (p, d) ∈ zOf ins vs ds os ext) {s : Nat} (hs : p.il = .slot s) {v : Value} (hv : RS st m p.oc v) : RS (entry ins ds ext) (subMem ins vs ds os ext st m) ((entry ins ds ext).get (.slot s)) v := by
  have hg := k.get hp
  rw [hs] at hg
  rw [hg]
  have hr := k.rho (m := m) hp
  have hrow : ∀ {g0 xs}, d = .ownv g0 xs → (entry ins ds ext).get (.row (nmOf p.il)) = .ownv 0 xs := fun e => k.getRow (e ▸ hp)
  rw [hs] at hrow hr
  rcases hz _ hp with ⟨h1, h2, h3⟩ | ⟨r, g, ys, h1, h2, h3, h4⟩ | ⟨t', h1, ⟨s, h2⟩, h3, h4⟩ | ⟨o', j', cs', h1, h2, ⟨s, h3⟩, h4⟩
  · simp only at h1 h3
    subst h3
    rw [plainS_inV h1]
    exact plain_rs (fun c v => t.dr) (plainS_R h1) hv
  · simp only at h1 h2
    rw [h1] at hv hr
    subst h2
    have hrow := hrow rfl
    refine ⟨hv.1, ⟨0, by rw [hrow]; rfl, Nat.le_refl _⟩, fun zs hz => ?_⟩
    rw [hv.2.2 ys h4]
    exact hr.symm
  · simp only at h1 h3
    rw [h1] at hv hr
    subst h3
    have hrow := hrow rfl
    cases hv
    exact ⟨⟨_, _, _, rfl⟩, ⟨0, by rw [hrow]; rfl, Nat.le_refl _⟩, fun zs hz => hr.symm⟩
  · simp only at h1 h2
    rw [h1] at hv
    subst h2
    obtain ⟨e, he, _⟩ := k.extOf h4
    refine ⟨⟨e.length, ?_⟩, ?_⟩
    · rw [k.objGet]; exact heads_at he
    · obtain ⟨_, rfl⟩ := hv
      simp [subMem, subBeta, h4]
end
end Go.Proofs.Fw

set_option autoImplicit false
set_option linter.unusedVariables false
set_option linter.unusedSimpArgs false
namespace Go.Proofs.Fw
open Go
variable {et : LTag → TypeId} {st : St}
/-! ### Behind a part -/
inductive BR (os : List (Nm × List FV)) (st : St) (p : Pl) : FV → St → Prop where
  | oo (r : Nm) (g g0 : Nat) (xs : LS) (h : p.oc = .own r g) (hn : notPtr xs = true) : BR os st p (.ownv g0 xs) [(p.ol, .own r (g + 1)), (.row r, .ownv (g + 1) xs)]
  | no (g g0 : Nat) (xs : LS) (h : ∀ r g, p.oc ≠ .own r g) (hg : (newGen (nmOf p.ol)).run st = some g) (hn : notPtr xs = true) : BR os st p (.ownv g0 xs) [(p.ol, .own (nmOf p.ol) g), (.row (nmOf p.ol), .ownv g xs)]
  | on (r : Nm) (g : Nat) (d : FV) (h : p.oc = .own r g) (hd : plainCell d = true) : BR os st p d [(p.ol, d), (.row r, .dead g)]
  | nn (d : FV) (h : ∀ r g, p.oc ≠ .own r g) (hd : plainCell d = true ∨ (plainS d = true ∧ ∃ s, p.ol = .slot s)) : BR os st p d [(p.ol, d)]
  | pp (o : Nm) (j : Nat) (h : p.oc = .ptr o 0) (hi : idxOf os 0 o = some j) : BR os st p (.ptr (.arg j) 0) []
theorem backW_spec {os : List (Nm × List FV)} : ∀ {ps : List Pl} {ds : List FV} {back : St}, (backW os ps ds).run st = some back → ps.length = ds.length ∧ (∀ z ∈ ps.zip ds, ∃ W, BR os st z.1 z.2 W ∧ ∀ x ∈ W, x ∈ back) ∧ ∀ x ∈ back, ∃ z ∈ ps.zip ds, ∃ W, BR os st z.1 z.2 W ∧ x ∈ W ∧ ∀ y ∈ W, y ∈ back
  | [], [], back, h => by simp [backW] at h; subst h; simp
  | [], _ :: _, back, h => by simp [backW] at h
  | _ :: _, [], back, h => by simp [backW] at h
  | p :: ps, d :: ds, back, h => by
    simp only [backW, Q.run_bind, Option.bind_eq_some_iff] at h
    obtain ⟨l, h1, h⟩ := h
    obtain ⟨a1, a2, a3⟩ := backW_spec h1
    have fin : ∀ W, BR os st p d W → back = W ++ l → (p :: ps).length = (d :: ds).length ∧ (∀ z ∈ (p :: ps).zip (d :: ds), ∃ W, BR os st z.1 z.2 W ∧ ∀ x ∈ W, x ∈ back) ∧ ∀ x ∈ back, ∃ z ∈ (p :: ps).zip (d :: ds), ∃ W, BR os st z.1 z.2 W ∧ x ∈ W ∧ ∀ y ∈ W, y ∈ back := by
      intro W hW e
      subst e
      refine ⟨by simp [a1], fun z hz => ?_, fun x hx => ?_⟩
      · simp only [List.zip_cons_cons, List.mem_cons] at hz
        rcases hz with rfl | hz
        · exact ⟨W, hW, fun x hx => by simp [hx]⟩
        · obtain ⟨W', b1, b2⟩ := a2 z hz
          exact ⟨W', b1, fun x hx => by simp [b2 x hx]⟩
      · rcases List.mem_append.1 hx with hx | hx
        · exact ⟨(p, d), by simp, W, hW, hx, fun y hy => by simp [hy]⟩
        · obtain ⟨z, hz, W', b1, b2, b3⟩ := a3 x hx
          exact ⟨z, by simp [hz], W', b1, b2, fun y hy => by simp [b3 y hy]⟩
    split at h
    · rename_i r g g0 xs hoc
      split at h
      · simp at h; exact fin _ (.oo r g _ xs hoc (by assumption)) (by simpa using h.symm)
      · simp at h
    · rename_i o j hoc
      split at h
      · rename_i k hk
        split at h
        · rename_i hb
          simp at h
          have := Nat.eq_of_beq_eq_true hb
          subst this
          exact fin _ (.pp o _ hoc hk) (by simpa using h.symm)
        · simp at h
      · simp at h
    · rename_i g0 xs hno
      simp only [Q.run_bind, Option.bind_eq_some_iff] at h
      obtain ⟨g, hg, h⟩ := h
      split at h
      · simp at h
        exact fin _ (.no g _ xs (fun r g e => hno r g e) hg (by assumption)) (by simpa using h.symm)
      · simp at h
    · rename_i r g hoc hno
      split at h
      · simp at h; exact fin _ (.on r g _ hoc (by assumption)) (by simpa using h.symm)
      · simp at h
    · simp at h
    · rename_i d _ _ _ hno _ _ _
      have go : ∀ (c : Bool), (c = true → plainCell d = true ∨ (plainS d = true ∧ ∃ s, p.ol = .slot s)) → (if c = true then (Pure.pure ((p.ol, d) :: l) : Q St) else .fail).run st = some back → (p :: ps).length = (d :: ds).length ∧ (∀ z ∈ (p :: ps).zip (d :: ds), ∃ W, BR os st z.1 z.2 W ∧ ∀ x ∈ W, x ∈ back) ∧ ∀ x ∈ back, ∃ z ∈ (p :: ps).zip (d :: ds), ∃ W, BR os st z.1 z.2 W ∧ x ∈ W ∧ ∀ y ∈ W, y ∈ back := by
        intro c hc h
        split at h
        · rename_i hc'
          simp at h
          exact fin _ (.nn _ (fun r g e => hno r g e) (hc hc')) (by simpa using h.symm)
        · simp at h
      refine go _ (fun hc => ?_) h
      simp only [Bool.or_eq_true, Bool.and_eq_true] at hc
      rcases hc with hc | ⟨hc, hs⟩
      · exact .inl hc
      · refine .inr ⟨hc, ?_⟩
        cases hol : p.ol <;> simp [hol] at hs
        exact ⟨_, rfl⟩
theorem sameNats_iff : ∀ (a b : List Nat), sameNats a b = true ↔ a = b
  | [], [] => by simp [sameNats]
  | [], _ :: _ => by simp [sameNats]
  | _ :: _, [] => by simp [sameNats]
  | a :: as, b :: bs => by simp [sameNats, sameNats_iff as bs]
structure BackOK (os : List (Nm × List FV)) (st : St) (pls : List Pl) (ds : List FV) (back ws : St) : Prop where
  len : pls.length = ds.length
  all : ∀ z ∈ pls.zip ds, ∃ W, BR os st z.1 z.2 W ∧ ∀ x ∈ W, x ∈ back
  of : ∀ x ∈ back, ∃ z ∈ pls.zip ds, ∃ W, BR os st z.1 z.2 W ∧ x ∈ W ∧ ∀ y ∈ W, y ∈ back
  keys : ∀ l v v', (l, v) ∈ back → (l, v') ∈ back → v = v'
  rows : ∀ l l' r g g', (l, FV.own r g) ∈ back → (l', FV.own r g') ∈ back → l = l' ∧ g = g'
  ws : ∀ l v v', (l, v) ∈ back → (l, v') ∉ ws
theorem backSt_spec {ins : List (Nat × Option LTag)} {vs us : List FV} {os : List (Nm × List FV)} {ws back : St} {objs : List (List FV)} (h : (backSt ins vs os ws us objs).run st = some back) :
    os.map (·.2.length) = objs.map List.length ∧ BackOK os st (plsOf ins vs os) (us ++ objs.flatten) back ws := by
  simp only [backSt, Q.run_bind, Option.bind_eq_some_iff] at h
  obtain ⟨b, h1, h⟩ := h
  split at h
  · rename_i hc
    simp at h; subst h
    simp only [Bool.and_eq_true, Bool.not_eq_true'] at hc
    obtain ⟨⟨⟨c1, c2⟩, c3⟩, c4⟩ := hc
    obtain ⟨a1, a2, a3⟩ := backW_spec h1
    refine ⟨((sameNats_iff _ _).1 c1).symm, a1, a2, a3, fun l v v' h h' => ?_, fun l l' r g g' h h' => ?_, fun l v v' h h' => ?_⟩
    · have := nodupL_fun c2 h h' rfl
      cases this; rfl
    · have := nodupR_fun (f := fun x : Loc × FV => x.2) c3 h h' rfl rfl
      cases this; exact ⟨rfl, rfl⟩
    · have := (meets_iff (b.map (·.1)) (ws.map (·.1))).2 ⟨l, List.mem_map_of_mem (f := fun x : Loc × FV => x.1) h, List.mem_map_of_mem (f := fun x : Loc × FV => x.1) h'⟩
      rw [c4] at this; cases this
  · simp at h
section
variable {ins : List (Nat × Option LTag)} {vs ds us : List FV} {os : List (Nm × List FV)} {ext objs : List (List FV)} {m m' : Mem} {back ws : St}
def enOf (Z : List (Pl × FV)) (back : St) (q r : Nm) : Prop := ∃ z ∈ Z, nmOf z.1.il = q ∧ ∃ g, (z.1.ol, FV.own r g) ∈ back
theorem PartOK.after (k : PartOK ins vs ds os ext) (hl : us.length = vs.length) (ho : os.map (·.2.length) = objs.map List.length) : PartOK ins vs us os objs := ⟨hl.symm, k.li, ho, k.il, k.ol, k.on, k.rn⟩
theorem part_out (k : PartOK ins vs ds os ext) (k' : PartOK ins vs us os objs) (hz : ∀ z ∈ zOf ins vs ds os ext, ZRel os st z.1 z.2)
    (b : BackOK os st (plsOf ins vs os) (us ++ objs.flatten) back ws) (he : Ext (entry ins ds ext) (subMem ins vs ds os ext st m) (entry ins us objs) m')
    (hβ : ∀ j o cs, os[j]? = some (o, cs) → m'.β (.arg j) = m.β o) :
    SubOut st m (entry ins ds ext) (subMem ins vs ds os ext st m) (entry ins us objs) m' (eoOf os) (erOf (zOf ins vs ds os ext)) (enOf (zOf ins vs us os objs) back) back := by
  have both : ∀ {p : Pl}, p ∈ plsOf ins vs os → ∃ d d', (p, d) ∈ zOf ins vs ds os ext ∧ (p, d') ∈ zOf ins vs us os objs := fun hp => by
    obtain ⟨d, h1⟩ := k.zmem hp
    obtain ⟨d', h2⟩ := k'.zmem hp
    exact ⟨d, d', h1, h2⟩
  have zown : ∀ {p : Pl} {r : Nm} {g : Nat}, p ∈ plsOf ins vs os → p.oc = .own r g → ∃ xs, st.get (.row r) = .ownv g xs := fun {p r g} hp e => by
    obtain ⟨d, _, h1, _⟩ := both hp
    rcases hz _ h1 with ⟨h1, h2, h3⟩ | ⟨r', g', ys, h1, h2, h3, h4⟩ | ⟨t', h1, ⟨s, h2⟩, h3, h4⟩ | ⟨o', j', cs', h1, h2, ⟨s, h3⟩, h4⟩
    · simp only [e] at h1; simp [plainS, plainCell] at h1
    · rw [e] at h1; cases h1; exact ⟨ys, h4⟩
    · rw [e] at h1; cases h1
    · rw [e] at h1; cases h1
  have olpl : ∀ {z : Pl × FV}, z ∈ zOf ins vs us os objs → isPl z.1.ol := fun hz => (plsOf_isPl (zOf_pl hz)).1
  refine ⟨he, fun p n hp => ?_, b.keys, fun o v hv => ?_, fun o i v hv => ?_, fun p n o i hp ho hi => ?_, fun r v hv => ?_, fun q g xs r hq hr => ?_, fun q q' r h1 h2 => ?_, fun q r r' h1 h2 => ?_⟩
  · rw [k.objGet] at hp
    obtain ⟨j, e, rfl, h1, rfl⟩ := heads_get hp
    obtain ⟨o, cs, h2, h3⟩ := k.osOf h1
    obtain ⟨e', h4, h5⟩ := k'.extOf h2
    refine ⟨by rw [k'.objGet, heads_at h4, h5, h3], ?_⟩
    rw [hβ j o cs h2]
    simp [subMem, subBeta, h2]
  · obtain ⟨⟨p, d⟩, hz', W, h1, h2, _⟩ := b.of _ hv
    have hp : isPl p.ol := olpl hz'
    cases h1 <;> simp at h2
    · rcases h2 with ⟨h2, _⟩ ; rw [← h2] at hp; exact hp
    · rcases h2 with ⟨h2, _⟩ ; rw [← h2] at hp; exact hp
    · rcases h2 with ⟨h2, _⟩ ; rw [← h2] at hp; exact hp
    · rw [← h2.1] at hp; exact hp
  · obtain ⟨⟨p, d⟩, hz', W, h1, h2, h3⟩ := b.of _ hv
    have hz2 : (p, d) ∈ zOf ins vs us os objs := hz'
    simp only at h1
    have hol : p.ol = .cell o i := by
      cases h1 <;> simp at h2
      · exact h2.1.symm
      · exact h2.1.symm
      · exact h2.1.symm
      · exact h2.1.symm
    rcases plsOf_pl (zOf_pl hz2) with ⟨s, e, _⟩ | ⟨j, o', cs, i', q1, q2, q3, q4⟩
    · simp only at e; rw [hol] at e; cases e
    · simp only at q2 q3 q4
      rw [hol] at q3; cases q3
      have hi : i < cs.length := (List.getElem?_eq_some_iff.1 q2).1
      obtain ⟨e, h4, h5⟩ := k.extOf q1
      refine ⟨.arg j, e.length, ⟨j, cs, rfl, q1⟩, by rw [k.objGet]; exact heads_at h4, by omega, ?_⟩
      have hg := k'.get hz2
      rw [q4] at hg
      rw [hg]
      cases h1 with
      | oo r g g0 xs h hn =>
        simp at h2
        obtain ⟨_, rfl⟩ := h2
        have hrow := k'.getRow hz2
        rw [q4] at hrow
        exact .inr ⟨_, 0, xs, r, g + 1, rfl, hrow, ⟨_, hz2, by simp [q4], g + 1, by simp only; rw [hol]; exact hv⟩, rfl, h3 _ (by simp)⟩
      | no g g0 xs h hg0 hn =>
        simp at h2
        obtain ⟨_, rfl⟩ := h2
        have hrow := k'.getRow hz2
        rw [q4] at hrow
        exact .inr ⟨_, 0, xs, nmOf p.ol, g, rfl, hrow, ⟨_, hz2, by simp [q4], g, by simp only; rw [hol] at hv ⊢; exact hv⟩, rfl, h3 _ (by simp)⟩
      | on r g d h hd =>
        simp at h2
        obtain ⟨_, rfl⟩ := h2
        rw [plainS_inV (plain_S hd)]
        exact .inl ⟨hd, rfl⟩
      | nn d h hd =>
        simp at h2
        obtain ⟨_, rfl⟩ := h2
        rcases hd with hd | ⟨_, s, e⟩
        · rw [plainS_inV (plain_S hd)]
          exact .inl ⟨hd, rfl⟩
        · rw [hol] at e; cases e
      | pp o' j' h hi => simp at h2
  · obtain ⟨j, cs, rfl, h1⟩ := ho
    rw [k.objGet] at hp
    obtain ⟨j', e, e1, h2, rfl⟩ := heads_get hp
    cases e1
    obtain ⟨e', h4, h5⟩ := k.extOf h1
    rw [h2] at h4; cases h4
    have hc : cs[i]? = some cs[i] := by simp [show i < cs.length from by omega]
    obtain ⟨d0, hd0⟩ := k.cellZ h1 hc
    obtain ⟨d', hd'⟩ := k'.cellZ h1 hc
    obtain ⟨W, w1, w2⟩ := b.all _ hd'
    simp only at w1
    generalize hp' : (⟨.cell o i, .cell (.arg j) i, cs[i]⟩ : Pl) = p' at w1
    have hol : p'.ol = .cell o i := by rw [← hp']
    cases w1 with
    | oo r g g0 xs h hn => exact ⟨_, w2 _ (by rw [hol]; exact List.mem_cons_self)⟩
    | no g g0 xs h hg0 hn => exact ⟨_, w2 _ (by rw [hol]; exact List.mem_cons_self)⟩
    | on r g d h hd => exact ⟨_, w2 _ (by rw [hol]; exact List.mem_cons_self)⟩
    | nn d h hd => exact ⟨_, w2 _ (by rw [hol]; exact List.mem_cons_self)⟩
    | pp o' j' h hi' =>
      exfalso
      rw [hp'] at hd0
      rcases hz _ hd0 with ⟨q1, q2, q3⟩ | ⟨r', g', ys, q1, q2, q3, q4⟩ | ⟨t', q1, ⟨s, q2⟩, q3, q4⟩ | ⟨o', j', cs', q1, q2, ⟨s, q3⟩, q4⟩
      · simp only [h] at q1; simp [plainS, plainCell] at q1
      · rw [h] at q1; cases q1
      · rw [h] at q1; cases q1
      · simp only at q3; rw [hol] at q3; cases q3
  · obtain ⟨⟨p, d⟩, hz', W, h1, h2, h3⟩ := b.of _ hv
    have hz2 : (p, d) ∈ zOf ins vs us os objs := hz'
    have hpl := zOf_pl hz2
    simp only at h1 hpl
    have hpo : isPl p.ol := olpl hz2
    have nrow : ∀ {v' : FV}, (Loc.row r, v) = (p.ol, v') → False := fun e => by injection e with e1 _; rw [← e1] at hpo; exact hpo
    cases h1 with
    | oo r' g g0 xs h hn =>
      simp only [List.mem_cons, List.not_mem_nil, or_false] at h2
      rcases h2 with h2 | h2
      · exact (nrow h2).elim
      · cases h2
        obtain ⟨xs0, hx0⟩ := zown hpl h
        refine .inl ⟨nmOf p.il, 0, g + 1, xs, rfl, ⟨_, hz2, rfl, g + 1, h3 _ (by simp)⟩, k'.getRow hz2, hn, fun g1 hg1 => ?_⟩
        rw [hx0] at hg1; simp [genOf] at hg1; omega
    | no g g0 xs h hg0 hn =>
      simp only [List.mem_cons, List.not_mem_nil, or_false] at h2
      rcases h2 with h2 | h2
      · exact (nrow h2).elim
      · cases h2
        exact .inl ⟨nmOf p.il, 0, g, xs, rfl, ⟨_, hz2, rfl, g, h3 _ (by simp)⟩, k'.getRow hz2, hn, newGen_run hg0⟩
    | on r' g d h hd =>
      simp only [List.mem_cons, List.not_mem_nil, or_false] at h2
      rcases h2 with h2 | h2
      · exact (nrow h2).elim
      · cases h2
        obtain ⟨xs0, hx0⟩ := zown hpl h
        exact .inr ⟨g, xs0, rfl, hx0⟩
    | nn d h hd =>
      simp only [List.mem_cons, List.not_mem_nil, or_false] at h2
      exact (nrow h2).elim
    | pp o' j' h hi => simp at h2
  · obtain ⟨z, h1, h2, g', h3⟩ := hr
    have hpl := zOf_pl h1
    obtain ⟨d', hd'⟩ := k'.zmem hpl
    obtain ⟨W, w1, w2⟩ := b.all _ hd'
    simp only at w1
    cases w1 with
    | oo r' g g0 xs h hn => rw [h3] at h; cases h; exact ⟨_, w2 (Loc.row r, _) (List.mem_cons_of_mem _ List.mem_cons_self)⟩
    | no g g0 xs h hg0 hn => exact absurd h3 (h _ _)
    | on r' g d h hd => rw [h3] at h; cases h; exact ⟨_, w2 (Loc.row r, _) (List.mem_cons_of_mem _ List.mem_cons_self)⟩
    | nn d h hd => exact absurd h3 (h _ _)
    | pp o' j' h hi => rw [h3] at h; cases h
  · obtain ⟨z, a1, rfl, g, a2⟩ := h1
    obtain ⟨z', b1, rfl, g', b2⟩ := h2
    have := (b.rows _ _ _ _ _ a2 b2).1
    rw [k'.zol a1 b1 this]
  · obtain ⟨z, a1, rfl, g, a2⟩ := h1
    obtain ⟨z', b1, e, g', b2⟩ := h2
    have := k'.zil a1 b1 (nmOf_inj (plsOf_isPl (zOf_pl a1)).2 (plsOf_isPl (zOf_pl b1)).2 e.symm)
    subst this
    have := b.keys _ _ _ a2 b2
    cases this; rfl
end
end Go.Proofs.Fw

set_option autoImplicit false
set_option linter.unusedVariables false
set_option linter.unusedSimpArgs false
namespace Go.Proofs.Fw
open Go
variable {et : LTag → TypeId} {P : Program} {tt : TT} {st : St} {m : Mem} {a : Act}
/-! ### Calls -/
structure CallSound (P : Program) (et : LTag → TypeId) (g : Nat) (spec : FSpec) : Prop where
  enters : ∀ (args : Array Value) (w : World), (callFunc g args).run P w = .ok (.enter g args) w
  calls : ∀ (as : List FV) (objs : List (List FV)) (asks : List Bool) (r : FV) (objs' : List (List FV)), spec as objs = some (asks, r, objs') → (∀ p ∈ asks, p) → ∀ (m : Mem) (vs : List Value),
    MemOK et (entry [] [] objs) m → All2 (RS (entry [] [] objs) m) as vs → handOK as = true → plainR r = true → objs'.map List.length = objs.map List.length →
    Calls P g vs.toArray m.w fun e w' => ∃ v m', e = .returned v ∧ m'.w = w' ∧ MemOK et (entry [] [] objs') m' ∧ RS (entry [] [] objs') m' r v ∧ Ext (entry [] [] objs) m (entry [] [] objs') m' ∧ ∀ j, j < objs.length → m'.β (.arg j) = m.β (.arg j)
def CallsOK (P : Program) (et : LTag → TypeId) (calls : List (Nat × FSpec)) : Prop := ∀ g spec, look calls g = some spec → CallSound P et g spec
theorem ZRel.frz {os : List (Nm × List FV)} {ws : St} {p : Pl} {d : FV} (h : ZRel os st p d) (hr : ∀ r g, p.oc = .own r g → ∀ v, (Loc.row r, v) ∉ ws) : ZRel os (ws ++ st) p d := by
  rcases h with h | ⟨r, g, xs, h1, h2, h3, h4⟩ | h | h
  · exact .inl h
  · exact .inr (.inl ⟨r, g, xs, h1, h2, h3, by rw [get_nback (hr r g h1)]; exact h4⟩)
  · exact .inr (.inr (.inl h))
  · exact .inr (.inr (.inr h))
theorem BackOK.frz {os : List (Nm × List FV)} {pls : List Pl} {ds : List FV} {back ws : St} (b : BackOK os st pls ds back ws) : BackOK os (ws ++ st) pls ds back ws := by
  have go : ∀ {p : Pl} {d : FV} {W : St}, BR os st p d W → (∀ x ∈ W, x ∈ back) → BR os (ws ++ st) p d W := by
    intro p d W h hW
    cases h with
    | oo r g g0 xs h hn => exact .oo r g g0 xs h hn
    | no g g0 xs h hg hn =>
      refine .no g g0 xs h ?_ hn
      have : St.get (ws ++ st) (.row (nmOf p.ol)) = st.get (.row (nmOf p.ol)) := get_nback fun v hv => b.ws _ _ _ (hW (Loc.row (nmOf p.ol), FV.ownv g xs) (by simp)) hv
      rw [← hg]
      exact ((newGen (nmOf p.ol)).local (st := st) fun l hl => by
        simp only [newGen, Q.get, bind, Q.bind, Q.reads] at hl
        have hl' : l = .row (nmOf p.ol) := by
          rcases List.mem_cons.1 hl with hl | hl
          · exact hl
          · exfalso
            revert hl
            split <;> simp [Q.reads, pure]
        rw [hl']; exact this).1
    | on r g d h hd => exact .on r g d h hd
    | nn d h hd => exact .nn d h hd
    | pp o j h hi => exact .pp o j h hi
  exact ⟨b.len, fun z hz => let ⟨W, h1, h2⟩ := b.all z hz; ⟨W, go h1 h2, h2⟩, fun x hx => let ⟨z, hz, W, h1, h2, h3⟩ := b.of x hx; ⟨z, hz, W, go h1 h3, h2, h3⟩, b.keys, b.rows, b.ws⟩
theorem innerVs_hand {os : List (Nm × List FV)} {m1 : Mem} {sS st0 : St} (t : ∀ c v, DR (mutB st m) m.w c v → DR (mutB sS m1) m1.w c v)
    (ho : ∀ j o cs, os[j]? = some (o, cs) → (∃ n, sS.get (.obj (.arg j)) = .obj n) ∧ m1.β (.arg j) = m.β o) :
    ∀ {as ds : List FV} {vs : List Value}, (innerVs os (as.map fun _ => (0, none)) as).run st0 = some ds → handOK ds = true → All2 (RS st m) as vs → All2 (RS sS m1) ds vs
  | [], ds, vs, h, hd, hv => by simp [innerVs] at h; subst h; cases vs <;> first | trivial | exact hv.elim
  | c :: as, ds, [], h, hd, hv => hv.elim
  | c :: as, ds, v :: vs, h, hd, ⟨hv1, hv2⟩ => by
    simp only [List.map, innerVs, Q.run_bind, Option.bind_eq_some_iff] at h
    obtain ⟨d, h1, ds', h2, h⟩ := h
    simp at h; subst h
    have hd2 : handOK ds' = true := by
      cases d <;> simp_all [handOK]
    refine ⟨?_, innerVs_hand t ho h2 hd2 hv2⟩
    rcases innerV_spec (s := 0) (il := .slot 0) h1 with ⟨q1, _, q3⟩ | ⟨r, g, xs, q1, q2, _⟩ | ⟨tg, q1, _, q2, _⟩ | ⟨o, j, cs, q1, q2, _, q3⟩
    · simp only at q1 q3
      subst q3
      exact plain_rs t (plainS_R q1) hv1
    · subst q2; simp [handOK, plainS, plainCell] at hd
    · subst q2; simp [handOK, plainS, plainCell] at hd
    · simp only at q1
      subst q1; subst q2
      obtain ⟨e1, e2⟩ := ho j o cs q3
      obtain ⟨_, rfl⟩ := hv1
      exact ⟨e1, by rw [e2]⟩
theorem fcall_sound {calls : List (Nat × FSpec)} (C : CallsOK P et calls) (h : Inv et st m a) {o : Oper} {c : Call} {f : Operand} (hop : o.op = .call c) (hcal : c.callee = .value f) (hd : ∀ x, o.dst = some x → x < a.tmps.size)
    {fv : FV} {args : List FV} (hfv : (ev f).run st = some fv) (hargs : (evs c.args.toList).run st = some args) {e : Eff} (hf : (fcall calls o.dst fv args).run st = some e) (hp : ∀ p ∈ e.asks, p) : OpOK P et o st m a e.ws := by
  unfold fcall at hf
  split at hf
  · rename_i g
    split at hf
    · rename_i spec hspec
      simp only [Q.run_bind, Option.bind_eq_some_iff] at hf
      obtain ⟨⟨as, ws⟩, h1, ⟨d0, os, ext⟩, h2, ds, h3, hf⟩ := hf
      split at hf
      · rename_i asks r objs hsp
        simp only [Q.run_bind, Option.bind_eq_some_iff] at hf
        obtain ⟨back, h4, hf⟩ := hf
        split at hf
        · rename_i hc
          simp only [Bool.and_eq_true] at hc
          obtain ⟨hc1, hc2⟩ := hc
          simp at hf; subst hf
          have S := C g spec hspec
          have hav := evs_sound h hargs
          have fz := frz h (freezeAll_list h1)
          have hav' := freezeAll_rep fz h h1 (fun p hp => hp) hav
          obtain ⟨k, hn, hos, hz, hrw⟩ := subSt_spec h2
          have hd0 : d0 = [] := by
            have := k.lv; have := k.li
            cases d0 with
            | nil => rfl
            | cons _ _ => simp_all
          subst hd0
          have hos' : ∀ o cs, (o, cs) ∈ os → St.get (ws ++ st) (.obj o) = .obj cs.length ∧ ∀ (i : Nat) (c : FV), cs[i]? = some c → St.get (ws ++ st) (.cell o i) = c := fun o cs ho => by
            obtain ⟨q1, q2⟩ := hos o cs ho
            refine ⟨by rw [fz.other _ (by simp)]; exact q1, fun i c hc => by rw [fz.other _ (by simp)]; exact q2 i c hc⟩
          have hz' : ∀ z ∈ zOf [] [] [] os ext, ZRel os (ws ++ st) z.1 z.2 := fun z hzz => (hz z hzz).frz fun r g e => hrw r (mem_rowsOf (zOf_pl hzz) e)
          have sin := part_in k fz.inv.mem hos' hz'
          have hm1 := sin.mem fz.inv.mem
          have hds := innerVs_hand (st0 := st) (fun c v => sin.dr) (fun j o cs hj => by
            obtain ⟨e1, he, _⟩ := k.extOf hj
            refine ⟨⟨e1.length, ?_⟩, by simp [subMem, subBeta, hj]⟩
            rw [k.objGet]; exact heads_at he) h3 hc2 hav'
          obtain ⟨q1, q2⟩ := backSt_spec h4
          have k' : PartOK [] [] [] os objs := k.after rfl q1
          have lobj : objs.map List.length = ext.map List.length := by rw [← q1, k.lo]
          have hcalls := S.calls ds ext asks r objs hsp hp (subMem [] [] [] os ext (ws ++ st) m) _ hm1 hds hc2 hc1 lobj
          intro next Q hk
          unfold Oper.wp
          have hrun : (execOp a.eval o).run P m.w = .ok (.enter g (c.args.toList.map a.eval).toArray) m.w := by
            have hF := ev_sound h hfv
            unfold execOp
            rw [hop]
            have e1 : a.eval f = .func (.func g) #[] #[] := by
              generalize a.eval f = F at hF
              cases hF; rfl
            have e2 : c.args.map a.eval = (c.args.toList.map a.eval).toArray := by apply Array.ext'; simp only [Array.toList_map]
            simp only [resolve, hcal, e1, Deferred.ofValue, invoke, Sem.run_bind, Sem.run_pure, Result.andThen_ok]
            rw [← e2]
            simpa using S.enters (c.args.map a.eval) m.w
          rw [hrun, Oper.upon_enter]
          refine hcalls.mono fun e w' hr => ?_
          obtain ⟨v, m', rfl, rfl, r1, r2, r3, r4⟩ := hr
          have sout := part_out k k' hz' q2.frz r3 (fun j o cs hj => by
            rw [r4 j (by obtain ⟨e1, he, _⟩ := k.extOf hj; exact (List.getElem?_eq_some_iff.1 he).1)]
            simp [subMem, subBeta, hj])
          have bm := back_mem sin sout fz.inv.mem r1
          have bs := back_step sin sout
          have hnslot : ∀ n v, (Loc.slot n, v) ∉ back := fun n v hv => by
            obtain ⟨⟨p, d⟩, hz1, W, w1, w2, _⟩ := q2.of _ hv
            have hpl := zOf_pl (ins := []) (vs := []) (ds := []) (os := os) (ext := objs) hz1
            rcases plsOf_pl hpl with ⟨s, e1, _⟩ | ⟨j, o', cs, i, _, _, e1, _⟩
            · simp [plsOf, slotPl] at hpl
              obtain ⟨_, _, _, _, _, _, _, rfl⟩ := (mem_objPl _ _ _).1 hpl
              cases e1
            · simp only at e1 w1
              cases w1 <;> simp [e1] at w2
          have inv2 : Inv et (back ++ (ws ++ st)) (backMem m m' (enOf (zOf [] [] [] os objs) back) back) a := ⟨bm, fun n => by
            rw [get_nback (hnslot n)]
            exact bs.tr.rs (fz.inv.slots n)⟩
          have hres : RS (back ++ (ws ++ st)) (backMem m m' (enOf (zOf [] [] [] os objs) back) back) r v := plain_rs (fun c v => back_dr sin sout fz.inv.mem) hc1 r2
          refine hk (a.put o.dst v) (backMem m m' (enOf (zOf [] [] [] os objs) back) back) ?_ ?_ (put_size _ _ _) (put_defers _ _ _) fun n hn => ?_
          · rw [List.append_assoc, List.append_assoc]; exact inv2.put o.dst hres hd
          · rw [List.append_assoc, List.append_assoc]; exact fz.step.trans (bs.trans (SM.put _ _ _).step)
          · rw [getD_put a _ _ _ hd, if_neg hn]
        · simp at hf
      · simp at hf
    · simp at hf
  · simp at hf
end Go.Proofs.Fw

set_option autoImplicit false
set_option linter.unusedVariables false
set_option linter.unusedSimpArgs false
namespace Go.Proofs.Fw
open Go
variable {et : LTag → TypeId} {P : Program} {tt : TT} {st : St} {m : Mem} {a : Act} {calls : List (Nat × FSpec)}
theorem fop_ok (T : TypesOK P et tt) (C : CallsOK P et calls) (h : Inv et st m a) {o : Oper} (hd : ∀ x, o.dst = some x → x < a.tmps.size) {e : Eff} (hf : (fop tt calls o).run st = some e) (hp : ∀ p ∈ e.asks, p) : OpOK P et o st m a e.ws := by
  by_cases hc : ∃ c f, o.op = .call c ∧ c.callee = .value f
  · obtain ⟨c, f, hop, hcal⟩ := hc
    unfold fop at hf
    rw [hop] at hf
    simp only [Q.run_bind, Option.bind_eq_some_iff] at hf
    obtain ⟨args, hargs, hf⟩ := hf
    rw [hcal] at hf
    simp only [Q.run_bind, Option.bind_eq_some_iff] at hf
    obtain ⟨fv, hfv, hf⟩ := hf
    exact fcall_sound C h hop hcal hd hfv hargs hf hp
  · exact fop_sound T h hd hf hp fun c f h1 h2 => hc ⟨c, f, h1, h2⟩
theorem conj_out : ∀ {ps : List Bool} {k : Prop}, conj ps k → (∀ p ∈ ps, p) ∧ k
  | [], k, h => ⟨by simp, h⟩
  | p :: ps, k, h => by
    obtain ⟨h1, h2⟩ := h
    obtain ⟨h3, h4⟩ := conj_out h2
    exact ⟨fun q hq => by rcases List.mem_cons.1 hq with rfl | hq <;> first | exact h1 | exact h3 q hq, h4⟩
/-! ### 1. One operation of a region -/
abbrev Ent := List Loc × St
/-- What a guard's slot says: an operation that was passed by leaves no answer. -/
def saysOf : FV → Option (Option Bool)
  | .bool b => some (some b)
  | .tup [] => some none
  | _ => none
def Exec (tt : TT) (calls : List (Nat × FSpec)) (all : List Oper) (o : Oper) (st : St) (e : Ent) : Prop :=
  match o.guard with
  | none => ∃ f, (fop tt calls o).run st = some f ∧ (∀ p ∈ f.asks, p) ∧ e = ((fop tt calls o).reads st, f.ws)
  | some (j, want) => ∃ gd b, (all[j]?).bind (·.dst) = some gd ∧ saysOf (st.get (.slot gd)) = some b ∧
      ((b = some want ∧ ∃ f, (fop tt calls o).run st = some f ∧ (∀ p ∈ f.asks, p) ∧ e = (.slot gd :: (fop tt calls o).reads st, f.ws)) ∨ (b ≠ some want ∧ e = ([.slot gd], put o.dst (.tup []))))
theorem Exec.local {all : List Oper} {o : Oper} {st st' : St} {e : Ent} (h : Exec tt calls all o st e) (hl : ∀ l ∈ e.1, st'.get l = st.get l) : Exec tt calls all o st' e := by
  unfold Exec at h ⊢
  split at h
  · rename_i hg
    obtain ⟨f, h1, h2, rfl⟩ := h
    obtain ⟨e1, e2⟩ := (fop tt calls o).local hl
    exact ⟨f, by rw [e1]; exact h1, h2, by rw [e2]⟩
  · rename_i j want hg
    obtain ⟨gd, b, h1, h2, ⟨h3, f, h4, h5, rfl⟩ | ⟨h3, rfl⟩⟩ := h
    · obtain ⟨e1, e2⟩ := (fop tt calls o).local (st := st) (st' := st') fun l hl' => hl l (by simp [hl'])
      exact ⟨gd, b, h1, by rw [hl _ (by simp)]; exact h2, .inl ⟨h3, f, by rw [e1]; exact h4, h5, by rw [e2]⟩⟩
    · exact ⟨gd, b, h1, by rw [hl _ (by simp)]; exact h2, .inr ⟨h3, rfl⟩⟩
def Keeps (o : Oper) (a a' : Act) : Prop := a'.tmps.size = a.tmps.size ∧ a'.defers = a.defers ∧ ∀ n, o.dst ≠ some n → a'.tmps.getD n undef = a.tmps.getD n undef
theorem exec_sound (T : TypesOK P et tt) (C : CallsOK P et calls) (h : Inv et st m a) {ops : Array Oper} {o : Oper} (hd : ∀ x, o.dst = some x → x < a.tmps.size) {e : Ent} (hx : Exec tt calls ops.toList o st e) {K : Act → World → Prop} {Q : Exit → Act → World → Prop}
    (hK : ∀ a' m', Inv et (e.2 ++ st) m' a' → Step st m (e.2 ++ st) m' → Keeps o a a' → K a' m'.w) : if Region.wanted o (yielded ops a.tmps) then o.wp P a m.w K Q else K (a.put o.dst undef) m.w := by
  have yes : ∀ f, (fop tt calls o).run st = some f → (∀ p ∈ f.asks, p) → e.2 = f.ws → o.wp P a m.w K Q := by
    intro f h1 h2 h3
    rw [h3] at hK
    exact fop_ok T C h hd h1 h2 K Q fun a' m' i1 i2 i3 i4 i5 => hK a' m' i1 i2 ⟨i3, i4, i5⟩
  unfold Exec at hx
  split at hx
  · rename_i hg
    obtain ⟨f, h1, h2, rfl⟩ := hx
    rw [if_pos (by simp [Region.wanted, hg])]
    exact yes f h1 h2 rfl
  · rename_i j want hg
    obtain ⟨gd, b, h1, h2, hx⟩ := hx
    have hy : yielded ops a.tmps j = b := by
      have hs := h.slots gd
      have hj : (ops[j]?).bind (·.dst) = some gd := by simpa using h1
      unfold saysOf at h2
      split at h2
      · rename_i c hc
        cases h2
        rw [hc] at hs
        have hs := hs.bool
        have ht : a.tmps[gd]? = some (.bool c) := by
          rw [Array.getD_eq_getD_getElem?] at hs
          cases ht : a.tmps[gd]? with
          | none => rw [ht] at hs; simp [undef] at hs
          | some v => rw [ht] at hs; simp at hs; rw [hs]
        unfold yielded
        rw [hj]
        simp [ht]
      · rename_i hc
        cases h2
        rw [hc] at hs
        obtain ⟨cs, hv, ha⟩ := hs
        have hcs : cs = [] := by cases cs <;> first | rfl | exact ha.elim
        subst hcs
        unfold yielded
        rw [hj]
        rw [Array.getD_eq_getD_getElem?] at hv
        cases ht : a.tmps[gd]? with
        | none => simp [ht]
        | some v => rw [ht] at hv; simp at hv; simp [ht, hv]
      · cases h2
    rcases hx with ⟨rfl, f, h4, h5, rfl⟩ | ⟨h3, rfl⟩
    · rw [if_pos (by simp [Region.wanted, hg, hy])]
      exact yes f h4 h5 rfl
    · rw [if_neg (by simp [Region.wanted, hg, hy, h3])]
      have := h.put o.dst (fv := .tup []) (v := undef) ⟨[], rfl, trivial⟩ hd
      exact hK _ m this (SM.put _ _ _).step ⟨put_size _ _ _, put_defers _ _ _, fun n hn => by rw [getD_put a _ _ _ hd, if_neg hn]⟩
/-! ### 2. All operations of a region -/
def Chain (tt : TT) (calls : List (Nat × FSpec)) (all : List Oper) : List Oper → St → List Ent → Prop
  | [], _, [] => True
  | o :: r, st, e :: es => Exec tt calls all o st e ∧ Chain tt calls all r (e.2 ++ st) es
  | _, _, _ => False
def appl : List Ent → St → St
  | [], st => st
  | e :: es, st => appl es (e.2 ++ st)
theorem get_app_congr {st st' : St} (ws : St) (h : ∀ l, st'.get l = st.get l) (l : Loc) : St.get (ws ++ st') l = St.get (ws ++ st) l := by
  induction ws with
  | nil => exact h l
  | cons p ws ih => obtain ⟨k, v⟩ := p; rw [List.cons_append, List.cons_append, get_cons, get_cons, ih]
theorem Exec.same {all : List Oper} {o : Oper} {st st' : St} {e : Ent} (h : Exec tt calls all o st' e) (hl : ∀ l, st'.get l = st.get l) : Exec tt calls all o st e := h.local fun l _ => (hl l).symm
def foot (e : Ent) : List Loc × List Loc := (e.1, e.2.map (·.1))
theorem frun_chain {all : List Oper} : ∀ {rest : List Oper} {st1 st : St} {acc : List (List Loc × List Loc)} {K : St → List (List Loc × List Loc) → Prop}, frun tt calls all rest st1 acc K → (∀ l, st1.get l = st.get l) →
    ∃ es st', Chain tt calls all rest st es ∧ K st' ((es.map foot).reverse ++ acc) ∧ ∀ l, St.get st' l = St.get (appl es st) l
  | [], st1, st, acc, K, h, hl => ⟨[], st1, trivial, h, hl⟩
  | o :: rest, st1, st, acc, K, h, hl => by
    have step : ∀ (e : Ent) (st2 : St), Exec tt calls all o st e → (∀ l, st2.get l = St.get (e.2 ++ st) l) → frun tt calls all rest st2 (foot e :: acc) K → ∃ es st', Chain tt calls all (o :: rest) st es ∧ K st' ((es.map foot).reverse ++ acc) ∧ ∀ l, St.get st' l = St.get (appl es st) l := by
      intro e st2 h1 h2 h3
      obtain ⟨es, st', a1, a2, a3⟩ := frun_chain h3 h2
      exact ⟨e :: es, st', ⟨h1, a1⟩, by simpa using a2, a3⟩
    unfold frun at h
    split at h
    · rename_i hg
      split at h
      · rename_i f hf
        obtain ⟨h1, h2⟩ := conj_out h
        refine step ((fop tt calls o).reads st1, f.ws) (f.ws ++ st1) ?_ (get_app_congr _ hl) h2
        refine Exec.same (st' := st1) ?_ hl
        unfold Exec
        rw [hg]
        exact ⟨f, hf, h1, rfl⟩
      · exact h.elim
    · rename_i j want hg
      split at h
      · exact h.elim
      · rename_i gd hgd
        split at h
        · rename_i b hb
          have hl' : ∀ l, St.get ((.slot gd, .bool b) :: st1) l = st1.get l := fun l => by
            rw [get_cons]
            split
            · rename_i e; rw [← e, hb]
            · rfl
          have hlt : ∀ l, St.get ((.slot gd, .bool b) :: st1) l = st.get l := fun l => (hl' l).trans (hl l)
          have says : ∀ s, saysOf (St.get ((.slot gd, .bool b) :: s) (.slot gd)) = some (some b) := fun s => by rw [get_cons, if_pos rfl]; rfl
          have yes : b = want → (match (fop tt calls o).run ((.slot gd, .bool b) :: st1) with
              | some e => conj e.asks (frun tt calls all rest (e.ws ++ ((.slot gd, .bool b) :: st1)) ((.slot gd :: ((fop tt calls o).reads ((.slot gd, .bool b) :: st1)), e.ws.map (·.1)) :: acc) K)
              | none => False) → ∃ es st', Chain tt calls all (o :: rest) st es ∧ K st' ((es.map foot).reverse ++ acc) ∧ ∀ l, St.get st' l = St.get (appl es st) l := by
            intro e h
            split at h
            · rename_i f hf
              obtain ⟨h1, h2⟩ := conj_out h
              refine step (.slot gd :: (fop tt calls o).reads ((.slot gd, .bool b) :: st1), f.ws) (f.ws ++ ((.slot gd, .bool b) :: st1)) ?_ (get_app_congr _ hlt) h2
              refine Exec.same (st' := (.slot gd, .bool b) :: st1) ?_ hlt
              unfold Exec
              rw [hg]
              exact ⟨gd, some b, hgd, says _, .inl ⟨by rw [e], f, hf, h1, rfl⟩⟩
            · exact h.elim
          have no : b ≠ want → frun tt calls all rest (put o.dst (.tup []) ++ ((.slot gd, .bool b) :: st1)) (([.slot gd], (put o.dst (.tup [])).map (·.1)) :: acc) K → ∃ es st', Chain tt calls all (o :: rest) st es ∧ K st' ((es.map foot).reverse ++ acc) ∧ ∀ l, St.get st' l = St.get (appl es st) l := by
            intro e h
            refine step ([.slot gd], put o.dst (.tup [])) (put o.dst (.tup []) ++ ((.slot gd, .bool b) :: st1)) ?_ (get_app_congr _ hlt) h
            refine Exec.same (st' := (.slot gd, .bool b) :: st1) ?_ hlt
            unfold Exec
            rw [hg]
            exact ⟨gd, some b, hgd, says _, .inr ⟨by simpa using e, rfl⟩⟩
          cases want <;> cases b <;> simp only [ifb] at h
          · exact yes rfl h
          · exact no (by simp) h
          · exact no (by simp) h
          · exact yes rfl h
        · rename_i hb
          refine step ([.slot gd], put o.dst (.tup [])) (put o.dst (.tup []) ++ st1) ?_ (get_app_congr _ hl) h
          refine Exec.same (st' := st1) ?_ hl
          unfold Exec
          rw [hg]
          exact ⟨gd, none, hgd, by rw [hb]; rfl, .inr ⟨by simp, rfl⟩⟩
        · exact h.elim
/-! ### 3. In the order of the text -/
structure Keep (dsts : List Nat) (a a' : Act) : Prop where
  size : a'.tmps.size = a.tmps.size
  defers : a'.defers = a.defers
  slots : ∀ n, n ∉ dsts → a'.tmps.getD n undef = a.tmps.getD n undef
theorem Keep.refl (d : List Nat) (a : Act) : Keep d a a := ⟨rfl, rfl, fun _ _ => rfl⟩
theorem Keep.trans {d : List Nat} {a b c : Act} (h : Keep d a b) (k : Keep d b c) : Keep d a c := ⟨k.size.trans h.size, k.defers.trans h.defers, fun n hn => (k.slots n hn).trans (h.slots n hn)⟩
theorem Keeps.keep {o : Oper} {a a' : Act} {d : List Nat} (h : Keeps o a a') (hd : ∀ x, o.dst = some x → x ∈ d) : Keep d a a' := ⟨h.1, h.2.1, fun n hn => h.2.2 n fun e => hn (hd n e)⟩
theorem chain_list (T : TypesOK P et tt) (C : CallsOK P et calls) {ops : Array Oper} {Q : Exit → Act → World → Prop} {dsts : List Nat} : ∀ {rest : List Oper} {st : St} {m : Mem} {a : Act} {es : List Ent}, Chain tt calls ops.toList rest st es → Inv et st m a → (∀ o ∈ rest, ∀ x, o.dst = some x → x ∈ dsts) → (∀ x ∈ dsts, x < a.tmps.size) →
    (∀ a' m', Inv et (appl es st) m' a' → Step st m (appl es st) m' → Keep dsts a a' → Q .normal a' m'.w) → wpList P ops Q rest a m.w
  | [], st, m, a, [], _, h, _, _, hQ => hQ a m h (Step.refl _ _) (Keep.refl _ _)
  | [], st, m, a, _ :: _, hc, h, _, _, hQ => hc.elim
  | _ :: _, st, m, a, [], hc, h, _, _, hQ => hc.elim
  | o :: rest, st, m, a, e :: es, ⟨h1, h2⟩, h, hr, hd, hQ => by
    refine wpList_step fun K hK => exec_sound T C h (fun x hx => hd x (hr o (by simp) x hx)) h1 fun a' m' i1 i2 i3 => hK _ _ ?_
    have k1 := i3.keep (hr o (by simp))
    exact chain_list T C h2 i1 (fun o' ho => hr o' (by simp [ho])) (fun x hx => by rw [k1.size]; exact hd x hx) fun a2 m2 j1 j2 j3 => hQ a2 m2 j1 (i2.trans j2) (k1.trans j3)
end Go.Proofs.Fw

set_option autoImplicit false
set_option linter.unusedVariables false
set_option linter.unusedSimpArgs false
namespace Go.Proofs.Fw
open Go
variable {et : LTag → TypeId} {P : Program} {tt : TT} {st : St} {m : Mem} {a : Act} {calls : List (Nat × FSpec)}
/-! ### 1. Some operations done -/
def applD : List Ent → (Nat → Bool) → St → St
  | [], _, st => st
  | e :: es, D, st => applD es (fun j => D (j + 1)) (if D 0 then e.2 ++ st else st)
theorem applD_congr {l : Loc} : ∀ {es : List Ent} {D D' : Nat → Bool} {st st' : St}, (∀ (j : Nat) (e : Ent), es[j]? = some e → l ∈ e.2.map (·.1) → D j = D' j) → st.get l = st'.get l → St.get (applD es D st) l = St.get (applD es D' st') l
  | [], D, D', st, st', _, h => h
  | e :: es, D, D', st, st', hD, h => by
    refine applD_congr (es := es) (fun j f hf hl => hD (j + 1) f (by simpa using hf) hl) ?_
    have nw : ∀ s : St, l ∉ e.2.map (·.1) → St.get (e.2 ++ s) l = s.get l := fun s hn => get_nback fun v hv => hn (List.mem_map_of_mem (f := fun x : Loc × FV => x.1) hv)
    have wr : ∀ s s' : St, l ∈ e.2.map (·.1) → St.get (e.2 ++ s) l = St.get (e.2 ++ s') l := fun s s' hm => by
      obtain ⟨p, hp, rfl⟩ := List.mem_map.1 hm
      rcases get_append e.2 s p.1 with ⟨_, _, _, e1⟩ | ⟨hn, _⟩
      · rcases get_append e.2 s' p.1 with ⟨_, _, _, e2⟩ | ⟨hn, _⟩
        · rw [e1, e2]
        · exact absurd hp (hn p.2)
      · exact absurd hp (hn p.2)
    by_cases hm : l ∈ e.2.map (·.1)
    · rw [hD 0 e rfl hm]
      split
      · exact wr _ _ hm
      · exact h
    · have e1 : ∀ (c : Bool) (s : St), St.get (if c = true then e.2 ++ s else s) l = s.get l := fun c s => by cases c <;> simp [nw _ hm]
      rw [e1, e1]; exact h
theorem applD_last {l : Loc} : ∀ {es : List Ent} {D : Nat → Bool} {st : St} {i : Nat} {e : Ent}, es[i]? = some e → D i = true → l ∈ e.2.map (·.1) → (∀ (j : Nat) (f : Ent), i < j → es[j]? = some f → l ∈ f.2.map (·.1) → D j = false) → ∀ s : St, St.get (applD es D st) l = St.get (e.2 ++ s) l
  | [], D, st, i, e, h, _, _, _, s => by simp at h
  | f :: es, D, st, 0, e, h, hD, hm, hl, s => by
    simp at h
    subst h
    rw [applD, if_pos hD]
    have : St.get (applD es (fun j => D (j + 1)) (f.2 ++ st)) l = St.get (applD es (fun _ => false) (f.2 ++ s)) l := by
      refine applD_congr (fun j g hg hgl => hl (j + 1) g (by omega) (by simpa using hg) hgl) ?_
      obtain ⟨p, hp, rfl⟩ := List.mem_map.1 hm
      rcases get_append f.2 s p.1 with ⟨_, _, _, e1⟩ | ⟨hn, _⟩
      · rcases get_append f.2 st p.1 with ⟨_, _, _, e2⟩ | ⟨hn, _⟩
        · rw [e1, e2]
        · exact absurd hp (hn p.2)
      · exact absurd hp (hn p.2)
    rw [this]
    have : ∀ (es : List Ent) (s : St), applD es (fun _ => false) s = s := by
      intro es
      induction es with
      | nil => intro s; rfl
      | cons g es ih => intro s; rw [applD]; simpa using ih s
    rw [this]
  | f :: es, D, st, i + 1, e, h, hD, hm, hl, s => by
    rw [applD]
    exact applD_last (es := es) (i := i) (by simpa using h) hD hm (fun j g hj hg hgl => hl (j + 1) g (by omega) (by simpa using hg) hgl) s
theorem applD_all : ∀ (es : List Ent) (D : Nat → Bool) (st : St), (∀ j, j < es.length → D j = true) → applD es D st = appl es st
  | [], _, _, _ => rfl
  | e :: es, D, st, h => by
    rw [applD, appl, if_pos (h 0 (by simp))]
    exact applD_all es _ _ fun j hj => h (j + 1) (by simpa using hj)
theorem chain_exec {all : List Oper} : ∀ {rest : List Oper} {st : St} {es : List Ent}, Chain tt calls all rest st es → ∀ {i : Nat} {o : Oper}, rest[i]? = some o → ∃ e, es[i]? = some e ∧ Exec tt calls all o (applD es (fun j => decide (j < i)) st) e
  | [], st, es, _, i, o, h => by simp at h
  | o0 :: rest, st, [], hc, _, _, _ => hc.elim
  | o0 :: rest, st, e0 :: es, ⟨h1, h2⟩, 0, o, h => by
    simp at h
    subst h
    have : ∀ (es : List Ent) (s : St), applD es (fun _ => false) s = s := by
      intro es
      induction es with
      | nil => intro s; rfl
      | cons g es ih => intro s; rw [applD]; simpa using ih s
    exact ⟨e0, rfl, by rw [applD]; simp [this]; exact h1⟩
  | o0 :: rest, st, e0 :: es, ⟨h1, h2⟩, i + 1, o, h => by
    obtain ⟨e, a1, a2⟩ := chain_exec h2 (i := i) (o := o) (by simpa using h)
    refine ⟨e, by simpa using a1, ?_⟩
    rw [applD]
    simpa using a2
theorem chain_len {all : List Oper} : ∀ {rest : List Oper} {st : St} {es : List Ent}, Chain tt calls all rest st es → es.length = rest.length
  | [], _, [], _ => rfl
  | [], _, _ :: _, h => h.elim
  | _ :: _, _, [], h => h.elim
  | o :: rest, st, e :: es, ⟨_, h⟩ => by simp [chain_len h]
/-! ### 2. What must have been done ahead -/
def Closed (ops : List Oper) (D : Nat → Prop) : Prop := ∀ (j : Nat) (o : Oper), ops[j]? = some o → D j → ∀ i ∈ directOf o, D i
theorem memN_iff (n : Nat) (xs : List Nat) : memN n xs = true ↔ n ∈ xs := by
  induction xs with
  | nil => simp [memN]
  | cons x xs ih => simp [memN, ih]
theorem unionN_mem {k : Nat} : ∀ {a b : List Nat}, k ∈ unionN a b → k ∈ a ∨ k ∈ b
  | [], b, h => .inr h
  | x :: a, b, h => by
    unfold unionN at h
    cases hm : memN x b <;> rw [hm] at h <;> simp only [cond_true, cond_false, List.mem_cons] at h
    · rcases h with rfl | h
      · exact .inl (by simp)
      · rcases unionN_mem h with h | h
        · exact .inl (by simp [h])
        · exact .inr h
    · rcases unionN_mem h with h | h
      · exact .inl (by simp [h])
      · exact .inr h
theorem fold_mem {acc : List (List Nat)} {k : Nat} : ∀ {is : List Nat}, k ∈ is.foldr (fun i l => unionN (i :: acc.getD i []) l) [] → ∃ i ∈ is, k = i ∨ k ∈ acc.getD i []
  | [], h => by simp at h
  | i :: is, h => by
    rw [List.foldr_cons] at h
    rcases unionN_mem h with h | h
    · rcases List.mem_cons.1 h with rfl | h
      · exact ⟨_, by simp, .inl rfl⟩
      · exact ⟨i, by simp, .inr h⟩
    · obtain ⟨j, h1, h2⟩ := fold_mem h
      exact ⟨j, by simp [h1], h2⟩
def AheadOK (ops : List Oper) (acc : List (List Nat)) : Prop := ∀ (j : Nat) (l : List Nat) (o : Oper), acc[j]? = some l → ops[j]? = some o → ∀ D : Nat → Prop, Closed ops D → (∀ i ∈ directOf o, D i) → ∀ k ∈ l, D k
theorem aheads_ok {ops : List Oper} : ∀ {rest : List Oper} {acc : List (List Nat)}, AheadOK ops acc → (∀ i, rest[i]? = ops[acc.length + i]?) → AheadOK ops (aheads rest acc)
  | [], acc, h, _ => h
  | o :: rest, acc, h, hr => by
    rw [aheads]
    refine aheads_ok (fun j l o' hl ho D hc hd k hk => ?_) (fun i => ?_)
    · rw [List.getElem?_append] at hl
      split at hl
      · exact h j l o' hl ho D hc hd k hk
      · rename_i hj
        have hj0 : j = acc.length := by
          have := (List.getElem?_eq_some_iff.1 hl).1
          simp at this; omega
        subst hj0
        simp at hl
        subst hl
        have ho' := hr 0
        simp at ho'
        rw [ho] at ho'
        cases ho'
        obtain ⟨i, h1, h2⟩ := fold_mem hk
        have hDi := hd i h1
        rcases h2 with rfl | h2
        · exact hDi
        · rw [List.getD_eq_getElem?_getD] at h2
          cases hi : acc[i]? with
          | none => rw [hi] at h2; simp at h2
          | some li =>
            rw [hi] at h2
            simp at h2
            cases hoi : ops[i]? with
            | none =>
              exfalso
              have h3 : i < acc.length := (List.getElem?_eq_some_iff.1 hi).1
              have h4 : acc.length < ops.length := (List.getElem?_eq_some_iff.1 ho).1
              have := List.getElem?_eq_none_iff.1 hoi
              omega
            | some oi => exact h i li oi hi hoi D hc (hc i oi hoi hDi) k h2
    · have := hr (i + 1)
      simp only [List.getElem?_cons_succ] at this
      rw [this]
      simp [Nat.add_assoc, Nat.add_comm 1 i]
theorem drawRow_spec {e : List Loc × List Loc} {ah : List Nat} : ∀ {r : List (List Loc × List Loc)} {k : Nat}, drawRow e ah r k = true → ∀ (i : Nat) (f : List Loc × List Loc), r[i]? = some f → clash f e = true → k + i ∈ ah
  | [], _, _, i, f, h, _ => by simp at h
  | g :: r, k, h, i, f, hi, hc => by
    simp only [drawRow, Bool.and_eq_true, Bool.or_eq_true, Bool.not_eq_true'] at h
    cases i with
    | zero =>
      simp at hi; subst hi
      rcases h.1 with h1 | h1
      · rw [hc] at h1; cases h1
      · exact (memN_iff _ _).1 h1
    | succ i =>
      have := drawRow_spec h.2 i f (by simpa using hi) hc
      rwa [show k + 1 + i = k + (i + 1) from by omega] at this
theorem drawAll_spec {ahs : List (List Nat)} : ∀ {r seen : List (List Loc × List Loc)}, drawAll ahs seen r seen.length = true → ∀ (i j : Nat) (f e : List Loc × List Loc), i < j → (seen ++ r)[i]? = some f → (seen ++ r)[j]? = some e → seen.length ≤ j → clash f e = true → i ∈ ahs.getD j []
  | [], seen, _, i, j, f, e, hij, h1, h2, hs, _ => by
    have := (List.getElem?_eq_some_iff.1 h2).1
    simp at this; omega
  | g :: r, seen, h, i, j, f, e, hij, h1, h2, hs, hc => by
    simp only [drawAll, Bool.and_eq_true] at h
    by_cases hj : j = seen.length
    · subst hj
      rw [List.getElem?_append_right (Nat.le_refl _)] at h2
      simp at h2
      subst h2
      rw [List.getElem?_append_left hij] at h1
      have := drawRow_spec h.1 i f h1 hc
      rwa [Nat.zero_add] at this
    · have e1 : seen ++ g :: r = (seen ++ [g]) ++ r := by simp
      refine drawAll_spec (r := r) (seen := seen ++ [g]) (by simpa using h.2) i j f e hij (by rw [← e1]; exact h1) (by rw [← e1]; exact h2) (by simp; omega) hc
theorem allBelow_spec {k : Nat} : ∀ {l : List Nat}, allBelow k l = true → ∀ n ∈ l, n < k
  | [], _, n, h => by simp at h
  | x :: l, h, n, hn => by
    simp only [allBelow, Bool.and_eq_true] at h
    rcases List.mem_cons.1 hn with rfl | hn
    · simpa [Nat.blt_eq] using h.1
    · exact allBelow_spec h.2 n hn
theorem backwards_spec : ∀ {ops : List Oper} {k : Nat}, backwards ops k = true → ∀ (j : Nat) (o : Oper), ops[j]? = some o → ∀ i ∈ directOf o, i < k + j
  | [], _, _, j, o, h, _, _ => by simp at h
  | o0 :: ops, k, h, j, o, hj, i, hi => by
    simp only [backwards, Bool.and_eq_true] at h
    cases j with
    | zero => simp at hj; subst hj; exact allBelow_spec h.1 i hi
    | succ j =>
      have := backwards_spec h.2 j o (by simpa using hj) i hi
      omega
structure DrawOK (ops : List Oper) (es : List Ent) : Prop where
  back : ∀ (j : Nat) (o : Oper), ops[j]? = some o → ∀ i ∈ directOf o, i < j
  clash : ∀ (i j : Nat) (f e : Ent) (o : Oper), i < j → es[i]? = some f → es[j]? = some e → ops[j]? = some o → clash (foot f) (foot e) = true → ∀ D : Nat → Prop, Closed ops D → (∀ k ∈ directOf o, D k) → D i
theorem drawOK_spec {ops : List Oper} {es : List Ent} (h : drawOK ops (es.map foot).reverse = true) (hl : es.length = ops.length) : DrawOK ops es := by
  simp only [drawOK, Bool.and_eq_true, List.reverse_reverse] at h
  refine ⟨fun j o hj i hi => by have := backwards_spec h.1 j o hj i hi; omega, fun i j f e o hij h1 h2 ho hc D hD hd => ?_⟩
  have := drawAll_spec (seen := []) h.2 i j (foot f) (foot e) hij (by simp [h1]) (by simp [h2]) (Nat.zero_le _) hc
  rw [List.getD_eq_getElem?_getD] at this
  cases ha : (aheads ops [])[j]? with
  | none => rw [ha] at this; simp at this
  | some l =>
    rw [ha] at this
    simp at this
    exact aheads_ok (ops := ops) (rest := ops) (acc := []) (fun j l o hl => by simp at hl) (fun i => by simp) j l o ha ho D hD hd i this
/-! ### 3. In any order -/
theorem filter_lt {p q : Nat → Bool} {i : Nat} : ∀ {xs : List Nat}, (∀ x ∈ xs, q x = true → p x = true) → i ∈ xs → p i = true → q i = false → (xs.filter q).length < (xs.filter p).length
  | [], _, h, _, _ => by simp at h
  | x :: xs, hpq, hi, hp, hq => by
    have le : ∀ {xs : List Nat}, (∀ x ∈ xs, q x = true → p x = true) → (xs.filter q).length ≤ (xs.filter p).length := by
      intro xs
      induction xs with
      | nil => intro _; simp
      | cons y ys ih =>
        intro h
        have := ih fun z hz => h z (by simp [hz])
        have hy := h y (by simp)
        simp only [List.filter_cons]
        split <;> split <;> simp_all <;> omega
    have le' := le (xs := xs) fun z hz => hpq z (by simp [hz])
    rcases List.mem_cons.1 hi with rfl | hi
    · simp only [List.filter_cons, hp, hq]
      simp
      omega
    · have ih := filter_lt (fun z hz => hpq z (by simp [hz])) hi hp hq
      have hx := hpq x (by simp)
      simp only [List.filter_cons]
      split <;> split <;> simp_all <;> omega
def left (n : Nat) (listed : Array Bool) : Nat := ((List.range n).filter fun i => !listed.getD i true).length
theorem any_sound (T : TypesOK P et tt) (C : CallsOK P et calls) {ops : Array Oper} {Q : Exit → Act → World → Prop} {st0 : St} {es : List Ent} (hc : Chain tt calls ops.toList ops.toList st0 es) (hd : DrawOK ops.toList es) {dsts : List Nat} (hdst : ∀ o ∈ ops.toList, ∀ x, o.dst = some x → x ∈ dsts) :
    ∀ (fuel : Nat) (listed : Array Bool) (st : St) (m : Mem) (a : Act), listed.size = ops.size → left ops.size listed ≤ fuel → Closed ops.toList (fun j => listed.getD j true = true ∧ j < ops.size) → Inv et st m a → (∀ x ∈ dsts, x < a.tmps.size) →
      (∀ l, st.get l = St.get (applD es (fun j => listed.getD j true) st0) l) → (∀ st' a' m', (∀ l, St.get st' l = St.get (appl es st0) l) → Inv et st' m' a' → Step st m st' m' → Keep dsts a a' → Q .normal a' m'.w) → wpAny P .any ops Q fuel listed a m.w := by
  have n0 : es.length = ops.toList.length := chain_len hc
  have done : ∀ (listed : Array Bool) (st : St) (m : Mem) (a : Act), (∀ i, i < ops.size → listed.getD i true = true) → (∀ l, st.get l = St.get (applD es (fun j => listed.getD j true) st0) l) → ∀ l, st.get l = St.get (appl es st0) l := by
    intro listed st m a hall hl l
    rw [hl, applD_all es _ st0 fun j hj => hall j (by rw [n0] at hj; simpa using hj)]
  -- nothing ready: all is done
  have stuck : ∀ (listed : Array Bool), listed.size = ops.size → Region.ready .any ops listed = [] → ∀ i, i < ops.size → listed.getD i true = true := by
    intro listed hsz hr i
    induction i using Nat.strongRecOn with
    | _ i ih =>
      intro hi
      cases hli : listed.getD i true with
      | true => rfl
      | false =>
        exfalso
        have : i ∈ Region.ready .any ops listed := by
          simp only [Region.ready, List.mem_filter, List.mem_range]
          refine ⟨hi, ?_⟩
          have ho : ops[i]? = some ops[i] := by simp [hi]
          simp only [hli, Bool.not_false, Bool.true_and, ho, Option.map_some, Option.getD_some]
          rw [Array.all_eq_true']
          intro e he
          by_cases hb : Region.binds .any e = true
          · have hm : e.on ∈ directOf ops[i] := by
              simp only [directOf, List.mem_map, List.mem_filter]
              exact ⟨e, ⟨by simpa using he, hb⟩, rfl⟩
            have hlt := hd.back i ops[i] (by simp [hi]) e.on hm
            have := ih e.on hlt (by omega)
            rw [Array.getD_eq_getD_getElem?] at this ⊢
            have hs : e.on < listed.size := by omega
            simp [hs] at this ⊢
            simp [this]
          · simp [hb]
        rw [hr] at this
        cases this
  intro fuel
  induction fuel with
  | zero =>
    intro listed st m a hsz hfu hcl hi hlt hg hQ
    have hall : ∀ i, i < ops.size → listed.getD i true = true := by
      intro i hi'
      cases hli : listed.getD i true with
      | true => rfl
      | false =>
        exfalso
        have : i ∈ (List.range ops.size).filter fun i => !listed.getD i true := List.mem_filter.2 ⟨List.mem_range.2 hi', by rw [hli]; rfl⟩
        have h0 : ((List.range ops.size).filter fun i => !listed.getD i true).length = 0 := by simp only [left] at hfu; omega
        rw [List.length_eq_zero_iff.1 h0] at this
        cases this
    refine ⟨?_, hQ st a m (done listed st m a hall hg) hi (Step.refl _ _) (Keep.refl _ _)⟩
    apply List.eq_nil_iff_forall_not_mem.2
    intro i hi'
    simp only [Region.ready, List.mem_filter, List.mem_range, Bool.and_eq_true, Bool.not_eq_true'] at hi'
    have := hall i hi'.1
    rw [this] at hi'
    simp at hi'
  | succ fuel ih =>
    intro listed st m a hsz hfu hcl hi hlt hg hQ
    refine ⟨fun hr => hQ st a m (done listed st m a (stuck listed hsz hr) hg) hi (Step.refl _ _) (Keep.refl _ _), fun i hir => ?_⟩
    simp only [Region.ready, List.mem_filter, List.mem_range, Bool.and_eq_true, Bool.not_eq_true'] at hir
    obtain ⟨hin, hli, hready⟩ := hir
    have ho : ops[i]? = some ops[i] := by simp [hin]
    have hoL : ops.toList[i]? = some ops[i] := by simp [hin]
    generalize ops[i] = o at ho hoL
    rw [ho] at hready
    simp only [Option.map_some, Option.getD_some] at hready
    rw [Array.all_eq_true'] at hready
    have hdir : ∀ k ∈ directOf o, listed.getD k true = true ∧ k < ops.size := by
      intro k hk
      have hlt' := hd.back i o hoL k hk
      simp only [directOf, List.mem_map, List.mem_filter] at hk
      obtain ⟨e, ⟨he, hb⟩, rfl⟩ := hk
      have := hready e (by simpa using he)
      rw [hb] at this
      simp only [Bool.not_true, Bool.false_or] at this
      refine ⟨?_, by omega⟩
      rw [Array.getD_eq_getD_getElem?] at this ⊢
      have hs : e.on < listed.size := by omega
      simp [hs] at this ⊢
      exact this
    obtain ⟨e, he, hx⟩ := chain_exec hc hoL
    -- its reads are as in the order of the text
    have hreads : ∀ l ∈ e.1, st.get l = St.get (applD es (fun j => decide (j < i)) st0) l := by
      intro l hl
      rw [hg]
      refine applD_congr (fun j f hf hw => ?_) rfl
      have hjn : j < ops.size := by have := (List.getElem?_eq_some_iff.1 hf).1; rw [n0] at this; simpa using this
      rcases Nat.lt_trichotomy j i with hji | hji | hji
      · have hcl' : clash (foot f) (foot e) = true := by
          simp only [clash, Bool.or_eq_true]
          exact .inl (.inl ((meets_iff _ _).2 ⟨l, hw, hl⟩))
        have := hd.clash j i f e o hji hf he hoL hcl' _ hcl hdir
        simp [this.1, hji]
      · subst hji
        simp [hli]
      · have hcl' : clash (foot e) (foot f) = true := by
          simp only [clash, Bool.or_eq_true]
          exact .inr ((meets_iff _ _).2 ⟨l, hw, hl⟩)
        have hoj : ops.toList[j]? = some ops[j] := by simp [hjn]
        have hnot : listed.getD j true = false := by
          cases hlj : listed.getD j true with
          | false => rfl
          | true =>
            have := hd.clash i j e f ops[j] hji he hf hoj hcl' _ hcl (fun k hk => hcl j ops[j] hoj ⟨hlj, hjn⟩ k hk)
            rw [hli] at this; exact this.1.symm
        rw [hnot]
        simp; omega
    have hx' : Exec tt calls ops.toList o st e := hx.local hreads
    have hod : ∀ x, o.dst = some x → x ∈ dsts := hdst o (List.mem_of_getElem? hoL)
    have go := exec_sound (P := P) T C hi (fun x hx => hlt x (hod x hx)) hx' (K := wpAny P .any ops Q fuel (listed.setIfInBounds i true)) (Q := Q) (fun a' m' i1 i2 i3 => by
      have k1 := i3.keep hod
      have hgetD : ∀ j, (listed.setIfInBounds i true).getD j true = if i = j then true else listed.getD j true := by
        intro j
        rw [Array.getD_eq_getD_getElem?, Array.getD_eq_getD_getElem?, Array.getElem?_setIfInBounds]
        by_cases hij : i = j
        · subst hij; simp; split <;> simp_all
        · simp [hij]
      refine ih _ (e.2 ++ st) m' a' (by simp [hsz]) ?_ ?_ i1 (fun x hx => by rw [k1.size]; exact hlt x hx) ?_ fun st' a2 m2 j0 j1 j2 j3 => hQ st' a2 m2 j0 j1 (i2.trans j2) (k1.trans j3)
      · have : left ops.size (listed.setIfInBounds i true) < left ops.size listed := by
          refine filter_lt (fun x _ hq => ?_) (i := i) (by simpa using hin) (by simp [hli]) (by simp [hgetD])
          rw [hgetD] at hq
          by_cases hxi : i = x
          · simp [hxi] at hq
          · simpa [hxi] using hq
        omega
      · intro j oj hj ⟨hlj, hjn⟩ k hk
        rw [hgetD] at hlj
        simp only [hgetD]
        by_cases hij : i = j
        · subst hij
          rw [hoL] at hj; cases hj
          obtain ⟨q1, q2⟩ := hdir k hk
          exact ⟨by simp [q1], q2⟩
        · rw [if_neg hij] at hlj
          obtain ⟨q1, q2⟩ := hcl j oj hj ⟨hlj, hjn⟩ k hk
          exact ⟨by simp [q1], q2⟩
      · intro l
        by_cases hw : l ∈ e.2.map (·.1)
        · rw [applD_last he (by simp [hgetD]) hw (fun j f hij hf hwf => ?_) st]
          have hjn : j < ops.size := by have := (List.getElem?_eq_some_iff.1 hf).1; rw [n0] at this; simpa using this
          have hoj : ops.toList[j]? = some ops[j] := by simp [hjn]
          have hcl' : clash (foot e) (foot f) = true := by
            simp only [clash, Bool.or_eq_true]
            exact .inl (.inr ((meets_iff _ _).2 ⟨l, hw, hwf⟩))
          rw [hgetD, if_neg (by omega)]
          cases hlj : listed.getD j true with
          | false => rfl
          | true =>
            have := hd.clash i j e f ops[j] hij he hf hoj hcl' _ hcl (fun k hk => hcl j ops[j] hoj ⟨hlj, hjn⟩ k hk)
            rw [hli] at this; exact this.1.symm
        · rw [get_nback fun v hv => hw (List.mem_map_of_mem (f := fun x : Loc × FV => x.1) hv), hg]
          refine applD_congr (fun j f hf hwf => ?_) rfl
          rw [hgetD]
          by_cases hij : i = j
          · subst hij
            rw [he] at hf; cases hf
            exact absurd hwf hw
          · rw [if_neg hij])
    unfold wpOp
    rw [ho]
    simp only
    split
    · rename_i hw
      rw [if_pos hw] at go
      exact .inl go
    · rename_i hw
      rw [if_neg hw] at go
      exact go
theorem region_sound (T : TypesOK P et tt) (C : CallsOK P et calls) {id : Nat} {ops : Array Oper} {draw : Bool} (hm : P.follows .mixedOrders = true) {K : St → Prop} (hf : frun tt calls ops.toList ops.toList st [] (fun st' acc =>
      match draw with
      | false => K st'
      | true => bif drawOK ops.toList acc then K st' else False)) (h : Inv et st m a) {dsts : List Nat} (hdst : ∀ o ∈ ops.toList, ∀ x, o.dst = some x → x ∈ dsts) (hlt : ∀ x ∈ dsts, x < a.tmps.size) {Q : Exit → Act → World → Prop}
    (hQ : ∀ st' a' m', K st' → Inv et st' m' a' → Step st m st' m' → Keep dsts a a' → Q .normal a' m'.w) : (Code.region id ops draw).wp P Q a m.w := by
  obtain ⟨es, st', h1, h2, h3⟩ := frun_chain hf (fun _ => rfl)
  cases draw with
  | false =>
    refine wp_region_list (chain_list T C h1 h hdst hlt fun a' m' i1 i2 i3 => ?_)
    obtain ⟨j1, j2⟩ := i1.ext h3
    exact hQ st' a' m' h2 j1 (i2.trans j2) i3
  | true =>
    simp only [List.append_nil] at h2
    cases hd : drawOK ops.toList (es.map foot).reverse with
    | false => rw [hd] at h2; exact h2.elim
    | true =>
      rw [hd] at h2
      simp only [cond_true] at h2
      have hw : Inv et st { m with w := { m.w with drawn := m.w.drawn + 1 } } a := h.world _ rfl
      have hs : Step st m st { m with w := { m.w with drawn := m.w.drawn + 1 } } := Step.world _ rfl rfl rfl rfl
      refine wp_region_any hm ?_
      have hgetD : ∀ j, j < ops.size → (Array.replicate ops.size false).getD j true = false := fun j hj => by simp [Array.getD_eq_getD_getElem?, hj]
      refine any_sound T C h1 (drawOK_spec hd (chain_len h1)) hdst ops.size (Array.replicate ops.size false) st _ a (by simp) ?_ ?_ hw hlt ?_ fun st2 a' m' i0 i1 i2 i3 => ?_
      · unfold left
        exact Nat.le_trans (List.length_filter_le _ _) (by simp)
      · intro j o hj ⟨hlj, hjn⟩
        rw [hgetD j hjn] at hlj; cases hlj
      · intro l
        have : ∀ (es : List Ent) (D : Nat → Bool) (s : St), (∀ j, j < es.length → D j = false) → applD es D s = s := by
          intro es
          induction es with
          | nil => intro D s _; rfl
          | cons e es ih => intro D s hD; rw [applD, if_neg (by simp [hD 0]), ih _ _ fun j hj => hD (j + 1) (by simpa using hj)]
        rw [this es _ st fun j hj => hgetD j (by have := chain_len h1; simp at this; omega)]
      · obtain ⟨j1, j2⟩ := i1.ext (st' := st') fun l => by rw [h3 l, i0 l]
        exact hQ st' a' m' h2 j1 ((hs.trans i2).trans j2) i3
end Go.Proofs.Fw

set_option autoImplicit false
set_option linter.unusedVariables false
set_option linter.unusedSimpArgs false
namespace Go.Proofs.Fw
open Go
variable {et : LTag → TypeId} {P : Program} {tt : TT} {st : St} {m : Mem} {a : Act} {calls : List (Nat × FSpec)} {loops : List (Nat × LoopAnn)}
def FX.ex : FX → Exit
  | .normal => .normal
  | .exit i => .exit i
  | .ret => .ret
/-! ### 1. Loops -/
/-- A loop does what its law says. -/
def LoopSound (P : Program) (et : LTag → TypeId) (c : Code) (ann : LoopAnn) : Prop :=
  ∀ (ds : List FV) (ext : List (List FV)) (asks : List Bool) (e : FX) (us : List FV) (objs : List (List FV)), ann.spec ds ext = some (asks, e, us, objs) → (∀ p ∈ asks, p) → us.length = ds.length → objs.map List.length = ext.map List.length → ds.length = ann.ins.length →
    nodupL ((slotPl ann.ins ds).map (·.il)) = true → ∀ (m : Mem) (a : Act), Inv et (entry ann.ins ds ext) m a → (∀ x ∈ Code.dsts c, x < a.tmps.size) → ∀ Q : Exit → Act → World → Prop,
    (∀ a' m', Inv et (entry ann.ins us objs) m' a' → Ext (entry ann.ins ds ext) m (entry ann.ins us objs) m' → (∀ j, j < ext.length → m'.β (.arg j) = m.β (.arg j)) → Keep (Code.dsts c) a a' → Q e.ex a' m'.w) → (Code.loop c).wp P Q a m.w
def Code.inner : Code → List Code
  | .seq x y => Code.inner x ++ Code.inner y
  | .cond _ x y => Code.inner x ++ Code.inner y
  | .block _ x => Code.inner x
  | .loop c => [c]
  | _ => []
def LoopsOK (P : Program) (et : LTag → TypeId) (loops : List (Nat × LoopAnn)) (c : Code) : Prop := ∀ l ∈ Code.inner c, ∀ ann, (Code.key l).bind (look loops) = some ann → LoopSound P et l ann
theorem getSlots_spec : ∀ {ins : List (Nat × Option LTag)} {vs : List FV}, (getSlots ins).run st = some vs → ins.length = vs.length ∧ ∀ p ∈ slotPl ins vs, ∃ s, p.ol = .slot s ∧ p.il = .slot s ∧ st.get (.slot s) = p.oc
  | [], vs, h => by simp [getSlots] at h; subst h; simp [slotPl]
  | (s, t) :: ins, vs, h => by
    simp only [getSlots, Q.run_bind, Option.bind_eq_some_iff] at h
    obtain ⟨v, hv, l, hl, h⟩ := h
    simp at h hv; subst h
    obtain ⟨h1, h2⟩ := getSlots_spec hl
    refine ⟨by simp [h1], fun p hp => ?_⟩
    simp only [slotPl, List.mem_cons] at hp
    rcases hp with rfl | hp
    · exact ⟨s, rfl, rfl, hv⟩
    · exact h2 p hp
section
variable {ins : List (Nat × Option LTag)} {vs ds us : List FV} {os : List (Nm × List FV)} {ext objs : List (List FV)} {back : St}
theorem pls_slot {p : Pl} {n : Nat} (hp : p ∈ plsOf ins vs os) (h : p.il = .slot n ∨ p.ol = .slot n) : p ∈ slotPl ins vs := by
  simp only [plsOf, List.mem_append] at hp
  rcases hp with hp | hp
  · exact hp
  · obtain ⟨_, _, _, _, _, _, _, rfl⟩ := (mem_objPl _ _ _).1 hp
    rcases h with h | h <;> cases h
/-- The state inside of the part. -/
theorem part_inv (k : PartOK ins vs ds os ext) (h : Inv et st m a) (hs : ∀ p ∈ slotPl ins vs, ∃ s, p.ol = .slot s ∧ p.il = .slot s ∧ st.get (.slot s) = p.oc)
    (hos : ∀ o cs, (o, cs) ∈ os → st.get (.obj o) = .obj cs.length ∧ ∀ (i : Nat) (c : FV), cs[i]? = some c → st.get (.cell o i) = c) (hz : ∀ z ∈ zOf ins vs ds os ext, ZRel os st z.1 z.2) :
    Inv et (entry ins ds ext) (subMem ins vs ds os ext st m) a := by
  have sin := part_in k h.mem hos hz
  refine ⟨sin.mem h.mem, fun n => ?_⟩
  by_cases hn : ∃ p ∈ plsOf ins vs os, p.il = .slot n
  · obtain ⟨p, hp, e⟩ := hn
    obtain ⟨d, hd⟩ := k.zmem hp
    refine part_slot k hz sin hd e ?_
    obtain ⟨s, e1, e2, e3⟩ := hs p (pls_slot hp (.inl e))
    rw [e] at e2; cases e2
    rw [← e3]
    exact h.slots n
  · rw [k.slotGet fun p hp e => hn ⟨p, hp, e⟩]
    exact DR.any _
theorem kills_get (ins : List (Nat × Option LTag)) : ∀ (l : List Nat) (x : Loc) (v : FV), (x, v) ∈ killsOf ins l → ∃ n, x = .slot n ∧ v = .any ∧ n ∈ l ∧ ∀ p ∈ ins, p.1 ≠ n
  | [], x, v, h => by simp [killsOf] at h
  | d :: l, x, v, h => by
    unfold killsOf at h
    cases hb : ins.any (fun p => Nat.beq p.1 d) with
    | true =>
      rw [hb] at h
      obtain ⟨n, h1, h2, h3, h4⟩ := kills_get ins l x v h
      exact ⟨n, h1, h2, by simp [h3], h4⟩
    | false =>
      rw [hb] at h
      simp only [cond_false, List.mem_cons] at h
      rcases h with h | h
      · cases h
        refine ⟨d, rfl, rfl, by simp, fun p hp e => ?_⟩
        have := List.any_eq_false.1 hb p hp
        rw [e] at this
        simp at this
      · obtain ⟨n, h1, h2, h3, h4⟩ := kills_get ins l x v h
        exact ⟨n, h1, h2, by simp [h3], h4⟩
theorem kills_has (ins : List (Nat × Option LTag)) {n : Nat} (hn : ∀ p ∈ ins, p.1 ≠ n) : ∀ (l : List Nat), n ∈ l → (Loc.slot n, FV.any) ∈ killsOf ins l
  | [], h => by simp at h
  | d :: l, h => by
    unfold killsOf
    by_cases e : d = n
    · subst e
      have : ins.any (fun p => Nat.beq p.1 d) = false := List.any_eq_false.2 fun p hp => by
        have := hn p hp
        simp [Nat.beq_eq_true_eq, this]
      rw [this]
      simp
    · have h' : n ∈ l := by simpa [Ne.symm e] using h
      have := kills_has ins hn l h'
      cases ins.any (fun p => Nat.beq p.1 d) <;> simp [this]
theorem slotPl_ins : ∀ {ins : List (Nat × Option LTag)} {vs : List FV} {p : Nat × Option LTag}, ins.length = vs.length → p ∈ ins → ∃ q ∈ slotPl ins vs, q.il = .slot p.1
  | [], _, _, _, h => by simp at h
  | _ :: _, [], _, h, _ => by simp at h
  | (s, t) :: ins, v :: vs, p, h, hp => by
    rcases List.mem_cons.1 hp with rfl | hp
    · exact ⟨_, List.mem_cons_self, rfl⟩
    · obtain ⟨q, h1, h2⟩ := slotPl_ins (vs := vs) (by simpa using h) hp
      exact ⟨q, List.mem_cons_of_mem _ h1, h2⟩
/-- Behind the part: the state outside. -/
theorem part_leave {m' : Mem} {a' : Act} {dsts : List Nat} (k : PartOK ins vs ds os ext) (k' : PartOK ins vs us os objs) (h : Inv et st m a) (hs : ∀ p ∈ slotPl ins vs, ∃ s, p.ol = .slot s ∧ p.il = .slot s ∧ st.get (.slot s) = p.oc)
    (hz : ∀ z ∈ zOf ins vs ds os ext, ZRel os st z.1 z.2) (sin : SubIn st m (entry ins ds ext) (subMem ins vs ds os ext st m) (eoOf os) (erOf (zOf ins vs ds os ext)))
    (b : BackOK os st (plsOf ins vs os) (us ++ objs.flatten) back []) (h' : Inv et (entry ins us objs) m' a') (he : Ext (entry ins ds ext) (subMem ins vs ds os ext st m) (entry ins us objs) m')
    (hβ : ∀ j o cs, os[j]? = some (o, cs) → m'.β (.arg j) = m.β o) (hk : Keep dsts a a') :
    ∃ m2, m2.w = m'.w ∧ Inv et ((back ++ killsOf ins dsts) ++ st) m2 a' ∧ Step st m ((back ++ killsOf ins dsts) ++ st) m2 := by
  have sout := part_out k k' hz b he hβ
  have bm := back_mem sin sout h.mem h'.mem
  have bs := back_step sin sout
  have tdr := fun c v => back_dr sin sout h.mem (c := c) (v := v)
  have bslot : ∀ n v, (Loc.slot n, v) ∈ back → ∃ p ∈ slotPl ins vs, p.ol = .slot n := fun n v hv => by
    obtain ⟨⟨p, d⟩, hz1, W, w1, w2, _⟩ := b.of _ hv
    have hpl : p ∈ plsOf ins vs os := (List.of_mem_zip hz1).1
    have e : p.ol = .slot n := by
      simp only at w1
      cases w1 <;> simp at w2 <;> exact w2.1.symm
    exact ⟨p, pls_slot hpl (.inr e), e⟩
  have hsm : SM (back ++ st) ((back ++ killsOf ins dsts) ++ st) := fun l hl => by
    rw [List.append_assoc]
    by_cases hin : ∃ v, (l, v) ∈ back
    · obtain ⟨v, hv⟩ := hin
      rw [get_back b.keys hv, get_back b.keys hv]
    · rw [get_nback fun v hv => hin ⟨v, hv⟩, get_nback fun v hv => hin ⟨v, hv⟩, get_nback fun v hv => ?_]
      obtain ⟨n, e, _⟩ := kills_get _ _ _ _ hv
      exact hl n e
  refine ⟨backMem m m' (enOf (zOf ins vs us os objs) back) back, rfl, ⟨hsm.mem bm, fun n => ?_⟩, bs.trans hsm.step⟩
  by_cases hn : ∃ p ∈ slotPl ins vs, p.ol = .slot n
  · obtain ⟨p, hp, e⟩ := hn
    obtain ⟨s, e1, e2, e3⟩ := hs p hp
    rw [e] at e1; cases e1
    have hpl : p ∈ plsOf ins vs os := by simp [plsOf, hp]
    obtain ⟨d, hd⟩ := k'.zmem hpl
    obtain ⟨W, w1, w2⟩ := b.all _ hd
    simp only at w1
    have hin := h'.slots n
    have hg := k'.get hd
    rw [e2] at hg
    rw [hg] at hin
    have fin : ∀ u, (Loc.slot n, u) ∈ back → RS (back ++ st) (backMem m m' (enOf (zOf ins vs us os objs) back) back) u (a'.tmps.getD n undef) → RS ((back ++ killsOf ins dsts) ++ st) (backMem m m' (enOf (zOf ins vs us os objs) back) back) (St.get ((back ++ killsOf ins dsts) ++ st) (.slot n)) (a'.tmps.getD n undef) := fun u hu hr => by
      rw [List.append_assoc, get_back b.keys hu, ← List.append_assoc]
      exact hsm.tr.rs hr
    cases w1 with
    | oo r g g0 xs q hn =>
      have hm1 := w2 _ List.mem_cons_self
      rw [e] at hm1
      refine fin _ hm1 (RS.of (back_cell sin sout h.mem (.inr ⟨_, 0, xs, r, g + 1, rfl, ?_, ⟨_, hd, by simp [e2], g + 1, by simp only [e]; exact hm1⟩, rfl, w2 _ (by simp)⟩) hin))
      have := k'.getRow hd
      rwa [e2] at this
    | no g g0 xs q hg0 hn =>
      have hm1 := w2 _ List.mem_cons_self
      rw [e] at hm1
      refine fin _ hm1 (RS.of (back_cell sin sout h.mem (.inr ⟨_, 0, xs, nmOf (.slot n), g, rfl, ?_, ⟨_, hd, by simp [e2], g, by simp only [e]; exact hm1⟩, rfl, ?_⟩) hin))
      · have := k'.getRow hd
        rwa [e2] at this
      · have := w2 (Loc.row (nmOf p.ol), FV.ownv g xs) (by simp)
        rwa [e] at this
    | on r g d q hd' =>
      have hm1 := w2 _ List.mem_cons_self
      rw [e] at hm1
      rw [plainS_inV (plain_S hd')] at hin
      exact fin _ hm1 (plain_rs tdr (plainS_R (plain_S hd')) hin)
    | nn d q hd' =>
      have hm1 := w2 _ List.mem_cons_self
      rw [e] at hm1
      have hp' : plainS d = true := by
        rcases hd' with hd' | hd'
        · exact plain_S hd'
        · exact hd'.1
      rw [plainS_inV hp'] at hin
      exact fin _ hm1 (plain_rs tdr (plainS_R hp') hin)
    | pp o j q hi =>
      have hno : ∀ v, (Loc.slot n, v) ∉ back := fun v hv => by
        obtain ⟨⟨p', d'⟩, hz1, W', w1', w2', _⟩ := b.of _ hv
        have hz1' : (p', d') ∈ zOf ins vs us os objs := hz1
        have e' : p'.ol = .slot n := by
          simp only at w1'
          cases w1' <;> simp at w2' <;> exact w2'.1.symm
        have := k'.zol hz1' hd (by simp [e, e'])
        cases this
        simp only at w1'
        cases w1' with
        | on r g d q' => rw [q] at q'; cases q'
        | nn d q' hh => simp [plainCell, plainS] at hh
        | pp => simp at w2'
      have hnk : ∀ v, (Loc.slot n, v) ∉ killsOf ins dsts := fun v hv => by
        obtain ⟨n', e', _, _, h4⟩ := kills_get _ _ _ _ hv
        cases e'
        obtain ⟨s, e5, _, kk, t, e6, _⟩ := mem_slotPl ins vs p hp
        rw [e] at e5; cases e5
        exact h4 _ (List.mem_of_getElem? e6) rfl
      rw [List.append_assoc, get_nback hno, get_nback hnk, e3, q]
      obtain ⟨i, cs, h1, h2⟩ := idxOf_spec hi
      rw [Nat.zero_add] at h1
      subst h1
      have hr : R1 (entry ins us objs) m' (.ptr (.arg j) 0) (a'.tmps.getD n undef) := hin
      obtain ⟨_, e7⟩ := hr
      rw [e7, hβ j o cs h2]
      have hst := h.slots n
      rw [e3, q] at hst
      obtain ⟨⟨nn, e8⟩, _⟩ := hst
      have hR : R1 st m (.ptr o 0) (.pointer (some ⟨m.β o, 0, none⟩)) := ⟨⟨nn, e8⟩, rfl⟩
      have := (bs.trans hsm.step).tr.r1 hR
      rw [List.append_assoc] at this
      exact this
  · have hno : ∀ v, (Loc.slot n, v) ∉ back := fun v hv => hn (bslot n v hv)
    by_cases hd : n ∈ dsts
    · have hni : ∀ p ∈ ins, p.1 ≠ n := fun p hp e => by
        obtain ⟨q, h1, h2⟩ := slotPl_ins (vs := vs) k.li hp
        obtain ⟨s, e1, e2, _⟩ := hs q h1
        rw [h2] at e2; cases e2
        exact hn ⟨q, h1, by rw [e1, e]⟩
      have hkk := kills_has ins hni dsts hd
      rw [List.append_assoc, get_nback hno]
      rcases get_append (killsOf ins dsts) st (.slot n) with ⟨v, hv, e, _⟩ | ⟨hn', _⟩
      · obtain ⟨_, _, e', _⟩ := kills_get _ _ _ _ hv
        rw [e, e']; exact DR.any _
      · exact absurd hkk (hn' _)
    · rw [List.append_assoc, get_nback hno, get_nback fun v hv => ?_]
      · rw [hk.slots n hd, ← List.append_assoc]
        exact (bs.trans hsm.step).tr.rs (h.slots n)
      · obtain ⟨n', e', _, h3, _⟩ := kills_get _ _ _ _ hv
        cases e'
        exact hd h3
end
end Go.Proofs.Fw

set_option autoImplicit false
set_option linter.unusedVariables false
set_option linter.unusedSimpArgs false
namespace Go.Proofs.Fw
open Go
variable {et : LTag → TypeId} {P : Program} {tt : TT} {st : St} {m : Mem} {a : Act} {calls : List (Nat × FSpec)} {loops : List (Nat × LoopAnn)}
theorem nodupL_left : ∀ {xs ys : List Loc}, nodupL (xs ++ ys) = true → nodupL xs = true
  | [], _, _ => rfl
  | x :: xs, ys, h => by
    simp only [List.cons_append, nodupL, Bool.and_eq_true, Bool.not_eq_true'] at h ⊢
    refine ⟨?_, nodupL_left h.2⟩
    cases hm : memL x xs with
    | false => rfl
    | true =>
      have := (memL_iff x (xs ++ ys)).2 (by simp [(memL_iff _ _).1 hm])
      rw [h.1] at this; cases this
theorem cond_same {c : Operand} {t : Bool} (h : (ev c).run st = some (.bool t)) (l : Loc) : St.get (condBack c t st) l = st.get l := by
  unfold condBack
  cases c with
  | tmp n =>
    simp [ev] at h
    rw [get_cons]
    split
    · rename_i e; rw [← e, h]
    · rfl
  | _ => rfl
theorem floop_sound {c : Code} {ann : LoopAnn} (L : LoopSound P et c ann) {asks : List Bool} {e : FX} {ws : St} (hf : (floop ann (Code.dsts c)).run st = some (asks, e, ws)) (hasks : ∀ p ∈ asks, p) (hi : Inv et st m a) {dsts : List Nat} (hd : ∀ x ∈ Code.dsts c, x ∈ dsts) (hl : ∀ x ∈ dsts, x < a.tmps.size)
    {K : Exit → Act → World → Prop} (hQ : ∀ a' m', Inv et (ws ++ st) m' a' → Step st m (ws ++ st) m' → Keep dsts a a' → K e.ex a' m'.w) : (Code.loop c).wp P K a m.w := by
  simp only [floop, Q.run_bind, Option.bind_eq_some_iff] at hf
  obtain ⟨vs, hvs, ⟨ds, os, ext⟩, hsub, hf⟩ := hf
  split at hf
  · rename_i asks' e' us objs hspec
    simp only [Q.run_bind, Option.bind_eq_some_iff] at hf
    obtain ⟨back, hback, hf⟩ := hf
    simp at hf
    obtain ⟨rfl, rfl, rfl⟩ := hf
    obtain ⟨s1, s2⟩ := getSlots_spec hvs
    obtain ⟨k, hn, hos, hz, _⟩ := subSt_spec hsub
    obtain ⟨q1, q2⟩ := backSt_spec hback
    have lu : us.length = vs.length := by
      have := q2.len
      have h2 := k.len
      have h3 : objs.flatten.length = ext.flatten.length := by rw [← objPl_len os objs 0 q1, ← objPl_len os ext 0 k.lo]
      simp only [List.length_append] at this h2
      have := k.lv
      omega
    have k' := k.after lu q1
    have sin := part_in k hi.mem hos hz
    have inv1 := part_inv k hi s2 hos hz
    have lobj : objs.map List.length = ext.map List.length := by rw [← q1, k.lo]
    have nd : nodupL ((slotPl ann.ins ds).map (·.il)) = true := by
      have h1 : nodupL ((plsOf ann.ins vs os).map (·.il)) = true := k.il
      rw [slotPl_il ann.ins ds vs k.lv.symm]
      simp only [plsOf, List.map_append] at h1
      exact nodupL_left h1
    refine L ds ext asks' e' us objs hspec hasks (by rw [lu, k.lv]) lobj (by rw [← k.lv, k.li]) nd _ a inv1 (fun x hx => hl x (hd x hx)) K fun a' m' i1 i2 i3 i4 => ?_
    obtain ⟨m2, w1, w2, w3⟩ := part_leave k k' hi s2 hz sin q2 i1 i2 (fun j o cs hj => by
      obtain ⟨e1, he, _⟩ := k.extOf hj
      rw [i3 j (List.getElem?_eq_some_iff.1 he).1]
      simp [subMem, subBeta, hj]) i4
    rw [← w1]
    exact hQ a' m2 w2 w3 ⟨i4.size, i4.defers, fun n hn => i4.slots n fun hn' => hn (hd n hn')⟩
  · simp at hf
theorem fexec_sound (T : TypesOK P et tt) (C : CallsOK P et calls) (hm : P.follows .mixedOrders = true) : ∀ (c : Code) {st : St} {m : Mem} {a : Act} {K : FX → St → Prop} {Q : Exit → Act → World → Prop} {dsts : List Nat}, LoopsOK P et loops c → fexec tt calls loops c st K → Inv et st m a → (∀ x ∈ Code.dsts c, x ∈ dsts) → (∀ x ∈ dsts, x < a.tmps.size) →
    (∀ e st' a' m', K e st' → Inv et st' m' a' → Step st m st' m' → Keep dsts a a' → Q e.ex a' m'.w) → c.wp P Q a m.w
  | .skip, st, m, a, K, Q, dsts, L, h, hi, hd, hl, hQ => wp_skip (hQ .normal st a m h hi (Step.refl _ _) (Keep.refl _ _))
  | .region id ops draw, st, m, a, K, Q, dsts, L, h, hi, hd, hl, hQ => by
    refine region_sound T C hm (K := fun st' => K .normal st') h hi (dsts := dsts) (fun o ho x hx => hd x ?_) hl fun st' a' m' h1 h2 h3 h4 => hQ .normal st' a' m' h1 h2 h3 h4
    simp only [Code.dsts, List.mem_filterMap]
    exact ⟨o, ho, hx⟩
  | .seq x y, st, m, a, K, Q, dsts, L, h, hi, hd, hl, hQ => by
    refine wp_seq (fexec_sound T C hm x (fun l hl' => L l (by simp [Code.inner, hl'])) h hi (fun n hn => hd n (by simp [Code.dsts, hn])) hl fun e st' a' m' h1 h2 h3 h4 => ?_)
    cases e with
    | normal =>
      exact fexec_sound T C hm y (fun l hl' => L l (by simp [Code.inner, hl'])) h1 h2 (fun n hn => hd n (by simp [Code.dsts, hn])) (fun n hn => by rw [h4.size]; exact hl n hn) fun e st2 a2 m2 j1 j2 j3 j4 => hQ e st2 a2 m2 j1 j2 (h3.trans j3) (h4.trans j4)
    | exit i => exact hQ (.exit i) st' a' m' h1 h2 h3 h4
    | ret => exact hQ .ret st' a' m' h1 h2 h3 h4
  | .cond c x y, st, m, a, K, Q, dsts, L, h, hi, hd, hl, hQ => by
    unfold fexec at h
    split at h
    · rename_i t ht
      have hc := (ev_sound hi ht).bool
      cases t with
      | true =>
        obtain ⟨j1, j2⟩ := hi.ext (cond_same ht)
        exact wp_cond_true hc (fexec_sound T C hm x (fun l hl' => L l (by simp [Code.inner, hl'])) h j1 (fun n hn => hd n (by simp [Code.dsts, hn])) hl fun e st' a' m' h1 h2 h3 h4 => hQ e st' a' m' h1 h2 (j2.trans h3) h4)
      | false =>
        obtain ⟨j1, j2⟩ := hi.ext (cond_same ht)
        exact wp_cond_false hc (fexec_sound T C hm y (fun l hl' => L l (by simp [Code.inner, hl'])) h j1 (fun n hn => hd n (by simp [Code.dsts, hn])) hl fun e st' a' m' h1 h2 h3 h4 => hQ e st' a' m' h1 h2 (j2.trans h3) h4)
    · exact h.elim
  | .block id c, st, m, a, K, Q, dsts, L, h, hi, hd, hl, hQ => by
    refine wp_block (fexec_sound T C hm c (fun l hl' => L l hl') h hi (fun n hn => hd n hn) hl fun e st' a' m' h1 h2 h3 h4 => ?_)
    cases e with
    | normal => exact hQ .normal st' a' m' h1 h2 h3 h4
    | exit i =>
      simp only [FX.ex, Exit.inBlock]
      by_cases e : i = id
      · subst e
        simp only [Nat.beq_refl, cond_true] at h1
        rw [if_pos rfl]
        exact hQ .normal st' a' m' h1 h2 h3 h4
      · have : Nat.beq i id = false := by
          cases hb : Nat.beq i id with
          | false => rfl
          | true => exact absurd (Nat.eq_of_beq_eq_true hb) e
        simp only [this, cond_false] at h1
        rw [if_neg e]
        exact hQ (.exit i) st' a' m' h1 h2 h3 h4
    | ret => exact hQ .ret st' a' m' h1 h2 h3 h4
  | .loop c, st, m, a, K, Q, dsts, L, h, hi, hd, hl, hQ => by
    unfold fexec at h
    split at h
    · rename_i ann hann
      split at h
      · rename_i asks e ws hf
        obtain ⟨hasks, hK⟩ := conj_out h
        exact floop_sound (L c (by simp [Code.inner]) ann hann) hf hasks hi hd hl fun a' m' h1 h2 h3 => hQ e _ a' m' hK h1 h2 h3
      · exact h.elim
    · exact h.elim
  | .exit id, st, m, a, K, Q, dsts, L, h, hi, hd, hl, hQ => wp_exit (hQ (.exit id) st a m h hi (Step.refl _ _) (Keep.refl _ _))
  | .ret, st, m, a, K, Q, dsts, L, h, hi, hd, hl, hQ => wp_ret (hQ .ret st a m h hi (Step.refl _ _) (Keep.refl _ _))
  | .goto _, st, m, a, K, Q, dsts, L, h, hi, hd, hl, hQ => h.elim
  | .label _, st, m, a, K, Q, dsts, L, h, hi, hd, hl, hQ => h.elim
  | .scope _, st, m, a, K, Q, dsts, L, h, hi, hd, hl, hQ => h.elim
  | .rangeFunc _ _ _ _, st, m, a, K, Q, dsts, L, h, hi, hd, hl, hQ => h.elim
end Go.Proofs.Fw

set_option autoImplicit false
set_option linter.unusedVariables false
set_option linter.unusedSimpArgs false
namespace Go.Proofs.Fw
open Go
variable {et : LTag → TypeId} {P : Program} {tt : TT} {st : St} {m : Mem} {a : Act} {calls : List (Nat × FSpec)} {loops : List (Nat × LoopAnn)}
/-! ### 1. Fewer foreign blocks -/
def Mem.only (m : Mem) (X : Nat → Prop) : Mem := { m with X := X }
theorem only_dr {X : Nat → Prop} (hX : ∀ b, X b → m.X b) {c : FV} {v : Value} (h : DR (mutB st m) m.w c v) : DR (mutB st (m.only X)) (m.only X).w c v :=
  h.trans (fun b hb _ => ⟨fun hm => hb (hm.imp (hX b) id), rfl⟩) (Nat.le_refl _)
theorem only_r1 {X : Nat → Prop} (hX : ∀ b, X b → m.X b) {c : FV} {v : Value} (h : R1 st m c v) : R1 st (m.only X) c v := by
  cases c with
  | eptr x off =>
    obtain ⟨b, base, vals, hv, hM, hb, hc⟩ := h
    exact ⟨b, base, vals, hv, fun hm => hM (hm.imp (hX b) id), hb, fun j c hj => ⟨(hc j c hj).1, only_dr hX (hc j c hj).2⟩⟩
  | ptr o off => exact h
  | aptr o base esz n i => exact h
  | own r g => exact h
  | optr r g i => exact h
  | agg _ => exact h
  | tup _ => exact h
  | obj _ => exact h
  | ownv _ _ => exact h
  | dead _ => exact h
  | any => exact only_dr hX h
  | int k n => exact only_dr hX h
  | bool b => exact only_dr hX h
  | str s => exact only_dr hX h
  | nilsl => exact only_dr hX h
  | sl xs => exact only_dr hX h
  | nilp => exact only_dr hX h
  | fn f => exact only_dr hX h
  | nilfn => exact only_dr hX h
theorem only_ra {X : Nat → Prop} (hX : ∀ b, X b → m.X b) {c : FV} {v : Value} (h : RA st m c v) : RA st (m.only X) c v := by
  cases c with
  | agg vs =>
    obtain ⟨cs, rfl, h⟩ := h
    exact ⟨cs, rfl, h.imp fun _ _ h => only_r1 hX h⟩
  | tup vs => exact h
  | _ => (simp only [RA] at h ⊢; exact only_r1 hX h)
theorem only_rs {X : Nat → Prop} (hX : ∀ b, X b → m.X b) {c : FV} {v : Value} (h : RS st m c v) : RS st (m.only X) c v := by
  cases c with
  | tup vs =>
    obtain ⟨cs, rfl, h⟩ := h
    exact ⟨cs, rfl, h.imp fun _ _ h => only_ra hX h⟩
  | _ => (simp only [RS] at h ⊢; exact only_ra hX h)
theorem only_cr {X : Nat → Prop} (hX : ∀ b, X b → m.X b) {c : FV} {v : Value} (h : CR st m c v) : CR st (m.only X) c v := by
  cases c with
  | ptr o off => exact h
  | _ => (simp only [CR] at h ⊢; exact only_dr hX h)
theorem only_mem {X : Nat → Prop} (hX : ∀ b, X b → m.X b) (h : MemOK et st m) : MemOK et st (m.only X) :=
  ⟨fun o n ho => let ⟨arr, ty, h1, h2, h3⟩ := h.objs o n ho; ⟨arr, ty, h1, h2, fun i v hv => only_r1 hX (h3 i v hv)⟩,
   fun r g xs hr => let ⟨cs, h1, h2⟩ := h.rows r g xs hr; ⟨cs, h1, fun i j c hi hj => let ⟨u, h3, h4⟩ := h2 i j c hi hj; ⟨u, h3, only_cr hX h4⟩⟩,
   h.oo, h.rr, h.or_, fun b hb => h.xlt b (hX b hb), fun b hb => h.xl b (hX b hb)⟩
theorem only_inv {X : Nat → Prop} (hX : ∀ b, X b → m.X b) (h : Inv et st m a) : Inv et st (m.only X) a := ⟨only_mem hX h.mem, fun n => only_rs hX (h.slots n)⟩
/-! ### 2. What stands behind code, under its own names -/
theorem argNames_get : ∀ (objs : List (List FV)) (j k : Nat), (argNames j objs)[k]? = if k < objs.length then some (.arg (j + k)) else none
  | [], j, k => by simp [argNames]
  | c :: objs, j, k => by
    cases k with
    | zero => simp [argNames]
    | succ k =>
      simp only [argNames, List.getElem?_cons_succ, argNames_get objs (j + 1) k, List.length_cons]
      simp [Nat.add_assoc, Nat.add_comm 1 k]
/-- The state at the end, as a state at the start. -/
theorem canon {ins : List (Nat × Option LTag)} {vs ds : List FV} {objs0 : List (List FV)} {os : List (Nm × List FV)} {ext : List (List FV)} {m0 : Mem} (k : PartOK ins vs ds os ext) (hn : os.map (·.1) = argNames 0 objs0)
    (hos : ∀ o cs, (o, cs) ∈ os → st.get (.obj o) = .obj cs.length ∧ ∀ (i : Nat) (c : FV), cs[i]? = some c → st.get (.cell o i) = c) (hz : ∀ z ∈ zOf ins vs ds os ext, ZRel os st z.1 z.2) (h : MemOK et st m)
    {s0 : St} (hobj : ∀ j, j < objs0.length → ∃ n, s0.get (.obj (.arg j)) = .obj n) (hs : Step s0 m0 st m) :
    let m2 := (subMem ins vs ds os ext st m).only m0.X
    (∀ b, m0.X b → (subMem ins vs ds os ext st m).X b) ∧ MemOK et (entry ins ds ext) m2 ∧ m2.w = m.w ∧ Ext s0 m0 (entry ins ds ext) m2 ∧ ∀ j, j < objs0.length → m2.β (.arg j) = m0.β (.arg j) := by
  have sin := part_in k h hos hz
  have hX : ∀ b, m0.X b → (subMem ins vs ds os ext st m).X b := fun b hb => by
    rw [← hs.ext.X] at hb
    exact (sin.X b).2 ⟨.inl hb, fun hl => h.xl b hb (sin.live hl)⟩
  refine ⟨hX, only_mem hX (sin.mem h), rfl, ⟨hs.ext.os, hs.ext.tape, hs.ext.output, hs.ext.size, hs.ext.keep, fun b hb => ?_, rfl⟩, fun j hj => ?_⟩
  · exact hs.ext.new b (sin.live (b := b) hb)
  · have hg : (os.map (·.1))[j]? = some (.arg j) := by rw [hn, argNames_get, if_pos hj, Nat.zero_add]
    simp only [List.getElem?_map, Option.map_eq_some_iff] at hg
    obtain ⟨⟨o, cs⟩, h1, h2⟩ := hg
    simp only at h2
    subst h2
    obtain ⟨n, hn'⟩ := hobj j hj
    rw [← (hs.tr.obj _ n hn').2]
    simp [Mem.only, subMem, subBeta, h1]
theorem entry_obj {ins : List (Nat × Option LTag)} {ds : List FV} {ext : List (List FV)} (hp : nodupL ((slotPl ins ds).map (·.il)) = true ∨ True) {j : Nat} (hj : j < ext.length) : ∃ n, (entry ins ds ext).get (.obj (.arg j)) = .obj n := by
  unfold entry
  refine ⟨ext[j].length, ?_⟩
  rw [get_nback, heads_at (cs := ext[j]) (by simp [hj])]
  intro v hv
  obtain ⟨p, d, hz, hh | ⟨g0, ys, rfl, hh⟩⟩ := (mem_enterW _ _ _).1 hv
  · injection hh with e1 e2
    have q := (plsOf_isPl (ins := ins) (vs := ds) (os := args0 0 ext) (List.of_mem_zip hz).1).2
    rw [← e1] at q; exact q.elim
  · injection hh with e1 e2; cases e1
theorem Ext.trans' {s0 s1 s2 : St} {m0 m1 m2 : Mem} (h : Ext s0 m0 s1 m1) (k : Ext s1 m1 s2 m2) : Ext s0 m0 s2 m2 := h.trans k
/-- What a round does, from its canonical state to the next. -/
def RoundOK (P : Program) (et : LTag → TypeId) (ins : List (Nat × Option LTag)) (c : Code) (ds : List FV) (ext : List (List FV)) (post : FX → List FV → List (List FV) → Prop) : Prop :=
  ∀ (m : Mem) (a : Act), Inv et (entry ins ds ext) m a → (∀ x ∈ Code.dsts c, x < a.tmps.size) → ∀ Q : Exit → Act → World → Prop,
    (∀ fx us objs a' m', post fx us objs → Inv et (entry ins us objs) m' a' → Ext (entry ins ds ext) m (entry ins us objs) m' → (∀ j, j < ext.length → m'.β (.arg j) = m.β (.arg j)) → Keep (Code.dsts c) a a' → us.length = ins.length → objs.map List.length = ext.map List.length → Q fx.ex a' m'.w) → c.wp P Q a m.w
theorem leaveL_ok {ins : List (Nat × Option LTag)} {ds us : List FV} {ext objs : List (List FV)} {st' : St} {m m' : Mem} {a' : Act} (hl : (leaveL ins ext).run st' = some (us, objs)) (hinv' : Inv et st' m' a') (hstep : Step (entry ins ds ext) m st' m') :
    ∃ m2, m2.w = m'.w ∧ Inv et (entry ins us objs) m2 a' ∧ Ext (entry ins ds ext) m (entry ins us objs) m2 ∧ (∀ j, j < ext.length → m2.β (.arg j) = m.β (.arg j)) ∧ us.length = ins.length ∧ objs.map List.length = ext.map List.length := by
  simp only [leaveL, Q.run_bind, Option.bind_eq_some_iff] at hl
  obtain ⟨vs, hvs, ⟨ds2, os, ext2⟩, hsub, hl⟩ := hl
  split at hl
  · rename_i hsame
    simp at hl
    obtain ⟨rfl, rfl⟩ := hl
    have hsame := (sameNats_iff _ _).1 hsame
    obtain ⟨s1, s2⟩ := getSlots_spec hvs
    obtain ⟨k, hn, hos, hz, _⟩ := subSt_spec hsub
    have inv2 := part_inv k hinv' s2 hos hz
    obtain ⟨hX, _, _, c3, c4⟩ := canon (m0 := m) (s0 := entry ins ds ext) k hn hos hz hinv'.mem (fun j hj => entry_obj (.inr trivial) hj) hstep
    exact ⟨(subMem ins vs ds2 os ext2 st' m').only m.X, rfl, only_inv hX inv2, c3, c4, by rw [← k.lv, ← k.li], hsame⟩
  · simp at hl
theorem fround_ok (T : TypesOK P et tt) (C : CallsOK P et calls) (hm : P.follows .mixedOrders = true) {c : Code} (L : LoopsOK P et loops c) {ins : List (Nat × Option LTag)} {ds : List FV} {ext : List (List FV)} {post : FX → List FV → List (List FV) → Prop}
    (h : fround tt calls loops ins c ds ext post) : RoundOK P et ins c ds ext post := by
  intro m a hinv hlt Q hQ
  refine fexec_sound T C hm c L h hinv (fun x hx => hx) hlt fun fx st' a' m' hpost hinv' hstep hkeep => ?_
  split at hpost
  · rename_i us objs hl
    obtain ⟨m2, w2, i2, e2, b2, l2, l3⟩ := leaveL_ok hl hinv' hstep
    rw [← w2]
    exact hQ fx us objs a' m2 hpost i2 e2 b2 hkeep l2 l3
  · exact hpost.elim
/-- A loop, round by round. -/
theorem rounds_sound {c : Code} {ann : LoopAnn} (μ : List FV → List (List FV) → Nat)
    (H : ∀ (ds : List FV) (ext : List (List FV)) (asks : List Bool) (e : FX) (us : List FV) (objs : List (List FV)), ann.spec ds ext = some (asks, e, us, objs) → (∀ p ∈ asks, p) → RoundOK P et ann.ins c ds ext fun fx us2 objs2 => match fx with
      | .normal => μ us2 objs2 < μ ds ext ∧ ∃ asks2, ann.spec us2 objs2 = some (asks2, e, us, objs) ∧ ∀ p ∈ asks2, p
      | fx => fx = e ∧ us2 = us ∧ objs2 = objs) : LoopSound P et c ann := by
  intro ds0 ext0 asks0 e us objs hspec0 hasks0 hlu hlo hli hnd m0 a0 hinv0 hlt Q hQ
  let I : Nat → Act → World → Prop := fun n a w => ∃ ds ext asks m, n = μ ds ext ∧ m.w = w ∧ ann.spec ds ext = some (asks, e, us, objs) ∧ (∀ p ∈ asks, p) ∧ Inv et (entry ann.ins ds ext) m a ∧
    Ext (entry ann.ins ds0 ext0) m0 (entry ann.ins ds ext) m ∧ (∀ j, j < ext0.length → m.β (.arg j) = m0.β (.arg j)) ∧ Keep (Code.dsts c) a0 a ∧ ext.map List.length = ext0.map List.length
  refine wp_loop_ghost I (μ ds0 ext0) ⟨ds0, ext0, asks0, m0, rfl, rfl, hspec0, hasks0, hinv0, .refl _ _, fun _ _ => rfl, Keep.refl _ _, rfl⟩ fun n a w hI => ?_
  obtain ⟨ds, ext, asks, m, rfl, rfl, hspec, hasks, hinv, hext, hβ, hk, hl2⟩ := hI
  refine H ds ext asks e us objs hspec hasks m a hinv (fun x hx => by rw [hk.size]; exact hlt x hx) _ fun fx us2 objs2 a' m' hpost inv3 c3 c4 hkeep l1 l2 => ?_
  have lext : ext.length = ext0.length := by have := congrArg List.length hl2; simpa using this
  have all := Ext.trans hext c3
  have hβ' : ∀ j, j < ext0.length → m'.β (.arg j) = m0.β (.arg j) := fun j hj => by rw [c4 j (by omega), hβ j hj]
  have hk' := hk.trans hkeep
  cases fx with
  | normal =>
    obtain ⟨hlt', asks2, hsp2, has2⟩ := hpost
    exact ⟨μ us2 objs2, hlt', us2, objs2, asks2, m', rfl, rfl, hsp2, has2, inv3, all, hβ', hk', by rw [l2, hl2]⟩
  | exit i =>
    obtain ⟨rfl, rfl, rfl⟩ := hpost
    exact hQ a' m' inv3 all hβ' hk'
  | ret =>
    obtain ⟨rfl, rfl, rfl⟩ := hpost
    exact hQ a' m' inv3 all hβ' hk'
theorem loop_sound (T : TypesOK P et tt) (C : CallsOK P et calls) (hm : P.follows .mixedOrders = true) {c : Code} {ann : LoopAnn} (L : LoopsOK P et loops c) (μ : List FV → List (List FV) → Nat)
    (H : ∀ (ds : List FV) (ext : List (List FV)) (asks : List Bool) (e : FX) (us : List FV) (objs : List (List FV)), ann.spec ds ext = some (asks, e, us, objs) → (∀ p ∈ asks, p) → fround tt calls loops ann.ins c ds ext fun fx us2 objs2 => match fx with
      | .normal => μ us2 objs2 < μ ds ext ∧ ∃ asks2, ann.spec us2 objs2 = some (asks2, e, us, objs) ∧ ∀ p ∈ asks2, p
      | fx => fx = e ∧ us2 = us ∧ objs2 = objs) : LoopSound P et c ann :=
  rounds_sound μ fun ds ext asks e us objs h1 h2 => fround_ok T C hm L (H ds ext asks e us objs h1 h2)
end Go.Proofs.Fw

set_option autoImplicit false
set_option linter.unusedVariables false
set_option linter.unusedSimpArgs false
namespace Go.Proofs.Fw
open Go
variable {et : LTag → TypeId} {P : Program} {st : St} {m : Mem}
/-! ### One form of a value at the border of a call -/
inductive NT where
  | id
  | ls (t : LTag)
  | msg
def nz : NT → FV → FV
  | .ls t, .nilsl => .sl t.nil
  | .msg, .agg vs => match Msg.of (.agg vs) with
    | some x => x.fv
    | none => .agg vs
  | _, v => v
def nzs : List NT → List FV → List FV
  | t :: ts, v :: vs => nz t v :: nzs ts vs
  | _, vs => vs
theorem nil_sl {t : LTag} {v : Value} (h : R1 st m .nilsl v) : R1 st m (.sl t.nil) v := by
  cases h
  exact DR.slnil _ none 0 (LTag.nil_len t) (fun _ => rfl)
theorem cr_sl {xs : LS} {v : Value} (h : CR st m (.sl xs) v) : R1 st m (.sl xs) v := h
theorem msg_of_inv {vs : List FV} {x : Msg} (h : Msg.of (.agg vs) = some x) : ∃ ls ss, vs = [.int .i64 x.kind, .int .i64 x.cmd, .int .i64 x.ver, .str x.auth, .int .i64 x.family, .int .i64 x.ae, .str x.pfx, .int .i64 x.plen, .int .i64 x.tag, .str x.next, .int .i64 x.metric, .str x.id, .int .i64 x.seq, .int .i64 x.seq2, .int .i64 x.interval, .int .i64 x.flags, .int .i64 x.hops, .int .i64 x.nonce, .int .i64 x.cost, .str x.addr, .str x.orig, ls, .int .i64 x.type, .str x.data, ss] ∧ asDests ls = some x.list ∧ asSubs ss = some x.subs := by
  unfold Msg.of at h
  split at h
  · rename_i e
    cases e
    split at h
    · rename_i l s h1 h2
      cases h
      exact ⟨_, _, rfl, h1, h2⟩
    · cases h
  · cases h
theorem All2.conv {α : Type} {R : FV → α → Prop} : ∀ {xs ys : List FV} {cs : List α}, All2 R xs cs → All2 (fun x y => ∀ v, R x v → R y v) xs ys → All2 R ys cs
  | [], [], [], _, _ => trivial
  | [], _ :: _, _, _, h => h.elim
  | _ :: _, [], _, _, h => h.elim
  | [], _, _ :: _, h, _ => h.elim
  | _ :: _, _, [], h, _ => h.elim
  | _ :: _, _ :: _, _ :: _, ⟨h1, h2⟩, ⟨k1, k2⟩ => ⟨k1 _ h1, h2.conv k2⟩
theorem i1 {x : FV} : ∀ v, R1 st m x v → R1 st m x v := fun _ h => h
theorem nz_rs {t : NT} {v : FV} {u : Value} (h : RS st m v u) : RS st m (nz t v) u := by
  unfold nz
  split
  · exact RS.of (nil_sl h)
  · rename_i vs
    split
    · rename_i x hx
      obtain ⟨ls, ss, rfl, h1, h2⟩ := msg_of_inv hx
      obtain ⟨cs, rfl, hc⟩ := h
      refine ⟨cs, rfl, hc.conv ?_⟩
      have hl : ∀ v, R1 st m ls v → R1 st m (.sl (.dest x.list)) v := fun v hv => R1.ofCR (asDests_rep h1 hv).1
      have hs : ∀ v, R1 st m ss v → R1 st m (.sl (.sub x.subs)) v := fun v hv => R1.ofCR (asSubs_rep h2 hv).1
      exact ⟨i1, i1, i1, i1, i1, i1, i1, i1, i1, i1, i1, i1, i1, i1, i1, i1, i1, i1, i1, i1, i1, hl, i1, i1, hs, trivial⟩
    · exact h
  · exact h
theorem nzs_rs : ∀ {ts : List NT} {vs : List FV} {us : List Value}, All2 (RS st m) vs us → All2 (RS st m) (nzs ts vs) us
  | [], vs, us, h => by cases vs <;> exact h
  | t :: ts, [], us, h => h
  | t :: ts, v :: vs, [], h => h.elim
  | t :: ts, v :: vs, u :: us, ⟨h1, h2⟩ => ⟨nz_rs h1, nzs_rs h2⟩
theorem nz_hand {t : NT} {v : FV} {vs : List FV} (h : handOK (v :: vs) = true) : handOK (nz t v :: vs) = true := by
  unfold nz
  split
  · simpa [handOK, plainS, plainCell] using h
  · split
    · simp only [handOK, Bool.and_eq_true] at h ⊢
      exact h.2
    · exact h
  · exact h
theorem handOK_cons {v : FV} {vs : List FV} : handOK (v :: vs) = true ↔ handOK [v] = true ∧ handOK vs = true := by
  cases v <;> simp [handOK]
theorem nzs_hand : ∀ {ts : List NT} {vs : List FV}, handOK vs = true → handOK (nzs ts vs) = true
  | [], vs, h => by cases vs <;> exact h
  | t :: ts, [], h => h
  | t :: ts, v :: vs, h => by
    simp only [nzs]
    rw [handOK_cons] at h ⊢
    exact ⟨nz_hand h.1, nzs_hand h.2⟩
/-- A law that takes its arguments in one form serves for all forms. -/
theorem CallSound.args {g : Nat} {spec : FSpec} (h : CallSound P et g spec) (ts : List NT) : CallSound P et g (fun as objs => spec (nzs ts as) objs) :=
  ⟨h.enters, fun as objs asks r objs' hs ha m vs hm hv hh hp hl => h.calls (nzs ts as) objs asks r objs' hs ha m vs hm (nzs_rs hv) (nzs_hand hh) hp hl⟩
/-- A result in one form. -/
def nzr : List NT → FV → FV
  | ts, .tup vs => .tup (nzs ts vs)
  | t :: _, v => nz t v
  | [], v => v
theorem nzr_nil (v : FV) : nzr [] v = v := by
  cases v <;> first | rfl | (rename_i vs; cases vs <;> rfl)
theorem nz_plain {t : NT} {v : FV} (h : plainS v = true) : plainS (nz t v) = true := by
  unfold nz
  split
  · rfl
  · split
    · rfl
    · exact h
  · exact h
theorem nzs_plain : ∀ {ts : List NT} {vs : List FV}, plainSs vs = true → plainSs (nzs ts vs) = true
  | [], vs, h => by cases vs <;> exact h
  | t :: ts, [], h => h
  | t :: ts, v :: vs, h => by
    simp only [plainSs, Bool.and_eq_true] at h
    simp only [nzs, plainSs, Bool.and_eq_true]
    exact ⟨nz_plain h.1, nzs_plain h.2⟩
theorem rs_ra {v : FV} {u : Value} (hp : plainS v = true) (h : RS st m v u) : RA st m v u := by
  cases v <;> first | exact h | simp [plainS, plainCell] at hp
theorem rss_ra : ∀ {us : List FV} {cs : List Value}, plainSs us = true → All2 (RS st m) us cs → All2 (RA st m) us cs
  | [], [], _, _ => trivial
  | [], _ :: _, _, h => h.elim
  | _ :: _, [], _, h => h.elim
  | u :: us, c :: cs, hp, h => by
    simp only [plainSs, Bool.and_eq_true] at hp
    exact ⟨rs_ra hp.1 h.1, rss_ra hp.2 h.2⟩
theorem nzr_rs {ts : List NT} {v : FV} {u : Value} (hp : plainR v = true) (h : RS st m v u) : RS st m (nzr ts v) u := by
  unfold nzr
  split
  · obtain ⟨cs, rfl, hc⟩ := h
    exact ⟨cs, rfl, rss_ra (nzs_plain hp) (nzs_rs (hc.imp fun _ _ q => RS.ofA q))⟩
  · exact nz_rs h
  · exact h
end Go.Proofs.Fw

set_option autoImplicit false
set_option linter.unusedVariables false
set_option linter.unusedSimpArgs false
namespace Go.Proofs.Fw
open Go
variable {et : LTag → TypeId} {P : Program} {tt : TT} {st : St} {m : Mem} {a : Act} {calls : List (Nat × FSpec)} {loops : List (Nat × LoopAnn)}
/-! ### 1. The start of a function -/
theorem enterW_append : ∀ (ps ps' : List Pl) (ds ds' : List FV), ps.length = ds.length → enterW (ps ++ ps') (ds ++ ds') = enterW ps ds ++ enterW ps' ds'
  | [], ps', [], ds', _ => by simp [enterW]
  | [], _, _ :: _, _, h => by simp at h
  | _ :: _, _, [], _, h => by simp at h
  | p :: ps, ps', d :: ds, ds', h => by
    have ih := enterW_append ps ps' ds ds' (by simpa using h)
    cases d <;> simp [enterW, ih]
theorem argIns_len : ∀ (k : Nat) (as : List FV), (argIns k as).length = as.length
  | _, [] => rfl
  | k, _ :: r => by simp [argIns, argIns_len (k + 1) r]
theorem entry_args (as : List FV) (objs : List (List FV)) : entry (argIns 0 as) as objs = enterW (slotPl (argIns 0 as) as) as ++ entry [] [] objs := by
  unfold entry
  rw [enterW_append _ _ _ _ (by rw [slotPl_len _ _ (argIns_len 0 as)])]
  simp [slotPl]
theorem hand_cons {c : FV} {as : List FV} (h : handOK (c :: as) = true) : handOK as = true ∧ ∀ g xs, c ≠ .ownv g xs := by
  cases c <;> simp_all [handOK, plainS, plainCell]
theorem argW : ∀ {as : List FV} (k : Nat), handOK as = true → ∀ x, x ∈ enterW (slotPl (argIns k as) as) as → ∃ i c, x = (.slot (k + i), c) ∧ as[i]? = some c
  | [], k, _, x, hx => by simp [slotPl, argIns, enterW] at hx
  | c :: as, k, h, x, hx => by
    obtain ⟨h1, h2⟩ := hand_cons h
    have hx' : x = (.slot k, c) ∨ x ∈ enterW (slotPl (argIns (k + 1) as) as) as := by
      simp only [argIns, slotPl] at hx
      cases c <;> simp_all [enterW]
    rcases hx' with rfl | hx'
    · exact ⟨0, c, rfl, rfl⟩
    · obtain ⟨i, d, rfl, h3⟩ := argW (k + 1) h1 x hx'
      exact ⟨i + 1, d, by rw [show k + 1 + i = k + (i + 1) from by omega], by simpa using h3⟩
theorem argW_mem : ∀ {as : List FV} (k : Nat) {i : Nat} {c : FV}, as[i]? = some c → ∃ v, (Loc.slot (k + i), v) ∈ enterW (slotPl (argIns k as) as) as
  | [], k, i, c, h => by simp at h
  | d :: as, k, 0, c, h => by cases d <;> simp [argIns, slotPl, enterW]
  | d :: as, k, i + 1, c, h => by
    obtain ⟨v, hv⟩ := argW_mem (k + 1) (i := i) (c := c) (by simpa using h)
    rw [show k + 1 + i = k + (i + 1) from by omega] at hv
    refine ⟨v, ?_⟩
    simp only [argIns, slotPl]
    cases d <;> simp [enterW, hv]
theorem entry0_slot (objs : List (List FV)) (n : Nat) : (entry [] [] objs).get (.slot n) = .any := by
  unfold entry
  rw [get_nback, heads_ne (by simp)]
  intro v hv
  obtain ⟨p, d, hz, hh | ⟨g0, ys, rfl, hh⟩⟩ := (mem_enterW _ _ _).1 hv
  · injection hh with e1 e2
    have := (List.of_mem_zip hz).1
    simp only [slotPl, List.nil_append] at this
    obtain ⟨_, _, _, _, _, _, _, rfl⟩ := (mem_objPl _ _ _).1 this
    cases e1
  · injection hh with e1 e2; cases e1
theorem start_inv {as : List FV} {objs : List (List FV)} {vs : List Value} (h : MemOK et (entry [] [] objs) m) (hv : All2 (RS (entry [] [] objs) m) as vs) (hh : handOK as = true) (n : Nat) :
    SM (entry [] [] objs) (entry (argIns 0 as) as objs) ∧ Inv et (entry (argIns 0 as) as objs) m { tmps := vs.toArray ++ Array.replicate n undef, defers := [] } := by
  have sm : SM (entry [] [] objs) (entry (argIns 0 as) as objs) := fun l hl => by
    rw [entry_args]
    exact get_nback fun v hx => by
      obtain ⟨i, c, e, _⟩ := argW 0 hh _ hx
      cases e; exact hl _ rfl
  refine ⟨sm, sm.mem h, fun k => ?_⟩
  rw [entry_args]
  rcases get_append (enterW (slotPl (argIns 0 as) as) as) (entry [] [] objs) (.slot k) with ⟨v, hx, e, _⟩ | ⟨hx, e⟩
  · rw [e]
    obtain ⟨i, c, e1, h1⟩ := argW 0 hh _ hx
    cases e1
    rw [Nat.zero_add]
    obtain ⟨y, hy, hr⟩ := hv.getL h1
    have hi : i < vs.length := (List.getElem?_eq_some_iff.1 hy).1
    have : (vs.toArray ++ Array.replicate n undef).getD i undef = y := by
      rw [Array.getD_eq_getD_getElem?]
      rw [Array.getElem?_append_left (by simpa using hi)]
      simp [hy]
    have e2 := sm.tr.rs (m := m) hr
    rw [entry_args] at e2
    rw [this]; exact e2
  · rw [e, entry0_slot]; exact DR.any _
/-! ### 2. The end of a function -/
theorem results_sound (T : TypesOK P et tt) (h : Inv et st m a) : ∀ {rs : List ResultVar} {vs : List FV}, (resultsQ tt rs).run st = some vs → ∃ us : List Value, (rs.mapM (fun
    | .tmp t => pure (a.tmps.getD t undef)
    | .cell x t => do loadVar t (← asAddr (a.tmps.getD x undef)) : ResultVar → Sem Value)).run P m.w = .ok us m.w ∧ All2 (RS st m) vs us
  | [], vs, hr => by simp [resultsQ] at hr; subst hr; exact ⟨[], rfl, trivial⟩
  | r :: rs, vs, hr => by
    simp only [resultsQ, Q.run_bind, Option.bind_eq_some_iff] at hr
    obtain ⟨v, h1, l, h2, hr⟩ := hr
    simp at hr; subst hr
    obtain ⟨us, h3, h4⟩ := results_sound T h h2
    have one : ∃ u, ((match r with
        | .tmp t => pure (a.tmps.getD t undef)
        | .cell x t => do loadVar t (← asAddr (a.tmps.getD x undef)) : Sem Value)).run P m.w = .ok u m.w ∧ RS st m v u := by
      cases r with
      | tmp t =>
        simp [resultQ] at h1
        subst h1
        exact ⟨_, rfl, h.slots t⟩
      | cell x t =>
        simp only [resultQ, Q.run_bind, Option.bind_eq_some_iff] at h1
        obtain ⟨td, ht, av, hav, p, hp, h1⟩ := h1
        simp at h1 hav; subst h1; subst hav
        have ht' := tdQ_run ht
        obtain ⟨i, z, hi, hs, _⟩ := T.info t td ht'
        obtain ⟨_, u, hu, hru⟩ := fload_sound h.mem hi hs (T.desc t td ht') (ps := p.1) (u := p.2) hp (h.slots x)
        refine ⟨u, ?_, hru⟩
        change Sem.run P (asAddr (a.tmps.getD x undef) >>= fun q => loadVar t q) m.w = _
        generalize a.tmps.getD x undef = A at hu ⊢
        unfold Instr.loadAt at hu
        cases A with
        | pointer q =>
          cases q with
          | none => simp [Instr.sureAddr] at hu
          | some q => simpa [Instr.sureAddr, asAddr] using hu
        | _ => simp [Instr.sureAddr] at hu
    obtain ⟨u, h5, h6⟩ := one
    refine ⟨u :: us, ?_, h6, h4⟩
    rw [List.mapM_cons]
    simp only [Sem.run_bind, Sem.run_pure]
    rw [h5]
    simp only [Result.andThen_ok]
    rw [h3]
    rfl
theorem plainSs_RA : ∀ {us : List FV} {cs : List Value}, plainSs us = true → All2 (RS st m) us cs → All2 (RA st m) us cs
  | [], [], _, _ => trivial
  | [], _ :: _, _, h => h.elim
  | _ :: _, [], _, h => h.elim
  | u :: us, c :: cs, hp, h => by
    simp only [plainSs, Bool.and_eq_true] at hp
    refine ⟨?_, plainSs_RA hp.2 h.2⟩
    have := h.1
    cases u <;> first | exact this | simp [plainS, plainCell] at hp
def LeaveOK (tt : TT) (ts : List NT) (fn : Func) (objs : List (List FV)) (r : FV) (objs' : List (List FV)) (e : FX) (st : St) : Prop :=
  match e with
  | .exit _ => False
  | _ => match (leave tt fn.results.toList objs).run st with
    | some (r', o') => nzr ts r' = r ∧ o' = objs'
    | none => False
theorem fun_sound0 (T : TypesOK P et tt) {g : Nat} {fn : Func} {body : Code} (hf : P.funcs[g]? = some fn) (hb : fn.body = some body) (hname : (fn.name == "runtime.NumGoroutine") = false)
    (hdst : ∀ x ∈ Code.dsts body, x < fn.ntmps) {spec : FSpec} {ts : List NT}
    (H : ∀ as objs asks r objs', spec as objs = some (asks, r, objs') → (∀ p ∈ asks, p) → ∀ (m : Mem) (a : Act), Inv et (entry (argIns 0 as) as objs) m a → (∀ x ∈ Code.dsts body, x < a.tmps.size) → ∀ Q : Exit → Act → World → Prop,
      (∀ e st' a' m', LeaveOK tt ts fn objs r objs' e st' → Inv et st' m' a' → Step (entry (argIns 0 as) as objs) m st' m' → Keep (Code.dsts body) a a' → Q e.ex a' m'.w) → body.wp P Q a m.w) : CallSound P et g spec := by
  refine ⟨fun args w => ?_, fun as objs asks r objs' hspec hasks m vs hmem hvs hhand hplain hlen => ?_⟩
  · have hn : fn.name ≠ "runtime.NumGoroutine" := by simpa using hname
    simp [callFunc, hf, hn, hb]
  · obtain ⟨sm, hinv⟩ := start_inv hmem hvs hhand (fn.ntmps - vs.length)
    refine calls_of_wp hf hb ?_
    have e0 : vs.toArray.size = vs.length := by simp
    rw [e0]
    refine H as objs asks r objs' hspec hasks m _ hinv (fun x hx => ?_) _ fun e st' a' m' hpost hinv' hstep hkeep => ?_
    · have := hdst x hx
      simp; omega
    · have key : (match (leave tt fn.results.toList objs).run st' with
          | some (r', o') => nzr ts r' = r ∧ o' = objs'
          | none => False) → a'.defers = [] ∧ ∃ v, (results fn a'.tmps).run P m'.w = .ok v m'.w ∧ ∃ v_1 m'_1, Ending.returned v = .returned v_1 ∧ m'_1.w = m'.w ∧ MemOK et (entry [] [] objs') m'_1 ∧ RS (entry [] [] objs') m'_1 r v_1 ∧ Ext (entry [] [] objs) m (entry [] [] objs') m'_1 ∧ ∀ j, j < objs.length → m'_1.β (.arg j) = m.β (.arg j) := by
        intro hp
        split at hp
        · rename_i r' o' hl
          obtain ⟨rfl, rfl⟩ := hp
          simp only [leave, Fw.Q.run_bind, Option.bind_eq_some_iff] at hl
          obtain ⟨fvs, h1, ⟨us, ws⟩, h2, ⟨d0, os, ext⟩, h3, hl⟩ := hl
          obtain ⟨rs, hr1, hr2⟩ := results_sound T hinv' h1
          have fz := frz hinv' (freezeAll_list h2)
          have hus := freezeAll_rep fz hinv' h2 (fun p hp => hp) hr2
          obtain ⟨k, hn, hos, hz, hrw⟩ := subSt_spec h3
          have hd0 : d0 = [] := by
            have := k.lv; have := k.li
            cases d0 with
            | nil => rfl
            | cons _ _ => simp_all
          subst hd0
          have hos' : ∀ o cs, (o, cs) ∈ os → St.get (ws ++ st') (.obj o) = .obj cs.length ∧ ∀ (i : Nat) (c : FV), cs[i]? = some c → St.get (ws ++ st') (.cell o i) = c := fun o cs ho => by
            obtain ⟨q1, q2⟩ := hos o cs ho
            refine ⟨by rw [fz.other _ (by simp)]; exact q1, fun i c hc => by rw [fz.other _ (by simp)]; exact q2 i c hc⟩
          have hz' : ∀ z ∈ zOf [] [] [] os ext, ZRel os (ws ++ st') z.1 z.2 := fun z hzz => (hz z hzz).frz fun r g e => hrw r (mem_rowsOf (zOf_pl hzz) e)
          have stp := (sm.step (m := m)).trans (hstep.trans fz.step)
          obtain ⟨hX, c1, c2, c3, c4⟩ := canon (m0 := m) (s0 := entry [] [] objs) k hn hos' hz' fz.inv.mem (fun j hj => entry_obj (.inr trivial) hj) stp
          have sin := part_in k fz.inv.mem hos' hz'
          have tdr : ∀ c v, DR (mutB (ws ++ st') m') m'.w c v → DR (mutB (entry [] [] ext) ((subMem [] [] [] os ext (ws ++ st') m').only m.X)) ((subMem [] [] [] os ext (ws ++ st') m').only m.X).w c v := fun c v h => only_dr hX (sin.dr h)
          have hres : (results fn a'.tmps).run P m'.w = .ok (if h : rs.length = 1 then rs[0] else .tuple rs.toArray) m'.w := by
            unfold results
            rw [Array.mapM_eq_mapM_toList]
            simp only [Sem.run_bind, Sem.run_pure, Sem.run_map]
            generalize hG : Sem.run P (List.mapM _ fn.results.toList) m'.w = G
            have hG' : G = .ok rs m'.w := by rw [← hG]; exact hr1
            rw [hG']
            simp
          split at hl
          · rename_i hc
            simp only [Bool.and_eq_true] at hc
            simp at hl
            obtain ⟨hl1, hl2⟩ := hl
            subst hl2
            refine ⟨by rw [hkeep.defers], _, hres, _, (subMem [] [] [] os ext (ws ++ st') m').only m.X, rfl, rfl, c1, ?_, c3, c4⟩
            rw [← hl1]
            refine nzr_rs hc.1 ?_
            unfold resOf
            cases us with
            | nil =>
              cases rs with
              | nil => exact ⟨[], by simp, trivial⟩
              | cons _ _ => exact hus.elim
            | cons u us =>
              cases rs with
              | nil => exact hus.elim
              | cons c cs =>
                cases us with
                | nil =>
                  cases cs with
                  | cons _ _ => exact hus.2.elim
                  | nil => exact plain_rs tdr hc.1 hus.1
                | cons u2 us =>
                  cases cs with
                  | nil => exact hus.2.elim
                  | cons c2 cs =>
                    have := plain_rs tdr (c := .tup (u :: u2 :: us)) hc.1 (v := .tuple (c :: c2 :: cs).toArray) ⟨_, rfl, plainSs_RA hc.1 hus⟩
                    simpa using this
          · simp at hl
        · exact hp.elim
      cases e with
      | normal => exact key hpost
      | ret => exact key hpost
      | exit i => exact hpost.elim
/-- A function does what its law says. -/
theorem fun_sound (T : TypesOK P et tt) (C : CallsOK P et calls) (hm : P.follows .mixedOrders = true) {g : Nat} {fn : Func} {body : Code} (hf : P.funcs[g]? = some fn) (hb : fn.body = some body) (hname : (fn.name == "runtime.NumGoroutine") = false)
    (L : LoopsOK P et loops body) (hdst : ∀ x ∈ Code.dsts body, x < fn.ntmps) {spec : FSpec} (ts : List NT)
    (H : ∀ as objs asks r objs', spec as objs = some (asks, r, objs') → (∀ p ∈ asks, p) → ffun tt calls loops fn as objs fun r' o' => nzr ts r' = r ∧ o' = objs') : CallSound P et g spec :=
  fun_sound0 (ts := ts) T hf hb hname hdst fun as objs asks r objs' h1 h2 m a hinv hlt Q hQ => by
    have hH := H as objs asks r objs' h1 h2
    unfold ffun at hH
    rw [hb] at hH
    exact fexec_sound T C hm body L hH hinv (fun x hx => hx) hlt hQ
end Go.Proofs.Fw

set_option autoImplicit false
set_option linter.unusedVariables false
set_option linter.unusedSimpArgs false
namespace Go.Proofs.Fw
open Go
/-! ### 1. The interpreter that gives values -/
def allT : List Bool → Bool
  | [] => true
  | p :: ps => p && allT ps
def vrun (tt : TT) (calls : List (Nat × FSpec)) (all : List Oper) : List Oper → St → List (List Loc × List Loc) → Option (St × List (List Loc × List Loc))
  | [], st, acc => some (st, acc)
  | o :: rest, st, acc =>
    match o.guard with
    | none => match (fop tt calls o).run st with
      | some e => match allT e.asks with
        | true => vrun tt calls all rest (e.ws ++ st) ((((fop tt calls o).reads st), e.ws.map (·.1)) :: acc)
        | false => none
      | none => none
    | some (j, want) =>
      match (all[j]?).bind (·.dst) with
      | none => none
      | some gd => match st.get (.slot gd) with
        | .bool b => match b, want with
          | true, true => match (fop tt calls o).run ((.slot gd, .bool true) :: st) with
            | some e => match allT e.asks with
              | true => vrun tt calls all rest (e.ws ++ ((.slot gd, .bool true) :: st)) ((.slot gd :: ((fop tt calls o).reads ((.slot gd, .bool true) :: st)), e.ws.map (·.1)) :: acc)
              | false => none
            | none => none
          | false, false => match (fop tt calls o).run ((.slot gd, .bool false) :: st) with
            | some e => match allT e.asks with
              | true => vrun tt calls all rest (e.ws ++ ((.slot gd, .bool false) :: st)) ((.slot gd :: ((fop tt calls o).reads ((.slot gd, .bool false) :: st)), e.ws.map (·.1)) :: acc)
              | false => none
            | none => none
          | b, _ => vrun tt calls all rest (put o.dst (.tup []) ++ ((.slot gd, .bool b) :: st)) (([.slot gd], (put o.dst (.tup [])).map (·.1)) :: acc)
        | .tup [] => vrun tt calls all rest (put o.dst (.tup []) ++ st) (([.slot gd], (put o.dst (.tup [])).map (·.1)) :: acc)
        | _ => none
def viter (round : List FV → List (List FV) → Option (FX × List FV × List (List FV))) : Nat → List FV → List (List FV) → Option (List Bool × FX × List FV × List (List FV))
  | 0, _, _ => none
  | n + 1, ds, ext => match round ds ext with
    | some (.normal, us, os) => viter round n us os
    | some (e, us, os) => some ([], e, us, os)
    | none => none
abbrev InsT := List (Nat × List (Nat × Option LTag))
def vleave (ins : List (Nat × Option LTag)) (ext : List (List FV)) : Option (FX × St) → Option (FX × List FV × List (List FV))
  | some (e, st) => match (leaveL ins ext).run st with
    | some (us, os) => some (e, us, os)
    | none => none
  | none => none
def vexec (tt : TT) (calls : List (Nat × FSpec)) (insT : InsT) (fuel : Nat) : Code → St → Option (FX × St)
  | .skip, st => some (.normal, st)
  | .region _ ops draw, st => match vrun tt calls ops.toList ops.toList st [] with
    | some (st', acc) => match draw with
      | false => some (.normal, st')
      | true => match drawOK ops.toList acc with
        | true => some (.normal, st')
        | false => none
    | none => none
  | .seq a b, st => match vexec tt calls insT fuel a st with
    | some (.normal, st') => vexec tt calls insT fuel b st'
    | r => r
  | .cond c a b, st => match (ev c).run st with
    | some (.bool true) => vexec tt calls insT fuel a st
    | some (.bool false) => vexec tt calls insT fuel b st
    | _ => none
  | .block id c, st => match vexec tt calls insT fuel c st with
    | some (.exit i, st') => match Nat.beq i id with
      | true => some (.normal, st')
      | false => some (.exit i, st')
    | r => r
  | .loop c, st => match (Code.key c).bind (look insT) with
    | some ins => match (floop ⟨ins, viter (fun ds ext => vleave ins ext (vexec tt calls insT fuel c (entry ins ds ext))) fuel⟩ (Code.dsts c)).run st with
      | some (asks, e, ws) => match allT asks with
        | true => some (e, ws ++ st)
        | false => none
      | none => none
    | none => none
  | .exit id, st => some (.exit id, st)
  | .ret, st => some (.ret, st)
  | _, _ => none
def vfun (tt : TT) (calls : List (Nat × FSpec)) (insT : InsT) (fuel : Nat) (fn : Func) : FSpec := fun as objs =>
  match fn.body with
  | some c => match vexec tt calls insT fuel c (entry (argIns 0 as) as objs) with
    | some (.exit _, _) => none
    | some (_, st) => match (leave tt fn.results.toList objs).run st with
      | some (r, o) => some ([], r, o)
      | none => none
    | none => none
  | none => none
/-! ### 2. It is right -/
variable {et : LTag → TypeId} {P : Program} {tt : TT} {st : St} {m : Mem} {a : Act} {calls : List (Nat × FSpec)} {insT : InsT} {fuel : Nat}
theorem allT_iff : ∀ (ps : List Bool), allT ps = true ↔ ∀ p ∈ ps, p = true
  | [] => by simp [allT]
  | p :: ps => by simp [allT, allT_iff ps]
theorem conj_in : ∀ {ps : List Bool} {k : Prop}, allT ps = true → k → conj ps k
  | [], k, _, h => h
  | p :: ps, k, hp, h => by
    simp only [allT, Bool.and_eq_true] at hp
    exact ⟨hp.1, conj_in hp.2 h⟩
theorem vrun_frun {all : List Oper} {K : St → List (List Loc × List Loc) → Prop} : ∀ {rest : List Oper} {st st' : St} {acc acc' : List (List Loc × List Loc)}, vrun tt calls all rest st acc = some (st', acc') → K st' acc' → frun tt calls all rest st acc K
  | [], st, st', acc, acc', h, hK => by simp only [vrun, Option.some.injEq, Prod.mk.injEq] at h; obtain ⟨rfl, rfl⟩ := h; exact hK
  | o :: rest, st, st', acc, acc', h, hK => by
    unfold vrun at h
    unfold frun
    split at h
    · rename_i hg
      split at h
      · rename_i e he
        split at h
        · rename_i ha
          rw [hg]
          simp only [he]
          exact conj_in ha (vrun_frun h hK)
        · cases h
      · cases h
    · rename_i j want hg
      rw [hg]
      split at h
      · cases h
      · rename_i gd hgd
        split at h
        · rename_i b hb
          simp only [hgd, hb]
          split at h
          · split at h
            · rename_i e he
              split at h
              · rename_i ha
                simp only [ifb, he]
                exact conj_in ha (vrun_frun h hK)
              · cases h
            · cases h
          · split at h
            · rename_i e he
              split at h
              · rename_i ha
                simp only [ifb, he]
                exact conj_in ha (vrun_frun h hK)
              · cases h
            · cases h
          · rename_i h1 h2
            cases b <;> cases want
            · exact absurd rfl (h2 rfl)
            · simp only [ifb]; exact vrun_frun h hK
            · simp only [ifb]; exact vrun_frun h hK
            · exact absurd rfl (h1 rfl)
        · rename_i hb
          simp only [hgd, hb]
          exact vrun_frun h hK
        · cases h
theorem viter_mono {round : List FV → List (List FV) → Option (FX × List FV × List (List FV))} {r : List Bool × FX × List FV × List (List FV)} : ∀ {n k : Nat} {ds : List FV} {ext : List (List FV)}, viter round n ds ext = some r → n ≤ k → viter round k ds ext = some r
  | 0, k, ds, ext, h, _ => by simp [viter] at h
  | n + 1, 0, ds, ext, h, hk => by omega
  | n + 1, k + 1, ds, ext, h, hk => by
    unfold viter at h ⊢
    split at h
    · exact viter_mono h (by omega)
    · exact h
    · cases h

theorem viter_loop {c : Code} {ins : List (Nat × Option LTag)} {round : List FV → List (List FV) → Option (FX × List FV × List (List FV))}
    (H : ∀ ds ext fx us os, round ds ext = some (fx, us, os) → RoundOK P et ins c ds ext fun fx' us' os' => fx' = fx ∧ us' = us ∧ os' = os) : LoopSound P et c ⟨ins, viter round fuel⟩ := by
  refine rounds_sound (fun ds ext => leastOf fun n => (viter round n ds ext).isSome = true) fun ds ext asks e us objs hs _ => ?_
  simp only at hs
  have hsome : (viter round fuel ds ext).isSome = true := by rw [hs]; rfl
  obtain ⟨h1, h2⟩ := leastOf_spec (p := fun n => (viter round n ds ext).isSome = true) ⟨fuel, hsome⟩
  have hle := h2 fuel hsome
  generalize hk : leastOf (fun n => (viter round n ds ext).isSome = true) = k at h1 h2 hle
  obtain ⟨r, hr⟩ := Option.isSome_iff_exists.1 h1
  have hre : r = (asks, e, us, objs) := by
    have := viter_mono hr hle
    rw [hs] at this
    exact (Option.some.inj this).symm
  subst hre
  cases k with
  | zero => simp [viter] at hr
  | succ k =>
    unfold viter at hr
    split at hr
    · rename_i us2 os2 hround
      intro m a hinv hlt Q hQ
      refine H ds ext _ _ _ hround m a hinv hlt Q fun fx us' os' a' m' hp => ?_
      obtain ⟨rfl, rfl, rfl⟩ := hp
      refine hQ _ _ _ a' m' ⟨?_, asks, viter_mono hr (by omega), ?_⟩
      · have hs2 : (viter round k us' os').isSome = true := by rw [hr]; rfl
        have := (leastOf_spec (p := fun n => (viter round n us' os').isSome = true) ⟨k, hs2⟩).2 k hs2
        omega
      · have : ∀ {n : Nat} {ds : List FV} {ext : List (List FV)} {r : List Bool × FX × List FV × List (List FV)}, viter round n ds ext = some r → r.1 = [] := by
          intro n
          induction n with
          | zero => intro ds ext r h; simp [viter] at h
          | succ n ih =>
            intro ds ext r h
            unfold viter at h
            split at h
            · exact ih h
            · cases h; rfl
            · cases h
        have := this hr
        simp only at this
        rw [this]; simp
    · rename_i e' us2 os2 hne hround
      cases hr
      intro m a hinv hlt Q hQ
      refine H ds ext _ _ _ hround m a hinv hlt Q fun fx us' os' a' m' hp => ?_
      obtain ⟨rfl, rfl, rfl⟩ := hp
      refine hQ _ _ _ a' m' ?_
      cases fx with
      | normal => exact (hne rfl).elim
      | exit i => exact ⟨rfl, rfl, rfl⟩
      | ret => exact ⟨rfl, rfl, rfl⟩
    · cases hr
theorem vexec_sound (T : TypesOK P et tt) (C : CallsOK P et calls) (hm : P.follows .mixedOrders = true) : ∀ (c : Code) {st st' : St} {e : FX}, vexec tt calls insT fuel c st = some (e, st') → ∀ {m : Mem} {a : Act} {Q : Exit → Act → World → Prop} {dsts : List Nat}, Inv et st m a → (∀ x ∈ Code.dsts c, x ∈ dsts) → (∀ x ∈ dsts, x < a.tmps.size) →
    (∀ a' m', Inv et st' m' a' → Step st m st' m' → Keep dsts a a' → Q e.ex a' m'.w) → c.wp P Q a m.w
  | .skip, st, st', e, h, m, a, Q, dsts, hi, hd, hl, hQ => by
    simp only [vexec, Option.some.injEq, Prod.mk.injEq] at h
    obtain ⟨rfl, rfl⟩ := h
    exact wp_skip (hQ a m hi (Step.refl _ _) (Keep.refl _ _))
  | .region id ops draw, st, st', e, h, m, a, Q, dsts, hi, hd, hl, hQ => by
    unfold vexec at h
    split at h
    · rename_i st2 acc hv
      refine region_sound T C hm (K := fun s => s = st' ∧ e = .normal) (vrun_frun hv ?_) hi (dsts := dsts) (fun o ho x hx => hd x ?_) hl fun s a' m' h1 h2 h3 h4 => ?_
      · cases draw with
        | false => simp only [Option.some.injEq, Prod.mk.injEq] at h; exact ⟨h.2, h.1.symm⟩
        | true =>
          simp only at h
          cases hdr : drawOK ops.toList acc with
          | true =>
            rw [hdr] at h
            simp only [Option.some.injEq, Prod.mk.injEq] at h
            exact ⟨h.2, h.1.symm⟩
          | false => rw [hdr] at h; cases h
      · simp only [Code.dsts, List.mem_filterMap]
        exact ⟨o, ho, hx⟩
      · obtain ⟨rfl, rfl⟩ := h1
        exact hQ a' m' h2 h3 h4
    · cases h
  | .seq x y, st, st', e, h, m, a, Q, dsts, hi, hd, hl, hQ => by
    unfold vexec at h
    split at h
    · rename_i st2 hx
      exact wp_seq (vexec_sound T C hm x hx hi (fun n hn => hd n (by simp [Code.dsts, hn])) hl fun a' m' h2 h3 h4 =>
        vexec_sound T C hm y h h2 (fun n hn => hd n (by simp [Code.dsts, hn])) (fun n hn => by rw [h4.size]; exact hl n hn) fun a2 m2 j2 j3 j4 => hQ a2 m2 j2 (h3.trans j3) (h4.trans j4))
    · rename_i hne
      refine wp_seq (vexec_sound T C hm x h hi (fun n hn => hd n (by simp [Code.dsts, hn])) hl fun a' m' h2 h3 h4 => ?_)
      cases e with
      | normal => exact absurd h (hne _)
      | exit i => exact hQ a' m' h2 h3 h4
      | ret => exact hQ a' m' h2 h3 h4
  | .cond c x y, st, st', e, h, m, a, Q, dsts, hi, hd, hl, hQ => by
    unfold vexec at h
    split at h
    · rename_i ht
      exact wp_cond_true (ev_sound hi ht).bool (vexec_sound T C hm x h hi (fun n hn => hd n (by simp [Code.dsts, hn])) hl hQ)
    · rename_i ht
      exact wp_cond_false (ev_sound hi ht).bool (vexec_sound T C hm y h hi (fun n hn => hd n (by simp [Code.dsts, hn])) hl hQ)
    · cases h
  | .block id c, st, st', e, h, m, a, Q, dsts, hi, hd, hl, hQ => by
    unfold vexec at h
    split at h
    · rename_i i st2 hc
      refine wp_block (vexec_sound T C hm c hc hi (fun n hn => hd n hn) hl fun a' m' h2 h3 h4 => ?_)
      simp only [FX.ex, Exit.inBlock]
      cases hb : Nat.beq i id with
      | true =>
        rw [hb] at h
        simp only [Option.some.injEq, Prod.mk.injEq] at h
        obtain ⟨rfl, rfl⟩ := h
        rw [if_pos (Nat.eq_of_beq_eq_true hb)]
        exact hQ a' m' h2 h3 h4
      | false =>
        rw [hb] at h
        simp only [Option.some.injEq, Prod.mk.injEq] at h
        obtain ⟨rfl, rfl⟩ := h
        rw [if_neg (fun e => by rw [e, Nat.beq_refl] at hb; cases hb)]
        exact hQ a' m' h2 h3 h4
    · rename_i hne
      refine wp_block (vexec_sound T C hm c h hi (fun n hn => hd n hn) hl fun a' m' h2 h3 h4 => ?_)
      cases e with
      | normal => exact hQ a' m' h2 h3 h4
      | exit i => exact absurd h (hne _ _)
      | ret => exact hQ a' m' h2 h3 h4
  | .loop c, st, st', e, h, m, a, Q, dsts, hi, hd, hl, hQ => by
    unfold vexec at h
    split at h
    · rename_i ins hins
      split at h
      · rename_i asks e' ws hf
        split at h
        · rename_i ha
          simp only [Option.some.injEq, Prod.mk.injEq] at h
          obtain ⟨rfl, rfl⟩ := h
          refine floop_sound (viter_loop fun ds ext fx us os hround => ?_) hf ((allT_iff _).1 ha) hi hd hl hQ
          intro m1 a1 hinv hlt K hK
          unfold vleave at hround
          split at hround
          · rename_i e2 st2 hx
            split at hround
            · rename_i us2 os2 hlv
              simp only [Option.some.injEq, Prod.mk.injEq] at hround
              obtain ⟨rfl, rfl, rfl⟩ := hround
              refine vexec_sound T C hm c hx hinv (fun x hx => hx) hlt fun a' m' hinv' hstep hkeep => ?_
              obtain ⟨m2, w2, i2, e2', b2, l2, l3⟩ := leaveL_ok hlv hinv' hstep
              rw [← w2]
              exact hK _ _ _ a' m2 ⟨rfl, rfl, rfl⟩ i2 e2' b2 hkeep l2 l3
            · cases hround
          · cases hround
        · cases h
      · cases h
    · cases h
  | .exit id, st, st', e, h, m, a, Q, dsts, hi, hd, hl, hQ => by
    simp only [vexec, Option.some.injEq, Prod.mk.injEq] at h
    obtain ⟨rfl, rfl⟩ := h
    exact wp_exit (hQ a m hi (Step.refl _ _) (Keep.refl _ _))
  | .ret, st, st', e, h, m, a, Q, dsts, hi, hd, hl, hQ => by
    simp only [vexec, Option.some.injEq, Prod.mk.injEq] at h
    obtain ⟨rfl, rfl⟩ := h
    exact wp_ret (hQ a m hi (Step.refl _ _) (Keep.refl _ _))
  | .goto _, _, _, _, h, _, _, _, _, _, _, _, _ => by cases h
  | .label _, _, _, _, h, _, _, _, _, _, _, _, _ => by cases h
  | .scope _, _, _, _, h, _, _, _, _, _, _, _, _ => by cases h
  | .rangeFunc _ _ _ _, _, _, _, h, _, _, _, _, _, _, _, _ => by cases h
/-- The evaluator's law of a function. -/
theorem vfun_sound (T : TypesOK P et tt) (C : CallsOK P et calls) (hm : P.follows .mixedOrders = true) {g : Nat} {fn : Func} {body : Code} (hf : P.funcs[g]? = some fn) (hb : fn.body = some body) (hname : (fn.name == "runtime.NumGoroutine") = false)
    (hdst : ∀ x ∈ Code.dsts body, x < fn.ntmps) : CallSound P et g (vfun tt calls insT fuel fn) :=
  fun_sound0 (ts := []) T hf hb hname hdst fun as objs asks r objs' h1 h2 m a hinv hlt Q hQ => by
    unfold vfun at h1
    rw [hb] at h1
    simp only at h1
    split at h1
    · cases h1
    · rename_i e st' hne hx
      split at h1
      · rename_i r' o' hlv
        simp only [Option.some.injEq, Prod.mk.injEq] at h1
        obtain ⟨rfl, rfl, rfl⟩ := h1
        refine vexec_sound T C hm body hx hinv (fun x hx => hx) hlt fun a' m' i1 i2 i3 => hQ e st' a' m' ?_ i1 i2 i3
        unfold LeaveOK
        cases e with
        | normal => simp [hlv, nzr_nil]
        | exit i => exact (hne i rfl).elim
        | ret => simp [hlv, nzr_nil]
      · cases h1
    · cases h1
end Go.Proofs.Fw

set_option autoImplicit false
set_option linter.unusedVariables false
set_option linter.unusedSimpArgs false
namespace Go.Proofs.Fw
open Go
variable {P : Program} {et : LTag → TypeId}
theorem info_of {t : TypeId} {i : TypeInfo} (h : P.types[t]? = some i) : P.info? t = some i := by
  unfold Tables.info?
  rw [if_pos (Array.getElem?_eq_some_iff.1 h).1]
  exact h
def TyOK (P : Program) (et : LTag → TypeId) (t : Nat) (td : TD) : Prop :=
  (∃ i z, P.info? t = some i ∧ i.size = td.size ∧ i.zero = some z ∧ ofConst z = some td.zero) ∧ DescOK P et t td ∧
  ∀ lt, td = .slice lt → (∃ i z, P.info? (et lt) = some i ∧ i.size = lt.esz ∧ i.bytes = lt.bytes ∧ i.zero = some z ∧ z.cells.size = lt.esz ∧ ∀ zz, lt.zeroV = some zz → z = zz) ∧ (lt = .u8 → P.underlying (et .u8) = some (.int .u8))
theorem look_mem {α : Type} : ∀ {l : List (Nat × α)} {t : Nat} {x : α}, look l t = some x → (t, x) ∈ l
  | [], t, x, h => by simp [look] at h
  | (k, v) :: r, t, x, h => by
    unfold look at h
    cases hb : Nat.beq k t with
    | true =>
      rw [hb] at h
      simp at h
      rw [Nat.eq_of_beq_eq_true hb, h]
      simp
    | false =>
      rw [hb] at h
      exact List.mem_cons_of_mem _ (look_mem h)
def AllTy (P : Program) (et : LTag → TypeId) (tt : TT) : Prop := ∀ p ∈ tt, TyOK P et p.1 p.2
theorem all_nil : AllTy P et [] := fun p h => by cases h
theorem all_cons {t : Nat} {td : TD} {tt : TT} (h : TyOK P et t td) (k : AllTy P et tt) : AllTy P et ((t, td) :: tt) := fun p hp => by
  rcases List.mem_cons.1 hp with rfl | hp
  · exact h
  · exact k p hp
theorem TypesOK.of {tt : TT} (h : AllTy P et tt) : TypesOK P et tt :=
  ⟨fun t td ht => (h _ (look_mem ht)).1, fun t td ht => (h _ (look_mem ht)).2.1, fun t lt ht => ((h _ (look_mem ht)).2.2 lt rfl).1, fun t ht => ((h _ (look_mem ht)).2.2 .u8 rfl).2 rfl⟩
/-- The fields of a struct, one by one. -/
def FieldsL (P : Program) : List Field → List Nat → Prop
  | [], [] => True
  | f :: fs, s :: ss => (∃ fi, P.info? f.type = some fi ∧ s = fi.size ∧ fi.size ≠ 0) ∧ FieldsL P fs ss
  | _, _ => False
theorem fieldsL_get : ∀ {fs : List Field} {ss : List Nat}, FieldsL P fs ss → ∀ (i : Nat) (f : Field), fs[i]? = some f → ∃ fi, P.info? f.type = some fi ∧ ss[i]? = some fi.size ∧ fi.size ≠ 0
  | [], [], _, i, f, h => by simp at h
  | [], _ :: _, h, _, _, _ => h.elim
  | _ :: _, [], h, _, _, _ => h.elim
  | g :: fs, s :: ss, ⟨⟨fi, h1, h2, h3⟩, h4⟩, i, f, h => by
    cases i with
    | zero => simp at h; subst h; exact ⟨fi, h1, by simp [h2], h3⟩
    | succ i =>
      obtain ⟨fi, a1, a2, a3⟩ := fieldsL_get h4 i f (by simpa using h)
      exact ⟨fi, a1, by simpa using a2, a3⟩
theorem fields_ok {fs : Array Field} {ss : List Nat} (h : FieldsL P fs.toList ss) : ∀ (i : Nat) (f : Field), fs[i]? = some f → ∃ fi, P.info? f.type = some fi ∧ ss[i]? = some fi.size ∧ fi.size ≠ 0 :=
  fun i f hf => fieldsL_get h i f (by simpa using hf)
def KindsL (P : Program) : Nat → List Field → List SK → Prop
  | _, [], [] => True
  | k, f :: fs, s :: ss => (f.offset = k ∧ (f.name == "_") = false ∧ SKOK P f.type s) ∧ KindsL P (k + 1) fs ss
  | _, _, _ => False
theorem kindsL_get : ∀ {fs : List Field} {ss : List SK} {k : Nat}, KindsL P k fs ss → ∀ (i : Nat) (f : Field), fs[i]? = some f → f.offset = k + i ∧ (f.name == "_") = false ∧ ∃ s, ss[i]? = some s ∧ SKOK P f.type s
  | [], [], _, _, i, f, h => by simp at h
  | [], _ :: _, _, h, _, _, _ => h.elim
  | _ :: _, [], _, h, _, _, _ => h.elim
  | g :: fs, s :: ss, k, ⟨⟨h1, h2, h3⟩, h4⟩, i, f, h => by
    cases i with
    | zero => simp at h; subst h; exact ⟨h1, h2, s, rfl, h3⟩
    | succ i =>
      obtain ⟨a1, a2, s', a3, a4⟩ := kindsL_get h4 i f (by simpa using h)
      exact ⟨by omega, a2, s', by simpa using a3, a4⟩
theorem kinds_ok {fs : Array Field} {ss : List SK} (h : KindsL P 0 fs.toList ss) : ∀ (i : Nat) (f : Field), fs[i]? = some f → f.offset = i ∧ (f.name == "_") = false ∧ ∃ k, ss[i]? = some k ∧ SKOK P f.type k :=
  fun i f hf => by
    have := kindsL_get h i f (by simpa using hf)
    rwa [Nat.zero_add] at this
end Go.Proofs.Fw
