/- Arguments that read as data are the interpreter's; from a law to a statement. -/
import Derived.Test.YtnmgchgmmnjbiaaGreatFd
import Derived.ProofKit
import Derived.SliceStrings
import Derived.SizedLaws
import Derived.Deep.Fields
import Derived.WalkKit
import Derived.OpenShut
import Derived.ChangeOld
set_option autoImplicit false
set_option linter.unusedVariables false
set_option linter.unusedSimpArgs false
namespace Go.Proofs.Fw
open Go
/-! ### Arguments, opened: a value that reads as data is one of the interpreter's -/
section
variable {H : Type} {enc : TypeId × Value → H} {P : Program} {w : World} {base : Nat} {spare : Nat → Bool} {held : Bool} {M : Nat → Prop}
/-- Every value of a type is one of these. -/
def OpenT (enc : TypeId × Value → H) (P : Program) (w : World) (base : Nat) (spare : Nat → Bool) (held : Bool) (M : Nat → Prop) {α : Type} (t : TypeId) (rd : α → FV) (ok : α → Prop) : Prop :=
  ∀ (n : Nat) (cs : List Value) (x : DataW H × List MemPlace), DataW.trod enc P w base spare held n t cs = some x → (∀ b ∈ DataW.weights P t x.1, b ≤ reachBytes) → ∃ a : α, ok a ∧ All2 (DR M w) (rd a).cells cs
theorem wfI_of {k : IntKind} {n : Int} (h : (Lit.int k n).wf = true) : wfI k n := by simpa [Lit.wf, wfI] using h
theorem OpenT.int {t : TypeId} {k : IntKind} (ht : P.underlying t = some (.int k)) : OpenT enc P w base spare held M t (fun n => FV.int k n) (fun n => wfI k n) := fun n cs x h _ => by
  obtain ⟨a, rfl, _, hw⟩ := DataW.trod_int ht h
  exact ⟨a, wfI_of hw, .int k a (wfI_of hw), trivial⟩
theorem OpenT.bool {t : TypeId} (ht : P.underlying t = some .bool) : OpenT enc P w base spare held M t (fun b => FV.bool b) (fun _ => True) := fun n cs x h _ => by
  obtain ⟨a, rfl, _⟩ := DataW.trod_bool ht h
  exact ⟨a, trivial, .bool a, trivial⟩
theorem OpenT.str {t : TypeId} (ht : P.underlying t = some .string) : OpenT enc P w base spare held M t (fun s => FV.str s) (fun s => s.length ≤ reachBytes) := fun n cs x h hw => by
  obtain ⟨s, rfl, rfl, hs⟩ := DataW.trod_string ht h
  refine ⟨s.data.toList, hw _ (by simp [DataW.weights]), ?_, trivial⟩
  have e : (⟨s.data.toList.toArray⟩ : ByteArray) = s := by cases s; simp
  have := DR.str (M := M) (w := w) s.data.toList (by rw [Array.length_toList]; exact hs)
  rw [e] at this
  exact this
theorem trod_weights_agg {t : TypeId} {fs : Array Field} (ht : P.underlying t = some (.struct fs)) {ds : List (DataW H)} (h : ∀ b ∈ DataW.weights P t (.agg ds), b ≤ reachBytes) {i : Nat} {f : Field} {d : DataW H} (hf : fs[i]? = some f) (hd : ds[i]? = some d) :
    ∀ b ∈ DataW.weights P f.type d, b ≤ reachBytes := fun b hb => h b (by
  simp only [DataW.weights, ht]
  exact DataW.weights_mem_each (j := i) (t := f.type) (d := d) (by simp [hf]) hd b hb)
/-- A struct of fields of one cell. -/
theorem open_struct {t : TypeId} {fs : Array Field} (ht : P.underlying t = some (.struct fs)) (hc : P.cellsOf t = fs.size) (hone : ∀ (i : Nat) (f : Field), fs[i]? = some f → f.offset = i ∧ P.cellsOf f.type = 1)
    {n : Nat} {cs : List Value} {x : DataW H × List MemPlace} (h : DataW.trod enc P w base spare held n t cs = some x) (hw : ∀ b ∈ DataW.weights P t x.1, b ≤ reachBytes) :
    cs.length = fs.size ∧ ∀ (i : Nat) (f : Field), fs[i]? = some f → ∃ v m y, cs[i]? = some v ∧ DataW.trod enc P w base spare held m f.type [v] = some y ∧ ∀ b ∈ DataW.weights P f.type y.1, b ≤ reachBytes := by
  obtain ⟨xs, m, _, rfl, hl, hlen, hf⟩ := DataW.trod_struct ht h
  refine ⟨by rw [hl, hc], fun i f hi => ?_⟩
  have hi' : i < fs.size := (Array.getElem?_eq_some_iff.1 hi).1
  obtain ⟨o1, o2⟩ := hone i f hi
  have h1 := hf i f hi
  rw [o1, o2] at h1
  have hv : cs[i]? = some (cs[i]'(by omega)) := List.getElem?_eq_getElem (by omega)
  have hx : xs[i]? = some (xs[i]'(by omega)) := List.getElem?_eq_getElem (by omega)
  have e : (cs.drop i).take 1 = [cs[i]'(by omega)] := by
    rw [List.drop_eq_getElem_cons (by omega)]; rfl
  rw [e, hx] at h1
  exact ⟨_, m, _, hv, h1, trod_weights_agg ht hw hi (by rw [List.getElem?_map, hx]; rfl)⟩
theorem OpenT.at {α : Type} {t : TypeId} {rd : α → FV} {ok : α → Prop} (h : OpenT enc P w base spare held M t rd ok) (h1 : ∀ a, (rd a).cells = [rd a]) {m : Nat} {v : Value} {y : DataW H × List MemPlace}
    (ht : DataW.trod enc P w base spare held m t [v] = some y) (hw : ∀ b ∈ DataW.weights P t y.1, b ≤ reachBytes) : ∃ a, ok a ∧ DR M w (rd a) v := by
  obtain ⟨a, h2, h3⟩ := h m [v] y ht hw
  rw [h1] at h3
  exact ⟨a, h2, h3.1⟩
theorem weights_all {e : TypeId} : ∀ {ds : List (DataW H)} {d : DataW H} {b : Nat}, d ∈ ds → b ∈ DataW.weights P e d → b ∈ DataW.weightsAll P e ds
  | [], _, _, h, _ => by cases h
  | d0 :: ds, d, b, h, hb => by
    simp only [DataW.weightsAll, List.mem_append]
    rcases List.mem_cons.1 h with rfl | h
    · exact .inl hb
    · exact .inr (weights_all h hb)
theorem All2.at2 {α β : Type} {R : α → β → Prop} : ∀ {xs : List α} {ys : List β} {i : Nat} {x : α}, All2 R xs ys → xs[i]? = some x → ∃ y, ys[i]? = some y ∧ R x y
  | [], _, i, x, _, h => by simp at h
  | _ :: _, [], _, _, h, _ => h.elim
  | x0 :: xs, y0 :: ys, 0, x, ⟨h1, _⟩, h => by simp at h; subst h; exact ⟨y0, rfl, h1⟩
  | x0 :: xs, y0 :: ys, i + 1, x, ⟨_, h2⟩, h => by
    obtain ⟨y, e, r⟩ := h2.at2 (i := i) (x := x) (by simpa using h)
    exact ⟨y, by simpa using e, r⟩
theorem mapM_get {α β : Type} {f : α → Option β} : ∀ {l : List α} {r : List β}, l.mapM f = some r → r.length = l.length ∧ ∀ (i : Nat) (a : α), l[i]? = some a → f a = r[i]?
  | [], r, h => by simp at h; subst h; simp
  | a :: l, r, h => by
    simp only [List.mapM_cons, Option.bind_eq_bind, Option.bind_eq_some_iff, Option.pure_def, Option.some.injEq] at h
    obtain ⟨b, hb, bs, hbs, rfl⟩ := h
    obtain ⟨h1, h2⟩ := mapM_get hbs
    refine ⟨by simp [h1], fun i x hx => ?_⟩
    cases i with
    | zero => simp at hx; subst hx; simpa using hb
    | succ i => simpa using h2 i x (by simpa using hx)
theorem cells?_get {a : Addr} {n : Nat} {cs : List Value} (h : w.cells? base a n = some cs) : cs.length = n ∧ ∀ j, j < n → w.cell? (a.add j) = cs[j]? := by
  unfold World.cells? at h
  split at h
  · obtain ⟨h1, h2⟩ := mapM_get h
    exact ⟨by simpa using h1, fun j hj => h2 j j (by simp [hj])⟩
  · cases h
theorem OpenT.list {α : Type} {t e : TypeId} {rd : α → FV} {ok : α → Prop} {mk : List α → LS} [Inhabited α] (he : OpenT enc P w base spare held M e rd ok) (ht : P.underlying t = some (.slice e))
    (hM : ∀ b, ¬ M b) (hlen : ∀ xs, (mk xs).len = xs.length) (hget : ∀ xs i, i < xs.length → ((mk xs).get i).cells = (rd (xs.getD i default)).cells) (hsz : ∀ xs, (mk xs).esz = P.cellsOf e) (hpos : 0 < P.cellsOf e) :
    OpenT enc P w base spare held M t (fun xs => FV.sl (mk xs)) (fun xs => xs.length * P.bytesOf e ≤ reachBytes ∧ ∀ x ∈ xs, ok x) := fun n cs x h hw => by
  rcases DataW.trod_slice ht h with ⟨rfl, rfl⟩ | ⟨a, len, cap, elems, rest, m, _, rfl, rfl, hb, hl, hm, hlen', hel, hsp, hns⟩
  · exact ⟨[], ⟨by simp, by simp⟩, .slnil _ none 0 (by rw [hlen]; rfl) (fun _ => rfl), trivial⟩
  · have each : ∀ i, i < len → ∃ z : α, ok z ∧ ∃ cs', w.cells? base (a.add (i * P.cellsOf e)) (P.cellsOf e) = some cs' ∧ All2 (DR M w) (rd z).cells cs' := fun i hi => by
      have h1 := hel i hi
      have hx : elems[i]? = some (elems[i]'(by omega)) := List.getElem?_eq_getElem (by omega)
      rw [hx, Option.bind_eq_some_iff] at h1
      obtain ⟨cs', hcs, hy⟩ := h1
      obtain ⟨z, hz, hz2⟩ := he m cs' _ hy (fun b hb' => hw b (by
        simp only [DataW.weights, ht, List.mem_cons, List.mem_append]
        refine .inr (.inl (weights_all (d := (elems[i]'(by omega)).1) ?_ hb'))
        exact List.mem_map.2 ⟨_, List.getElem_mem _, rfl⟩))
      exact ⟨z, hz, cs', hcs, hz2⟩
    have hch : ∃ zs : List α, zs.length = len ∧ ∀ i, i < len → ok (zs.getD i default) ∧ ∃ cs', w.cells? base (a.add (i * P.cellsOf e)) (P.cellsOf e) = some cs' ∧ All2 (DR M w) (rd (zs.getD i default)).cells cs' := by
      have : ∀ k, k ≤ len → ∃ zs : List α, zs.length = k ∧ ∀ i, i < k → ok (zs.getD i default) ∧ ∃ cs', w.cells? base (a.add (i * P.cellsOf e)) (P.cellsOf e) = some cs' ∧ All2 (DR M w) (rd (zs.getD i default)).cells cs' := fun k => by
        induction k with
        | zero => exact fun _ => ⟨[], rfl, fun i hi => by omega⟩
        | succ k ih =>
          intro hk
          obtain ⟨zs, h1, h2⟩ := ih (by omega)
          obtain ⟨z, hz, hz2⟩ := each k (by omega)
          refine ⟨zs ++ [z], by simp [h1], fun i hi => ?_⟩
          by_cases hik : i < k
          · have : (zs ++ [z]).getD i default = zs.getD i default := by simp [List.getD, List.getElem?_append_left (by omega : i < zs.length)]
            rw [this]; exact h2 i hik
          · obtain rfl : i = k := by omega
            have : (zs ++ [z]).getD i default = z := by simp [List.getD, ← h1]
            rw [this]; exact ⟨hz, hz2⟩
      exact this len (Nat.le_refl _)
    obtain ⟨zs, hzl, hz⟩ := hch
    refine ⟨zs, ⟨?_, fun z hz' => ?_⟩, ?_, trivial⟩
    · have := hw ((elems.length + rest.length) * P.bytesOf e) (by simp [DataW.weights, ht])
      refine Nat.le_trans (Nat.mul_le_mul_right _ ?_) this
      omega
    · obtain ⟨i, hi⟩ := List.getElem?_of_mem hz'
      have hil : i < len := by rw [← hzl]; exact (List.getElem?_eq_some_iff.1 hi).1
      have := (hz i hil).1
      simpa [List.getD, hi] using this
    · by_cases h0 : len = 0
      · subst h0
        exact .slnil _ (some a) cap (by rw [hlen, hzl]) (fun h => by cases h)
      · have hspot : a.spot = none := by
          obtain ⟨_, cs', hcs, _⟩ := hz 0 (by omega)
          have := (cells?_get hcs).2 0 hpos
          obtain ⟨hl1, hl2⟩ := cells?_get hcs
          have hv : cs'[0]? = some (cs'[0]'(by omega)) := List.getElem?_eq_getElem (by omega)
          rw [hv] at this
          have := World.cell?_spot this
          simpa [Addr.add] using this
        obtain ⟨b, off, spot⟩ := a
        simp only at hspot
        subst hspot
        have hblk : b < w.heap.size := by
          obtain ⟨_, cs', hcs, _⟩ := hz 0 (by omega)
          simpa [Addr.add] using World.cells?_block hcs hpos
        have key : ∀ i j c, i < zs.length → ((mk zs).get i).cells[j]? = some c → ∃ v, w.cell? ⟨b, off + i * P.cellsOf e + j, none⟩ = some v ∧ DR M w c v := fun i j c hi hj => by
          obtain ⟨_, cs', hcs, ha⟩ := hz i (by omega)
          rw [hget zs i hi] at hj
          obtain ⟨v, hv, hd⟩ := ha.at2 hj
          obtain ⟨k1, k2⟩ := cells?_get hcs
          have hjl : j < P.cellsOf e := by rw [← k1]; exact (List.getElem?_eq_some_iff.1 hv).1
          have := k2 j hjl
          rw [hv] at this
          have e : ((⟨b, off, none⟩ : Addr).add (i * P.cellsOf e)).add j = ⟨b, off + i * P.cellsOf e + j, none⟩ := by
            simp only [Addr.add]
            split <;> split <;> simp_all
          rw [e] at this
          exact ⟨v, this, hd⟩
        have hv : ∀ i j, ∃ v, ∀ c, i < zs.length → ((mk zs).get i).cells[j]? = some c → w.cell? ⟨b, off + i * P.cellsOf e + j, none⟩ = some v ∧ DR M w c v := fun i j => by
          by_cases hh : ∃ c, i < zs.length ∧ ((mk zs).get i).cells[j]? = some c
          · obtain ⟨c, hi, hj⟩ := hh
            obtain ⟨v, h1, h2⟩ := key i j c hi hj
            refine ⟨v, fun c' _ hc' => ?_⟩
            rw [hj] at hc'; cases hc'
            exact ⟨h1, h2⟩
          · exact ⟨undef, fun c hi hj => (hh ⟨c, hi, hj⟩).elim⟩
        have hl2 : (mk zs).len = len := by rw [hlen, hzl]
        have := DR.sl (M := M) (w := w) (mk zs) b off cap (fun i j => Classical.choose (hv i j)) (by rw [hl2]; exact hl) hm (hM b) hblk
          (fun i j c hi hj => by rw [hsz]; exact (Classical.choose_spec (hv i j) c (by rw [← hlen]; exact hi) hj).1)
          (fun i j c hi hj => (Classical.choose_spec (hv i j) c (by rw [← hlen]; exact hi) hj).2)
        rw [hl2] at this
        exact this
theorem All2.of_get {α β : Type} {R : α → β → Prop} : ∀ {xs : List α} {ys : List β}, ys.length = xs.length → (∀ (i : Nat) (x : α) (y : β), xs[i]? = some x → ys[i]? = some y → R x y) → All2 R xs ys
  | [], [], _, _ => trivial
  | [], _ :: _, h, _ => by simp at h
  | _ :: _, [], h, _ => by simp at h
  | x :: xs, y :: ys, h, k => ⟨k 0 x y rfl rfl, All2.of_get (by simpa using h) fun i a b ha hb => k (i + 1) a b (by simpa using ha) (by simpa using hb)⟩
end
end Go.Proofs.Fw

set_option autoImplicit false
set_option linter.unusedVariables false
set_option maxRecDepth 20000
namespace Go.Proofs.Fw
open Go Go.ChangeShapes Go.Deep
def strOK (s : Bytes) : Prop := s.length ≤ reachBytes
def intOK (n : Int) : Prop := wfI .i64 n
structure Dest.Ok (m : Dest) : Prop where
  addr : strOK m.addr
  seq : intOK m.seq
section
variable {H : Type} {enc : TypeId × Value → H} {w : World} {base : Nat} {spare : Nat → Bool} {held : Bool}
theorem open_Dest {M : Nat → Prop} (hM : ∀ b, ¬ M b) : OpenT enc Tryz.prog w base spare held M 83 Dest.fv Dest.Ok := fun n cs x h hw => by
  obtain ⟨hl, hf⟩ := open_struct Tryz.underlying83 (by kernel_rfl) (hone_of (by kernel_rfl)) h hw
  obtain ⟨v0, m0, y0, e0, t0, w0⟩ := hf 0 _ rfl
  obtain ⟨a0, k0, r0⟩ := (OpenT.str Tryz.underlying9).at (M := M) (fun _ => rfl) t0 w0
  obtain ⟨v1, m1, y1, e1, t1, w1⟩ := hf 1 _ rfl
  obtain ⟨a1, k1, r1⟩ := (OpenT.int Tryz.underlying3).at (M := M) (fun _ => rfl) t1 w1
  clear hf h hw
  have hcs : cs = [v0, v1] := by
    have hl' : cs.length = 2 := hl
    refine List.ext_getElem? fun i => ?_
    match i with
    | 0 => exact e0
    | 1 => exact e1
    | i + 2 => rw [List.getElem?_eq_none (by omega), List.getElem?_eq_none (by simp)]
  subst hcs
  exact ⟨⟨a0, a1⟩, ⟨k0, k1⟩, r0, r1, trivial⟩
end
structure SubT.Ok (m : SubT) : Prop where
  type : intOK m.type
  data : strOK m.data
section
variable {H : Type} {enc : TypeId × Value → H} {w : World} {base : Nat} {spare : Nat → Bool} {held : Bool}
theorem open_SubT {M : Nat → Prop} (hM : ∀ b, ¬ M b) : OpenT enc Tryz.prog w base spare held M 85 SubT.fv SubT.Ok := fun n cs x h hw => by
  obtain ⟨hl, hf⟩ := open_struct Tryz.underlying85 (by kernel_rfl) (hone_of (by kernel_rfl)) h hw
  obtain ⟨v0, m0, y0, e0, t0, w0⟩ := hf 0 _ rfl
  obtain ⟨a0, k0, r0⟩ := (OpenT.int Tryz.underlying3).at (M := M) (fun _ => rfl) t0 w0
  obtain ⟨v1, m1, y1, e1, t1, w1⟩ := hf 1 _ rfl
  obtain ⟨a1, k1, r1⟩ := (OpenT.str Tryz.underlying9).at (M := M) (fun _ => rfl) t1 w1
  clear hf h hw
  have hcs : cs = [v0, v1] := by
    have hl' : cs.length = 2 := hl
    refine List.ext_getElem? fun i => ?_
    match i with
    | 0 => exact e0
    | 1 => exact e1
    | i + 2 => rw [List.getElem?_eq_none (by omega), List.getElem?_eq_none (by simp)]
  subst hcs
  exact ⟨⟨a0, a1⟩, ⟨k0, k1⟩, r0, r1, trivial⟩
theorem open_dests {M : Nat → Prop} (hM : ∀ b, ¬ M b) : OpenT enc Tryz.prog w base spare held M 26 (fun xs => FV.sl (.dest xs)) (fun xs => xs.length * Tryz.prog.bytesOf 83 ≤ reachBytes ∧ ∀ d ∈ xs, Dest.Ok d) :=
  OpenT.list (open_Dest hM) Tryz.underlying26 hM (fun _ => rfl) (fun _ _ _ => rfl) (fun _ => by kernel_rfl) (Nat.lt_of_lt_of_eq (by decide : 0 < 2) (by kernel_rfl : 2 = Tryz.prog.cellsOf 83))
theorem open_subs {M : Nat → Prop} (hM : ∀ b, ¬ M b) : OpenT enc Tryz.prog w base spare held M 27 (fun xs => FV.sl (.sub xs)) (fun xs => xs.length * Tryz.prog.bytesOf 85 ≤ reachBytes ∧ ∀ d ∈ xs, SubT.Ok d) :=
  OpenT.list (open_SubT hM) Tryz.underlying27 hM (fun _ => rfl) (fun _ _ _ => rfl) (fun _ => by kernel_rfl) (Nat.lt_of_lt_of_eq (by decide : 0 < 2) (by kernel_rfl : 2 = Tryz.prog.cellsOf 85))
end
structure Msg.Ok (m : Msg) : Prop where
  kind : intOK m.kind
  cmd : intOK m.cmd
  ver : intOK m.ver
  auth : strOK m.auth
  family : intOK m.family
  ae : intOK m.ae
  pfx : strOK m.pfx
  plen : intOK m.plen
  tag : intOK m.tag
  next : strOK m.next
  metric : intOK m.metric
  id : strOK m.id
  seq : intOK m.seq
  seq2 : intOK m.seq2
  interval : intOK m.interval
  flags : intOK m.flags
  hops : intOK m.hops
  nonce : intOK m.nonce
  cost : intOK m.cost
  addr : strOK m.addr
  orig : strOK m.orig
  list : m.list.length * Tryz.prog.bytesOf 83 ≤ reachBytes ∧ ∀ d ∈ m.list, Dest.Ok d
  type : intOK m.type
  data : strOK m.data
  subs : m.subs.length * Tryz.prog.bytesOf 85 ≤ reachBytes ∧ ∀ d ∈ m.subs, SubT.Ok d
section
variable {H : Type} {enc : TypeId × Value → H} {w : World} {base : Nat} {spare : Nat → Bool} {held : Bool}
theorem open_Msg {M : Nat → Prop} (hM : ∀ b, ¬ M b) : OpenT enc Tryz.prog w base spare held M 29 Msg.fv Msg.Ok := fun n cs x h hw => by
  obtain ⟨hl, hf⟩ := open_struct Tryz.underlying29 (by kernel_rfl) (hone_of (by kernel_rfl)) h hw
  obtain ⟨v0, m0, y0, e0, t0, w0⟩ := hf 0 _ rfl
  obtain ⟨a0, k0, r0⟩ := (OpenT.int Tryz.underlying3).at (M := M) (fun _ => rfl) t0 w0
  obtain ⟨v1, m1, y1, e1, t1, w1⟩ := hf 1 _ rfl
  obtain ⟨a1, k1, r1⟩ := (OpenT.int Tryz.underlying3).at (M := M) (fun _ => rfl) t1 w1
  obtain ⟨v2, m2, y2, e2, t2, w2⟩ := hf 2 _ rfl
  obtain ⟨a2, k2, r2⟩ := (OpenT.int Tryz.underlying3).at (M := M) (fun _ => rfl) t2 w2
  obtain ⟨v3, m3, y3, e3, t3, w3⟩ := hf 3 _ rfl
  obtain ⟨a3, k3, r3⟩ := (OpenT.str Tryz.underlying9).at (M := M) (fun _ => rfl) t3 w3
  obtain ⟨v4, m4, y4, e4, t4, w4⟩ := hf 4 _ rfl
  obtain ⟨a4, k4, r4⟩ := (OpenT.int Tryz.underlying3).at (M := M) (fun _ => rfl) t4 w4
  obtain ⟨v5, m5, y5, e5, t5, w5⟩ := hf 5 _ rfl
  obtain ⟨a5, k5, r5⟩ := (OpenT.int Tryz.underlying3).at (M := M) (fun _ => rfl) t5 w5
  obtain ⟨v6, m6, y6, e6, t6, w6⟩ := hf 6 _ rfl
  obtain ⟨a6, k6, r6⟩ := (OpenT.str Tryz.underlying9).at (M := M) (fun _ => rfl) t6 w6
  obtain ⟨v7, m7, y7, e7, t7, w7⟩ := hf 7 _ rfl
  obtain ⟨a7, k7, r7⟩ := (OpenT.int Tryz.underlying3).at (M := M) (fun _ => rfl) t7 w7
  obtain ⟨v8, m8, y8, e8, t8, w8⟩ := hf 8 _ rfl
  obtain ⟨a8, k8, r8⟩ := (OpenT.int Tryz.underlying3).at (M := M) (fun _ => rfl) t8 w8
  obtain ⟨v9, m9, y9, e9, t9, w9⟩ := hf 9 _ rfl
  obtain ⟨a9, k9, r9⟩ := (OpenT.str Tryz.underlying9).at (M := M) (fun _ => rfl) t9 w9
  obtain ⟨v10, m10, y10, e10, t10, w10⟩ := hf 10 _ rfl
  obtain ⟨a10, k10, r10⟩ := (OpenT.int Tryz.underlying3).at (M := M) (fun _ => rfl) t10 w10
  obtain ⟨v11, m11, y11, e11, t11, w11⟩ := hf 11 _ rfl
  obtain ⟨a11, k11, r11⟩ := (OpenT.str Tryz.underlying9).at (M := M) (fun _ => rfl) t11 w11
  obtain ⟨v12, m12, y12, e12, t12, w12⟩ := hf 12 _ rfl
  obtain ⟨a12, k12, r12⟩ := (OpenT.int Tryz.underlying3).at (M := M) (fun _ => rfl) t12 w12
  obtain ⟨v13, m13, y13, e13, t13, w13⟩ := hf 13 _ rfl
  obtain ⟨a13, k13, r13⟩ := (OpenT.int Tryz.underlying3).at (M := M) (fun _ => rfl) t13 w13
  obtain ⟨v14, m14, y14, e14, t14, w14⟩ := hf 14 _ rfl
  obtain ⟨a14, k14, r14⟩ := (OpenT.int Tryz.underlying3).at (M := M) (fun _ => rfl) t14 w14
  obtain ⟨v15, m15, y15, e15, t15, w15⟩ := hf 15 _ rfl
  obtain ⟨a15, k15, r15⟩ := (OpenT.int Tryz.underlying3).at (M := M) (fun _ => rfl) t15 w15
  obtain ⟨v16, m16, y16, e16, t16, w16⟩ := hf 16 _ rfl
  obtain ⟨a16, k16, r16⟩ := (OpenT.int Tryz.underlying3).at (M := M) (fun _ => rfl) t16 w16
  obtain ⟨v17, m17, y17, e17, t17, w17⟩ := hf 17 _ rfl
  obtain ⟨a17, k17, r17⟩ := (OpenT.int Tryz.underlying3).at (M := M) (fun _ => rfl) t17 w17
  obtain ⟨v18, m18, y18, e18, t18, w18⟩ := hf 18 _ rfl
  obtain ⟨a18, k18, r18⟩ := (OpenT.int Tryz.underlying3).at (M := M) (fun _ => rfl) t18 w18
  obtain ⟨v19, m19, y19, e19, t19, w19⟩ := hf 19 _ rfl
  obtain ⟨a19, k19, r19⟩ := (OpenT.str Tryz.underlying9).at (M := M) (fun _ => rfl) t19 w19
  obtain ⟨v20, m20, y20, e20, t20, w20⟩ := hf 20 _ rfl
  obtain ⟨a20, k20, r20⟩ := (OpenT.str Tryz.underlying9).at (M := M) (fun _ => rfl) t20 w20
  obtain ⟨v21, m21, y21, e21, t21, w21⟩ := hf 21 _ rfl
  obtain ⟨a21, k21, r21⟩ := (open_dests hM).at (M := M) (fun _ => rfl) t21 w21
  obtain ⟨v22, m22, y22, e22, t22, w22⟩ := hf 22 _ rfl
  obtain ⟨a22, k22, r22⟩ := (OpenT.int Tryz.underlying3).at (M := M) (fun _ => rfl) t22 w22
  obtain ⟨v23, m23, y23, e23, t23, w23⟩ := hf 23 _ rfl
  obtain ⟨a23, k23, r23⟩ := (OpenT.str Tryz.underlying9).at (M := M) (fun _ => rfl) t23 w23
  obtain ⟨v24, m24, y24, e24, t24, w24⟩ := hf 24 _ rfl
  obtain ⟨a24, k24, r24⟩ := (open_subs hM).at (M := M) (fun _ => rfl) t24 w24
  clear hf h hw
  have hcs : cs = [v0, v1, v2, v3, v4, v5, v6, v7, v8, v9, v10, v11, v12, v13, v14, v15, v16, v17, v18, v19, v20, v21, v22, v23, v24] := by
    have hl' : cs.length = 25 := hl
    refine List.ext_getElem? fun i => ?_
    match i with
    | 0 => exact e0
    | 1 => exact e1
    | 2 => exact e2
    | 3 => exact e3
    | 4 => exact e4
    | 5 => exact e5
    | 6 => exact e6
    | 7 => exact e7
    | 8 => exact e8
    | 9 => exact e9
    | 10 => exact e10
    | 11 => exact e11
    | 12 => exact e12
    | 13 => exact e13
    | 14 => exact e14
    | 15 => exact e15
    | 16 => exact e16
    | 17 => exact e17
    | 18 => exact e18
    | 19 => exact e19
    | 20 => exact e20
    | 21 => exact e21
    | 22 => exact e22
    | 23 => exact e23
    | 24 => exact e24
    | i + 25 => rw [List.getElem?_eq_none (by omega), List.getElem?_eq_none (by simp)]
  subst hcs
  exact ⟨⟨a0, a1, a2, a3, a4, a5, a6, a7, a8, a9, a10, a11, a12, a13, a14, a15, a16, a17, a18, a19, a20, a21, a22, a23, a24⟩, ⟨k0, k1, k2, k3, k4, k5, k6, k7, k8, k9, k10, k11, k12, k13, k14, k15, k16, k17, k18, k19, k20, k21, k22, k23, k24⟩, r0, r1, r2, r3, r4, r5, r6, r7, r8, r9, r10, r11, r12, r13, r14, r15, r16, r17, r18, r19, r20, r21, r22, r23, r24, trivial⟩
theorem open_msgs {M : Nat → Prop} (hM : ∀ b, ¬ M b) : OpenT enc Tryz.prog w base spare held M 22 (fun xs => FV.sl (.msg xs)) (fun xs => xs.length * Tryz.prog.bytesOf 29 ≤ reachBytes ∧ ∀ d ∈ xs, Msg.Ok d) :=
  OpenT.list (open_Msg hM) Tryz.underlying22 hM (fun _ => rfl) (fun _ _ _ => rfl) (fun _ => by kernel_rfl) (Nat.lt_of_lt_of_eq (by decide : 0 < 25) (by kernel_rfl : 25 = Tryz.prog.cellsOf 29))
theorem open_strs {M : Nat → Prop} (hM : ∀ b, ¬ M b) : OpenT enc Tryz.prog w base spare held M 40 (fun xs => FV.sl (.str xs)) (fun xs => xs.length * Tryz.prog.bytesOf 9 ≤ reachBytes ∧ ∀ d ∈ xs, d.length ≤ reachBytes) :=
  OpenT.list (OpenT.str Tryz.underlying9) Tryz.underlying40 hM (fun _ => rfl) (fun _ _ _ => rfl) (fun _ => by kernel_rfl) (Nat.lt_of_lt_of_eq (by decide : 0 < 1) (by kernel_rfl : 1 = Tryz.prog.cellsOf 9))
end
end Go.Proofs.Fw

set_option autoImplicit false
set_option linter.unusedVariables false
set_option linter.unusedSimpArgs false
namespace Go.Proofs.Fw
open Go Go.ChangeShapes Go.WideShapes Go.ChangeAt Go.RowKit
/-! ### From a function's law to a statement -/
def mem0 (W : World) : Mem := ⟨W, fun _ => 0, fun _ => undef, fun _ => False⟩
theorem st0_get (l : Loc) : (entry [] [] []).get l = .any := rfl
theorem mut0 (W : World) : ∀ b, ¬ mutB (entry [] [] []) (mem0 W) b := fun b h => by
  rcases h with h | ⟨o, n, h, _⟩ | ⟨r, g, xs, h, _⟩
  · exact h
  · cases h
  · cases h
theorem mem0_ok (W : World) : MemOK et (entry [] [] []) (mem0 W) where
  objs := fun o n h => by cases h
  rows := fun r g xs h => by cases h
  oo := fun o n o' n' h => by cases h
  rr := fun r g xs r' g' xs' b h => by cases h
  or_ := fun o n r g xs h => by cases h
  xlt := fun b h => h.elim
  xl := fun b h => h.elim
theorem law_calls {g : Nat} {spec : FSpec} (S : CallSound Tryz.prog et g spec) {W : World} {xs : List FV} {vs : List Value} (hv : All2 (RS (entry [] [] []) (mem0 W)) xs vs) (hh : handOK xs = true) {asks : List Bool}
    (hs : spec xs [] = some (asks, .bool true, [])) (ha : ∀ p ∈ asks, p) : Calls Tryz.prog g vs.toArray W fun e w' => e = .returned (.bool true) ∧ Below W.heap.size W w' :=
  (S.calls xs [] asks (.bool true) [] hs ha (mem0 W) vs (mem0_ok W) hv hh rfl rfl).mono fun e w' ⟨v, m', he, hw, _, hr, hx, _⟩ => by
    subst hw
    cases hr
    exact ⟨he, ⟨hx.os, hx.tape, hx.output, hx.size, fun k hk => hx.keep k hk fun hl => by
      rcases hl with ⟨o, n, h, _⟩ | ⟨r, g, xs, h, _⟩
      · cases h
      · cases h⟩⟩
/-- An argument of one cell. -/
theorem arg1 {W : World} {c : FV} {v : Value} (h : DR (mutB (entry [] [] []) (mem0 W)) W c v) (hp : plainCell c = true) : RS (entry [] [] []) (mem0 W) c v := by
  cases c <;> first | exact h | simp [plainCell] at hp
/-- An argument that is a struct. -/
theorem argS {W : World} {cs : List FV} {vs : List Value} (h : All2 (DR (mutB (entry [] [] []) (mem0 W)) W) cs vs) (hp : plainAll cs = true) : RS (entry [] [] []) (mem0 W) (.agg cs) (.agg vs.toArray) := by
  refine ⟨vs, rfl, ?_⟩
  have : ∀ (cs : List FV) (vs : List Value), All2 (DR (mutB (entry [] [] []) (mem0 W)) W) cs vs → plainAll cs = true → All2 (R1 (entry [] [] []) (mem0 W)) cs vs := by
    intro cs
    induction cs with
    | nil => intro vs h _; cases vs <;> first | trivial | exact h.elim
    | cons c cs ih =>
      intro vs h hp
      cases vs with
      | nil => exact h.elim
      | cons v vs =>
        simp only [plainAll, Bool.and_eq_true] at hp
        refine ⟨?_, ih vs h.2 hp.2⟩
        have := h.1
        cases c <;> first | exact this | simp [plainCell] at hp
  exact this cs vs h hp
end Go.Proofs.Fw
