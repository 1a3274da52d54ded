/- A message is of one protocol at most. -/
import Derived.Test.YtnmgchgmmnjbiaaGreatFh
set_option autoImplicit false
set_option linter.unusedVariables false
set_option linter.unusedSimpArgs false
namespace Go.Proofs.Fw
open Go
/-! ### A message is of one protocol at most -/
theorem subBytes_le {l : List SubT} (h : l.all (fun s => decide (s.data.length ≤ 300)) = true) : Rb.subBytes l ≤ 302 * l.length := by
  induction l with
  | nil => simp [Rb.subBytes]
  | cons x l ih =>
    simp only [List.all_cons, Bool.and_eq_true, decide_eq_true_eq] at h
    have := ih h.2
    rw [subBytes_cons, List.length_cons]
    omega
theorem few_small {m : Msg} (h : few m = true) : smallM m = true := by
  simp only [few, Bool.and_eq_true, decide_eq_true_eq] at h
  obtain ⟨⟨⟨⟨⟨⟨⟨f1, f2⟩, f3⟩, f4⟩, f5⟩, f6⟩, f7⟩, f8⟩ := h
  have := subBytes_le f8
  simp only [smallM, Bool.and_eq_true, decide_eq_true_eq]
  omega
theorem rip_kind {m : Msg} (h : Rb.ripRight m = true) : m.kind = 1 := by
  simp only [Rb.ripRight, Bool.and_eq_true, decide_eq_true_eq] at h
  exact h.1.1.1.1.1.1.1
theorem ng_kind {m : Msg} (h : Rb.ngRight m = true) : m.kind = 2 := by
  simp only [Rb.ngRight, Bool.and_eq_true, decide_eq_true_eq] at h
  exact h.1.1.1.1.1.1.1.1
theorem aodv_kind {m : Msg} (h : Rb.aodvRight m = true) : 3 ≤ m.kind ∧ m.kind ≤ 6 := by
  simp only [Rb.aodvRight, Bool.or_eq_true] at h
  rcases h with (h | h) | h
  · simp only [Rb.rreqRight, Bool.and_eq_true, decide_eq_true_eq] at h
    omega
  · simp only [Rb.rrepRight, Bool.and_eq_true, Bool.or_eq_true, decide_eq_true_eq] at h
    omega
  · simp only [Rb.rerrRight, Bool.and_eq_true, decide_eq_true_eq] at h
    omega
theorem lean_kind {m : Msg} (h : Rb.leanRight m = true) : 7 ≤ m.kind := by
  unfold Rb.leanRight at h
  split at h
  · omega
  · split at h
    · omega
    · split at h
      · omega
      · split at h
        · omega
        · simp only [Rb.fieldRight, Bool.and_eq_true, Bool.or_eq_true, decide_eq_true_eq] at h
          omega
theorem suite_range {p : Int} {m : Msg} (h : Rb.suiteRight p m = true) : 1 ≤ p ∧ p ≤ 4 := by
  unfold Rb.suiteRight at h
  split at h
  · omega
  · split at h
    · omega
    · split at h
      · omega
      · split at h
        · omega
        · cases h
theorem cnt_pos (m : Msg) : ∀ (k : Nat) (p : Int), 0 ≤ cnt m k p
  | 0, p => by simp [cnt]
  | k + 1, p => by
    have := cnt_pos m k (p + 1)
    unfold cnt
    split <;> omega
theorem cnt_one (m : Msg) : cnt m 8 (-1) ≤ 1 := by
  have e : ∀ p, Rb.suiteRight p m = if p = 1 then Rb.ripRight m else if p = 2 then Rb.ngRight m else if p = 3 then Rb.aodvRight m else if p = 4 then Rb.leanRight m else false := fun p => rfl
  have k1 := @rip_kind m
  have k2 := @ng_kind m
  have k3 := @aodv_kind m
  have k4 := @lean_kind m
  simp only [cnt, e]
  cases h1 : Rb.ripRight m <;> cases h2 : Rb.ngRight m <;> cases h3 : Rb.aodvRight m <;> cases h4 : Rb.leanRight m <;> simp [h1, h2, h3, h4] at k1 k2 k3 k4 ⊢ <;> omega
end Go.Proofs.Fw

set_option autoImplicit false
set_option maxHeartbeats 400000
set_option linter.unusedVariables false
set_option linter.unusedSimpArgs false
set_option maxRecDepth 20000
namespace Go.Proofs.Fw
open Go
def a6_5 : LoopAnn := ⟨[(1, none), (2, none), (3, none), (4, none)], mkL (dC dPtr (dC dBool (dC dInt (dC dInt dNil)))) (dC dPtr (dC dBool (dC dInt (dC dInt dNil)))) (oOne dMsgC) fun (_, r, n, p, _) m => ([decide (-1 ≤ p), decide (p ≤ 7), decide (0 ≤ n), decide (n ≤ p + 1), smallM m], .exit 0, ((), r, n + cnt m (7 - p).toNat p, 7, ()), m)⟩
def s6 : FSpec := mkS [.msg] (dC dMsg dNil) fun (m, _) => ([memOK m], .bool true)
noncomputable def ct10 : List (Nat × FSpec) := (6, s6) :: ct9
end Go.Proofs.Fw

set_option autoImplicit false
set_option maxHeartbeats 400000
set_option linter.unusedVariables false
set_option linter.unusedSimpArgs false
set_option maxRecDepth 20000
namespace Go.Proofs.Fw
open Go
theorem r6_5 (r : Bool) (n : Int) (p : Int) (m : Msg) (post : FX → List FV → List (List FV) → Prop) : fround tt ct9 [] [(1, none), (2, none), (3, none), (4, none)] (loopAt Tryz.f6 5) [.ptr (.arg 0) 0, .bool r, .int .i64 n, .int .i64 p] [(Msg.fv m).cells] post =
  (ifb (decide (p ≤ (6 : Int)))
   ((smallM m) = true ∧
   (ifb (Rb.suiteRight p m)
    (ifb (decide (p < (1 : Int)))
     (post (FX.ret) ([FV.ptr (Nm.arg (0 : Nat)) (0 : Nat), FV.bool false,   FV.int Go.IntKind.i64 (Go.IntKind.i64.wrap (n + (1 : Int))), FV.int Go.IntKind.i64 p]) ([[FV.int Go.IntKind.i64 m.kind, FV.int Go.IntKind.i64 m.cmd,     FV.int Go.IntKind.i64 m.ver, FV.str m.auth, FV.int Go.IntKind.i64 m.family,     FV.int Go.IntKind.i64 m.ae, FV.str m.pfx, FV.int Go.IntKind.i64 m.plen,     FV.int Go.IntKind.i64 m.tag, FV.str m.next, FV.int Go.IntKind.i64 m.metric,     FV.str m.id, FV.int Go.IntKind.i64 m.seq, FV.int Go.IntKind.i64 m.seq2,     FV.int Go.IntKind.i64 m.interval, FV.int Go.IntKind.i64 m.flags,     FV.int Go.IntKind.i64 m.hops, FV.int Go.IntKind.i64 m.nonce,     FV.int Go.IntKind.i64 m.cost, FV.str m.addr, FV.str m.orig,     FV.sl (LS.dest m.list), FV.int Go.IntKind.i64 m.type,     FV.str m.data, FV.sl (LS.sub m.subs)]]))
     (ifb (decide (p > (4 : Int)))
      (post (FX.ret) ([FV.ptr (Nm.arg (0 : Nat)) (0 : Nat), FV.bool false,   FV.int Go.IntKind.i64 (Go.IntKind.i64.wrap (n + (1 : Int))), FV.int Go.IntKind.i64 p]) ([[FV.int Go.IntKind.i64 m.kind, FV.int Go.IntKind.i64 m.cmd,     FV.int Go.IntKind.i64 m.ver, FV.str m.auth, FV.int Go.IntKind.i64 m.family,     FV.int Go.IntKind.i64 m.ae, FV.str m.pfx, FV.int Go.IntKind.i64 m.plen,     FV.int Go.IntKind.i64 m.tag, FV.str m.next, FV.int Go.IntKind.i64 m.metric,     FV.str m.id, FV.int Go.IntKind.i64 m.seq, FV.int Go.IntKind.i64 m.seq2,     FV.int Go.IntKind.i64 m.interval, FV.int Go.IntKind.i64 m.flags,     FV.int Go.IntKind.i64 m.hops, FV.int Go.IntKind.i64 m.nonce,     FV.int Go.IntKind.i64 m.cost, FV.str m.addr, FV.str m.orig,     FV.sl (LS.dest m.list), FV.int Go.IntKind.i64 m.type,     FV.str m.data, FV.sl (LS.sub m.subs)]]))
      (post (FX.normal) ([FV.ptr (Nm.arg (0 : Nat)) (0 : Nat), FV.bool r,   FV.int Go.IntKind.i64 (Go.IntKind.i64.wrap (n + (1 : Int))),   FV.int Go.IntKind.i64 (Go.IntKind.i64.wrap (p + (1 : Int)))]) ([[FV.int Go.IntKind.i64 m.kind, FV.int Go.IntKind.i64 m.cmd,     FV.int Go.IntKind.i64 m.ver, FV.str m.auth, FV.int Go.IntKind.i64 m.family,     FV.int Go.IntKind.i64 m.ae, FV.str m.pfx, FV.int Go.IntKind.i64 m.plen,     FV.int Go.IntKind.i64 m.tag, FV.str m.next, FV.int Go.IntKind.i64 m.metric,     FV.str m.id, FV.int Go.IntKind.i64 m.seq, FV.int Go.IntKind.i64 m.seq2,     FV.int Go.IntKind.i64 m.interval, FV.int Go.IntKind.i64 m.flags,     FV.int Go.IntKind.i64 m.hops, FV.int Go.IntKind.i64 m.nonce,     FV.int Go.IntKind.i64 m.cost, FV.str m.addr, FV.str m.orig,     FV.sl (LS.dest m.list), FV.int Go.IntKind.i64 m.type,     FV.str m.data, FV.sl (LS.sub m.subs)]]))))
    (post (FX.normal) ([FV.ptr (Nm.arg (0 : Nat)) (0 : Nat), FV.bool r,   FV.int Go.IntKind.i64 n, FV.int Go.IntKind.i64 (Go.IntKind.i64.wrap (p + (1 : Int)))]) ([[FV.int Go.IntKind.i64 m.kind, FV.int Go.IntKind.i64 m.cmd,     FV.int Go.IntKind.i64 m.ver, FV.str m.auth, FV.int Go.IntKind.i64 m.family,     FV.int Go.IntKind.i64 m.ae, FV.str m.pfx, FV.int Go.IntKind.i64 m.plen,     FV.int Go.IntKind.i64 m.tag, FV.str m.next, FV.int Go.IntKind.i64 m.metric,     FV.str m.id, FV.int Go.IntKind.i64 m.seq, FV.int Go.IntKind.i64 m.seq2,     FV.int Go.IntKind.i64 m.interval, FV.int Go.IntKind.i64 m.flags,     FV.int Go.IntKind.i64 m.hops, FV.int Go.IntKind.i64 m.nonce,     FV.int Go.IntKind.i64 m.cost, FV.str m.addr, FV.str m.orig,     FV.sl (LS.dest m.list), FV.int Go.IntKind.i64 m.type,     FV.str m.data, FV.sl (LS.sub m.subs)]]))))
   (post (FX.exit (0 : Nat)) ([FV.ptr (Nm.arg (0 : Nat)) (0 : Nat), FV.bool r,   FV.int Go.IntKind.i64 n, FV.int Go.IntKind.i64 p]) ([[FV.int Go.IntKind.i64 m.kind, FV.int Go.IntKind.i64 m.cmd,     FV.int Go.IntKind.i64 m.ver, FV.str m.auth, FV.int Go.IntKind.i64 m.family,     FV.int Go.IntKind.i64 m.ae, FV.str m.pfx, FV.int Go.IntKind.i64 m.plen,     FV.int Go.IntKind.i64 m.tag, FV.str m.next, FV.int Go.IntKind.i64 m.metric,     FV.str m.id, FV.int Go.IntKind.i64 m.seq, FV.int Go.IntKind.i64 m.seq2,     FV.int Go.IntKind.i64 m.interval, FV.int Go.IntKind.i64 m.flags,     FV.int Go.IntKind.i64 m.hops, FV.int Go.IntKind.i64 m.nonce,     FV.int Go.IntKind.i64 m.cost, FV.str m.addr, FV.str m.orig,     FV.sl (LS.dest m.list), FV.int Go.IntKind.i64 m.type,     FV.str m.data, FV.sl (LS.sub m.subs)]]))) := by kernel_rfl
theorem w6 (m : Msg) (post : FV → List (List FV) → Prop) : ffun tt ct9 [(5, a6_5)] Tryz.f6 [Msg.fv m] [] post =
  ((memOK m) = true ∧
  (ifb (!few m)
   (post (FV.bool true) ([]))
   ((decide ((-1 : Int) ≤ (-1 : Int))) = true ∧
   ((decide ((-1 : Int) ≤ (7 : Int))) = true ∧
   ((decide ((0 : Int) ≤ (0 : Int))) = true ∧
   ((decide ((0 : Int) ≤ (-1 : Int) + (1 : Int))) = true ∧
   ((smallM m) = true ∧
   (post (FV.bool   (decide ((0 : Int) + cnt m ((7 : Int) - (-1 : Int)).toNat (-1 : Int) ≤ (1 : Int)))) ([]))))))))) := by kernel_rfl
theorem k6 : Code.inner (bodyOf Tryz.f6) = [loopAt Tryz.f6 5] := by kernel_rfl
theorem kk6_5 : Code.key (loopAt Tryz.f6 5) = some 5 := by kernel_rfl
theorem l6_5 : LoopSound Tryz.prog et (loopAt Tryz.f6 5) a6_5 := by
 delta a6_5
 exact loop_man ct9_ok ttOK LoopsOK.none (fun (_, r, n, p, _) m => (7 - p).toNat) (fun ⟨_, r, n, p, _⟩ m ha => by
  refine FRound.of (r6_5 r n p m _) ?_
  simp at ha
  obtain ⟨h1, h2, h3, h4, hs⟩ := ha
  refine ifb_i (fun h => ?_) (fun h => ?_)
  · simp only [decide_eq_true_eq] at h
    have hk : (7 - p).toNat = (7 - (p + 1)).toNat + 1 := by omega
    refine ⟨by simpa using hs, ?_⟩
    refine ifb_i (fun hr => ?_) (fun hr => ?_)
    · have hp := suite_range hr
      refine ifb_i (fun h5 => ?_) (fun h5 => ?_)
      · simp at h5; omega
      refine ifb_i (fun h6 => ?_) (fun h6 => ?_)
      · simp at h6; omega
      refine ⟨((), r, n + 1, p + 1, ()), m, by rw [i64w (n := p + 1) (by omega), i64w (n := n + 1) (by omega)]; rfl, rfl, ?_, ?_, ?_⟩
      · dsimp only
        omega
      · simp [hs]
        omega
      · simp only [hk, cnt, hr]
        simp
        omega
    · refine ⟨((), r, n, p + 1, ()), m, by rw [i64w (n := p + 1) (by omega)]; rfl, rfl, ?_, ?_, ?_⟩
      · dsimp only
        omega
      · simp [hs]
        omega
      · simp only [hk, cnt, hr]
        simp
  · simp only [decide_eq_false_iff_not] at h
    have hp : p = 7 := by omega
    subst hp
    refine ⟨rfl, ?_, rfl⟩
    simp [cnt, dC, dNil, dInt, dU8, dU16, dU32, dStr, dBool, dDests, dSubs, dMsgs, dTlvs, dStrs, dInts, dBytes, oDests, oSubs, oMsgs, oTlvs, oStrs, oInts, oBytes, dAny, dNilsl, dPtr, dMsg, dDest, dSubT, dTlv, dCur, dEntry, oNil, oOne, dAgg])
theorem c6 : CallSound Tryz.prog et 6 s6 := by
 delta s6
 exact pure_man ct9_ok ttOK Tryz.func6 (by kernel_rfl) (LoopsOK.one k6 kk6_5 l6_5) [] (fun ⟨m, _⟩ ha => by
  refine FFun.of (w6 m _) ?_
  have hm : memOK m = true := by simpa using ha
  refine ⟨hm, ?_⟩
  refine ifb_i (fun h => ?_) (fun h => ?_)
  · exact ⟨rfl, rfl⟩
  · have hf : few m = true := by simpa using h
    have hs := few_small hf
    have h1 := cnt_one m
    refine ⟨by simp, by simp, by simp, by simp, by simpa using hs, ?_, rfl⟩
    simp [nzr, nz]
    exact h1)
theorem ct10_ok : CallsOK Tryz.prog et ct10 := (CallsOK.put ct9_ok c6)
end Go.Proofs.Fw
