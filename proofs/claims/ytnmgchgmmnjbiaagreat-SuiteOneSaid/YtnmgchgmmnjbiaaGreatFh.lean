/- Laws of the functions that ask which messages may be, second part. -/
import Derived.Test.YtnmgchgmmnjbiaaGreatFg
import Derived.Test.YtnmgchgmmnjbiaaGreatFd
set_option autoImplicit false
set_option maxHeartbeats 400000
set_option linter.unusedVariables false
set_option linter.unusedSimpArgs false
set_option maxRecDepth 20000
namespace Go.Proofs.Fw
open Go
def a157_2 : LoopAnn := ⟨[(1, none), (2, none), (13, none), (14, none), (15, none)], mkL (dC dPtr (dC dBool (dC oInts (dC dInt (dC dInt dNil))))) (dC dPtr (dC dBool (dC oInts (dC dInt (dC dInt dNil))))) (oOne dMsgC) fun (_, r, l, n, i, _) m => ([decide (0 ≤ i), decide (i ≤ n), decide (n = l.length), decide (n ≤ 1099511627776)], if (l.drop i.toNat).all (fun k => Rb.fits k 2) then .exit 0 else .ret, ((), ((l.drop i.toNat).all (fun k => Rb.fits k 2) && r), l, n, i + stop (fun k => Rb.fits k 2) (l.drop i.toNat), ()), m)⟩
def s157 : FSpec := mkS [.msg] (dC dMsg dNil) fun (m, _) => ([smallM m], .bool (Rb.fieldRight m))
def s156 : FSpec := mkS [.msg] (dC dMsg dNil) fun (m, _) => ([smallM m], .bool (Rb.routeRight m))
def s155 : FSpec := mkS [.msg] (dC dMsg dNil) fun (m, _) => ([smallM m], .bool (Rb.ctxRight m))
noncomputable def ct5 : List (Nat × FSpec) := (157, s157) :: (156, s156) :: (155, s155) :: ct4
end Go.Proofs.Fw

set_option autoImplicit false
set_option maxHeartbeats 400000
set_option linter.unusedVariables false
set_option linter.unusedSimpArgs false
set_option maxRecDepth 20000
namespace Go.Proofs.Fw
open Go
theorem r157_2 (r : Bool) (l : List Int) (n : Int) (i : Int) (m : Msg) (post : FX → List FV → List (List FV) → Prop) : fround tt ct4 [] [(1, none), (2, none), (13, none), (14, none), (15, none)] (loopAt Tryz.f157 2) [.ptr (.arg 0) 0, .bool r, .ownv 0 (.int l), .int .i64 n, .int .i64 i] [(Msg.fv m).cells] post =
  (ifb (decide (i < n))
   ((decide ((0 : Int) ≤ i)) = true ∧
   ((decide (i < (↑l.length : Int))) = true ∧
   (ifb (!Rb.fits (l.getD i.toNat (0 : Int)) (2 : Int))
    (post (FX.ret) ([FV.ptr (Nm.arg (0 : Nat)) (0 : Nat), FV.bool false,   FV.ownv (0 : Nat) (LS.int l), FV.int Go.IntKind.i64 n,   FV.int Go.IntKind.i64 i]) ([[FV.int Go.IntKind.i64 m.kind, FV.int Go.IntKind.i64 m.cmd,     FV.int Go.IntKind.i64 m.ver, FV.str m.auth, FV.int Go.IntKind.i64 m.family,     FV.int Go.IntKind.i64 m.ae, FV.str m.pfx, FV.int Go.IntKind.i64 m.plen,     FV.int Go.IntKind.i64 m.tag, FV.str m.next, FV.int Go.IntKind.i64 m.metric,     FV.str m.id, FV.int Go.IntKind.i64 m.seq, FV.int Go.IntKind.i64 m.seq2,     FV.int Go.IntKind.i64 m.interval, FV.int Go.IntKind.i64 m.flags,     FV.int Go.IntKind.i64 m.hops, FV.int Go.IntKind.i64 m.nonce,     FV.int Go.IntKind.i64 m.cost, FV.str m.addr, FV.str m.orig,     FV.sl (LS.dest m.list), FV.int Go.IntKind.i64 m.type,     FV.str m.data, FV.sl (LS.sub m.subs)]]))
    (post (FX.normal) ([FV.ptr (Nm.arg (0 : Nat)) (0 : Nat), FV.bool r,   FV.ownv (0 : Nat) (LS.int l), FV.int Go.IntKind.i64 n,   FV.int Go.IntKind.i64 (Go.IntKind.i64.wrap (i + (1 : Int)))]) ([[FV.int Go.IntKind.i64 m.kind, FV.int Go.IntKind.i64 m.cmd,     FV.int Go.IntKind.i64 m.ver, FV.str m.auth, FV.int Go.IntKind.i64 m.family,     FV.int Go.IntKind.i64 m.ae, FV.str m.pfx, FV.int Go.IntKind.i64 m.plen,     FV.int Go.IntKind.i64 m.tag, FV.str m.next, FV.int Go.IntKind.i64 m.metric,     FV.str m.id, FV.int Go.IntKind.i64 m.seq, FV.int Go.IntKind.i64 m.seq2,     FV.int Go.IntKind.i64 m.interval, FV.int Go.IntKind.i64 m.flags,     FV.int Go.IntKind.i64 m.hops, FV.int Go.IntKind.i64 m.nonce,     FV.int Go.IntKind.i64 m.cost, FV.str m.addr, FV.str m.orig,     FV.sl (LS.dest m.list), FV.int Go.IntKind.i64 m.type,     FV.str m.data, FV.sl (LS.sub m.subs)]])))))
   (post (FX.exit (0 : Nat)) ([FV.ptr (Nm.arg (0 : Nat)) (0 : Nat), FV.bool r,   FV.ownv (0 : Nat) (LS.int l), FV.int Go.IntKind.i64 n,   FV.int Go.IntKind.i64 i]) ([[FV.int Go.IntKind.i64 m.kind, FV.int Go.IntKind.i64 m.cmd,     FV.int Go.IntKind.i64 m.ver, FV.str m.auth, FV.int Go.IntKind.i64 m.family,     FV.int Go.IntKind.i64 m.ae, FV.str m.pfx, FV.int Go.IntKind.i64 m.plen,     FV.int Go.IntKind.i64 m.tag, FV.str m.next, FV.int Go.IntKind.i64 m.metric,     FV.str m.id, FV.int Go.IntKind.i64 m.seq, FV.int Go.IntKind.i64 m.seq2,     FV.int Go.IntKind.i64 m.interval, FV.int Go.IntKind.i64 m.flags,     FV.int Go.IntKind.i64 m.hops, FV.int Go.IntKind.i64 m.nonce,     FV.int Go.IntKind.i64 m.cost, FV.str m.addr, FV.str m.orig,     FV.sl (LS.dest m.list), FV.int Go.IntKind.i64 m.type,     FV.str m.data, FV.sl (LS.sub m.subs)]]))) := by kernel_rfl
theorem w157a (m : Msg) (post : FV → List (List FV) → Prop) : ffun tt ct4 [(2, fixX (.exit 0) a157_2)] Tryz.f157 [Msg.fv m] [] post =
  (((if         ((List.drop (Int.toNat (0 : Int)) ([m.nonce] ++ ([m.interval] ++ ([m.seq] ++ ([m.cost] ++ []))))).all fun k =>             Rb.fits k (2 : Int)) =           true then       FX.exit (0 : Nat)     else FX.ret).beq   (FX.exit (0 : Nat))) = true ∧
  ((decide ((0 : Int) ≤ (0 : Int))) = true ∧
  ((decide ((0 : Int) ≤ (↑([m.nonce] ++ ([m.interval] ++ ([m.seq] ++ ([m.cost] ++ [])))).length : Int))) = true ∧
  ((decide   ((↑([m.nonce] ++ ([m.interval] ++ ([m.seq] ++ ([m.cost] ++ [])))).length : Int) =     (↑([m.nonce] ++ ([m.interval] ++ ([m.seq] ++ ([m.cost] ++ [])))).length : Int))) = true ∧
  ((decide   ((↑([m.nonce] ++ ([m.interval] ++ ([m.seq] ++ ([m.cost] ++ [])))).length : Int) ≤ (1099511627776 : Int))) = true ∧
  (ifb (!Rb.bare m)
   (post (FV.bool false) ([]))
   ((smallS m.subs) = true ∧
   (ifb (!Rb.subRight m.subs)
    (post (FV.bool false) ([]))
    (ifb (decide (m.kind = (7 : Int)))
     (post (FV.bool true) ([]))
     (ifb (decide (m.kind = (8 : Int)))
      (post (FV.bool true) ([]))
      (ifb (decide (m.kind = (9 : Int)))
       (ifb (decide (m.flags = (0 : Int)))
        (post (FV.bool true) ([]))
        (post (FV.bool (decide (m.flags = (1 : Int)))) ([])))
       (ifb (decide (m.kind = (10 : Int)))
        (post (FV.bool (Rb.addrIn m.ae m.addr)) ([]))
        (post (FV.bool false) ([])))))))))))))) := by kernel_rfl
theorem w157b (m : Msg) (post : FV → List (List FV) → Prop) : ffun tt ct4 [(2, fixX (.ret) a157_2)] Tryz.f157 [Msg.fv m] [] post =
  (((if         ((List.drop (Int.toNat (0 : Int)) ([m.nonce] ++ ([m.interval] ++ ([m.seq] ++ ([m.cost] ++ []))))).all fun k =>             Rb.fits k (2 : Int)) =           true then       FX.exit (0 : Nat)     else FX.ret).beq   FX.ret) = true ∧
  ((decide ((0 : Int) ≤ (0 : Int))) = true ∧
  ((decide ((0 : Int) ≤ (↑([m.nonce] ++ ([m.interval] ++ ([m.seq] ++ ([m.cost] ++ [])))).length : Int))) = true ∧
  ((decide   ((↑([m.nonce] ++ ([m.interval] ++ ([m.seq] ++ ([m.cost] ++ [])))).length : Int) =     (↑([m.nonce] ++ ([m.interval] ++ ([m.seq] ++ ([m.cost] ++ [])))).length : Int))) = true ∧
  ((decide   ((↑([m.nonce] ++ ([m.interval] ++ ([m.seq] ++ ([m.cost] ++ [])))).length : Int) ≤ (1099511627776 : Int))) = true ∧
  (post (FV.bool   (((List.drop (Int.toNat (0 : Int)) ([m.nonce] ++ ([m.interval] ++ ([m.seq] ++ ([m.cost] ++ []))))).all fun k =>       Rb.fits k (2 : Int)) &&     false)) ([]))))))) := by kernel_rfl
theorem k157 : Code.inner (bodyOf Tryz.f157) = [loopAt Tryz.f157 2] := by kernel_rfl
theorem kk157_2 : Code.key (loopAt Tryz.f157 2) = some 2 := by kernel_rfl
theorem l157_2 : LoopSound Tryz.prog et (loopAt Tryz.f157 2) a157_2 := by
 delta a157_2
 exact loop_man ct4_ok ttOK LoopsOK.none (fun (_, r, l, n, i, _) m => (n - i).toNat) (fun ⟨_, r, l, n, i, _⟩ m ha => by
  refine FRound.of (r157_2 r l n i m _) ?_
  simp at ha
  obtain ⟨ha0, ha1, ha2, ha3⟩ := ha
  subst ha2
  refine ifb_i (fun h1 => ?_) (fun h1 => ?_)
  · simp only [decide_eq_true_eq] at h1
    have hd := drop_step (l := l) (i := i) ha0 h1 0
    refine ⟨by simpa using ha0, by simpa using h1, ?_⟩
    generalize l.getD i.toNat 0 = x at hd ⊢
    repeat' (refine ifb_i (fun _ => ?_) (fun _ => ?_))
    all_goals first
      | (have h2 : (fun k => Rb.fits k 2) x = false := by
          clear hd ha0 ha1 ha3 h1
          first
            | (simp_all []; done)
            | (simp [] at *; first | omega | (intros; omega))
         have h3 := all_no (p := fun k => Rb.fits k 2) (x := x) (l := l.drop (i + 1).toNat) h2
         have h4 := stop_no (p := fun k => Rb.fits k 2) (x := x) (l := l.drop (i + 1).toNat) h2
         refine ⟨?_, ?_, rfl⟩
         · dsimp only
           rw [hd, h3]
           rfl
         · dsimp only
           rw [hd, h3, h4]
           simp [dC, dNil, dInt, dU8, dU16, dU32, dStr, dBool, dDests, dSubs, dMsgs, dTlvs, dStrs, dInts, dBytes, oDests, oSubs, oMsgs, oTlvs, oStrs, oInts, oBytes, dAny, dNilsl, dPtr, dMsg, dDest, dSubT, dTlv, dCur, dEntry, oNil, oOne, dAgg]
           done)
      | (have h2 : (fun k => Rb.fits k 2) x = true := by
          clear hd ha0 ha1 ha3 h1
          first
            | (simp_all []; done)
            | (simp [] at *; first | omega | (intros; omega))
         have h3 := all_yes (p := fun k => Rb.fits k 2) (x := x) (l := l.drop (i + 1).toNat) h2
         have h4 := stop_yes (p := fun k => Rb.fits k 2) (x := x) (l := l.drop (i + 1).toNat) h2
         refine ⟨((), r, l, (List.length l : Int), i + 1, ()), m, by rw [i64w (by omega)]; rfl, rfl, ?_, ?_, ?_⟩
         · dsimp only
           omega
         · simp
           omega
         · simp only [hd, h3, h4]
           simp
           omega)
  · simp only [decide_eq_false_iff_not] at h1
    have hd := drop_end (l := l) (i := i) (by omega)
    refine ⟨?_, ?_, rfl⟩
    · dsimp only
      rw [hd]
      rfl
    · dsimp only
      rw [hd]
      simp [stop, dC, dNil, dInt, dU8, dU16, dU32, dStr, dBool, dDests, dSubs, dMsgs, dTlvs, dStrs, dInts, dBytes, oDests, oSubs, oMsgs, oTlvs, oStrs, oInts, oBytes, dAny, dNilsl, dPtr, dMsg, dDest, dSubT, dTlv, dCur, dEntry, oNil, oOne, dAgg])
theorem c157 : CallSound Tryz.prog et 157 s157 := by
 delta s157
 exact pure_any ct4_ok ttOK Tryz.func157 (by kernel_rfl) [] (fun ⟨m, _⟩ ha => by
  have hm : smallM m = true := by simpa using ha
  have hsb : smallS m.subs = true := by simp [smallM] at hm; simp [smallS]; omega
  have hp : m.pfx.length ≤ 1099511627776 := by simp [smallM] at hm; omega
  by_cases hc : (Rb.fits m.nonce 2 && (Rb.fits m.interval 2 && (Rb.fits m.seq 2 && Rb.fits m.cost 2))) = true
  · refine ⟨[(2, fixX (.exit 0) a157_2)], (LoopsOK.one k157 kk157_2 (l157_2.fix (.exit 0))), ?_⟩
    refine FFun.of (w157a m _) ?_
    repeat' (first | (refine ifb_i (fun _ => ?_) (fun _ => ?_)) | (refine And.intro ?_ ?_))
    all_goals first
      | with_reducible rfl
      | (simp only [decide_eq_true_eq]; exact hp)
      | (simp; done)
      | assumption
      | (simp [hc, FX.beq]; done)
      | (simp only [decide_eq_true_eq]; simp [smallM] at hm; omega)
      | (clear hm hp ha; simp_all [nzr, nz, lc0, lc4, lc8, lc16, lc18, lc20, lcg, lcl, Rb.fieldRight]; done)
      | (clear hm hp ha; simp_all [nzr, nz, lc0, lc4, lc8, lc16, lc18, lc20, lcg, lcl, Rb.fieldRight]; omega)
      | (clear hm hp ha; simp_all [nzr, nz, lc0, lc4, lc8, lc16, lc18, lc20, lcg, lcl, Rb.fieldRight]; intros; obtain ⟨x, hx, hx'⟩ := hc; simp_all; done)
  · refine ⟨[(2, fixX (.ret) a157_2)], (LoopsOK.one k157 kk157_2 (l157_2.fix (.ret))), ?_⟩
    refine FFun.of (w157b m _) ?_
    repeat' (first | (refine ifb_i (fun _ => ?_) (fun _ => ?_)) | (refine And.intro ?_ ?_))
    all_goals first
      | with_reducible rfl
      | (simp only [decide_eq_true_eq]; exact hp)
      | (simp; done)
      | assumption
      | (simp [hc, FX.beq]; done)
      | (simp only [decide_eq_true_eq]; simp [smallM] at hm; omega)
      | (clear hm hp ha; simp_all [nzr, nz, lc0, lc4, lc8, lc16, lc18, lc20, lcg, lcl, Rb.fieldRight]; done)
      | (clear hm hp ha; simp_all [nzr, nz, lc0, lc4, lc8, lc16, lc18, lc20, lcg, lcl, Rb.fieldRight]; omega)
      | (clear hm hp ha; simp_all [nzr, nz, lc0, lc4, lc8, lc16, lc18, lc20, lcg, lcl, Rb.fieldRight]; intros; obtain ⟨x, hx, hx'⟩ := hc; simp_all; done)
)
theorem w156 (m : Msg) (post : FV → List (List FV) → Prop) : ffun tt ct4 [] Tryz.f156 [Msg.fv m] [] post =
  (ifb (!Rb.bare m)
   (post (FV.bool false) ([]))
   ((smallS m.subs) = true ∧
   (ifb (!Rb.subRight m.subs)
    (post (FV.bool false) ([]))
    ((decide (List.length m.pfx ≤ (1099511627776 : Nat))) = true ∧
    (ifb (!Rb.routeIn m.ae m.pfx m.plen)
     (post (FV.bool false) ([]))
     (ifb (decide (m.kind = (12 : Int)))
      (post (FV.bool true) ([]))
      (ifb (decide (m.kind = (13 : Int)))
       (ifb (decide (m.ae > (0 : Int)))
        (ifb (Rb.fits m.seq (2 : Int))
         (ifb (decide (m.hops > (0 : Int)))
          (ifb (Rb.fits m.hops (1 : Int))
           (post (FV.bool (decide ((↑(List.length m.id) : Int) = (8 : Int)))) ([]))
           (post (FV.bool false) ([])))
          (post (FV.bool false) ([])))
         (post (FV.bool false) ([])))
        (post (FV.bool false) ([])))
       (post (FV.bool false) ([]))))))))) := by kernel_rfl
theorem c156 : CallSound Tryz.prog et 156 s156 := by
 delta s156
 exact pure_man ct4_ok ttOK Tryz.func156 (by kernel_rfl) LoopsOK.none [] (fun ⟨m, _⟩ ha => by
  refine FFun.of (w156 m _) ?_
  have hm : smallM m = true := by simpa using ha
  have hsb : smallS m.subs = true := by simp [smallM] at hm; simp [smallS]; omega
  have hp : m.pfx.length ≤ 1099511627776 := by simp [smallM] at hm; omega
  have hc : True := trivial
  repeat' (first | (refine ifb_i (fun _ => ?_) (fun _ => ?_)) | (refine And.intro ?_ ?_))
  all_goals first
    | with_reducible rfl
    | (simp only [decide_eq_true_eq]; exact hp)
    | (simp; done)
    | assumption
    | (simp [hc, FX.beq]; done)
    | (simp only [decide_eq_true_eq]; simp [smallM] at hm; omega)
    | (clear hm hp ha; simp_all [nzr, nz, lc0, lc4, lc8, lc16, lc18, lc20, lcg, lcl, Rb.routeRight]; done)
    | (clear hm hp ha; simp_all [nzr, nz, lc0, lc4, lc8, lc16, lc18, lc20, lcg, lcl, Rb.routeRight]; omega)
    | (clear hm hp ha; simp_all [nzr, nz, lc0, lc4, lc8, lc16, lc18, lc20, lcg, lcl, Rb.routeRight]; intros; obtain ⟨x, hx, hx'⟩ := hc; simp_all; done)
)
theorem w155 (m : Msg) (post : FV → List (List FV) → Prop) : ffun tt ct4 [] Tryz.f155 [Msg.fv m] [] post =
  (ifb (!decide (m.kind = (11 : Int)))
   (post (FV.bool false) ([]))
   (ifb (!Rb.bare m)
    (post (FV.bool false) ([]))
    ((smallS m.subs) = true ∧
    (ifb (!Rb.subRight m.subs)
     (post (FV.bool false) ([]))
     ((decide (List.length m.pfx ≤ (1099511627776 : Nat))) = true ∧
     (ifb (!Rb.routeIn m.ae m.pfx m.plen)
      (post (FV.bool false) ([]))
      (ifb (!Rb.fits m.interval (2 : Int))
       (post (FV.bool false) ([]))
       (ifb (!Rb.fits m.seq (2 : Int))
        (post (FV.bool false) ([]))
        (ifb (!Rb.fits m.metric (2 : Int))
         (post (FV.bool false) ([]))
         (ifb (decide (m.metric = (65535 : Int)))
          ((decide (List.length m.id + List.length m.next ≤ (4611686018427387904 : Nat))) = true ∧
          (post (FV.bool (decide (m.id ++ m.next = eB))) ([])))
          (ifb (decide (m.ae > (0 : Int)))
           (ifb (decide ((↑(List.length m.id) : Int) = (8 : Int)))
            (post (FV.bool   (decide (m.next = eB) ||     decide (Rb.family m.next = Rb.famOf m.ae))) ([]))
            (post (FV.bool false) ([])))
           (post (FV.bool false) ([]))))))))))))) := by kernel_rfl
theorem c155 : CallSound Tryz.prog et 155 s155 := by
 delta s155
 exact pure_man ct4_ok ttOK Tryz.func155 (by kernel_rfl) LoopsOK.none [] (fun ⟨m, _⟩ ha => by
  refine FFun.of (w155 m _) ?_
  have hm : smallM m = true := by simpa using ha
  have hsb : smallS m.subs = true := by simp [smallM] at hm; simp [smallS]; omega
  have hp : m.pfx.length ≤ 1099511627776 := by simp [smallM] at hm; omega
  have hc : True := trivial
  repeat' (first | (refine ifb_i (fun _ => ?_) (fun _ => ?_)) | (refine And.intro ?_ ?_))
  all_goals first
    | with_reducible rfl
    | (simp only [decide_eq_true_eq]; exact hp)
    | (simp; done)
    | assumption
    | (simp [hc, FX.beq]; done)
    | (simp only [decide_eq_true_eq]; simp [smallM] at hm; omega)
    | (clear hm hp ha; simp_all [nzr, nz, lc0, lc4, lc8, lc16, lc18, lc20, lcg, lcl, Rb.ctxRight]; done)
    | (clear hm hp ha; simp_all [nzr, nz, lc0, lc4, lc8, lc16, lc18, lc20, lcg, lcl, Rb.ctxRight]; omega)
    | (clear hm hp ha; simp_all [nzr, nz, lc0, lc4, lc8, lc16, lc18, lc20, lcg, lcl, Rb.ctxRight]; intros; obtain ⟨x, hx, hx'⟩ := hc; simp_all; done)
)
theorem ct5_ok : CallsOK Tryz.prog et ct5 := (CallsOK.put (CallsOK.put (CallsOK.put ct4_ok c155) c156) c157)
end Go.Proofs.Fw

set_option autoImplicit false
set_option maxHeartbeats 400000
set_option linter.unusedVariables false
set_option linter.unusedSimpArgs false
set_option maxRecDepth 20000
namespace Go.Proofs.Fw
open Go
def s85 : FSpec := mkS [.msg] (dC dMsg dNil) fun (m, _) => ([smallM m], .bool (Rb.leanRight m))
noncomputable def ct6 : List (Nat × FSpec) := (85, s85) :: ct5
end Go.Proofs.Fw

set_option autoImplicit false
set_option maxHeartbeats 400000
set_option linter.unusedVariables false
set_option linter.unusedSimpArgs false
set_option maxRecDepth 20000
namespace Go.Proofs.Fw
open Go
theorem w85 (m : Msg) (post : FV → List (List FV) → Prop) : ffun tt ct5 [] Tryz.f85 [Msg.fv m] [] post =
  (ifb (decide (m.kind = (11 : Int)))
   ((smallM m) = true ∧
   (post (FV.bool (Rb.ctxRight m)) ([])))
   (ifb (decide (m.kind = (12 : Int)))
    ((smallM m) = true ∧
    (post (FV.bool (Rb.routeRight m)) ([])))
    (ifb (decide (m.kind = (13 : Int)))
     ((smallM m) = true ∧
     (post (FV.bool (Rb.routeRight m)) ([])))
     (ifb (decide (m.kind = (14 : Int)))
      (ifb (Rb.bare m)
       (ifb (decide (m.type > (10 : Int)))
        (ifb (decide (m.type < (256 : Int)))
         (post (FV.bool (decide ((↑(List.length m.data) : Int) < (256 : Int)))) ([]))
         (post (FV.bool false) ([])))
        (post (FV.bool false) ([])))
       (post (FV.bool false) ([])))
      ((smallM m) = true ∧
      (post (FV.bool (Rb.fieldRight m)) ([]))))))) := by kernel_rfl
theorem c85 : CallSound Tryz.prog et 85 s85 := by
 delta s85
 exact pure_man ct5_ok ttOK Tryz.func85 (by kernel_rfl) LoopsOK.none [] (fun ⟨m, _⟩ ha => by
  refine FFun.of (w85 m _) ?_
  have hm : smallM m = true := by simpa using ha
  have hsb : smallS m.subs = true := by simp [smallM] at hm; simp [smallS]; omega
  have hp : m.pfx.length ≤ 1099511627776 := by simp [smallM] at hm; omega
  have hc : True := trivial
  repeat' (first | (refine ifb_i (fun _ => ?_) (fun _ => ?_)) | (refine And.intro ?_ ?_))
  all_goals first
    | with_reducible rfl
    | (simp only [decide_eq_true_eq]; exact hp)
    | (simp; done)
    | assumption
    | (simp [hc, FX.beq]; done)
    | (simp only [decide_eq_true_eq]; simp [smallM] at hm; omega)
    | (clear hm hp ha; simp_all [nzr, nz, lc0, lc4, lc8, lc16, lc18, lc20, lcg, lcl, Rb.leanRight]; done)
    | (clear hm hp ha; simp_all [nzr, nz, lc0, lc4, lc8, lc16, lc18, lc20, lcg, lcl, Rb.leanRight]; omega)
    | (clear hm hp ha; simp_all [nzr, nz, lc0, lc4, lc8, lc16, lc18, lc20, lcg, lcl, Rb.leanRight]; intros; obtain ⟨x, hx, hx'⟩ := hc; simp_all; done)
)
theorem ct6_ok : CallsOK Tryz.prog et ct6 := (CallsOK.put ct5_ok c85)
end Go.Proofs.Fw

set_option autoImplicit false
set_option maxHeartbeats 400000
set_option linter.unusedVariables false
set_option linter.unusedSimpArgs false
set_option maxRecDepth 20000
namespace Go.Proofs.Fw
open Go
def s53_1 : FSpec := mkS [] (dC dInt dNil) fun (p, _) => ([decide (p = 1)], .tup [.agg [.fn 76, .fn 77, .fn 78], .bool true])
def s53_2 : FSpec := mkS [] (dC dInt dNil) fun (p, _) => ([decide (p = 2)], .tup [.agg [.fn 79, .fn 80, .fn 81], .bool true])
def s53_3 : FSpec := mkS [] (dC dInt dNil) fun (p, _) => ([decide (p = 3)], .tup [.agg [.fn 82, .fn 83, .fn 84], .bool true])
def s53_4 : FSpec := mkS [] (dC dInt dNil) fun (p, _) => ([decide (p = 4)], .tup [.agg [.fn 85, .fn 86, .fn 87], .bool true])
def s53_0 : FSpec := mkS [] (dC dInt dNil) fun (p, _) => ([decide (p < 1) || decide (4 < p)], .tup [.agg [.nilfn, .nilfn, .nilfn], .bool false])
noncomputable def ct7_0 : List (Nat × FSpec) := (53, s53_0) :: ct6
noncomputable def ct7_1 : List (Nat × FSpec) := (53, s53_1) :: ct6
noncomputable def ct7_2 : List (Nat × FSpec) := (53, s53_2) :: ct6
noncomputable def ct7_3 : List (Nat × FSpec) := (53, s53_3) :: ct6
noncomputable def ct7_4 : List (Nat × FSpec) := (53, s53_4) :: ct6
def s22 : FSpec := mkS [.id, .msg] (dC dInt (dC dMsg dNil)) fun (p, m, _) => ([smallM m], .bool (Rb.suiteRight p m))
noncomputable def ct7 : List (Nat × FSpec) := (22, s22) :: ct6
end Go.Proofs.Fw

set_option autoImplicit false
set_option maxHeartbeats 400000
set_option linter.unusedVariables false
set_option linter.unusedSimpArgs false
set_option maxRecDepth 20000
namespace Go.Proofs.Fw
open Go
theorem w53 (p : Int) (post : FV → List (List FV) → Prop) : ffun tt ct0 [] Tryz.f53 [.int .i64 p] [] post =
  (ifb (decide (p = (1 : Int)))
   (post (FV.tup   [FV.agg [FV.fn (76 : Nat), FV.fn (77 : Nat), FV.fn (78 : Nat)],     FV.bool true]) ([]))
   (ifb (decide (p = (2 : Int)))
    (post (FV.tup   [FV.agg [FV.fn (79 : Nat), FV.fn (80 : Nat), FV.fn (81 : Nat)],     FV.bool true]) ([]))
    (ifb (decide (p = (3 : Int)))
     (post (FV.tup   [FV.agg [FV.fn (82 : Nat), FV.fn (83 : Nat), FV.fn (84 : Nat)],     FV.bool true]) ([]))
     (ifb (decide (p = (4 : Int)))
      (post (FV.tup   [FV.agg [FV.fn (85 : Nat), FV.fn (86 : Nat), FV.fn (87 : Nat)],     FV.bool true]) ([]))
      (post (FV.tup   [FV.agg [FV.nilfn, FV.nilfn, FV.nilfn],     FV.bool false]) ([])))))) := by kernel_rfl
theorem w22_0 (p : Int) (m : Msg) (post : FV → List (List FV) → Prop) : ffun tt ct7_0 [] Tryz.f22 [.int .i64 p, Msg.fv m] [] post =
  ((decide (p < (1 : Int)) || decide ((4 : Int) < p)) = true ∧
  (post (FV.bool false) ([]))) := by kernel_rfl
theorem w22_1 (p : Int) (m : Msg) (post : FV → List (List FV) → Prop) : ffun tt ct7_1 [] Tryz.f22 [.int .i64 p, Msg.fv m] [] post =
  ((decide (p = (1 : Int))) = true ∧
  ((smallM m) = true ∧
  (post (FV.bool (Rb.ripRight m)) ([])))) := by kernel_rfl
theorem w22_2 (p : Int) (m : Msg) (post : FV → List (List FV) → Prop) : ffun tt ct7_2 [] Tryz.f22 [.int .i64 p, Msg.fv m] [] post =
  ((decide (p = (2 : Int))) = true ∧
  ((smallM m) = true ∧
  (post (FV.bool (Rb.ngRight m)) ([])))) := by kernel_rfl
theorem w22_3 (p : Int) (m : Msg) (post : FV → List (List FV) → Prop) : ffun tt ct7_3 [] Tryz.f22 [.int .i64 p, Msg.fv m] [] post =
  ((decide (p = (3 : Int))) = true ∧
  ((smallM m) = true ∧
  (post (FV.bool (Rb.aodvRight m)) ([])))) := by kernel_rfl
theorem w22_4 (p : Int) (m : Msg) (post : FV → List (List FV) → Prop) : ffun tt ct7_4 [] Tryz.f22 [.int .i64 p, Msg.fv m] [] post =
  ((decide (p = (4 : Int))) = true ∧
  ((smallM m) = true ∧
  (post (FV.bool (Rb.leanRight m)) ([])))) := by kernel_rfl
theorem c53_1 : CallSound Tryz.prog et 53 s53_1 := by
 delta s53_1
 exact pure_man ct0_ok ttOK Tryz.func53 (by kernel_rfl) LoopsOK.none [] (fun ⟨p, _⟩ ha => by
  refine FFun.of (w53 p _) ?_
  have hp : p = 1 := by simpa using ha
  subst hp
  exact ⟨rfl, rfl⟩)
theorem ct7_1_ok : CallsOK Tryz.prog et ct7_1 := CallsOK.put ct6_ok c53_1
theorem c53_2 : CallSound Tryz.prog et 53 s53_2 := by
 delta s53_2
 exact pure_man ct0_ok ttOK Tryz.func53 (by kernel_rfl) LoopsOK.none [] (fun ⟨p, _⟩ ha => by
  refine FFun.of (w53 p _) ?_
  have hp : p = 2 := by simpa using ha
  subst hp
  exact ⟨rfl, rfl⟩)
theorem ct7_2_ok : CallsOK Tryz.prog et ct7_2 := CallsOK.put ct6_ok c53_2
theorem c53_3 : CallSound Tryz.prog et 53 s53_3 := by
 delta s53_3
 exact pure_man ct0_ok ttOK Tryz.func53 (by kernel_rfl) LoopsOK.none [] (fun ⟨p, _⟩ ha => by
  refine FFun.of (w53 p _) ?_
  have hp : p = 3 := by simpa using ha
  subst hp
  exact ⟨rfl, rfl⟩)
theorem ct7_3_ok : CallsOK Tryz.prog et ct7_3 := CallsOK.put ct6_ok c53_3
theorem c53_4 : CallSound Tryz.prog et 53 s53_4 := by
 delta s53_4
 exact pure_man ct0_ok ttOK Tryz.func53 (by kernel_rfl) LoopsOK.none [] (fun ⟨p, _⟩ ha => by
  refine FFun.of (w53 p _) ?_
  have hp : p = 4 := by simpa using ha
  subst hp
  exact ⟨rfl, rfl⟩)
theorem ct7_4_ok : CallsOK Tryz.prog et ct7_4 := CallsOK.put ct6_ok c53_4
theorem c53_0 : CallSound Tryz.prog et 53 s53_0 := by
 delta s53_0
 exact pure_man ct0_ok ttOK Tryz.func53 (by kernel_rfl) LoopsOK.none [] (fun ⟨p, _⟩ ha => by
  refine FFun.of (w53 p _) ?_
  have hp : p < 1 ∨ 4 < p := by simpa using ha
  refine ifb_i (fun h => ?_) (fun _ => ?_)
  · simp at h; omega
  refine ifb_i (fun h => ?_) (fun _ => ?_)
  · simp at h; omega
  refine ifb_i (fun h => ?_) (fun _ => ?_)
  · simp at h; omega
  refine ifb_i (fun h => ?_) (fun _ => ?_)
  · simp at h; omega
  exact ⟨rfl, rfl⟩)
theorem ct7_0_ok : CallsOK Tryz.prog et ct7_0 := CallsOK.put ct6_ok c53_0
theorem c22 : CallSound Tryz.prog et 22 s22 := by
 delta s22
 exact pure_case ttOK Tryz.func22 (by kernel_rfl) [] (fun ⟨p, m, _⟩ ha => by
  have hm : smallM m = true := by simpa using ha
  have h5 : p = 1 ∨ p = 2 ∨ p = 3 ∨ p = 4 ∨ (p < 1 ∨ 4 < p) := by omega
  rcases h5 with rfl | rfl | rfl | rfl | h5
  · refine ⟨ct7_1, [], ct7_1_ok, LoopsOK.none, ?_⟩
    refine FFun.of (w22_1 1 m _) ?_
    repeat' (first | (refine ifb_i (fun _ => ?_) (fun _ => ?_)) | (refine And.intro ?_ ?_))
    all_goals simp_all [nzr, nz, Rb.suiteRight]
  · refine ⟨ct7_2, [], ct7_2_ok, LoopsOK.none, ?_⟩
    refine FFun.of (w22_2 2 m _) ?_
    repeat' (first | (refine ifb_i (fun _ => ?_) (fun _ => ?_)) | (refine And.intro ?_ ?_))
    all_goals simp_all [nzr, nz, Rb.suiteRight]
  · refine ⟨ct7_3, [], ct7_3_ok, LoopsOK.none, ?_⟩
    refine FFun.of (w22_3 3 m _) ?_
    repeat' (first | (refine ifb_i (fun _ => ?_) (fun _ => ?_)) | (refine And.intro ?_ ?_))
    all_goals simp_all [nzr, nz, Rb.suiteRight]
  · refine ⟨ct7_4, [], ct7_4_ok, LoopsOK.none, ?_⟩
    refine FFun.of (w22_4 4 m _) ?_
    repeat' (first | (refine ifb_i (fun _ => ?_) (fun _ => ?_)) | (refine And.intro ?_ ?_))
    all_goals simp_all [nzr, nz, Rb.suiteRight]
  · refine ⟨ct7_0, [], ct7_0_ok, LoopsOK.none, ?_⟩
    refine FFun.of (w22_0 p m _) ?_
    have q1 : ¬ p = 1 := by omega
    have q2 : ¬ p = 2 := by omega
    have q3 : ¬ p = 3 := by omega
    have q4 : ¬ p = 4 := by omega
    repeat' (first | (refine ifb_i (fun _ => ?_) (fun _ => ?_)) | (refine And.intro ?_ ?_))
    all_goals first
      | with_reducible rfl
      | (simp only [nzr, nz, Rb.suiteRight, q1, q2, q3, q4, if_false]; done)
      | (simp; omega))
theorem ct7_ok : CallsOK Tryz.prog et ct7 := CallsOK.put ct6_ok c22
end Go.Proofs.Fw

set_option autoImplicit false
set_option maxHeartbeats 400000
set_option linter.unusedVariables false
set_option linter.unusedSimpArgs false
set_option maxRecDepth 20000
namespace Go.Proofs.Fw
open Go
/-- the guard of the statements -/
def few (m : Msg) : Bool := decide (m.list.length ≤ 300) && decide (m.subs.length ≤ 60) && decide (m.auth.length + m.pfx.length ≤ 200) && decide (m.next.length + m.id.length ≤ 200) && decide (m.addr.length + m.orig.length ≤ 200) && decide (m.data.length ≤ 300) && m.list.all (fun d => decide (d.addr.length ≤ 50)) && m.subs.all (fun s => decide (s.data.length ≤ 300))
theorem few_no {m : Msg} (h : ¬ (m.list.length ≤ 300 ∧ m.subs.length ≤ 60 ∧ m.auth.length + m.pfx.length ≤ 200 ∧ m.next.length + m.id.length ≤ 200 ∧ m.addr.length + m.orig.length ≤ 200 ∧ m.data.length ≤ 300)) : few m = false := by
  cases hf : few m with
  | false => rfl
  | true =>
    simp only [few, Bool.and_eq_true, decide_eq_true_eq] at hf
    exact (h ⟨hf.1.1.1.1.1.1.1, hf.1.1.1.1.1.1.2, hf.1.1.1.1.1.2, hf.1.1.1.1.2, hf.1.1.1.2, hf.1.1.2⟩).elim
theorem few_no1 {m : Msg} (h : ¬ m.list.all (fun d => decide (d.addr.length ≤ 50)) = true) : few m = false := by
  cases hf : few m with
  | false => rfl
  | true =>
    simp only [few, Bool.and_eq_true] at hf
    exact (h hf.1.2).elim
theorem few_no2 {m : Msg} (h : ¬ m.subs.all (fun d => decide (d.data.length ≤ 300)) = true) : few m = false := by
  cases hf : few m with
  | false => rfl
  | true =>
    simp only [few, Bool.and_eq_true] at hf
    exact (h hf.2).elim
theorem few_yes {m : Msg} (h : m.list.length ≤ 300 ∧ m.subs.length ≤ 60 ∧ m.auth.length + m.pfx.length ≤ 200 ∧ m.next.length + m.id.length ≤ 200 ∧ m.addr.length + m.orig.length ≤ 200 ∧ m.data.length ≤ 300)
    (h1 : m.list.all (fun d => decide (d.addr.length ≤ 50)) = true) (h2 : m.subs.all (fun d => decide (d.data.length ≤ 300)) = true) : few m = true := by
  simp only [few, Bool.and_eq_true, decide_eq_true_eq]
  exact ⟨⟨⟨⟨⟨⟨⟨h.1, h.2.1⟩, h.2.2.1⟩, h.2.2.2.1⟩, h.2.2.2.2.1⟩, h.2.2.2.2.2⟩, h1⟩, h2⟩
/-- what lies in memory -/
def memOK (m : Msg) : Bool := decide (m.list.length ≤ 281474976710656) && decide (m.subs.length ≤ 281474976710656) && decide (m.auth.length ≤ 281474976710656) && decide (m.pfx.length ≤ 281474976710656) && decide (m.next.length ≤ 281474976710656) && decide (m.id.length ≤ 281474976710656) && decide (m.addr.length ≤ 281474976710656) && decide (m.orig.length ≤ 281474976710656) && decide (m.data.length ≤ 281474976710656)
def a29_4 : LoopAnn := ⟨[(1, none), (2, none), (3, none)], mkL (dC dPtr (dC dBool (dC dInt dNil))) (dC dPtr (dC dBool (dC dInt dNil))) (oOne dMsgC) fun (_, r, i, _) m => ([decide (0 ≤ i), decide (i ≤ m.list.length), decide (m.list.length ≤ 1099511627776)], if (m.list.drop i.toNat).all (fun d => decide (d.addr.length ≤ 50)) then .exit 0 else .ret, ((), ((m.list.drop i.toNat).all (fun d => decide (d.addr.length ≤ 50)) && r), i + stop (fun d => decide (d.addr.length ≤ 50)) (m.list.drop i.toNat), ()), m)⟩
def a29_9 : LoopAnn := ⟨[(1, none), (2, none), (4, none)], mkL (dC dPtr (dC dBool (dC dInt dNil))) (dC dPtr (dC dBool (dC dInt dNil))) (oOne dMsgC) fun (_, r, i, _) m => ([decide (0 ≤ i), decide (i ≤ m.subs.length), decide (m.subs.length ≤ 1099511627776)], if (m.subs.drop i.toNat).all (fun s => decide (s.data.length ≤ 300)) then .exit 2 else .ret, ((), ((m.subs.drop i.toNat).all (fun s => decide (s.data.length ≤ 300)) && r), i + stop (fun s => decide (s.data.length ≤ 300)) (m.subs.drop i.toNat), ()), m)⟩
def s29 : FSpec := mkS [.msg] (dC dMsg dNil) fun (m, _) => ([memOK m], .bool (few m))
noncomputable def ct8 : List (Nat × FSpec) := (29, s29) :: ct7
end Go.Proofs.Fw

set_option autoImplicit false
set_option maxHeartbeats 400000
set_option linter.unusedVariables false
set_option linter.unusedSimpArgs false
set_option maxRecDepth 20000
namespace Go.Proofs.Fw
open Go
theorem r29_4 (r : Bool) (i : Int) (m : Msg) (post : FX → List FV → List (List FV) → Prop) : fround tt ct7 [] [(1, none), (2, none), (3, none)] (loopAt Tryz.f29 4) [.ptr (.arg 0) 0, .bool r, .int .i64 i] [(Msg.fv m).cells] post =
  (ifb (decide (i < (↑m.list.length : Int)))
   ((decide ((0 : Int) ≤ i)) = true ∧
   ((decide (i < (↑m.list.length : Int))) = true ∧
   (ifb (decide ((↑(List.length (m.list.getD i.toNat Inhabited.default).addr) : Int) > (50 : Int)))
    (post (FX.ret) ([FV.ptr (Nm.arg (0 : Nat)) (0 : Nat), FV.bool false,   FV.int Go.IntKind.i64 i]) ([[FV.int Go.IntKind.i64 m.kind, FV.int Go.IntKind.i64 m.cmd,     FV.int Go.IntKind.i64 m.ver, FV.str m.auth, FV.int Go.IntKind.i64 m.family,     FV.int Go.IntKind.i64 m.ae, FV.str m.pfx, FV.int Go.IntKind.i64 m.plen,     FV.int Go.IntKind.i64 m.tag, FV.str m.next, FV.int Go.IntKind.i64 m.metric,     FV.str m.id, FV.int Go.IntKind.i64 m.seq, FV.int Go.IntKind.i64 m.seq2,     FV.int Go.IntKind.i64 m.interval, FV.int Go.IntKind.i64 m.flags,     FV.int Go.IntKind.i64 m.hops, FV.int Go.IntKind.i64 m.nonce,     FV.int Go.IntKind.i64 m.cost, FV.str m.addr, FV.str m.orig,     FV.sl (LS.dest m.list), FV.int Go.IntKind.i64 m.type,     FV.str m.data, FV.sl (LS.sub m.subs)]]))
    (post (FX.normal) ([FV.ptr (Nm.arg (0 : Nat)) (0 : Nat), FV.bool r,   FV.int Go.IntKind.i64 (Go.IntKind.i64.wrap (i + (1 : Int)))]) ([[FV.int Go.IntKind.i64 m.kind, FV.int Go.IntKind.i64 m.cmd,     FV.int Go.IntKind.i64 m.ver, FV.str m.auth, FV.int Go.IntKind.i64 m.family,     FV.int Go.IntKind.i64 m.ae, FV.str m.pfx, FV.int Go.IntKind.i64 m.plen,     FV.int Go.IntKind.i64 m.tag, FV.str m.next, FV.int Go.IntKind.i64 m.metric,     FV.str m.id, FV.int Go.IntKind.i64 m.seq, FV.int Go.IntKind.i64 m.seq2,     FV.int Go.IntKind.i64 m.interval, FV.int Go.IntKind.i64 m.flags,     FV.int Go.IntKind.i64 m.hops, FV.int Go.IntKind.i64 m.nonce,     FV.int Go.IntKind.i64 m.cost, FV.str m.addr, FV.str m.orig,     FV.sl (LS.dest m.list), FV.int Go.IntKind.i64 m.type,     FV.str m.data, FV.sl (LS.sub m.subs)]])))))
   (post (FX.exit (0 : Nat)) ([FV.ptr (Nm.arg (0 : Nat)) (0 : Nat), FV.bool r,   FV.int Go.IntKind.i64 i]) ([[FV.int Go.IntKind.i64 m.kind, FV.int Go.IntKind.i64 m.cmd,     FV.int Go.IntKind.i64 m.ver, FV.str m.auth, FV.int Go.IntKind.i64 m.family,     FV.int Go.IntKind.i64 m.ae, FV.str m.pfx, FV.int Go.IntKind.i64 m.plen,     FV.int Go.IntKind.i64 m.tag, FV.str m.next, FV.int Go.IntKind.i64 m.metric,     FV.str m.id, FV.int Go.IntKind.i64 m.seq, FV.int Go.IntKind.i64 m.seq2,     FV.int Go.IntKind.i64 m.interval, FV.int Go.IntKind.i64 m.flags,     FV.int Go.IntKind.i64 m.hops, FV.int Go.IntKind.i64 m.nonce,     FV.int Go.IntKind.i64 m.cost, FV.str m.addr, FV.str m.orig,     FV.sl (LS.dest m.list), FV.int Go.IntKind.i64 m.type,     FV.str m.data, FV.sl (LS.sub m.subs)]]))) := by kernel_rfl
theorem r29_9 (r : Bool) (i : Int) (m : Msg) (post : FX → List FV → List (List FV) → Prop) : fround tt ct7 [] [(1, none), (2, none), (4, none)] (loopAt Tryz.f29 9) [.ptr (.arg 0) 0, .bool r, .int .i64 i] [(Msg.fv m).cells] post =
  (ifb (decide (i < (↑m.subs.length : Int)))
   ((decide ((0 : Int) ≤ i)) = true ∧
   ((decide (i < (↑m.subs.length : Int))) = true ∧
   (ifb (decide ((↑(List.length (m.subs.getD i.toNat Inhabited.default).data) : Int) > (300 : Int)))
    (post (FX.ret) ([FV.ptr (Nm.arg (0 : Nat)) (0 : Nat), FV.bool false,   FV.int Go.IntKind.i64 i]) ([[FV.int Go.IntKind.i64 m.kind, FV.int Go.IntKind.i64 m.cmd,     FV.int Go.IntKind.i64 m.ver, FV.str m.auth, FV.int Go.IntKind.i64 m.family,     FV.int Go.IntKind.i64 m.ae, FV.str m.pfx, FV.int Go.IntKind.i64 m.plen,     FV.int Go.IntKind.i64 m.tag, FV.str m.next, FV.int Go.IntKind.i64 m.metric,     FV.str m.id, FV.int Go.IntKind.i64 m.seq, FV.int Go.IntKind.i64 m.seq2,     FV.int Go.IntKind.i64 m.interval, FV.int Go.IntKind.i64 m.flags,     FV.int Go.IntKind.i64 m.hops, FV.int Go.IntKind.i64 m.nonce,     FV.int Go.IntKind.i64 m.cost, FV.str m.addr, FV.str m.orig,     FV.sl (LS.dest m.list), FV.int Go.IntKind.i64 m.type,     FV.str m.data, FV.sl (LS.sub m.subs)]]))
    (post (FX.normal) ([FV.ptr (Nm.arg (0 : Nat)) (0 : Nat), FV.bool r,   FV.int Go.IntKind.i64 (Go.IntKind.i64.wrap (i + (1 : Int)))]) ([[FV.int Go.IntKind.i64 m.kind, FV.int Go.IntKind.i64 m.cmd,     FV.int Go.IntKind.i64 m.ver, FV.str m.auth, FV.int Go.IntKind.i64 m.family,     FV.int Go.IntKind.i64 m.ae, FV.str m.pfx, FV.int Go.IntKind.i64 m.plen,     FV.int Go.IntKind.i64 m.tag, FV.str m.next, FV.int Go.IntKind.i64 m.metric,     FV.str m.id, FV.int Go.IntKind.i64 m.seq, FV.int Go.IntKind.i64 m.seq2,     FV.int Go.IntKind.i64 m.interval, FV.int Go.IntKind.i64 m.flags,     FV.int Go.IntKind.i64 m.hops, FV.int Go.IntKind.i64 m.nonce,     FV.int Go.IntKind.i64 m.cost, FV.str m.addr, FV.str m.orig,     FV.sl (LS.dest m.list), FV.int Go.IntKind.i64 m.type,     FV.str m.data, FV.sl (LS.sub m.subs)]])))))
   (post (FX.exit (2 : Nat)) ([FV.ptr (Nm.arg (0 : Nat)) (0 : Nat), FV.bool r,   FV.int Go.IntKind.i64 i]) ([[FV.int Go.IntKind.i64 m.kind, FV.int Go.IntKind.i64 m.cmd,     FV.int Go.IntKind.i64 m.ver, FV.str m.auth, FV.int Go.IntKind.i64 m.family,     FV.int Go.IntKind.i64 m.ae, FV.str m.pfx, FV.int Go.IntKind.i64 m.plen,     FV.int Go.IntKind.i64 m.tag, FV.str m.next, FV.int Go.IntKind.i64 m.metric,     FV.str m.id, FV.int Go.IntKind.i64 m.seq, FV.int Go.IntKind.i64 m.seq2,     FV.int Go.IntKind.i64 m.interval, FV.int Go.IntKind.i64 m.flags,     FV.int Go.IntKind.i64 m.hops, FV.int Go.IntKind.i64 m.nonce,     FV.int Go.IntKind.i64 m.cost, FV.str m.addr, FV.str m.orig,     FV.sl (LS.dest m.list), FV.int Go.IntKind.i64 m.type,     FV.str m.data, FV.sl (LS.sub m.subs)]]))) := by kernel_rfl
theorem w29a (m : Msg) (post : FV → List (List FV) → Prop) : ffun tt ct7 [(4, fixX (.exit 0) a29_4), (9, fixX (.exit 2) a29_9)] Tryz.f29 [Msg.fv m] [] post =
  (ifb (decide ((↑m.list.length : Int) > (300 : Int)))
   (post (FV.bool false) ([]))
   (ifb (decide ((↑m.subs.length : Int) > (60 : Int)))
    (post (FV.bool false) ([]))
    (ifb (decide (Go.IntKind.i64.wrap ((↑(List.length m.auth) : Int) + (↑(List.length m.pfx) : Int)) > (200 : Int)))
     (post (FV.bool false) ([]))
     (ifb (decide (Go.IntKind.i64.wrap ((↑(List.length m.next) : Int) + (↑(List.length m.id) : Int)) > (200 : Int)))
      (post (FV.bool false) ([]))
      (ifb (decide (Go.IntKind.i64.wrap ((↑(List.length m.addr) : Int) + (↑(List.length m.orig) : Int)) > (200 : Int)))
       (post (FV.bool false) ([]))
       (ifb (decide ((↑(List.length m.data) : Int) > (300 : Int)))
        (post (FV.bool false) ([]))
        (((if         ((List.drop (Int.toNat (0 : Int)) m.list).all fun d => decide (List.length d.addr ≤ (50 : Nat))) =           true then       FX.exit (0 : Nat)     else FX.ret).beq   (FX.exit (0 : Nat))) = true ∧
        ((decide ((0 : Int) ≤ (0 : Int))) = true ∧
        ((decide ((0 : Int) ≤ (↑m.list.length : Int))) = true ∧
        ((decide (m.list.length ≤ (1099511627776 : Nat))) = true ∧
        (((if         ((List.drop (Int.toNat (0 : Int)) m.subs).all fun s => decide (List.length s.data ≤ (300 : Nat))) =           true then       FX.exit (2 : Nat)     else FX.ret).beq   (FX.exit (2 : Nat))) = true ∧
        ((decide ((0 : Int) ≤ (0 : Int))) = true ∧
        ((decide ((0 : Int) ≤ (↑m.subs.length : Int))) = true ∧
        ((decide (m.subs.length ≤ (1099511627776 : Nat))) = true ∧
        (post (FV.bool true) ([])))))))))))))))) := by kernel_rfl
theorem w29b (m : Msg) (post : FV → List (List FV) → Prop) : ffun tt ct7 [(4, fixX (.exit 0) a29_4), (9, fixX (.ret) a29_9)] Tryz.f29 [Msg.fv m] [] post =
  (ifb (decide ((↑m.list.length : Int) > (300 : Int)))
   (post (FV.bool false) ([]))
   (ifb (decide ((↑m.subs.length : Int) > (60 : Int)))
    (post (FV.bool false) ([]))
    (ifb (decide (Go.IntKind.i64.wrap ((↑(List.length m.auth) : Int) + (↑(List.length m.pfx) : Int)) > (200 : Int)))
     (post (FV.bool false) ([]))
     (ifb (decide (Go.IntKind.i64.wrap ((↑(List.length m.next) : Int) + (↑(List.length m.id) : Int)) > (200 : Int)))
      (post (FV.bool false) ([]))
      (ifb (decide (Go.IntKind.i64.wrap ((↑(List.length m.addr) : Int) + (↑(List.length m.orig) : Int)) > (200 : Int)))
       (post (FV.bool false) ([]))
       (ifb (decide ((↑(List.length m.data) : Int) > (300 : Int)))
        (post (FV.bool false) ([]))
        (((if         ((List.drop (Int.toNat (0 : Int)) m.list).all fun d => decide (List.length d.addr ≤ (50 : Nat))) =           true then       FX.exit (0 : Nat)     else FX.ret).beq   (FX.exit (0 : Nat))) = true ∧
        ((decide ((0 : Int) ≤ (0 : Int))) = true ∧
        ((decide ((0 : Int) ≤ (↑m.list.length : Int))) = true ∧
        ((decide (m.list.length ≤ (1099511627776 : Nat))) = true ∧
        (((if         ((List.drop (Int.toNat (0 : Int)) m.subs).all fun s => decide (List.length s.data ≤ (300 : Nat))) =           true then       FX.exit (2 : Nat)     else FX.ret).beq   FX.ret) = true ∧
        ((decide ((0 : Int) ≤ (0 : Int))) = true ∧
        ((decide ((0 : Int) ≤ (↑m.subs.length : Int))) = true ∧
        ((decide (m.subs.length ≤ (1099511627776 : Nat))) = true ∧
        (post (FV.bool   (((List.drop (Int.toNat (0 : Int)) m.subs).all fun s => decide (List.length s.data ≤ (300 : Nat))) &&     (((List.drop (Int.toNat (0 : Int)) m.list).all fun d => decide (List.length d.addr ≤ (50 : Nat))) &&       false))) ([])))))))))))))))) := by kernel_rfl
theorem w29c (m : Msg) (post : FV → List (List FV) → Prop) : ffun tt ct7 [(4, fixX (.ret) a29_4), (9, a29_9)] Tryz.f29 [Msg.fv m] [] post =
  (ifb (decide ((↑m.list.length : Int) > (300 : Int)))
   (post (FV.bool false) ([]))
   (ifb (decide ((↑m.subs.length : Int) > (60 : Int)))
    (post (FV.bool false) ([]))
    (ifb (decide (Go.IntKind.i64.wrap ((↑(List.length m.auth) : Int) + (↑(List.length m.pfx) : Int)) > (200 : Int)))
     (post (FV.bool false) ([]))
     (ifb (decide (Go.IntKind.i64.wrap ((↑(List.length m.next) : Int) + (↑(List.length m.id) : Int)) > (200 : Int)))
      (post (FV.bool false) ([]))
      (ifb (decide (Go.IntKind.i64.wrap ((↑(List.length m.addr) : Int) + (↑(List.length m.orig) : Int)) > (200 : Int)))
       (post (FV.bool false) ([]))
       (ifb (decide ((↑(List.length m.data) : Int) > (300 : Int)))
        (post (FV.bool false) ([]))
        (((if         ((List.drop (Int.toNat (0 : Int)) m.list).all fun d => decide (List.length d.addr ≤ (50 : Nat))) =           true then       FX.exit (0 : Nat)     else FX.ret).beq   FX.ret) = true ∧
        ((decide ((0 : Int) ≤ (0 : Int))) = true ∧
        ((decide ((0 : Int) ≤ (↑m.list.length : Int))) = true ∧
        ((decide (m.list.length ≤ (1099511627776 : Nat))) = true ∧
        (post (FV.bool   (((List.drop (Int.toNat (0 : Int)) m.list).all fun d => decide (List.length d.addr ≤ (50 : Nat))) &&     false)) ([])))))))))))) := by kernel_rfl
theorem k29 : Code.inner (bodyOf Tryz.f29) = [loopAt Tryz.f29 4, loopAt Tryz.f29 9] := by kernel_rfl
theorem kk29_4 : Code.key (loopAt Tryz.f29 4) = some 4 := by kernel_rfl
theorem kk29_9 : Code.key (loopAt Tryz.f29 9) = some 9 := by kernel_rfl
theorem l29_4 : LoopSound Tryz.prog et (loopAt Tryz.f29 4) a29_4 := by
 delta a29_4
 exact loop_man ct7_ok ttOK LoopsOK.none (fun (_, r, i, _) m => (m.list.length - i).toNat) (fun ⟨_, r, i, _⟩ m ha => by
  refine FRound.of (r29_4 r i m _) ?_
  simp at ha
  obtain ⟨ha0, ha1, ha3⟩ := ha
  refine ifb_i (fun h1 => ?_) (fun h1 => ?_)
  · simp only [decide_eq_true_eq] at h1
    have hd := drop_step (l := m.list) (i := i) ha0 h1 default
    refine ⟨by simpa using ha0, by simpa using h1, ?_⟩
    generalize m.list.getD i.toNat default = x at hd ⊢
    repeat' (refine ifb_i (fun _ => ?_) (fun _ => ?_))
    all_goals first
      | (have h2 : (fun d => decide (d.addr.length ≤ 50)) x = false := by
          clear hd ha0 ha1 ha3 h1
          first
            | (simp_all [Int.not_lt]; done)
            | (simp [Int.not_lt] at *; first | omega | (intros; omega))
         have h3 := all_no (p := fun d => decide (d.addr.length ≤ 50)) (x := x) (l := m.list.drop (i + 1).toNat) h2
         have h4 := stop_no (p := fun d => decide (d.addr.length ≤ 50)) (x := x) (l := m.list.drop (i + 1).toNat) h2
         refine ⟨?_, ?_, rfl⟩
         · dsimp only
           rw [hd, h3]
           rfl
         · dsimp only
           rw [hd, h3, h4]
           simp [dC, dNil, dInt, dU8, dU16, dU32, dStr, dBool, dDests, dSubs, dMsgs, dTlvs, dStrs, dInts, dBytes, oDests, oSubs, oMsgs, oTlvs, oStrs, oInts, oBytes, dAny, dNilsl, dPtr, dMsg, dDest, dSubT, dTlv, dCur, dEntry, oNil, oOne, dAgg]
           done)
      | (have h2 : (fun d => decide (d.addr.length ≤ 50)) x = true := by
          clear hd ha0 ha1 ha3 h1
          first
            | (simp_all [Int.not_lt]; done)
            | (simp [Int.not_lt] at *; first | omega | (intros; omega))
         have h3 := all_yes (p := fun d => decide (d.addr.length ≤ 50)) (x := x) (l := m.list.drop (i + 1).toNat) h2
         have h4 := stop_yes (p := fun d => decide (d.addr.length ≤ 50)) (x := x) (l := m.list.drop (i + 1).toNat) h2
         refine ⟨((), r, i + 1, ()), m, by rw [i64w (by omega)]; rfl, rfl, ?_, ?_, ?_⟩
         · dsimp only
           omega
         · simp
           omega
         · simp only [hd, h3, h4]
           simp
           omega)
  · simp only [decide_eq_false_iff_not] at h1
    have hd := drop_end (l := m.list) (i := i) (by omega)
    refine ⟨?_, ?_, rfl⟩
    · dsimp only
      rw [hd]
      rfl
    · dsimp only
      rw [hd]
      simp [stop, dC, dNil, dInt, dU8, dU16, dU32, dStr, dBool, dDests, dSubs, dMsgs, dTlvs, dStrs, dInts, dBytes, oDests, oSubs, oMsgs, oTlvs, oStrs, oInts, oBytes, dAny, dNilsl, dPtr, dMsg, dDest, dSubT, dTlv, dCur, dEntry, oNil, oOne, dAgg])
theorem l29_9 : LoopSound Tryz.prog et (loopAt Tryz.f29 9) a29_9 := by
 delta a29_9
 exact loop_man ct7_ok ttOK LoopsOK.none (fun (_, r, i, _) m => (m.subs.length - i).toNat) (fun ⟨_, r, i, _⟩ m ha => by
  refine FRound.of (r29_9 r i m _) ?_
  simp at ha
  obtain ⟨ha0, ha1, ha3⟩ := ha
  refine ifb_i (fun h1 => ?_) (fun h1 => ?_)
  · simp only [decide_eq_true_eq] at h1
    have hd := drop_step (l := m.subs) (i := i) ha0 h1 default
    refine ⟨by simpa using ha0, by simpa using h1, ?_⟩
    generalize m.subs.getD i.toNat default = x at hd ⊢
    repeat' (refine ifb_i (fun _ => ?_) (fun _ => ?_))
    all_goals first
      | (have h2 : (fun s => decide (s.data.length ≤ 300)) x = false := by
          clear hd ha0 ha1 ha3 h1
          first
            | (simp_all [Int.not_lt]; done)
            | (simp [Int.not_lt] at *; first | omega | (intros; omega))
         have h3 := all_no (p := fun s => decide (s.data.length ≤ 300)) (x := x) (l := m.subs.drop (i + 1).toNat) h2
         have h4 := stop_no (p := fun s => decide (s.data.length ≤ 300)) (x := x) (l := m.subs.drop (i + 1).toNat) h2
         refine ⟨?_, ?_, rfl⟩
         · dsimp only
           rw [hd, h3]
           rfl
         · dsimp only
           rw [hd, h3, h4]
           simp [dC, dNil, dInt, dU8, dU16, dU32, dStr, dBool, dDests, dSubs, dMsgs, dTlvs, dStrs, dInts, dBytes, oDests, oSubs, oMsgs, oTlvs, oStrs, oInts, oBytes, dAny, dNilsl, dPtr, dMsg, dDest, dSubT, dTlv, dCur, dEntry, oNil, oOne, dAgg]
           done)
      | (have h2 : (fun s => decide (s.data.length ≤ 300)) x = true := by
          clear hd ha0 ha1 ha3 h1
          first
            | (simp_all [Int.not_lt]; done)
            | (simp [Int.not_lt] at *; first | omega | (intros; omega))
         have h3 := all_yes (p := fun s => decide (s.data.length ≤ 300)) (x := x) (l := m.subs.drop (i + 1).toNat) h2
         have h4 := stop_yes (p := fun s => decide (s.data.length ≤ 300)) (x := x) (l := m.subs.drop (i + 1).toNat) h2
         refine ⟨((), r, i + 1, ()), m, by rw [i64w (by omega)]; rfl, rfl, ?_, ?_, ?_⟩
         · dsimp only
           omega
         · simp
           omega
         · simp only [hd, h3, h4]
           simp
           omega)
  · simp only [decide_eq_false_iff_not] at h1
    have hd := drop_end (l := m.subs) (i := i) (by omega)
    refine ⟨?_, ?_, rfl⟩
    · dsimp only
      rw [hd]
      rfl
    · dsimp only
      rw [hd]
      simp [stop, dC, dNil, dInt, dU8, dU16, dU32, dStr, dBool, dDests, dSubs, dMsgs, dTlvs, dStrs, dInts, dBytes, oDests, oSubs, oMsgs, oTlvs, oStrs, oInts, oBytes, dAny, dNilsl, dPtr, dMsg, dDest, dSubT, dTlv, dCur, dEntry, oNil, oOne, dAgg])
theorem c29 : CallSound Tryz.prog et 29 s29 := by
 delta s29
 exact pure_any ct7_ok ttOK Tryz.func29 (by kernel_rfl) [] (fun ⟨m, _⟩ ha => by
  simp [memOK] at ha
  obtain ⟨⟨⟨⟨⟨⟨⟨⟨hl1, hl2⟩, hl3⟩, hl4⟩, hl5⟩, hl6⟩, hl7⟩, hl8⟩, hl9⟩ := ha
  have ha : True := trivial
  have e1 : Go.IntKind.i64.wrap ((m.auth.length : Int) + (m.pfx.length : Int)) = (m.auth.length : Int) + (m.pfx.length : Int) := i64w (by omega)
  have e2 : Go.IntKind.i64.wrap ((m.next.length : Int) + (m.id.length : Int)) = (m.next.length : Int) + (m.id.length : Int) := i64w (by omega)
  have e3 : Go.IntKind.i64.wrap ((m.addr.length : Int) + (m.orig.length : Int)) = (m.addr.length : Int) + (m.orig.length : Int) := i64w (by omega)
  by_cases hc : m.list.all (fun d => decide (d.addr.length ≤ 50)) = true
  · by_cases hc2 : m.subs.all (fun s => decide (s.data.length ≤ 300)) = true
    · refine ⟨[(4, fixX (.exit 0) a29_4), (9, fixX (.exit 2) a29_9)], (LoopsOK.two k29 kk29_4 kk29_9 rfl (l29_4.fix (.exit 0)) (l29_9.fix (.exit 2))), ?_⟩
      refine FFun.of (w29a m _) ?_
      rw [e1, e2, e3]
      repeat' (first | (refine ifb_i (fun _ => ?_) (fun _ => ?_)) | (refine And.intro ?_ ?_))
      all_goals clear e1 e2 e3
      all_goals first
        | with_reducible rfl
        | (simp [hc, hc2, FX.beq]; done)
        | (simp only [decide_eq_true_eq, decide_eq_false_iff_not] at *; omega)
        | (have hf : few m = true := few_yes (by simp only [decide_eq_true_eq, decide_eq_false_iff_not] at *; omega) hc hc2
           show FV.bool true = FV.bool (few m)
           rw [hf])
        | (have hf : few m = false := few_no (by simp only [decide_eq_true_eq, decide_eq_false_iff_not] at *; omega)
           show FV.bool false = FV.bool (few m)
           rw [hf])
        | (have hf : few m = false := few_no2 hc2
           have hq := Bool.eq_false_iff.2 hc2
           simp [nzr, nz, hf, hq]
           done)
        | (have hf : few m = false := few_no1 hc
           have hq := Bool.eq_false_iff.2 hc
           simp [nzr, nz, hf, hq]
           done)
    · refine ⟨[(4, fixX (.exit 0) a29_4), (9, fixX (.ret) a29_9)], (LoopsOK.two k29 kk29_4 kk29_9 rfl (l29_4.fix (.exit 0)) (l29_9.fix (.ret))), ?_⟩
      refine FFun.of (w29b m _) ?_
      rw [e1, e2, e3]
      repeat' (first | (refine ifb_i (fun _ => ?_) (fun _ => ?_)) | (refine And.intro ?_ ?_))
      all_goals clear e1 e2 e3
      all_goals first
        | with_reducible rfl
        | (simp [hc, hc2, FX.beq]; done)
        | (simp only [decide_eq_true_eq, decide_eq_false_iff_not] at *; omega)
        | (have hf : few m = true := few_yes (by simp only [decide_eq_true_eq, decide_eq_false_iff_not] at *; omega) hc hc2
           show FV.bool true = FV.bool (few m)
           rw [hf])
        | (have hf : few m = false := few_no (by simp only [decide_eq_true_eq, decide_eq_false_iff_not] at *; omega)
           show FV.bool false = FV.bool (few m)
           rw [hf])
        | (have hf : few m = false := few_no2 hc2
           have hq := Bool.eq_false_iff.2 hc2
           simp [nzr, nz, hf, hq]
           done)
        | (have hf : few m = false := few_no1 hc
           have hq := Bool.eq_false_iff.2 hc
           simp [nzr, nz, hf, hq]
           done)
  · have hc2 : True := trivial
    refine ⟨[(4, fixX (.ret) a29_4), (9, a29_9)], (LoopsOK.two k29 kk29_4 kk29_9 rfl (l29_4.fix (.ret)) l29_9), ?_⟩
    refine FFun.of (w29c m _) ?_
    rw [e1, e2, e3]
    repeat' (first | (refine ifb_i (fun _ => ?_) (fun _ => ?_)) | (refine And.intro ?_ ?_))
    all_goals clear e1 e2 e3
    all_goals first
      | with_reducible rfl
      | (simp [hc, hc2, FX.beq]; done)
      | (simp only [decide_eq_true_eq, decide_eq_false_iff_not] at *; omega)
      | (have hf : few m = true := few_yes (by simp only [decide_eq_true_eq, decide_eq_false_iff_not] at *; omega) hc hc2
         show FV.bool true = FV.bool (few m)
         rw [hf])
      | (have hf : few m = false := few_no (by simp only [decide_eq_true_eq, decide_eq_false_iff_not] at *; omega)
         show FV.bool false = FV.bool (few m)
         rw [hf])
      | (have hf : few m = false := few_no2 hc2
         have hq := Bool.eq_false_iff.2 hc2
         simp [nzr, nz, hf, hq]
         done)
      | (have hf : few m = false := few_no1 hc
         have hq := Bool.eq_false_iff.2 hc
         simp [nzr, nz, hf, hq]
         done)
      )
theorem ct8_ok : CallsOK Tryz.prog et ct8 := (CallsOK.put ct7_ok c29)
end Go.Proofs.Fw

set_option autoImplicit false
set_option maxHeartbeats 400000
set_option linter.unusedVariables false
set_option linter.unusedSimpArgs false
set_option maxRecDepth 20000
namespace Go.Proofs.Fw
open Go
/-- 'awake' of a law: it is true -/
def sAw : FSpec := fun xs objs => match xs, objs with
  | [], [] => some ([], .bool true, [])
  | _, _ => none
/-- how many protocols from a place on -/
def cnt (m : Msg) : Nat → Int → Int
  | 0, _ => 0
  | k + 1, p => (if Rb.suiteRight p m then 1 else 0) + cnt m k (p + 1)
noncomputable def ct9 : List (Nat × FSpec) := (21, sAw) :: ct8
end Go.Proofs.Fw

set_option autoImplicit false
set_option maxHeartbeats 400000
set_option linter.unusedVariables false
set_option linter.unusedSimpArgs false
set_option maxRecDepth 20000
namespace Go.Proofs.Fw
open Go
theorem CallSound.weak {P : Program} {et : LTag → TypeId} {g : Nat} {s s' : FSpec} (h : CallSound P et g s') (hs : ∀ xs objs r, s xs objs = some r → s' xs objs = some r) : CallSound P et g s :=
  ⟨h.enters, fun xs objs asks r objs' e => h.calls xs objs asks r objs' (hs _ _ _ e)⟩
theorem look_awake : look tab135 21 = some (vfun tt tab134 [] 2000 Tryz.f21) := rfl
theorem aw_21 : vfun tt tab134 [] 2000 Tryz.f21 [] [] = some ([], .bool true, []) := by kernel_rfl
theorem c21 : CallSound Tryz.prog et 21 sAw := CallSound.weak (tabOK135 21 _ look_awake) fun xs objs r h => by
  unfold sAw at h
  split at h
  · cases h; exact aw_21
  · cases h
theorem ct9_ok : CallsOK Tryz.prog et ct9 := CallsOK.put ct8_ok c21
end Go.Proofs.Fw
