/- Laws of the functions that ask which messages may be, first part. -/
import Derived.Test.YtnmgchgmmnjbiaaGreatFf
set_option autoImplicit false
set_option maxHeartbeats 400000
set_option linter.unusedVariables false
set_option linter.unusedSimpArgs false
set_option maxRecDepth 20000
namespace Go.Proofs.Fw
open Go
def s143 : FSpec := mkS [] (dC dStr dNil) fun (a, _) => ([], .bool (Rb.link a))
def s134 : FSpec := mkS [] (dC dStr (dC dInt dNil)) fun (a, p, _) => ([], .bool (Rb.prefixRight a p))
def a148_4 : LoopAnn := ⟨[(1, none), (2, none), (41, none), (42, none), (43, none)], mkL (dC dPtr (dC dBool (dC oInts (dC dInt (dC dInt dNil))))) (dC dPtr (dC dBool (dC oInts (dC dInt (dC dInt dNil))))) (oOne dMsgC) fun (_, r, l, n, i, _) m => ([decide (0 ≤ i), decide (i ≤ n), decide (n = l.length), decide (n ≤ 1099511627776)], if (l.drop i.toNat).all (fun k => Rb.fits k 4) then .exit 0 else .ret, ((), ((l.drop i.toNat).all (fun k => Rb.fits k 4) && r), l, n, i + stop (fun k => Rb.fits k 4) (l.drop i.toNat), ()), m)⟩
def s148 : FSpec := mkS [.msg] (dC dMsg dNil) fun (m, _) => ([smallM m], .bool (Rb.rreqRight m))
def s149 : FSpec := mkS [.msg] (dC dMsg dNil) fun (m, _) => ([smallM m], .bool (Rb.rrepRight m))
def a150_4 : LoopAnn := ⟨[(1, none), (2, none), (36, none), (37, none), (38, none)], mkL (dC dPtr (dC dBool (dC dDests (dC dInt (dC dInt dNil))))) (dC dPtr (dC dBool (dC dDests (dC dInt (dC dInt dNil))))) (oOne dMsgC) fun (_, r, l, n, i, _) m => ([decide (0 ≤ i), decide (i ≤ n), decide (n = l.length), decide (n ≤ 1099511627776)], if (l.drop i.toNat).all (Rb.destOK) then .exit 0 else .ret, ((), ((l.drop i.toNat).all (Rb.destOK) && r), l, n, i + stop (Rb.destOK) (l.drop i.toNat), ()), m)⟩
def s150 : FSpec := mkS [.msg] (dC dMsg dNil) fun (m, _) => ([smallM m], .bool (Rb.rerrRight m))
noncomputable def ct3 : List (Nat × FSpec) := (143, s143) :: (134, s134) :: (148, s148) :: (149, s149) :: (150, s150) :: ct2
end Go.Proofs.Fw

set_option autoImplicit false
set_option maxHeartbeats 400000
set_option linter.unusedVariables false
set_option linter.unusedSimpArgs false
set_option maxRecDepth 20000
namespace Go.Proofs.Fw
open Go
theorem w143 (a : Bytes) (post : FV → List (List FV) → Prop) : ffun tt ct2 [] Tryz.f143 [.str a] [] post =
  (ifb (decide ((↑(List.length a) : Int) = (16 : Int)))
   (post (FV.bool   (hasPre a     [(254 : UInt8), (128 : UInt8), (0 : UInt8), (0 : UInt8), (0 : UInt8), (0 : UInt8), (0 : UInt8), (0 : UInt8)])) ([]))
   (post (FV.bool false) ([]))) := by kernel_rfl
theorem c143 : CallSound Tryz.prog et 143 s143 := by
 delta s143
 exact pure_man ct2_ok ttOK Tryz.func143 (by kernel_rfl) LoopsOK.none [] (fun ⟨a, _⟩ ha => by
  refine FFun.of (w143 a _) ?_
  repeat' (first | (refine ifb_i (fun _ => ?_) (fun _ => ?_)) | (refine And.intro ?_ ?_))
  all_goals simp_all [nzr, nz, Rb.link, hasPre, Rb.linkP, lc16]
  all_goals (rw [Bool.eq_iff_iff, decide_eq_true_eq]; exact ⟨fun h => decide_eq_true h, fun h => of_decide_eq_true h⟩))
theorem w134 (a : Bytes) (p : Int) (post : FV → List (List FV) → Prop) : ffun tt ct2 [] Tryz.f134 [.str a, .int .i64 p] [] post =
  (ifb (decide ((↑(List.length a) : Int) = (4 : Int)))
   (ifb (decide (p ≥ (0 : Int)))
    (ifb (decide (p ≤ Go.IntKind.i64.wrap ((8 : Int) * (↑(List.length a) : Int))))
     ((decide (List.length a ≤ (1099511627776 : Nat))) = true ∧
     (post (FV.bool (Rb.clean a p)) ([])))
     (post (FV.bool false) ([])))
    (post (FV.bool false) ([])))
   (ifb (decide ((↑(List.length a) : Int) = (16 : Int)))
    (ifb (decide (p ≥ (0 : Int)))
     (ifb (decide (p ≤ Go.IntKind.i64.wrap ((8 : Int) * (↑(List.length a) : Int))))
      ((decide (List.length a ≤ (1099511627776 : Nat))) = true ∧
      (post (FV.bool (Rb.clean a p)) ([])))
      (post (FV.bool false) ([])))
     (post (FV.bool false) ([])))
    (post (FV.bool false) ([])))) := by kernel_rfl
theorem c134 : CallSound Tryz.prog et 134 s134 := by
 delta s134
 exact pure_man ct2_ok ttOK Tryz.func134 (by kernel_rfl) LoopsOK.none [] (fun ⟨a, p, _⟩ ha => by
  refine FFun.of (w134 a p _) ?_
  have e : ∀ k : Nat, k ≤ 16 → Go.IntKind.i64.wrap ((8 : Int) * (k : Int)) = 8 * (k : Int) := fun k hk => i64w (by omega)
  refine ifb_i (fun h1 => ?_) (fun h1 => ?_)
  · simp only [decide_eq_true_eq] at h1
    have h4 : a.length = 4 := by omega
    rw [e _ (by omega)]
    repeat' (first | (refine ifb_i (fun _ => ?_) (fun _ => ?_)) | (refine And.intro ?_ ?_))
    all_goals simp_all [nzr, nz, Rb.prefixRight]
    all_goals omega
  · simp only [decide_eq_false_iff_not] at h1
    refine ifb_i (fun h2 => ?_) (fun h2 => ?_)
    · simp only [decide_eq_true_eq] at h2
      have h4 : a.length = 16 := by omega
      rw [e _ (by omega)]
      repeat' (first | (refine ifb_i (fun _ => ?_) (fun _ => ?_)) | (refine And.intro ?_ ?_))
      all_goals simp_all [nzr, nz, Rb.prefixRight]
      all_goals omega
    · simp only [decide_eq_false_iff_not] at h2
      have h4 : ¬ a.length = 4 := by omega
      have h5 : ¬ a.length = 16 := by omega
      simp [nzr, nz, Rb.prefixRight, h4, h5])
theorem r148_4 (r : Bool) (l : List Int) (n : Int) (i : Int) (m : Msg) (post : FX → List FV → List (List FV) → Prop) : fround tt ct2 [] [(1, none), (2, none), (41, none), (42, none), (43, none)] (loopAt Tryz.f148 4) [.ptr (.arg 0) 0, .bool r, .ownv 0 (.int l), .int .i64 n, .int .i64 i] [(Msg.fv m).cells] post =
  (ifb (decide (i < n))
   ((decide ((0 : Int) ≤ i)) = true ∧
   ((decide (i < (↑l.length : Int))) = true ∧
   (ifb (!Rb.fits (l.getD i.toNat (0 : Int)) (4 : Int))
    (post (FX.ret) ([FV.ptr (Nm.arg (0 : Nat)) (0 : Nat), FV.bool false,   FV.ownv (0 : Nat) (LS.int l), FV.int Go.IntKind.i64 n,   FV.int Go.IntKind.i64 i]) ([[FV.int Go.IntKind.i64 m.kind, FV.int Go.IntKind.i64 m.cmd,     FV.int Go.IntKind.i64 m.ver, FV.str m.auth, FV.int Go.IntKind.i64 m.family,     FV.int Go.IntKind.i64 m.ae, FV.str m.pfx, FV.int Go.IntKind.i64 m.plen,     FV.int Go.IntKind.i64 m.tag, FV.str m.next, FV.int Go.IntKind.i64 m.metric,     FV.str m.id, FV.int Go.IntKind.i64 m.seq, FV.int Go.IntKind.i64 m.seq2,     FV.int Go.IntKind.i64 m.interval, FV.int Go.IntKind.i64 m.flags,     FV.int Go.IntKind.i64 m.hops, FV.int Go.IntKind.i64 m.nonce,     FV.int Go.IntKind.i64 m.cost, FV.str m.addr, FV.str m.orig,     FV.sl (LS.dest m.list), FV.int Go.IntKind.i64 m.type,     FV.str m.data, FV.sl (LS.sub m.subs)]]))
    (post (FX.normal) ([FV.ptr (Nm.arg (0 : Nat)) (0 : Nat), FV.bool r,   FV.ownv (0 : Nat) (LS.int l), FV.int Go.IntKind.i64 n,   FV.int Go.IntKind.i64 (Go.IntKind.i64.wrap (i + (1 : Int)))]) ([[FV.int Go.IntKind.i64 m.kind, FV.int Go.IntKind.i64 m.cmd,     FV.int Go.IntKind.i64 m.ver, FV.str m.auth, FV.int Go.IntKind.i64 m.family,     FV.int Go.IntKind.i64 m.ae, FV.str m.pfx, FV.int Go.IntKind.i64 m.plen,     FV.int Go.IntKind.i64 m.tag, FV.str m.next, FV.int Go.IntKind.i64 m.metric,     FV.str m.id, FV.int Go.IntKind.i64 m.seq, FV.int Go.IntKind.i64 m.seq2,     FV.int Go.IntKind.i64 m.interval, FV.int Go.IntKind.i64 m.flags,     FV.int Go.IntKind.i64 m.hops, FV.int Go.IntKind.i64 m.nonce,     FV.int Go.IntKind.i64 m.cost, FV.str m.addr, FV.str m.orig,     FV.sl (LS.dest m.list), FV.int Go.IntKind.i64 m.type,     FV.str m.data, FV.sl (LS.sub m.subs)]])))))
   (post (FX.exit (0 : Nat)) ([FV.ptr (Nm.arg (0 : Nat)) (0 : Nat), FV.bool r,   FV.ownv (0 : Nat) (LS.int l), FV.int Go.IntKind.i64 n,   FV.int Go.IntKind.i64 i]) ([[FV.int Go.IntKind.i64 m.kind, FV.int Go.IntKind.i64 m.cmd,     FV.int Go.IntKind.i64 m.ver, FV.str m.auth, FV.int Go.IntKind.i64 m.family,     FV.int Go.IntKind.i64 m.ae, FV.str m.pfx, FV.int Go.IntKind.i64 m.plen,     FV.int Go.IntKind.i64 m.tag, FV.str m.next, FV.int Go.IntKind.i64 m.metric,     FV.str m.id, FV.int Go.IntKind.i64 m.seq, FV.int Go.IntKind.i64 m.seq2,     FV.int Go.IntKind.i64 m.interval, FV.int Go.IntKind.i64 m.flags,     FV.int Go.IntKind.i64 m.hops, FV.int Go.IntKind.i64 m.nonce,     FV.int Go.IntKind.i64 m.cost, FV.str m.addr, FV.str m.orig,     FV.sl (LS.dest m.list), FV.int Go.IntKind.i64 m.type,     FV.str m.data, FV.sl (LS.sub m.subs)]]))) := by kernel_rfl
theorem w148a (m : Msg) (post : FV → List (List FV) → Prop) : ffun tt ct2 [(4, fixX (.exit 0) a148_4)] Tryz.f148 [Msg.fv m] [] post =
  (ifb (!decide (m.kind = (3 : Int)))
   (post (FV.bool false) ([]))
   (ifb (!Rb.bare m)
    (post (FV.bool false) ([]))
    (ifb (decide (m.flags < (0 : Int)))
     (post (FV.bool false) ([]))
     (ifb (decide (m.flags > (31 : Int)))
      (post (FV.bool false) ([]))
      (ifb (!decide ((↑(List.length m.addr) : Int) = (4 : Int)))
       (post (FV.bool false) ([]))
       (ifb (!decide ((↑(List.length m.orig) : Int) = (4 : Int)))
        (post (FV.bool false) ([]))
        (((if         ((List.drop (Int.toNat (0 : Int)) ([m.nonce] ++ ([m.seq] ++ ([m.seq2] ++ [])))).all fun k =>             Rb.fits k (4 : Int)) =           true then       FX.exit (0 : Nat)     else FX.ret).beq   (FX.exit (0 : Nat))) = true ∧
        ((decide ((0 : Int) ≤ (0 : Int))) = true ∧
        ((decide ((0 : Int) ≤ (↑([m.nonce] ++ ([m.seq] ++ ([m.seq2] ++ []))).length : Int))) = true ∧
        ((decide   ((↑([m.nonce] ++ ([m.seq] ++ ([m.seq2] ++ []))).length : Int) =     (↑([m.nonce] ++ ([m.seq] ++ ([m.seq2] ++ []))).length : Int))) = true ∧
        ((decide ((↑([m.nonce] ++ ([m.seq] ++ ([m.seq2] ++ []))).length : Int) ≤ (1099511627776 : Int))) = true ∧
        (ifb (Rb.fits m.hops (1 : Int))
         ((decide (m.subs.length ≤ (1099511627776 : Nat))) = true ∧
         (post (FV.bool (Rb.extRight m.subs)) ([])))
         (post (FV.bool false) ([])))))))))))))) := by kernel_rfl
theorem w148b (m : Msg) (post : FV → List (List FV) → Prop) : ffun tt ct2 [(4, fixX (.ret) a148_4)] Tryz.f148 [Msg.fv m] [] post =
  (ifb (!decide (m.kind = (3 : Int)))
   (post (FV.bool false) ([]))
   (ifb (!Rb.bare m)
    (post (FV.bool false) ([]))
    (ifb (decide (m.flags < (0 : Int)))
     (post (FV.bool false) ([]))
     (ifb (decide (m.flags > (31 : Int)))
      (post (FV.bool false) ([]))
      (ifb (!decide ((↑(List.length m.addr) : Int) = (4 : Int)))
       (post (FV.bool false) ([]))
       (ifb (!decide ((↑(List.length m.orig) : Int) = (4 : Int)))
        (post (FV.bool false) ([]))
        (((if         ((List.drop (Int.toNat (0 : Int)) ([m.nonce] ++ ([m.seq] ++ ([m.seq2] ++ [])))).all fun k =>             Rb.fits k (4 : Int)) =           true then       FX.exit (0 : Nat)     else FX.ret).beq   FX.ret) = true ∧
        ((decide ((0 : Int) ≤ (0 : Int))) = true ∧
        ((decide ((0 : Int) ≤ (↑([m.nonce] ++ ([m.seq] ++ ([m.seq2] ++ []))).length : Int))) = true ∧
        ((decide   ((↑([m.nonce] ++ ([m.seq] ++ ([m.seq2] ++ []))).length : Int) =     (↑([m.nonce] ++ ([m.seq] ++ ([m.seq2] ++ []))).length : Int))) = true ∧
        ((decide ((↑([m.nonce] ++ ([m.seq] ++ ([m.seq2] ++ []))).length : Int) ≤ (1099511627776 : Int))) = true ∧
        (post (FV.bool   (((List.drop (Int.toNat (0 : Int)) ([m.nonce] ++ ([m.seq] ++ ([m.seq2] ++ [])))).all fun k =>       Rb.fits k (4 : Int)) &&     false)) ([]))))))))))))) := by kernel_rfl
theorem k148 : Code.inner (bodyOf Tryz.f148) = [loopAt Tryz.f148 4] := by kernel_rfl
theorem kk148_4 : Code.key (loopAt Tryz.f148 4) = some 4 := by kernel_rfl
theorem l148_4 : LoopSound Tryz.prog et (loopAt Tryz.f148 4) a148_4 := by
 delta a148_4
 exact loop_man ct2_ok ttOK LoopsOK.none (fun (_, r, l, n, i, _) m => (n - i).toNat) (fun ⟨_, r, l, n, i, _⟩ m ha => by
  refine FRound.of (r148_4 r l n i m _) ?_
  simp at ha
  obtain ⟨ha0, ha1, ha2, ha3⟩ := ha
  subst ha2
  refine ifb_i (fun h1 => ?_) (fun h1 => ?_)
  · simp only [decide_eq_true_eq] at h1
    have hd := drop_step (l := l) (i := i) ha0 h1 0
    refine ⟨by simpa using ha0, by simpa using h1, ?_⟩
    generalize l.getD i.toNat 0 = x at hd ⊢
    repeat' (refine ifb_i (fun _ => ?_) (fun _ => ?_))
    all_goals first
      | (have h2 : (fun k => Rb.fits k 4) x = false := by
          clear hd ha0 ha1 ha3 h1
          first
            | (simp_all []; done)
            | (simp [] at *; first | omega | (intros; omega))
         have h3 := all_no (p := fun k => Rb.fits k 4) (x := x) (l := l.drop (i + 1).toNat) h2
         have h4 := stop_no (p := fun k => Rb.fits k 4) (x := x) (l := l.drop (i + 1).toNat) h2
         refine ⟨?_, ?_, rfl⟩
         · dsimp only
           rw [hd, h3]
           rfl
         · dsimp only
           rw [hd, h3, h4]
           simp [dC, dNil, dInt, dU8, dU16, dU32, dStr, dBool, dDests, dSubs, dMsgs, dTlvs, dStrs, dInts, dBytes, oDests, oSubs, oMsgs, oTlvs, oStrs, oInts, oBytes, dAny, dNilsl, dPtr, dMsg, dDest, dSubT, dTlv, dCur, dEntry, oNil, oOne, dAgg]
           done)
      | (have h2 : (fun k => Rb.fits k 4) x = true := by
          clear hd ha0 ha1 ha3 h1
          first
            | (simp_all []; done)
            | (simp [] at *; first | omega | (intros; omega))
         have h3 := all_yes (p := fun k => Rb.fits k 4) (x := x) (l := l.drop (i + 1).toNat) h2
         have h4 := stop_yes (p := fun k => Rb.fits k 4) (x := x) (l := l.drop (i + 1).toNat) h2
         refine ⟨((), r, l, (List.length l : Int), i + 1, ()), m, by rw [i64w (by omega)]; rfl, rfl, ?_, ?_, ?_⟩
         · dsimp only
           omega
         · simp
           omega
         · simp only [hd, h3, h4]
           simp
           omega)
  · simp only [decide_eq_false_iff_not] at h1
    have hd := drop_end (l := l) (i := i) (by omega)
    refine ⟨?_, ?_, rfl⟩
    · dsimp only
      rw [hd]
      rfl
    · dsimp only
      rw [hd]
      simp [stop, dC, dNil, dInt, dU8, dU16, dU32, dStr, dBool, dDests, dSubs, dMsgs, dTlvs, dStrs, dInts, dBytes, oDests, oSubs, oMsgs, oTlvs, oStrs, oInts, oBytes, dAny, dNilsl, dPtr, dMsg, dDest, dSubT, dTlv, dCur, dEntry, oNil, oOne, dAgg])
theorem c148 : CallSound Tryz.prog et 148 s148 := by
 delta s148
 exact pure_any ct2_ok ttOK Tryz.func148 (by kernel_rfl) [] (fun ⟨m, _⟩ ha => by
  have hs := subs_len m.subs
  simp [smallM] at ha
  by_cases hc : [m.nonce, m.seq, m.seq2].all (fun k => Rb.fits k 4) = true
  · refine ⟨[(4, fixX (.exit 0) a148_4)], (LoopsOK.one k148 kk148_4 (l148_4.fix (.exit 0))), ?_⟩
    refine FFun.of (w148a m _) ?_
    repeat' (first | (refine ifb_i (fun _ => ?_) (fun _ => ?_)) | (refine And.intro ?_ ?_))
    all_goals first
      | with_reducible rfl
      | (simp only [decide_eq_true_eq] at *; omega)
      | (simp [hc, FX.beq]; done)
      | (clear hs ha; simp_all [nzr, nz, lc0, lc4, lc8, lc16, lc18, lc20, lcg, lcl, Rb.rreqRight]; done)
      | (clear hs ha; simp_all [nzr, nz, lc0, lc4, lc8, lc16, lc18, lc20, lcg, lcl, Rb.rreqRight]; omega)
      | (clear hs ha; simp_all [nzr, nz, lc0, lc4, lc8, lc16, lc18, lc20, lcg, lcl, Rb.rreqRight]; intro hh; obtain ⟨x, hx, hx'⟩ := hc; simp [hh x hx] at hx'; done)
  · refine ⟨[(4, fixX (.ret) a148_4)], (LoopsOK.one k148 kk148_4 (l148_4.fix (.ret))), ?_⟩
    refine FFun.of (w148b m _) ?_
    repeat' (first | (refine ifb_i (fun _ => ?_) (fun _ => ?_)) | (refine And.intro ?_ ?_))
    all_goals first
      | with_reducible rfl
      | (simp only [decide_eq_true_eq] at *; omega)
      | (simp [hc, FX.beq]; done)
      | (clear hs ha; simp_all [nzr, nz, lc0, lc4, lc8, lc16, lc18, lc20, lcg, lcl, Rb.rreqRight]; done)
      | (clear hs ha; simp_all [nzr, nz, lc0, lc4, lc8, lc16, lc18, lc20, lcg, lcl, Rb.rreqRight]; omega)
      | (clear hs ha; simp_all [nzr, nz, lc0, lc4, lc8, lc16, lc18, lc20, lcg, lcl, Rb.rreqRight]; intro hh; obtain ⟨x, hx, hx'⟩ := hc; simp [hh x hx] at hx'; done))
theorem w149 (m : Msg) (post : FV → List (List FV) → Prop) : ffun tt ct2 [] Tryz.f149 [Msg.fv m] [] post =
  (ifb (!Rb.bare m)
   (post (FV.bool false) ([]))
   ((decide (m.subs.length ≤ (1099511627776 : Nat))) = true ∧
   (ifb (!Rb.extRight m.subs)
    (post (FV.bool false) ([]))
    (ifb (decide (m.kind = (6 : Int)))
     (post (FV.bool true) ([]))
     (ifb (decide (m.kind = (4 : Int)))
      (ifb (decide (m.flags ≥ (0 : Int)))
       (ifb (decide (m.flags < (4 : Int)))
        (ifb (decide (m.plen ≥ (0 : Int)))
         (ifb (decide (m.plen < (32 : Int)))
          (ifb (Rb.fits m.hops (1 : Int))
           (ifb (Rb.fits m.seq (4 : Int))
            (ifb (Rb.fits m.interval (4 : Int))
             (ifb (decide ((↑(List.length m.addr) : Int) = (4 : Int)))
              (post (FV.bool (decide ((↑(List.length m.orig) : Int) = (4 : Int)))) ([]))
              (post (FV.bool false) ([])))
             (post (FV.bool false) ([])))
            (post (FV.bool false) ([])))
           (post (FV.bool false) ([])))
          (post (FV.bool false) ([])))
         (post (FV.bool false) ([])))
        (post (FV.bool false) ([])))
       (post (FV.bool false) ([])))
      (post (FV.bool false) ([]))))))) := by kernel_rfl
theorem c149 : CallSound Tryz.prog et 149 s149 := by
 delta s149
 exact pure_man ct2_ok ttOK Tryz.func149 (by kernel_rfl) LoopsOK.none [] (fun ⟨m, _⟩ ha => by
  refine FFun.of (w149 m _) ?_
  have hs := subs_len m.subs
  simp [smallM] at ha
  have hc : True := trivial
  repeat' (first | (refine ifb_i (fun _ => ?_) (fun _ => ?_)) | (refine And.intro ?_ ?_))
  all_goals first
    | with_reducible rfl
    | (simp only [decide_eq_true_eq] at *; omega)
    | (simp [hc, FX.beq]; done)
    | (clear hs ha; simp_all [nzr, nz, lc0, lc4, lc8, lc16, lc18, lc20, lcg, lcl, Rb.rrepRight]; done)
    | (clear hs ha; simp_all [nzr, nz, lc0, lc4, lc8, lc16, lc18, lc20, lcg, lcl, Rb.rrepRight]; omega)
    | (clear hs ha; simp_all [nzr, nz, lc0, lc4, lc8, lc16, lc18, lc20, lcg, lcl, Rb.rrepRight]; intro hh; obtain ⟨x, hx, hx'⟩ := hc; simp [hh x hx] at hx'; done))
theorem r150_4 (r : Bool) (l : List Dest) (n : Int) (i : Int) (m : Msg) (post : FX → List FV → List (List FV) → Prop) : fround tt ct2 [] [(1, none), (2, none), (36, none), (37, none), (38, none)] (loopAt Tryz.f150 4) [.ptr (.arg 0) 0, .bool r, .sl (.dest l), .int .i64 n, .int .i64 i] [(Msg.fv m).cells] post =
  (ifb (decide (i < n))
   ((decide ((0 : Int) ≤ i)) = true ∧
   ((decide (i < (↑l.length : Int))) = true ∧
   (ifb (!decide ((↑(List.length (l.getD i.toNat Inhabited.default).addr) : Int) = (4 : Int)))
    (post (FX.ret) ([FV.ptr (Nm.arg (0 : Nat)) (0 : Nat), FV.bool false,   FV.sl (LS.dest l), FV.int Go.IntKind.i64 n,   FV.int Go.IntKind.i64 i]) ([[FV.int Go.IntKind.i64 m.kind, FV.int Go.IntKind.i64 m.cmd,     FV.int Go.IntKind.i64 m.ver, FV.str m.auth, FV.int Go.IntKind.i64 m.family,     FV.int Go.IntKind.i64 m.ae, FV.str m.pfx, FV.int Go.IntKind.i64 m.plen,     FV.int Go.IntKind.i64 m.tag, FV.str m.next, FV.int Go.IntKind.i64 m.metric,     FV.str m.id, FV.int Go.IntKind.i64 m.seq, FV.int Go.IntKind.i64 m.seq2,     FV.int Go.IntKind.i64 m.interval, FV.int Go.IntKind.i64 m.flags,     FV.int Go.IntKind.i64 m.hops, FV.int Go.IntKind.i64 m.nonce,     FV.int Go.IntKind.i64 m.cost, FV.str m.addr, FV.str m.orig,     FV.sl (LS.dest m.list), FV.int Go.IntKind.i64 m.type,     FV.str m.data, FV.sl (LS.sub m.subs)]]))
    (ifb (!Rb.fits (l.getD i.toNat Inhabited.default).seq (4 : Int))
     (post (FX.ret) ([FV.ptr (Nm.arg (0 : Nat)) (0 : Nat), FV.bool false,   FV.sl (LS.dest l), FV.int Go.IntKind.i64 n,   FV.int Go.IntKind.i64 i]) ([[FV.int Go.IntKind.i64 m.kind, FV.int Go.IntKind.i64 m.cmd,     FV.int Go.IntKind.i64 m.ver, FV.str m.auth, FV.int Go.IntKind.i64 m.family,     FV.int Go.IntKind.i64 m.ae, FV.str m.pfx, FV.int Go.IntKind.i64 m.plen,     FV.int Go.IntKind.i64 m.tag, FV.str m.next, FV.int Go.IntKind.i64 m.metric,     FV.str m.id, FV.int Go.IntKind.i64 m.seq, FV.int Go.IntKind.i64 m.seq2,     FV.int Go.IntKind.i64 m.interval, FV.int Go.IntKind.i64 m.flags,     FV.int Go.IntKind.i64 m.hops, FV.int Go.IntKind.i64 m.nonce,     FV.int Go.IntKind.i64 m.cost, FV.str m.addr, FV.str m.orig,     FV.sl (LS.dest m.list), FV.int Go.IntKind.i64 m.type,     FV.str m.data, FV.sl (LS.sub m.subs)]]))
     (post (FX.normal) ([FV.ptr (Nm.arg (0 : Nat)) (0 : Nat), FV.bool r,   FV.sl (LS.dest l), FV.int Go.IntKind.i64 n,   FV.int Go.IntKind.i64 (Go.IntKind.i64.wrap (i + (1 : Int)))]) ([[FV.int Go.IntKind.i64 m.kind, FV.int Go.IntKind.i64 m.cmd,     FV.int Go.IntKind.i64 m.ver, FV.str m.auth, FV.int Go.IntKind.i64 m.family,     FV.int Go.IntKind.i64 m.ae, FV.str m.pfx, FV.int Go.IntKind.i64 m.plen,     FV.int Go.IntKind.i64 m.tag, FV.str m.next, FV.int Go.IntKind.i64 m.metric,     FV.str m.id, FV.int Go.IntKind.i64 m.seq, FV.int Go.IntKind.i64 m.seq2,     FV.int Go.IntKind.i64 m.interval, FV.int Go.IntKind.i64 m.flags,     FV.int Go.IntKind.i64 m.hops, FV.int Go.IntKind.i64 m.nonce,     FV.int Go.IntKind.i64 m.cost, FV.str m.addr, FV.str m.orig,     FV.sl (LS.dest m.list), FV.int Go.IntKind.i64 m.type,     FV.str m.data, FV.sl (LS.sub m.subs)]]))))))
   (post (FX.exit (0 : Nat)) ([FV.ptr (Nm.arg (0 : Nat)) (0 : Nat), FV.bool r,   FV.sl (LS.dest l), FV.int Go.IntKind.i64 n,   FV.int Go.IntKind.i64 i]) ([[FV.int Go.IntKind.i64 m.kind, FV.int Go.IntKind.i64 m.cmd,     FV.int Go.IntKind.i64 m.ver, FV.str m.auth, FV.int Go.IntKind.i64 m.family,     FV.int Go.IntKind.i64 m.ae, FV.str m.pfx, FV.int Go.IntKind.i64 m.plen,     FV.int Go.IntKind.i64 m.tag, FV.str m.next, FV.int Go.IntKind.i64 m.metric,     FV.str m.id, FV.int Go.IntKind.i64 m.seq, FV.int Go.IntKind.i64 m.seq2,     FV.int Go.IntKind.i64 m.interval, FV.int Go.IntKind.i64 m.flags,     FV.int Go.IntKind.i64 m.hops, FV.int Go.IntKind.i64 m.nonce,     FV.int Go.IntKind.i64 m.cost, FV.str m.addr, FV.str m.orig,     FV.sl (LS.dest m.list), FV.int Go.IntKind.i64 m.type,     FV.str m.data, FV.sl (LS.sub m.subs)]]))) := by kernel_rfl
theorem w150a (m : Msg) (post : FV → List (List FV) → Prop) : ffun tt ct2 [(4, fixX (.exit 0) a150_4)] Tryz.f150 [Msg.fv m] [] post =
  (ifb (!decide (m.kind = (5 : Int)))
   (post (FV.bool false) ([]))
   (ifb (!Rb.bare m)
    (post (FV.bool false) ([]))
    (ifb (!decide (m.flags = (0 : Int)))
     (ifb (!decide (m.flags = (1 : Int)))
      (post (FV.bool false) ([]))
      (ifb (decide ((↑m.list.length : Int) = (0 : Int)))
       (post (FV.bool false) ([]))
       (ifb (decide ((↑m.list.length : Int) > (255 : Int)))
        (post (FV.bool false) ([]))
        (((if (List.drop (Int.toNat (0 : Int)) m.list).all Rb.destOK = true then FX.exit (0 : Nat)     else FX.ret).beq   (FX.exit (0 : Nat))) = true ∧
        ((decide ((0 : Int) ≤ (0 : Int))) = true ∧
        ((decide ((0 : Int) ≤ (↑m.list.length : Int))) = true ∧
        ((decide ((↑m.list.length : Int) = (↑m.list.length : Int))) = true ∧
        ((decide ((↑m.list.length : Int) ≤ (1099511627776 : Int))) = true ∧
        ((decide (m.subs.length ≤ (1099511627776 : Nat))) = true ∧
        (post (FV.bool (Rb.extRight m.subs)) ([])))))))))))
     (ifb (decide ((↑m.list.length : Int) = (0 : Int)))
      (post (FV.bool false) ([]))
      (ifb (decide ((↑m.list.length : Int) > (255 : Int)))
       (post (FV.bool false) ([]))
       (((if (List.drop (Int.toNat (0 : Int)) m.list).all Rb.destOK = true then FX.exit (0 : Nat)     else FX.ret).beq   (FX.exit (0 : Nat))) = true ∧
       ((decide ((0 : Int) ≤ (0 : Int))) = true ∧
       ((decide ((0 : Int) ≤ (↑m.list.length : Int))) = true ∧
       ((decide ((↑m.list.length : Int) = (↑m.list.length : Int))) = true ∧
       ((decide ((↑m.list.length : Int) ≤ (1099511627776 : Int))) = true ∧
       ((decide (m.subs.length ≤ (1099511627776 : Nat))) = true ∧
       (post (FV.bool (Rb.extRight m.subs)) ([]))))))))))))) := by kernel_rfl
theorem w150b (m : Msg) (post : FV → List (List FV) → Prop) : ffun tt ct2 [(4, fixX (.ret) a150_4)] Tryz.f150 [Msg.fv m] [] post =
  (ifb (!decide (m.kind = (5 : Int)))
   (post (FV.bool false) ([]))
   (ifb (!Rb.bare m)
    (post (FV.bool false) ([]))
    (ifb (!decide (m.flags = (0 : Int)))
     (ifb (!decide (m.flags = (1 : Int)))
      (post (FV.bool false) ([]))
      (ifb (decide ((↑m.list.length : Int) = (0 : Int)))
       (post (FV.bool false) ([]))
       (ifb (decide ((↑m.list.length : Int) > (255 : Int)))
        (post (FV.bool false) ([]))
        (((if (List.drop (Int.toNat (0 : Int)) m.list).all Rb.destOK = true then FX.exit (0 : Nat)     else FX.ret).beq   FX.ret) = true ∧
        ((decide ((0 : Int) ≤ (0 : Int))) = true ∧
        ((decide ((0 : Int) ≤ (↑m.list.length : Int))) = true ∧
        ((decide ((↑m.list.length : Int) = (↑m.list.length : Int))) = true ∧
        ((decide ((↑m.list.length : Int) ≤ (1099511627776 : Int))) = true ∧
        (post (FV.bool ((List.drop (Int.toNat (0 : Int)) m.list).all Rb.destOK && false)) ([]))))))))))
     (ifb (decide ((↑m.list.length : Int) = (0 : Int)))
      (post (FV.bool false) ([]))
      (ifb (decide ((↑m.list.length : Int) > (255 : Int)))
       (post (FV.bool false) ([]))
       (((if (List.drop (Int.toNat (0 : Int)) m.list).all Rb.destOK = true then FX.exit (0 : Nat)     else FX.ret).beq   FX.ret) = true ∧
       ((decide ((0 : Int) ≤ (0 : Int))) = true ∧
       ((decide ((0 : Int) ≤ (↑m.list.length : Int))) = true ∧
       ((decide ((↑m.list.length : Int) = (↑m.list.length : Int))) = true ∧
       ((decide ((↑m.list.length : Int) ≤ (1099511627776 : Int))) = true ∧
       (post (FV.bool ((List.drop (Int.toNat (0 : Int)) m.list).all Rb.destOK && false)) ([])))))))))))) := by kernel_rfl
theorem k150 : Code.inner (bodyOf Tryz.f150) = [loopAt Tryz.f150 4] := by kernel_rfl
theorem kk150_4 : Code.key (loopAt Tryz.f150 4) = some 4 := by kernel_rfl
theorem l150_4 : LoopSound Tryz.prog et (loopAt Tryz.f150 4) a150_4 := by
 delta a150_4
 exact loop_man ct2_ok ttOK LoopsOK.none (fun (_, r, l, n, i, _) m => (n - i).toNat) (fun ⟨_, r, l, n, i, _⟩ m ha => by
  refine FRound.of (r150_4 r l n i m _) ?_
  simp at ha
  obtain ⟨ha0, ha1, ha2, ha3⟩ := ha
  subst ha2
  refine ifb_i (fun h1 => ?_) (fun h1 => ?_)
  · simp only [decide_eq_true_eq] at h1
    have hd := drop_step (l := l) (i := i) ha0 h1 default
    refine ⟨by simpa using ha0, by simpa using h1, ?_⟩
    generalize l.getD i.toNat default = x at hd ⊢
    repeat' (refine ifb_i (fun _ => ?_) (fun _ => ?_))
    all_goals first
      | (have h2 : (Rb.destOK) x = false := by
          clear hd ha0 ha1 ha3 h1
          first
            | (simp_all [Rb.destOK, lc4]; done)
            | (simp [Rb.destOK, lc4] at *; first | omega | (intros; omega))
         have h3 := all_no (p := Rb.destOK) (x := x) (l := l.drop (i + 1).toNat) h2
         have h4 := stop_no (p := Rb.destOK) (x := x) (l := l.drop (i + 1).toNat) h2
         refine ⟨?_, ?_, rfl⟩
         · dsimp only
           rw [hd, h3]
           rfl
         · dsimp only
           rw [hd, h3, h4]
           simp [dC, dNil, dInt, dU8, dU16, dU32, dStr, dBool, dDests, dSubs, dMsgs, dTlvs, dStrs, dInts, dBytes, oDests, oSubs, oMsgs, oTlvs, oStrs, oInts, oBytes, dAny, dNilsl, dPtr, dMsg, dDest, dSubT, dTlv, dCur, dEntry, oNil, oOne, dAgg]
           done)
      | (have h2 : (Rb.destOK) x = true := by
          clear hd ha0 ha1 ha3 h1
          first
            | (simp_all [Rb.destOK, lc4]; done)
            | (simp [Rb.destOK, lc4] at *; first | omega | (intros; omega))
         have h3 := all_yes (p := Rb.destOK) (x := x) (l := l.drop (i + 1).toNat) h2
         have h4 := stop_yes (p := Rb.destOK) (x := x) (l := l.drop (i + 1).toNat) h2
         refine ⟨((), r, l, (List.length l : Int), i + 1, ()), m, by rw [i64w (by omega)]; rfl, rfl, ?_, ?_, ?_⟩
         · dsimp only
           omega
         · simp
           omega
         · simp only [hd, h3, h4]
           simp
           omega)
  · simp only [decide_eq_false_iff_not] at h1
    have hd := drop_end (l := l) (i := i) (by omega)
    refine ⟨?_, ?_, rfl⟩
    · dsimp only
      rw [hd]
      rfl
    · dsimp only
      rw [hd]
      simp [stop, dC, dNil, dInt, dU8, dU16, dU32, dStr, dBool, dDests, dSubs, dMsgs, dTlvs, dStrs, dInts, dBytes, oDests, oSubs, oMsgs, oTlvs, oStrs, oInts, oBytes, dAny, dNilsl, dPtr, dMsg, dDest, dSubT, dTlv, dCur, dEntry, oNil, oOne, dAgg])
theorem c150 : CallSound Tryz.prog et 150 s150 := by
 delta s150
 exact pure_any ct2_ok ttOK Tryz.func150 (by kernel_rfl) [] (fun ⟨m, _⟩ ha => by
  have hs := subs_len m.subs
  simp [smallM] at ha
  by_cases hc : m.list.all Rb.destOK = true
  · refine ⟨[(4, fixX (.exit 0) a150_4)], (LoopsOK.one k150 kk150_4 (l150_4.fix (.exit 0))), ?_⟩
    refine FFun.of (w150a m _) ?_
    repeat' (first | (refine ifb_i (fun _ => ?_) (fun _ => ?_)) | (refine And.intro ?_ ?_))
    all_goals first
      | with_reducible rfl
      | (simp only [decide_eq_true_eq] at *; omega)
      | (simp [hc, FX.beq]; done)
      | (clear hs ha; simp_all [nzr, nz, lc0, lc4, lc8, lc16, lc18, lc20, lcg, lcl, Rb.rerrRight]; done)
      | (clear hs ha; simp_all [nzr, nz, lc0, lc4, lc8, lc16, lc18, lc20, lcg, lcl, Rb.rerrRight]; omega)
      | (clear hs ha; simp_all [nzr, nz, lc0, lc4, lc8, lc16, lc18, lc20, lcg, lcl, Rb.rerrRight]; intro hh; obtain ⟨x, hx, hx'⟩ := hc; simp [hh x hx] at hx'; done)
  · refine ⟨[(4, fixX (.ret) a150_4)], (LoopsOK.one k150 kk150_4 (l150_4.fix (.ret))), ?_⟩
    refine FFun.of (w150b m _) ?_
    repeat' (first | (refine ifb_i (fun _ => ?_) (fun _ => ?_)) | (refine And.intro ?_ ?_))
    all_goals first
      | with_reducible rfl
      | (simp only [decide_eq_true_eq] at *; omega)
      | (simp [hc, FX.beq]; done)
      | (clear hs ha; simp_all [nzr, nz, lc0, lc4, lc8, lc16, lc18, lc20, lcg, lcl, Rb.rerrRight]; done)
      | (clear hs ha; simp_all [nzr, nz, lc0, lc4, lc8, lc16, lc18, lc20, lcg, lcl, Rb.rerrRight]; omega)
      | (clear hs ha; simp_all [nzr, nz, lc0, lc4, lc8, lc16, lc18, lc20, lcg, lcl, Rb.rerrRight]; intro hh; obtain ⟨x, hx, hx'⟩ := hc; simp [hh x hx] at hx'; done))
theorem ct3_ok : CallsOK Tryz.prog et ct3 := (CallsOK.put (CallsOK.put (CallsOK.put (CallsOK.put (CallsOK.put ct2_ok c150) c149) c148) c134) c143)
end Go.Proofs.Fw

set_option autoImplicit false
set_option maxHeartbeats 400000
set_option linter.unusedVariables false
set_option linter.unusedSimpArgs false
set_option maxRecDepth 20000
namespace Go.Proofs.Fw
open Go
def s222 : FSpec := mkS [] (dC dInt (dC dStr dNil)) fun (ae, a, _) => ([], .bool (Rb.addrIn ae a))
def s218 : FSpec := mkS [] (dC dInt (dC dStr (dC dInt dNil))) fun (ae, a, p, _) => ([decide (a.length ≤ 1099511627776)], .bool (Rb.routeIn ae a p))
def s76 : FSpec := mkS [.msg] (dC dMsg dNil) fun (m, _) => ([smallM m], .bool (Rb.ripRight m))
def s79 : FSpec := mkS [.msg] (dC dMsg dNil) fun (m, _) => ([smallM m], .bool (Rb.ngRight m))
def s82 : FSpec := mkS [.msg] (dC dMsg dNil) fun (m, _) => ([smallM m], .bool (Rb.aodvRight m))
noncomputable def ct4 : List (Nat × FSpec) := (222, s222) :: (218, s218) :: (76, s76) :: (79, s79) :: (82, s82) :: ct3
end Go.Proofs.Fw

set_option autoImplicit false
set_option maxHeartbeats 400000
set_option linter.unusedVariables false
set_option linter.unusedSimpArgs false
set_option maxRecDepth 20000
namespace Go.Proofs.Fw
open Go
theorem w222 (ae : Int) (a : Bytes) (post : FV → List (List FV) → Prop) : ffun tt ct3 [] Tryz.f222 [.int .i64 ae, .str a] [] post =
  (ifb (decide (ae = (0 : Int)))
   (post (FV.bool (decide (a = eB))) ([]))
   (ifb (decide (ae = (1 : Int)))
    (post (FV.bool (decide (Rb.family a = (0 : Int)))) ([]))
    (ifb (decide (ae = (2 : Int)))
     (post (FV.bool (decide (Rb.family a = (1 : Int)))) ([]))
     (ifb (decide (ae = (3 : Int)))
      (post (FV.bool (Rb.link a)) ([]))
      (post (FV.bool false) ([])))))) := by kernel_rfl
theorem c222 : CallSound Tryz.prog et 222 s222 := by
 delta s222
 exact pure_man ct3_ok ttOK Tryz.func222 (by kernel_rfl) LoopsOK.none [] (fun ⟨ae, a, _⟩ ha => by
  refine FFun.of (w222 ae a _) ?_
  repeat' (first | (refine ifb_i (fun _ => ?_) (fun _ => ?_)) | (refine And.intro ?_ ?_))
  all_goals simp_all [nzr, nz, Rb.addrIn, Rb.family]
  all_goals split
  all_goals simp_all
  all_goals omega)
theorem w218 (ae : Int) (a : Bytes) (p : Int) (post : FV → List (List FV) → Prop) : ffun tt ct3 [] Tryz.f218 [.int .i64 ae, .str a, .int .i64 p] [] post =
  (ifb (decide (ae < (0 : Int)))
   (post (FV.bool false) ([]))
   (ifb (decide (ae > (3 : Int)))
    (post (FV.bool false) ([]))
    ((decide ((0 : Int) ≤ ae)) = true ∧
    ((decide (ae < (↑(4 : Nat) : Int))) = true ∧
    (ifb (decide   ((↑(List.length a) : Int) =     selInt       (column         [i64 (0 : Int), i64 (0 : Int), i64 (0 : Int), i64 (0 : Int),           i64 (4 : Int), i64 (0 : Int), i64 (0 : Int),           i64 (32 : Int), i64 (16 : Int), i64 (0 : Int),           i64 (0 : Int), i64 (128 : Int), i64 (16 : Int),           i64 (8 : Int), i64 (64 : Int), i64 (128 : Int)]         (4 : Nat) (nat_lit 0) (4 : Nat))       ae))
     (ifb (decide   (p ≥     selInt       (column         [i64 (0 : Int), i64 (0 : Int), i64 (0 : Int), i64 (0 : Int),           i64 (4 : Int), i64 (0 : Int), i64 (0 : Int),           i64 (32 : Int), i64 (16 : Int), i64 (0 : Int),           i64 (0 : Int), i64 (128 : Int), i64 (16 : Int),           i64 (8 : Int), i64 (64 : Int), i64 (128 : Int)]         (4 : Nat) (nat_lit 2) (4 : Nat))       ae))
      (ifb (decide   (p ≤     selInt       (column         [i64 (0 : Int), i64 (0 : Int), i64 (0 : Int), i64 (0 : Int),           i64 (4 : Int), i64 (0 : Int), i64 (0 : Int),           i64 (32 : Int), i64 (16 : Int), i64 (0 : Int),           i64 (0 : Int), i64 (128 : Int), i64 (16 : Int),           i64 (8 : Int), i64 (64 : Int), i64 (128 : Int)]         (4 : Nat) (nat_lit 3) (4 : Nat))       ae))
       ((decide (List.length a ≤ (1099511627776 : Nat))) = true ∧
       (ifb (Rb.clean a p)
        (ifb (!decide (ae = (3 : Int)))
         (post (FV.bool true) ([]))
         (post (FV.bool (Rb.link a)) ([])))
        (post (FV.bool false) ([]))))
       (post (FV.bool false) ([])))
      (post (FV.bool false) ([])))
     (post (FV.bool false) ([]))))))) := by kernel_rfl
theorem c218 : CallSound Tryz.prog et 218 s218 := by
 delta s218
 exact pure_man ct3_ok ttOK Tryz.func218 (by kernel_rfl) LoopsOK.none [] (fun ⟨ae, a, p, _⟩ ha => by
  refine FFun.of (w218 ae a p _) ?_
  simp at ha
  refine ifb_i (fun h1 => ?_) (fun h1 => ?_)
  · simp only [decide_eq_true_eq] at h1
    have : ¬ 0 ≤ ae := by omega
    simp [nzr, nz, Rb.routeIn, this]
  · simp only [decide_eq_false_iff_not] at h1
    refine ifb_i (fun h2 => ?_) (fun h2 => ?_)
    · simp only [decide_eq_true_eq] at h2
      have : ¬ ae ≤ 3 := by omega
      simp [nzr, nz, Rb.routeIn, this]
    · simp only [decide_eq_false_iff_not] at h2
      have h3 : ae = 0 ∨ ae = 1 ∨ ae = 2 ∨ ae = 3 := by omega
      refine ⟨by simp; omega, by simp; omega, ?_⟩
      clear h1 h2
      rcases h3 with rfl | rfl | rfl | rfl
      all_goals
        simp only [selInt, column, i64]
        repeat' (first | (refine ifb_i (fun _ => ?_) (fun _ => ?_)) | (refine And.intro ?_ ?_))
        all_goals first
          | with_reducible rfl
          | (simp_all [nzr, nz, Rb.routeIn, Rb.shSize, Rb.shLow, Rb.shHigh, selInt, lc0, lc4, lc16]; done)
          | (simp_all [nzr, nz, Rb.routeIn, Rb.shSize, Rb.shLow, Rb.shHigh, selInt, lc0, lc4, lc16]; omega))
theorem w76 (m : Msg) (post : FV → List (List FV) → Prop) : ffun tt ct3 [] Tryz.f76 [Msg.fv m] [] post =
  (ifb (!decide (m.kind = (1 : Int)))
   (post (FV.bool false) ([]))
   (ifb (!Rb.bare m)
    (post (FV.bool false) ([]))
    (ifb (!decide (List.length m.pfx = (4 : Nat)))
     (post (FV.bool false) ([]))
     (ifb (!decide (List.length m.next = (4 : Nat)))
      (post (FV.bool false) ([]))
      (ifb (!decide (m.cmd = (1 : Int)))
       (ifb (!decide (m.cmd = (2 : Int)))
        (post (FV.bool false) ([]))
        (ifb (!decide (m.ver = (1 : Int)))
         (ifb (!decide (m.ver = (2 : Int)))
          (post (FV.bool false) ([]))
          (ifb (!decide (m.auth = eB))
           (ifb (decide (m.ver = (1 : Int)))
            (post (FV.bool false) ([]))
            (ifb (!decide ((↑(List.length m.auth) : Int) = (18 : Int)))
             (post (FV.bool false) ([]))
             (ifb (decide (m.family = (0 : Int)))
              (ifb (decide (m.cmd = (1 : Int)))
               (ifb (decide (m.tag = (0 : Int)))
                (ifb (decide (m.plen = (0 : Int)))
                 (ifb (decide (m.metric = (16 : Int)))
                  ((decide (List.length m.pfx + List.length m.next ≤ (4611686018427387904 : Nat))) = true ∧
                  ((decide (List.length (m.pfx ++ m.next) ≤ (1099511627776 : Nat))) = true ∧
                  (post (FV.bool (Rb.allZ (m.pfx ++ m.next))) ([]))))
                  (post (FV.bool false) ([])))
                 (post (FV.bool false) ([])))
                (post (FV.bool false) ([])))
               (post (FV.bool false) ([])))
              (ifb (!decide (m.family = (2 : Int)))
               (post (FV.bool false) ([]))
               (ifb (decide (m.metric < (1 : Int)))
                (post (FV.bool false) ([]))
                (ifb (decide (m.metric > (16 : Int)))
                 (post (FV.bool false) ([]))
                 (ifb (decide (m.ver = (1 : Int)))
                  (ifb (decide (m.tag = (0 : Int)))
                   (ifb (decide (m.plen = (32 : Int)))
                    ((decide (List.length m.next ≤ (1099511627776 : Nat))) = true ∧
                    (post (FV.bool (Rb.allZ m.next)) ([])))
                    (post (FV.bool false) ([])))
                   (post (FV.bool false) ([])))
                  (ifb (Rb.fits m.tag (2 : Int))
                   (post (FV.bool (Rb.prefixRight m.pfx m.plen)) ([]))
                   (post (FV.bool false) ([]))))))))))
           (ifb (decide (m.family = (0 : Int)))
            (ifb (decide (m.cmd = (1 : Int)))
             (ifb (decide (m.tag = (0 : Int)))
              (ifb (decide (m.plen = (0 : Int)))
               (ifb (decide (m.metric = (16 : Int)))
                ((decide (List.length m.pfx + List.length m.next ≤ (4611686018427387904 : Nat))) = true ∧
                ((decide (List.length (m.pfx ++ m.next) ≤ (1099511627776 : Nat))) = true ∧
                (post (FV.bool (Rb.allZ (m.pfx ++ m.next))) ([]))))
                (post (FV.bool false) ([])))
               (post (FV.bool false) ([])))
              (post (FV.bool false) ([])))
             (post (FV.bool false) ([])))
            (ifb (!decide (m.family = (2 : Int)))
             (post (FV.bool false) ([]))
             (ifb (decide (m.metric < (1 : Int)))
              (post (FV.bool false) ([]))
              (ifb (decide (m.metric > (16 : Int)))
               (post (FV.bool false) ([]))
               (ifb (decide (m.ver = (1 : Int)))
                (ifb (decide (m.tag = (0 : Int)))
                 (ifb (decide (m.plen = (32 : Int)))
                  ((decide (List.length m.next ≤ (1099511627776 : Nat))) = true ∧
                  (post (FV.bool (Rb.allZ m.next)) ([])))
                  (post (FV.bool false) ([])))
                 (post (FV.bool false) ([])))
                (ifb (Rb.fits m.tag (2 : Int))
                 (post (FV.bool (Rb.prefixRight m.pfx m.plen)) ([]))
                 (post (FV.bool false) ([]))))))))))
         (ifb (!decide (m.auth = eB))
          (ifb (decide (m.ver = (1 : Int)))
           (post (FV.bool false) ([]))
           (ifb (!decide ((↑(List.length m.auth) : Int) = (18 : Int)))
            (post (FV.bool false) ([]))
            (ifb (decide (m.family = (0 : Int)))
             (ifb (decide (m.cmd = (1 : Int)))
              (ifb (decide (m.tag = (0 : Int)))
               (ifb (decide (m.plen = (0 : Int)))
                (ifb (decide (m.metric = (16 : Int)))
                 ((decide (List.length m.pfx + List.length m.next ≤ (4611686018427387904 : Nat))) = true ∧
                 ((decide (List.length (m.pfx ++ m.next) ≤ (1099511627776 : Nat))) = true ∧
                 (post (FV.bool (Rb.allZ (m.pfx ++ m.next))) ([]))))
                 (post (FV.bool false) ([])))
                (post (FV.bool false) ([])))
               (post (FV.bool false) ([])))
              (post (FV.bool false) ([])))
             (ifb (!decide (m.family = (2 : Int)))
              (post (FV.bool false) ([]))
              (ifb (decide (m.metric < (1 : Int)))
               (post (FV.bool false) ([]))
               (ifb (decide (m.metric > (16 : Int)))
                (post (FV.bool false) ([]))
                (ifb (decide (m.ver = (1 : Int)))
                 (ifb (decide (m.tag = (0 : Int)))
                  (ifb (decide (m.plen = (32 : Int)))
                   ((decide (List.length m.next ≤ (1099511627776 : Nat))) = true ∧
                   (post (FV.bool (Rb.allZ m.next)) ([])))
                   (post (FV.bool false) ([])))
                  (post (FV.bool false) ([])))
                 (ifb (Rb.fits m.tag (2 : Int))
                  (post (FV.bool (Rb.prefixRight m.pfx m.plen)) ([]))
                  (post (FV.bool false) ([]))))))))))
          (ifb (decide (m.family = (0 : Int)))
           (ifb (decide (m.cmd = (1 : Int)))
            (ifb (decide (m.tag = (0 : Int)))
             (ifb (decide (m.plen = (0 : Int)))
              (ifb (decide (m.metric = (16 : Int)))
               ((decide (List.length m.pfx + List.length m.next ≤ (4611686018427387904 : Nat))) = true ∧
               ((decide (List.length (m.pfx ++ m.next) ≤ (1099511627776 : Nat))) = true ∧
               (post (FV.bool (Rb.allZ (m.pfx ++ m.next))) ([]))))
               (post (FV.bool false) ([])))
              (post (FV.bool false) ([])))
             (post (FV.bool false) ([])))
            (post (FV.bool false) ([])))
           (ifb (!decide (m.family = (2 : Int)))
            (post (FV.bool false) ([]))
            (ifb (decide (m.metric < (1 : Int)))
             (post (FV.bool false) ([]))
             (ifb (decide (m.metric > (16 : Int)))
              (post (FV.bool false) ([]))
              (ifb (decide (m.ver = (1 : Int)))
               (ifb (decide (m.tag = (0 : Int)))
                (ifb (decide (m.plen = (32 : Int)))
                 ((decide (List.length m.next ≤ (1099511627776 : Nat))) = true ∧
                 (post (FV.bool (Rb.allZ m.next)) ([])))
                 (post (FV.bool false) ([])))
                (post (FV.bool false) ([])))
               (ifb (Rb.fits m.tag (2 : Int))
                (post (FV.bool (Rb.prefixRight m.pfx m.plen)) ([]))
                (post (FV.bool false) ([])))))))))))
       (ifb (!decide (m.ver = (1 : Int)))
        (ifb (!decide (m.ver = (2 : Int)))
         (post (FV.bool false) ([]))
         (ifb (!decide (m.auth = eB))
          (ifb (decide (m.ver = (1 : Int)))
           (post (FV.bool false) ([]))
           (ifb (!decide ((↑(List.length m.auth) : Int) = (18 : Int)))
            (post (FV.bool false) ([]))
            (ifb (decide (m.family = (0 : Int)))
             (ifb (decide (m.cmd = (1 : Int)))
              (ifb (decide (m.tag = (0 : Int)))
               (ifb (decide (m.plen = (0 : Int)))
                (ifb (decide (m.metric = (16 : Int)))
                 ((decide (List.length m.pfx + List.length m.next ≤ (4611686018427387904 : Nat))) = true ∧
                 ((decide (List.length (m.pfx ++ m.next) ≤ (1099511627776 : Nat))) = true ∧
                 (post (FV.bool (Rb.allZ (m.pfx ++ m.next))) ([]))))
                 (post (FV.bool false) ([])))
                (post (FV.bool false) ([])))
               (post (FV.bool false) ([])))
              (post (FV.bool false) ([])))
             (ifb (!decide (m.family = (2 : Int)))
              (post (FV.bool false) ([]))
              (ifb (decide (m.metric < (1 : Int)))
               (post (FV.bool false) ([]))
               (ifb (decide (m.metric > (16 : Int)))
                (post (FV.bool false) ([]))
                (ifb (decide (m.ver = (1 : Int)))
                 (ifb (decide (m.tag = (0 : Int)))
                  (ifb (decide (m.plen = (32 : Int)))
                   ((decide (List.length m.next ≤ (1099511627776 : Nat))) = true ∧
                   (post (FV.bool (Rb.allZ m.next)) ([])))
                   (post (FV.bool false) ([])))
                  (post (FV.bool false) ([])))
                 (ifb (Rb.fits m.tag (2 : Int))
                  (post (FV.bool (Rb.prefixRight m.pfx m.plen)) ([]))
                  (post (FV.bool false) ([]))))))))))
          (ifb (decide (m.family = (0 : Int)))
           (ifb (decide (m.cmd = (1 : Int)))
            (ifb (decide (m.tag = (0 : Int)))
             (ifb (decide (m.plen = (0 : Int)))
              (ifb (decide (m.metric = (16 : Int)))
               ((decide (List.length m.pfx + List.length m.next ≤ (4611686018427387904 : Nat))) = true ∧
               ((decide (List.length (m.pfx ++ m.next) ≤ (1099511627776 : Nat))) = true ∧
               (post (FV.bool (Rb.allZ (m.pfx ++ m.next))) ([]))))
               (post (FV.bool false) ([])))
              (post (FV.bool false) ([])))
             (post (FV.bool false) ([])))
            (post (FV.bool false) ([])))
           (ifb (!decide (m.family = (2 : Int)))
            (post (FV.bool false) ([]))
            (ifb (decide (m.metric < (1 : Int)))
             (post (FV.bool false) ([]))
             (ifb (decide (m.metric > (16 : Int)))
              (post (FV.bool false) ([]))
              (ifb (decide (m.ver = (1 : Int)))
               (ifb (decide (m.tag = (0 : Int)))
                (ifb (decide (m.plen = (32 : Int)))
                 ((decide (List.length m.next ≤ (1099511627776 : Nat))) = true ∧
                 (post (FV.bool (Rb.allZ m.next)) ([])))
                 (post (FV.bool false) ([])))
                (post (FV.bool false) ([])))
               (ifb (Rb.fits m.tag (2 : Int))
                (post (FV.bool (Rb.prefixRight m.pfx m.plen)) ([]))
                (post (FV.bool false) ([]))))))))))
        (ifb (!decide (m.auth = eB))
         (ifb (decide (m.ver = (1 : Int)))
          (post (FV.bool false) ([]))
          (ifb (!decide ((↑(List.length m.auth) : Int) = (18 : Int)))
           (post (FV.bool false) ([]))
           (ifb (decide (m.family = (0 : Int)))
            (ifb (decide (m.cmd = (1 : Int)))
             (ifb (decide (m.tag = (0 : Int)))
              (ifb (decide (m.plen = (0 : Int)))
               (ifb (decide (m.metric = (16 : Int)))
                ((decide (List.length m.pfx + List.length m.next ≤ (4611686018427387904 : Nat))) = true ∧
                ((decide (List.length (m.pfx ++ m.next) ≤ (1099511627776 : Nat))) = true ∧
                (post (FV.bool (Rb.allZ (m.pfx ++ m.next))) ([]))))
                (post (FV.bool false) ([])))
               (post (FV.bool false) ([])))
              (post (FV.bool false) ([])))
             (post (FV.bool false) ([])))
            (ifb (!decide (m.family = (2 : Int)))
             (post (FV.bool false) ([]))
             (ifb (decide (m.metric < (1 : Int)))
              (post (FV.bool false) ([]))
              (ifb (decide (m.metric > (16 : Int)))
               (post (FV.bool false) ([]))
               (ifb (decide (m.ver = (1 : Int)))
                (ifb (decide (m.tag = (0 : Int)))
                 (ifb (decide (m.plen = (32 : Int)))
                  ((decide (List.length m.next ≤ (1099511627776 : Nat))) = true ∧
                  (post (FV.bool (Rb.allZ m.next)) ([])))
                  (post (FV.bool false) ([])))
                 (post (FV.bool false) ([])))
                (ifb (Rb.fits m.tag (2 : Int))
                 (post (FV.bool (Rb.prefixRight m.pfx m.plen)) ([]))
                 (post (FV.bool false) ([]))))))))))
         (ifb (decide (m.family = (0 : Int)))
          (ifb (decide (m.cmd = (1 : Int)))
           (ifb (decide (m.tag = (0 : Int)))
            (ifb (decide (m.plen = (0 : Int)))
             (ifb (decide (m.metric = (16 : Int)))
              ((decide (List.length m.pfx + List.length m.next ≤ (4611686018427387904 : Nat))) = true ∧
              ((decide (List.length (m.pfx ++ m.next) ≤ (1099511627776 : Nat))) = true ∧
              (post (FV.bool (Rb.allZ (m.pfx ++ m.next))) ([]))))
              (post (FV.bool false) ([])))
             (post (FV.bool false) ([])))
            (post (FV.bool false) ([])))
           (post (FV.bool false) ([])))
          (ifb (!decide (m.family = (2 : Int)))
           (post (FV.bool false) ([]))
           (ifb (decide (m.metric < (1 : Int)))
            (post (FV.bool false) ([]))
            (ifb (decide (m.metric > (16 : Int)))
             (post (FV.bool false) ([]))
             (ifb (decide (m.ver = (1 : Int)))
              (ifb (decide (m.tag = (0 : Int)))
               (ifb (decide (m.plen = (32 : Int)))
                ((decide (List.length m.next ≤ (1099511627776 : Nat))) = true ∧
                (post (FV.bool (Rb.allZ m.next)) ([])))
                (post (FV.bool false) ([])))
               (post (FV.bool false) ([])))
              (ifb (Rb.fits m.tag (2 : Int))
               (post (FV.bool (Rb.prefixRight m.pfx m.plen)) ([]))
               (post (FV.bool false) ([]))))))))))))))) := by kernel_rfl
theorem c76 : CallSound Tryz.prog et 76 s76 := by
 delta s76
 exact pure_man ct3_ok ttOK Tryz.func76 (by kernel_rfl) LoopsOK.none [] (fun ⟨m, _⟩ ha => by
  refine FFun.of (w76 m _) ?_
  have hs := subs_len m.subs
  simp [smallM] at ha
  have hc : True := trivial
  repeat' (first | (refine ifb_i (fun _ => ?_) (fun _ => ?_)) | (refine And.intro ?_ ?_))
  all_goals first
    | with_reducible rfl
    | (simp only [decide_eq_true_eq] at *; omega)
    | (simp [hc, FX.beq]; done)
    | (clear hs ha; simp_all [nzr, nz, lc0, lc4, lc8, lc16, lc18, lc20, lcg, lcl, Rb.ripRight]; done)
    | (clear hs ha; simp_all [nzr, nz, lc0, lc4, lc8, lc16, lc18, lc20, lcg, lcl, Rb.ripRight]; omega)
    | (clear hs ha; simp_all [nzr, nz, lc0, lc4, lc8, lc16, lc18, lc20, lcg, lcl, Rb.ripRight]; intro hh; obtain ⟨x, hx, hx'⟩ := hc; simp [hh x hx] at hx'; done))
theorem w79 (m : Msg) (post : FV → List (List FV) → Prop) : ffun tt ct3 [] Tryz.f79 [Msg.fv m] [] post =
  (ifb (!decide (m.kind = (2 : Int)))
   (post (FV.bool false) ([]))
   (ifb (!Rb.bare m)
    (post (FV.bool false) ([]))
    (ifb (!decide (m.cmd = (1 : Int)))
     (ifb (!decide (m.cmd = (2 : Int)))
      (post (FV.bool false) ([]))
      (ifb (!Rb.fits m.tag (2 : Int))
       (post (FV.bool false) ([]))
       (ifb (decide (m.metric < (1 : Int)))
        (post (FV.bool false) ([]))
        (ifb (decide (m.metric > (16 : Int)))
         (post (FV.bool false) ([]))
         (ifb (!decide ((↑(List.length m.pfx) : Int) = (16 : Int)))
          (post (FV.bool false) ([]))
          (ifb (!Rb.prefixRight m.pfx m.plen)
           (post (FV.bool false) ([]))
           ((decide ((16 : Int) ≤ (1099511627776 : Int))) = true ∧
           (ifb (decide (m.next = Rb.zs (Int.toNat (16 : Int))))
            (post (FV.bool true) ([]))
            (post (FV.bool (Rb.link m.next)) ([]))))))))))
     (ifb (!Rb.fits m.tag (2 : Int))
      (post (FV.bool false) ([]))
      (ifb (decide (m.metric < (1 : Int)))
       (post (FV.bool false) ([]))
       (ifb (decide (m.metric > (16 : Int)))
        (post (FV.bool false) ([]))
        (ifb (!decide ((↑(List.length m.pfx) : Int) = (16 : Int)))
         (post (FV.bool false) ([]))
         (ifb (!Rb.prefixRight m.pfx m.plen)
          (post (FV.bool false) ([]))
          ((decide ((16 : Int) ≤ (1099511627776 : Int))) = true ∧
          (ifb (decide (m.next = Rb.zs (Int.toNat (16 : Int))))
           (post (FV.bool true) ([]))
           (post (FV.bool (Rb.link m.next)) ([])))))))))))) := by kernel_rfl
theorem c79 : CallSound Tryz.prog et 79 s79 := by
 delta s79
 exact pure_man ct3_ok ttOK Tryz.func79 (by kernel_rfl) LoopsOK.none [] (fun ⟨m, _⟩ ha => by
  refine FFun.of (w79 m _) ?_
  have hs := subs_len m.subs
  simp [smallM] at ha
  have hc : True := trivial
  repeat' (first | (refine ifb_i (fun _ => ?_) (fun _ => ?_)) | (refine And.intro ?_ ?_))
  all_goals first
    | with_reducible rfl
    | (simp only [decide_eq_true_eq] at *; omega)
    | (simp [hc, FX.beq]; done)
    | (clear hs ha; simp_all [nzr, nz, lc0, lc4, lc8, lc16, lc18, lc20, lcg, lcl, Rb.ngRight]; done)
    | (clear hs ha; simp_all [nzr, nz, lc0, lc4, lc8, lc16, lc18, lc20, lcg, lcl, Rb.ngRight]; omega)
    | (clear hs ha; simp_all [nzr, nz, lc0, lc4, lc8, lc16, lc18, lc20, lcg, lcl, Rb.ngRight]; intro hh; obtain ⟨x, hx, hx'⟩ := hc; simp [hh x hx] at hx'; done))
theorem w82 (m : Msg) (post : FV → List (List FV) → Prop) : ffun tt ct3 [] Tryz.f82 [Msg.fv m] [] post =
  ((smallM m) = true ∧
  (ifb (Rb.rreqRight m)
   (post (FV.bool true) ([]))
   ((smallM m) = true ∧
   (ifb (Rb.rrepRight m)
    (post (FV.bool true) ([]))
    ((smallM m) = true ∧
    (post (FV.bool (Rb.rerrRight m)) ([]))))))) := by kernel_rfl
theorem c82 : CallSound Tryz.prog et 82 s82 := by
 delta s82
 exact pure_man ct3_ok ttOK Tryz.func82 (by kernel_rfl) LoopsOK.none [] (fun ⟨m, _⟩ ha => by
  refine FFun.of (w82 m _) ?_
  have hm : smallM m = true := by simpa using ha
  repeat' (first | (refine ifb_i (fun _ => ?_) (fun _ => ?_)) | (refine And.intro ?_ ?_))
  all_goals simp_all [nzr, nz, Rb.aodvRight])
theorem ct4_ok : CallsOK Tryz.prog et ct4 := (CallsOK.put (CallsOK.put (CallsOK.put (CallsOK.put (CallsOK.put ct3_ok c82) c79) c76) c218) c222)
end Go.Proofs.Fw
