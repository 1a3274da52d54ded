/- The law of the function that asks whether a message has the fields of its kind alone. -/
import Derived.Test.YtnmgchgmmnjbiaaGreatFe
set_option autoImplicit false
set_option maxHeartbeats 400000
set_option linter.unusedVariables false
set_option linter.unusedSimpArgs false
set_option maxRecDepth 20000
namespace Go.Proofs.Fw
open Go
def s207 : FSpec := mkS [] (dC dStr (dC dStr dNil)) fun (s, p, _) => ([], .bool (hasPre s p))
def s248 : FSpec := mkS [] (dC dStr (dC dStr dNil)) fun (s, p, _) => ([], .tup [.str (if hasPre s p then s.drop p.length else s), .bool (hasPre s p)])
def s199 : FSpec := mkS [] (dC dStr (dC dInt dNil)) fun (s, n, _) => ([decide (s.length ≤ 1099511627776)], .bool (Rb.clean s n))
def s130 : FSpec := mkS [.msg] (dC dMsg dNil) fun (m, _) => ([], .bool (Rb.bare m))
def s210 : FSpec := mkS [.ls .sub] (dC dSubs dNil) fun (l, _) => ([decide (l.length ≤ 1099511627776)], .bool (Rb.extRight l))
def s217 : FSpec := mkS [.ls .sub] (dC dSubs dNil) fun (l, _) => ([smallS l], .bool (Rb.subRight l))
noncomputable def ct2 : List (Nat × FSpec) := (207, s207) :: (248, s248) :: (199, s199) :: (130, s130) :: (210, s210) :: (217, s217) :: ct1
end Go.Proofs.Fw

set_option autoImplicit false
set_option maxHeartbeats 400000
set_option linter.unusedVariables false
set_option linter.unusedSimpArgs false
set_option maxRecDepth 20000
namespace Go.Proofs.Fw
open Go
theorem w207 (s : Bytes) (p : Bytes) (post : FV → List (List FV) → Prop) : ffun tt ct1 [] Tryz.f207 [.str s, .str p] [] post =
  (post (FV.bool (hasPre s p)) ([])) := by kernel_rfl
theorem c207 : CallSound Tryz.prog et 207 s207 := by
 delta s207
 exact pure_man ct1_ok ttOK Tryz.func207 (by kernel_rfl) LoopsOK.none [] (fun ⟨s, p, _⟩ ha => by
  refine FFun.of (w207 s p _) ?_
  exact ⟨rfl, rfl⟩)
theorem w248 (s : Bytes) (p : Bytes) (post : FV → List (List FV) → Prop) : ffun tt ct1 [] Tryz.f248 [.str s, .str p] [] post =
  (ifb (!hasPre s p)
   (post (FV.tup [FV.str s, FV.bool false]) ([]))
   ((decide ((0 : Int) ≤ (↑(List.length p) : Int))) = true ∧
   ((decide ((↑(List.length p) : Int) ≤ (↑(List.length s) : Int))) = true ∧
   ((decide ((↑(List.length s) : Int) ≤ (↑(List.length s) : Int))) = true ∧
   (post (FV.tup   [FV.str (List.drop (↑(List.length p) : Int).toNat (List.take (↑(List.length s) : Int).toNat s)),     FV.bool true]) ([])))))) := by kernel_rfl
theorem c248 : CallSound Tryz.prog et 248 s248 := by
 delta s248
 exact pure_man ct1_ok ttOK Tryz.func248 (by kernel_rfl) LoopsOK.none [] (fun ⟨s, p, _⟩ ha => by
  refine FFun.of (w248 s p _) ?_
  refine ifb_i (fun h => ?_) (fun h => ?_)
  · refine ⟨?_, rfl⟩
    simp only [Bool.not_eq_true'] at h
    simp [nzr, nzs, nz, h]
  · simp only [Bool.not_eq_false'] at h
    have h' := h
    simp [hasPre] at h'
    refine ⟨by simp, by simpa using h'.1, by simp, ?_, rfl⟩
    simp [nzr, nzs, nz, h])
theorem w199 (s : Bytes) (n : Int) (post : FV → List (List FV) → Prop) : ffun tt ct1 [] Tryz.f199 [.str s, .int .i64 n] [] post =
  ((decide (List.length s ≤ (1099511627776 : Nat))) = true ∧
  (post (FV.bool (decide (Rb.keep s n = s))) ([]))) := by kernel_rfl
theorem c199 : CallSound Tryz.prog et 199 s199 := by
 delta s199
 exact pure_man ct1_ok ttOK Tryz.func199 (by kernel_rfl) LoopsOK.none [] (fun ⟨s, n, _⟩ ha => by
  refine FFun.of (w199 s n _) ?_
  simp at ha
  refine ⟨by simpa using ha, ?_, rfl⟩
  simp [nzr, nz, Rb.clean])
theorem w130 (m : Msg) (post : FV → List (List FV) → Prop) : ffun tt ct1 [] Tryz.f130 [Msg.fv m] [] post =
  (ifb (decide (m.kind = (1 : Int)))
   (ifb (decide (m.kind = (1 : Int)))
    (ifb (decide (m.kind = m.kind) &&   (decide ((0 : Int) = (0 : Int)) &&     (decide ((0 : Int) = (0 : Int)) &&       (decide ((0 : Int) = (0 : Int)) &&         (decide (m.ae = (0 : Int)) &&           (decide ((0 : Int) = (0 : Int)) &&             (decide ((0 : Int) = (0 : Int)) &&               (decide ((0 : Int) = (0 : Int)) &&                 (decide (m.seq = (0 : Int)) &&                   (decide (m.seq2 = (0 : Int)) &&                     (decide (m.interval = (0 : Int)) &&                       (decide (m.flags = (0 : Int)) &&                         (decide (m.hops = (0 : Int)) &&                           (decide (m.nonce = (0 : Int)) &&                             (decide (m.cost = (0 : Int)) &&                               (decide (m.type = (0 : Int)) &&                                 (decide (eB = eB) &&                                   (decide (eB = eB) &&                                     (decide (eB = eB) &&                                       (decide (m.id = eB) &&                                         (decide (m.addr = eB) &&                                           (decide (m.orig = eB) &&                                             (decide (m.data = eB) &&                                               true)))))))))))))))))))))))
     (ifb (decide ((↑m.list.length : Int) = (0 : Int)))
      (post (FV.bool (decide ((↑m.subs.length : Int) = (0 : Int)))) ([]))
      (post (FV.bool false) ([])))
     (post (FV.bool false) ([])))
    (ifb (decide (m.kind = m.kind) &&   (decide ((0 : Int) = (0 : Int)) &&     (decide (m.ver = (0 : Int)) &&       (decide (m.family = (0 : Int)) &&         (decide (m.ae = (0 : Int)) &&           (decide ((0 : Int) = (0 : Int)) &&             (decide ((0 : Int) = (0 : Int)) &&               (decide ((0 : Int) = (0 : Int)) &&                 (decide (m.seq = (0 : Int)) &&                   (decide (m.seq2 = (0 : Int)) &&                     (decide (m.interval = (0 : Int)) &&                       (decide (m.flags = (0 : Int)) &&                         (decide (m.hops = (0 : Int)) &&                           (decide (m.nonce = (0 : Int)) &&                             (decide (m.cost = (0 : Int)) &&                               (decide (m.type = (0 : Int)) &&                                 (decide (m.auth = eB) &&                                   (decide (eB = eB) &&                                     (decide (eB = eB) &&                                       (decide (m.id = eB) &&                                         (decide (m.addr = eB) &&                                           (decide (m.orig = eB) &&                                             (decide (m.data = eB) &&                                               true)))))))))))))))))))))))
     (ifb (decide ((↑m.list.length : Int) = (0 : Int)))
      (post (FV.bool (decide ((↑m.subs.length : Int) = (0 : Int)))) ([]))
      (post (FV.bool false) ([])))
     (post (FV.bool false) ([]))))
   (ifb (decide (m.kind = (2 : Int)))
    (ifb (decide (m.kind = (1 : Int)))
     (ifb (decide (m.kind = m.kind) &&   (decide ((0 : Int) = (0 : Int)) &&     (decide ((0 : Int) = (0 : Int)) &&       (decide ((0 : Int) = (0 : Int)) &&         (decide (m.ae = (0 : Int)) &&           (decide ((0 : Int) = (0 : Int)) &&             (decide ((0 : Int) = (0 : Int)) &&               (decide ((0 : Int) = (0 : Int)) &&                 (decide (m.seq = (0 : Int)) &&                   (decide (m.seq2 = (0 : Int)) &&                     (decide (m.interval = (0 : Int)) &&                       (decide (m.flags = (0 : Int)) &&                         (decide (m.hops = (0 : Int)) &&                           (decide (m.nonce = (0 : Int)) &&                             (decide (m.cost = (0 : Int)) &&                               (decide (m.type = (0 : Int)) &&                                 (decide (eB = eB) &&                                   (decide (eB = eB) &&                                     (decide (eB = eB) &&                                       (decide (m.id = eB) &&                                         (decide (m.addr = eB) &&                                           (decide (m.orig = eB) &&                                             (decide (m.data = eB) &&                                               true)))))))))))))))))))))))
      (ifb (decide ((↑m.list.length : Int) = (0 : Int)))
       (post (FV.bool (decide ((↑m.subs.length : Int) = (0 : Int)))) ([]))
       (post (FV.bool false) ([])))
      (post (FV.bool false) ([])))
     (ifb (decide (m.kind = m.kind) &&   (decide ((0 : Int) = (0 : Int)) &&     (decide (m.ver = (0 : Int)) &&       (decide (m.family = (0 : Int)) &&         (decide (m.ae = (0 : Int)) &&           (decide ((0 : Int) = (0 : Int)) &&             (decide ((0 : Int) = (0 : Int)) &&               (decide ((0 : Int) = (0 : Int)) &&                 (decide (m.seq = (0 : Int)) &&                   (decide (m.seq2 = (0 : Int)) &&                     (decide (m.interval = (0 : Int)) &&                       (decide (m.flags = (0 : Int)) &&                         (decide (m.hops = (0 : Int)) &&                           (decide (m.nonce = (0 : Int)) &&                             (decide (m.cost = (0 : Int)) &&                               (decide (m.type = (0 : Int)) &&                                 (decide (m.auth = eB) &&                                   (decide (eB = eB) &&                                     (decide (eB = eB) &&                                       (decide (m.id = eB) &&                                         (decide (m.addr = eB) &&                                           (decide (m.orig = eB) &&                                             (decide (m.data = eB) &&                                               true)))))))))))))))))))))))
      (ifb (decide ((↑m.list.length : Int) = (0 : Int)))
       (post (FV.bool (decide ((↑m.subs.length : Int) = (0 : Int)))) ([]))
       (post (FV.bool false) ([])))
      (post (FV.bool false) ([]))))
    (ifb (decide (m.kind = (3 : Int)))
     (ifb (decide (m.kind = m.kind) &&   (decide (m.cmd = (0 : Int)) &&     (decide (m.ver = (0 : Int)) &&       (decide (m.family = (0 : Int)) &&         (decide (m.ae = (0 : Int)) &&           (decide (m.plen = (0 : Int)) &&             (decide (m.tag = (0 : Int)) &&               (decide (m.metric = (0 : Int)) &&                 (decide ((0 : Int) = (0 : Int)) &&                   (decide ((0 : Int) = (0 : Int)) &&                     (decide (m.interval = (0 : Int)) &&                       (decide ((0 : Int) = (0 : Int)) &&                         (decide ((0 : Int) = (0 : Int)) &&                           (decide ((0 : Int) = (0 : Int)) &&                             (decide (m.cost = (0 : Int)) &&                               (decide (m.type = (0 : Int)) &&                                 (decide (m.auth = eB) &&                                   (decide (m.pfx = eB) &&                                     (decide (m.next = eB) &&                                       (decide (m.id = eB) &&                                         (decide (eB = eB) &&                                           (decide (eB = eB) &&                                             (decide (m.data = eB) &&                                               true)))))))))))))))))))))))
      (ifb (decide ((↑m.list.length : Int) = (0 : Int)))
       (post (FV.bool true) ([]))
       (post (FV.bool false) ([])))
      (post (FV.bool false) ([])))
     (ifb (decide (m.kind = (4 : Int)))
      (ifb (decide (m.kind = m.kind) &&   (decide (m.cmd = (0 : Int)) &&     (decide (m.ver = (0 : Int)) &&       (decide (m.family = (0 : Int)) &&         (decide (m.ae = (0 : Int)) &&           (decide ((0 : Int) = (0 : Int)) &&             (decide (m.tag = (0 : Int)) &&               (decide (m.metric = (0 : Int)) &&                 (decide ((0 : Int) = (0 : Int)) &&                   (decide (m.seq2 = (0 : Int)) &&                     (decide ((0 : Int) = (0 : Int)) &&                       (decide ((0 : Int) = (0 : Int)) &&                         (decide ((0 : Int) = (0 : Int)) &&                           (decide (m.nonce = (0 : Int)) &&                             (decide (m.cost = (0 : Int)) &&                               (decide (m.type = (0 : Int)) &&                                 (decide (m.auth = eB) &&                                   (decide (m.pfx = eB) &&                                     (decide (m.next = eB) &&                                       (decide (m.id = eB) &&                                         (decide (eB = eB) &&                                           (decide (eB = eB) &&                                             (decide (m.data = eB) &&                                               true)))))))))))))))))))))))
       (ifb (decide ((↑m.list.length : Int) = (0 : Int)))
        (post (FV.bool true) ([]))
        (post (FV.bool false) ([])))
       (post (FV.bool false) ([])))
      (ifb (decide (m.kind = (5 : Int)))
       (ifb (decide (m.kind = m.kind) &&   (decide (m.cmd = (0 : Int)) &&     (decide (m.ver = (0 : Int)) &&       (decide (m.family = (0 : Int)) &&         (decide (m.ae = (0 : Int)) &&           (decide (m.plen = (0 : Int)) &&             (decide (m.tag = (0 : Int)) &&               (decide (m.metric = (0 : Int)) &&                 (decide (m.seq = (0 : Int)) &&                   (decide (m.seq2 = (0 : Int)) &&                     (decide (m.interval = (0 : Int)) &&                       (decide ((0 : Int) = (0 : Int)) &&                         (decide (m.hops = (0 : Int)) &&                           (decide (m.nonce = (0 : Int)) &&                             (decide (m.cost = (0 : Int)) &&                               (decide (m.type = (0 : Int)) &&                                 (decide (m.auth = eB) &&                                   (decide (m.pfx = eB) &&                                     (decide (m.next = eB) &&                                       (decide (m.id = eB) &&                                         (decide (m.addr = eB) &&                                           (decide (m.orig = eB) &&                                             (decide (m.data = eB) &&                                               true)))))))))))))))))))))))
        (post (FV.bool true) ([]))
        (post (FV.bool false) ([])))
       (ifb (decide (m.kind = (6 : Int)))
        (ifb (decide (m.kind = m.kind) &&   (decide (m.cmd = (0 : Int)) &&     (decide (m.ver = (0 : Int)) &&       (decide (m.family = (0 : Int)) &&         (decide (m.ae = (0 : Int)) &&           (decide (m.plen = (0 : Int)) &&             (decide (m.tag = (0 : Int)) &&               (decide (m.metric = (0 : Int)) &&                 (decide (m.seq = (0 : Int)) &&                   (decide (m.seq2 = (0 : Int)) &&                     (decide (m.interval = (0 : Int)) &&                       (decide (m.flags = (0 : Int)) &&                         (decide (m.hops = (0 : Int)) &&                           (decide (m.nonce = (0 : Int)) &&                             (decide (m.cost = (0 : Int)) &&                               (decide (m.type = (0 : Int)) &&                                 (decide (m.auth = eB) &&                                   (decide (m.pfx = eB) &&                                     (decide (m.next = eB) &&                                       (decide (m.id = eB) &&                                         (decide (m.addr = eB) &&                                           (decide (m.orig = eB) &&                                             (decide (m.data = eB) &&                                               true)))))))))))))))))))))))
         (ifb (decide ((↑m.list.length : Int) = (0 : Int)))
          (post (FV.bool true) ([]))
          (post (FV.bool false) ([])))
         (post (FV.bool false) ([])))
        (ifb (decide (m.kind = (7 : Int)))
         (ifb (decide (m.kind = m.kind) &&   (decide (m.cmd = (0 : Int)) &&     (decide (m.ver = (0 : Int)) &&       (decide (m.family = (0 : Int)) &&         (decide (m.ae = (0 : Int)) &&           (decide (m.plen = (0 : Int)) &&             (decide (m.tag = (0 : Int)) &&               (decide (m.metric = (0 : Int)) &&                 (decide (m.seq = (0 : Int)) &&                   (decide (m.seq2 = (0 : Int)) &&                     (decide ((0 : Int) = (0 : Int)) &&                       (decide (m.flags = (0 : Int)) &&                         (decide (m.hops = (0 : Int)) &&                           (decide ((0 : Int) = (0 : Int)) &&                             (decide (m.cost = (0 : Int)) &&                               (decide (m.type = (0 : Int)) &&                                 (decide (m.auth = eB) &&                                   (decide (m.pfx = eB) &&                                     (decide (m.next = eB) &&                                       (decide (m.id = eB) &&                                         (decide (m.addr = eB) &&                                           (decide (m.orig = eB) &&                                             (decide (m.data = eB) &&                                               true)))))))))))))))))))))))
          (ifb (decide ((↑m.list.length : Int) = (0 : Int)))
           (post (FV.bool true) ([]))
           (post (FV.bool false) ([])))
          (post (FV.bool false) ([])))
         (ifb (decide (m.kind = (8 : Int)))
          (ifb (decide (m.kind = m.kind) &&   (decide (m.cmd = (0 : Int)) &&     (decide (m.ver = (0 : Int)) &&       (decide (m.family = (0 : Int)) &&         (decide (m.ae = (0 : Int)) &&           (decide (m.plen = (0 : Int)) &&             (decide (m.tag = (0 : Int)) &&               (decide (m.metric = (0 : Int)) &&                 (decide (m.seq = (0 : Int)) &&                   (decide (m.seq2 = (0 : Int)) &&                     (decide (m.interval = (0 : Int)) &&                       (decide (m.flags = (0 : Int)) &&                         (decide (m.hops = (0 : Int)) &&                           (decide ((0 : Int) = (0 : Int)) &&                             (decide (m.cost = (0 : Int)) &&                               (decide (m.type = (0 : Int)) &&                                 (decide (m.auth = eB) &&                                   (decide (m.pfx = eB) &&                                     (decide (m.next = eB) &&                                       (decide (m.id = eB) &&                                         (decide (m.addr = eB) &&                                           (decide (m.orig = eB) &&                                             (decide (m.data = eB) &&                                               true)))))))))))))))))))))))
           (ifb (decide ((↑m.list.length : Int) = (0 : Int)))
            (post (FV.bool true) ([]))
            (post (FV.bool false) ([])))
           (post (FV.bool false) ([])))
          (ifb (decide (m.kind = (9 : Int)))
           (ifb (decide (m.kind = m.kind) &&   (decide (m.cmd = (0 : Int)) &&     (decide (m.ver = (0 : Int)) &&       (decide (m.family = (0 : Int)) &&         (decide (m.ae = (0 : Int)) &&           (decide (m.plen = (0 : Int)) &&             (decide (m.tag = (0 : Int)) &&               (decide (m.metric = (0 : Int)) &&                 (decide ((0 : Int) = (0 : Int)) &&                   (decide (m.seq2 = (0 : Int)) &&                     (decide ((0 : Int) = (0 : Int)) &&                       (decide ((0 : Int) = (0 : Int)) &&                         (decide (m.hops = (0 : Int)) &&                           (decide (m.nonce = (0 : Int)) &&                             (decide (m.cost = (0 : Int)) &&                               (decide (m.type = (0 : Int)) &&                                 (decide (m.auth = eB) &&                                   (decide (m.pfx = eB) &&                                     (decide (m.next = eB) &&                                       (decide (m.id = eB) &&                                         (decide (m.addr = eB) &&                                           (decide (m.orig = eB) &&                                             (decide (m.data = eB) &&                                               true)))))))))))))))))))))))
            (ifb (decide ((↑m.list.length : Int) = (0 : Int)))
             (post (FV.bool true) ([]))
             (post (FV.bool false) ([])))
            (post (FV.bool false) ([])))
           (ifb (decide (m.kind = (10 : Int)))
            (ifb (decide (m.kind = m.kind) &&   (decide (m.cmd = (0 : Int)) &&     (decide (m.ver = (0 : Int)) &&       (decide (m.family = (0 : Int)) &&         (decide ((0 : Int) = (0 : Int)) &&           (decide (m.plen = (0 : Int)) &&             (decide (m.tag = (0 : Int)) &&               (decide (m.metric = (0 : Int)) &&                 (decide (m.seq = (0 : Int)) &&                   (decide (m.seq2 = (0 : Int)) &&                     (decide ((0 : Int) = (0 : Int)) &&                       (decide (m.flags = (0 : Int)) &&                         (decide (m.hops = (0 : Int)) &&                           (decide (m.nonce = (0 : Int)) &&                             (decide ((0 : Int) = (0 : Int)) &&                               (decide (m.type = (0 : Int)) &&                                 (decide (m.auth = eB) &&                                   (decide (m.pfx = eB) &&                                     (decide (m.next = eB) &&                                       (decide (m.id = eB) &&                                         (decide (eB = eB) &&                                           (decide (m.orig = eB) &&                                             (decide (m.data = eB) &&                                               true)))))))))))))))))))))))
             (ifb (decide ((↑m.list.length : Int) = (0 : Int)))
              (post (FV.bool true) ([]))
              (post (FV.bool false) ([])))
             (post (FV.bool false) ([])))
            (ifb (decide (m.kind = (11 : Int)))
             (ifb (decide (m.kind = m.kind) &&   (decide (m.cmd = (0 : Int)) &&     (decide (m.ver = (0 : Int)) &&       (decide (m.family = (0 : Int)) &&         (decide ((0 : Int) = (0 : Int)) &&           (decide ((0 : Int) = (0 : Int)) &&             (decide (m.tag = (0 : Int)) &&               (decide ((0 : Int) = (0 : Int)) &&                 (decide ((0 : Int) = (0 : Int)) &&                   (decide (m.seq2 = (0 : Int)) &&                     (decide ((0 : Int) = (0 : Int)) &&                       (decide (m.flags = (0 : Int)) &&                         (decide (m.hops = (0 : Int)) &&                           (decide (m.nonce = (0 : Int)) &&                             (decide (m.cost = (0 : Int)) &&                               (decide (m.type = (0 : Int)) &&                                 (decide (m.auth = eB) &&                                   (decide (eB = eB) &&                                     (decide (eB = eB) &&                                       (decide (eB = eB) &&                                         (decide (m.addr = eB) &&                                           (decide (m.orig = eB) &&                                             (decide (m.data = eB) &&                                               true)))))))))))))))))))))))
              (ifb (decide ((↑m.list.length : Int) = (0 : Int)))
               (post (FV.bool true) ([]))
               (post (FV.bool false) ([])))
              (post (FV.bool false) ([])))
             (ifb (decide (m.kind = (12 : Int)))
              (ifb (decide (m.kind = m.kind) &&   (decide (m.cmd = (0 : Int)) &&     (decide (m.ver = (0 : Int)) &&       (decide (m.family = (0 : Int)) &&         (decide ((0 : Int) = (0 : Int)) &&           (decide ((0 : Int) = (0 : Int)) &&             (decide (m.tag = (0 : Int)) &&               (decide (m.metric = (0 : Int)) &&                 (decide (m.seq = (0 : Int)) &&                   (decide (m.seq2 = (0 : Int)) &&                     (decide (m.interval = (0 : Int)) &&                       (decide (m.flags = (0 : Int)) &&                         (decide (m.hops = (0 : Int)) &&                           (decide (m.nonce = (0 : Int)) &&                             (decide (m.cost = (0 : Int)) &&                               (decide (m.type = (0 : Int)) &&                                 (decide (m.auth = eB) &&                                   (decide (eB = eB) &&                                     (decide (m.next = eB) &&                                       (decide (m.id = eB) &&                                         (decide (m.addr = eB) &&                                           (decide (m.orig = eB) &&                                             (decide (m.data = eB) &&                                               true)))))))))))))))))))))))
               (ifb (decide ((↑m.list.length : Int) = (0 : Int)))
                (post (FV.bool true) ([]))
                (post (FV.bool false) ([])))
               (post (FV.bool false) ([])))
              (ifb (decide (m.kind = (13 : Int)))
               (ifb (decide (m.kind = m.kind) &&   (decide (m.cmd = (0 : Int)) &&     (decide (m.ver = (0 : Int)) &&       (decide (m.family = (0 : Int)) &&         (decide ((0 : Int) = (0 : Int)) &&           (decide ((0 : Int) = (0 : Int)) &&             (decide (m.tag = (0 : Int)) &&               (decide (m.metric = (0 : Int)) &&                 (decide ((0 : Int) = (0 : Int)) &&                   (decide (m.seq2 = (0 : Int)) &&                     (decide (m.interval = (0 : Int)) &&                       (decide (m.flags = (0 : Int)) &&                         (decide ((0 : Int) = (0 : Int)) &&                           (decide (m.nonce = (0 : Int)) &&                             (decide (m.cost = (0 : Int)) &&                               (decide (m.type = (0 : Int)) &&                                 (decide (m.auth = eB) &&                                   (decide (eB = eB) &&                                     (decide (m.next = eB) &&                                       (decide (eB = eB) &&                                         (decide (m.addr = eB) &&                                           (decide (m.orig = eB) &&                                             (decide (m.data = eB) &&                                               true)))))))))))))))))))))))
                (ifb (decide ((↑m.list.length : Int) = (0 : Int)))
                 (post (FV.bool true) ([]))
                 (post (FV.bool false) ([])))
                (post (FV.bool false) ([])))
               (ifb (decide (m.kind = (14 : Int)))
                (ifb (decide (m.kind = m.kind) &&   (decide (m.cmd = (0 : Int)) &&     (decide (m.ver = (0 : Int)) &&       (decide (m.family = (0 : Int)) &&         (decide (m.ae = (0 : Int)) &&           (decide (m.plen = (0 : Int)) &&             (decide (m.tag = (0 : Int)) &&               (decide (m.metric = (0 : Int)) &&                 (decide (m.seq = (0 : Int)) &&                   (decide (m.seq2 = (0 : Int)) &&                     (decide (m.interval = (0 : Int)) &&                       (decide (m.flags = (0 : Int)) &&                         (decide (m.hops = (0 : Int)) &&                           (decide (m.nonce = (0 : Int)) &&                             (decide (m.cost = (0 : Int)) &&                               (decide ((0 : Int) = (0 : Int)) &&                                 (decide (m.auth = eB) &&                                   (decide (m.pfx = eB) &&                                     (decide (m.next = eB) &&                                       (decide (m.id = eB) &&                                         (decide (m.addr = eB) &&                                           (decide (m.orig = eB) &&                                             (decide (eB = eB) &&                                               true)))))))))))))))))))))))
                 (ifb (decide ((↑m.list.length : Int) = (0 : Int)))
                  (post (FV.bool (decide ((↑m.subs.length : Int) = (0 : Int)))) ([]))
                  (post (FV.bool false) ([])))
                 (post (FV.bool false) ([])))
                (post (FV.bool false) ([])))))))))))))))) := by kernel_rfl
theorem c130 : CallSound Tryz.prog et 130 s130 := by
 delta s130
 exact pure_man ct1_ok ttOK Tryz.func130 (by kernel_rfl) LoopsOK.none [] (fun ⟨m, _⟩ ha => by
  refine FFun.of (w130 m _) ?_
  rcases m with ⟨kind, cmd, ver, auth, family, ae, pfx, plen, tag, next, metric, id, seq, seq2, interval, flags, hops, nonce, cost, addr, orig, list, type, data, subs⟩
  repeat' (first | (refine ifb_i (fun _ => ?_) (fun _ => ?_)) | (refine And.intro ?_ ?_))
  all_goals
    simp only [Bool.and_eq_true, Bool.and_eq_false_imp, decide_eq_true_eq, decide_eq_false_iff_not] at *
  all_goals simp [nzr, nz, Rb.bare, Rb.core, Rb.nought, *]
  all_goals first
    | (simp_all; done)
    | (intros; subst_vars; simp_all; done)
    | (intros; simp_all; done))
theorem w210 (l : List SubT) (post : FV → List (List FV) → Prop) : ffun tt ct1 [] Tryz.f210 [.sl (.sub l)] [] post =
  ((decide (l.length ≤ (1099511627776 : Nat))) = true ∧
  (post (FV.bool (Rb.subsOK l (0 : Int) (255 : Int))) ([]))) := by kernel_rfl
theorem c210 : CallSound Tryz.prog et 210 s210 := by
 delta s210
 exact pure_man ct1_ok ttOK Tryz.func210 (by kernel_rfl) LoopsOK.none [] (fun ⟨l, _⟩ ha => by
  refine FFun.of (w210 l _) ?_
  simp at ha
  refine ⟨by simpa using ha, rfl, rfl⟩)
theorem w217 (l : List SubT) (post : FV → List (List FV) → Prop) : ffun tt ct1 [] Tryz.f217 [.sl (.sub l)] [] post =
  ((decide (l.length ≤ (1099511627776 : Nat))) = true ∧
  (ifb (Rb.subsOK l (2 : Int) (127 : Int))
   ((smallS l) = true ∧
   (post (FV.bool (decide ((↑(Rb.subBytes l) : Int) ≤ (200 : Int)))) ([])))
   (post (FV.bool false) ([])))) := by kernel_rfl
theorem c217 : CallSound Tryz.prog et 217 s217 := by
 delta s217
 exact pure_man ct1_ok ttOK Tryz.func217 (by kernel_rfl) LoopsOK.none [] (fun ⟨l, _⟩ ha => by
  refine FFun.of (w217 l _) ?_
  simp at ha
  have hs := ha
  simp [smallS] at hs
  have := subs_len l
  refine ⟨by simp; omega, ?_⟩
  repeat' (first | (refine ifb_i (fun _ => ?_) (fun _ => ?_)) | (refine And.intro ?_ ?_))
  all_goals simp_all [nzr, nz, Rb.subRight]
  all_goals omega)
theorem ct2_ok : CallsOK Tryz.prog et ct2 := (CallsOK.put (CallsOK.put (CallsOK.put (CallsOK.put (CallsOK.put (CallsOK.put ct1_ok c217) c210) c130) c199) c248) c207)
end Go.Proofs.Fw
