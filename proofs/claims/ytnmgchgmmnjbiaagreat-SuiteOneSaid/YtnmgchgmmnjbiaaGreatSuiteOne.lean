/- Proved: Rows.SuiteOneSaid: for every message the law SuiteOne returns true and its argument reads as before. Conditions: none beyond the form's own. -/
import Derived.Test.YtnmgchgmmnjbiaaGreatRows
import Derived.Test.YtnmgchgmmnjbiaaGreatFi
import Derived.Test.YtnmgchgmmnjbiaaGreatFk
import Derived.Test.YtnmgchgmmnjbiaaGreatSuiteOneF
import Derived.Test.YtnmgchgmmnjbiaaGreatSuiteOneG
import Derived.Test.YtnmgchgmmnjbiaaGreatFj
import Derived.WalkKit
import Derived.ProofKit
import Derived.OpenShut
import Derived.ShutString
import Derived.ChangeOld
import Derived.Below
set_option linter.unusedVariables false
set_option linter.unusedSimpArgs false
namespace Go.Proofs.YtnmgchgmmnjbiaaGreat.suiteOneDone
open Go Go.ChangeShapes Go.WideShapes Go.ChangeAt Go.RowKit Go.Proofs.Fw
theorem own : ownKnob Tryz.prog.godebug = none := by kernel_rfl
theorem laidOut : laidOutB Tryz.prog = true := by kernel_rfl
theorem mem_of {m : Msg} (k : Msg.Ok m) : memOK m = true := by
  have hr : reachBytes ≤ 281474976710656 := by decide
  have e1 : Tryz.prog.bytesOf 83 = 24 := by kernel_rfl
  have e2 : Tryz.prog.bytesOf 85 = 24 := by kernel_rfl
  have k1 := k.list.1
  have k2 := k.subs.1
  rw [e1] at k1
  rw [e2] at k2
  have k3 := k.auth
  have k4 := k.pfx
  have k5 := k.next
  have k6 := k.id
  have k7 := k.addr
  have k8 := k.orig
  have k9 := k.data
  unfold strOK at k3 k4 k5 k6 k7 k8 k9
  simp only [memOK, Bool.and_eq_true, decide_eq_true_eq]
  omega
set_option maxRecDepth 100000 in
theorem lifted (os : Os) (started : os.Started) (H : Type) (enc : TypeId × Value → H) :
    ReturnsInHanded {} Tryz.checked os 6 .any (Rows.suiteOneSpec.pre6 enc Tryz.prog Tryz.f6 Rows.suiteOneRow.domain false) (Rows.suiteOneSpec.post enc Tryz.prog Tryz.f6 false true false false) := by
  refine returnsInHanded_of_change_sized (C := Tryz.checked) own started (by kernel_rfl) Tryz.func6
    (ChangeSpec.witness6 (enc := enc) (C := Tryz.checked) false ⟨#[], #[.agg #[.int .i64 0, .int .i64 0, .int .i64 0, .string ⟨#[]⟩, .int .i64 0, .int .i64 0, .string ⟨#[]⟩, .int .i64 0, .int .i64 0, .string ⟨#[]⟩, .int .i64 0, .string ⟨#[]⟩, .int .i64 0, .int .i64 0, .int .i64 0, .int .i64 0, .int .i64 0, .int .i64 0, .int .i64 0, .string ⟨#[]⟩, .string ⟨#[]⟩, .slice none 0 0, .int .i64 0, .string ⟨#[]⟩, .slice none 0 0]], []⟩ 8 (by kernel_rfl) (by kernel_rfl) (by kernel_rfl) (by kernel_rfl)) ?_
  intro W base args ds gs before hval0 hW hcnd hsz _
  have hval : ∀ (j : Nat) t v, Tryz.f6.params[j]? = some t → args[j]? = some v → Value.okWide Tryz.prog W .any base t v := hval0
  have hW' := hW
  obtain ⟨p, q, hA0, hV, rfl, hfz, hnd⟩ := hW
  have hA : DataW.TrodAll enc Tryz.prog W 0 (fun _ => true) true Tryz.f6.params.toList args.toList ds p := hA0
  rw [Tryz.params6] at hA hval
  obtain ⟨v0, vs0, d0, ds0, p0, q0, hargs, rfl, rfl, h0, r0⟩ := trodAll_cons hA
  obtain ⟨rfl, rfl, rfl⟩ := trodAll_nil r0
  obtain rfl : args = #[v0] := by cases args; simp_all
  obtain ⟨rfl, rfl⟩ := trodVars_none hV
  obtain ⟨cs0, rfl, hcs⟩ := okWide_struct Tryz.underlying29 (hval 0 29 v0 rfl rfl)
  have k0 := h0
  have lt0 : ∀ x ∈ p0, x.block < W.heap.size := by obtain ⟨m, hm⟩ := k0; exact DataW.trod_lt m _ _ _ hm
  obtain ⟨fuel, hf⟩ := h0
  obtain ⟨m, hok, hrep⟩ := open_Msg (M := mutB (entry [] [] []) (mem0 W)) (mut0 W) fuel cs0.toList (d0, p0) hf (fun b hb => by
    have := List.all_eq_true.1 hsz b (DataW.weights_mem_each (j := 0) (t := 29) (d := d0) rfl rfl b hb)
    simpa using this)
  clear hA0 hval0
  refine (law_calls c6 (W := W) (xs := [m.fv]) (vs := [.agg cs0]) ⟨argS (cs := m.fv.cells) hrep rfl, trivial⟩ rfl (asks := [memOK m]) rfl (by simpa using mem_of hok)).mono fun e W' ⟨he, bel⟩ => ?_
  subst he
  exact ⟨_, rfl, _, _, _, [], _, [], hW', trodAll_mk1 (shut_bool Tryz.underlying4 _), (trodAll_cons_mk (Below.trod laidOut (by kernel_rfl) (of_decide_eq_true (by kernel_rfl)) k0 bel lt0) trodAll_mk0), rfl, bel.frame _, fun h => by cases h⟩
set_option maxRecDepth 100000
theorem closed : joinedFacts Tryz.prog 6 Tryz.f6 Rows.suiteOneSpec Rows.suiteOneRow = true := by
  unfold joinedFacts
  exact (am (am (am (am (am (am (am (am (am (am (am (am (am (am (am (am (am (am (am (am (am (am (am (am (am (am (am (am (am (am (am j0 pj1) pj2) j3) j4) j5) pj6) j7) pj8) j9) j10) j11) j12) j13) j14) j15) j16) j17) j18) j19) j20) j21) j22) j23) pj24) pj25) j26) j27) j28) j29) j30) j31)
theorem over : Rows.suiteOneRow.holds Tryz.pinned (OpenSpec.ofChange Rows.suiteOneSpec) :=
  OpenClaim.holds_of_wide 6 Tryz.f6 rfl rfl rfl rfl rfl rfl rfl ⟨rfl, rfl, rfl, rfl, rfl⟩ rfl rfl rfl rfl rfl (by kernel_rfl) Tryz.func6 closed
    (of_decide_eq_true (by kernel_rfl)) (by unfold Func.isWrapper; first | (rw [if_pos (by decide +kernel)]; kernel_rfl) | (rw [if_neg (by decide +kernel)]; exact ⟨rfl, rfl⟩))
    (fun os started H enc _ => lifted os started H enc)
theorem proved : Rows.SuiteOneSaid := over
#print axioms proved
end Go.Proofs.YtnmgchgmmnjbiaaGreat.suiteOneDone
