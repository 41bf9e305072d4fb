/- awake of the Chain laws comes back true, from wherever. -/
import Derived.Test.YtfkboondffejaaaGreatDoorE17
import Derived.Test.YtfkboondffejaaaGreatDoorE11
import Derived.Test.YtfkboondffejaaaGreatDoorE09
import Derived.Test.YtfkboondffejaaaGreatDoorE16
set_option linter.all false
set_option linter.unusedVariables false
set_option linter.unusedSimpArgs false
set_option linter.deprecated false
set_option maxRecDepth 100000
set_option linter.unusedVariables false
namespace Go.Proofs
namespace YtfkboondffejaaaGreatDoor
namespace Sg
theorem xkOk {G' : Gl} : XOk Tryz.prog G' xk := by
  intro f x h
  replace h : (bif Nat.beq f 134 then some xlist else none) = some x := h
  cases e : Nat.beq f 134
  · rw [e] at h; cases h
  · rw [e] at h
    cases h
    obtain rfl := ofb e
    exact xlist_ok
theorem gkr : GR gk g0 := by
  intro n cs h
  unfold gk at h
  cases e : Nat.beq n 0
  · rw [e] at h
    cases e2 : Nat.beq n 3
    · rw [e2] at h; cases h
    · rw [e2] at h
      cases h
      obtain rfl := ofb e2
      exact ⟨_, rfl, .cons _ _ _ _ (.sis _ _ _ rfl) .nil⟩
  · rw [e] at h
    cases h
    obtain rfl := ofb e
    exact ⟨_, rfl, .cons _ _ _ _ (.sis _ _ _ rfl) .nil⟩
theorem awake_run {G' : Gl} (hG : GR gk G') : CallOb Tryz.prog G' 7 [] [] 1 (fun v _ _ => v = .iv (.bool true)) := by
  refine call_sound (T := tab) (f := 7) (F := c7) (vs := []) (S := .nil) (nx := .h) (fr := kFT c7.fr0) tabOk (by kernel_rfl) .nil (fun n o h => ?_) (by kernel_rfl) ?_
  · rw [KH.get_nil] at h; cases h
  · refine seg hG tabOk xkOk sg0 (seg hG tabOk xkOk sg1 (seg hG tabOk xkOk sg2 (seg hG tabOk xkOk sg3 (seg hG tabOk xkOk sg4 (seg hG tabOk xkOk sg5 (seg hG tabOk xkOk sg6 (seg hG tabOk xkOk sg7 (seg hG tabOk xkOk sg8 (seg hG tabOk xkOk sg9 (seg hG tabOk xkOk sg10 ?_))))))))))
    intro v' S' hv _
    cases hv with
    | iv _ _ h => cases h; rfl
theorem f7 {S : SH} {nx : Nat} {K : SV → SH → Nat → Prop} (h : K (.iv (.bool true)) S nx) : CallOb Tryz.prog g0 7 [] S nx K := closed_ob (awake_run gkr) h
end Sg
end YtfkboondffejaaaGreatDoor
end Go.Proofs
set_option maxRecDepth 100000
set_option maxHeartbeats 8000000
set_option linter.unusedVariables false
set_option linter.unusedSimpArgs false
namespace Go.Proofs
namespace YtfkboondffejaaaGreatDoor
namespace Sg
attribute [local irreducible] CallOb
theorem law3 (b : List UInt8) (hb : b.length = 32) (v : Ev) (hv : v.Ok) : CallOb Tryz.prog g0 3 [.agg [.iv (.sbs 32 b)], v.sv] [] 1 (fun r _ _ => r = .iv (.bool true)) := by
  refine body_ok ck3 ?_
  conv => whnf
  refine f7 ?_
  conv => whnf
  cases hf : formB v
  · refine f8n b v hv hf ?_
    conv => whnf
    refine f9 v hv ?_
    rw [hf]
    conv => whnf
    repeat ((first | (refine And.intro ?_ ?_; · (simp only [minI, maxI]; omega)) | (refine vc_mk ?_ ?_; · first | omega | exact ⟨rfl, rfl⟩ | (simp [sub] <;> omega)) | (refine beq_yes ?_ ?_; · rfl) | (refine beq_no ?_ ?_; · omega)); conv => whnf)
    rfl
  · refine f8 b hb v hv hf ?_
    conv => whnf
    refine f9 v hv ?_
    rw [hf]
    conv => whnf
    repeat ((first | (refine And.intro ?_ ?_; · (simp only [minI, maxI]; omega)) | (refine vc_mk ?_ ?_; · first | omega | exact ⟨rfl, rfl⟩ | (simp [sub] <;> omega)) | (refine beq_yes ?_ ?_; · rfl) | (refine beq_no ?_ ?_; · omega)); conv => whnf)
    refine f11 ?_
    conv => whnf
    repeat ((first | (refine And.intro ?_ ?_; · (simp only [minI, maxI]; omega)) | (refine vc_mk ?_ ?_; · first | omega | exact ⟨rfl, rfl⟩ | (simp [sub] <;> omega)) | (refine beq_yes ?_ ?_; · rfl) | (refine beq_no ?_ ?_; · omega)); conv => whnf)
    refine f10 b hb v hv hf ?_
    conv => whnf
    repeat ((first | (refine And.intro ?_ ?_; · (simp only [minI, maxI]; omega)) | (refine vc_mk ?_ ?_; · first | omega | exact ⟨rfl, rfl⟩ | (simp [sub] <;> omega)) | (refine beq_yes ?_ ?_; · rfl) | (refine beq_no ?_ ?_; · omega)); conv => whnf)
    simp
end Sg
end YtfkboondffejaaaGreatDoor
end Go.Proofs
