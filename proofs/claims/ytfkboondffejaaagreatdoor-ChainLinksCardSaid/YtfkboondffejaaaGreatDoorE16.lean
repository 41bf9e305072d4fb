/- Link of the reference; its tables. -/
import Derived.Test.YtfkboondffejaaaGreatDoorE12
import Derived.Test.YtfkboondffejaaaGreatDoorE15
set_option linter.all false
set_option linter.unusedVariables false
set_option linter.unusedSimpArgs false
set_option linter.deprecated false
set_option maxRecDepth 100000
set_option maxHeartbeats 8000000
set_option linter.unusedVariables false
set_option linter.unusedSimpArgs false
namespace Go.Proofs
namespace YtfkboondffejaaaGreatDoor
namespace Sg
attribute [local irreducible] CallOb
abbrev tabS : SV := .agg [.iv (.sis .u32 8 (firstV.l.map wi)), .iv (.sis .u32 64 (partsW.map wi))]
theorem mkOk : XOk Tryz.prog g0 Mk.xk := by
  intro f x h
  replace h : (bif Nat.beq f 26 then some xroot else none) = some x := h
  cases e : Nat.beq f 26
  · rw [e] at h; cases h
  · rw [e] at h
    cases h
    obtain rfl := ofb e
    exact xroot_ok
theorem mkTab : TOk Tryz.prog Mk.tab := TT.ok (t := .nd 25 (.lf 11 c11) (.lf 25 c25)) ⟨ck11, ck25⟩
theorem gr0 : GR Mk.gk g0 := by
  intro n cs h
  unfold Mk.gk at h
  cases e : Nat.beq n 0
  · rw [e] at h
    cases e2 : Nat.beq n 3
    · rw [e2] at h; cases h
    · rw [e2] at h
      cases h
      obtain rfl := ofb e2
      exact ⟨_, rfl, .cons _ _ _ _ (.sis _ _ _ rfl) .nil⟩
  · rw [e] at h
    cases h
    obtain rfl := ofb e
    exact ⟨_, rfl, .cons _ _ _ _ (.sis _ _ _ rfl) .nil⟩
theorem make_run : CallOb Tryz.prog g0 11 [] [] 1 (fun v _ _ => v = tabS) := by
  refine call_sound (T := Mk.tab) (f := 11) (F := c11) (vs := []) (S := .nil) (nx := .h) (fr := kFT c11.fr0) mkTab (by kernel_rfl) .nil (fun n o h => ?_) (by kernel_rfl) ?_
  · rw [KH.get_nil] at h; cases h
  · refine seg gr0 mkTab mkOk Mk.sg0 (seg gr0 mkTab mkOk Mk.sg1 (seg gr0 mkTab mkOk Mk.sg2 ?_))
    intro v' S' hv _
    cases hv with
    | agg _ _ h =>
      cases h with | cons _ _ _ _ h1 h =>
      cases h with | cons _ _ _ _ h2 h =>
      cases h
      cases h1 with | iv _ _ h1 =>
      cases h1
      cases h2 with | iv _ _ h2 =>
      cases h2
      rfl
    | iv _ _ h => cases h
section
variable {S : SH} {nx : Nat} {K : SV → SH → Nat → Prop}
theorem f11 (h : K tabS S nx) : CallOb Tryz.prog g0 11 [] S nx K := flat_ob make_run .nil (fun v e => by subst e; exact ⟨rfl, h⟩)
theorem f24 {a : SV} (p : List UInt8) (hp : p.length ≤ 1099511627776) (hl : Lend S a (.iv (.ib p))) (h : K (.agg [.iv (.sbs 32 (sha partsW firstV p))]) S nx) : CallOb Tryz.prog g0 24 [tabS, a] S nx K :=
  flat_ob (f24c p hp) (.cons _ _ _ _ (.same _ rfl) (.cons _ _ _ _ hl .nil)) (fun v e => by subst e; exact ⟨rfl, h⟩)
theorem f10 (b : List UInt8) (hb : b.length = 32) (v : Ev) (hv : v.Ok) (hf : formB v = true) (h : K (.agg [.iv (.sbs 32 (linkB b v))]) S nx) : CallOb Tryz.prog g0 10 [tabS, .agg [.iv (.sbs 32 b)], v.sv] S nx K := by
  refine flat_ob (R := fun r => r = .agg [.iv (.sbs 32 (linkB b v))]) (xs := [tabS, .agg [.iv (.sbs 32 b)], v.sv]) ?_ (.cons _ _ _ _ (.same _ rfl) (.cons _ _ _ _ (.same _ rfl) (.cons _ _ _ _ (.same _ rfl) .nil))) (by rintro r rfl; exact ⟨rfl, h⟩)
  obtain ⟨e1, e2⟩ := encB_len hf
  refine body_ok ck10 ?_
  conv => whnf
  repeat ((first | (refine And.intro ?_ ?_; · (simp only [minI, maxI]; omega)) | (refine vc_mk ?_ ?_; · first | omega | exact ⟨rfl, rfl⟩ | (simp [sub, be8_len] <;> omega)) | (refine beq_yes ?_ ?_; · rfl) | (refine beq_no ?_ ?_; · omega)); conv => whnf)
  refine f17 v hv hf ?_
  conv => whnf
  repeat ((first | (refine And.intro ?_ ?_; · (simp only [minI, maxI]; omega)) | (refine vc_mk ?_ ?_; · first | omega | exact ⟨rfl, rfl⟩ | (simp [sub, be8_len] <;> omega)) | (refine beq_yes ?_ ?_; · rfl) | (refine beq_no ?_ ?_; · omega)); conv => whnf)
  refine f24 (b ++ encB v) (by simp; omega) (lend_sl get_hd ?_ ?_) ?_
  · simp [sub, ← hb]
  · simp [sub, hb]
  · conv => whnf
    rfl
end
end Sg
end YtfkboondffejaaaGreatDoor
end Go.Proofs
