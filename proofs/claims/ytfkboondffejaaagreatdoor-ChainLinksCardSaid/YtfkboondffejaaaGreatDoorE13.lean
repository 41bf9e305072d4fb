/- The reference's great numbers and roots. -/
import Derived.Test.YtfkboondffejaaaGreatDoorE09
set_option linter.all false
set_option linter.unusedVariables false
set_option linter.unusedSimpArgs false
set_option linter.deprecated false
set_option maxRecDepth 100000
set_option maxHeartbeats 8000000
set_option linter.unusedVariables false
set_option linter.unusedSimpArgs false
namespace Go.Proofs
namespace YtfkboondffejaaaGreatDoor
namespace Sg
attribute [local irreducible] CallOb
def ni (n : Nat) : Int := (n : Int)
theorem getD_ni (l : List Nat) (i : Nat) : (l.map ni).getD i 0 = ((l.getD i 0 : Nat) : Int) := by
  rw [List.getD_eq_getElem?_getD, List.getD_eq_getElem?_getD, List.getElem?_map]
  cases l[i]? <;> rfl
theorem set_ni (l : List Nat) (i n : Nat) : (l.map ni).set i (n : Int) = (l.set i n).map ni := by simp [List.map_set, ni]
theorem and32 (v : Nat) (h : v < 18446744073709551616) : bitI .and .u64 (v : Int) 4294967295 = ((v % 4294967296 : Nat) : Int) := by
  unfold bitI
  have e1 : (BitVec.ofInt IntKind.u64.bits (v : Int)).toNat = v := by
    show (BitVec.ofInt 64 (v : Int)).toNat = v
    rw [BitVec.ofInt_natCast]; simp; omega
  have e2 : (BitVec.ofInt IntKind.u64.bits 4294967295).toNat = 2 ^ 32 - 1 := by decide
  simp only [BitVec.toNat_and, e1, e2, Nat.and_two_pow_sub_one_eq_mod]
  rw [wr64]
  omega
theorem shrN (v k : Nat) : shrI (v : Int) k = ((v / 2 ^ k : Nat) : Int) := by
  unfold shrI
  rw [show ((2 : Int) ^ k) = ((2 ^ k : Nat) : Int) by simp, Int.fdiv_eq_ediv_of_nonneg _ (Int.natCast_nonneg _), ← Int.natCast_ediv]
def tv (ai bj c o : Nat) : Nat := (((ai * bj) % 18446744073709551616 + c) % 18446744073709551616 + o) % 18446744073709551616
theorem tv_eq (ai bj c o : Nat) : wr .u64 (wr .u64 (wr .u64 ((ai : Int) * (bj : Int)) + (c : Int)) + (o : Int)) = ((tv ai bj c o : Nat) : Int) := by
  unfold tv
  rw [← Int.natCast_mul, wr64, ← Int.natCast_add, wr64, ← Int.natCast_add, wr64]
theorem tv_lt (ai bj c o : Nat) : tv ai bj c o < 18446744073709551616 := Nat.mod_lt _ (by decide)
def tin (ai : Nat) (b : List Nat) (i : Nat) (c : List Nat) : Nat → List Nat × Nat
  | 0 => (c, 0)
  | j + 1 => let s := tin ai b i c j; let v := tv ai (b.getD j 0) (s.1.getD (i + j) 0) s.2; (s.1.set (i + j) (v % 4294967296), v / 4294967296)
def tout (a b : List Nat) : Nat → List Nat
  | 0 => List.replicate 8 0
  | i + 1 => (tin (a.getD i 0) b i (tout a b i) (8 - i)).1
def timesL (a b : List Nat) : List Nat := tout a b 8
section
variable {S : SH} {nx : Nat} {K : SV → SH → Nat → Prop}
theorem f50 (a b : List Nat) (h : K (.agg [.iv (.sis .u64 8 ((timesL a b).map ni))]) S nx) : CallOb Tryz.prog g0 50 [.agg [.iv (.sis .u64 8 (a.map ni))], .agg [.iv (.sis .u64 8 (b.map ni))]] S nx K := by
  refine flat_ob (R := fun r => r = .agg [.iv (.sis .u64 8 ((timesL a b).map ni))]) (xs := [.agg [.iv (.sis .u64 8 (a.map ni))], .agg [.iv (.sis .u64 8 (b.map ni))]]) ?_ (.cons _ _ _ _ (.same _ rfl) (.cons _ _ _ _ (.same _ rfl) .nil)) (by rintro r rfl; exact ⟨rfl, h⟩)
  refine body_ok ck50 ?_
  conv => whnf
  intro I hI
  have key : ∀ m i : Nat, i + m = 8 → ∀ c, c = (tout a b i).map ni →
      FrI F44 [(x66, .ptr 1 0), (x67, .ptr 2 0), (x68, .ptr 3 0), (x69, .ptr 4 0), (x70, .iv (.int .i64 (i : Int)))]
        (fun fr => I fr [(4, .cells [.iv (.sis .u64 8 c)]), (3, .cells [.iv (.sis .u64 8 (List.replicate 8 0))]), (2, .cells [.iv (.sis .u64 8 (b.map ni))]), (1, .cells [.iv (.sis .u64 8 (a.map ni))])] 5) := by
    intro m
    induction m with
    | zero =>
      intro i hi c hc
      subst hc
      obtain rfl : i = 8 := by omega
      refine FrI.mk fun g => ?_
      apply hI
      conv => whnf
      repeat ((first | (refine And.intro ?_ ?_; · (simp only [minI, maxI]; omega)) | (refine vc_mk ?_ ?_; · first | omega | exact ⟨rfl, rfl⟩ | (simp [sub] <;> omega)) | (refine beq_yes ?_ ?_; · rfl) | (refine beq_no ?_ ?_; · omega)); conv => whnf)
      rfl
    | succ m ih =>
      intro i hi c hc
      refine FrI.mk fun g => ?_
      apply hI
      conv => whnf
      refine cond_yes (by simp; omega) ?_
      conv => whnf
      intro I2 hI2
      have key2 : ∀ m j : Nat, i + j + m = 8 → ∀ c o, c = (tin (a.getD i 0) b i (tout a b i) j).1.map ni → o = (((tin (a.getD i 0) b i (tout a b i) j).2 : Nat) : Int) →
          FrI F44 [(x66, .ptr 1 0), (x67, .ptr 2 0), (x68, .ptr 3 0), (x69, .ptr 4 0), (x70, .iv (.int .i64 (i : Int))), (x71, .iv (.int .u64 o)), (x72, .iv (.int .i64 (j : Int)))]
            (fun fr => I2 fr [(4, .cells [.iv (.sis .u64 8 c)]), (3, .cells [.iv (.sis .u64 8 (List.replicate 8 0))]), (2, .cells [.iv (.sis .u64 8 (b.map ni))]), (1, .cells [.iv (.sis .u64 8 (a.map ni))])] 5) := by
        clear hc c
        intro m2
        induction m2 with
        | zero =>
          intro j hj c o hc ho
          refine FrI.mk fun g => ?_
          apply hI2
          conv => whnf
          repeat ((first | (refine And.intro ?_ ?_; · (simp only [minI, maxI]; omega)) | (refine vc_mk ?_ ?_; · first | omega | exact ⟨rfl, rfl⟩ | (simp [sub] <;> omega)) | (refine beq_yes ?_ ?_; · rfl) | (refine beq_no ?_ ?_; · omega)); conv => whnf)
          refine cond_no (by simp; omega) ?_
          conv => whnf
          repeat ((first | (refine And.intro ?_ ?_; · (simp only [minI, maxI]; omega)) | (refine vc_mk ?_ ?_; · first | omega | exact ⟨rfl, rfl⟩ | (simp [sub] <;> omega)) | (refine beq_yes ?_ ?_; · rfl) | (refine beq_no ?_ ?_; · omega)); conv => whnf)
          refine ih (i + 1) (by omega) _ ?_ _ rfl ⟨rfl, rfl, rfl, rfl, rfl, trivial⟩
          rw [hc, show j = 8 - i by omega]; rfl
        | succ m2 ih2 =>
          intro j hj c o hc ho
          refine FrI.mk fun g => ?_
          subst hc ho
          apply hI2
          conv => whnf
          repeat ((first | (refine And.intro ?_ ?_; · (simp only [minI, maxI]; omega)) | (refine vc_mk ?_ ?_; · first | omega | exact ⟨rfl, rfl⟩ | (simp [sub] <;> omega)) | (refine beq_yes ?_ ?_; · rfl) | (refine beq_no ?_ ?_; · omega)); conv => whnf)
          refine cond_yes (by simp; omega) ?_
          conv => whnf
          repeat ((first | (refine And.intro ?_ ?_; · (simp only [minI, maxI]; omega)) | (refine vc_mk ?_ ?_; · first | omega | exact ⟨rfl, rfl⟩ | (simp [sub] <;> omega)) | (refine beq_yes ?_ ?_; · rfl) | (refine beq_no ?_ ?_; · omega)); conv => whnf)
          have e : wr .u64 (wr .u64 (wr .u64 ((a.map ni).getD ((i : Int)).toNat 0 * (b.map ni).getD ((j : Int)).toNat 0) + ((tin (a.getD i 0) b i (tout a b i) j).1.map ni).getD ((i : Int) + (j : Int)).toNat 0) + (((tin (a.getD i 0) b i (tout a b i) j).2 : Nat) : Int))
              = ((tv (a.getD i 0) (b.getD j 0) ((tin (a.getD i 0) b i (tout a b i) j).1.getD (i + j) 0) (tin (a.getD i 0) b i (tout a b i) j).2 : Nat) : Int) := by
            rw [show ((i : Int) + (j : Int)).toNat = i + j by omega, Int.toNat_natCast, Int.toNat_natCast, getD_ni, getD_ni, getD_ni, tv_eq]
          refine ih2 (j + 1) (by omega) _ _ ?_ ?_ _ rfl ⟨rfl, rfl, rfl, rfl, rfl, rfl, rfl, trivial⟩
          · rw [e, and32 _ (tv_lt _ _ _ _), show ((i : Int) + (j : Int)).toNat = i + j by omega, set_ni]; rfl
          · rw [e, show ((32 : Int)).toNat = 32 from rfl, shrN]; rfl
      refine key2 (8 - i) 0 (by omega) c 0 ?_ rfl _ rfl ⟨rfl, rfl, rfl, rfl, rfl, rfl, rfl, trivial⟩
      rw [hc]; rfl
  refine key 8 0 rfl _ rfl _ rfl ⟨rfl, rfl, rfl, rfl, rfl, trivial⟩
def aboveL : List Nat → List Nat → Bool → Bool
  | [], [], r => r
  | x :: xs, y :: ys, r => aboveL xs ys (if x = y then r else decide (y < x))
  | _, _, r => r
theorem f51 (a0 a1 a2 a3 a4 a5 a6 a7 b0 b1 b2 b3 b4 b5 b6 b7 : Nat) (h : K (.iv (.bool (aboveL [a0, a1, a2, a3, a4, a5, a6, a7] [b0, b1, b2, b3, b4, b5, b6, b7] false))) S nx) :
    CallOb Tryz.prog g0 51 [.agg [.iv (.sis .u64 8 ([a0, a1, a2, a3, a4, a5, a6, a7].map ni))], .agg [.iv (.sis .u64 8 ([b0, b1, b2, b3, b4, b5, b6, b7].map ni))]] S nx K := by
  refine flat_ob (R := fun r => r = .iv (.bool (aboveL [a0, a1, a2, a3, a4, a5, a6, a7] [b0, b1, b2, b3, b4, b5, b6, b7] false))) (xs := [.agg [.iv (.sis .u64 8 ([a0, a1, a2, a3, a4, a5, a6, a7].map ni))], .agg [.iv (.sis .u64 8 ([b0, b1, b2, b3, b4, b5, b6, b7].map ni))]]) ?_ (.cons _ _ _ _ (.same _ rfl) (.cons _ _ _ _ (.same _ rfl) .nil)) (by rintro r rfl; exact ⟨rfl, h⟩)
  refine body_ok ck51 ?_
  conv => whnf
  intro I hI
  apply hI
  conv => whnf
  repeat ((first | (refine And.intro ?_ ?_; · (simp only [minI, maxI]; omega)) | (refine vc_mk ?_ ?_; · first | omega | exact ⟨rfl, rfl⟩ | (simp [sub] <;> omega)) | (refine beq_yes ?_ ?_; · rfl) | (refine beq_no ?_ ?_; · omega)); conv => whnf)
  refine cond_mk (fun c7 => ?_) (fun c7 => ?_)
  · conv => whnf
    repeat ((first | (refine And.intro ?_ ?_; · (simp only [minI, maxI]; omega)) | (refine vc_mk ?_ ?_; · first | omega | exact ⟨rfl, rfl⟩ | (simp [sub] <;> omega)) | (refine beq_yes ?_ ?_; · rfl) | (refine beq_no ?_ ?_; · omega)); conv => whnf)
    clear hI
    have c : (a7 : Nat) ≠ b7 := by intro e; subst e; simp [ni] at c7
    simp [aboveL, ni, *]
  conv => whnf
  repeat ((first | (refine And.intro ?_ ?_; · (simp only [minI, maxI]; omega)) | (refine vc_mk ?_ ?_; · first | omega | exact ⟨rfl, rfl⟩ | (simp [sub] <;> omega)) | (refine beq_yes ?_ ?_; · rfl) | (refine beq_no ?_ ?_; · omega)); conv => whnf)
  have c7 : a7 = b7 := by simp [ni] at c7; omega
  apply hI
  conv => whnf
  repeat ((first | (refine And.intro ?_ ?_; · (simp only [minI, maxI]; omega)) | (refine vc_mk ?_ ?_; · first | omega | exact ⟨rfl, rfl⟩ | (simp [sub] <;> omega)) | (refine beq_yes ?_ ?_; · rfl) | (refine beq_no ?_ ?_; · omega)); conv => whnf)
  refine cond_mk (fun c6 => ?_) (fun c6 => ?_)
  · conv => whnf
    repeat ((first | (refine And.intro ?_ ?_; · (simp only [minI, maxI]; omega)) | (refine vc_mk ?_ ?_; · first | omega | exact ⟨rfl, rfl⟩ | (simp [sub] <;> omega)) | (refine beq_yes ?_ ?_; · rfl) | (refine beq_no ?_ ?_; · omega)); conv => whnf)
    clear hI
    have c : (a6 : Nat) ≠ b6 := by intro e; subst e; simp [ni] at c6
    simp [aboveL, ni, *]
  conv => whnf
  repeat ((first | (refine And.intro ?_ ?_; · (simp only [minI, maxI]; omega)) | (refine vc_mk ?_ ?_; · first | omega | exact ⟨rfl, rfl⟩ | (simp [sub] <;> omega)) | (refine beq_yes ?_ ?_; · rfl) | (refine beq_no ?_ ?_; · omega)); conv => whnf)
  have c6 : a6 = b6 := by simp [ni] at c6; omega
  apply hI
  conv => whnf
  repeat ((first | (refine And.intro ?_ ?_; · (simp only [minI, maxI]; omega)) | (refine vc_mk ?_ ?_; · first | omega | exact ⟨rfl, rfl⟩ | (simp [sub] <;> omega)) | (refine beq_yes ?_ ?_; · rfl) | (refine beq_no ?_ ?_; · omega)); conv => whnf)
  refine cond_mk (fun c5 => ?_) (fun c5 => ?_)
  · conv => whnf
    repeat ((first | (refine And.intro ?_ ?_; · (simp only [minI, maxI]; omega)) | (refine vc_mk ?_ ?_; · first | omega | exact ⟨rfl, rfl⟩ | (simp [sub] <;> omega)) | (refine beq_yes ?_ ?_; · rfl) | (refine beq_no ?_ ?_; · omega)); conv => whnf)
    clear hI
    have c : (a5 : Nat) ≠ b5 := by intro e; subst e; simp [ni] at c5
    simp [aboveL, ni, *]
  conv => whnf
  repeat ((first | (refine And.intro ?_ ?_; · (simp only [minI, maxI]; omega)) | (refine vc_mk ?_ ?_; · first | omega | exact ⟨rfl, rfl⟩ | (simp [sub] <;> omega)) | (refine beq_yes ?_ ?_; · rfl) | (refine beq_no ?_ ?_; · omega)); conv => whnf)
  have c5 : a5 = b5 := by simp [ni] at c5; omega
  apply hI
  conv => whnf
  repeat ((first | (refine And.intro ?_ ?_; · (simp only [minI, maxI]; omega)) | (refine vc_mk ?_ ?_; · first | omega | exact ⟨rfl, rfl⟩ | (simp [sub] <;> omega)) | (refine beq_yes ?_ ?_; · rfl) | (refine beq_no ?_ ?_; · omega)); conv => whnf)
  refine cond_mk (fun c4 => ?_) (fun c4 => ?_)
  · conv => whnf
    repeat ((first | (refine And.intro ?_ ?_; · (simp only [minI, maxI]; omega)) | (refine vc_mk ?_ ?_; · first | omega | exact ⟨rfl, rfl⟩ | (simp [sub] <;> omega)) | (refine beq_yes ?_ ?_; · rfl) | (refine beq_no ?_ ?_; · omega)); conv => whnf)
    clear hI
    have c : (a4 : Nat) ≠ b4 := by intro e; subst e; simp [ni] at c4
    simp [aboveL, ni, *]
  conv => whnf
  repeat ((first | (refine And.intro ?_ ?_; · (simp only [minI, maxI]; omega)) | (refine vc_mk ?_ ?_; · first | omega | exact ⟨rfl, rfl⟩ | (simp [sub] <;> omega)) | (refine beq_yes ?_ ?_; · rfl) | (refine beq_no ?_ ?_; · omega)); conv => whnf)
  have c4 : a4 = b4 := by simp [ni] at c4; omega
  apply hI
  conv => whnf
  repeat ((first | (refine And.intro ?_ ?_; · (simp only [minI, maxI]; omega)) | (refine vc_mk ?_ ?_; · first | omega | exact ⟨rfl, rfl⟩ | (simp [sub] <;> omega)) | (refine beq_yes ?_ ?_; · rfl) | (refine beq_no ?_ ?_; · omega)); conv => whnf)
  refine cond_mk (fun c3 => ?_) (fun c3 => ?_)
  · conv => whnf
    repeat ((first | (refine And.intro ?_ ?_; · (simp only [minI, maxI]; omega)) | (refine vc_mk ?_ ?_; · first | omega | exact ⟨rfl, rfl⟩ | (simp [sub] <;> omega)) | (refine beq_yes ?_ ?_; · rfl) | (refine beq_no ?_ ?_; · omega)); conv => whnf)
    clear hI
    have c : (a3 : Nat) ≠ b3 := by intro e; subst e; simp [ni] at c3
    simp [aboveL, ni, *]
  conv => whnf
  repeat ((first | (refine And.intro ?_ ?_; · (simp only [minI, maxI]; omega)) | (refine vc_mk ?_ ?_; · first | omega | exact ⟨rfl, rfl⟩ | (simp [sub] <;> omega)) | (refine beq_yes ?_ ?_; · rfl) | (refine beq_no ?_ ?_; · omega)); conv => whnf)
  have c3 : a3 = b3 := by simp [ni] at c3; omega
  apply hI
  conv => whnf
  repeat ((first | (refine And.intro ?_ ?_; · (simp only [minI, maxI]; omega)) | (refine vc_mk ?_ ?_; · first | omega | exact ⟨rfl, rfl⟩ | (simp [sub] <;> omega)) | (refine beq_yes ?_ ?_; · rfl) | (refine beq_no ?_ ?_; · omega)); conv => whnf)
  refine cond_mk (fun c2 => ?_) (fun c2 => ?_)
  · conv => whnf
    repeat ((first | (refine And.intro ?_ ?_; · (simp only [minI, maxI]; omega)) | (refine vc_mk ?_ ?_; · first | omega | exact ⟨rfl, rfl⟩ | (simp [sub] <;> omega)) | (refine beq_yes ?_ ?_; · rfl) | (refine beq_no ?_ ?_; · omega)); conv => whnf)
    clear hI
    have c : (a2 : Nat) ≠ b2 := by intro e; subst e; simp [ni] at c2
    simp [aboveL, ni, *]
  conv => whnf
  repeat ((first | (refine And.intro ?_ ?_; · (simp only [minI, maxI]; omega)) | (refine vc_mk ?_ ?_; · first | omega | exact ⟨rfl, rfl⟩ | (simp [sub] <;> omega)) | (refine beq_yes ?_ ?_; · rfl) | (refine beq_no ?_ ?_; · omega)); conv => whnf)
  have c2 : a2 = b2 := by simp [ni] at c2; omega
  apply hI
  conv => whnf
  repeat ((first | (refine And.intro ?_ ?_; · (simp only [minI, maxI]; omega)) | (refine vc_mk ?_ ?_; · first | omega | exact ⟨rfl, rfl⟩ | (simp [sub] <;> omega)) | (refine beq_yes ?_ ?_; · rfl) | (refine beq_no ?_ ?_; · omega)); conv => whnf)
  refine cond_mk (fun c1 => ?_) (fun c1 => ?_)
  · conv => whnf
    repeat ((first | (refine And.intro ?_ ?_; · (simp only [minI, maxI]; omega)) | (refine vc_mk ?_ ?_; · first | omega | exact ⟨rfl, rfl⟩ | (simp [sub] <;> omega)) | (refine beq_yes ?_ ?_; · rfl) | (refine beq_no ?_ ?_; · omega)); conv => whnf)
    clear hI
    have c : (a1 : Nat) ≠ b1 := by intro e; subst e; simp [ni] at c1
    simp [aboveL, ni, *]
  conv => whnf
  repeat ((first | (refine And.intro ?_ ?_; · (simp only [minI, maxI]; omega)) | (refine vc_mk ?_ ?_; · first | omega | exact ⟨rfl, rfl⟩ | (simp [sub] <;> omega)) | (refine beq_yes ?_ ?_; · rfl) | (refine beq_no ?_ ?_; · omega)); conv => whnf)
  have c1 : a1 = b1 := by simp [ni] at c1; omega
  apply hI
  conv => whnf
  repeat ((first | (refine And.intro ?_ ?_; · (simp only [minI, maxI]; omega)) | (refine vc_mk ?_ ?_; · first | omega | exact ⟨rfl, rfl⟩ | (simp [sub] <;> omega)) | (refine beq_yes ?_ ?_; · rfl) | (refine beq_no ?_ ?_; · omega)); conv => whnf)
  refine cond_mk (fun c0 => ?_) (fun c0 => ?_)
  · conv => whnf
    repeat ((first | (refine And.intro ?_ ?_; · (simp only [minI, maxI]; omega)) | (refine vc_mk ?_ ?_; · first | omega | exact ⟨rfl, rfl⟩ | (simp [sub] <;> omega)) | (refine beq_yes ?_ ?_; · rfl) | (refine beq_no ?_ ?_; · omega)); conv => whnf)
    clear hI
    have c : (a0 : Nat) ≠ b0 := by intro e; subst e; simp [ni] at c0
    simp [aboveL, ni, *]
  conv => whnf
  repeat ((first | (refine And.intro ?_ ?_; · (simp only [minI, maxI]; omega)) | (refine vc_mk ?_ ?_; · first | omega | exact ⟨rfl, rfl⟩ | (simp [sub] <;> omega)) | (refine beq_yes ?_ ?_; · rfl) | (refine beq_no ?_ ?_; · omega)); conv => whnf)
  have c0 : a0 = b0 := by simp [ni] at c0; omega
  apply hI
  conv => whnf
  clear hI
  simp [aboveL, *]
end
end Sg
end YtfkboondffejaaaGreatDoor
end Go.Proofs
set_option maxRecDepth 100000
set_option maxHeartbeats 8000000
set_option linter.unusedVariables false
set_option linter.unusedSimpArgs false
namespace Go.Proofs
namespace YtfkboondffejaaaGreatDoor
namespace Sg
section
theorem conv_ob {P : Program} {G : Gl} {f : Nat} {args args' : List SV} {S : SH} {nx : Nat} {K : SV → SH → Nat → Prop} (hc : ∀ ρ hI vs, STup ρ hI args vs → STup ρ hI args' vs) (h : CallOb P G f args' S nx K) : CallOb P G f args S nx K := by
  unfold CallOb at h ⊢
  exact fun ρ hI hF w vs hs hg hv => h ρ hI hF w vs hs hg (hc _ _ _ hv)
end
attribute [local irreducible] CallOb
theorem singles {ρ : Env} {hI : Hp} {k : IntKind} : ∀ {l : List Int} {vs : List Value}, SDens ρ hI (l.map fun n => .iv (.int k n)) vs → vs = l.map (Value.int k)
  | [], _, h => by cases h; rfl
  | n :: l, _, h => by
    cases h with
    | one _ v _ vs hd ho hs =>
      cases hd with
      | iv _ _ hd => cases hd; rw [singles hs]; rfl
theorem agg_sis {ρ : Env} {hI : Hp} {k : IntKind} {l : List Int} {n : Nat} {v : Value} (hn : l.length = n) (h : SDen ρ hI (.agg (l.map fun n => .iv (.int k n))) v) : SDen ρ hI (.agg [.iv (.sis k n l)]) v := by
  cases h with
  | agg _ vs hd =>
    obtain rfl := singles hd
    have := SDens.sis (ρ := ρ) (hI := hI) k n l [] [] hn .nil
    rw [List.append_nil] at this
    exact .agg _ _ this
theorem tin_len (ai : Nat) (b : List Nat) (i : Nat) (c : List Nat) : ∀ j, (tin ai b i c j).1.length = c.length
  | 0 => rfl
  | j + 1 => by simp [tin, tin_len ai b i c j]
theorem tout_len (a b : List Nat) : ∀ i, (tout a b i).length = 8
  | 0 => rfl
  | i + 1 => by simp [tout, tin_len, tout_len a b i]
theorem timesL_len (a b : List Nat) : (timesL a b).length = 8 := tout_len a b 8
attribute [local irreducible] timesL
theorem len8 {α : Type} : ∀ {l : List α}, l.length = 8 → ∃ a b c d e f g h, l = [a, b, c, d, e, f, g, h]
  | [a, b, c, d, e, f, g, h], _ => ⟨a, b, c, d, e, f, g, h, rfl⟩
def mx (m : Nat) : List Nat := [m % 4294967296, m / 4294967296, 0, 0, 0, 0, 0, 0]
section
variable {S : SH} {nx : Nat} {K : SV → SH → Nat → Prop}
theorem f51' (a b : List Nat) (ha : a.length = 8) (hb : b.length = 8) (x y : List Int) (hx : x = a.map ni) (hy : y = b.map ni) (h : K (.iv (.bool (aboveL a b false))) S nx) :
    CallOb Tryz.prog g0 51 [.agg [.iv (.sis .u64 8 x)], .agg [.iv (.sis .u64 8 y)]] S nx K := by
  subst hx hy
  obtain ⟨a0, a1, a2, a3, a4, a5, a6, a7, rfl⟩ := len8 ha
  obtain ⟨b0, b1, b2, b3, b4, b5, b6, b7, rfl⟩ := len8 hb
  exact f51 _ _ _ _ _ _ _ _ _ _ _ _ _ _ _ _ h
theorem f50' (a b : List Nat) (x y : List Int) (hx : x = a.map ni) (hy : y = b.map ni) (h : K (.agg [.iv (.sis .u64 8 ((timesL a b).map ni))]) S nx) :
    CallOb Tryz.prog g0 50 [.agg [.iv (.sis .u64 8 x)], .agg [.iv (.sis .u64 8 y)]] S nx K := by subst hx hy; exact f50 a b h
end
def rst2 (n : Nat) (s : Nat × Nat) : Nat × Nat := let m := (s.1 + s.2) / 2; if aboveL (timesL (mx m) (mx m)) [0, 0, n, 0, 0, 0, 0, 0] false then (s.1, m) else (m, s.2)
def rit2 (n : Nat) : Nat → Nat × Nat
  | 0 => (0, 274877906944)
  | i + 1 => rst2 n (rit2 n i)
def root2 (n : Nat) : Nat := (rit2 n 38).1 % 4294967296
theorem rit2_ok (n : Nat) (i : Nat) : i ≤ 38 → (rit2 n i).2 = (rit2 n i).1 + 2 ^ (38 - i) ∧ (rit2 n i).2 ≤ 274877906944 := by
  induction i with
  | zero => intro _; simp [rit2]
  | succ i ih =>
    intro h
    obtain ⟨h1, h2⟩ := ih (by omega)
    have e : 2 ^ (38 - i) = 2 * 2 ^ (38 - (i + 1)) := by rw [show 38 - i = (38 - (i + 1)) + 1 by omega, Nat.pow_succ, Nat.mul_comm]
    rw [rit2]
    generalize rit2 n i = s at *
    obtain ⟨lo, hg⟩ := s
    simp only at h1 h2
    simp only [rst2]
    split <;> simp only <;> omega
theorem f26_2 {S : SH} {nx : Nat} {K : SV → SH → Nat → Prop} (n : Nat) (hn : n ≤ 1000) (h : K (.iv (.int .u32 (root2 n : Nat))) S nx) : CallOb Tryz.prog g0 26 [.iv (.int .i64 (n : Int)), .iv (.int .i64 2)] S nx K := by
  refine flat_ob (R := fun r => r = .iv (.int .u32 (root2 n : Nat))) (xs := [.iv (.int .i64 (n : Int)), .iv (.int .i64 2)]) ?_ (.cons _ _ _ _ (.same _ rfl) (.cons _ _ _ _ (.same _ rfl) .nil)) (by rintro r rfl; exact ⟨rfl, h⟩)
  refine body_ok ck26 ?_
  conv => whnf
  intro I hI
  have key : ∀ m i : Nat, i + m = 38 → ∀ lo hi : Nat, (lo, hi) = rit2 n i → ∀ S nx,
      FrI F45 [(x64, .iv (.int .i64 (n : Int))), (x65, .iv (.int .i64 2)), (x69, .iv (.int .u64 (lo : Int))), (x70, .iv (.int .u64 (hi : Int)))] (fun fr => I fr S nx) := by
    intro m
    induction m with
    | zero =>
      intro i hi lo hg hr S nx
      obtain rfl : i = 38 := by omega
      have ok := rit2_ok n 38 (by omega)
      rw [← hr] at ok
      simp only at ok
      refine FrI.mk fun g => ?_
      apply hI
      conv => whnf
      rw [show (hg : Int) - (lo : Int) = ((hg - lo : Nat) : Int) by omega, wr64]
      refine cond_no (by simp; omega) ?_
      conv => whnf
      have e : wr .u32 (lo : Int) = ((root2 n : Nat) : Int) := by rw [wr32]; unfold root2; rw [← hr]
      rw [e]
    | succ m ih =>
      intro i hi lo hg hr S nx
      have ok := rit2_ok n i (by omega)
      have hp : 0 < 2 ^ (38 - (i + 1)) := Nat.pos_of_ne_zero (by simp)
      have e2 : 2 ^ (38 - i) = 2 * 2 ^ (38 - (i + 1)) := by rw [show 38 - i = (38 - (i + 1)) + 1 by omega, Nat.pow_succ, Nat.mul_comm]
      rw [← hr] at ok
      simp only at ok
      refine FrI.mk fun g => ?_
      apply hI
      conv => whnf
      rw [show (hg : Int) - (lo : Int) = ((hg - lo : Nat) : Int) by omega, wr64]
      refine cond_yes (by simp; omega) ?_
      conv => whnf
      rw [show wr .u64 ((lo : Int) + (hg : Int)) = ((lo + hg : Nat) : Int) by rw [← Int.natCast_add, wr64]; omega]
      repeat ((first | (refine And.intro ?_ ?_; · (simp only [minI, maxI]; omega)) | (refine vc_mk ?_ ?_; · first | omega | exact ⟨rfl, rfl⟩ | (simp [sub] <;> omega)) | (refine beq_yes ?_ ?_; · rfl) | (refine beq_no ?_ ?_; · omega)); conv => whnf)
      rw [show ((lo + hg : Nat) : Int) / 2 = (((lo + hg) / 2 : Nat) : Int) by omega]
      obtain ⟨m', hm'⟩ : ∃ m', m' = (lo + hg) / 2 := ⟨_, rfl⟩
      rw [← hm']
      have hml : m' < 18446744073709551616 := by omega
      intro I2 hI2
      apply hI2
      conv => whnf
      repeat ((first | (refine And.intro ?_ ?_; · (simp only [minI, maxI]; omega)) | (refine vc_mk ?_ ?_; · first | omega | exact ⟨rfl, rfl⟩ | (simp [sub] <;> omega)) | (refine beq_yes ?_ ?_; · rfl) | (refine beq_no ?_ ?_; · omega)); conv => whnf)
      refine conv_ob (args' := [.agg [.iv (.sis .u64 8 [bitI .and .u64 (m' : Int) 4294967295, shrI (m' : Int) (32 : Int).toNat, 0, 0, 0, 0, 0, 0])], .agg [.iv (.sis .u64 8 [bitI .and .u64 (m' : Int) 4294967295, shrI (m' : Int) (32 : Int).toNat, 0, 0, 0, 0, 0, 0])]]) ?_ ?_
      · intro ρ hI vs h
        cases h with | cons _ v1 _ vs d1 h =>
        cases h with | cons _ v2 _ vs d2 h =>
        exact .cons _ _ _ _ (agg_sis rfl d1) (.cons _ _ _ _ (agg_sis rfl d2) h)
      have hx : [bitI .and .u64 (m' : Int) 4294967295, shrI (m' : Int) (32 : Int).toNat, 0, 0, 0, 0, 0, 0] = (mx m').map ni := by
        rw [and32 _ hml, show (32 : Int).toNat = 32 from rfl, shrN]; rfl
      refine f50' _ _ _ _ hx hx ?_
      conv => whnf
      repeat ((first | (refine And.intro ?_ ?_; · (simp only [minI, maxI]; omega)) | (refine vc_mk ?_ ?_; · first | omega | exact ⟨rfl, rfl⟩ | (simp [sub] <;> omega)) | (refine beq_yes ?_ ?_; · rfl) | (refine beq_no ?_ ?_; · omega)); conv => whnf)
      apply hI2
      conv => whnf
      repeat ((first | (refine And.intro ?_ ?_; · (simp only [minI, maxI]; omega)) | (refine vc_mk ?_ ?_; · first | omega | exact ⟨rfl, rfl⟩ | (simp [sub] <;> omega)) | (refine beq_yes ?_ ?_; · rfl) | (refine beq_no ?_ ?_; · omega)); conv => whnf)
      refine f51' (timesL (mx m') (mx m')) [0, 0, n, 0, 0, 0, 0, 0] (timesL_len _ _) rfl _ _ ?_ ?_ ?_
      · simp only [List.drop_zero]
      · simp [ni, wr64]; omega
      conv => whnf
      refine cond_mk (fun c => ?_) (fun c => ?_)
      · conv => whnf
        refine ih (i + 1) (by omega) lo m' ?_ _ _ _ rfl ⟨rfl, rfl, rfl, rfl, trivial⟩
        rw [rit2, ← hr, rst2]
        simp only [← hm', c, if_true]
      · conv => whnf
        refine ih (i + 1) (by omega) m' hg ?_ _ _ _ rfl ⟨rfl, rfl, rfl, rfl, trivial⟩
        rw [rit2, ← hr, rst2]
        simp only [← hm', c]
        rfl
  refine key 38 0 rfl 0 274877906944 rfl _ _ _ rfl ⟨rfl, rfl, rfl, rfl, trivial⟩
def rst3 (n : Nat) (s : Nat × Nat) : Nat × Nat := let m := (s.1 + s.2) / 2; if aboveL (timesL (timesL (mx m) (mx m)) (mx m)) [0, 0, 0, n, 0, 0, 0, 0] false then (s.1, m) else (m, s.2)
def rit3 (n : Nat) : Nat → Nat × Nat
  | 0 => (0, 274877906944)
  | i + 1 => rst3 n (rit3 n i)
def root3 (n : Nat) : Nat := (rit3 n 38).1 % 4294967296
theorem rit3_ok (n : Nat) (i : Nat) : i ≤ 38 → (rit3 n i).2 = (rit3 n i).1 + 2 ^ (38 - i) ∧ (rit3 n i).2 ≤ 274877906944 := by
  induction i with
  | zero => intro _; simp [rit3]
  | succ i ih =>
    intro h
    obtain ⟨h1, h2⟩ := ih (by omega)
    have e : 2 ^ (38 - i) = 2 * 2 ^ (38 - (i + 1)) := by rw [show 38 - i = (38 - (i + 1)) + 1 by omega, Nat.pow_succ, Nat.mul_comm]
    rw [rit3]
    generalize rit3 n i = s at *
    obtain ⟨lo, hg⟩ := s
    simp only at h1 h2
    simp only [rst3]
    split <;> simp only <;> omega
theorem f26_3 {S : SH} {nx : Nat} {K : SV → SH → Nat → Prop} (n : Nat) (hn : n ≤ 1000) (h : K (.iv (.int .u32 (root3 n : Nat))) S nx) : CallOb Tryz.prog g0 26 [.iv (.int .i64 (n : Int)), .iv (.int .i64 3)] S nx K := by
  refine flat_ob (R := fun r => r = .iv (.int .u32 (root3 n : Nat))) (xs := [.iv (.int .i64 (n : Int)), .iv (.int .i64 3)]) ?_ (.cons _ _ _ _ (.same _ rfl) (.cons _ _ _ _ (.same _ rfl) .nil)) (by rintro r rfl; exact ⟨rfl, h⟩)
  refine body_ok ck26 ?_
  conv => whnf
  intro I hI
  have key : ∀ m i : Nat, i + m = 38 → ∀ lo hi : Nat, (lo, hi) = rit3 n i → ∀ S nx,
      FrI F45 [(x64, .iv (.int .i64 (n : Int))), (x65, .iv (.int .i64 3)), (x69, .iv (.int .u64 (lo : Int))), (x70, .iv (.int .u64 (hi : Int)))] (fun fr => I fr S nx) := by
    intro m
    induction m with
    | zero =>
      intro i hi lo hg hr S nx
      obtain rfl : i = 38 := by omega
      have ok := rit3_ok n 38 (by omega)
      rw [← hr] at ok
      simp only at ok
      refine FrI.mk fun g => ?_
      apply hI
      conv => whnf
      rw [show (hg : Int) - (lo : Int) = ((hg - lo : Nat) : Int) by omega, wr64]
      refine cond_no (by simp; omega) ?_
      conv => whnf
      have e : wr .u32 (lo : Int) = ((root3 n : Nat) : Int) := by rw [wr32]; unfold root3; rw [← hr]
      rw [e]
    | succ m ih =>
      intro i hi lo hg hr S nx
      have ok := rit3_ok n i (by omega)
      have hp : 0 < 2 ^ (38 - (i + 1)) := Nat.pos_of_ne_zero (by simp)
      have e2 : 2 ^ (38 - i) = 2 * 2 ^ (38 - (i + 1)) := by rw [show 38 - i = (38 - (i + 1)) + 1 by omega, Nat.pow_succ, Nat.mul_comm]
      rw [← hr] at ok
      simp only at ok
      refine FrI.mk fun g => ?_
      apply hI
      conv => whnf
      rw [show (hg : Int) - (lo : Int) = ((hg - lo : Nat) : Int) by omega, wr64]
      refine cond_yes (by simp; omega) ?_
      conv => whnf
      rw [show wr .u64 ((lo : Int) + (hg : Int)) = ((lo + hg : Nat) : Int) by rw [← Int.natCast_add, wr64]; omega]
      repeat ((first | (refine And.intro ?_ ?_; · (simp only [minI, maxI]; omega)) | (refine vc_mk ?_ ?_; · first | omega | exact ⟨rfl, rfl⟩ | (simp [sub] <;> omega)) | (refine beq_yes ?_ ?_; · rfl) | (refine beq_no ?_ ?_; · omega)); conv => whnf)
      rw [show ((lo + hg : Nat) : Int) / 2 = (((lo + hg) / 2 : Nat) : Int) by omega]
      obtain ⟨m', hm'⟩ : ∃ m', m' = (lo + hg) / 2 := ⟨_, rfl⟩
      rw [← hm']
      have hml : m' < 18446744073709551616 := by omega
      intro I2 hI2
      apply hI2
      conv => whnf
      repeat ((first | (refine And.intro ?_ ?_; · (simp only [minI, maxI]; omega)) | (refine vc_mk ?_ ?_; · first | omega | exact ⟨rfl, rfl⟩ | (simp [sub] <;> omega)) | (refine beq_yes ?_ ?_; · rfl) | (refine beq_no ?_ ?_; · omega)); conv => whnf)
      refine conv_ob (args' := [.agg [.iv (.sis .u64 8 [bitI .and .u64 (m' : Int) 4294967295, shrI (m' : Int) (32 : Int).toNat, 0, 0, 0, 0, 0, 0])], .agg [.iv (.sis .u64 8 [bitI .and .u64 (m' : Int) 4294967295, shrI (m' : Int) (32 : Int).toNat, 0, 0, 0, 0, 0, 0])]]) ?_ ?_
      · intro ρ hI vs h
        cases h with | cons _ v1 _ vs d1 h =>
        cases h with | cons _ v2 _ vs d2 h =>
        exact .cons _ _ _ _ (agg_sis rfl d1) (.cons _ _ _ _ (agg_sis rfl d2) h)
      have hx : [bitI .and .u64 (m' : Int) 4294967295, shrI (m' : Int) (32 : Int).toNat, 0, 0, 0, 0, 0, 0] = (mx m').map ni := by
        rw [and32 _ hml, show (32 : Int).toNat = 32 from rfl, shrN]; rfl
      refine f50' _ _ _ _ hx hx ?_
      conv => whnf
      repeat ((first | (refine And.intro ?_ ?_; · (simp only [minI, maxI]; omega)) | (refine vc_mk ?_ ?_; · first | omega | exact ⟨rfl, rfl⟩ | (simp [sub] <;> omega)) | (refine beq_yes ?_ ?_; · rfl) | (refine beq_no ?_ ?_; · omega)); conv => whnf)
      apply hI2
      conv => whnf
      repeat ((first | (refine And.intro ?_ ?_; · (simp only [minI, maxI]; omega)) | (refine vc_mk ?_ ?_; · first | omega | exact ⟨rfl, rfl⟩ | (simp [sub] <;> omega)) | (refine beq_yes ?_ ?_; · rfl) | (refine beq_no ?_ ?_; · omega)); conv => whnf)
      refine conv_ob (args' := [.agg [.iv (.sis .u64 8 ((timesL (mx m') (mx m')).map ni))], .agg [.iv (.sis .u64 8 [bitI .and .u64 (m' : Int) 4294967295, shrI (m' : Int) (32 : Int).toNat, 0, 0, 0, 0, 0, 0])]]) ?_ ?_
      · intro ρ hI vs h
        cases h with | cons _ v1 _ vs d1 h =>
        cases h with | cons _ v2 _ vs d2 h =>
        exact .cons _ _ _ _ d1 (.cons _ _ _ _ (agg_sis rfl d2) h)
      refine f50' _ _ _ _ rfl hx ?_
      conv => whnf
      repeat ((first | (refine And.intro ?_ ?_; · (simp only [minI, maxI]; omega)) | (refine vc_mk ?_ ?_; · first | omega | exact ⟨rfl, rfl⟩ | (simp [sub] <;> omega)) | (refine beq_yes ?_ ?_; · rfl) | (refine beq_no ?_ ?_; · omega)); conv => whnf)
      apply hI2
      conv => whnf
      repeat ((first | (refine And.intro ?_ ?_; · (simp only [minI, maxI]; omega)) | (refine vc_mk ?_ ?_; · first | omega | exact ⟨rfl, rfl⟩ | (simp [sub] <;> omega)) | (refine beq_yes ?_ ?_; · rfl) | (refine beq_no ?_ ?_; · omega)); conv => whnf)
      refine f51' (timesL (timesL (mx m') (mx m')) (mx m')) [0, 0, 0, n, 0, 0, 0, 0] (timesL_len _ _) rfl _ _ ?_ ?_ ?_
      · simp only [List.drop_zero]
      · simp [ni, wr64]; omega
      conv => whnf
      refine cond_mk (fun c => ?_) (fun c => ?_)
      · conv => whnf
        refine ih (i + 1) (by omega) lo m' ?_ _ _ _ rfl ⟨rfl, rfl, rfl, rfl, trivial⟩
        rw [rit3, ← hr, rst3]
        simp only [← hm', c, if_true]
      · conv => whnf
        refine ih (i + 1) (by omega) m' hg ?_ _ _ _ rfl ⟨rfl, rfl, rfl, rfl, trivial⟩
        rw [rit3, ← hr, rst3]
        simp only [← hm', c]
        rfl
  refine key 38 0 rfl 0 274877906944 rfl _ _ _ rfl ⟨rfl, rfl, rfl, rfl, trivial⟩
end Sg
end YtfkboondffejaaaGreatDoor
end Go.Proofs
