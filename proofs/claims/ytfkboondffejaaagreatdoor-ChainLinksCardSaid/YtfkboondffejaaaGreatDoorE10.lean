/- digest.Sum. -/
import Derived.Test.YtfkboondffejaaaGreatDoorE09
set_option linter.all false
set_option linter.unusedVariables false
set_option linter.unusedSimpArgs false
set_option linter.deprecated false
set_option maxRecDepth 100000
set_option linter.unusedVariables false
set_option linter.unusedSimpArgs false
namespace Go.Proofs
namespace YtfkboondffejaaaGreatDoor
namespace Sg
attribute [local irreducible] CallOb
theorem f22c (p : List UInt8) (hp : p.length ≤ 1099511627776) : CallOb Tryz.prog g0 22 [.iv (.ib p)] [] 1 (fun v _ _ => v = .agg [.iv (.sbs 32 (sha partsW firstV p))]) := by
  refine body_ok ck22 ?_
  conv => whnf
  repeat ((first | (refine And.intro ?_ ?_; · (simp only [minI, maxI]; omega)) | (refine vc_mk ?_ ?_; · first | omega | exact ⟨rfl, rfl⟩ | (simp [sub] <;> omega)) | (refine beq_yes ?_ ?_; · rfl) | (refine beq_no ?_ ?_; · omega)); conv => whnf)
  intro I hI
  have key : ∀ m k, k + m = padz (p.length + 1) → ∀ l, l = p ++ [128] ++ List.replicate k 0 → ∀ len, len = l.length → ∀ q T nx, q < nx → 1 < q → SH.get T 1 = some (.cells [.iv (.sbs 32 (List.replicate 32 0))]) →
      FrI F69 [(x128, .iv (.ib p)), (x130, .ptr 1 0), (x131, .sl 1 q 0 len)] (fun fr => I fr ((q, .bytes l) :: T) nx) := by
    intro m
    induction m with
    | zero =>
      intro k hk l hl len hlen q T nx hq h1 hT
      have hz : (p.length + 1 + k) % 64 = 56 := by unfold padz at hk; omega
      have hll : l.length = p.length + 1 + k := by rw [hl]; simp; omega
      have hk2 : k < 64 := by unfold padz at hk; omega
      refine FrI.mk fun g => ?_
      apply hI
      conv => whnf
      repeat ((first | (refine And.intro ?_ ?_; · (simp only [minI, maxI]; omega)) | (refine vc_mk ?_ ?_; · first | omega | exact ⟨rfl, rfl⟩ | (simp [sub] <;> omega)) | (refine beq_yes ?_ ?_; · rfl) | (refine beq_no ?_ ?_; · omega)); conv => whnf)
      refine cond_no (by simp; omega) ?_
      conv => whnf
      clear hI I
      intro I hI
      have fin : ∀ l, l = padded p → ∀ len, len = l.length → ∀ q T nx, q < nx → 1 < q → SH.get T 1 = some (.cells [.iv (.sbs 32 (List.replicate 32 0))]) →
          FrI F69 [(x130, .ptr 1 0), (x131, .sl 1 q 0 len), (x69, .iv (.int .i64 (-8)))] (fun fr => I fr ((q, .bytes l) :: T) nx) := by
        clear hlen hT hq h1 len q T nx hll hl l
        intro l hl len hlen q T a hq h1 hT
        have hmod : l.length % 64 = 0 := by rw [hl]; exact padded_len p
        have hbig : l.length ≤ 1099511627900 := by rw [hl]; simp [padded, padz, be8]; omega
        refine FrI.mk fun g => ?_
        apply hI
        conv => whnf
        repeat ((first | (refine And.intro ?_ ?_; · (simp only [minI, maxI]; omega)) | (refine vc_mk ?_ ?_; · first | omega | exact ⟨rfl, rfl⟩ | (simp [sub] <;> omega)) | (refine beq_yes ?_ ?_; · rfl) | (refine beq_no ?_ ?_; · omega)); conv => whnf)
        clear hI I
        intro I hI
        have key : ∀ m i h, i + m = l.length / 64 → blocks partsW m h (l.drop (64 * i)) = blocks partsW (l.length / 64) firstV l → ∀ off len, off = 64 * i → len = 64 * m →
            FrI F69 [(x130, .ptr 1 0), (x131, .sl 1 q off len), (x70, .ptr a 0)] (fun fr => I fr ((a, .cells [.iv (.sis .u32 8 (h.l.map wi))]) :: (q, .bytes l) :: T) (a + 1)) := by
          intro m
          induction m with
          | zero =>
            intro i h hi hb off len' hoff hlen'
            refine FrI.mk fun g => ?_
            apply hI
            conv => whnf
            repeat ((first | (refine And.intro ?_ ?_; · (simp only [minI, maxI]; omega)) | (refine vc_mk ?_ ?_; · first | omega | exact ⟨rfl, rfl⟩ | (simp [sub] <;> omega)) | (refine beq_yes ?_ ?_; · rfl) | (refine beq_no ?_ ?_; · omega)); conv => whnf)
            refine cond_no (by simp; omega) ?_
            conv => whnf
            repeat ((first | (refine And.intro ?_ ?_; · (simp only [minI, maxI]; omega)) | (refine vc_mk ?_ ?_; · first | omega | exact ⟨rfl, rfl⟩ | (simp [sub] <;> omega)) | (refine beq_yes ?_ ?_; · rfl) | (refine beq_no ?_ ?_; · omega)); conv => whnf)
            obtain ⟨h0, h1', h2, h3, h4, h5, h6, h7⟩ := h
            clear hI I
            intro I hI
            apply hI
            conv => whnf
            repeat ((first | (refine And.intro ?_ ?_; · (simp only [minI, maxI]; omega)) | (refine vc_mk ?_ ?_; · first | omega | exact ⟨rfl, rfl⟩ | (simp [sub] <;> omega)) | (refine beq_yes ?_ ?_; · rfl) | (refine beq_no ?_ ?_; · omega)); conv => whnf)
            intro I2 hI2
            iterate 4 (apply hI2; (conv => whnf); repeat ((first | (refine And.intro ?_ ?_; · (simp only [minI, maxI]; omega)) | (refine vc_mk ?_ ?_; · first | omega | exact ⟨rfl, rfl⟩ | (simp [sub] <;> omega)) | (refine beq_yes ?_ ?_; · rfl) | (refine beq_no ?_ ?_; · omega)); conv => whnf))
            apply hI2
            conv => whnf
            repeat ((first | (refine And.intro ?_ ?_; · (simp only [minI, maxI]; omega)) | (refine vc_mk ?_ ?_; · first | omega | exact ⟨rfl, rfl⟩ | (simp [sub] <;> omega)) | (refine beq_yes ?_ ?_; · rfl) | (refine beq_no ?_ ?_; · omega)); conv => whnf)
            clear hI2 I2
            apply hI
            conv => whnf
            repeat ((first | (refine And.intro ?_ ?_; · (simp only [minI, maxI]; omega)) | (refine vc_mk ?_ ?_; · first | omega | exact ⟨rfl, rfl⟩ | (simp [sub] <;> omega)) | (refine beq_yes ?_ ?_; · rfl) | (refine beq_no ?_ ?_; · omega)); conv => whnf)
            intro I2 hI2
            iterate 4 (apply hI2; (conv => whnf); repeat ((first | (refine And.intro ?_ ?_; · (simp only [minI, maxI]; omega)) | (refine vc_mk ?_ ?_; · first | omega | exact ⟨rfl, rfl⟩ | (simp [sub] <;> omega)) | (refine beq_yes ?_ ?_; · rfl) | (refine beq_no ?_ ?_; · omega)); conv => whnf))
            apply hI2
            conv => whnf
            repeat ((first | (refine And.intro ?_ ?_; · (simp only [minI, maxI]; omega)) | (refine vc_mk ?_ ?_; · first | omega | exact ⟨rfl, rfl⟩ | (simp [sub] <;> omega)) | (refine beq_yes ?_ ?_; · rfl) | (refine beq_no ?_ ?_; · omega)); conv => whnf)
            clear hI2 I2
            apply hI
            conv => whnf
            repeat ((first | (refine And.intro ?_ ?_; · (simp only [minI, maxI]; omega)) | (refine vc_mk ?_ ?_; · first | omega | exact ⟨rfl, rfl⟩ | (simp [sub] <;> omega)) | (refine beq_yes ?_ ?_; · rfl) | (refine beq_no ?_ ?_; · omega)); conv => whnf)
            intro I2 hI2
            iterate 4 (apply hI2; (conv => whnf); repeat ((first | (refine And.intro ?_ ?_; · (simp only [minI, maxI]; omega)) | (refine vc_mk ?_ ?_; · first | omega | exact ⟨rfl, rfl⟩ | (simp [sub] <;> omega)) | (refine beq_yes ?_ ?_; · rfl) | (refine beq_no ?_ ?_; · omega)); conv => whnf))
            apply hI2
            conv => whnf
            repeat ((first | (refine And.intro ?_ ?_; · (simp only [minI, maxI]; omega)) | (refine vc_mk ?_ ?_; · first | omega | exact ⟨rfl, rfl⟩ | (simp [sub] <;> omega)) | (refine beq_yes ?_ ?_; · rfl) | (refine beq_no ?_ ?_; · omega)); conv => whnf)
            clear hI2 I2
            apply hI
            conv => whnf
            repeat ((first | (refine And.intro ?_ ?_; · (simp only [minI, maxI]; omega)) | (refine vc_mk ?_ ?_; · first | omega | exact ⟨rfl, rfl⟩ | (simp [sub] <;> omega)) | (refine beq_yes ?_ ?_; · rfl) | (refine beq_no ?_ ?_; · omega)); conv => whnf)
            intro I2 hI2
            iterate 4 (apply hI2; (conv => whnf); repeat ((first | (refine And.intro ?_ ?_; · (simp only [minI, maxI]; omega)) | (refine vc_mk ?_ ?_; · first | omega | exact ⟨rfl, rfl⟩ | (simp [sub] <;> omega)) | (refine beq_yes ?_ ?_; · rfl) | (refine beq_no ?_ ?_; · omega)); conv => whnf))
            apply hI2
            conv => whnf
            repeat ((first | (refine And.intro ?_ ?_; · (simp only [minI, maxI]; omega)) | (refine vc_mk ?_ ?_; · first | omega | exact ⟨rfl, rfl⟩ | (simp [sub] <;> omega)) | (refine beq_yes ?_ ?_; · rfl) | (refine beq_no ?_ ?_; · omega)); conv => whnf)
            clear hI2 I2
            apply hI
            conv => whnf
            repeat ((first | (refine And.intro ?_ ?_; · (simp only [minI, maxI]; omega)) | (refine vc_mk ?_ ?_; · first | omega | exact ⟨rfl, rfl⟩ | (simp [sub] <;> omega)) | (refine beq_yes ?_ ?_; · rfl) | (refine beq_no ?_ ?_; · omega)); conv => whnf)
            intro I2 hI2
            iterate 4 (apply hI2; (conv => whnf); repeat ((first | (refine And.intro ?_ ?_; · (simp only [minI, maxI]; omega)) | (refine vc_mk ?_ ?_; · first | omega | exact ⟨rfl, rfl⟩ | (simp [sub] <;> omega)) | (refine beq_yes ?_ ?_; · rfl) | (refine beq_no ?_ ?_; · omega)); conv => whnf))
            apply hI2
            conv => whnf
            repeat ((first | (refine And.intro ?_ ?_; · (simp only [minI, maxI]; omega)) | (refine vc_mk ?_ ?_; · first | omega | exact ⟨rfl, rfl⟩ | (simp [sub] <;> omega)) | (refine beq_yes ?_ ?_; · rfl) | (refine beq_no ?_ ?_; · omega)); conv => whnf)
            clear hI2 I2
            apply hI
            conv => whnf
            repeat ((first | (refine And.intro ?_ ?_; · (simp only [minI, maxI]; omega)) | (refine vc_mk ?_ ?_; · first | omega | exact ⟨rfl, rfl⟩ | (simp [sub] <;> omega)) | (refine beq_yes ?_ ?_; · rfl) | (refine beq_no ?_ ?_; · omega)); conv => whnf)
            intro I2 hI2
            iterate 4 (apply hI2; (conv => whnf); repeat ((first | (refine And.intro ?_ ?_; · (simp only [minI, maxI]; omega)) | (refine vc_mk ?_ ?_; · first | omega | exact ⟨rfl, rfl⟩ | (simp [sub] <;> omega)) | (refine beq_yes ?_ ?_; · rfl) | (refine beq_no ?_ ?_; · omega)); conv => whnf))
            apply hI2
            conv => whnf
            repeat ((first | (refine And.intro ?_ ?_; · (simp only [minI, maxI]; omega)) | (refine vc_mk ?_ ?_; · first | omega | exact ⟨rfl, rfl⟩ | (simp [sub] <;> omega)) | (refine beq_yes ?_ ?_; · rfl) | (refine beq_no ?_ ?_; · omega)); conv => whnf)
            clear hI2 I2
            apply hI
            conv => whnf
            repeat ((first | (refine And.intro ?_ ?_; · (simp only [minI, maxI]; omega)) | (refine vc_mk ?_ ?_; · first | omega | exact ⟨rfl, rfl⟩ | (simp [sub] <;> omega)) | (refine beq_yes ?_ ?_; · rfl) | (refine beq_no ?_ ?_; · omega)); conv => whnf)
            intro I2 hI2
            iterate 4 (apply hI2; (conv => whnf); repeat ((first | (refine And.intro ?_ ?_; · (simp only [minI, maxI]; omega)) | (refine vc_mk ?_ ?_; · first | omega | exact ⟨rfl, rfl⟩ | (simp [sub] <;> omega)) | (refine beq_yes ?_ ?_; · rfl) | (refine beq_no ?_ ?_; · omega)); conv => whnf))
            apply hI2
            conv => whnf
            repeat ((first | (refine And.intro ?_ ?_; · (simp only [minI, maxI]; omega)) | (refine vc_mk ?_ ?_; · first | omega | exact ⟨rfl, rfl⟩ | (simp [sub] <;> omega)) | (refine beq_yes ?_ ?_; · rfl) | (refine beq_no ?_ ?_; · omega)); conv => whnf)
            clear hI2 I2
            apply hI
            conv => whnf
            repeat ((first | (refine And.intro ?_ ?_; · (simp only [minI, maxI]; omega)) | (refine vc_mk ?_ ?_; · first | omega | exact ⟨rfl, rfl⟩ | (simp [sub] <;> omega)) | (refine beq_yes ?_ ?_; · rfl) | (refine beq_no ?_ ?_; · omega)); conv => whnf)
            intro I2 hI2
            iterate 4 (apply hI2; (conv => whnf); repeat ((first | (refine And.intro ?_ ?_; · (simp only [minI, maxI]; omega)) | (refine vc_mk ?_ ?_; · first | omega | exact ⟨rfl, rfl⟩ | (simp [sub] <;> omega)) | (refine beq_yes ?_ ?_; · rfl) | (refine beq_no ?_ ?_; · omega)); conv => whnf))
            apply hI2
            conv => whnf
            repeat ((first | (refine And.intro ?_ ?_; · (simp only [minI, maxI]; omega)) | (refine vc_mk ?_ ?_; · first | omega | exact ⟨rfl, rfl⟩ | (simp [sub] <;> omega)) | (refine beq_yes ?_ ?_; · rfl) | (refine beq_no ?_ ?_; · omega)); conv => whnf)
            clear hI2 I2
            apply hI
            conv => whnf
            repeat ((first | (refine And.intro ?_ ?_; · (simp only [minI, maxI]; omega)) | (refine vc_mk ?_ ?_; · first | omega | exact ⟨rfl, rfl⟩ | (simp [sub] <;> omega)) | (refine beq_yes ?_ ?_; · rfl) | (refine beq_no ?_ ?_; · omega)); conv => whnf)
            refine getK_of hT ?_
            conv => whnf
            repeat ((first | (refine And.intro ?_ ?_; · (simp only [minI, maxI]; omega)) | (refine vc_mk ?_ ?_; · first | omega | exact ⟨rfl, rfl⟩ | (simp [sub] <;> omega)) | (refine beq_yes ?_ ?_; · rfl) | (refine beq_no ?_ ?_; · omega)); conv => whnf)
            refine putK_of ?_
            conv => whnf
            repeat ((first | (refine And.intro ?_ ?_; · (simp only [minI, maxI]; omega)) | (refine vc_mk ?_ ?_; · first | omega | exact ⟨rfl, rfl⟩ | (simp [sub] <;> omega)) | (refine beq_yes ?_ ?_; · rfl) | (refine beq_no ?_ ?_; · omega)); conv => whnf)
            refine getK_of (get_put_self (by rw [hT]; simp)) ?_
            conv => whnf
            clear hI I
            have hb2 : (⟨h0, h1', h2, h3, h4, h5, h6, h7⟩ : V8) = blocks partsW (l.length / 64) firstV l := hb
            rw [show sha partsW firstV p = (blocks partsW (l.length / 64) firstV l).out by rw [hl]; rfl, ← hb2]
            simp [V8.l, V8.out, be4, wi_shr, toByte_wi, List.replicate]
            trace_state
          | succ m ih =>
            intro i h hi hb off len' hoff hlen'
            refine FrI.mk fun g => ?_
            apply hI
            conv => whnf
            repeat ((first | (refine And.intro ?_ ?_; · (simp only [minI, maxI]; omega)) | (refine vc_mk ?_ ?_; · first | omega | exact ⟨rfl, rfl⟩ | (simp [sub] <;> omega)) | (refine beq_yes ?_ ?_; · rfl) | (refine beq_no ?_ ?_; · omega)); conv => whnf)
            refine cond_yes (by simp; omega) ?_
            conv => whnf
            repeat ((first | (refine And.intro ?_ ?_; · (simp only [minI, maxI]; omega)) | (refine vc_mk ?_ ?_; · first | omega | exact ⟨rfl, rfl⟩ | (simp [sub] <;> omega)) | (refine beq_yes ?_ ?_; · rfl) | (refine beq_no ?_ ?_; · omega)); conv => whnf)
            refine inout_ob (R := fun v cs' => flat v = true ∧ cs' = [.iv (.sis .u32 8 ((blk partsW h (sub l (64 * i) 64)).l.map wi))]) get_hd rfl (f47 h (sub l (64 * i) 64) (by simp [sub]; omega)) (.cons _ _ _ _ ?_ .nil) ?_
            · rw [del_hd, show off + ((none : Option Int).getD 0).toNat = 64 * i by simp [hoff], show (((some 64 : Option Int).getD (len' : Int)).toNat - ((none : Option Int).getD 0).toNat) = 64 from rfl]
              exact .sl q _ 64 l get_hd (by omega)
            · rintro v cs' ⟨hv, rfl⟩
              refine ⟨hv, ?_⟩
              rw [put_hd]
              conv => whnf
              repeat ((first | (refine And.intro ?_ ?_; · (simp only [minI, maxI]; omega)) | (refine vc_mk ?_ ?_; · first | omega | exact ⟨rfl, rfl⟩ | (simp [sub] <;> omega)) | (refine beq_yes ?_ ?_; · rfl) | (refine beq_no ?_ ?_; · omega)); conv => whnf)
              refine ih (i + 1) _ (by omega) ?_ _ _ ?_ ?_ _ rfl ⟨rfl, rfl, rfl, trivial⟩
              · rw [← hb]
                show _ = blocks partsW m (blk partsW h ((l.drop (64 * i)).take 64)) ((l.drop (64 * i)).drop 64)
                rw [List.drop_drop]
                rfl
              · simp [hoff]; omega
              · simp [hlen']; omega
        refine key (l.length / 64) 0 firstV (by omega) rfl _ _ rfl ?_ _ rfl ⟨rfl, rfl, rfl, trivial⟩
        omega
      iterate 8 (apply hI; (conv => whnf); repeat ((first | (refine And.intro ?_ ?_; · (simp only [minI, maxI]; omega)) | (refine vc_mk ?_ ?_; · first | omega | exact ⟨rfl, rfl⟩ | (simp [sub] <;> omega)) | (refine beq_yes ?_ ?_; · rfl) | (refine beq_no ?_ ?_; · omega)); conv => whnf))
      refine fin _ ?_ _ ?_ _ _ _ ?_ ?_ ?_ _ rfl ⟨rfl, rfl, rfl, trivial⟩
      all_goals clear hI
      · have e : wr .u64 (wr .u64 (p.length : Int) * 8) = ((p.length * 8 : Nat) : Int) := by
          rw [wr64, show (((p.length % 18446744073709551616 : Nat) : Int) * 8) = ((p.length % 18446744073709551616 * 8 : Nat) : Int) by omega, wr64]
          omega
        rw [e]
        simp only [toByte_shr]
        rw [hl, show k = padz (p.length + 1) from hk]
        simp [sub, padded, be8]
      · simp [sub, hlen]
      · omega
      · omega
      · repeat (refine get_tl (by omega) ?_)
        exact hT
    | succ m ih =>
      intro k hk l hl len hlen q T nx hq h1 hT
      have hz : (p.length + 1 + k) % 64 ≠ 56 := by unfold padz at hk; omega
      have hk2 : k < 64 := by unfold padz at hk; omega
      have hll : l.length = p.length + 1 + k := by rw [hl]; simp; omega
      refine FrI.mk fun g => ?_
      apply hI
      conv => whnf
      repeat ((first | (refine And.intro ?_ ?_; · (simp only [minI, maxI]; omega)) | (refine vc_mk ?_ ?_; · first | omega | exact ⟨rfl, rfl⟩ | (simp [sub] <;> omega)) | (refine beq_yes ?_ ?_; · rfl) | (refine beq_no ?_ ?_; · omega)); conv => whnf)
      refine cond_yes (by simp; omega) ?_
      conv => whnf
      repeat ((first | (refine And.intro ?_ ?_; · (simp only [minI, maxI]; omega)) | (refine vc_mk ?_ ?_; · first | omega | exact ⟨rfl, rfl⟩ | (simp [sub] <;> omega)) | (refine beq_yes ?_ ?_; · rfl) | (refine beq_no ?_ ?_; · omega)); conv => whnf)
      refine ih (k + 1) (by omega) _ ?_ _ ?_ _ _ _ ?_ ?_ ?_ _ rfl ⟨rfl, rfl, rfl, trivial⟩
      all_goals clear hI ih
      · rw [hl, List.replicate_succ', ← List.append_assoc]; rfl
      · simp [sub, hlen]
      · omega
      · omega
      · exact get_tl (by omega) hT
  refine key _ 0 (Nat.zero_add _) _ ?_ _ ?_ _ _ _ ?_ ?_ ?_ _ rfl ⟨rfl, rfl, rfl, trivial⟩
  all_goals clear hI key
  · simp [sub]
  · simp [sub]
  · omega
  · omega
  · rfl
theorem f22 {args : List SV} {S : SH} {nx : Nat} {K : SV → SH → Nat → Prop} (p : List UInt8) (hp : p.length ≤ 1099511627776) (hl : Lends S args [.iv (.ib p)]) (h : K (.agg [.iv (.sbs 32 (sha partsW firstV p))]) S nx) : CallOb Tryz.prog g0 22 args S nx K :=
  flat_ob (f22c p hp) hl (fun v e => by subst e; exact ⟨rfl, h⟩)
end Sg
end YtfkboondffejaaaGreatDoor
end Go.Proofs
