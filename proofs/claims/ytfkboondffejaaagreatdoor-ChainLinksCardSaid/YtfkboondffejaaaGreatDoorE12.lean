/- The reference's SHA-256. -/
import Derived.Test.YtfkboondffejaaaGreatDoorE11
set_option linter.all false
set_option linter.unusedVariables false
set_option linter.unusedSimpArgs false
set_option linter.deprecated false
set_option maxRecDepth 100000
set_option maxHeartbeats 8000000
set_option linter.unusedVariables false
set_option linter.unusedSimpArgs false
namespace Go.Proofs
namespace YtfkboondffejaaaGreatDoor
namespace Sg
attribute [local irreducible] CallOb
theorem get_put {n : Nat} {o x : SObj} {T : SH} (h : SH.get T n = some o) : SH.get (SH.put T n x) n = some x := get_put_self (by rw [h]; simp)
theorem get_put_ne {n m : Nat} {x : SObj} (hne : n ≠ m) : ∀ {T : SH}, SH.get (SH.put T n x) m = SH.get T m
  | [] => rfl
  | (k, o) :: T => by
    cases e : Nat.beq k n
    · simp only [SH.put, SH.get, e, cond_false, get_put_ne hne (T := T)]
    · obtain rfl := Nat.eq_of_beq_eq_true e
      simp only [SH.put, SH.get, e, cond_true, beq_false hne, cond_false]
theorem cellK_int {L : List SV} {k : IntKind} {n : Int} {K : SV → Prop} (h : L = [.iv (.int k n)]) (hk : K (.iv (.int k n))) : cellK L 0 K := by subst h; exact hk
theorem setCellK_int {L : List SV} {k : IntKind} {n : Int} {v : SV} {K : List SV → Prop} (h : L = [.iv (.int k n)]) (hk : K [v]) : setCellK L 0 v K := by subst h; exact hk
def pw (p : List UInt8) (i : Nat) : Nat → W32
  | 0 => 0
  | k + 1 => pw p i k * 256 + BitVec.ofNat 32 (p.getD (4 * i + k) 0).toNat
theorem four_bytes (a b c d : Nat) (ha : a < 256) (hb : b < 256) (hc : c < 256) (hd : d < 256) :
    (BitVec.ofNat 32 a <<< 24 ||| BitVec.ofNat 32 b <<< 16 ||| BitVec.ofNat 32 c <<< 8 ||| BitVec.ofNat 32 d) = ((BitVec.ofNat 32 a * 256 + BitVec.ofNat 32 b) * 256 + BitVec.ofNat 32 c) * 256 + BitVec.ofNat 32 d := by
  apply BitVec.eq_of_toNat_eq
  have e1 : (a <<< 24 ||| b <<< 16) = (a * 256 + b) <<< 16 := by
    rw [← Nat.shiftLeft_add_eq_or_of_lt (by rw [Nat.shiftLeft_eq]; omega), Nat.shiftLeft_eq, Nat.shiftLeft_eq, Nat.shiftLeft_eq]; omega
  have e2 : ((a * 256 + b) <<< 16 ||| c <<< 8) = ((a * 256 + b) * 256 + c) <<< 8 := by
    rw [← Nat.shiftLeft_add_eq_or_of_lt (by rw [Nat.shiftLeft_eq]; omega), Nat.shiftLeft_eq, Nat.shiftLeft_eq, Nat.shiftLeft_eq]; omega
  have e3 : (((a * 256 + b) * 256 + c) <<< 8 ||| d) = ((a * 256 + b) * 256 + c) * 256 + d := by
    rw [← Nat.shiftLeft_add_eq_or_of_lt (by omega), Nat.shiftLeft_eq]
  have f1 : (BitVec.ofNat 32 a <<< 24).toNat = a <<< 24 := by simp [BitVec.toNat_shiftLeft, Nat.shiftLeft_eq]; omega
  have f2 : (BitVec.ofNat 32 b <<< 16).toNat = b <<< 16 := by simp [BitVec.toNat_shiftLeft, Nat.shiftLeft_eq]; omega
  have f3 : (BitVec.ofNat 32 c <<< 8).toNat = c <<< 8 := by simp [BitVec.toNat_shiftLeft, Nat.shiftLeft_eq]; omega
  have f4 : (BitVec.ofNat 32 d).toNat = d := by simp; omega
  simp only [BitVec.toNat_or, f1, f2, f3, f4, e1, e2, e3]
  simp [BitVec.toNat_add, BitVec.toNat_mul]; omega
theorem pw_four (p : List UInt8) (i : Nat) : pw p i 4 = wv p i := by
  unfold wv
  rw [four_bytes _ _ _ _ (UInt8.toNat_lt _) (UInt8.toNat_lt _) (UInt8.toNat_lt _) (UInt8.toNat_lt _)]
  simp [pw]
theorem getD_set_self {l : List W32} {i : Nat} {x : W32} (h : i < l.length) : (l.set i x).getD i 0 = x := by simp [List.getD_eq_getElem?_getD, h]
theorem getD_set_ne {l : List W32} {i j : Nat} {x : W32} (h : i ≠ j) : (l.set i x).getD j 0 = l.getD j 0 := by simp [List.getD_eq_getElem?_getD, List.getElem?_set, h]
theorem updE_self {E : Nat → List SV} {r : List SV} {i k : Nat} (h : k = i) : (bif Nat.beq i k then r else E i) = r := by subst h; simp
theorem updE_ne {E : Nat → List SV} {r : List SV} {i k : Nat} (h : i ≠ k) : (bif Nat.beq i k then r else E i) = E i := by rw [beq_false h]; rfl
theorem getD_chunk {l : List UInt8} {n j : Nat} (h : j < 64) : ((l.drop n).take 64).getD j 0 = l.getD (n + j) 0 := by
  simp only [List.getD_eq_getElem?_getD, List.getElem?_take, if_pos h, List.getElem?_drop]
theorem fill_get0 (P : List UInt8) : ∀ (i j : Nat), i ≤ j → j < 64 → (fill P i).getD j 0 = 0
  | 0, j, _, hj => by
    show (List.replicate 64 (0 : W32)).getD j 0 = 0
    simp only [List.getD_eq_getElem?_getD, List.getElem?_replicate, if_pos hj]
    rfl
  | i + 1, j, hi, hj => by
    show ((fill P i).set i (wv P i)).getD j 0 = 0
    rw [getD_set_ne (by omega), fill_get0 P i j (by omega) hj]
section
variable {S : SH} {nx : Nat} {K : SV → SH → Nat → Prop}
theorem f49 {a : Int} {x : W32} (n : Nat) (hn : n ≤ 32) (ha : a = wi x) (h : K (.iv (.int .u32 (wi (rr x n)))) S nx) : CallOb Tryz.prog g0 49 [.iv (.int .u32 a), .iv (.int .i64 (n : Int))] S nx K := by
  subst ha
  refine body_ok ck49 ?_
  conv => whnf
  repeat ((first | (refine And.intro ?_ ?_; · (simp only [minI, maxI]; omega)) | (refine vc_mk ?_ ?_; · first | omega | exact ⟨rfl, rfl⟩ | (simp [sub, bitsI] <;> omega)) | (refine beq_yes ?_ ?_; · rfl) | (refine beq_no ?_ ?_; · omega)); conv => whnf)
  have e : bitI .or .u32 (shrI (wi x) (n : Int).toNat) (shlI .u32 (wi x) (32 - (n : Int)).toNat) = wi (rr x n) := by
    rw [show (32 - (n : Int)).toNat = 32 - n by omega, Int.toNat_natCast, wi_shr, wi_shl, wi_or]; rfl
  rw [e]
  exact h
end
theorem f24c (p : List UInt8) (hp : p.length ≤ 1099511627776) : CallOb Tryz.prog g0 24 [.agg [.iv (.sis .u32 8 (firstV.l.map wi)), .iv (.sis .u32 64 (partsW.map wi))], .iv (.ib p)] [] 1 (fun v _ _ => v = .agg [.iv (.sbs 32 (sha partsW firstV p))]) := by
  refine body_ok ck24 ?_
  conv => whnf
  repeat ((first | (refine And.intro ?_ ?_; · (simp only [minI, maxI]; omega)) | (refine vc_mk ?_ ?_; · first | omega | exact ⟨rfl, rfl⟩ | (simp [sub, bitsI] <;> omega)) | (refine beq_yes ?_ ?_; · rfl) | (refine beq_no ?_ ?_; · omega)); conv => whnf)
  intro I hI
  have key : ∀ m k, k + m = padz (p.length + 1) → ∀ l, l = p ++ [128] ++ List.replicate k 0 → ∀ len, len = l.length → ∀ q T nx, q < nx → 2 < q → SH.get T 1 = some (.cells [.iv (.sis .u32 8 (firstV.l.map wi)), .iv (.sis .u32 64 (partsW.map wi))]) → SH.get T 2 = some (.cells [.iv (.sbs 32 (List.replicate 32 0))]) →
      FrI F294 [(x513, .iv (.ib p)), (x514, .ptr 1 0), (x516, .ptr 2 0), (x517, .sl 1 q 0 len)] (fun fr => I fr ((q, .bytes l) :: T) nx) := by
    intro m
    induction m with
    | zero =>
      intro k hk l hl len hlen q T nx hq hq2 h1 h2
      have hz : (p.length + 1 + k) % 64 = 56 := by unfold padz at hk; omega
      have hll : l.length = p.length + 1 + k := by rw [hl]; simp; omega
      have hk2 : k < 64 := by unfold padz at hk; omega
      refine FrI.mk fun g => ?_
      apply hI
      conv => whnf
      repeat ((first | (refine And.intro ?_ ?_; · (simp only [minI, maxI]; omega)) | (refine vc_mk ?_ ?_; · first | omega | exact ⟨rfl, rfl⟩ | (simp [sub, bitsI] <;> omega)) | (refine beq_yes ?_ ?_; · rfl) | (refine beq_no ?_ ?_; · omega)); conv => whnf)
      refine cond_no (by simp; omega) ?_
      conv => whnf
      clear hI I
      intro I hI
      have fin : ∀ l, l = padded p → ∀ len, len = l.length → ∀ q T nx, q < nx → 2 < q → SH.get T 1 = some (.cells [.iv (.sis .u32 8 (firstV.l.map wi)), .iv (.sis .u32 64 (partsW.map wi))]) → SH.get T 2 = some (.cells [.iv (.sbs 32 (List.replicate 32 0))]) →
          FrI F294 [(x514, .ptr 1 0), (x516, .ptr 2 0), (x517, .sl 1 q 0 len), (x519, .iv (.int .i64 (-1)))] (fun fr => I fr ((q, .bytes l) :: T) nx) := by
        clear hlen h1 h2 hq hq2 len q T nx hll hl l
        intro l hl len hlen q T a hq hq2 h1 h2
        have hmod : l.length % 64 = 0 := by rw [hl]; exact padded_len p
        have hbig : l.length ≤ 1099511627900 := by rw [hl]; simp [padded, padz, be8]; omega
        refine FrI.mk fun g => ?_
        apply hI
        conv => whnf
        repeat ((first | (refine And.intro ?_ ?_; · (simp only [minI, maxI]; omega)) | (refine vc_mk ?_ ?_; · first | omega | exact ⟨rfl, rfl⟩ | (simp [sub, bitsI] <;> omega)) | (refine beq_yes ?_ ?_; · rfl) | (refine beq_no ?_ ?_; · omega) | (refine getK_of h1 ?_)); conv => whnf)
        clear hI I
        intro I hI
        have key : ∀ m i0 h, i0 + m = l.length / 64 → blocks partsW m h (l.drop (64 * i0)) = blocks partsW (l.length / 64) firstV l → ∀ S nx, SH.get S a = some (.cells [.iv (.sis .u32 8 (h.l.map wi))]) → SH.get S q = some (.bytes l) →
            SH.get S 1 = some (.cells [.iv (.sis .u32 8 (firstV.l.map wi)), .iv (.sis .u32 64 (partsW.map wi))]) → SH.get S 2 = some (.cells [.iv (.sbs 32 (List.replicate 32 0))]) → a < nx →
            FrI F294 [(x514, .ptr 1 0), (x516, .ptr 2 0), (x517, .sl 1 q 0 len), (x520, .ptr a 0), (x521, .iv (.int .i64 ((64 * i0 : Nat) : Int)))] (fun fr => I fr S nx) := by
          clear h1 h2
          intro m
          induction m with
          | zero =>
            intro i0 h hi hb S nx hA hQ h1 h2 ha
            refine FrI.mk fun g => ?_
            apply hI
            conv => whnf
            refine cond_no (by simp; omega) ?_
            conv => whnf
            repeat ((first | (refine And.intro ?_ ?_; · (simp only [minI, maxI]; omega)) | (refine vc_mk ?_ ?_; · first | omega | exact ⟨rfl, rfl⟩ | (simp [sub, bitsI] <;> omega)) | (refine beq_yes ?_ ?_; · rfl) | (refine beq_no ?_ ?_; · omega) | (refine getK_of hA ?_) | (refine getK_of (get_put hA) ?_) | (refine getK_of (get_put (get_put hA)) ?_) | (refine getK_of (get_put (get_put (get_put hA))) ?_) | (refine getK_of (get_put (get_put (get_put (get_put hA)))) ?_) | (refine getK_of (get_put (get_put (get_put (get_put (get_put hA))))) ?_) | (refine getK_of (get_put (get_put (get_put (get_put (get_put (get_put hA)))))) ?_) | (refine getK_of (get_put (get_put (get_put (get_put (get_put (get_put (get_put hA))))))) ?_) | (refine getK_of (get_put (get_put (get_put (get_put (get_put (get_put (get_put (get_put hA)))))))) ?_) | (refine putK_of ?_) | (refine getK_of h2 ?_) | (refine getK_of (get_put h2) ?_)); conv => whnf)
            obtain ⟨h0, h1', h2', h3, h4, h5, h6, h7⟩ := h
            clear hI I
            intro I hI
            iterate 32 (apply hI; (conv => whnf); repeat ((first | (refine And.intro ?_ ?_; · (simp only [minI, maxI]; omega)) | (refine vc_mk ?_ ?_; · first | omega | exact ⟨rfl, rfl⟩ | (simp [sub, bitsI] <;> omega)) | (refine beq_yes ?_ ?_; · rfl) | (refine beq_no ?_ ?_; · omega) | (refine getK_of hA ?_) | (refine getK_of (get_put hA) ?_) | (refine getK_of (get_put (get_put hA)) ?_) | (refine getK_of (get_put (get_put (get_put hA))) ?_) | (refine getK_of (get_put (get_put (get_put (get_put hA)))) ?_) | (refine getK_of (get_put (get_put (get_put (get_put (get_put hA))))) ?_) | (refine getK_of (get_put (get_put (get_put (get_put (get_put (get_put hA)))))) ?_) | (refine getK_of (get_put (get_put (get_put (get_put (get_put (get_put (get_put hA))))))) ?_) | (refine getK_of (get_put (get_put (get_put (get_put (get_put (get_put (get_put (get_put hA)))))))) ?_) | (refine putK_of ?_) | (refine getK_of h2 ?_) | (refine getK_of (get_put h2) ?_)); conv => whnf))
            apply hI
            conv => whnf
            repeat ((first | (refine And.intro ?_ ?_; · (simp only [minI, maxI]; omega)) | (refine vc_mk ?_ ?_; · first | omega | exact ⟨rfl, rfl⟩ | (simp [sub, bitsI] <;> omega)) | (refine beq_yes ?_ ?_; · rfl) | (refine beq_no ?_ ?_; · omega) | (refine getK_of hA ?_) | (refine getK_of (get_put hA) ?_) | (refine getK_of (get_put (get_put hA)) ?_) | (refine getK_of (get_put (get_put (get_put hA))) ?_) | (refine getK_of (get_put (get_put (get_put (get_put hA)))) ?_) | (refine getK_of (get_put (get_put (get_put (get_put (get_put hA))))) ?_) | (refine getK_of (get_put (get_put (get_put (get_put (get_put (get_put hA)))))) ?_) | (refine getK_of (get_put (get_put (get_put (get_put (get_put (get_put (get_put hA))))))) ?_) | (refine getK_of (get_put (get_put (get_put (get_put (get_put (get_put (get_put (get_put hA)))))))) ?_) | (refine putK_of ?_) | (refine getK_of h2 ?_) | (refine getK_of (get_put h2) ?_)); conv => whnf)
            clear hI I
            have hb2 : (⟨h0, h1', h2', h3, h4, h5, h6, h7⟩ : V8) = blocks partsW (l.length / 64) firstV l := hb
            rw [show sha partsW firstV p = (blocks partsW (l.length / 64) firstV l).out by rw [hl]; rfl, ← hb2]
            simp [V8.l, V8.out, be4, wi_shr, toByte_wi, List.replicate]
          | succ m ih =>
            intro i0 h hi hb S nx hA hQ h1 h2 ha
            have hlt : 64 * i0 + 64 ≤ l.length := by omega
            refine FrI.mk fun g => ?_
            apply hI
            conv => whnf
            refine cond_yes (by simp; omega) ?_
            conv => whnf
            repeat ((first | (refine And.intro ?_ ?_; · (simp only [minI, maxI]; omega)) | (refine vc_mk ?_ ?_; · first | omega | exact ⟨rfl, rfl⟩ | (simp [sub, bitsI] <;> omega)) | (refine beq_yes ?_ ?_; · rfl) | (refine beq_no ?_ ?_; · omega)); conv => whnf)
            obtain ⟨P, hP⟩ : ∃ P, P = (l.drop (64 * i0)).take 64 := ⟨_, rfl⟩
            have hPl : P.length = 64 := by rw [hP]; simp; omega
            intro I2 hI2
            have kfill : ∀ m i : Nat, i + m = 16 → ∀ E, (∀ j, j < 64 → E j = [.iv (.int .u32 (wi ((fill P i).getD j 0)))]) →
                FrI F294 [(x514, .ptr 1 0), (x516, .ptr 2 0), (x517, .sl 1 q 0 len), (x520, .ptr a 0), (x521, .iv (.int .i64 ((64 * i0 : Nat) : Int))), (x522, .sl 1 nx 0 64), (x523, .iv (.int .i64 (i : Int)))] (fun fr => I2 fr ((nx, .arr 1 64 E) :: S) (nx + 1)) := by
              intro m
              induction m with
              | zero =>
                intro i hi E hE
                obtain rfl : i = 16 := by omega
                refine FrI.mk fun g => ?_
                apply hI2
                conv => whnf
                clear hI2 I2
                intro I2 hI2
                have ksch : ∀ m i : Nat, i + m = 48 → ∀ E, (∀ j, j < 64 → E j = [.iv (.int .u32 (wi ((schd P i).getD j 0)))]) →
                    FrI F294 [(x514, .ptr 1 0), (x516, .ptr 2 0), (x517, .sl 1 q 0 len), (x520, .ptr a 0), (x521, .iv (.int .i64 ((64 * i0 : Nat) : Int))), (x522, .sl 1 nx 0 64), (x525, .iv (.int .i64 ((16 + i : Nat) : Int)))] (fun fr => I2 fr ((nx, .arr 1 64 E) :: S) (nx + 1)) := by
                  clear hE E
                  intro m
                  induction m with
                  | zero =>
                    intro i hi E hE
                    obtain rfl : i = 48 := by omega
                    refine FrI.mk fun g => ?_
                    apply hI2
                    conv => whnf
                    repeat ((first | (refine And.intro ?_ ?_; · (simp only [minI, maxI]; omega)) | (refine vc_mk ?_ ?_; · first | omega | exact ⟨rfl, rfl⟩ | (simp [sub, bitsI] <;> omega)) | (refine beq_yes ?_ ?_; · rfl) | (refine beq_no ?_ ?_; · omega) | (refine getK_of hA ?_) | (refine getK_of hQ ?_) | (refine getK_of h1 ?_)); conv => whnf)
                    clear hI2 I2
                    intro I2 hI2
                    have hEw := hE
                    generalize hws : schd P 48 = ws at hE
                    have krnd : ∀ m i : Nat, i + m = 64 → ∀ v, v = rounds partsW ws h i → ∀ xa xe, xa = wi v.a → xe = wi v.e →
                        FrI F294 [(x514, .ptr 1 0), (x516, .ptr 2 0), (x517, .sl 1 q 0 len), (x520, .ptr a 0), (x521, .iv (.int .i64 ((64 * i0 : Nat) : Int))), (x522, .sl 1 nx 0 64), (x536, .iv (.int .i64 (i : Int))), (x528, .iv (.int .u32 xa)), (x529, .iv (.int .u32 (wi v.b))), (x530, .iv (.int .u32 (wi v.c))), (x531, .iv (.int .u32 (wi v.d))), (x532, .iv (.int .u32 xe)), (x533, .iv (.int .u32 (wi v.f))), (x534, .iv (.int .u32 (wi v.g))), (x535, .iv (.int .u32 (wi v.h)))] (fun fr => I2 fr ((nx, .arr 1 64 E) :: S) (nx + 1)) := by
                      intro m
                      induction m with
                      | zero =>
                        intro i hi v hv xa xe hxa hxe
                        subst hxa hxe
                        obtain rfl : i = 64 := by omega
                        refine FrI.mk fun g => ?_
                        apply hI2
                        conv => whnf
                        repeat ((first | (refine And.intro ?_ ?_; · (simp only [minI, maxI]; omega)) | (refine vc_mk ?_ ?_; · first | omega | exact ⟨rfl, rfl⟩ | (simp [sub, bitsI] <;> omega)) | (refine beq_yes ?_ ?_; · rfl) | (refine beq_no ?_ ?_; · omega) | (refine getK_of hA ?_) | (refine getK_of (get_put hA) ?_) | (refine getK_of (get_put (get_put hA)) ?_) | (refine getK_of (get_put (get_put (get_put hA))) ?_) | (refine getK_of (get_put (get_put (get_put (get_put hA)))) ?_) | (refine getK_of (get_put (get_put (get_put (get_put (get_put hA))))) ?_) | (refine getK_of (get_put (get_put (get_put (get_put (get_put (get_put hA)))))) ?_) | (refine getK_of (get_put (get_put (get_put (get_put (get_put (get_put (get_put hA))))))) ?_) | (refine getK_of (get_put (get_put (get_put (get_put (get_put (get_put (get_put (get_put hA)))))))) ?_) | (refine putK_of ?_) | (refine getK_of h2 ?_) | (refine getK_of (get_put h2) ?_)); conv => whnf)
                        refine ih (i0 + 1) (blk partsW h P) (by omega) ?_ _ _ (get_tl (by omega) ((get_put (get_put (get_put (get_put (get_put (get_put (get_put (get_put hA)))))))).trans ?_)) (get_tl (by omega) ?_) (get_tl (by omega) ?_) (get_tl (by omega) ?_) (by omega) _ rfl ⟨rfl, rfl, rfl, rfl, rfl, trivial⟩
                        · rw [← hb]
                          show _ = blocks partsW m (blk partsW h ((l.drop (64 * i0)).take 64)) ((l.drop (64 * i0)).drop 64)
                          rw [List.drop_drop, hP]
                          rfl
                        · have hbk : blk partsW h P = h.add v := by rw [hv, ← hws]; rfl
                          rw [hbk]
                          clear hI hI2 ih hv hbk hb hA
                          obtain ⟨h0, h1', h2', h3, h4, h5, h6, h7⟩ := h
                          obtain ⟨v0, v1, v2, v3, v4, v5, v6, v7⟩ := v
                          simp [V8.l, V8.add, wi_add]
                        · simp only [get_put_ne (show a ≠ q by omega)]; exact hQ
                        · simp only [get_put_ne (show a ≠ 1 by omega)]; exact h1
                        · simp only [get_put_ne (show a ≠ 2 by omega)]; exact h2
                      | succ m ih =>
                        intro i hi v hv xa xe hxa hxe
                        subst hxa hxe
                        refine FrI.mk fun g => ?_
                        apply hI2
                        conv => whnf
                        refine cond_yes (by simp; omega) ?_
                        conv => whnf
                        repeat ((first | (refine And.intro ?_ ?_; · (simp only [minI, maxI]; omega)) | (refine vc_mk ?_ ?_; · first | omega | exact ⟨rfl, rfl⟩ | (simp [sub, bitsI] <;> omega)) | (refine beq_yes ?_ ?_; · rfl) | (refine beq_no ?_ ?_; · omega) | (refine cellK_int (hE _ ?_) ?_; · omega) | (refine getK_of h1 ?_)); conv => whnf)
                        refine f49 6 (by omega) rfl ?_
                        conv => whnf
                        repeat ((first | (refine And.intro ?_ ?_; · (simp only [minI, maxI]; omega)) | (refine vc_mk ?_ ?_; · first | omega | exact ⟨rfl, rfl⟩ | (simp [sub, bitsI] <;> omega)) | (refine beq_yes ?_ ?_; · rfl) | (refine beq_no ?_ ?_; · omega) | (refine cellK_int (hE _ ?_) ?_; · omega) | (refine getK_of h1 ?_)); conv => whnf)
                        refine f49 11 (by omega) rfl ?_
                        conv => whnf
                        repeat ((first | (refine And.intro ?_ ?_; · (simp only [minI, maxI]; omega)) | (refine vc_mk ?_ ?_; · first | omega | exact ⟨rfl, rfl⟩ | (simp [sub, bitsI] <;> omega)) | (refine beq_yes ?_ ?_; · rfl) | (refine beq_no ?_ ?_; · omega) | (refine cellK_int (hE _ ?_) ?_; · omega) | (refine getK_of h1 ?_)); conv => whnf)
                        refine f49 25 (by omega) rfl ?_
                        conv => whnf
                        repeat ((first | (refine And.intro ?_ ?_; · (simp only [minI, maxI]; omega)) | (refine vc_mk ?_ ?_; · first | omega | exact ⟨rfl, rfl⟩ | (simp [sub, bitsI] <;> omega)) | (refine beq_yes ?_ ?_; · rfl) | (refine beq_no ?_ ?_; · omega) | (refine cellK_int (hE _ ?_) ?_; · omega) | (refine getK_of h1 ?_)); conv => whnf)
                        refine f49 2 (by omega) rfl ?_
                        conv => whnf
                        repeat ((first | (refine And.intro ?_ ?_; · (simp only [minI, maxI]; omega)) | (refine vc_mk ?_ ?_; · first | omega | exact ⟨rfl, rfl⟩ | (simp [sub, bitsI] <;> omega)) | (refine beq_yes ?_ ?_; · rfl) | (refine beq_no ?_ ?_; · omega) | (refine cellK_int (hE _ ?_) ?_; · omega) | (refine getK_of h1 ?_)); conv => whnf)
                        refine f49 13 (by omega) rfl ?_
                        conv => whnf
                        repeat ((first | (refine And.intro ?_ ?_; · (simp only [minI, maxI]; omega)) | (refine vc_mk ?_ ?_; · first | omega | exact ⟨rfl, rfl⟩ | (simp [sub, bitsI] <;> omega)) | (refine beq_yes ?_ ?_; · rfl) | (refine beq_no ?_ ?_; · omega) | (refine cellK_int (hE _ ?_) ?_; · omega) | (refine getK_of h1 ?_)); conv => whnf)
                        refine f49 22 (by omega) rfl ?_
                        conv => whnf
                        repeat ((first | (refine And.intro ?_ ?_; · (simp only [minI, maxI]; omega)) | (refine vc_mk ?_ ?_; · first | omega | exact ⟨rfl, rfl⟩ | (simp [sub, bitsI] <;> omega)) | (refine beq_yes ?_ ?_; · rfl) | (refine beq_no ?_ ?_; · omega) | (refine cellK_int (hE _ ?_) ?_; · omega) | (refine getK_of h1 ?_)); conv => whnf)
                        refine ih (i + 1) (by omega) (rnd (partsW.getD i 0) (ws.getD i 0) v) (by rw [hv]; rfl) _ _ ?_ ?_ _ rfl ⟨rfl, rfl, rfl, rfl, rfl, rfl, rfl, rfl, rfl, rfl, rfl, rfl, rfl, rfl, rfl, trivial⟩
                        all_goals clear hI hI2 ih
                        all_goals rw [show 0 + ((i : Nat) : Int).toNat = i by omega, show ((i : Nat) : Int).toNat = i by omega]
                        all_goals rw [getD_wi]
                        all_goals simp only [wi_xor, wi_and, wi_or, wi_not, wi_add, sgn, cond_false]
                        all_goals rfl
                    refine krnd 64 0 rfl h rfl _ _ rfl rfl _ rfl ⟨rfl, rfl, rfl, rfl, rfl, rfl, rfl, rfl, rfl, rfl, rfl, rfl, rfl, rfl, rfl, trivial⟩
                  | succ m ih =>
                    intro i hi E hE
                    refine FrI.mk fun g => ?_
                    apply hI2
                    conv => whnf
                    refine cond_yes (by simp; omega) ?_
                    conv => whnf
                    repeat ((first | (refine And.intro ?_ ?_; · (simp only [minI, maxI]; omega)) | (refine vc_mk ?_ ?_; · first | omega | exact ⟨rfl, rfl⟩ | (simp [sub, bitsI] <;> omega)) | (refine beq_yes ?_ ?_; · rfl) | (refine beq_no ?_ ?_; · omega) | (refine cellK_int (hE _ ?_) ?_; · omega)); conv => whnf)
                    refine f49 7 (by omega) rfl ?_
                    conv => whnf
                    repeat ((first | (refine And.intro ?_ ?_; · (simp only [minI, maxI]; omega)) | (refine vc_mk ?_ ?_; · first | omega | exact ⟨rfl, rfl⟩ | (simp [sub, bitsI] <;> omega)) | (refine beq_yes ?_ ?_; · rfl) | (refine beq_no ?_ ?_; · omega) | (refine cellK_int (hE _ ?_) ?_; · omega)); conv => whnf)
                    refine f49 18 (by omega) rfl ?_
                    conv => whnf
                    repeat ((first | (refine And.intro ?_ ?_; · (simp only [minI, maxI]; omega)) | (refine vc_mk ?_ ?_; · first | omega | exact ⟨rfl, rfl⟩ | (simp [sub, bitsI] <;> omega)) | (refine beq_yes ?_ ?_; · rfl) | (refine beq_no ?_ ?_; · omega) | (refine cellK_int (hE _ ?_) ?_; · omega)); conv => whnf)
                    refine f49 17 (by omega) rfl ?_
                    conv => whnf
                    repeat ((first | (refine And.intro ?_ ?_; · (simp only [minI, maxI]; omega)) | (refine vc_mk ?_ ?_; · first | omega | exact ⟨rfl, rfl⟩ | (simp [sub, bitsI] <;> omega)) | (refine beq_yes ?_ ?_; · rfl) | (refine beq_no ?_ ?_; · omega) | (refine cellK_int (hE _ ?_) ?_; · omega)); conv => whnf)
                    refine f49 19 (by omega) rfl ?_
                    conv => whnf
                    repeat ((first | (refine And.intro ?_ ?_; · (simp only [minI, maxI]; omega)) | (refine vc_mk ?_ ?_; · first | omega | exact ⟨rfl, rfl⟩ | (simp [sub, bitsI] <;> omega)) | (refine beq_yes ?_ ?_; · rfl) | (refine beq_no ?_ ?_; · omega) | (refine cellK_int (hE _ ?_) ?_; · omega) | (refine setCellK_int (hE _ ?_) ?_; · omega)); conv => whnf)
                    refine ih (i + 1) (by omega) _ (fun j hj => ?_) _ rfl ⟨rfl, rfl, rfl, rfl, rfl, rfl, rfl, trivial⟩
                    have hf : schd P (i + 1) = (schd P i).set (16 + i) ((schd P i).getD i 0 + sml0 ((schd P i).getD (i + 1) 0) + (schd P i).getD (i + 9) 0 + sml1 ((schd P i).getD (i + 14) 0)) := rfl
                    by_cases hji : j = 16 + i
                    · subst hji
                      refine (updE_self (by omega)).trans ?_
                      rw [hf, getD_set_self (by rw [schd_len]; omega)]
                      rw [show 0 + (((16 + i : Nat) : Int) - 16).toNat = i by omega, show 0 + (((16 + i : Nat) : Int) - 15).toNat = i + 1 by omega, show 0 + (((16 + i : Nat) : Int) - 7).toNat = i + 9 by omega, show 0 + (((16 + i : Nat) : Int) - 2).toNat = i + 14 by omega]
                      simp only [show (3 : Int).toNat = 3 from rfl, show (10 : Int).toNat = 10 from rfl, wi_shr, wi_xor, wi_add]
                      rfl
                    · refine (updE_ne (by omega)).trans ?_
                      rw [hE j hj, hf, getD_set_ne (fun e => hji e.symm)]
                refine ksch 48 0 rfl E hE _ rfl ⟨rfl, rfl, rfl, rfl, rfl, rfl, rfl, trivial⟩
              | succ m ih =>
                intro i hi E hE
                refine FrI.mk fun g => ?_
                apply hI2
                conv => whnf
                refine cond_yes (by simp; omega) ?_
                conv => whnf
                intro I3 hI3
                have kin : ∀ m k : Nat, k + m = 4 → ∀ E x, x = pw P i k → E i = [.iv (.int .u32 (wi x))] → (∀ j, j < 64 → j ≠ i → E j = [.iv (.int .u32 (wi ((fill P i).getD j 0)))]) →
                    FrI F294 [(x514, .ptr 1 0), (x516, .ptr 2 0), (x517, .sl 1 q 0 len), (x520, .ptr a 0), (x521, .iv (.int .i64 ((64 * i0 : Nat) : Int))), (x522, .sl 1 nx 0 64), (x523, .iv (.int .i64 (i : Int))), (x524, .iv (.int .i64 (k : Int)))] (fun fr => I3 fr ((nx, .arr 1 64 E) :: S) (nx + 1)) := by
                  clear hE E
                  intro m
                  induction m with
                  | zero =>
                    intro k hk E x hx hEi hEj
                    obtain rfl : k = 4 := by omega
                    refine FrI.mk fun g => ?_
                    apply hI3
                    conv => whnf
                    repeat ((first | (refine And.intro ?_ ?_; · (simp only [minI, maxI]; omega)) | (refine vc_mk ?_ ?_; · first | omega | exact ⟨rfl, rfl⟩ | (simp [sub, bitsI] <;> omega)) | (refine beq_yes ?_ ?_; · rfl) | (refine beq_no ?_ ?_; · omega)); conv => whnf)
                    refine ih (i + 1) (by omega) E (fun j hj => ?_) _ rfl ⟨rfl, rfl, rfl, rfl, rfl, rfl, rfl, trivial⟩
                    have hf : fill P (i + 1) = (fill P i).set i (wv P i) := rfl
                    by_cases hji : j = i
                    · subst hji
                      rw [hEi, hf, getD_set_self (by rw [fill_len]; omega), hx, pw_four]
                    · rw [hEj j hj hji, hf, getD_set_ne (fun e => hji e.symm)]
                  | succ m ih3 =>
                    intro k hk E x hx hEi hEj
                    have hEi' : E (0 + ((i : Nat) : Int).toNat) = [.iv (.int .u32 (wi x))] := by rw [Int.toNat_natCast, Nat.zero_add]; exact hEi
                    refine FrI.mk fun g => ?_
                    apply hI3
                    conv => whnf
                    refine cond_yes (by simp; omega) ?_
                    conv => whnf
                    repeat ((first | (refine And.intro ?_ ?_; · (simp only [minI, maxI]; omega)) | (refine vc_mk ?_ ?_; · first | omega | exact ⟨rfl, rfl⟩ | (simp [sub, bitsI] <;> omega)) | (refine beq_yes ?_ ?_; · rfl) | (refine beq_no ?_ ?_; · omega) | (refine cellK_int hEi' ?_) | (refine setCellK_int hEi' ?_) | (refine getK_of hQ ?_)); conv => whnf)
                    refine ih3 (k + 1) (by omega) _ (x * 256 + BitVec.ofNat 32 (P.getD (4 * i + k) 0).toNat) (by rw [hx]; rfl) ?_ (fun j hj hji => ?_) _ rfl ⟨rfl, rfl, rfl, rfl, rfl, rfl, rfl, rfl, trivial⟩
                    · refine (updE_self (by omega)).trans ?_
                      rw [show 0 + (((64 * i0 : Nat) : Int) + 4 * (i : Int) + (k : Int)).toNat = 64 * i0 + (4 * i + k) by omega, hP, getD_chunk (by omega), wi_byte, show (256 : Int) = wi 256 from rfl, wi_mul, wi_add]
                    · refine (updE_ne (by omega)).trans (hEj j hj hji)
                refine kin 4 0 rfl E 0 rfl ?_ (fun j hj _ => hE j hj) _ rfl ⟨rfl, rfl, rfl, rfl, rfl, rfl, rfl, rfl, trivial⟩
                rw [hE i (by omega), fill_get0 P i i (by omega) (by omega)]
            refine kfill 16 0 rfl _ (fun j hj => ?_) _ rfl ⟨rfl, rfl, rfl, rfl, rfl, rfl, rfl, trivial⟩
            rw [fill_get0 P 0 j (by omega) (by omega)]; rfl
        refine key (l.length / 64) 0 firstV (by omega) rfl _ _ get_hd (get_tl (by omega) get_hd) (get_tl (by omega) (get_tl (by omega) h1)) (get_tl (by omega) (get_tl (by omega) h2)) (by omega) _ rfl ⟨rfl, rfl, rfl, rfl, rfl, trivial⟩
      iterate 8 (apply hI; (conv => whnf); repeat ((first | (refine And.intro ?_ ?_; · (simp only [minI, maxI]; omega)) | (refine vc_mk ?_ ?_; · first | omega | exact ⟨rfl, rfl⟩ | (simp [sub, bitsI] <;> omega)) | (refine beq_yes ?_ ?_; · rfl) | (refine beq_no ?_ ?_; · omega)); conv => whnf))
      refine fin _ ?_ _ ?_ _ _ _ ?_ ?_ ?_ ?_ _ rfl ⟨rfl, rfl, rfl, rfl, trivial⟩
      all_goals clear hI
      · have e : wr .u64 (wr .u64 (p.length : Int) * 8) = ((p.length * 8 : Nat) : Int) := by
          rw [wr64, show (((p.length % 18446744073709551616 : Nat) : Int) * 8) = ((p.length % 18446744073709551616 * 8 : Nat) : Int) by omega, wr64]
          omega
        rw [e]
        simp only [toByte_shr]
        rw [hl, show k = padz (p.length + 1) from hk]
        simp [sub, padded, be8]
      · simp [sub, hlen]
      · omega
      · omega
      · repeat (refine get_tl (by omega) ?_)
        exact h1
      · repeat (refine get_tl (by omega) ?_)
        exact h2
    | succ m ih =>
      intro k hk l hl len hlen q T nx hq hq2 h1 h2
      have hz : (p.length + 1 + k) % 64 ≠ 56 := by unfold padz at hk; omega
      have hk2 : k < 64 := by unfold padz at hk; omega
      have hll : l.length = p.length + 1 + k := by rw [hl]; simp; omega
      refine FrI.mk fun g => ?_
      apply hI
      conv => whnf
      repeat ((first | (refine And.intro ?_ ?_; · (simp only [minI, maxI]; omega)) | (refine vc_mk ?_ ?_; · first | omega | exact ⟨rfl, rfl⟩ | (simp [sub, bitsI] <;> omega)) | (refine beq_yes ?_ ?_; · rfl) | (refine beq_no ?_ ?_; · omega)); conv => whnf)
      refine cond_yes (by simp; omega) ?_
      conv => whnf
      repeat ((first | (refine And.intro ?_ ?_; · (simp only [minI, maxI]; omega)) | (refine vc_mk ?_ ?_; · first | omega | exact ⟨rfl, rfl⟩ | (simp [sub, bitsI] <;> omega)) | (refine beq_yes ?_ ?_; · rfl) | (refine beq_no ?_ ?_; · omega)); conv => whnf)
      refine ih (k + 1) (by omega) _ ?_ _ ?_ _ _ _ ?_ ?_ ?_ ?_ _ rfl ⟨rfl, rfl, rfl, rfl, trivial⟩
      all_goals clear hI ih
      · rw [hl, List.replicate_succ', ← List.append_assoc]; rfl
      · simp [sub, hlen]
      · omega
      · omega
      · exact get_tl (by omega) h1
      · exact get_tl (by omega) h2
  refine key _ 0 (Nat.zero_add _) _ ?_ _ ?_ _ _ _ ?_ ?_ ?_ ?_ _ rfl ⟨rfl, rfl, rfl, rfl, trivial⟩
  all_goals clear hI key
  · simp [sub]
  · simp [sub]
  · omega
  · omega
  · rfl
  · rfl
end Sg
end YtfkboondffejaaaGreatDoor
end Go.Proofs
