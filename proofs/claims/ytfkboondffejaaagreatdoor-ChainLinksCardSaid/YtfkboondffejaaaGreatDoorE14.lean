/- A root as the machine's part: reckoned with numbers that are forced. -/
import Derived.Test.YtfkboondffejaaaGreatDoorE13
import Derived.Test.YtfkboondffejaaaGreatDoorE05
set_option linter.all false
set_option linter.unusedVariables false
set_option linter.unusedSimpArgs false
set_option linter.deprecated false
set_option maxRecDepth 100000
set_option maxHeartbeats 8000000
set_option linter.unusedVariables false
set_option linter.unusedSimpArgs false
namespace Go.Proofs
namespace YtfkboondffejaaaGreatDoor
namespace Sg
noncomputable section
def forL (l : List Nat) : (List Nat → R) → R :=
  List.rec (motive := fun _ => (List Nat → R) → R) (fun K => K []) (fun x _ ih K => forR x fun x => ih fun xs => K (x :: xs)) l
theorem forL_eq : ∀ (l : List Nat) (K : List Nat → R), forL l K = K l
  | [], K => rfl
  | x :: l, K => by
    show forR x (fun x => forL l fun xs => K (x :: xs)) = _
    rw [forR_eq, forL_eq l]
def tinC (ai : Nat) (b : List Nat) (i m : Nat) : Nat → List Nat → Nat → (List Nat → R) → R :=
  Nat.rec (motive := fun _ => Nat → List Nat → Nat → (List Nat → R) → R) (fun _ c _ K => K c)
    (fun _ ih j c o K => forR (tv ai (b.getD j 0) (c.getD (i + j) 0) o) fun v => forL (c.set (i + j) (v % 4294967296)) fun c => forR (v / 4294967296) fun o => forR (j + 1) fun j => ih j c o K) m
theorem tinC_eq (ai : Nat) (b : List Nat) (i : Nat) (c0 : List Nat) : ∀ (m j : Nat) (K : List Nat → R), tinC ai b i m j (tin ai b i c0 j).1 (tin ai b i c0 j).2 K = K (tin ai b i c0 (j + m)).1
  | 0, j, K => rfl
  | m + 1, j, K => by
    show forR (tv ai (b.getD j 0) ((tin ai b i c0 j).1.getD (i + j) 0) (tin ai b i c0 j).2) (fun v => forL ((tin ai b i c0 j).1.set (i + j) (v % 4294967296)) fun c => forR (v / 4294967296) fun o => forR (j + 1) fun j => tinC ai b i m j c o K) = _
    rw [forR_eq, forL_eq, forR_eq, forR_eq]
    have := tinC_eq ai b i c0 m (j + 1) K
    rw [show j + (m + 1) = j + 1 + m by omega]
    exact this
def toutC (a b : List Nat) (m : Nat) : Nat → List Nat → (List Nat → R) → R :=
  Nat.rec (motive := fun _ => Nat → List Nat → (List Nat → R) → R) (fun _ c K => K c)
    (fun _ ih i c K => forR (a.getD i 0) fun ai => forR (8 - i) fun n => tinC ai b i n 0 c 0 fun c => forR (i + 1) fun i => ih i c K) m
theorem toutC_eq (a b : List Nat) : ∀ (m i : Nat) (K : List Nat → R), toutC a b m i (tout a b i) K = K (tout a b (i + m))
  | 0, i, K => rfl
  | m + 1, i, K => by
    show forR (a.getD i 0) (fun ai => forR (8 - i) fun n => tinC ai b i n 0 (tout a b i) 0 fun c => forR (i + 1) fun i => toutC a b m i c K) = _
    rw [forR_eq, forR_eq]
    have e := tinC_eq (a.getD i 0) b i (tout a b i) (8 - i) 0 (fun c => forR (i + 1) fun i => toutC a b m i c K)
    rw [Nat.zero_add] at e
    refine Eq.trans e ?_
    rw [forR_eq, show i + (m + 1) = i + 1 + m by omega]
    exact toutC_eq a b m (i + 1) K
def timesC (a b : List Nat) (K : List Nat → R) : R := toutC a b 8 0 [0, 0, 0, 0, 0, 0, 0, 0] K
theorem timesC_eq (a b : List Nat) (K : List Nat → R) : timesC a b K = K (timesL a b) := by
  have := toutC_eq a b 8 0 K
  unfold timesL
  exact this
def ritC2 (n m : Nat) : Nat → Nat → (Nat → R) → R :=
  Nat.rec (motive := fun _ => Nat → Nat → (Nat → R) → R) (fun lo _ K => K lo)
    (fun _ ih lo hi K => forR ((lo + hi) / 2) fun m => forL (mx m) fun x => timesC x x fun y => (bif aboveL y [0, 0, n, 0, 0, 0, 0, 0] false then ih lo m K else ih m hi K)) m
theorem ritC2_eq (n : Nat) : ∀ (m i : Nat) (K : Nat → R), ritC2 n m (rit2 n i).1 (rit2 n i).2 K = K (rit2 n (i + m)).1
  | 0, i, K => rfl
  | m + 1, i, K => by
    show forR (((rit2 n i).1 + (rit2 n i).2) / 2) (fun m' => forL (mx m') fun x => timesC x x fun y => (bif aboveL y [0, 0, n, 0, 0, 0, 0, 0] false then ritC2 n m (rit2 n i).1 m' K else ritC2 n m m' (rit2 n i).2 K)) = _
    rw [forR_eq, forL_eq, timesC_eq]
    have ih := ritC2_eq n m (i + 1) K
    rw [show i + (m + 1) = i + 1 + m by omega, ← ih, rit2, rst2]
    generalize aboveL (timesL (mx (((rit2 n i).1 + (rit2 n i).2) / 2)) (mx (((rit2 n i).1 + (rit2 n i).2) / 2))) [0, 0, n, 0, 0, 0, 0, 0] false = r
    cases r <;> rfl
def ritC3 (n m : Nat) : Nat → Nat → (Nat → R) → R :=
  Nat.rec (motive := fun _ => Nat → Nat → (Nat → R) → R) (fun lo _ K => K lo)
    (fun _ ih lo hi K => forR ((lo + hi) / 2) fun m => forL (mx m) fun x => timesC x x fun y => timesC y x fun y => (bif aboveL y [0, 0, 0, n, 0, 0, 0, 0] false then ih lo m K else ih m hi K)) m
theorem ritC3_eq (n : Nat) : ∀ (m i : Nat) (K : Nat → R), ritC3 n m (rit3 n i).1 (rit3 n i).2 K = K (rit3 n (i + m)).1
  | 0, i, K => rfl
  | m + 1, i, K => by
    show forR (((rit3 n i).1 + (rit3 n i).2) / 2) (fun m' => forL (mx m') fun x => timesC x x fun y => timesC y x fun y => (bif aboveL y [0, 0, 0, n, 0, 0, 0, 0] false then ritC3 n m (rit3 n i).1 m' K else ritC3 n m m' (rit3 n i).2 K)) = _
    rw [forR_eq, forL_eq, timesC_eq, timesC_eq]
    have ih := ritC3_eq n m (i + 1) K
    rw [show i + (m + 1) = i + 1 + m by omega, ← ih, rit3, rst3]
    generalize aboveL (timesL (timesL (mx (((rit3 n i).1 + (rit3 n i).2) / 2)) (mx (((rit3 n i).1 + (rit3 n i).2) / 2))) (mx (((rit3 n i).1 + (rit3 n i).2) / 2))) [0, 0, 0, n, 0, 0, 0, 0] false = r
    cases r <;> rfl
theorem ritC2_eq0 (n : Nat) (K : Nat → R) : ritC2 n 38 0 274877906944 K = K (rit2 n 38).1 := by
  have h := ritC2_eq n 38 0 K
  rw [show 0 + 38 = 38 from rfl] at h
  exact h
theorem ritC3_eq0 (n : Nat) (K : Nat → R) : ritC3 n 38 0 274877906944 K = K (rit3 n 38).1 := by
  have h := ritC3_eq n 38 0 K
  rw [show 0 + 38 = 38 from rfl] at h
  exact h
theorem root2_def (n : Nat) : (rit2 n 38).1 % 4294967296 = root2 n := rfl
theorem root3_def (n : Nat) : (rit3 n 38).1 % 4294967296 = root3 n := rfl
def kf (lo : Nat) : R := forR (lo % 4294967296) fun r => some (.fin (.byte r) .nil .h)
theorem root2_of {n r : Nat} (h : ritC2 n 38 0 274877906944 kf = some (.fin (.byte r) .nil .h)) : root2 n = r := by
  rw [ritC2_eq0] at h
  unfold kf at h
  rw [forR_eq, root2_def] at h
  exact KV.byte.inj (KSt.fin.inj (Option.some.inj h)).1
theorem root3_of {n r : Nat} (h : ritC3 n 38 0 274877906944 kf = some (.fin (.byte r) .nil .h)) : root3 n = r := by
  rw [ritC3_eq0] at h
  unfold kf at h
  rw [forR_eq, root3_def] at h
  exact KV.byte.inj (KSt.fin.inj (Option.some.inj h)).1
theorem rt2_2 : root2 2 = 1779033703 := root2_of (by kernel_rfl)
theorem rt3_2 : root3 2 = 1116352408 := root3_of (by kernel_rfl)
theorem rt2_3 : root2 3 = 3144134277 := root2_of (by kernel_rfl)
theorem rt3_3 : root3 3 = 1899447441 := root3_of (by kernel_rfl)
theorem rt2_5 : root2 5 = 1013904242 := root2_of (by kernel_rfl)
theorem rt3_5 : root3 5 = 3049323471 := root3_of (by kernel_rfl)
theorem rt2_7 : root2 7 = 2773480762 := root2_of (by kernel_rfl)
theorem rt3_7 : root3 7 = 3921009573 := root3_of (by kernel_rfl)
theorem rt2_11 : root2 11 = 1359893119 := root2_of (by kernel_rfl)
theorem rt3_11 : root3 11 = 961987163 := root3_of (by kernel_rfl)
theorem rt2_13 : root2 13 = 2600822924 := root2_of (by kernel_rfl)
theorem rt3_13 : root3 13 = 1508970993 := root3_of (by kernel_rfl)
theorem rt2_17 : root2 17 = 528734635 := root2_of (by kernel_rfl)
theorem rt3_17 : root3 17 = 2453635748 := root3_of (by kernel_rfl)
theorem rt2_19 : root2 19 = 1541459225 := root2_of (by kernel_rfl)
theorem rt3_19 : root3 19 = 2870763221 := root3_of (by kernel_rfl)
theorem rt3_23 : root3 23 = 3624381080 := root3_of (by kernel_rfl)
theorem rt3_29 : root3 29 = 310598401 := root3_of (by kernel_rfl)
theorem rt3_31 : root3 31 = 607225278 := root3_of (by kernel_rfl)
theorem rt3_37 : root3 37 = 1426881987 := root3_of (by kernel_rfl)
theorem rt3_41 : root3 41 = 1925078388 := root3_of (by kernel_rfl)
theorem rt3_43 : root3 43 = 2162078206 := root3_of (by kernel_rfl)
theorem rt3_47 : root3 47 = 2614888103 := root3_of (by kernel_rfl)
theorem rt3_53 : root3 53 = 3248222580 := root3_of (by kernel_rfl)
theorem rt3_59 : root3 59 = 3835390401 := root3_of (by kernel_rfl)
theorem rt3_61 : root3 61 = 4022224774 := root3_of (by kernel_rfl)
theorem rt3_67 : root3 67 = 264347078 := root3_of (by kernel_rfl)
theorem rt3_71 : root3 71 = 604807628 := root3_of (by kernel_rfl)
theorem rt3_73 : root3 73 = 770255983 := root3_of (by kernel_rfl)
theorem rt3_79 : root3 79 = 1249150122 := root3_of (by kernel_rfl)
theorem rt3_83 : root3 83 = 1555081692 := root3_of (by kernel_rfl)
theorem rt3_89 : root3 89 = 1996064986 := root3_of (by kernel_rfl)
theorem rt3_97 : root3 97 = 2554220882 := root3_of (by kernel_rfl)
theorem rt3_101 : root3 101 = 2821834349 := root3_of (by kernel_rfl)
theorem rt3_103 : root3 103 = 2952996808 := root3_of (by kernel_rfl)
theorem rt3_107 : root3 107 = 3210313671 := root3_of (by kernel_rfl)
theorem rt3_109 : root3 109 = 3336571891 := root3_of (by kernel_rfl)
theorem rt3_113 : root3 113 = 3584528711 := root3_of (by kernel_rfl)
theorem rt3_127 : root3 127 = 113926993 := root3_of (by kernel_rfl)
theorem rt3_131 : root3 131 = 338241895 := root3_of (by kernel_rfl)
theorem rt3_137 : root3 137 = 666307205 := root3_of (by kernel_rfl)
theorem rt3_139 : root3 139 = 773529912 := root3_of (by kernel_rfl)
theorem rt3_149 : root3 149 = 1294757372 := root3_of (by kernel_rfl)
theorem rt3_151 : root3 151 = 1396182291 := root3_of (by kernel_rfl)
theorem rt3_157 : root3 157 = 1695183700 := root3_of (by kernel_rfl)
theorem rt3_163 : root3 163 = 1986661051 := root3_of (by kernel_rfl)
theorem rt3_167 : root3 167 = 2177026350 := root3_of (by kernel_rfl)
theorem rt3_173 : root3 173 = 2456956037 := root3_of (by kernel_rfl)
theorem rt3_179 : root3 179 = 2730485921 := root3_of (by kernel_rfl)
theorem rt3_181 : root3 181 = 2820302411 := root3_of (by kernel_rfl)
theorem rt3_191 : root3 191 = 3259730800 := root3_of (by kernel_rfl)
theorem rt3_193 : root3 193 = 3345764771 := root3_of (by kernel_rfl)
theorem rt3_197 : root3 197 = 3516065817 := root3_of (by kernel_rfl)
theorem rt3_199 : root3 199 = 3600352804 := root3_of (by kernel_rfl)
theorem rt3_211 : root3 211 = 4094571909 := root3_of (by kernel_rfl)
theorem rt3_223 : root3 223 = 275423344 := root3_of (by kernel_rfl)
theorem rt3_227 : root3 227 = 430227734 := root3_of (by kernel_rfl)
theorem rt3_229 : root3 229 = 506948616 := root3_of (by kernel_rfl)
theorem rt3_233 : root3 233 = 659060556 := root3_of (by kernel_rfl)
theorem rt3_239 : root3 239 = 883997877 := root3_of (by kernel_rfl)
theorem rt3_241 : root3 241 = 958139571 := root3_of (by kernel_rfl)
theorem rt3_251 : root3 251 = 1322822218 := root3_of (by kernel_rfl)
theorem rt3_257 : root3 257 = 1537002063 := root3_of (by kernel_rfl)
theorem rt3_263 : root3 263 = 1747873779 := root3_of (by kernel_rfl)
theorem rt3_269 : root3 269 = 1955562222 := root3_of (by kernel_rfl)
theorem rt3_271 : root3 271 = 2024104815 := root3_of (by kernel_rfl)
theorem rt3_277 : root3 277 = 2227730452 := root3_of (by kernel_rfl)
theorem rt3_281 : root3 281 = 2361852424 := root3_of (by kernel_rfl)
theorem rt3_283 : root3 283 = 2428436474 := root3_of (by kernel_rfl)
theorem rt3_293 : root3 293 = 2756734187 := root3_of (by kernel_rfl)
theorem rt3_307 : root3 307 = 3204031479 := root3_of (by kernel_rfl)
theorem rt3_311 : root3 311 = 3329325298 := root3_of (by kernel_rfl)
def Good (n p r : Nat) : Prop := n ≤ 1000 ∧ (p = 2 ∧ root2 n = r ∨ p = 3 ∧ root3 n = r)
def Goods : List (Nat × Nat × Nat) → Prop
  | [] => True
  | (n, p, r) :: l => Good n p r ∧ Goods l
def rtab : List (Nat × Nat × Nat) := ((2, 2, 1779033703) :: (2, 3, 1116352408) :: (3, 2, 3144134277) :: (3, 3, 1899447441) :: (5, 2, 1013904242) :: (5, 3, 3049323471) :: (7, 2, 2773480762) :: (7, 3, 3921009573) :: (11, 2, 1359893119) :: (11, 3, 961987163) :: (13, 2, 2600822924) :: (13, 3, 1508970993) :: (17, 2, 528734635) :: (17, 3, 2453635748) :: (19, 2, 1541459225) :: (19, 3, 2870763221) :: (23, 3, 3624381080) :: (29, 3, 310598401) :: (31, 3, 607225278) :: (37, 3, 1426881987) :: (41, 3, 1925078388) :: (43, 3, 2162078206) :: (47, 3, 2614888103) :: (53, 3, 3248222580) :: (59, 3, 3835390401) :: (61, 3, 4022224774) :: (67, 3, 264347078) :: (71, 3, 604807628) :: (73, 3, 770255983) :: (79, 3, 1249150122) :: (83, 3, 1555081692) :: (89, 3, 1996064986) :: (97, 3, 2554220882) :: (101, 3, 2821834349) :: (103, 3, 2952996808) :: (107, 3, 3210313671) :: (109, 3, 3336571891) :: (113, 3, 3584528711) :: (127, 3, 113926993) :: (131, 3, 338241895) :: (137, 3, 666307205) :: (139, 3, 773529912) :: (149, 3, 1294757372) :: (151, 3, 1396182291) :: (157, 3, 1695183700) :: (163, 3, 1986661051) :: (167, 3, 2177026350) :: (173, 3, 2456956037) :: (179, 3, 2730485921) :: (181, 3, 2820302411) :: (191, 3, 3259730800) :: (193, 3, 3345764771) :: (197, 3, 3516065817) :: (199, 3, 3600352804) :: (211, 3, 4094571909) :: (223, 3, 275423344) :: (227, 3, 430227734) :: (229, 3, 506948616) :: (233, 3, 659060556) :: (239, 3, 883997877) :: (241, 3, 958139571) :: (251, 3, 1322822218) :: (257, 3, 1537002063) :: (263, 3, 1747873779) :: (269, 3, 1955562222) :: (271, 3, 2024104815) :: (277, 3, 2227730452) :: (281, 3, 2361852424) :: (283, 3, 2428436474) :: (293, 3, 2756734187) :: (307, 3, 3204031479) :: (311, 3, 3329325298) :: [])
theorem rtab_ok : Goods rtab := ⟨⟨by decide, .inl ⟨rfl, rt2_2⟩⟩, ⟨by decide, .inr ⟨rfl, rt3_2⟩⟩, ⟨by decide, .inl ⟨rfl, rt2_3⟩⟩, ⟨by decide, .inr ⟨rfl, rt3_3⟩⟩, ⟨by decide, .inl ⟨rfl, rt2_5⟩⟩, ⟨by decide, .inr ⟨rfl, rt3_5⟩⟩, ⟨by decide, .inl ⟨rfl, rt2_7⟩⟩, ⟨by decide, .inr ⟨rfl, rt3_7⟩⟩, ⟨by decide, .inl ⟨rfl, rt2_11⟩⟩, ⟨by decide, .inr ⟨rfl, rt3_11⟩⟩, ⟨by decide, .inl ⟨rfl, rt2_13⟩⟩, ⟨by decide, .inr ⟨rfl, rt3_13⟩⟩, ⟨by decide, .inl ⟨rfl, rt2_17⟩⟩, ⟨by decide, .inr ⟨rfl, rt3_17⟩⟩, ⟨by decide, .inl ⟨rfl, rt2_19⟩⟩, ⟨by decide, .inr ⟨rfl, rt3_19⟩⟩, ⟨by decide, .inr ⟨rfl, rt3_23⟩⟩, ⟨by decide, .inr ⟨rfl, rt3_29⟩⟩, ⟨by decide, .inr ⟨rfl, rt3_31⟩⟩, ⟨by decide, .inr ⟨rfl, rt3_37⟩⟩, ⟨by decide, .inr ⟨rfl, rt3_41⟩⟩, ⟨by decide, .inr ⟨rfl, rt3_43⟩⟩, ⟨by decide, .inr ⟨rfl, rt3_47⟩⟩, ⟨by decide, .inr ⟨rfl, rt3_53⟩⟩, ⟨by decide, .inr ⟨rfl, rt3_59⟩⟩, ⟨by decide, .inr ⟨rfl, rt3_61⟩⟩, ⟨by decide, .inr ⟨rfl, rt3_67⟩⟩, ⟨by decide, .inr ⟨rfl, rt3_71⟩⟩, ⟨by decide, .inr ⟨rfl, rt3_73⟩⟩, ⟨by decide, .inr ⟨rfl, rt3_79⟩⟩, ⟨by decide, .inr ⟨rfl, rt3_83⟩⟩, ⟨by decide, .inr ⟨rfl, rt3_89⟩⟩, ⟨by decide, .inr ⟨rfl, rt3_97⟩⟩, ⟨by decide, .inr ⟨rfl, rt3_101⟩⟩, ⟨by decide, .inr ⟨rfl, rt3_103⟩⟩, ⟨by decide, .inr ⟨rfl, rt3_107⟩⟩, ⟨by decide, .inr ⟨rfl, rt3_109⟩⟩, ⟨by decide, .inr ⟨rfl, rt3_113⟩⟩, ⟨by decide, .inr ⟨rfl, rt3_127⟩⟩, ⟨by decide, .inr ⟨rfl, rt3_131⟩⟩, ⟨by decide, .inr ⟨rfl, rt3_137⟩⟩, ⟨by decide, .inr ⟨rfl, rt3_139⟩⟩, ⟨by decide, .inr ⟨rfl, rt3_149⟩⟩, ⟨by decide, .inr ⟨rfl, rt3_151⟩⟩, ⟨by decide, .inr ⟨rfl, rt3_157⟩⟩, ⟨by decide, .inr ⟨rfl, rt3_163⟩⟩, ⟨by decide, .inr ⟨rfl, rt3_167⟩⟩, ⟨by decide, .inr ⟨rfl, rt3_173⟩⟩, ⟨by decide, .inr ⟨rfl, rt3_179⟩⟩, ⟨by decide, .inr ⟨rfl, rt3_181⟩⟩, ⟨by decide, .inr ⟨rfl, rt3_191⟩⟩, ⟨by decide, .inr ⟨rfl, rt3_193⟩⟩, ⟨by decide, .inr ⟨rfl, rt3_197⟩⟩, ⟨by decide, .inr ⟨rfl, rt3_199⟩⟩, ⟨by decide, .inr ⟨rfl, rt3_211⟩⟩, ⟨by decide, .inr ⟨rfl, rt3_223⟩⟩, ⟨by decide, .inr ⟨rfl, rt3_227⟩⟩, ⟨by decide, .inr ⟨rfl, rt3_229⟩⟩, ⟨by decide, .inr ⟨rfl, rt3_233⟩⟩, ⟨by decide, .inr ⟨rfl, rt3_239⟩⟩, ⟨by decide, .inr ⟨rfl, rt3_241⟩⟩, ⟨by decide, .inr ⟨rfl, rt3_251⟩⟩, ⟨by decide, .inr ⟨rfl, rt3_257⟩⟩, ⟨by decide, .inr ⟨rfl, rt3_263⟩⟩, ⟨by decide, .inr ⟨rfl, rt3_269⟩⟩, ⟨by decide, .inr ⟨rfl, rt3_271⟩⟩, ⟨by decide, .inr ⟨rfl, rt3_277⟩⟩, ⟨by decide, .inr ⟨rfl, rt3_281⟩⟩, ⟨by decide, .inr ⟨rfl, rt3_283⟩⟩, ⟨by decide, .inr ⟨rfl, rt3_293⟩⟩, ⟨by decide, .inr ⟨rfl, rt3_307⟩⟩, ⟨by decide, .inr ⟨rfl, rt3_311⟩⟩, trivial⟩
def look (n p : Nat) (l : List (Nat × Nat × Nat)) : (Nat → R) → R :=
  List.rec (motive := fun _ => (Nat → R) → R) (fun _ => none) (fun x _ ih K => bif Nat.beq n x.1 && Nat.beq p x.2.1 then K x.2.2 else ih K) l
theorem look_ok {n p : Nat} {K : Nat → R} {t : KSt} : ∀ {l : List (Nat × Nat × Nat)}, Goods l → look n p l K = some t → ∃ r, Good n p r ∧ K r = some t
  | [], _, h => nomatch h
  | (a, b, c) :: l, hg, h => by
    replace h : (bif Nat.beq n a && Nat.beq p b then K c else look n p l K) = some t := h
    cases e : (Nat.beq n a && Nat.beq p b)
    · rw [e, cond_false] at h; exact look_ok hg.2 h
    · rw [e, cond_true] at h
      simp only [Bool.and_eq_true] at e
      obtain rfl := Nat.eq_of_beq_eq_true e.1
      obtain rfl := Nat.eq_of_beq_eq_true e.2
      exact ⟨c, hg.1, h⟩
def xroot (vs : List KV) (S : KH) (nx : Pos) (K : KV → KH → Pos → R) : R := match vs with
  | [.int .i64 (.ofNat n), .int .i64 (.ofNat p)] => look n p rtab fun r => K (.int .u32 (.ofNat r)) S nx
  | _ => none
end
theorem xroot_ok : ∀ (vs : List KV) (vs' : List SV) (S : KH) (S' : SH) (nx : Pos) (K : KV → KH → Pos → R) (t : KSt), VRs vs vs' → HR S S' → xroot vs S nx K = some t →
    ∃ v T nx2 v' T', K v T nx2 = some t ∧ VR v v' ∧ HR T T' ∧ ∀ K' : SV → SH → Nat → Prop, K' v' T' nx2.val → CallOb Tryz.prog g0 26 vs' S' nx.val K' := by
  intro vs vs' S S' nx K t hv hH h
  unfold xroot at h
  split at h
  · rename_i n p
    cases hv with | cons _ _ _ _ h1 hv =>
    cases hv with | cons _ _ _ _ h2 hv =>
    cases hv
    cases h1 with | iv _ _ h1 =>
    cases h1
    cases h2 with | iv _ _ h2 =>
    cases h2
    obtain ⟨r, ⟨hn, hr⟩, g⟩ := look_ok rtab_ok h
    refine ⟨_, _, _, .iv (.int .u32 (Int.ofNat r)), S', g, .iv _ _ (.int _ _), hH, fun K' hk => ?_⟩
    rcases hr with ⟨rfl, hr⟩ | ⟨rfl, hr⟩
    · subst hr; exact f26_2 n hn hk
    · subst hr; exact f26_3 n hn hk
  · cases h
end Sg
end YtfkboondffejaaaGreatDoor
end Go.Proofs
