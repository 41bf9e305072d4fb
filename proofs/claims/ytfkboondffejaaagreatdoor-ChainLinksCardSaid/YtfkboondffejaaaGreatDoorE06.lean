/- Loops: frames of which some places are known. -/
import Derived.Test.YtfkboondffejaaaGreatDoorE05
set_option linter.all false
set_option linter.unusedVariables false
set_option linter.unusedSimpArgs false
set_option linter.deprecated false
set_option linter.unusedVariables false
set_option linter.unusedSimpArgs false
namespace Go.Proofs
namespace YtfkboondffejaaaGreatDoor
namespace Sg
def bld : FT → (Pth → SV) → FT
  | .nil, _ => .nil
  | .lf _, f => .lf (f .e)
  | .nd l r, f => .nd (bld l fun p => f (.o p)) (bld r fun p => f (.i p))
def shape : FT → FT → Bool
  | .nil, .nil => true
  | .lf _, .lf _ => true
  | .nd l r, .nd l' r' => shape l l' && shape r r'
  | _, _ => false
abbrev Kn := List (Pth × SV)
def ovr : Kn → (Pth → SV) → Pth → SV
  | [], g, p => g p
  | (q, v) :: l, g, p => bif Pth.beq q p then v else ovr l g p
def gets (fr : FT) : Kn → Prop
  | [] => True
  | (q, v) :: l => fr.get q = some v ∧ gets fr l
theorem bld_get : ∀ {t fr : FT}, shape t fr = true → ∀ {f : Pth → SV}, (∀ p v, fr.get p = some v → f p = v) → bld t f = fr
  | .nil, .nil, _, _, _ => rfl
  | .lf _, .lf v, _, f, h => by simp only [bld]; rw [h .e v rfl]
  | .nd l r, .nd l' r', hs, f, h => by
    simp only [shape, Bool.and_eq_true] at hs
    simp only [bld]
    rw [bld_get hs.1 (fun p v e => h (.o p) v e), bld_get hs.2 (fun p v e => h (.i p) v e)]
  | .nil, .lf _, h, _, _ => by simp [shape] at h
  | .nil, .nd _ _, h, _, _ => by simp [shape] at h
  | .lf _, .nil, h, _, _ => by simp [shape] at h
  | .lf _, .nd _ _, h, _, _ => by simp [shape] at h
  | .nd _ _, .nil, h, _, _ => by simp [shape] at h
  | .nd _ _, .lf _, h, _, _ => by simp [shape] at h
theorem ovr_get {fr : FT} : ∀ {l : Kn}, gets fr l → ∀ p v, fr.get p = some v → ovr l (fun p => (fr.get p).getD .junk) p = v
  | [], _, p, v, h => by simp [ovr, h]
  | (q, u) :: l, hg, p, v, h => by
    obtain ⟨h1, h2⟩ := hg
    simp only [ovr]
    cases e : Pth.beq q p
    · exact ovr_get h2 p v h
    · obtain rfl := Pth.eq_of_beq e
      rw [h1] at h
      simpa using h
def FrI (t : FT) (l : Kn) (I : FT → Prop) : Prop := ∀ fr, shape t fr = true → gets fr l → I fr
theorem FrI.mk {t : FT} {l : Kn} {I : FT → Prop} (h : ∀ g, I (bld t (ovr l g))) : FrI t l I := fun fr hs hg => by
  rw [← bld_get hs (ovr_get hg)]
  exact h _
theorem cond_yes {b : Bool} {A B : Prop} (h : b = true) (k : A) : cond b A B := by rw [h]; exact k
theorem cond_no {b : Bool} {A B : Prop} (h : b = false) (k : B) : cond b A B := by rw [h]; exact k
theorem beq_yes {m n : Nat} {A B : Prop} (h : m = n) (k : A) : cond (Nat.beq m n) A B := by subst h; rw [show Nat.beq m m = true by simp]; exact k
theorem beq_no {m n : Nat} {A B : Prop} (h : m ≠ n) (k : B) : cond (Nat.beq m n) A B := by rw [beq_false h]; exact k
theorem getK_of {T : SH} {n : Nat} {o : SObj} {K : SObj → Prop} (h : SH.get T n = some o) (k : K o) : SH.getK T n K := SH.getK_iff.2 ⟨o, h, k⟩
theorem putK_of {T : SH} {n : Nat} {x : SObj} {K : SH → Prop} (k : K (SH.put T n x)) : SH.putK T n x K := SH.putK_iff.2 k
theorem put_hd {T : SH} {n : Nat} {o x : SObj} : SH.put ((n, o) :: T) n x = (n, x) :: T := by simp [SH.put]
theorem del_hd {T : SH} {n : Nat} {o : SObj} : SH.del ((n, o) :: T) n = T := by simp [SH.del]
theorem get_hd {T : SH} {n : Nat} {o : SObj} : SH.get ((n, o) :: T) n = some o := by simp [SH.get]
theorem get_tl {T : SH} {m n : Nat} {o : SObj} {x : Option SObj} (h : m ≠ n) (k : SH.get T n = x) : SH.get ((m, o) :: T) n = x := by simp only [SH.get, beq_false h, cond_false]; exact k
theorem get_put_self {n : Nat} {x : SObj} : ∀ {T : SH}, SH.get T n ≠ none → SH.get (SH.put T n x) n = some x
  | [], h => absurd rfl h
  | (m, o) :: T, h => by
    cases e : Nat.beq m n
    · simp only [SH.put, SH.get, e, cond_false] at h ⊢
      exact get_put_self h
    · simp only [SH.put, SH.get, e, cond_true]
theorem toByte_shr (n k : Nat) : toByte (shrI (n : Int) k) = UInt8.ofNat (n / 2 ^ k) := by
  unfold toByte shrI
  rw [show ((2 : Int) ^ k) = ((2 ^ k : Nat) : Int) by simp, Int.fdiv_eq_ediv_of_nonneg _ (Int.natCast_nonneg _), ← Int.natCast_ediv]
  rw [show ((n / 2 ^ k : Nat) : Int) % 256 = ((n / 2 ^ k % 256 : Nat) : Int) by omega, Int.toNat_natCast]
  exact UInt8.ofNat_mod_size
end Sg
end YtfkboondffejaaaGreatDoor
end Go.Proofs
set_option linter.unusedVariables false
set_option linter.unusedSimpArgs false
namespace Go.Proofs
namespace YtfkboondffejaaaGreatDoor
namespace Sg
section
variable (P : Program) (G : Gl) (C : CK)
noncomputable def regR (os : List ROp) : FT → SH → Nat → (FT → SH → Nat → Prop) → Prop :=
  List.rec (motive := fun _ => FT → SH → Nat → (FT → SH → Nat → Prop) → Prop) (fun fr S nx K => K fr S nx)
    (fun o _ ih fr S nx K => gdK fr o.g (opC P G C S nx fr o.c fun v S nx => spK o.sp v fun v => putK fr o.dst v fun fr => ih fr S nx K) (putK fr o.dst undefS fun fr => ih fr S nx K)) os
theorem regR_eq : ∀ (os : List ROp), regR P G C os = regK P G C os
  | [] => rfl
  | o :: os => by
    funext fr S nx K
    show gdK fr o.g (opC P G C S nx fr o.c fun v S nx => spK o.sp v fun v => putK fr o.dst v fun fr => regR P G C os fr S nx K) (putK fr o.dst undefS fun fr => regR P G C os fr S nx K) = _
    rw [regR_eq os]; rfl
noncomputable def dregR (ds : List DStep) : FT → Pend → SH → Nat → (FT → SH → Nat → Prop) → Prop :=
  List.rec (motive := fun _ => FT → Pend → SH → Nat → (FT → SH → Nat → Prop) → Prop) (fun fr p S nx K => K fr (p.sh ++ S) nx)
    (fun d _ ih => DStep.casesOn d
      (fun i o fr p S nx K => gdK fr o.g (qop G S fr o.c fun v => spK o.sp v fun v => putK fr o.dst v fun fr => ih fr p S nx K) (putK fr o.dst undefS fun fr => ih fr p S nx K))
      (fun i o fr p S nx K => gdK fr o.g (nop G fr o.c fun mk ob => putK fr o.dst (mk nx) fun fr => ih fr (p ++ [(i, nx, ob)]) S (nx + 1) K) (putK fr o.dst undefS fun fr => ih fr p S nx K))
      (fun i o src fr p S nx K => gdK fr o.g (msK G fr p o.c src fun v => putK fr o.dst v fun fr => ih fr p S nx K) (putK fr o.dst undefS fun fr => ih fr p S nx K))
      (fun i o due re fr p S nx K => splitK p due fun a p => gdK fr o.g
        (opC P G C (a.sh ++ S) nx fr o.c fun v S nx => spK o.sp v fun v => putK fr o.dst v fun fr => reK G S fr re (ih fr p S nx K))
        (putK fr o.dst undefS fun fr => reK G (a.sh ++ S) fr re (ih fr p (a.sh ++ S) nx K)))) ds
theorem dregR_eq : ∀ (ds : List DStep), dregR P G C ds = dregK P G C ds
  | [] => rfl
  | d :: ds => by
    funext fr p S nx K
    cases d with
    | q i o =>
      show gdK fr o.g (qop G S fr o.c fun v => spK o.sp v fun v => putK fr o.dst v fun fr => dregR P G C ds fr p S nx K) (putK fr o.dst undefS fun fr => dregR P G C ds fr p S nx K) = _
      rw [dregR_eq ds]; rfl
    | al i o =>
      show gdK fr o.g (nop G fr o.c fun mk ob => putK fr o.dst (mk nx) fun fr => dregR P G C ds fr (p ++ [(i, nx, ob)]) S (nx + 1) K) (putK fr o.dst undefS fun fr => dregR P G C ds fr p S nx K) = _
      rw [dregR_eq ds]; rfl
    | ms i o src =>
      show gdK fr o.g (msK G fr p o.c src fun v => putK fr o.dst v fun fr => dregR P G C ds fr p S nx K) (putK fr o.dst undefS fun fr => dregR P G C ds fr p S nx K) = _
      rw [dregR_eq ds]; rfl
    | ef i o due re =>
      show (splitK p due fun a p => gdK fr o.g
        (opC P G C (a.sh ++ S) nx fr o.c fun v S nx => spK o.sp v fun v => putK fr o.dst v fun fr => reK G S fr re (dregR P G C ds fr p S nx K))
        (putK fr o.dst undefS fun fr => reK G (a.sh ++ S) fr re (dregR P G C ds fr p (a.sh ++ S) nx K))) = _
      rw [dregR_eq ds]; rfl
noncomputable def swpR (c : CC) : Post → FT → SH → Nat → Prop :=
  CC.rec (motive := fun _ => Post → FT → SH → Nat → Prop)
    (fun Q fr S nx => Q .norm fr S nx)
    (fun os Q fr S nx => regR P G C os fr S nx (Q .norm))
    (fun ds Q fr S nx => dregR P G C ds fr [] S nx (Q .norm))
    (fun _ _ iha ihb Q fr S nx => iha (fun x fr S nx => match x with | .norm => ihb Q fr S nx | x => Q x fr S nx) fr S nx)
    (fun c _ _ iha ihb Q fr S nx => evK G fr c fun v => match v with
      | .iv (.bool t) => _root_.cond t (iha Q fr S nx) (ihb Q fr S nx)
      | _ => False)
    (fun id _ iha Q fr S nx => iha (fun x fr S nx => match x with | .exit j => _root_.cond (Nat.beq j id) (Q .norm fr S nx) (Q (.exit j) fr S nx) | x => Q x fr S nx) fr S nx)
    (fun _ iha Q fr S nx => LoopL iha Q fr S nx)
    (fun id Q fr S nx => Q (.exit id) fr S nx)
    (fun Q fr S nx => Q .ret fr S nx)
    (fun Q fr S nx => False) c
theorem swpR_eq : ∀ (c : CC), swpR P G C c = swp P G C c
  | .skip => rfl
  | .reg os => by funext Q fr S nx; show regR P G C os fr S nx _ = _; rw [regR_eq]; rfl
  | .dreg ds => by funext Q fr S nx; show dregR P G C ds fr [] S nx _ = _; rw [dregR_eq]; rfl
  | .seq a b => by
    funext Q fr S nx
    show swpR P G C a (fun x fr S nx => match x with | .norm => swpR P G C b Q fr S nx | x => Q x fr S nx) fr S nx = _
    rw [swpR_eq a, swpR_eq b]; rfl
  | .cond c a b => by
    funext Q fr S nx
    show (evK G fr c fun v => match v with
      | .iv (.bool t) => _root_.cond t (swpR P G C a Q fr S nx) (swpR P G C b Q fr S nx)
      | _ => False) = _
    rw [swpR_eq a, swpR_eq b]; rfl
  | .block id a => by
    funext Q fr S nx
    show swpR P G C a (fun x fr S nx => match x with | .exit j => _root_.cond (Nat.beq j id) (Q .norm fr S nx) (Q (.exit j) fr S nx) | x => Q x fr S nx) fr S nx = _
    rw [swpR_eq a]; rfl
  | .loop a => by
    funext Q fr S nx
    show LoopL (swpR P G C a) Q fr S nx = _
    rw [swpR_eq a]; rfl
  | .exit id => rfl
  | .ret => rfl
  | .trap => rfl
end
def bodyR (P : Program) (G : Gl) (C : CK) (F : CF) (vs : List SV) (S : SH) (nx : Nat) (K : SV → SH → Nat → Prop) : Prop :=
  argK F.fr0 F.par vs fun fr => swpR P G C F.code (fun x fr S nx => match x with
    | .exit _ => False
    | _ => retK S fr F.res fun v => K v S nx) fr S nx
theorem bodyR_eq (P : Program) (G : Gl) (C : CK) (F : CF) (vs : List SV) (S : SH) (nx : Nat) (K : SV → SH → Nat → Prop) : bodyR P G C F vs S nx K = bodyK P G C F vs S nx K := by
  unfold bodyR bodyK
  rw [swpR_eq]
  rfl
theorem body_ok {P : Program} {G : Gl} {f : Nat} {F : CF} (hc : chkFunc P (chkD P) f F = true) {vs : List SV} {S : SH} {nx : Nat} {K : SV → SH → Nat → Prop} (h : bodyR P G (CallOb P G) F vs S nx K) : CallOb P G f vs S nx K :=
  body_sound chkD_ok hc (bodyR_eq P G _ F vs S nx K ▸ h)
end Sg
end YtfkboondffejaaaGreatDoor
end Go.Proofs
