/- The symbolic executor, part X: what an operation comes to hangs on the slots that it reads alone, and it picks one outcome. -/
import Derived.Test.YtfkboondffejaaaGreatDoorE02
import Derived.LoopN
set_option linter.all false
set_option linter.unusedVariables false
set_option linter.unusedSimpArgs false
set_option linter.deprecated false
set_option linter.unusedVariables false
set_option linter.unusedSimpArgs false
namespace Go.Proofs.YtfkboondffejaaaGreatDoor
namespace Sg
variable {P : Program}
def Pth.beq : Pth → Pth → Bool
  | .e, .e => true
  | .o p, .o q => Pth.beq p q
  | .i p, .i q => Pth.beq p q
  | _, _ => false
theorem Pth.eq_of_beq : ∀ {p q : Pth}, Pth.beq p q = true → p = q
  | .e, .e, _ => rfl
  | .o p, .o q, h => by rw [Pth.eq_of_beq (p := p) (q := q) h]
  | .i p, .i q, h => by rw [Pth.eq_of_beq (p := p) (q := q) h]
  | .e, .o _, h => nomatch h
  | .e, .i _, h => nomatch h
  | .o _, .e, h => nomatch h
  | .o _, .i _, h => nomatch h
  | .i _, .e, h => nomatch h
  | .i _, .o _, h => nomatch h
theorem Pth.beq_self : ∀ p : Pth, Pth.beq p p = true
  | .e => rfl
  | .o p => Pth.beq_self p
  | .i p => Pth.beq_self p
def eqD : Option Pth → Option Pth → Bool
  | none, none => true
  | some p, some q => Pth.beq p q
  | _, _ => false
theorem eqD_eq {x y : Option Pth} (h : eqD x y = true) : x = y := by
  unfold eqD at h
  split at h
  · rfl
  · rw [Pth.eq_of_beq h]
  · cases h
def Opd.rd : Opd → List Pth
  | .t p => [p]
  | _ => []
def rdO : Option Opd → List Pth
  | some x => x.rd
  | none => []
def rdP : List Piece → List Pth
  | [] => []
  | .op _ x :: ps => x.rd ++ rdP ps
  | .z _ :: ps => rdP ps
def rdL : List Opd → List Pth
  | [] => []
  | x :: xs => x.rd ++ rdL xs
def COp.rd : COp → List Pth
  | .mov x | .eqn _ x | .mlen x | .mclr x | .load1 x | .loadN _ x | .nilck x | .un _ x | .cint _ x | .b2s x | .s2ap _ x | .faddr _ x | .field _ _ x | .ext x _ | .len _ x | .box x | .mkb x | .mksl _ _ _ x | .s2b x | .s2s x => x.rd
  | .pick a b c => a.rd ++ (b.rd ++ c.rd)
  | .build ps => rdP ps
  | .mset _ x y z => x.rd ++ (y.rd ++ z.rd)
  | .eqa _ _ x y | .mget _ _ _ x y | .cmpb _ x y | .mdel _ x y | .cpy x y | .bin _ x y | .eqb _ x y | .eqp _ x y | .ixarr _ _ x y | .ixsl _ x y | .idxstr x y | .idxagg _ x y | .mm _ x y | .store1 x y | .storeN _ x y | .appb x y | .appz x y | .app _ _ x y => x.rd ++ y.rd
  | .slarr _ _ x l h | .slsl _ x l h | .slstr x l h => x.rd ++ (rdO l ++ rdO h)
  | .alloc _ | .mmk | .bad => []
  | .bslice _ _ xs | .bbytes xs | .call _ xs | .sem _ xs => rdL xs
def rdG : Option (Pth × Bool) → List Pth
  | some (p, _) => [p]
  | none => []
def ROp.rd (o : ROp) : List Pth := o.c.rd ++ rdG o.g
def Agree (l : List Pth) (fr fr' : FT) : Prop := ∀ p ∈ l, fr'.get p = fr.get p
theorem Agree.app {a b : List Pth} {fr fr' : FT} (h : Agree (a ++ b) fr fr') : Agree a fr fr' ∧ Agree b fr fr' :=
  ⟨fun p hp => h p (List.mem_append_left _ hp), fun p hp => h p (List.mem_append_right _ hp)⟩
theorem Agree.symm {l : List Pth} {fr fr' : FT} (h : Agree l fr fr') : Agree l fr' fr := fun p hp => (h p hp).symm
section
variable {G : Gl} {fr fr' : FT} {S S' : SH} {nx : Nat}
theorem FT.getK_congr {p : Pth} (h : fr'.get p = fr.get p) : FT.getK fr' p = FT.getK fr p := by
  funext K
  apply propext
  rw [FT.getK_iff, FT.getK_iff, h]
theorem evK_congr {x : Opd} (h : Agree x.rd fr fr') : evK G fr' x = evK G fr x := by
  cases x with
  | t p => funext K; simp only [evK]; rw [FT.getK_congr (h p (List.mem_singleton.2 rfl))]
  | k v => rfl
  | g n => rfl
theorem evoK_congr {x : Option Opd} (h : Agree (rdO x) fr fr') : evoK G fr' x = evoK G fr x := by
  cases x with
  | none => rfl
  | some x => funext K; simp only [evoK]; rw [evK_congr h]
theorem evsK_congr : ∀ {xs : List Opd}, Agree (rdL xs) fr fr' → evsK G fr' xs = evsK G fr xs
  | [], _ => rfl
  | x :: xs, h => by funext K; simp only [evsK]; rw [evK_congr h.app.1, evsK_congr h.app.2]
theorem elemsK_congr {sz : Nat} : ∀ {xs : List Opd}, Agree (rdL xs) fr fr' → elemsK G fr' sz xs = elemsK G fr sz xs
  | [], _ => rfl
  | x :: xs, h => by funext K; simp only [elemsK]; rw [evK_congr h.app.1, elemsK_congr h.app.2]
theorem bytesK_congr : ∀ {xs : List Opd}, Agree (rdL xs) fr fr' → bytesK G fr' xs = bytesK G fr xs
  | [], _ => rfl
  | x :: xs, h => by funext K; simp only [bytesK]; rw [evK_congr h.app.1, bytesK_congr h.app.2]
theorem piecesK_congr : ∀ {xs : List Piece}, Agree (rdP xs) fr fr' → piecesK G fr' xs = piecesK G fr xs
  | [], _ => rfl
  | .op n x :: xs, h => by funext K; simp only [piecesK]; rw [evK_congr h.app.1, piecesK_congr h.app.2]
  | .z cs :: xs, h => by funext K; simp only [piecesK]; rw [piecesK_congr (xs := xs) h]
theorem gdK_congr {g : Option (Pth × Bool)} (h : Agree (rdG g) fr fr') {y n : Prop} : gdK fr' g y n = gdK fr g y n := by
  cases g with
  | none => rfl
  | some g => simp only [gdK]; rw [FT.getK_congr (h g.1 (List.mem_singleton.2 rfl))]
theorem qop_congr {c : COp} (h : Agree c.rd fr fr') : qop G S fr' c = qop G S fr c := by
  funext K
  cases c
  case pick a b c => simp only [qop]; rw [evK_congr h.app.1, evK_congr h.app.2.app.1, evK_congr h.app.2.app.2]
  case build ps => simp only [qop]; rw [piecesK_congr h]
  case bin | eqb | eqp | mm | eqa | mget | cmpb => simp only [qop]; rw [evK_congr h.app.1, evK_congr h.app.2]
  case ixarr | ixsl | idxstr | idxagg => simp only [qop]; rw [evK_congr h.app.1, evoK_congr (x := some _) h.app.2]
  case slarr | slsl | slstr => simp only [qop]; rw [evK_congr h.app.1, evoK_congr h.app.2.app.1, evoK_congr h.app.2.app.2]
  case field off n x => cases n <;> simp only [qop] <;> rw [evK_congr h]
  case len s x => cases s <;> simp only [qop] <;> rw [evK_congr h]
  case mov | eqn | mlen | load1 | loadN | nilck | un | cint | b2s | s2ap | faddr | ext => simp only [qop]; rw [evK_congr h]
  all_goals rfl
theorem hop_congr {c : COp} (h : Agree c.rd fr fr') : hop P G S nx fr' c = hop P G S nx fr c := by
  funext K
  cases c
  case bslice => simp only [hop]; rw [elemsK_congr h]
  case bbytes => simp only [hop]; rw [bytesK_congr h]
  case call | sem => simp only [hop]; rw [evsK_congr h]
  case mset => simp only [hop]; rw [evK_congr h.app.1, evK_congr h.app.2.app.1, evK_congr h.app.2.app.2]
  case store1 | storeN | appb | appz | app | mdel | cpy => simp only [hop]; rw [evK_congr h.app.1, evK_congr h.app.2]
  case box | mkb | mksl | s2b | s2s | mclr => simp only [hop]; rw [evK_congr h]
  all_goals rfl
theorem opC_congr {C : CK} {c : COp} (h : Agree c.rd fr fr') : opC P G C S nx fr' c = opC P G C S nx fr c := by
  have hk : opK P G S nx fr' c = opK P G S nx fr c := by
    funext K
    unfold opK
    rw [qop_congr h, hop_congr h]
  funext K
  cases c
  case call => simp only [opC]; rw [evsK_congr h]
  all_goals (simp only [opC]; rw [hk])
theorem nop_congr {c : COp} (h : Agree c.rd fr fr') : nop G fr' c = nop G fr c := by
  funext K
  cases c
  case box => simp only [nop]; rw [evK_congr h]
  case bslice => simp only [nop]; rw [elemsK_congr h]
  case bbytes => simp only [nop]; rw [bytesK_congr h]
  all_goals rfl
def COp.heapy : COp → Bool
  | .load1 _ | .loadN _ _ | .b2s _ | .mget .. | .mlen _ | .cmpb .. => true
  | _ => false
theorem qop_heap {c : COp} (h : c.heapy = false) : qop G S' fr c = qop G S fr c := by
  funext K
  cases c
  case load1 | loadN | b2s | mget | mlen | cmpb => cases h
  case len s x => cases s <;> rfl
  case field a b c => cases b <;> rfl
  all_goals rfl
end
def Lin {α : Type} (T : (α → Prop) → Prop) : Prop := ∀ K, T K → ∃ v, K v ∧ ∀ K' : α → Prop, K' v → T K'
section
variable {α β : Type}
theorem lin_pure (v : α) : Lin (fun K => K v) := fun _ h => ⟨v, h, fun _ h => h⟩
theorem lin_false : Lin (fun _ : α → Prop => False) := fun _ h => h.elim
theorem Lin.bind {T : (α → Prop) → Prop} {U : α → (β → Prop) → Prop} (h : Lin T) (k : ∀ v, Lin (U v)) : Lin (fun K => T fun v => U v K) := by
  intro K hK
  obtain ⟨v, hv, hT⟩ := h _ hK
  obtain ⟨u, hu, hU⟩ := k v _ hv
  exact ⟨u, hu, fun K' hk => hT _ (hU K' hk)⟩
theorem Lin.vc {T : (α → Prop) → Prop} {A : Prop} [Decidable A] (h : Lin T) : Lin (fun K => vc A (T K)) := by
  intro K hK
  obtain ⟨ha, hT⟩ := vc_iff.1 hK
  obtain ⟨v, hv, hh⟩ := h _ hT
  exact ⟨v, hv, fun K' hk => vc_iff.2 ⟨ha, hh K' hk⟩⟩
theorem lin_and {A : Prop} {v : α} : Lin (fun K : α → Prop => A ∧ K v) := fun K h => ⟨v, h.2, fun K' hk => ⟨h.1, hk⟩⟩
theorem Lin.cond {T U : (α → Prop) → Prop} {b : Bool} (h : Lin T) (k : Lin U) : Lin (fun K => _root_.cond b (T K) (U K)) := by cases b; exact k; exact h
theorem Lin.map {T : (α → Prop) → Prop} (h : Lin T) (f : α → β) : Lin (fun K => T fun v => K (f v)) := h.bind fun v => lin_pure (f v)
variable {G : Gl} {fr : FT} {S : SH}
theorem ftget_lin {p : Pth} : Lin (FT.getK fr p) := by
  intro K h
  obtain ⟨x, e, hk⟩ := FT.getK_iff.1 h
  exact ⟨x, hk, fun K' hk => FT.getK_iff.2 ⟨x, e, hk⟩⟩
theorem shget_lin {n : Nat} : Lin (SH.getK S n) := by
  intro K h
  obtain ⟨x, e, hk⟩ := SH.getK_iff.1 h
  exact ⟨x, hk, fun K' hk => SH.getK_iff.2 ⟨x, e, hk⟩⟩
theorem getK_lin {l : List α} {n : Nat} : Lin (getK l n) := by
  intro K h
  obtain ⟨x, e, hk⟩ := getK_iff.1 h
  exact ⟨x, hk, fun K' hk => getK_iff.2 ⟨x, e, hk⟩⟩
theorem appK_lin {xs ys : List α} : Lin (appK xs ys) := fun K h => ⟨xs ++ ys, appK_iff.1 h, fun K' h => appK_iff.2 h⟩
theorem evK_lin {x : Opd} : Lin (evK G fr x) := by
  cases x with
  | t p => exact ftget_lin
  | k v => exact lin_pure v
  | g n =>
    intro K h
    simp only [evK] at h ⊢
    split at h
    · exact ⟨_, h, fun K' h => h⟩
    · exact h.elim
theorem evoK_lin {x : Option Opd} : Lin (evoK G fr x) := by
  cases x with
  | none => exact lin_pure none
  | some x =>
    refine evK_lin.bind (U := fun v K => match v with | .iv (.int _ n) => K (some n) | .iv (.byte b) => K (some b.toNat) | _ => False) fun v => ?_
    cases v
    case iv y => cases y <;> first | exact lin_false | exact lin_pure _
    all_goals exact lin_false
theorem cellsK_lin {x : SV} : Lin (cellsK x) := by
  cases x
  case iv y => cases y <;> first | exact lin_false | exact lin_pure _
  all_goals first | exact lin_false | exact lin_pure _
theorem cellK_lin : ∀ (cs : List SV) (off : Nat), Lin (cellK cs off)
  | [], off => by cases off <;> exact lin_false
  | x :: xs, off => by
    have ih := cellK_lin xs
    cases x
    case iv y =>
      cases y
      case sbs n l =>
        intro K h
        simp only [cellK] at h ⊢
        cases hb : Nat.blt off n
        · rw [hb] at h; exact ih _ K h
        · rw [hb] at h; exact ⟨_, h, fun K' h => h⟩
      case sis k n l =>
        intro K h
        simp only [cellK] at h ⊢
        cases hb : Nat.blt off n
        · rw [hb] at h; exact ih _ K h
        · rw [hb] at h; exact ⟨_, h, fun K' h => h⟩
      all_goals (cases off; exact lin_pure _; exact ih _)
    all_goals (cases off; exact lin_pure _; exact ih _)
theorem takeK_lin : ∀ (cs : List SV) (off n : Nat), Lin (takeK cs off n)
  | cs, off, 0 => by cases cs <;> exact lin_pure _
  | [], off, n + 1 => lin_false
  | x :: xs, off, n + 1 => by
    have ih := takeK_lin xs
    cases x
    case iv y =>
      cases y
      case sbs m l =>
        intro K h
        simp only [takeK] at h ⊢
        cases hb : Nat.ble m off
        · rw [hb] at h
          simp only [cond_false] at h ⊢
          cases hc : Nat.ble (m - off) (n + 1)
          · rw [hc] at h; exact ⟨_, h, fun K' h => h⟩
          · rw [hc] at h; exact (ih _ _).map _ K h
        · rw [hb] at h; exact ih _ _ K h
      case sis k m l =>
        intro K h
        simp only [takeK] at h ⊢
        cases hb : Nat.ble m off
        · rw [hb] at h
          simp only [cond_false] at h ⊢
          cases hc : Nat.ble (m - off) (n + 1)
          · rw [hc] at h; exact ⟨_, h, fun K' h => h⟩
          · rw [hc] at h; exact (ih _ _).map _ K h
        · rw [hb] at h; exact ih _ _ K h
      all_goals (cases off; exact (ih _ _).map _; exact ih _ _)
    all_goals (cases off; exact (ih _ _).map _; exact ih _ _)
theorem dropK_lin : ∀ (cs : List SV) (off : Nat), Lin (dropK cs off)
  | cs, 0 => by cases cs <;> exact lin_pure _
  | [], off + 1 => lin_false
  | x :: xs, off + 1 => by
    have ih := dropK_lin xs
    cases x
    case iv y =>
      cases y
      case sbs m l =>
        intro K h
        simp only [dropK] at h ⊢
        cases hb : Nat.ble m (off + 1)
        · rw [hb] at h; exact ⟨_, h, fun K' h => h⟩
        · rw [hb] at h; exact ih _ K h
      case sis k m l =>
        intro K h
        simp only [dropK] at h ⊢
        cases hb : Nat.ble m (off + 1)
        · rw [hb] at h; exact ⟨_, h, fun K' h => h⟩
        · rw [hb] at h; exact ih _ K h
      all_goals exact ih _
    all_goals exact ih _
theorem dropIK_lin : ∀ (cs : List IV) (off : Nat), Lin (dropIK cs off)
  | cs, 0 => by cases cs <;> exact lin_pure _
  | [], off + 1 => lin_false
  | x :: xs, off + 1 => by
    have ih := dropIK_lin xs
    cases x
    case sbs m l =>
      intro K h
      simp only [dropIK] at h ⊢
      cases hb : Nat.ble m (off + 1)
      · rw [hb] at h; exact ⟨_, h, fun K' h => h⟩
      · rw [hb] at h; exact ih _ K h
    case sis k m l =>
      intro K h
      simp only [dropIK] at h ⊢
      cases hb : Nat.ble m (off + 1)
      · rw [hb] at h; exact ⟨_, h, fun K' h => h⟩
      · rw [hb] at h; exact ih _ K h
    all_goals exact ih _
theorem piecesK_lin : ∀ {ps : List Piece}, Lin (piecesK G fr ps)
  | [] => lin_pure _
  | .op n x :: ps => by
    have ih := piecesK_lin (ps := ps)
    exact evK_lin.bind fun v => cellsK_lin.bind fun cs => (ih.bind fun r => appK_lin).vc
  | .z cs :: ps => by
    have ih := piecesK_lin (ps := ps)
    exact ih.bind fun r => appK_lin
theorem elemsK_lin {sz : Nat} : ∀ {xs : List Opd}, Lin (elemsK G fr sz xs)
  | [] => lin_pure _
  | x :: xs => by
    have ih := elemsK_lin (sz := sz) (xs := xs)
    exact evK_lin.bind fun v => cellsK_lin.bind fun cs => (ih.map _).vc
theorem bytesK_lin : ∀ {xs : List Opd}, Lin (bytesK G fr xs)
  | [] => lin_pure _
  | x :: xs => by
    have ih := bytesK_lin (xs := xs)
    refine evK_lin.bind (U := fun v K => match v with | .iv (.byte b) => bytesK G fr xs fun r => K (b :: r) | _ => False) fun v => ?_
    cases v
    case iv y =>
      cases y
      case byte b => exact ih.map _
      all_goals exact lin_false
    all_goals exact lin_false
theorem arK_lin {k : IntKind} {n : Int} : Lin (arK k n) := by
  unfold arK
  cases sgn k
  · exact lin_pure _
  · exact lin_and
theorem binK_lin {op : BinOp} {x y : SV} : Lin (binK op x y) := by
  intro K h
  unfold binK at h ⊢
  split at h
  · cases op <;> first
      | exact h.elim
      | exact (lin_pure _).vc K h
      | exact arK_lin.vc K h
      | exact lin_and.vc K h
  · cases op <;> first
      | exact h.elim
      | exact lin_pure _ K h
  · cases op <;> first
      | exact h.elim
      | exact (lin_pure _).vc K h
  · cases op <;> first
      | exact h.elim
      | exact lin_pure _ K h
      | exact (lin_pure _).vc K h
  · exact h.elim
theorem eqaK_lin : ∀ (xs : List SV) (ls : List LK) (ys : List SV), Lin (eqaK ls xs ys) := by
  intro xs
  induction xs with
  | nil =>
    intro ls ys K h
    cases ys with
    | nil => cases ls with
      | nil => exact ⟨true, h, fun K' h => h⟩
      | cons l ls => cases l <;> exact h.elim
    | cons y ys => cases ls <;> first | exact h.elim | (rename_i l ls; cases l <;> exact h.elim)
  | cons x xs ih =>
    intro ls ys K h
    unfold eqaK at h ⊢
    split at h
    · rename_i e; cases e; exact ((ih _ _).map _).vc _ h
    · rename_i e; cases e; exact ((ih _ _).map _).vc _ h
    · rename_i e; cases e; exact ((ih _ _).map _).vc _ h
    · rename_i e; cases e; exact ((ih _ _).map _).vc _ h
    · rename_i e; cases e; exact (ih _ _).map _ _ h
    · rename_i e; cases e; exact (ih _ _).map _ _ h
    · rename_i e; cases e
    · exact h.elim
theorem mfindK_lin : ∀ (es : List (IV × SV)) (x : IV), Lin (mfindK es x)
  | [], x => lin_pure _
  | (k, v) :: es, x => (lin_pure _).cond (mfindK_lin es x)
theorem contK_lin {x : SV} : Lin (contK S x) := by
  cases x
  case iv y => cases y <;> first | exact lin_false | exact lin_pure _
  case sl sz n off len =>
    refine shget_lin.bind fun o => ?_
    cases o
    case bytes l => exact (lin_pure _).vc
    all_goals exact lin_false
  case slx sz n off len cap =>
    refine shget_lin.bind fun o => ?_
    cases o
    case cells cs =>
      refine (dropK_lin _ _).bind fun r => ?_
      cases r with
      | nil => exact lin_false
      | cons x r =>
        cases x
        case iv y => cases y <;> first | exact (lin_pure _).vc | exact lin_false
        all_goals exact lin_false
    all_goals exact lin_false
  all_goals exact lin_false
theorem lin_match {T : (α → Prop) → Prop} (h : ∀ K, T K → ∃ v, K v ∧ ∀ K' : α → Prop, K' v → T K') : Lin T := h
theorem qop_lin {c : COp} : Lin (qop G S fr c) := by
  cases c
  case mov x => exact evK_lin
  case pick a b c =>
    refine evK_lin.bind fun v => ?_
    cases v
    case iv y =>
      cases y
      case bool t => exact evK_lin.cond evK_lin
      all_goals exact lin_false
    all_goals exact lin_false
  case build ps => exact piecesK_lin.map _
  case load1 x =>
    refine evK_lin.bind fun v => ?_
    cases v
    case iv y =>
      cases y
      case ip cs => exact cellK_lin _ _
      all_goals exact lin_false
    case ptr n off =>
      refine shget_lin.bind fun o => ?_
      cases o
      case cells cs => exact cellK_lin _ _
      all_goals exact lin_false
    case ixp n off sz i =>
      refine shget_lin.bind fun o => ?_
      cases o
      case cells cs =>
        refine Lin.vc ((dropK_lin _ _).bind fun r => ?_)
        cases r with
        | nil => exact lin_false
        | cons x r =>
          cases x
          case iv y => cases y <;> first | exact (lin_pure _).vc | exact lin_false
          all_goals exact lin_false
      case arr sz' len E => exact (cellK_lin _ _).vc
      case bytes l => exact (lin_pure _).vc
      all_goals exact lin_false
    all_goals exact lin_false
  case loadN n x =>
    refine evK_lin.bind fun v => ?_
    cases v
    case iv y =>
      cases y
      case ip cs => exact (takeK_lin _ _ _).map _
      all_goals exact lin_false
    case ptr n off =>
      refine shget_lin.bind fun o => ?_
      cases o
      case cells cs => exact (takeK_lin _ _ _).map _
      all_goals exact lin_false
    case ixp n off sz i =>
      refine shget_lin.bind fun o => ?_
      cases o
      case arr sz' len E => exact ((takeK_lin _ _ _).map _).vc
      case bytes l => exact (lin_pure _).vc
      all_goals exact lin_false
    all_goals exact lin_false
  case nilck x =>
    refine evK_lin.bind fun v => ?_
    cases v
    case iv y => cases y <;> first | exact lin_pure _ | exact lin_false
    all_goals first | exact lin_pure _ | exact lin_false
  case bin op x y => exact evK_lin.bind fun a => evK_lin.bind fun b => binK_lin
  case eqb neg x y =>
    refine evK_lin.bind fun a => evK_lin.bind fun b => ?_
    cases a
    case iv a =>
      cases a
      case bool a =>
        cases b
        case iv b => cases b <;> first | exact lin_pure _ | exact lin_false
        all_goals exact lin_false
      all_goals exact lin_false
    all_goals exact lin_false
  case eqp neg x y =>
    refine evK_lin.bind fun a => evK_lin.bind fun b => ?_
    cases a
    case iv a => cases a <;> first | exact lin_false | (cases b; (rename_i b; cases b <;> first | exact lin_pure _ | exact lin_false); all_goals first | exact lin_pure _ | exact lin_false)
    case ptr n o =>
      cases b
      case iv b => cases b <;> first | exact lin_pure _ | exact lin_false
      all_goals first | exact (lin_pure _).vc | exact lin_false
    all_goals exact lin_false
  case un op x =>
    refine evK_lin.bind fun a => ?_
    cases op <;> cases a <;> first | exact lin_false | (rename_i a; cases a <;> first | exact lin_pure _ | exact arK_lin | exact lin_false)
  case cint k x =>
    refine evK_lin.bind fun a => ?_
    cases a
    case iv a =>
      cases a
      case byte b => exact Lin.cond (lin_pure _) (lin_pure _).vc
      case int k' n => exact Lin.cond (lin_pure _) (lin_pure _)
      all_goals exact lin_false
    all_goals exact lin_false
  case b2s x =>
    refine evK_lin.bind fun a => ?_
    cases a
    case iv a => cases a <;> first | exact lin_pure _ | exact lin_false
    case sl sz n off len =>
      refine shget_lin.bind fun o => ?_
      cases o
      case bytes l => exact (lin_pure _).vc
      all_goals exact lin_false
    case slx sz n off len cap =>
      refine shget_lin.bind fun o => ?_
      cases o
      case cells cs =>
        refine (dropK_lin _ _).bind fun r => ?_
        cases r with
        | nil => exact lin_false
        | cons x r =>
          cases x
          case iv y => cases y <;> first | exact (lin_pure _).vc | exact lin_false
          all_goals exact lin_false
      all_goals exact lin_false
    all_goals exact lin_false
  case s2ap n x =>
    refine evK_lin.bind fun a => ?_
    cases a
    case iv a => cases a <;> first | exact (lin_pure _).vc | exact lin_false
    all_goals first | exact (lin_pure _).vc | exact lin_false
  case faddr off x =>
    refine evK_lin.bind fun a => ?_
    cases a
    case iv a =>
      cases a
      case ip cs => exact (dropIK_lin _ _).map _
      all_goals exact lin_false
    all_goals first | exact lin_pure _ | exact lin_false
  case field off n x =>
    cases n
    · refine evK_lin.bind fun a => ?_
      cases a
      case agg cs => exact cellK_lin _ _
      all_goals exact lin_false
    · refine evK_lin.bind fun a => ?_
      cases a
      case agg cs => exact (takeK_lin _ _ _).map _
      all_goals exact lin_false
  case ixarr sz n x i =>
    refine evK_lin.bind fun a => evoK_lin.bind fun j => lin_match fun K h => ?_
    split at h
    · exact (lin_pure _).vc K h
    · exact (lin_pure _).vc K h
    · exact (lin_pure _).vc K h
    · exact h.elim
  case ixsl sz x i =>
    refine evK_lin.bind fun a => evoK_lin.bind fun j => lin_match fun K h => ?_
    split at h
    · exact (lin_pure _).vc K h
    · exact (lin_pure _).vc K h
    · exact (lin_pure _).vc K h
    · exact (lin_pure _).vc K h
    · exact h.elim
  case idxstr x i =>
    refine evK_lin.bind fun a => evoK_lin.bind fun j => lin_match fun K h => ?_
    split at h
    · exact (lin_pure _).vc K h
    · exact h.elim
  case idxagg n x i =>
    refine evK_lin.bind fun a => evoK_lin.bind fun j => lin_match fun K h => ?_
    split at h
    · exact (lin_pure _).vc K h
    · exact (lin_pure _).vc K h
    · exact h.elim
  case slarr sz n x lo hi =>
    refine evK_lin.bind fun a => evoK_lin.bind fun l => evoK_lin.bind fun h => ?_
    cases a <;> first | exact (lin_pure _).vc | exact lin_false
  case slsl sz x lo hi =>
    refine evK_lin.bind fun a => evoK_lin.bind fun l => evoK_lin.bind fun h => ?_
    cases a
    case iv a => cases a <;> first | exact (lin_pure _).vc | exact lin_false
    all_goals first | exact (lin_pure _).vc | exact lin_false
  case slstr x lo hi =>
    refine evK_lin.bind fun a => evoK_lin.bind fun l => evoK_lin.bind fun h => ?_
    cases a
    case iv a => cases a <;> first | exact (lin_pure _).vc | exact lin_false
    all_goals exact lin_false
  case ext x i =>
    refine evK_lin.bind fun a => ?_
    cases a <;> first | exact getK_lin | exact lin_false
  case len s x =>
    cases s
    · refine evK_lin.bind fun a => ?_
      cases a
      case iv a => cases a <;> first | exact lin_pure _ | exact lin_false
      all_goals first | exact lin_pure _ | exact lin_false
    · refine evK_lin.bind fun a => ?_
      cases a
      case iv a => cases a <;> first | exact lin_pure _ | exact lin_false
      all_goals exact lin_false
  case eqa neg ls x y =>
    refine evK_lin.bind fun a => evK_lin.bind fun b => ?_
    cases a
    case agg xs =>
      cases b
      case agg ys => exact (eqaK_lin _ _ _).map _
      all_goals exact lin_false
    all_goals exact lin_false
  case eqn neg x =>
    refine evK_lin.bind fun a => ?_
    cases a
    case iv a => cases a <;> first | exact lin_pure _ | exact (lin_pure _).vc | exact lin_false
    all_goals first | exact lin_pure _ | exact (lin_pure _).vc | exact lin_false
  case mget s ok z x i =>
    refine evK_lin.bind fun m => evK_lin.bind fun k => ?_
    cases m
    case map n =>
      cases k
      case iv k =>
        refine shget_lin.bind fun o => ?_
        cases o
        case mp es =>
          refine Lin.vc ((mfindK_lin _ _).bind fun r => ?_)
          cases r <;> exact lin_pure _
        all_goals exact lin_false
      all_goals exact lin_false
    all_goals exact lin_false
  case mlen x =>
    refine evK_lin.bind fun m => ?_
    cases m
    case iv m => cases m <;> first | exact lin_pure _ | exact lin_false
    case map n =>
      refine shget_lin.bind fun o => ?_
      cases o
      case mp es => exact lin_pure _
      all_goals exact lin_false
    all_goals exact lin_false
  case cmpb f x y => exact evK_lin.bind fun a => evK_lin.bind fun b => contK_lin.bind fun l => contK_lin.map _
  case mm mx x y =>
    refine evK_lin.bind fun a => evK_lin.bind fun b => ?_
    cases a
    case iv a =>
      cases a
      case int k a =>
        cases b
        case iv b => cases b <;> first | exact (lin_pure _).vc | exact lin_false
        all_goals exact lin_false
      all_goals exact lin_false
    all_goals exact lin_false
  all_goals exact lin_false
def msV (G : Gl) (fr : FT) (p : Pend) (c : COp) (src : Nat) (K : SV → Prop) : Prop :=
  match c with
  | .s2s x => evK G fr x fun v => match v with
    | .sl sz n off len => (∃ l, (src, n, SObj.bytes l) ∈ p ∧ 0 < l.length) ∧ off = 0 ∧ K (.sl sz n off len)
    | _ => False
  | _ => False
theorem getP_mem : ∀ {p : Pend} {i : Nat} {K : Nat → SObj → Prop}, getP p i K → ∃ n ob, (i, n, ob) ∈ p ∧ K n ob
  | [], i, K, h => h.elim
  | (j, n, ob) :: p, i, K, h => by
    simp only [getP] at h
    cases hb : Nat.beq j i
    · rw [hb] at h
      obtain ⟨m, o, h1, h2⟩ := getP_mem h
      exact ⟨m, o, List.mem_cons_of_mem _ h1, h2⟩
    · rw [hb] at h
      obtain rfl := Nat.eq_of_beq_eq_true hb
      exact ⟨n, ob, List.mem_cons_self .., h⟩
theorem msK_split {p : Pend} {c : COp} {src : Nat} {K : SV → Prop} (h : msK G fr p c src K) : ∃ v, K v ∧ ∀ K' : SV → Prop, K' v → msV G fr p c src K' := by
  cases c
  case s2s x =>
    obtain ⟨v, h1, h2⟩ := evK_lin _ (show evK G fr x _ from h)
    split at h1
    · rename_i sz n off len
      obtain ⟨m, ob, hm, h3⟩ := getP_mem h1
      split at h3
      · rename_i l
        obtain ⟨⟨rfl, h4, h5⟩, hk⟩ := vc_iff.1 h3
        exact ⟨_, hk, fun K' hk' => h2 _ ⟨⟨l, hm, h5⟩, h4, hk'⟩⟩
      · exact h3.elim
    · exact h1.elim
  all_goals exact h.elim
theorem msV_congr {fr' : FT} {p : Pend} {c : COp} {src : Nat} (h : Agree c.rd fr fr') : msV G fr' p c src = msV G fr p c src := by
  funext K
  cases c
  case s2s x => simp only [msV]; rw [evK_congr h]
  all_goals rfl
theorem msV_mono {p p' : Pend} {c : COp} {src : Nat} {K K' : SV → Prop} (h : msV G fr p c src K) (hp : ∀ x ∈ p, x.1 = src → x ∈ p') (hk : ∀ v, K v → K' v) : msV G fr p' c src K' := by
  cases c
  case s2s x =>
    obtain ⟨v, h1, h2⟩ := evK_lin _ (show evK G fr x _ from h)
    refine h2 _ ?_
    split at h1
    · obtain ⟨⟨l, h3, h4⟩, h5, h6⟩ := h1
      exact ⟨⟨l, hp _ h3 rfl, h4⟩, h5, hk _ h6⟩
    · exact h1.elim
  all_goals exact h.elim
def nop2 (G : Gl) (fr : FT) (c : COp) (K : (Nat → SV) × SObj → Prop) : Prop := nop G fr c fun a b => K (a, b)
theorem nop_lin {c : COp} : Lin (nop2 G fr c) := by
  cases c
  case alloc cs => exact lin_pure _
  case mmk => exact lin_pure _
  case box x => exact evK_lin.bind fun v => cellsK_lin.map _
  case bslice sz len xs => exact elemsK_lin.map _
  case bbytes xs => exact bytesK_lin.map _
  all_goals exact lin_false
end
end Sg
end Go.Proofs.YtfkboondffejaaaGreatDoor
set_option linter.unusedVariables false
set_option linter.unusedSimpArgs false
namespace Go.Proofs.YtfkboondffejaaaGreatDoor
namespace Sg
variable {P : Program}
def chkDst : Option Tmp → Option Pth → Bool
  | none, none => true
  | some d, some p => Nat.beq d p.val
  | _, _ => false
def chkGd (ops : Array Oper) : Option (Nat × Bool) → Option (Pth × Bool) → Bool
  | none, none => true
  | some (j, b), some (p, b') => (b == b') && (match (ops[j]?).bind (·.dst) with | some d => Nat.beq d p.val | none => false)
  | _, _ => false
def chkROp (P : Program) (ops : Array Oper) (o : Oper) (c : ROp) : Bool := chkOp P o.op c.c && chkDst o.dst c.dst && chkGd ops o.guard c.g
def chkOps (P : Program) (ops : Array Oper) : List Oper → List ROp → Bool
  | [], [] => true
  | o :: os, c :: cs => chkROp P ops o c && chkOps P ops os cs
  | _, _ => false
theorem opC_eq (G : Gl) (S : SH) (nx : Nat) (fr : FT) (c : COp) (K : SV → SH → Nat → Prop) : opC P G (CallOb P G) S nx fr c K = opK P G S nx fr c K := by cases c <;> rfl
section
variable {G : Gl} {ρ : Env} {hI : Hp} {hF : Fm} {w : World} {S : SH} {nx : Nat} {fr : FT} {a : Act}
structure St (G : Gl) (nx0 : Nat) (ρ0 : Env) (hI0 : Hp) (hF : Fm) (w : World) (S : SH) (nx : Nat) (fr : FT) (a : Act) : Prop where
  ex : ∃ ρ hI, Cx G ρ hI hF w S nx fr a ∧ Env.ext nx0 ρ0 ρ ∧ nx0 ≤ nx ∧ hI0.sub hI
  d : a.defers = []
theorem FDen.put {dst : Option Tmp} {p : Option Pth} {x : SV} {v : Value} {K : FT → Prop} (hf : FDen ρ hI fr a.tmps) (hc : chkDst dst p = true) (hx : SDen ρ hI x v) (hk : putK fr p x K) : ∃ fr', K fr' ∧ FDen ρ hI fr' (a.put dst v).tmps ∧ (a.put dst v).defers = a.defers := by
  unfold chkDst at hc
  split at hc
  · exact ⟨fr, hk, hf, rfl⟩
  · rename_i d p
    obtain rfl := Nat.eq_of_beq_eq_true hc
    obtain ⟨hp, hk2⟩ := FT.setK_iff.1 (show FT.setK fr p x K from hk)
    exact ⟨_, hk2, hf.set hp hx, rfl⟩
  · cases hc
theorem spK_iff {sp : Bool} {x : SV} {K : SV → Prop} (h : spK sp x K) : K x := by
  unfold spK at h
  cases sp
  · exact h
  · simp only [cond_true] at h
    split at h
    · rename_i b; cases b <;> exact h
    · exact h.elim
theorem undef_den : SDen ρ hI undefS undef := .tup [] [] .nil
theorem gdK_sound {ops : Array Oper} {o : Oper} {g : Option (Pth × Bool)} {yes no : Prop} (hf : FDen ρ hI fr a.tmps) (hc : chkGd ops o.guard g = true) (h : gdK fr g yes no) :
    (Region.wanted o (yielded ops a.tmps) = true ∧ yes) ∨ (Region.wanted o (yielded ops a.tmps) = false ∧ no) := by
  unfold chkGd at hc
  split at hc
  · rename_i hg; exact .inl ⟨by simp [Region.wanted, hg], h⟩
  · rename_i j b p b' hg
    simp only [Bool.and_eq_true, beq_iff_eq] at hc
    obtain ⟨rfl, hd⟩ := hc
    split at hd
    · rename_i d hd'
      obtain rfl := Nat.eq_of_beq_eq_true hd
      obtain ⟨x, hx, hk⟩ := FT.getK_iff.1 (show FT.getK fr p _ from h)
      obtain ⟨v, hv, hden⟩ := hf p x hx
      have hy : yielded ops a.tmps j = match v with | .bool t => some t | _ => none := by
        unfold yielded
        rw [hd']
        simp only [Option.bind_some, hv]
        cases v <;> rfl
      split at hk
      · rename_i t
        cases hden with | iv _ _ hden => cases hden with | bool =>
        simp only at hy
        obtain ⟨h1, h2⟩ := cond_iff.1 hk
        by_cases htb : t = b
        · exact .inl ⟨by simp [Region.wanted, hg, hy, htb], h1 (by simp [htb])⟩
        · exact .inr ⟨by simp [Region.wanted, hg, hy, htb], h2 (by simpa using htb)⟩
      · cases hden with | tup _ vs hs =>
        exact .inr ⟨by simp [Region.wanted, hg, hy], hk⟩
      · exact hk.elim
    · cases hd
  · cases hc
theorem regK_sound {ops : Array Oper} {nx0 : Nat} {ρ0 : Env} {hI0 : Hp} {K : FT → SH → Nat → Prop} {Q : Exit → Act → World → Prop} (hQ : ∀ fr S nx a w, K fr S nx → St G nx0 ρ0 hI0 hF w S nx fr a → Q .normal a w) :
    ∀ (os : List ROp) (k : Nat) (fr : FT) (S : SH) (nx : Nat) (a : Act) (w : World), chkOps P ops (ops.toList.drop k) os = true → St G nx0 ρ0 hI0 hF w S nx fr a → regK P G (CallOb P G) os fr S nx K → wpOps P ops Q (List.range' k os.length) a w
  | [], k, fr, S, nx, a, w, hc, hst, hk => hQ _ _ _ _ _ hk hst
  | c :: os, k, fr, S, nx, a, w, hc, hst, hk => by
    generalize hl : ops.toList.drop k = l at hc
    cases l with
    | nil => simp [chkOps] at hc
    | cons o l =>
      have ho : ops[k]? = some o := by
        have := congrArg (fun l => l[0]?) hl
        simpa using this
      have hl' : ops.toList.drop (k + 1) = l := by
        rw [← List.tail_drop, hl]; rfl
      simp only [chkOps, chkROp, Bool.and_eq_true] at hc
      obtain ⟨⟨⟨h1, h2⟩, h3⟩, h4⟩ := hc
      obtain ⟨⟨ρ, hI, C, e1, e2, e3⟩, hd⟩ := hst
      rw [List.length_cons, List.range'_succ, wpOps_cons]
      unfold wpOp
      simp only [ho]
      rcases gdK_sound C.f h3 (show gdK fr c.g _ _ from hk) with ⟨hw, hy⟩ | ⟨hw, hn⟩
      · rw [hw, if_pos rfl]
        left
        rw [opC_eq] at hy
        refine Oper.wp_mono ?_ (op_sound C h1 hy)
        rintro a' w' ⟨x, S', nx', ρ', hI', v, rfl, hk2, hx, hs, ext, hle, hsub⟩
        obtain ⟨fr', hk3, hf', hd'⟩ := FDen.put (dst := o.dst) (C.f.mono ext.sub hsub) h2 hx (spK_iff hk2)
        exact regK_sound hQ os (k + 1) fr' S' nx' _ _ (by rw [hl']; exact h4) ⟨⟨ρ', hI', ⟨hs, C.g.mono hsub, hf'⟩, e1.trans ext e2, Nat.le_trans e2 hle, e3.trans hsub⟩, by rw [hd', hd]⟩ hk3
      · rw [hw]
        simp only [Bool.false_eq_true, if_false]
        obtain ⟨fr', hk3, hf', hd'⟩ := FDen.put (dst := o.dst) C.f h2 undef_den hn
        exact regK_sound hQ os (k + 1) fr' S nx _ _ (by rw [hl']; exact h4) ⟨⟨ρ, hI, ⟨C.sat, C.g, hf'⟩, e1, e2, e3⟩, by rw [hd', hd]⟩ hk3
end
end Sg
end Go.Proofs.YtfkboondffejaaaGreatDoor
set_option linter.unusedVariables false
set_option linter.unusedSimpArgs false
namespace Go.Proofs.YtfkboondffejaaaGreatDoor
namespace Sg
variable {P : Program}
def Xt.ex : Xt → Exit
  | .norm => .normal
  | .exit id => .exit id
  | .ret => .ret
def chkCode (P : Program) (D : Array Oper → List DStep → Bool) : Code → CC → Bool
  | .skip, .skip => true
  | .region _ ops false, .reg os => chkOps P ops ops.toList os
  | .region _ ops true, .dreg ds => D ops ds
  | .seq a b, .seq x y => chkCode P D a x && chkCode P D b y
  | .cond c a b, .cond d x y => chkOpd c d && chkCode P D a x && chkCode P D b y
  | .block i a, .block j x => Nat.beq i j && chkCode P D a x
  | .loop a, .loop x => chkCode P D a x
  | .exit i, .exit j => Nat.beq i j
  | .ret, .ret => true
  | _, .trap => true
  | _, _ => false
def Lift (G : Gl) (nx0 : Nat) (ρ0 : Env) (hI0 : Hp) (hF : Fm) (Q : Post) (e : Exit) (a : Act) (w : World) : Prop :=
  ∃ x fr S nx, e = Xt.ex x ∧ Q x fr S nx ∧ St G nx0 ρ0 hI0 hF w S nx fr a
def DOk (P : Program) (D : Array Oper → List DStep → Bool) : Prop :=
  ∀ (G : Gl) (nx0 : Nat) (ρ0 : Env) (hI0 : Hp) (hF : Fm) (id : Nat) (ops : Array Oper) (ds : List DStep) (K : FT → SH → Nat → Prop) (Q : Exit → Act → World → Prop) (fr : FT) (S : SH) (nx : Nat) (a : Act) (w : World), D ops ds = true →
    (∀ fr S nx a w, K fr S nx → St G nx0 ρ0 hI0 hF w S nx fr a → Q .normal a w) → St G nx0 ρ0 hI0 hF w S nx fr a → dregK P G (CallOb P G) ds fr [] S nx K → (Code.region id ops true).wp P Q a w
def LoopW (P : Program) (c : Code) (Q : Exit → Act → World → Prop) (a : Act) (w : World) : Prop :=
  ∀ (b : Frame) (k : List Item) (cs : List Frame), ∃ e a' w', Q e a' w' ∧ Arrives P (lone (b.at a (.code c :: .inLoop c :: k)) cs w) b k cs e a' w'
theorem loopW_step {c : Code} {Q : Exit → Act → World → Prop} {a : Act} {w : World} (h : c.wp P (Exit.then (LoopW P c Q) Q) a w) : LoopW P c Q a w := by
  intro b k cs
  obtain ⟨e, a₁, w₁, hq, harr⟩ := h b (.inLoop c :: k) cs
  cases e with
  | normal =>
    obtain ⟨e₂, a₂, w₂, hq₂, harr₂⟩ := hq b k cs
    exact ⟨e₂, a₂, w₂, hq₂, .of_steps (Steps.trans harr (.one step_inLoop)) harr₂⟩
  | exit id => exact ⟨_, a₁, w₁, hq, .pass (x := .inLoop c) rfl (fun _ _ => .inl (by simp)) harr⟩
  | goto l => exact ⟨_, a₁, w₁, hq, .pass (x := .inLoop c) rfl (fun _ _ => .inl (by simp)) harr⟩
  | ret => exact ⟨_, a₁, w₁, hq, .pass (x := .inLoop c) rfl (fun _ _ => .inl (by simp)) harr⟩
  | panic ch => exact ⟨_, a₁, w₁, hq, .pass (x := .inLoop c) rfl (fun _ _ => .inl (by simp)) harr⟩
  | outgrown => exact ⟨_, a₁, w₁, hq, .pass (x := .inLoop c) rfl (fun _ _ => .inl (by simp)) harr⟩
theorem wp_of_loopW {c : Code} {Q : Exit → Act → World → Prop} {a : Act} {w : World} (h : LoopW P c Q a w) : (Code.loop c).wp P Q a w := by
  intro b k cs
  obtain ⟨e, a', w', hq, harr⟩ := h b k cs
  exact ⟨e, a', w', hq, .of_steps (.one step_loop) harr⟩
section
variable {G : Gl} {nx0 : Nat} {ρ0 : Env} {hI0 : Hp} {hF : Fm} {D : Array Oper → List DStep → Bool}
theorem swp_sound (hD : DOk P D) : ∀ (c : CC) (code : Code) (Q : Post) (fr : FT) (S : SH) (nx : Nat) (a : Act) (w : World), chkCode P D code c = true → St G nx0 ρ0 hI0 hF w S nx fr a → swp P G (CallOb P G) c Q fr S nx →
    code.wp P (Lift G nx0 ρ0 hI0 hF Q) a w := by
  intro c
  induction c with
  | skip =>
    intro code Q fr S nx a w hc hst h
    cases code <;> simp only [chkCode, Bool.false_eq_true] at hc
    exact wp_skip ⟨.norm, fr, S, nx, rfl, h, hst⟩
  | reg os =>
    intro code Q fr S nx a w hc hst h
    cases code <;> try (simp only [chkCode, Bool.false_eq_true] at hc)
    rename_i id ops dr
    cases dr
    case true => exact nomatch (show false = true from hc)
    replace hc : chkOps P ops ops.toList os = true := hc
    have hl : ∀ (l : List Oper) (os : List ROp), chkOps P ops l os = true → l.length = os.length := by
      intro l
      induction l with
      | nil => intro os h; cases os <;> simp [chkOps] at h; rfl
      | cons o l ih => intro os h; cases os <;> simp [chkOps] at h; simp [ih _ h.2]
    have := regK_sound (Q := Lift G nx0 ρ0 hI0 hF Q) (ops := ops) (K := Q .norm) (fun fr S nx a w hk hst => ⟨.norm, fr, S, nx, rfl, hk, hst⟩) os 0 fr S nx a w (by simpa using hc) hst h
    rw [← hl _ _ hc] at this
    exact wp_region (by rw [List.range_eq_range']; simpa using this)
  | dreg ds =>
    intro code Q fr S nx a w hc hst h
    cases code <;> try (simp only [chkCode, Bool.false_eq_true] at hc)
    rename_i id ops dr
    cases dr
    case false => exact nomatch (show false = true from hc)
    replace hc : D ops ds = true := hc
    exact hD G nx0 ρ0 hI0 hF id ops ds (Q .norm) _ fr S nx a w hc (fun fr S nx a w hk hst => ⟨.norm, fr, S, nx, rfl, hk, hst⟩) hst h
  | seq x y ihx ihy =>
    intro code Q fr S nx a w hc hst h
    cases code <;> simp only [chkCode, Bool.false_eq_true] at hc
    simp only [Bool.and_eq_true] at hc
    refine wp_seq (wp_mono (ihx _ _ _ _ _ _ _ hc.1 hst h) ?_)
    rintro e a w ⟨x, fr, S, nx, rfl, hk, hst⟩
    cases x with
    | norm => exact ihy _ _ _ _ _ _ _ hc.2 hst hk
    | exit id => exact ⟨.exit id, fr, S, nx, rfl, hk, hst⟩
    | ret => exact ⟨.ret, fr, S, nx, rfl, hk, hst⟩
  | cond d x y ihx ihy =>
    intro code Q fr S nx a w hc hst h
    cases code <;> simp only [chkCode, Bool.false_eq_true] at hc
    simp only [Bool.and_eq_true] at hc
    obtain ⟨⟨h1, h2⟩, h3⟩ := hc
    obtain ⟨⟨ρ, hI, C, e1, e2, e3⟩, hd⟩ := hst
    obtain ⟨v, hv, hden⟩ := evK_sound h1 C.g C.f (show evK G fr d _ from h)
    split at hv
    · rename_i t
      obtain ⟨ht, hf⟩ := cond_iff.1 hv
      refine wp_cond_split (t := t) ?_ (fun e => ihx _ _ _ _ _ _ _ h2 ⟨⟨ρ, hI, C, e1, e2, e3⟩, hd⟩ (ht e)) (fun e => ihy _ _ _ _ _ _ _ h3 ⟨⟨ρ, hI, C, e1, e2, e3⟩, hd⟩ (hf e))
      cases hden with | iv _ _ hden => generalize a.eval _ = u at hden; cases hden; rfl
    · exact hv.elim
  | block i x ih =>
    intro code Q fr S nx a w hc hst h
    cases code <;> simp only [chkCode, Bool.false_eq_true] at hc
    simp only [Bool.and_eq_true] at hc
    rename_i i1 b1
    obtain rfl : i1 = i := Nat.eq_of_beq_eq_true hc.1
    refine wp_block (wp_mono (ih _ _ _ _ _ _ _ hc.2 hst h) ?_)
    rintro e a w ⟨x, fr, S, nx, rfl, hk, hst⟩
    cases x with
    | norm => exact ⟨.norm, fr, S, nx, rfl, hk, hst⟩
    | exit j =>
      simp only [Xt.ex, Exit.inBlock]
      obtain ⟨h1, h2⟩ := cond_iff.1 hk
      by_cases hj : j = i1
      · rw [if_pos hj]; exact ⟨.norm, fr, S, nx, rfl, h1 (by simp [hj]), hst⟩
      · rw [if_neg hj]; exact ⟨.exit j, fr, S, nx, rfl, h2 (beq_false hj), hst⟩
    | ret => exact ⟨.ret, fr, S, nx, rfl, hk, hst⟩
  | loop x ih =>
    intro code Q fr S nx a w hc hst h
    cases code <;> simp only [chkCode, Bool.false_eq_true] at hc
    rename_i b
    refine wp_of_loopW ((show LoopL _ Q fr S nx from h) (fun fr S nx => ∀ a w, St G nx0 ρ0 hI0 hF w S nx fr a → LoopW P b (Lift G nx0 ρ0 hI0 hF Q) a w) ?_ a w hst)
    intro fr S nx hb a w hst
    refine loopW_step (wp_mono (ih _ _ _ _ _ _ _ hc hst hb) ?_)
    rintro e a w ⟨x, fr, S, nx, rfl, hk, hst⟩
    cases x with
    | norm => exact hk a w hst
    | exit id => exact ⟨.exit id, fr, S, nx, rfl, hk, hst⟩
    | ret => exact ⟨.ret, fr, S, nx, rfl, hk, hst⟩
  | exit i =>
    intro code Q fr S nx a w hc hst h
    cases code <;> simp only [chkCode, Bool.false_eq_true] at hc
    obtain rfl := Nat.eq_of_beq_eq_true hc
    exact wp_exit ⟨.exit _, fr, S, nx, rfl, h, hst⟩
  | trap =>
    intro code Q fr S nx a w hc hst h
    exact h.elim
  | ret =>
    intro code Q fr S nx a w hc hst h
    cases code <;> simp only [chkCode, Bool.false_eq_true] at hc
    exact wp_ret ⟨.ret, fr, S, nx, rfl, h, hst⟩
end
end Sg
end Go.Proofs.YtfkboondffejaaaGreatDoor
set_option linter.unusedVariables false
set_option linter.unusedSimpArgs false
namespace Go.Proofs.YtfkboondffejaaaGreatDoor
namespace Sg
variable {P : Program}
def DStep.ix : DStep → Nat
  | .q i _ | .al i _ | .ms i _ _ | .ef i _ _ _ => i
def DStep.op : DStep → ROp
  | .q _ o | .al _ o | .ms _ o _ | .ef _ o _ _ => o
def DStep.isEf : DStep → Bool
  | .ef .. => true
  | _ => false
def preds (o : Oper) : List Nat := o.after.toList.filterMap fun e => if Region.binds .any e then some e.on else none
theorem mem_preds {o : Oper} {j : Nat} : j ∈ preds o ↔ ∃ e ∈ o.after, Region.binds .any e = true ∧ e.on = j := by
  unfold preds
  rw [List.mem_filterMap]
  constructor
  · rintro ⟨e, he, h⟩
    split at h
    · rename_i hb; simp only [Option.some.injEq] at h; exact ⟨e, by simpa using he, hb, h⟩
    · cases h
  · rintro ⟨e, he, hb, rfl⟩
    exact ⟨e, by simpa using he, by simp [hb]⟩
def ancM (acc : List Nat) : List Nat → Nat
  | [] => 0
  | j :: js => (2 ^ j ||| acc.getD j 0) ||| ancM acc js
def ancL : List Oper → List Nat → List Nat
  | [], acc => acc
  | o :: os, acc => ancL os (acc ++ [ancM acc (preds o)])
def Closed (ops : Array Oper) (L : Nat → Prop) : Prop := ∀ (i : Nat) (o : Oper), ops[i]? = some o → L i → ∀ j ∈ preds o, L j
def MOk (ops : Array Oper) (m : List Nat) : Prop := ∀ (i : Nat) (o : Oper), ops[i]? = some o → ∀ j, (m.getD i 0).testBit j = true → ∀ L : Nat → Prop, Closed ops L → (∀ k ∈ preds o, L k) → L j
theorem ancM_sound {ops : Array Oper} {acc : List Nat} (hacc : MOk ops acc) {L : Nat → Prop} (hL : Closed ops L) (hlt : ∀ j, j < acc.length → ∃ o, ops[j]? = some o) :
    ∀ (js : List Nat) (j : Nat), (ancM acc js).testBit j = true → (∀ k ∈ js, L k) → L j
  | [], j, h, _ => by simp [ancM] at h
  | k :: js, j, h, hk => by
    simp only [ancM, Nat.testBit_or, Bool.or_eq_true, Nat.testBit_two_pow, decide_eq_true_eq] at h
    rcases h with (h | h) | h
    · subst h; exact hk _ (List.mem_cons_self ..)
    · by_cases hl : k < acc.length
      · obtain ⟨o, ho⟩ := hlt k hl
        exact hacc k o ho j h L hL (hL k o ho (hk k (List.mem_cons_self ..)))
      · rw [List.getD_eq_getElem?_getD, List.getElem?_eq_none (by omega)] at h
        simp at h
    · exact ancM_sound hacc hL hlt js j h (fun x hx => hk x (List.mem_cons_of_mem _ hx))
theorem ancL_sound {ops : Array Oper} : ∀ (os : List Oper) (acc : List Nat), ops.toList.drop acc.length = os → acc.length ≤ ops.size → MOk ops acc → MOk ops (ancL os acc)
  | [], acc, _, _, h => h
  | o :: os, acc, hd, hle, h => by
    have hlen : acc.length < ops.size := by
      rcases Nat.lt_or_ge acc.length ops.size with h1 | h1
      · exact h1
      · rw [List.drop_of_length_le (by simpa using h1)] at hd; cases hd
    have ho : ops[acc.length]? = some o := by
      have := congrArg (fun l => l[0]?) hd
      simpa using this
    refine ancL_sound os _ ?_ (by simp; omega) ?_
    · rw [List.length_append, List.length_singleton, ← List.tail_drop, hd]; rfl
    · intro i o' ho' j hj L hL hp
      by_cases hi : i < acc.length
      · rw [List.getD_eq_getElem?_getD, List.getElem?_append_left hi, ← List.getD_eq_getElem?_getD] at hj
        exact h i o' ho' j hj L hL hp
      · by_cases he : i = acc.length
        · subst he
          rw [List.getD_eq_getElem?_getD, List.getElem?_append_right (Nat.le_refl _)] at hj
          simp only [Nat.sub_self, List.getElem?_cons_zero, Option.getD_some] at hj
          rw [ho] at ho'; cases ho'
          exact ancM_sound h hL (fun j hj => ⟨ops[j]'(by omega), Array.getElem?_eq_getElem (by omega)⟩) _ j hj hp
        · rw [List.getD_eq_getElem?_getD, List.getElem?_eq_none (by simp; omega)] at hj
          simp at hj
def isNew : COp → Bool
  | .alloc _ | .box _ | .bslice .. | .bbytes _ | .mmk => true
  | _ => false
def slotOk (A : Nat → Nat → Bool) (i : Nat) (p : Pth) (s : DStep) : Bool :=
  match s.op.dst with
  | some d => !Pth.beq d p || A i s.ix || (s.isEf && (A s.ix i || Nat.beq s.ix i))
  | none => true
def rdOk (ds : List DStep) (A : Nat → Nat → Bool) (i : Nat) (ps : List Pth) : Bool := ps.all fun p => ds.all fun s => slotOk A i p s
def wrOk (s t : DStep) : Bool := Nat.beq s.ix t.ix || (s.isEf && t.isEf) || (match s.op.dst, t.op.dst with | some d, some e => !Pth.beq d e | _, _ => true)
def reOk (P : Program) (ops : Array Oper) (ds : List DStep) (A : Nat → Nat → Bool) (x : Nat × ROp) : Bool :=
  (match ops[x.1]? with | some o => chkROp P ops o x.2 | none => false) && x.2.c.quiet && rdOk ds A x.1 x.2.rd &&
  ds.all fun t => !Nat.beq t.ix x.1 || (eqD t.op.dst x.2.dst && t.op.c.heapy && (match t with | .q .. => true | _ => false))
def kindOk (P : Program) (ops : Array Oper) (ds : List DStep) (A : Nat → Nat → Bool) (dn : List DStep) (r : List DStep) : DStep → Bool
  | .q _ c => c.c.quiet
  | .al _ c => isNew c.c
  | .ms _ c _ => (match c.c with | .s2s _ => true | _ => false)
  | .ef i _ due re => r.all (fun t => A t.ix i) && due.all (fun j => A i j) && re.all (reOk P ops ds A) &&
    dn.all fun t => match t with
      | .q j c => A i j || !c.c.heapy || re.any (fun x => Nat.beq x.1 j)
      | .ms j _ src => A i j || !isIn src due
      | _ => true
def oneOk (P : Program) (ops : Array Oper) (ds : List DStep) (A : Nat → Nat → Bool) (dn : List DStep) (r : List DStep) (s : DStep) : Bool :=
  (match ops[s.ix]? with
    | some o => chkROp P ops o s.op && (preds o).all (fun j => dn.any fun t => Nat.beq t.ix j)
    | none => false) &&
  rdOk ds A s.ix s.op.rd && (ds.all fun t => wrOk s t) && (dn.all fun t => !Nat.beq t.ix s.ix) && kindOk P ops ds A dn r s
def stOk (P : Program) (ops : Array Oper) (ds : List DStep) (A : Nat → Nat → Bool) : List DStep → List DStep → Bool
  | _, [] => true
  | dn, s :: r => oneOk P ops ds A dn r s && stOk P ops ds A (dn ++ [s]) r
def chkD (P : Program) (ops : Array Oper) (ds : List DStep) : Bool :=
  P.follows .mixedOrders &&
  (let m := ancL ops.toList []
   stOk P ops ds (fun i j => (m.getD i 0).testBit j) [] ds) &&
  (List.range ops.size).all fun i => ds.any fun s => Nat.beq s.ix i
structure DStat (P : Program) (ops : Array Oper) (ds : List DStep) (A : Nat → Nat → Bool) : Prop where
  cov : ∀ i, i < ops.size → ∃ s ∈ ds, s.ix = i
  one : ∀ dn s r, ds = dn ++ s :: r → oneOk P ops ds A dn r s = true
  anc : ∀ L : Nat → Prop, Closed ops L → ∀ (i : Nat) (o : Oper), ops[i]? = some o → (∀ k ∈ preds o, L k) → ∀ j, A i j = true → L j
theorem stOk_one {ops : Array Oper} {ds : List DStep} {A : Nat → Nat → Bool} : ∀ (mid dn : List DStep) (s : DStep) (r : List DStep), stOk P ops ds A dn (mid ++ s :: r) = true → oneOk P ops ds A (dn ++ mid) r s = true
  | [], dn, s, r, h => by
    simp only [List.nil_append, stOk, Bool.and_eq_true] at h
    simpa using h.1
  | m :: mid, dn, s, r, h => by
    simp only [List.cons_append, stOk, Bool.and_eq_true] at h
    have := stOk_one mid _ s r h.2
    simpa using this
theorem chkD_stat {ops : Array Oper} {ds : List DStep} (h : chkD P ops ds = true) : P.follows .mixedOrders = true ∧ ∃ A, DStat P ops ds A := by
  simp only [chkD, Bool.and_eq_true] at h
  obtain ⟨⟨h1, h2⟩, h3⟩ := h
  refine ⟨h1, fun i j => ((ancL ops.toList []).getD i 0).testBit j, ?_, ?_, ?_⟩
  · intro i hi
    have := List.all_eq_true.1 h3 i (List.mem_range.2 hi)
    obtain ⟨s, hs, e⟩ := List.any_eq_true.1 this
    exact ⟨s, hs, Nat.eq_of_beq_eq_true e⟩
  · intro dn s r e
    have := stOk_one (P := P) dn [] s r (by rw [← e]; exact h2)
    simpa using this
  · intro L hL i o ho hp j hj
    exact ancL_sound (ops := ops) ops.toList [] (by simp) (by simp) (fun i o ho j hj => by simp at hj) i o ho j hj L hL hp
section
variable {ops : Array Oper} {ds : List DStep} {A : Nat → Nat → Bool}
theorem DStat.mem (D : DStat P ops ds A) {s : DStep} (hs : s ∈ ds) : ∃ dn r, ds = dn ++ s :: r ∧ oneOk P ops ds A dn r s = true := by
  obtain ⟨dn, r, e⟩ := List.append_of_mem hs
  exact ⟨dn, r, e, D.one dn s r e⟩
theorem DStat.uniq (D : DStat P ops ds A) {s t : DStep} (hs : s ∈ ds) (ht : t ∈ ds) (h : s.ix = t.ix) : s = t := by
  have key : ∀ dn s r, ds = dn ++ s :: r → ∀ t ∈ dn, t.ix ≠ s.ix := by
    intro dn s r e t ht he
    have h1 := D.one dn s r e
    simp only [oneOk, Bool.and_eq_true] at h1
    have h2 := List.all_eq_true.1 h1.1.2 t ht
    simp [he] at h2
  obtain ⟨dn, r, e, _⟩ := D.mem hs
  rw [e] at ht
  rcases List.mem_append.1 ht with h1 | h1
  · exact absurd h.symm (key dn s r e t h1)
  · rcases List.mem_cons.1 h1 with h2 | h2
    · exact h2.symm
    · obtain ⟨a, b, e2⟩ := List.append_of_mem h2
      exact absurd h (key (dn ++ s :: a) t b (by rw [e, e2]; simp) s (by simp))
structure SOk (P : Program) (ops : Array Oper) (ds : List DStep) (A : Nat → Nat → Bool) (s : DStep) : Prop where
  ex : ∃ o, ops[s.ix]? = some o ∧ chkROp P ops o s.op = true
  rd : rdOk ds A s.ix s.op.rd = true
  wr : ∀ t ∈ ds, wrOk s t = true
theorem DStat.ok (D : DStat P ops ds A) {s : DStep} (hs : s ∈ ds) : SOk P ops ds A s := by
  obtain ⟨dn, r, e, h⟩ := D.mem hs
  simp only [oneOk, Bool.and_eq_true] at h
  obtain ⟨⟨⟨⟨h1, h2⟩, h3⟩, h4⟩, h5⟩ := h
  refine ⟨?_, h2, fun t ht => List.all_eq_true.1 h3 t ht⟩
  split at h1
  · rename_i o ho
    simp only [Bool.and_eq_true] at h1
    exact ⟨o, ho, h1.1⟩
  · cases h1
theorem DStat.preds (D : DStat P ops ds A) {dn r : List DStep} {s : DStep} (e : ds = dn ++ s :: r) {o : Oper} (ho : ops[s.ix]? = some o) : ∀ j ∈ Sg.preds o, ∃ t ∈ dn, t.ix = j := by
  intro j hj
  have h := D.one dn s r e
  simp only [oneOk, Bool.and_eq_true] at h
  have h1 := h.1.1.1.1
  rw [ho] at h1
  simp only [Bool.and_eq_true] at h1
  obtain ⟨t, ht, hb⟩ := List.any_eq_true.1 (List.all_eq_true.1 h1.2 j hj)
  exact ⟨t, ht, Nat.eq_of_beq_eq_true hb⟩
theorem DStat.done (D : DStat P ops ds A) {dn r : List DStep} (e : ds = dn ++ r) : Closed ops (fun i => ∃ t ∈ dn, t.ix = i) := by
  rintro i o ho ⟨t, ht, rfl⟩ j hj
  obtain ⟨a, b, e2⟩ := List.append_of_mem ht
  obtain ⟨u, hu, hx⟩ := D.preds (dn := a) (s := t) (r := b ++ r) (by rw [e, e2]; simp) ho j hj
  exact ⟨u, by rw [e2]; exact List.mem_append_left _ hu, hx⟩
theorem slot_of {i : Nat} {ps : List Pth} (h : rdOk ds A i ps = true) {p : Pth} (hp : p ∈ ps) {s : DStep} (hs : s ∈ ds) (hd : s.op.dst = some p) : A i s.ix = true ∨ (s.isEf = true ∧ (A s.ix i = true ∨ s.ix = i)) := by
  have h1 := List.all_eq_true.1 (List.all_eq_true.1 h p hp) s hs
  simp only [slotOk, hd, Pth.beq_self, Bool.not_true, Bool.false_or, Bool.or_eq_true, Bool.and_eq_true, Nat.beq_eq] at h1
  exact h1
theorem wr_of {s t : DStep} (h : wrOk s t = true) (hne : s.ix ≠ t.ix) (hef : ¬(s.isEf = true ∧ t.isEf = true)) {d : Pth} (hs : s.op.dst = some d) : t.op.dst ≠ some d := by
  intro ht
  simp only [wrOk, hs, ht, Pth.beq_self, Bool.not_true, Bool.or_false, Bool.or_eq_true, Bool.and_eq_true, Nat.beq_eq] at h
  rcases h with h | h
  · exact hne h
  · exact hef h
end
end Sg
end Go.Proofs.YtfkboondffejaaaGreatDoor
set_option linter.unusedVariables false
set_option linter.unusedSimpArgs false
set_option linter.constructorNameAsVariable false
namespace Go.Proofs.YtfkboondffejaaaGreatDoor
namespace Sg
variable {P : Program}
theorem Hp.union_comm {a b : Hp} (d : a.disj b) : a.union b = b.union a := by
  funext x
  unfold Hp.union
  rcases d x with h | h
  · rw [h]; cases b x <;> rfl
  · rw [h]; cases a x <;> rfl
theorem Hp.union_assoc (a b c : Hp) : (a.union b).union c = a.union (b.union c) := by
  funext x
  unfold Hp.union
  cases a x <;> rfl
section
variable {ρ ρ' : Env} {hI hI' : Hp}
theorem Own.append : ∀ {A S : SH} {h : Hp}, Own ρ hI (A ++ S) h ↔ ∃ h1 h2, Own ρ hI A h1 ∧ Own ρ hI S h2 ∧ h1.disj h2 ∧ h = h1.union h2
  | [], S, h => by
    constructor
    · intro o
      exact ⟨Hp.emp, h, fun _ => rfl, o, Hp.emp_disj h, by funext b; simp [Hp.union, Hp.emp]⟩
    · rintro ⟨h1, h2, o1, o2, d, rfl⟩
      have : h1.union h2 = h2 := by funext b; simp [Hp.union, o1 b]
      rw [this]; exact o2
  | (n, x) :: A, S, h => by
    constructor
    · rintro ⟨e, k1, k2, hr, ho, hs, hd, rfl⟩
      obtain ⟨h1, h2, o1, o2, d, rfl⟩ := Own.append.1 hs
      obtain ⟨d1, d2⟩ := Hp.disj_union.1 hd
      exact ⟨k1.union h1, h2, ⟨e, k1, h1, hr, ho, o1, d1, rfl⟩, o2, Hp.union_disj.2 ⟨d2, d⟩, (Hp.union_assoc _ _ _).symm⟩
    · rintro ⟨h1, h2, ⟨e, k1, k2, hr, ho, hs, hd, rfl⟩, o2, d, rfl⟩
      obtain ⟨d1, d2⟩ := Hp.union_disj.1 d
      exact ⟨e, k1, k2.union h2, hr, ho, Own.append.2 ⟨k2, h2, hs, o2, d2, rfl⟩, Hp.disj_union.2 ⟨hd, d1⟩, Hp.union_assoc _ _ _⟩
theorem Own.perm {A B : SH} (p : A.Perm B) : ∀ {h : Hp}, Own ρ hI A h → Own ρ hI B h := by
  induction p with
  | nil => exact fun o => o
  | cons x p ih =>
    rintro h ⟨e, h1, h2, hr, ho, hs, hd, hu⟩
    exact ⟨e, h1, h2, hr, ho, ih hs, hd, hu⟩
  | swap x y l =>
    rintro h ⟨e, h1, h2, hr, ho, ⟨e', k1, k2, hr', ho', hs', hd', rfl⟩, hd, rfl⟩
    obtain ⟨d1, d2⟩ := Hp.disj_union.1 hd
    refine ⟨e', k1, h1.union k2, hr', ho', ⟨e, h1, k2, hr, ho, hs', d2, rfl⟩, Hp.disj_union.2 ⟨d1.symm, hd'⟩, ?_⟩
    rw [← Hp.union_assoc, Hp.union_comm d1, Hp.union_assoc]
  | trans p q ih1 ih2 => exact fun o => ih2 (ih1 o)
variable {hF : Fm} {w w' : World} {S S' A B : SH} {nx nx' : Nat}
theorem Sat.perm (h : Sat ρ hI hF w A nx) (p : A.Perm B) : Sat ρ hI hF w B nx := by
  obtain ⟨⟨k, hk, r⟩, t⟩ := h
  exact ⟨⟨k, hk.perm p, r⟩, t⟩
theorem Sat.more (h : Sat ρ hI hF w S nx) (hle : nx ≤ nx') : Sat ρ hI hF w S nx' := ⟨h.1, fun n hn => h.2.1 n (Nat.le_trans hle hn), h.2.2⟩
theorem Sat.aside (h : Sat ρ hI hF w (A ++ S) nx) : ∃ hA, Own ρ hI A hA ∧ Sat ρ hI ⟨hF.hp.union hA, hF.base⟩ w S nx ∧
    ∀ (ρ' : Env) (hI' : Hp) (w' : World) (S' : SH) (nx' : Nat), ρ.sub ρ' → hI.sub hI' → Sat ρ' hI' ⟨hF.hp.union hA, hF.base⟩ w' S' nx' → Sat ρ' hI' hF w' (A ++ S') nx' := by
  obtain ⟨⟨k, hk, d1, d2, d3, i1, i2, i3⟩, hn, hw⟩ := h
  obtain ⟨hA, hS, oA, oS, d, rfl⟩ := Own.append.1 hk
  obtain ⟨dIA, dIS⟩ := Hp.disj_union.1 d1
  obtain ⟨dAF, dSF⟩ := Hp.union_disj.1 d3
  have hFA : hF.hp.disj hA := dAF.symm
  obtain ⟨iA, iS⟩ := (Hp.into_union d).1 i2
  refine ⟨hA, oA, ⟨⟨hS, oS, dIS, Hp.disj_union.2 ⟨d2, dIA⟩, Hp.disj_union.2 ⟨dSF, d.symm⟩, i1, iS, (Hp.into_union hFA).2 ⟨i3, iA⟩⟩, hn, hw⟩, ?_⟩
  rintro ρ' hI' w' S' nx' r s ⟨⟨k', hk', e1, e2, e3, j1, j2, j3⟩, hn', hw'⟩
  obtain ⟨e2F, e2A⟩ := Hp.disj_union.1 e2
  obtain ⟨e3F, e3A⟩ := Hp.disj_union.1 e3
  obtain ⟨j3F, j3A⟩ := (Hp.into_union hFA).1 j3
  exact ⟨⟨hA.union k', Own.append.2 ⟨hA, k', oA.mono r s, hk', e3A.symm, rfl⟩, Hp.disj_union.2 ⟨e2A, e1⟩, e2F, Hp.union_disj.2 ⟨dAF, e3F⟩, j1, (Hp.into_union e3A.symm).2 ⟨j3A, j2⟩, j3F⟩, hn', hw'⟩
theorem Sat.newAt {n : Nat} (h : Sat ρ hI hF w S nx) (hf : ρ n = none) (hlt : n < nx) {o : SObj} {ob : Obj} {cap : Nat} (hd : ∀ ρ', ρ.sub ρ' → ODen ρ' hI o ⟨w.heap.size, cap, false⟩ (Hp.one w.heap.size ob)) :
    ρ.sub (ρ.set n ⟨w.heap.size, cap, false⟩) ∧ Sat (ρ.set n ⟨w.heap.size, cap, false⟩) hI hF (push w ob) ((n, o) :: S) nx := by
  obtain ⟨⟨k, hk, d1, d2, d3, i1, i2, i3⟩, hn, hw⟩ := h
  have r : ρ.sub (ρ.set n ⟨w.heap.size, cap, false⟩) := Env.sub_set hf
  have z : ∀ {h : Hp}, h.into w → h w.heap.size = none := fun i => i.lt (Nat.le_refl _)
  refine ⟨r, ⟨(Hp.one w.heap.size ob).union k, ⟨_, _, _, Env.set_self _ _ _, hd _ r, hk.mono r (Hp.sub.refl _), Hp.one_disj (z i2), rfl⟩, ?_, d2, ?_, i1.push _, ?_, i3.push _⟩, ?_, hw.trans (Wk.push _ _)⟩
  · exact Hp.disj_union.2 ⟨(Hp.one_disj (z i1)).symm, d1⟩
  · exact Hp.union_disj.2 ⟨Hp.one_disj (z i3), d3⟩
  · exact (Hp.into_union (Hp.one_disj (z i2))).2 ⟨Hp.one_into (push_new _ _), i2.push _⟩
  · intro m hge
    unfold Env.set
    rw [if_neg (by omega)]
    exact hn m hge
end
section
variable {G : Gl} {ρ : Env} {hI : Hp} {hF : Fm} {w : World} {S : SH} {nx : Nat} {fr : FT} {a : Act} {o : Oper} {K : (Nat → SV) → SObj → Prop}
theorem nop_sound {c : COp} (C : Cx G ρ hI hF w S nx fr a) (hc : chkOp P o.op c = true) (h : nop G fr c K) :
    ∃ mk ob v O cap, K mk ob ∧ (execOp a.eval o).run P w = .ok (.value v) (push w O) ∧ (∀ ρ', ρ.sub ρ' → ODen ρ' hI ob ⟨w.heap.size, cap, false⟩ (Hp.one w.heap.size O)) ∧
      ∀ (ρ' : Env) (n : Nat), ρ' n = some ⟨w.heap.size, cap, false⟩ → SDen ρ' hI (mk n) v := by
  cases c
  case alloc cs =>
    simp only [chkOp] at hc
    split at hc
    · rename_i T ho
      split at hc
      · rename_i z hz
        unfold zeroT at hz
        cases hi : P.info? T with
        | none => simp [hi] at hz
        | some i =>
          simp only [hi, Option.bind_some] at hz
          have hd := chkCells_sound ρ hI hc
          refine ⟨_, _, .pointer (some ⟨w.heap.size, 0, none⟩), .cells z.cells T, z.cells.toList.length, h, ?_, fun ρ' r => .cells cs _ z.cells.toList T (0, 0) (hd.mono r (Hp.sub.refl _)) rfl rfl (unfrozen0 _), fun ρ' n e => .ptr _ _ _ e⟩
          simp only [execOp, ho]
          apply exec_v
          unfold Instr.alloc
          rw [run_ok (run_zeroValue hi hz w)]
          simp only
          unfold newVar
          rw [run_ok run_newRow]
          rfl
      · cases hc
    · cases hc
  case mmk =>
    simp only [chkOp] at hc
    split at hc
    · rename_i t ho
      refine ⟨_, _, .map (some w.heap.size), .map #[] 0, 0, h, ?_, fun ρ' r => .mp [] [] _ [] 0 (.refl _) .nil .nil (by simp) .nil rfl, fun ρ' n e => .map _ _ e⟩
      simp only [execOp, ho]
      apply exec_v
      rfl
    · cases hc
  case box c =>
    simp only [chkOp] at hc
    split at hc
    · rename_i T x ho
      obtain ⟨v, hv, hd⟩ := evK_sound hc C.g C.f (show evK G fr c _ from h)
      obtain ⟨cs, hk, hds⟩ := cellsK_sound hd hv
      refine ⟨_, _, .pointer (some ⟨w.heap.size, 0, none⟩), .cells (a.eval x).cells T, (a.eval x).cells.toList.length, hk, ?_, fun ρ' r => .cells cs _ (a.eval x).cells.toList T (0, 0) (hds.mono r (Hp.sub.refl _)) rfl rfl (unfrozen0 _), fun ρ' n e => .ptr _ _ _ e⟩
      simp only [execOp, ho]
      apply exec_v
      unfold Instr.box newVar
      rw [run_ok run_newRow]
      rfl
    · cases hc
  case bslice sz len xs =>
    simp only [chkOp] at hc
    split at hc
    · rename_i T len' parts ho
      simp only [Bool.and_eq_true] at hc
      obtain ⟨⟨⟨⟨⟨h1, h2⟩, h3⟩, h4⟩, h5⟩, h6⟩ := hc
      obtain rfl := Nat.eq_of_beq_eq_true h1
      have hsz := of_blt h4
      have hx := Nat.eq_of_beq_eq_true h2
      split at h5
      · rename_i e he
        simp only [Bool.and_eq_true, decide_eq_true_eq] at h5
        obtain ⟨i, hi, hs⟩ := sizeT_of h5.1
        obtain ⟨z, hz⟩ := Option.isSome_iff_exists.1 h5.2
        simp only [zeroT, hi, Option.bind_some] at hz
        subst hx
        obtain ⟨es, vs, hK, hl, hE, hfill⟩ := fill_elems C parts.toList xs 0 [] _ h6 (show elemsK G fr sz xs _ from h) (by simp)
        have hr := run_bslice (P := P) (w := w) (parts := parts.map fun (i, x) => (i, a.eval x)) (sliceE_of he) hi hz hs (of_ble h3) (by simpa using hfill)
        refine ⟨_, _, .slice (some ⟨w.heap.size, 0, none⟩) xs.length xs.length, .cells vs.toArray e, vs.length, hK, ?_, fun ρ' r => .arr _ _ _ _ vs e (0, 0) (fun j hj => (hE j hj).mono r (Hp.sub.refl _)) (by omega) rfl rfl (unfrozen0 _), fun ρ' n hn => ?_⟩
        · simp only [execOp, ho]
          exact exec_v hr
        · have hsd := SDen.sl (hI := hI) sz n 0 xs.length ⟨w.heap.size, vs.length, false⟩ ⟨w.heap.size, 0, none⟩ hn rfl (by intro _; simp) (by simp only [hl]; rw [Nat.mul_div_cancel _ hsz]; omega)
          simpa only [hl, Nat.mul_div_cancel _ hsz, Nat.sub_zero] using hsd
      · cases h5
    · cases hc
  case bbytes xs =>
    simp only [chkOp] at hc
    split at hc
    · rename_i T len' parts ho
      simp only [Bool.and_eq_true] at hc
      obtain ⟨⟨⟨h2, h3⟩, h5⟩, h6⟩ := hc
      have hx := Nat.eq_of_beq_eq_true h2
      have hb := of_ble h3
      split at h5
      · rename_i e he
        simp only [Bool.and_eq_true, decide_eq_true_eq] at h5
        obtain ⟨i, hi, hs⟩ := sizeT_of h5.1
        obtain ⟨z, hz⟩ := Option.isSome_iff_exists.1 h5.2
        simp only [zeroT, hi, Option.bind_some] at hz
        subst hx
        obtain ⟨l, hK, hl, hfill⟩ := fill_bytes C parts.toList xs 0 [] _ h6 (show bytesK G fr xs _ from h) (by simp)
        have hr := run_bslice (P := P) (w := w) (len := xs.length) (vs := l.map bv ++ []) (parts := parts.map fun (i, x) => (i, a.eval x)) (sliceE_of he) hi hz hs (by omega) (by simpa using hfill)
        refine ⟨_, _, .slice (some ⟨w.heap.size, 0, none⟩) xs.length xs.length, .cells (l.map bv ++ []).toArray e, l.length, hK, ?_, fun ρ' r => .bytes _ _ [] e (0, 0) rfl (by simp) (unfrozen0 _), fun ρ' n hn => ?_⟩
        · simp only [execOp, ho]
          exact exec_v hr
        · have hsd := SDen.sl (hI := hI) 1 n 0 xs.length ⟨w.heap.size, l.length, false⟩ ⟨w.heap.size, 0, none⟩ hn rfl (by intro _; simp) (by simp [hl])
          simpa [hl] using hsd
      · cases h5
    · cases hc
  all_goals exact h.elim
end
def FT.mapP : FT → (Pth → SV → SV) → FT
  | .nil, _ => .nil
  | .lf v, f => .lf (f .e v)
  | .nd l r, f => .nd (l.mapP fun p => f (.o p)) (r.mapP fun p => f (.i p))
theorem FT.get_mapP : ∀ {t : FT} {f : Pth → SV → SV} {p : Pth}, (t.mapP f).get p = (t.get p).map (f p)
  | .nil, f, p => by cases p <;> rfl
  | .lf v, f, p => by cases p <;> rfl
  | .nd l r, f, .e => rfl
  | .nd l r, f, .o p => FT.get_mapP (t := l)
  | .nd l r, f, .i p => FT.get_mapP (t := r)
def Pn (lb : Nat → Bool) (dn : List DStep) (q : Pth) : Prop := ∃ s ∈ dn, lb s.ix = false ∧ s.op.dst = some q
open Classical in
noncomputable def jk (lb : Nat → Bool) (dn : List DStep) (fr : FT) : FT := fr.mapP fun q v => if Pn lb dn q then .junk else v
theorem jk_get {lb : Nat → Bool} {dn : List DStep} {fr : FT} {q : Pth} (h : ¬ Pn lb dn q) : (jk lb dn fr).get q = fr.get q := by
  unfold jk
  rw [FT.get_mapP]
  simp [h]
def upd (lb : Nat → Bool) (i : Nat) : Nat → Bool := fun j => lb j || Nat.beq j i
theorem upd_self (lb : Nat → Bool) (i : Nat) : upd lb i i = true := by simp [upd]
theorem upd_mono {lb : Nat → Bool} {i j : Nat} (h : lb j = true) : upd lb i j = true := by simp [upd, h]
theorem upd_false {lb : Nat → Bool} {i j : Nat} : upd lb i j = false ↔ lb j = false ∧ j ≠ i := by
  unfold upd
  rw [Bool.or_eq_false_iff]
  refine and_congr_right fun _ => ⟨fun h e => ?_, beq_false⟩
  subst e; simp at h
def exl (lb : Nat → Bool) (p : Pend) : SH := Pend.sh (p.filter fun x => lb x.1)
def Redo (G : Gl) (S : SH) (fr : FT) (c : ROp) : Prop := gdK fr c.g (qop G S fr c.c fun v => ∀ d, c.dst = some d → fr.get d = some v) (∀ d, c.dst = some d → fr.get d = some undefS)
def ReNew (G : Gl) (fr : FT) (p : Pend) (i : Nat) (c : ROp) : Prop :=
  gdK fr c.g (nop G fr c.c fun mk ob => ∃ n, (i, n, ob) ∈ p ∧ ∀ d, c.dst = some d → fr.get d = some (mk n)) ((∀ x ∈ p, x.1 ≠ i) ∧ ∀ d, c.dst = some d → fr.get d = some undefS)
def MsOk (G : Gl) (fr : FT) (p : Pend) (c : ROp) (src : Nat) : Prop :=
  gdK fr c.g (msV G fr p c.c src fun v => ∀ d, c.dst = some d → fr.get d = some v) (∀ d, c.dst = some d → fr.get d = some undefS)
theorem gdV_cases (x : SV) (b : Bool) {yes no : Prop} (hk : (fun v : SV => match v with | .iv (.bool t) => cond (t == b) yes no | .tup [] => no | _ => False) x) :
    (yes ∧ ∀ y n : Prop, y → (fun v : SV => match v with | .iv (.bool t) => cond (t == b) y n | .tup [] => n | _ => False) x) ∨
    (no ∧ ∀ y n : Prop, n → (fun v : SV => match v with | .iv (.bool t) => cond (t == b) y n | .tup [] => n | _ => False) x) := by
  split at hk
  · rename_i t
    obtain ⟨h1, h2⟩ := cond_iff.1 hk
    cases htb : (t == b)
    · exact .inr ⟨h2 htb, fun y n hn => by simp only [htb]; exact hn⟩
    · exact .inl ⟨h1 htb, fun y n hy => by simp only [htb]; exact hy⟩
  · exact .inr ⟨hk, fun y n hn => hn⟩
  · exact hk.elim
theorem gdK_cases {fr : FT} {g : Option (Pth × Bool)} {yes no : Prop} (h : gdK fr g yes no) : (yes ∧ ∀ y n : Prop, y → gdK fr g y n) ∨ (no ∧ ∀ y n : Prop, n → gdK fr g y n) := by
  cases g with
  | none => exact .inl ⟨h, fun y n hy => hy⟩
  | some g =>
    obtain ⟨s, b⟩ := g
    obtain ⟨x, hx, hk⟩ := FT.getK_iff.1 (show FT.getK fr s _ from h)
    rcases gdV_cases x b hk with ⟨a, r⟩ | ⟨a, r⟩
    · exact .inl ⟨a, fun y n hy => FT.getK_iff.2 ⟨x, hx, r y n hy⟩⟩
    · exact .inr ⟨a, fun y n hy => FT.getK_iff.2 ⟨x, hx, r y n hy⟩⟩
theorem gdK_mono {fr : FT} {g : Option (Pth × Bool)} {y n y' n' : Prop} (h : gdK fr g y n) (hy : y → y') (hn : n → n') : gdK fr g y' n' := by
  rcases gdK_cases h with ⟨a, b⟩ | ⟨a, b⟩
  · exact b _ _ (hy a)
  · exact b _ _ (hn a)
theorem qop_mono {G : Gl} {S : SH} {fr : FT} {c : COp} {K K' : SV → Prop} (h : qop G S fr c K) (hk : ∀ v, K v → K' v) : qop G S fr c K' := by
  obtain ⟨v, a, b⟩ := qop_lin K h
  exact b K' (hk v a)
theorem nop_mono {G : Gl} {fr : FT} {c : COp} {K K' : (Nat → SV) → SObj → Prop} (h : nop G fr c K) (hk : ∀ mk ob, K mk ob → K' mk ob) : nop G fr c K' := by
  obtain ⟨v, a, b⟩ := nop_lin (G := G) (fr := fr) (c := c) (fun x => K x.1 x.2) h
  exact b (fun x => K' x.1 x.2) (hk _ _ a)
theorem splitK_iff : ∀ {p : Pend} {due : List Nat} {K : Pend → Pend → Prop}, splitK p due K ↔ K (p.filter fun x => isIn x.1 due) (p.filter fun x => !isIn x.1 due)
  | [], due, K => by simp [splitK]
  | x :: p, due, K => by
    simp only [splitK]
    rw [splitK_iff]
    cases h : isIn x.1 due <;> simp [h]
theorem isIn_mem {n : Nat} : ∀ {l : List Nat}, isIn n l = true → n ∈ l
  | [], h => nomatch h
  | m :: l, h => by
    simp only [isIn] at h
    cases hb : Nat.beq m n
    · rw [hb] at h; exact List.mem_cons_of_mem _ (isIn_mem h)
    · rw [Nat.eq_of_beq_eq_true hb]; exact List.mem_cons_self ..
theorem exl_split {lb : Nat → Bool} {due : List Nat} (hd : ∀ j ∈ due, lb j = true) : ∀ (p : Pend), (exl lb p).Perm (Pend.sh (p.filter fun x => isIn x.1 due) ++ exl lb (p.filter fun x => !isIn x.1 due))
  | [] => .nil
  | x :: p => by
    have ih := exl_split hd p
    unfold exl Pend.sh at *
    cases h : isIn x.1 due
    · simp only [List.filter_cons, h, Bool.not_false, Bool.false_eq_true, if_false, if_true]
      cases hx : lb x.1
      · simpa [hx] using ih
      · simp only [hx, if_true, List.map_cons]
        exact (List.Perm.cons _ ih).trans List.perm_middle.symm
    · have hx := hd _ (isIn_mem h)
      simp only [List.filter_cons, h, hx, Bool.not_true, Bool.false_eq_true, if_false, if_true, List.map_cons, List.cons_append]
      exact .cons _ ih
end Sg
end Go.Proofs.YtfkboondffejaaaGreatDoor
set_option linter.unusedVariables false
set_option linter.unusedSimpArgs false
set_option linter.constructorNameAsVariable false
namespace Go.Proofs.YtfkboondffejaaaGreatDoor
namespace Sg
variable {P : Program}
def RdoOk (P : Program) (ops : Array Oper) (ds : List DStep) (A : Nat → Nat → Bool) (i : Nat) (c' c : ROp) : Prop :=
  (∃ o, ops[i]? = some o ∧ chkROp P ops o c' = true) ∧ c'.c.quiet = true ∧ rdOk ds A i c'.rd = true ∧ c'.dst = c.dst ∧ (c'.c.heapy = true → c.c.heapy = true)
structure DInv (P : Program) (ops : Array Oper) (ds : List DStep) (A : Nat → Nat → Bool) (G : Gl) (nx0 : Nat) (ρ0 : Env) (hI0 : Hp) (hF : Fm) (lb : Nat → Bool) (dn rs : List DStep) (fr : FT) (p : Pend) (S : SH) (nx : Nat) (a : Act) (w : World) (ρ : Env) (hI : Hp) : Prop where
  split : ds = dn ++ rs
  efs : ∀ s ∈ dn, s.isEf = true → lb s.ix = true
  unl : ∀ s ∈ rs, lb s.ix = false
  cls : Closed ops fun i => lb i = true
  sat : Sat ρ hI hF w (exl lb p ++ S) nx
  gok : GOk G hI
  ext : Env.ext nx0 ρ0 ρ
  nle : nx0 ≤ nx
  sub : hI0.sub hI
  dfr : a.defers = []
  frm : ∀ q x, fr.get q = some x → ∃ v, a.tmps[q.val]? = some v ∧ (¬ Pn lb dn q → SDen ρ hI x v)
  redo : ∀ i c, DStep.q i c ∈ dn → lb i = false → ∃ c', RdoOk P ops ds A i c' c ∧ Redo G S fr c'
  als : ∀ i c, DStep.al i c ∈ dn → lb i = false → ReNew G fr p i c
  mss : ∀ i c src, DStep.ms i c src ∈ dn → lb i = false → MsOk G fr p c src
  pnd : ∀ x ∈ p, x.2.1 < nx ∧ nx0 ≤ x.2.1 ∧ (lb x.1 = false → ρ x.2.1 = none) ∧ ∃ c, DStep.al x.1 c ∈ dn
  nm : ∀ x ∈ p, ∀ y ∈ p, x.1 = y.1 ∨ x.2.1 = y.2.1 → x = y
  nd : p.Nodup
section
variable {ops : Array Oper} {ds : List DStep} {A : Nat → Nat → Bool} {G : Gl} {nx0 : Nat} {ρ0 : Env} {hI0 : Hp} {hF : Fm} {lb : Nat → Bool} {dn rs : List DStep} {fr : FT} {p : Pend} {S : SH} {nx : Nat} {a : Act} {w : World} {ρ : Env} {hI : Hp}
theorem DInv.mem (I : DInv P ops ds A G nx0 ρ0 hI0 hF lb dn rs fr p S nx a w ρ hI) {s : DStep} (h : s ∈ dn) : s ∈ ds := by rw [I.split]; exact List.mem_append_left _ h
theorem DInv.mem' (I : DInv P ops ds A G nx0 ρ0 hI0 hF lb dn rs fr p S nx a w ρ hI) {s : DStep} (h : s ∈ rs) : s ∈ ds := by rw [I.split]; exact List.mem_append_right _ h
theorem DInv.fden (I : DInv P ops ds A G nx0 ρ0 hI0 hF lb dn rs fr p S nx a w ρ hI) : FDen ρ hI (jk lb dn fr) a.tmps := by
  intro q x hx
  unfold jk at hx
  rw [FT.get_mapP] at hx
  cases hq : fr.get q with
  | none => rw [hq] at hx; cases hx
  | some y =>
    rw [hq] at hx
    simp only [Option.map_some, Option.some.injEq] at hx
    obtain ⟨v, hv, hd⟩ := I.frm q y hq
    refine ⟨v, hv, ?_⟩
    subst hx
    split
    · exact .junk v
    · rename_i h; exact hd h
theorem DInv.agree (D : DStat P ops ds A) (I : DInv P ops ds A G nx0 ρ0 hI0 hF lb dn rs fr p S nx a w ρ hI) {i : Nat} {o : Oper} (ho : ops[i]? = some o) (hp : ∀ k ∈ preds o, lb k = true) {l : List Pth} (hr : rdOk ds A i l = true) : Agree l fr (jk lb dn fr) := by
  intro q hq
  refine jk_get ?_
  rintro ⟨s, hs, hl, hd⟩
  rcases slot_of hr hq (I.mem hs) hd with h | ⟨h, _⟩
  · have : lb s.ix = true := D.anc _ I.cls i o ho hp _ h
    rw [hl] at this; cases this
  · have := I.efs s hs h
    rw [hl] at this; cases this
theorem cls_upd (h : Closed ops fun i => lb i = true) {i : Nat} {o : Oper} (ho : ops[i]? = some o) (hp : ∀ k ∈ preds o, lb k = true) : Closed ops fun j => upd lb i j = true := by
  intro j o' ho' hj k hk
  by_cases hji : j = i
  · subst hji
    rw [ho] at ho'; cases ho'
    exact upd_mono (hp k hk)
  · refine upd_mono (h j o' ho' ?_ k hk)
    simp only [upd, Bool.or_eq_true, Nat.beq_eq] at hj
    exact hj.resolve_right hji
theorem exl_upd {i : Nat} (h : ∀ x ∈ p, x.1 ≠ i) : exl (upd lb i) p = exl lb p := by
  unfold exl
  congr 1
  refine List.filter_congr fun x hx => ?_
  simp [upd, beq_false (h x hx)]
theorem put_tmps {dst : Option Tmp} {d : Option Pth} (hc : chkDst dst d = true) {v : Value} (q : Pth) (h : ∀ e, d = some e → e.val ≠ q.val) : (a.put dst v).tmps[q.val]? = a.tmps[q.val]? := by
  unfold chkDst at hc
  split at hc
  · rfl
  · rename_i t e
    obtain rfl := Nat.eq_of_beq_eq_true hc
    simp only [Act.put]
    exact Array.getElem?_setIfInBounds_ne (h e rfl)
  · cases hc
theorem put_tmps_self {dst : Option Tmp} {d : Pth} (hc : chkDst dst (some d) = true) {v u : Value} (h : a.tmps[d.val]? = some u) : (a.put dst v).tmps[d.val]? = some v := by
  unfold chkDst at hc
  split at hc
  · rename_i e; cases e
  · rename_i t e he
    cases he
    obtain rfl := Nat.eq_of_beq_eq_true hc
    have hlt : d.val < a.tmps.size := (Array.getElem?_eq_some_iff.1 h).1
    simp [Act.put, hlt]
  · cases hc
theorem put_defers {dst : Option Tmp} {v : Value} : (a.put dst v).defers = a.defers := by cases dst <;> rfl
theorem DInv.carry (D : DStat P ops ds A) (I : DInv P ops ds A G nx0 ρ0 hI0 hF lb dn rs fr p S nx a w ρ hI) {s : DStep} (hs : s ∈ dn) (hl : lb s.ix = false) {o : Oper} (ho : ops[s.ix]? = some o) (hp : ∀ k ∈ preds o, lb k = true)
    (hc : chkDst o.dst s.op.dst = true) {v : Value} {w' : World} {ρ' : Env} {hI' : Hp} (hsub : hI.sub hI') (hx : ∀ d, s.op.dst = some d → ∃ x, fr.get d = some x ∧ SDen ρ' hI' x v)
    (hr : Env.ext nx0 ρ ρ') (hs' : Sat ρ' hI' hF w' (exl (upd lb s.ix) p ++ S) nx) (hn : ∀ x ∈ p, upd lb s.ix x.1 = false → ρ' x.2.1 = none) :
    DInv P ops ds A G nx0 ρ0 hI0 hF (upd lb s.ix) dn rs fr p S nx (a.put o.dst v) w' ρ' hI' where
  split := I.split
  efs := fun t ht h => upd_mono (I.efs t ht h)
  unl := fun t ht => upd_false.2 ⟨I.unl t ht, fun e => by
    have := D.uniq (I.mem' ht) (I.mem hs) e
    subst this
    obtain ⟨b, c, e2⟩ := List.append_of_mem ht
    have h1 := D.one (dn ++ b) t c (by rw [I.split, e2]; simp)
    simp only [oneOk, Bool.and_eq_true] at h1
    have := List.all_eq_true.1 h1.1.2 t (List.mem_append_left _ hs)
    simp at this⟩
  cls := cls_upd I.cls ho hp
  sat := hs'
  gok := I.gok.mono hsub
  ext := I.ext.trans hr (Nat.le_refl _)
  nle := I.nle
  sub := I.sub.trans hsub
  dfr := by rw [put_defers]; exact I.dfr
  frm := by
    intro q x hq
    by_cases hd : s.op.dst = some q
    · obtain ⟨y, hy, hsd⟩ := hx q hd
      rw [hq] at hy; cases hy
      obtain ⟨u, hu, _⟩ := I.frm q x hq
      rw [hd] at hc
      exact ⟨v, put_tmps_self hc hu, fun _ => hsd⟩
    · obtain ⟨u, hu, hsd⟩ := I.frm q x hq
      refine ⟨u, ?_, fun hpn => (hsd fun ⟨t, ht, htl, htd⟩ => ?_).mono hr.sub hsub⟩
      · rw [put_tmps hc q]
        · exact hu
        · intro e he hev
          obtain ⟨y, hy, _⟩ := hx e he
          rw [FT.inj hy hq hev] at he
          exact hd he
      · by_cases hti : t.ix = s.ix
        · have := D.uniq (I.mem ht) (I.mem hs) hti
          subst this
          exact hd htd
        · exact hpn ⟨t, ht, upd_false.2 ⟨htl, hti⟩, htd⟩
  redo := fun i c hi hl' => I.redo i c hi (upd_false.1 hl').1
  als := fun i c hi hl' => I.als i c hi (upd_false.1 hl').1
  mss := fun i c src hi hl' => I.mss i c src hi (upd_false.1 hl').1
  pnd := fun x hx' => ⟨(I.pnd x hx').1, (I.pnd x hx').2.1, hn x hx', (I.pnd x hx').2.2.2⟩
  nm := I.nm
  nd := I.nd
theorem chkROp_and {o : Oper} {c : ROp} (h : chkROp P ops o c = true) : chkOp P o.op c.c = true ∧ chkDst o.dst c.dst = true ∧ chkGd ops o.guard c.g = true := by
  simp only [chkROp, Bool.and_eq_true] at h
  exact ⟨h.1.1, h.1.2, h.2⟩
theorem DInv.pnd_q (D : DStat P ops ds A) (I : DInv P ops ds A G nx0 ρ0 hI0 hF lb dn rs fr p S nx a w ρ hI) {s : DStep} (hs : s ∈ dn) (hna : ∀ i c, s ≠ .al i c) : ∀ x ∈ p, x.1 ≠ s.ix := by
  intro x hx e
  obtain ⟨c, hc⟩ := (I.pnd x hx).2.2.2
  have := D.uniq (I.mem hc) (I.mem hs) e
  exact hna _ _ this.symm
theorem ex_q (D : DStat P ops ds A) (I : DInv P ops ds A G nx0 ρ0 hI0 hF lb dn rs fr p S nx a w ρ hI) {i : Nat} {c : ROp} (hs : .q i c ∈ dn) (hl : lb i = false) {o : Oper} (ho : ops[i]? = some o) (hp : ∀ k ∈ preds o, lb k = true)
    {Q : Exit → Act → World → Prop} {K : Act → World → Prop} (hK : ∀ a' w' ρ' hI', DInv P ops ds A G nx0 ρ0 hI0 hF (upd lb i) dn rs fr p S nx a' w' ρ' hI' → K a' w') : wpOp P ops Q i K a w := by
  obtain ⟨c', ⟨⟨o', ho', hch⟩, hquiet, hrd, hdst, _⟩, hredo⟩ := I.redo i c hs hl
  rw [ho] at ho'; cases ho'
  obtain ⟨h1, h2, h3⟩ := chkROp_and hch
  have hag := I.agree D ho hp hrd
  have hagc : Agree c'.c.rd fr (jk lb dn fr) := fun q hq => hag q (List.mem_append_left _ hq)
  have hagg : Agree (rdG c'.g) fr (jk lb dn fr) := fun q hq => hag q (List.mem_append_right _ hq)
  unfold Redo at hredo
  rw [← gdK_congr hagg, ← qop_congr hagc] at hredo
  obtain ⟨hA, oA, hsat, hback⟩ := I.sat.aside
  have C : Cx G ρ hI ⟨hF.hp.union hA, hF.base⟩ w S nx (jk lb dn fr) a := ⟨hsat, I.gok, I.fden⟩
  have hpx := exl_upd (lb := lb) (I.pnd_q D hs (by simp))
  have hsat' : Sat ρ hI hF w (exl (upd lb i) p ++ S) nx := by rw [show exl (upd lb i) p = exl lb p from hpx]; exact I.sat
  have hn : ∀ x ∈ p, upd lb i x.1 = false → ρ x.2.1 = none := fun x hx h => (I.pnd x hx).2.2.1 (upd_false.1 h).1
  unfold wpOp
  simp only [ho]
  rcases gdK_sound C.f h3 hredo with ⟨hw, hy⟩ | ⟨hw, hno⟩
  · rw [hw, if_pos rfl]
    left
    obtain ⟨x, v, hx, hd, hrun⟩ := quiet_ok C hquiet h1 hy
    refine wp_value hrun (hK _ _ ρ hI ?_)
    exact I.carry (s := .q i c) D hs hl ho hp (by rw [show (DStep.q i c).op.dst = c'.dst from hdst.symm]; exact h2) (Hp.sub.refl _) (fun d hd' => ⟨x, hx d (by rw [hdst]; exact hd'), hd⟩) (Env.ext.refl _ _) hsat' hn
  · rw [hw]
    simp only [Bool.false_eq_true, if_false]
    refine hK _ _ ρ hI ?_
    exact I.carry (s := .q i c) D hs hl ho hp (by rw [show (DStep.q i c).op.dst = c'.dst from hdst.symm]; exact h2) (Hp.sub.refl _) (fun d hd' => ⟨undefS, hno d (by rw [hdst]; exact hd'), undef_den⟩) (Env.ext.refl _ _) hsat' hn
theorem filter_upd {p : Pend} {x : Nat × Nat × SObj} (hx : x ∈ p) (hnd : p.Nodup) (hun : ∀ y ∈ p, y.1 = x.1 → y = x) (hl : lb x.1 = false) :
    (p.filter fun y => upd lb x.1 y.1).Perm (x :: p.filter fun y => lb y.1) := by
  obtain ⟨b, c, rfl⟩ := List.append_of_mem hx
  have hb : ∀ y ∈ b, y.1 ≠ x.1 := fun y hy e => by
    have := hun y (List.mem_append_left _ hy) e
    subst this
    rw [List.nodup_append] at hnd
    exact hnd.2.2 y hy y (List.mem_cons_self ..) rfl
  have hc : ∀ y ∈ c, y.1 ≠ x.1 := fun y hy e => by
    have := hun y (List.mem_append_right _ (List.mem_cons_of_mem _ hy)) e
    subst this
    rw [List.nodup_append] at hnd
    exact (List.nodup_cons.1 hnd.2.1).1 hy
  have eb : b.filter (fun y => upd lb x.1 y.1) = b.filter fun y => lb y.1 := List.filter_congr fun y hy => by simp [upd, beq_false (hb y hy)]
  have ec : c.filter (fun y => upd lb x.1 y.1) = c.filter fun y => lb y.1 := List.filter_congr fun y hy => by simp [upd, beq_false (hc y hy)]
  rw [List.filter_append, List.filter_append, List.filter_cons, List.filter_cons, eb, ec]
  simp only [upd_self, hl, if_true, Bool.false_eq_true, if_false]
  exact List.perm_middle
theorem ex_al (D : DStat P ops ds A) (I : DInv P ops ds A G nx0 ρ0 hI0 hF lb dn rs fr p S nx a w ρ hI) {i : Nat} {c : ROp} (hs : .al i c ∈ dn) (hl : lb i = false) {o : Oper} (ho : ops[i]? = some o) (hp : ∀ k ∈ preds o, lb k = true)
    {Q : Exit → Act → World → Prop} {K : Act → World → Prop} (hK : ∀ a' w' ρ' hI', DInv P ops ds A G nx0 ρ0 hI0 hF (upd lb i) dn rs fr p S nx a' w' ρ' hI' → K a' w') : wpOp P ops Q i K a w := by
  have hnew := I.als i c hs hl
  have ok := D.ok (I.mem hs)
  obtain ⟨o', ho', hch⟩ := ok.ex
  rw [show (DStep.al i c).ix = i from rfl, ho] at ho'; cases ho'
  obtain ⟨h1, h2, h3⟩ := chkROp_and hch
  have hag := I.agree D ho hp ok.rd
  have hagc : Agree c.c.rd fr (jk lb dn fr) := fun q hq => hag q (List.mem_append_left _ hq)
  have hagg : Agree (rdG c.g) fr (jk lb dn fr) := fun q hq => hag q (List.mem_append_right _ hq)
  unfold ReNew at hnew
  rw [← gdK_congr hagg, ← nop_congr hagc] at hnew
  have C : Cx G ρ hI hF w (exl lb p ++ S) nx (jk lb dn fr) a := ⟨I.sat, I.gok, I.fden⟩
  unfold wpOp
  simp only [ho]
  rcases gdK_sound C.f h3 hnew with ⟨hw, hy⟩ | ⟨hw, hno⟩
  · rw [hw, if_pos rfl]
    left
    obtain ⟨mk, ob, v, O, cap, ⟨n, hmem, hfr⟩, hrun, hod, hsd⟩ := nop_sound C h1 hy
    obtain ⟨hlt, hge, hfree, _⟩ := I.pnd _ hmem
    have hfree := hfree hl
    obtain ⟨r, hsat⟩ := I.sat.newAt hfree hlt hod
    have hext : Env.ext nx0 ρ (ρ.set n ⟨w.heap.size, cap, false⟩) := ⟨r, fun m hm => by unfold Env.set; rw [if_neg (by have : nx0 ≤ n := hge; omega)]⟩
    refine wp_value hrun (hK _ _ (ρ.set n ⟨w.heap.size, cap, false⟩) hI ?_)
    refine I.carry (s := .al i c) D hs hl ho hp h2 (Hp.sub.refl _) (fun d hd' => ⟨mk n, hfr d hd', hsd _ n (Env.set_self _ _ _)⟩) hext ?_ ?_
    · refine hsat.perm ?_
      have := filter_upd (lb := lb) hmem I.nd (fun y hy e => I.nm y hy _ hmem (.inl e)) hl
      exact (((this.map (·.2)).append_right S).symm)
    · intro x hx h
      obtain ⟨h1, h2⟩ := upd_false.1 h
      unfold Env.set
      rw [if_neg]
      · exact (I.pnd x hx).2.2.1 h1
      · intro e
        have := I.nm x hx _ hmem (.inr e)
        exact h2 (by rw [this]; rfl)
  · rw [hw]
    simp only [Bool.false_eq_true, if_false]
    refine hK _ _ ρ hI ?_
    refine I.carry (s := .al i c) D hs hl ho hp h2 (Hp.sub.refl _) (fun d hd' => ⟨undefS, hno.2 d hd', undef_den⟩) (Env.ext.refl _ _) ?_ fun x hx h => (I.pnd x hx).2.2.1 (upd_false.1 h).1
    rw [show exl (upd lb (DStep.al i c).ix) p = exl lb p from exl_upd hno.1]; exact I.sat
theorem get_of_mem {n : Nat} {o : SObj} : ∀ {l S : SH}, (n, o) ∈ l → (∀ y ∈ l, y.1 = n → y = (n, o)) → SH.get (l ++ S) n = some o
  | [], S, h, _ => by cases h
  | (m, x) :: l, S, h, hu => by
    simp only [List.cons_append, SH.get]
    by_cases e : m = n
    · have := hu (m, x) (List.mem_cons_self ..) e
      cases this
      simp
    · rw [beq_false e]
      simp only [cond_false]
      refine get_of_mem ?_ fun y hy => hu y (List.mem_cons_of_mem _ hy)
      rcases List.mem_cons.1 h with h | h
      · cases h; exact absurd rfl e
      · exact h
theorem ex_ms (D : DStat P ops ds A) (I : DInv P ops ds A G nx0 ρ0 hI0 hF lb dn rs fr p S nx a w ρ hI) {i : Nat} {c : ROp} {src : Nat} (hs : .ms i c src ∈ dn) (hl : lb i = false) {o : Oper} (ho : ops[i]? = some o) (hp : ∀ k ∈ preds o, lb k = true)
    {Q : Exit → Act → World → Prop} {K : Act → World → Prop} (hK : ∀ a' w' ρ' hI', DInv P ops ds A G nx0 ρ0 hI0 hF (upd lb i) dn rs fr p S nx a' w' ρ' hI' → K a' w') : wpOp P ops Q i K a w := by
  have hms := I.mss i c src hs hl
  have ok := D.ok (I.mem hs)
  obtain ⟨o', ho', hch⟩ := ok.ex
  rw [show (DStep.ms i c src).ix = i from rfl, ho] at ho'; cases ho'
  obtain ⟨h1, h2, h3⟩ := chkROp_and hch
  have hag := I.agree D ho hp ok.rd
  have hagc : Agree c.c.rd fr (jk lb dn fr) := fun q hq => hag q (List.mem_append_left _ hq)
  have hagg : Agree (rdG c.g) fr (jk lb dn fr) := fun q hq => hag q (List.mem_append_right _ hq)
  unfold MsOk at hms
  rw [← gdK_congr hagg, ← msV_congr hagc] at hms
  have C : Cx G ρ hI hF w (exl lb p ++ S) nx (jk lb dn fr) a := ⟨I.sat, I.gok, I.fden⟩
  have hpx := exl_upd (lb := lb) (I.pnd_q D hs (by simp))
  have hn : ∀ x ∈ p, upd lb i x.1 = false → ρ x.2.1 = none := fun x hx h => (I.pnd x hx).2.2.1 (upd_false.1 h).1
  unfold wpOp
  simp only [ho]
  rcases gdK_sound C.f h3 hms with ⟨hw, hy⟩ | ⟨hw, hno⟩
  · rw [hw, if_pos rfl]
    left
    have key : opK P G (exl lb p ++ S) nx (jk lb dn fr) c.c fun v S' nx' => (∀ d, c.dst = some d → fr.get d = some v) ∧ S' = exl lb p ++ S ∧ nx' = nx := by
      have h1' : chkOp P o.op c.c = true := h1
      generalize hcc : c.c = cc at hy h1'
      cases cc
      case s2s x =>
        obtain ⟨v, hv, hev⟩ := evK_lin _ (show evK G (jk lb dn fr) x _ from hy)
        have hcx : chkOp P o.op (.s2s x) = true := h1'
        simp only [chkOp] at hcx
        split at hcx
        · rename_i s d y hoo
          simp only [Bool.and_eq_true] at hcx
          obtain ⟨v', hv', hden⟩ := evK_sound hcx.2 C.g C.f (hev (fun u => u = v) rfl)
          subst hv'
          refine hev _ ?_
          split at hv
          · rename_i sz n off len
            obtain ⟨⟨l, hm, hpos⟩, h0, hdst⟩ := hv
            have hmap : ρ n ≠ none := by
              generalize a.eval y = u at hden
              cases hden with
              | sl _ _ _ _ e A' h => rw [h]; simp
              | slnil _ _ e h => rw [h]; simp
            have hlb : lb src = true := by
              cases hb : lb src
              · exact absurd ((I.pnd _ hm).2.2.1 hb) hmap
              · rfl
            have hget : SH.get (exl lb p ++ S) n = some (.bytes l) := by
              refine get_of_mem ?_ ?_
              · exact List.mem_map.2 ⟨(src, n, .bytes l), List.mem_filter.2 ⟨hm, hlb⟩, rfl⟩
              · rintro y hy e
                obtain ⟨z, hz, rfl⟩ := List.mem_map.1 hy
                have := I.nm z (List.mem_filter.1 hz).1 _ hm (.inr e)
                rw [this]
            exact SH.getK_iff.2 ⟨_, hget, vc_iff.2 ⟨⟨hpos, h0⟩, hdst, rfl, rfl⟩⟩
          · exact hv.elim
        · cases hcx
      all_goals exact hy.elim
    refine Oper.wp_mono ?_ (op_sound C h1 key)
    rintro a' w' ⟨x, S', nx', ρ', hI', v, rfl, ⟨hx, rfl, rfl⟩, hd, hsat, hext, _, hsub⟩
    have hρ : ρ' = ρ := by
      funext n
      by_cases hnn : n < nx'
      · exact hext.low n hnn
      · rw [hsat.2.1 n (by omega), I.sat.2.1 n (by omega)]
    subst hρ
    refine hK _ _ ρ' hI' ?_
    exact I.carry (s := .ms i c src) D hs hl ho hp h2 hsub (fun d hd' => ⟨x, hx d hd', hd⟩) (Env.ext.refl _ _) (by rw [show exl (upd lb (DStep.ms i c src).ix) p = exl lb p from hpx]; exact hsat) hn
  · rw [hw]
    simp only [Bool.false_eq_true, if_false]
    refine hK _ _ ρ hI ?_
    exact I.carry (s := .ms i c src) D hs hl ho hp h2 (Hp.sub.refl _) (fun d hd' => ⟨undefS, hno d hd', undef_den⟩) (Env.ext.refl _ _) (by rw [show exl (upd lb (DStep.ms i c src).ix) p = exl lb p from hpx]; exact I.sat) hn
end
end Sg
end Go.Proofs.YtfkboondffejaaaGreatDoor
set_option linter.unusedVariables false
set_option linter.unusedSimpArgs false
set_option linter.constructorNameAsVariable false
namespace Go.Proofs.YtfkboondffejaaaGreatDoor
namespace Sg
variable {P : Program}
section
variable {ops : Array Oper} {ds : List DStep} {A : Nat → Nat → Bool} {G : Gl} {nx0 : Nat} {ρ0 : Env} {hI0 : Hp} {hF : Fm} {lb : Nat → Bool} {dn rs : List DStep} {fr fr' : FT} {p p' : Pend} {S : SH} {nx : Nat} {a : Act} {w : World} {ρ : Env} {hI : Hp}
theorem Redo.to {c : ROp} (h : Redo G S fr c) (hr : Agree c.rd fr fr') (hd : ∀ d, c.dst = some d → fr'.get d = fr.get d) : Redo G S fr' c := by
  unfold Redo at *
  rw [gdK_congr (fun q hq => hr q (List.mem_append_right _ hq)), qop_congr (fun q hq => hr q (List.mem_append_left _ hq))]
  exact gdK_mono h (fun h => qop_mono h fun v hv d e => by rw [hd d e]; exact hv d e) (fun hv d e => by rw [hd d e]; exact hv d e)
theorem ReNew.to {c : ROp} {i : Nat} (h : ReNew G fr p i c) (hr : Agree c.rd fr fr') (hd : ∀ d, c.dst = some d → fr'.get d = fr.get d) (h1 : ∀ x ∈ p, x.1 = i → x ∈ p') (h2 : ∀ x ∈ p', x.1 = i → x ∈ p) : ReNew G fr' p' i c := by
  unfold ReNew at *
  rw [gdK_congr (fun q hq => hr q (List.mem_append_right _ hq)), nop_congr (fun q hq => hr q (List.mem_append_left _ hq))]
  refine gdK_mono h (fun h => nop_mono h ?_) ?_
  · rintro mk ob ⟨n, hm, hv⟩
    exact ⟨n, h1 _ hm rfl, fun d e => by rw [hd d e]; exact hv d e⟩
  · rintro ⟨hm, hv⟩
    exact ⟨fun x hx e => hm x (h2 x hx e) e, fun d e => by rw [hd d e]; exact hv d e⟩
theorem MsOk.to {c : ROp} {src : Nat} (h : MsOk G fr p c src) (hr : Agree c.rd fr fr') (hd : ∀ d, c.dst = some d → fr'.get d = fr.get d) (hp : ∀ x ∈ p, x.1 = src → x ∈ p') : MsOk G fr' p' c src := by
  unfold MsOk at *
  rw [gdK_congr (fun q hq => hr q (List.mem_append_right _ hq)), msV_congr (fun q hq => hr q (List.mem_append_left _ hq))]
  exact gdK_mono h (fun h => msV_mono h hp fun v hv d e => by rw [hd d e]; exact hv d e) (fun hv d e => by rw [hd d e]; exact hv d e)
theorem reK_sound : ∀ {re : List (Nat × ROp)} {K : Prop}, reK G S fr re K → K ∧ ∀ x ∈ re, Redo G S fr x.2
  | [], K, h => ⟨h, fun x hx => nomatch hx⟩
  | (j, o) :: os, K, h => by
    simp only [reK] at h
    have key : ∀ {v : SV}, (match o.dst with | some d => FT.getK fr d fun v' => eqvK v v' (reK G S fr os K) | none => False) → (∀ d, o.dst = some d → fr.get d = some v) ∧ reK G S fr os K := by
      intro v hv
      split at hv
      · rename_i d hd
        obtain ⟨v', hv', hk⟩ := FT.getK_iff.1 hv
        obtain ⟨e1, hk2⟩ := eqvK_sound hk
        subst e1
        exact ⟨fun d' e => by rw [hd] at e; cases e; exact hv', hk2⟩
      · exact hv.elim
    rcases gdK_cases h with ⟨hy, r⟩ | ⟨hn, r⟩
    · obtain ⟨v, hv, hl⟩ := qop_lin _ hy
      obtain ⟨h1, h2⟩ := key hv
      obtain ⟨hK, hR⟩ := reK_sound h2
      refine ⟨hK, fun x hx => ?_⟩
      rcases List.mem_cons.1 hx with rfl | hx
      · exact r _ _ (hl _ h1)
      · exact hR x hx
    · obtain ⟨h1, h2⟩ := key hn
      obtain ⟨hK, hR⟩ := reK_sound h2
      refine ⟨hK, fun x hx => ?_⟩
      rcases List.mem_cons.1 hx with rfl | hx
      · exact r _ _ h1
      · exact hR x hx
theorem putK_facts {dst : Option Pth} {x : SV} {K : FT → Prop} (h : putK fr dst x K) : ∃ fr', K fr' ∧ (∀ q, dst ≠ some q → fr'.get q = fr.get q) ∧ (∀ d, dst = some d → fr'.get d = some x ∧ ∃ y, fr.get d = some y) := by
  cases dst with
  | none => exact ⟨fr, h, fun q _ => rfl, fun d e => nomatch e⟩
  | some d =>
    obtain ⟨⟨y, hy⟩, hk⟩ := FT.setK_iff.1 (show FT.setK fr d x K from h)
    refine ⟨_, hk, fun q hq => FT.get_set_ne hy (fun e => hq (by rw [e])), fun d' e => ?_⟩
    cases e
    exact ⟨FT.get_set_self hy, y, hy⟩
theorem DInv.after (D : DStat P ops ds A) {i : Nat} {c : ROp} {due : List Nat} {re : List (Nat × ROp)} {r : List DStep} (I : DInv P ops ds A G nx0 ρ0 hI0 hF lb dn (.ef i c due re :: r) fr p S nx a w ρ hI)
    {o : Oper} (ho : ops[i]? = some o) (hp : ∀ k ∈ preds o, lb k = true) (hc : chkDst o.dst c.dst = true)
    {x : SV} {v : Value} {w' : World} {S' : SH} {nx' : Nat} {ρ' : Env} {hI' : Hp} (hx : SDen ρ' hI' x v) (h1 : ∀ q, c.dst ≠ some q → fr'.get q = fr.get q) (h2 : ∀ d, c.dst = some d → fr'.get d = some x ∧ ∃ y, fr.get d = some y)
    (hre : ∀ x ∈ re, Redo G S' fr' x.2) (hext : Env.ext nx ρ ρ') (hle : nx ≤ nx') (hsub : hI.sub hI')
    (hs' : Sat ρ' hI' hF w' (exl (upd lb i) (p.filter fun x => !isIn x.1 due) ++ S') nx') :
    DInv P ops ds A G nx0 ρ0 hI0 hF (upd lb i) (dn ++ [.ef i c due re]) r fr' (p.filter fun x => !isIn x.1 due) S' nx' (a.put o.dst v) w' ρ' hI' := by
  have hone := D.one dn _ r I.split
  simp only [oneOk, kindOk, Bool.and_eq_true] at hone
  obtain ⟨_, ⟨⟨hall, hdue⟩, hreok⟩, hcov⟩ := hone
  have hmem : DStep.ef i c due re ∈ ds := I.mem' (List.mem_cons_self ..)
  have hnoti : ∀ t ∈ dn, t.ix ≠ i := fun t ht e => by
    have := D.uniq (I.mem ht) hmem e
    subst this
    have := I.efs _ ht rfl
    rw [I.unl _ (List.mem_cons_self ..)] at this
    cases this
  have hdn : ∀ i', (∃ t ∈ dn, t.ix = i') → A i' i = false := by
    rintro i' ⟨t, ht, rfl⟩
    cases hA : A t.ix i
    · rfl
    · exfalso
      obtain ⟨o', ho', _⟩ := (D.ok (I.mem ht)).ex
      have hcl := D.done (dn := dn) (r := _) I.split
      obtain ⟨u, hu, hui⟩ := D.anc _ hcl t.ix o' ho' (hcl t.ix o' ho' ⟨t, ht, rfl⟩) i hA
      exact hnoti u hu hui
  have hlb : ∀ j, lb j = false → A i j = false := by
    intro j hj
    cases hA : A i j
    · rfl
    · have : lb j = true := D.anc _ I.cls i o ho hp j hA
      rw [hj] at this; cases this
  have hread : ∀ (t : DStep), t ∈ dn → lb t.ix = false → ∀ l, rdOk ds A t.ix l = true → ∀ q ∈ l, fr'.get q = fr.get q := by
    intro t ht hl l hr q hq
    refine h1 q fun e => ?_
    rcases slot_of hr hq hmem e with h | ⟨_, h | h⟩
    · rw [show (DStep.ef i c due re).ix = i from rfl, hdn _ ⟨t, ht, rfl⟩] at h; cases h
    · rw [show (DStep.ef i c due re).ix = i from rfl, hlb _ hl] at h; cases h
    · exact hnoti t ht h.symm
  have hdst : ∀ (t : DStep), t ∈ dn → t.isEf = false → ∀ d, t.op.dst = some d → fr'.get d = fr.get d := by
    intro t ht hef d hd
    exact h1 d (wr_of ((D.ok (I.mem ht)).wr _ hmem) (hnoti t ht) (by rw [hef]; simp) hd)
  refine ⟨by rw [I.split]; simp, ?_, ?_, cls_upd I.cls ho hp, hs', I.gok.mono hsub, I.ext.trans hext I.nle, Nat.le_trans I.nle hle, I.sub.trans hsub, by rw [put_defers]; exact I.dfr, ?_, ?_, ?_, ?_, ?_, ?_, ?_⟩
  · intro t ht hef
    rcases List.mem_append.1 ht with h | h
    · exact upd_mono (I.efs t h hef)
    · rw [List.mem_singleton.1 h]; exact upd_self _ _
  · intro t ht
    refine upd_false.2 ⟨I.unl t (List.mem_cons_of_mem _ ht), fun e => ?_⟩
    have := D.uniq (I.mem' (List.mem_cons_of_mem _ ht)) hmem e
    subst this
    obtain ⟨b, d, e2⟩ := List.append_of_mem ht
    have h3 := D.one (dn ++ .ef i c due re :: b) (.ef i c due re) d (by rw [I.split, e2]; simp)
    simp only [oneOk, Bool.and_eq_true] at h3
    have := List.all_eq_true.1 h3.1.2 (.ef i c due re) (by simp)
    simp at this
  · intro q y hq
    by_cases hd : c.dst = some q
    · obtain ⟨e1, z, e2⟩ := h2 q hd
      rw [hq] at e1; cases e1
      obtain ⟨u, hu, _⟩ := I.frm q z e2
      rw [hd] at hc
      exact ⟨v, put_tmps_self hc hu, fun _ => hx⟩
    · rw [h1 q hd] at hq
      obtain ⟨u, hu, hsd⟩ := I.frm q y hq
      refine ⟨u, ?_, fun hpn => (hsd fun ⟨t, ht, htl, htd⟩ => hpn ⟨t, List.mem_append_left _ ht, upd_false.2 ⟨htl, hnoti t ht⟩, htd⟩).mono hext.sub hsub⟩
      rw [put_tmps hc q]
      · exact hu
      · intro e he hev
        obtain ⟨_, z, hz⟩ := h2 e he
        rw [FT.inj hz hq hev] at he
        exact hd he
  · intro j c1 hj hl
    obtain ⟨hl, hne⟩ := upd_false.1 hl
    have hj : DStep.q j c1 ∈ dn := by
      rcases List.mem_append.1 hj with h | h
      · exact h
      · cases List.mem_singleton.1 h
    have hcv := List.all_eq_true.1 hcov _ hj
    simp only [hlb j hl, Bool.false_or, Bool.or_eq_true, Bool.not_eq_true'] at hcv
    rcases hcv with hheap | hin
    · obtain ⟨c', hok, hredo⟩ := I.redo j c1 hj hl
      have hh : c'.c.heapy = false := by
        cases hb : c'.c.heapy
        · rfl
        · rw [hok.2.2.2.2 hb] at hheap; cases hheap
      refine ⟨c', hok, ?_⟩
      have : Redo G S' fr c' := by
        unfold Redo at *
        rw [qop_heap hh]
        exact hredo
      exact this.to (fun q hq => hread (.q j c1) hj hl _ hok.2.2.1 q hq) (fun d e => hdst (.q j c1) hj rfl d (by rw [← e]; exact hok.2.2.2.1.symm))
    · obtain ⟨x, hx, hxj⟩ := List.any_eq_true.1 hin
      obtain rfl := Nat.eq_of_beq_eq_true hxj
      have hr := List.all_eq_true.1 hreok x hx
      simp only [reOk, Bool.and_eq_true] at hr
      obtain ⟨⟨⟨r1, r2⟩, r3⟩, r4⟩ := hr
      have r5 := List.all_eq_true.1 r4 _ (I.mem hj)
      have : (DStep.q x.1 c1).ix.beq x.1 = true := by simp [DStep.ix]
      simp only [this, Bool.not_true, Bool.false_or, Bool.and_eq_true] at r5
      refine ⟨x.2, ⟨?_, r2, r3, (eqD_eq r5.1.1).symm, fun _ => r5.1.2⟩, hre x hx⟩
      split at r1
      · rename_i o1 ho1; exact ⟨o1, ho1, r1⟩
      · cases r1
  · intro j c1 hj hl
    obtain ⟨hl, hne⟩ := upd_false.1 hl
    have hj : DStep.al j c1 ∈ dn := by
      rcases List.mem_append.1 hj with h | h
      · exact h
      · cases List.mem_singleton.1 h
    refine (I.als j c1 hj hl).to (fun q hq => hread (.al j c1) hj hl _ (D.ok (I.mem hj)).rd q hq) (fun d e => hdst (.al j c1) hj rfl d e) ?_ (fun x hx _ => (List.mem_filter.1 hx).1)
    intro x hx e
    refine List.mem_filter.2 ⟨hx, ?_⟩
    cases hin : isIn x.1 due
    · rfl
    · have := List.all_eq_true.1 hdue _ (isIn_mem hin)
      rw [e, hlb j hl] at this; cases this
  · intro j c1 src hj hl
    obtain ⟨hl, hne⟩ := upd_false.1 hl
    have hj : DStep.ms j c1 src ∈ dn := by
      rcases List.mem_append.1 hj with h | h
      · exact h
      · cases List.mem_singleton.1 h
    have hcv := List.all_eq_true.1 hcov _ hj
    simp only [hlb j hl, Bool.false_or, Bool.not_eq_true'] at hcv
    refine (I.mss j c1 src hj hl).to (fun q hq => hread (.ms j c1 src) hj hl _ (D.ok (I.mem hj)).rd q hq) (fun d e => hdst (.ms j c1 src) hj rfl d e) fun x hx e => ?_
    exact List.mem_filter.2 ⟨hx, by rw [e, hcv]; rfl⟩
  · intro x hx
    obtain ⟨hx, _⟩ := List.mem_filter.1 hx
    obtain ⟨a1, a2, a3, c1, a4⟩ := I.pnd x hx
    refine ⟨Nat.lt_of_lt_of_le a1 hle, a2, fun hl => ?_, c1, List.mem_append_left _ a4⟩
    rw [hext.low _ a1]
    exact a3 (upd_false.1 hl).1
  · exact fun x hx y hy => I.nm x (List.mem_filter.1 hx).1 y (List.mem_filter.1 hy).1
  · exact I.nd.filter _
theorem ex_ef (D : DStat P ops ds A) {i : Nat} {c : ROp} {due : List Nat} {re : List (Nat × ROp)} {r : List DStep} (I : DInv P ops ds A G nx0 ρ0 hI0 hF lb dn (.ef i c due re :: r) fr p S nx a w ρ hI)
    {o : Oper} (ho : ops[i]? = some o) (hp : ∀ k ∈ preds o, lb k = true) {Kf : FT → SH → Nat → Prop} (hk : dregK P G (CallOb P G) (.ef i c due re :: r) fr p S nx Kf)
    {Q : Exit → Act → World → Prop} {K : Act → World → Prop} (hK : ∀ fr' p' S' nx' a' w' ρ' hI', DInv P ops ds A G nx0 ρ0 hI0 hF (upd lb i) (dn ++ [.ef i c due re]) r fr' p' S' nx' a' w' ρ' hI' → dregK P G (CallOb P G) r fr' p' S' nx' Kf → K a' w') : wpOp P ops Q i K a w := by
  have hmem : DStep.ef i c due re ∈ ds := I.mem' (List.mem_cons_self ..)
  have ok := D.ok hmem
  obtain ⟨o', ho', hch⟩ := ok.ex
  rw [show (DStep.ef i c due re).ix = i from rfl, ho] at ho'; cases ho'
  obtain ⟨c1, c2, c3⟩ := chkROp_and hch
  have hag := I.agree D ho hp ok.rd
  have hagc : Agree c.c.rd fr (jk lb dn fr) := fun q hq => hag q (List.mem_append_left _ hq)
  have hagg : Agree (rdG c.g) fr (jk lb dn fr) := fun q hq => hag q (List.mem_append_right _ hq)
  have hone := D.one dn _ r I.split
  simp only [oneOk, kindOk, Bool.and_eq_true] at hone
  obtain ⟨_, ⟨⟨hall, hdue⟩, hreok⟩, hcov⟩ := hone
  have hduel : ∀ j ∈ due, lb j = true := fun j hj => D.anc _ I.cls i o ho hp j (List.all_eq_true.1 hdue j hj)
  simp only [dregK] at hk
  rw [splitK_iff] at hk
  have hsat : Sat ρ hI hF w (exl lb (p.filter fun x => !isIn x.1 due) ++ (Pend.sh (p.filter fun x => isIn x.1 due) ++ S)) nx := by
    refine I.sat.perm ?_
    rw [← List.append_assoc]
    exact (((exl_split hduel p).trans List.perm_append_comm).append_right S)
  have hupd : exl (upd lb i) (p.filter fun x => !isIn x.1 due) = exl lb (p.filter fun x => !isIn x.1 due) := by
    refine exl_upd fun x hx e => ?_
    obtain ⟨c', hc'⟩ := (I.pnd x (List.mem_filter.1 hx).1).2.2.2
    have := D.uniq (I.mem hc') hmem e
    cases this
  rw [← gdK_congr hagg, ← opC_congr hagc] at hk
  unfold wpOp
  simp only [ho]
  rcases gdK_sound I.fden c3 hk with ⟨hw, hy⟩ | ⟨hw, hno⟩
  · rw [hw, if_pos rfl]
    left
    rw [opC_eq] at hy
    obtain ⟨hA, oA, hsat1, hback⟩ := hsat.aside
    have C : Cx G ρ hI ⟨hF.hp.union hA, hF.base⟩ w (Pend.sh (p.filter fun x => isIn x.1 due) ++ S) nx (jk lb dn fr) a := ⟨hsat1, I.gok, I.fden⟩
    refine Oper.wp_mono ?_ (op_sound C c1 hy)
    rintro a' w' ⟨x, S', nx', ρ', hI', v, rfl, hk2, hx, hs, ext, hle, hsub⟩
    obtain ⟨fr', hk3, h1, h2⟩ := putK_facts (spK_iff hk2)
    obtain ⟨hk4, hre⟩ := reK_sound hk3
    refine hK fr' _ S' nx' _ w' ρ' hI' (I.after D ho hp c2 hx h1 h2 hre ext hle hsub ?_) hk4
    rw [hupd]
    exact hback ρ' hI' w' S' nx' ext.sub hsub hs
  · rw [hw]
    simp only [Bool.false_eq_true, if_false]
    obtain ⟨fr', hk3, h1, h2⟩ := putK_facts hno
    obtain ⟨hk4, hre⟩ := reK_sound hk3
    refine hK fr' _ _ nx _ w ρ hI (I.after D ho hp c2 undef_den h1 h2 hre (Env.ext.refl _ _) (Nat.le_refl _) (Hp.sub.refl _) ?_) hk4
    rw [hupd]
    exact hsat
theorem DInv.pass (D : DStat P ops ds A) {s : DStep} {r : List DStep} (I : DInv P ops ds A G nx0 ρ0 hI0 hF lb dn (s :: r) fr p S nx a w ρ hI) (hef : s.isEf = false) {x : SV} {nx' : Nat}
    (h1 : ∀ q, s.op.dst ≠ some q → fr'.get q = fr.get q) (h2 : ∀ d, s.op.dst = some d → fr'.get d = some x ∧ ∃ y, fr.get d = some y) (hle : nx ≤ nx')
    (hp1 : ∀ x ∈ p', x ∈ p ∨ (x.1 = s.ix ∧ x.2.1 = nx ∧ nx < nx' ∧ ∃ c, s = .al x.1 c)) (hp2 : ∀ x ∈ p, x ∈ p')
    (hp3 : exl lb p' = exl lb p) (hp4 : ∀ x ∈ p', ∀ y ∈ p', x.1 = y.1 ∨ x.2.1 = y.2.1 → x = y) (hp5 : p'.Nodup)
    (hq : ∀ i c, s = .q i c → Agree c.rd fr fr' → ∃ c', RdoOk P ops ds A i c' c ∧ Redo G S fr' c') (ha : ∀ i c, s = .al i c → Agree c.rd fr fr' → ReNew G fr' p' i c) (hm : ∀ i c src, s = .ms i c src → Agree c.rd fr fr' → MsOk G fr' p' c src) :
    DInv P ops ds A G nx0 ρ0 hI0 hF lb (dn ++ [s]) r fr' p' S nx' a w ρ hI := by
  have hmem : s ∈ ds := I.mem' (List.mem_cons_self ..)
  have hone := D.one dn s r I.split
  simp only [oneOk, Bool.and_eq_true] at hone
  have hnoti : ∀ t ∈ dn, t.ix ≠ s.ix := fun t ht e => by
    have := List.all_eq_true.1 hone.1.2 t ht
    simp [e] at this
  have hdn : ∀ i', (∃ t ∈ dn, t.ix = i') → A i' s.ix = false := by
    rintro i' ⟨t, ht, rfl⟩
    cases hA : A t.ix s.ix
    · rfl
    · exfalso
      obtain ⟨o', ho', _⟩ := (D.ok (I.mem ht)).ex
      have hcl := D.done (dn := dn) (r := _) I.split
      obtain ⟨u, hu, hui⟩ := D.anc _ hcl t.ix o' ho' (hcl t.ix o' ho' ⟨t, ht, rfl⟩) s.ix hA
      exact hnoti u hu hui
  have hself : A s.ix s.ix = false := by
    cases hA : A s.ix s.ix
    · rfl
    · exfalso
      obtain ⟨o', ho', _⟩ := (D.ok hmem).ex
      have hcl := D.done (dn := dn) (r := _) I.split
      obtain ⟨u, hu, hui⟩ := D.anc _ hcl s.ix o' ho' (fun k hk => D.preds I.split ho' k hk) s.ix hA
      exact hnoti u hu hui
  have hread : ∀ (t : DStep), t ∈ dn → ∀ l, rdOk ds A t.ix l = true → ∀ q ∈ l, fr'.get q = fr.get q := by
    intro t ht l hr q hq
    refine h1 q fun e => ?_
    rcases slot_of hr hq hmem e with h | ⟨h, _⟩
    · rw [hdn _ ⟨t, ht, rfl⟩] at h; cases h
    · rw [hef] at h; cases h
  have hreads : ∀ l, rdOk ds A s.ix l = true → ∀ q ∈ l, fr'.get q = fr.get q := by
    intro l hr q hq
    refine h1 q fun e => ?_
    rcases slot_of hr hq hmem e with h | ⟨h, _⟩
    · rw [hself] at h; cases h
    · rw [hef] at h; cases h
  have hdst : ∀ (t : DStep), t ∈ dn → ∀ d, t.op.dst = some d → fr'.get d = fr.get d := by
    intro t ht d hd
    exact h1 d (wr_of ((D.ok (I.mem ht)).wr _ hmem) (hnoti t ht) (by rw [hef]; simp) hd)
  have hl : lb s.ix = false := I.unl s (List.mem_cons_self ..)
  refine ⟨by rw [I.split]; simp, ?_, fun t ht => I.unl t (List.mem_cons_of_mem _ ht), I.cls, by rw [hp3]; exact I.sat.more hle, I.gok, I.ext, Nat.le_trans I.nle hle, I.sub, I.dfr, ?_, ?_, ?_, ?_, ?_, hp4, hp5⟩
  · intro t ht he
    rcases List.mem_append.1 ht with h | h
    · exact I.efs t h he
    · rw [List.mem_singleton.1 h, hef] at he; cases he
  · intro q y hq
    by_cases hd : s.op.dst = some q
    · obtain ⟨e1, z, e2⟩ := h2 q hd
      obtain ⟨u, hu, _⟩ := I.frm q z e2
      exact ⟨u, hu, fun hpn => absurd ⟨s, by simp, hl, hd⟩ hpn⟩
    · rw [h1 q hd] at hq
      obtain ⟨u, hu, hsd⟩ := I.frm q y hq
      exact ⟨u, hu, fun hpn => hsd fun ⟨t, ht, htl, htd⟩ => hpn ⟨t, List.mem_append_left _ ht, htl, htd⟩⟩
  · intro j c1 hj hjl
    rcases List.mem_append.1 hj with h | h
    · obtain ⟨c', hok, hredo⟩ := I.redo j c1 h hjl
      exact ⟨c', hok, hredo.to (fun q hq => hread (.q j c1) h _ hok.2.2.1 q hq) (fun d e => hdst (.q j c1) h d (by rw [← e]; exact hok.2.2.2.1.symm))⟩
    · have hs := List.mem_singleton.1 h
      exact hq j c1 hs.symm (fun q hq => hreads _ (D.ok hmem).rd q (by rw [← hs]; exact hq))
  · intro j c1 hj hjl
    rcases List.mem_append.1 hj with h | h
    · refine (I.als j c1 h hjl).to (fun q hq => hread (.al j c1) h _ (D.ok (I.mem h)).rd q hq) (fun d e => hdst (.al j c1) h d e) (fun x hx _ => hp2 x hx) ?_
      intro x hx e
      rcases hp1 x hx with h' | ⟨h', _⟩
      · exact h'
      · exact absurd (by rw [← h', e]; rfl) (hnoti _ h)
    · have hs := List.mem_singleton.1 h
      exact ha j c1 hs.symm (fun q hq => hreads _ (D.ok hmem).rd q (by rw [← hs]; exact hq))
  · intro j c1 src hj hjl
    rcases List.mem_append.1 hj with h | h
    · exact (I.mss j c1 src h hjl).to (fun q hq => hread (.ms j c1 src) h _ (D.ok (I.mem h)).rd q hq) (fun d e => hdst (.ms j c1 src) h d e) (fun x hx _ => hp2 x hx)
    · have hs := List.mem_singleton.1 h
      exact hm j c1 src hs.symm (fun q hq => hreads _ (D.ok hmem).rd q (by rw [← hs]; exact hq))
  · intro x hx
    rcases hp1 x hx with h | ⟨e1, e2, e3, c, e4⟩
    · obtain ⟨a1, a2, a3, c1, a4⟩ := I.pnd x h
      exact ⟨Nat.lt_of_lt_of_le a1 hle, a2, a3, c1, List.mem_append_left _ a4⟩
    · exact ⟨by rw [e2]; exact e3, by rw [e2]; exact I.nle, fun _ => I.sat.2.1 _ (by rw [e2]; exact Nat.le_refl _), c, by rw [e4]; simp⟩
def headEf : List DStep → Prop
  | [] => True
  | s :: _ => s.isEf = true
theorem norm (D : DStat P ops ds A) {Kf : FT → SH → Nat → Prop} : ∀ (rs dn : List DStep) (fr : FT) (p : Pend) (nx : Nat), DInv P ops ds A G nx0 ρ0 hI0 hF lb dn rs fr p S nx a w ρ hI → dregK P G (CallOb P G) rs fr p S nx Kf →
    ∃ dn' rs' fr' p' nx', DInv P ops ds A G nx0 ρ0 hI0 hF lb dn' rs' fr' p' S nx' a w ρ hI ∧ dregK P G (CallOb P G) rs' fr' p' S nx' Kf ∧ headEf rs'
  | [], dn, fr, p, nx, I, hk => ⟨dn, [], fr, p, nx, I, hk, trivial⟩
  | .ef i c due re :: r, dn, fr, p, nx, I, hk => ⟨dn, _, fr, p, nx, I, hk, rfl⟩
  | .ms i c src :: r, dn, fr, p, nx, I, hk => by
    have hmem : DStep.ms i c src ∈ ds := I.mem' (List.mem_cons_self ..)
    simp only [dregK] at hk
    have fin : ∀ {x : SV}, putK fr c.dst x (fun fr => dregK P G (CallOb P G) r fr p S nx Kf) → (∀ fr' : FT, Agree c.rd fr fr' → (∀ d, c.dst = some d → fr'.get d = some x) → MsOk G fr' p c src) →
        ∃ dn' rs' fr' p' nx', DInv P ops ds A G nx0 ρ0 hI0 hF lb dn' rs' fr' p' S nx' a w ρ hI ∧ dregK P G (CallOb P G) rs' fr' p' S nx' Kf ∧ headEf rs' := by
      intro x hx hr
      obtain ⟨fr', hk', h1, h2⟩ := putK_facts hx
      refine norm D r (dn ++ [.ms i c src]) fr' p nx (I.pass D rfl (x := x) h1 h2 (Nat.le_refl _) (fun x hx => .inl hx) (fun x hx => hx) rfl I.nm I.nd (fun i c e => by cases e) (fun i c e => by cases e) ?_) hk'
      intro i' c' src' e hag
      cases e
      exact hr fr' hag fun d e => (h2 d e).1
    rcases gdK_cases hk with ⟨hy, rr⟩ | ⟨hn, rr⟩
    · obtain ⟨x, hx, hl⟩ := msK_split hy
      refine fin hx fun fr' hag hd => ?_
      unfold MsOk
      rw [gdK_congr (fun q hq => hag q (List.mem_append_right _ hq)), msV_congr (fun q hq => hag q (List.mem_append_left _ hq))]
      exact rr _ _ (hl _ hd)
    · refine fin hn fun fr' hag hd => ?_
      unfold MsOk
      rw [gdK_congr (fun q hq => hag q (List.mem_append_right _ hq)), msV_congr (fun q hq => hag q (List.mem_append_left _ hq))]
      exact rr _ _ hd
  | .q i c :: r, dn, fr, p, nx, I, hk => by
    have hmem : DStep.q i c ∈ ds := I.mem' (List.mem_cons_self ..)
    have ok := D.ok hmem
    have hone := D.one dn _ r I.split
    simp only [oneOk, kindOk, Bool.and_eq_true] at hone
    simp only [dregK] at hk
    have fin : ∀ {x : SV}, putK fr c.dst x (fun fr => dregK P G (CallOb P G) r fr p S nx Kf) → (∀ fr' : FT, Agree c.rd fr fr' → (∀ d, c.dst = some d → fr'.get d = some x) → Redo G S fr' c) →
        ∃ dn' rs' fr' p' nx', DInv P ops ds A G nx0 ρ0 hI0 hF lb dn' rs' fr' p' S nx' a w ρ hI ∧ dregK P G (CallOb P G) rs' fr' p' S nx' Kf ∧ headEf rs' := by
      intro x hx hr
      obtain ⟨fr', hk', h1, h2⟩ := putK_facts hx
      refine norm D r (dn ++ [.q i c]) fr' p nx (I.pass D rfl (x := x) h1 h2 (Nat.le_refl _) (fun x hx => .inl hx) (fun x hx => hx) rfl I.nm I.nd ?_ (fun i c e => by cases e) (fun i c src e => by cases e)) hk'
      intro i' c' e hag
      cases e
      exact ⟨c, ⟨ok.ex, hone.2, ok.rd, rfl, fun h => h⟩, hr fr' hag fun d e => (h2 d e).1⟩
    rcases gdK_cases hk with ⟨hy, rr⟩ | ⟨hn, rr⟩
    · obtain ⟨x, hx, hl⟩ := qop_lin _ hy
      refine fin (spK_iff hx) fun fr' hag hd => ?_
      unfold Redo
      rw [gdK_congr (fun q hq => hag q (List.mem_append_right _ hq)), qop_congr (fun q hq => hag q (List.mem_append_left _ hq))]
      exact rr _ _ (hl _ hd)
    · refine fin hn fun fr' hag hd => ?_
      unfold Redo
      rw [gdK_congr (fun q hq => hag q (List.mem_append_right _ hq)), qop_congr (fun q hq => hag q (List.mem_append_left _ hq))]
      exact rr _ _ hd
  | .al i c :: r, dn, fr, p, nx, I, hk => by
    have hmem : DStep.al i c ∈ ds := I.mem' (List.mem_cons_self ..)
    have ok := D.ok hmem
    have hone := D.one dn _ r I.split
    simp only [oneOk, Bool.and_eq_true] at hone
    have hnoti : ∀ x ∈ p, x.1 ≠ i := fun x hx e => by
      obtain ⟨c', hc'⟩ := (I.pnd x hx).2.2.2
      have := List.all_eq_true.1 hone.1.2 _ hc'
      simp [DStep.ix, e] at this
    have hl : lb i = false := I.unl _ (List.mem_cons_self ..)
    simp only [dregK] at hk
    rcases gdK_cases hk with ⟨hy, rr⟩ | ⟨hn, rr⟩
    · obtain ⟨⟨mk, ob⟩, hx, hlin⟩ := nop_lin (G := G) (fr := fr) (c := c.c) (fun x => putK fr c.dst (x.1 nx) fun fr => dregK P G (CallOb P G) r fr (p ++ [(i, nx, x.2)]) S (nx + 1) Kf) hy
      obtain ⟨fr', hk', h1, h2⟩ := putK_facts hx
      refine norm D r (dn ++ [.al i c]) fr' _ (nx + 1) (I.pass D rfl (x := mk nx) h1 h2 (Nat.le_succ _) ?_ (fun x hx => List.mem_append_left _ hx) ?_ ?_ ?_ (fun i c e => by cases e) ?_ (fun i c src e => by cases e)) hk'
      · intro x hx
        rcases List.mem_append.1 hx with h | h
        · exact .inl h
        · rw [List.mem_singleton.1 h]; exact .inr ⟨rfl, rfl, Nat.lt_succ_self _, c, rfl⟩
      · unfold exl
        rw [List.filter_append]
        simp [hl]
      · have old : ∀ x ∈ p, ¬(x.1 = i ∨ x.2.1 = nx) := fun x hx h => by
          rcases h with h | h
          · exact hnoti x hx h
          · have := (I.pnd x hx).1; omega
        intro x hx y hy h
        rcases List.mem_append.1 hx with hx | hx <;> rcases List.mem_append.1 hy with hy | hy
        · exact I.nm x hx y hy h
        · rw [List.mem_singleton.1 hy] at h; exact absurd h (old x hx)
        · rw [List.mem_singleton.1 hx] at h; exact absurd (h.imp Eq.symm Eq.symm) (old y hy)
        · rw [List.mem_singleton.1 hx, List.mem_singleton.1 hy]
      · rw [List.nodup_append]
        refine ⟨I.nd, by simp, fun x hx y hy e => ?_⟩
        rw [List.mem_singleton.1 hy] at e
        exact hnoti x hx (by rw [e])
      · intro i' c' e hag
        cases e
        unfold ReNew
        rw [gdK_congr (fun q hq => hag q (List.mem_append_right _ hq)), nop_congr (fun q hq => hag q (List.mem_append_left _ hq))]
        exact rr _ _ (hlin (fun x => ∃ n, (i, n, x.2) ∈ p ++ [(i, nx, ob)] ∧ ∀ d, c.dst = some d → fr'.get d = some (x.1 n)) ⟨nx, by simp, fun d e => (h2 d e).1⟩)
    · obtain ⟨fr', hk', h1, h2⟩ := putK_facts hn
      refine norm D r (dn ++ [.al i c]) fr' p nx (I.pass D rfl (x := undefS) h1 h2 (Nat.le_refl _) (fun x hx => .inl hx) (fun x hx => hx) rfl I.nm I.nd (fun i c e => by cases e) ?_ (fun i c src e => by cases e)) hk'
      intro i' c' e hag
      cases e
      unfold ReNew
      rw [gdK_congr (fun q hq => hag q (List.mem_append_right _ hq)), nop_congr (fun q hq => hag q (List.mem_append_left _ hq))]
      exact rr _ _ ⟨hnoti, fun d e => (h2 d e).1⟩
def lbOf (listed : Array Bool) : Nat → Bool := fun i => listed.getD i false
theorem lbOf_set {listed : Array Bool} {i : Nat} (h : i < listed.size) : lbOf (listed.setIfInBounds i true) = upd (lbOf listed) i := by
  funext j
  unfold lbOf upd
  by_cases e : i = j
  · subst e; simp [h]
  · rw [getD_set_ne false e]
    simp [beq_false (Ne.symm e)]
def cnt (listed : Array Bool) : Nat := (listed.toList.filter fun b => !b).length
theorem filter_set : ∀ (l : List Bool) (i : Nat), l[i]? = some false → ((l.set i true).filter fun b => !b).length + 1 = (l.filter fun b => !b).length
  | [], i, h => by simp at h
  | b :: l, 0, h => by simp at h; subst h; simp
  | b :: l, i + 1, h => by
    have ih := filter_set l i (by simpa using h)
    cases b
    · simp only [List.set_cons_succ, List.filter_cons, Bool.not_false, if_true, List.length_cons]; omega
    · simp only [List.set_cons_succ, List.filter_cons, Bool.not_true, Bool.false_eq_true, if_false]; exact ih
theorem cnt_set {listed : Array Bool} {i : Nat} (h : i < listed.size) (hl : lbOf listed i = false) : cnt (listed.setIfInBounds i true) + 1 = cnt listed := by
  unfold cnt
  rw [Array.toList_setIfInBounds]
  refine filter_set _ i ?_
  unfold lbOf at hl
  have : listed[i]? = some listed[i] := Array.getElem?_eq_getElem h
  rw [Array.getElem?_toList, this]
  simpa [h] using hl
theorem first_un (lb : Nat → Bool) : ∀ (l : List DStep), (∃ s ∈ l, lb s.ix = false) → ∃ pre s post, l = pre ++ s :: post ∧ (∀ t ∈ pre, lb t.ix = true) ∧ lb s.ix = false
  | [], h => by obtain ⟨s, hs, _⟩ := h; cases hs
  | x :: l, ⟨s, hs, hl⟩ => by
    cases hx : lb x.ix
    · exact ⟨[], x, l, rfl, (fun t ht => by cases ht), hx⟩
    · have : ∃ s ∈ l, lb s.ix = false := by
        rcases List.mem_cons.1 hs with h | h
        · subst h; rw [hx] at hl; cases hl
        · exact ⟨s, h, hl⟩
      obtain ⟨pre, s', post, e, h1, h2⟩ := first_un lb l this
      refine ⟨x :: pre, s', post, by rw [e]; rfl, fun t ht => ?_, h2⟩
      rcases List.mem_cons.1 ht with h | h
      · rw [h]; exact hx
      · exact h1 t h
theorem ready_lb {listed : Array Bool} {i : Nat} (h : i ∈ Region.ready .any ops listed) : i < listed.size ∧ lbOf listed i = false ∧ ∃ o, ops[i]? = some o ∧ ∀ k ∈ preds o, lbOf listed k = true := by
  obtain ⟨h0, o, ho, hall⟩ := mem_ready.1 h
  have hlt : i < listed.size := by
    rcases Nat.lt_or_ge i listed.size with h | h
    · exact h
    · simp [Array.getElem?_eq_none h] at h0
  refine ⟨hlt, ?_, o, ho, fun k hk => ?_⟩
  · unfold lbOf
    simp [hlt] at h0 ⊢
    exact h0
  · obtain ⟨e, he, hb, rfl⟩ := mem_preds.1 hk
    exact hall e he hb
theorem ready_of {listed : Array Bool} {i : Nat} {o : Oper} (hlt : i < listed.size) (hl : lbOf listed i = false) (ho : ops[i]? = some o) (hp : ∀ k ∈ preds o, lbOf listed k = true) : i ∈ Region.ready .any ops listed := by
  refine mem_ready.2 ⟨?_, o, ho, fun e he hb => hp e.on (mem_preds.2 ⟨e, he, hb, rfl⟩)⟩
  unfold lbOf at hl
  simp [hlt] at hl ⊢
  exact hl
theorem cnt_zero {listed : Array Bool} (h : cnt listed = 0) {i : Nat} (hi : i < listed.size) : lbOf listed i = true := by
  unfold cnt at h
  have h := List.length_eq_zero_iff.1 h
  have := List.filter_eq_nil_iff.1 h listed[i] (by simp)
  unfold lbOf
  simpa [hi] using this
theorem dend (D : DStat P ops ds A) {Kf : FT → SH → Nat → Prop} {Q : Exit → Act → World → Prop} (hfin : ∀ fr S nx a w, Kf fr S nx → St G nx0 ρ0 hI0 hF w S nx fr a → Q .normal a w)
    {listed : Array Bool} (hsz : listed.size = ops.size) (I : DInv P ops ds A G nx0 ρ0 hI0 hF (lbOf listed) dn rs fr p S nx a w ρ hI) (hk : dregK P G (CallOb P G) rs fr p S nx Kf) (hr : Region.ready .any ops listed = []) : Q .normal a w := by
  have hall : ∀ s ∈ ds, lbOf listed s.ix = true := by
    intro s hs
    cases hl : lbOf listed s.ix
    · exfalso
      obtain ⟨pre, t, post, e, h1, h2⟩ := first_un _ ds ⟨s, hs, hl⟩
      have ht : t ∈ ds := by rw [e]; simp
      obtain ⟨o, ho, _⟩ := (D.ok ht).ex
      have hlt : t.ix < ops.size := (Array.getElem?_eq_some_iff.1 ho).1
      have := ready_of (by omega) h2 ho fun k hk => by
        obtain ⟨u, hu, rfl⟩ := D.preds e ho k hk
        exact h1 u hu
      rw [hr] at this; cases this
    · rfl
  cases rs with
  | nil =>
    have hp : exl (lbOf listed) p = p.sh := by
      unfold exl
      rw [List.filter_eq_self.2]
      intro x hx
      obtain ⟨c, hc⟩ := (I.pnd x hx).2.2.2
      exact hall _ (I.mem hc)
    have hpn : ∀ q, ¬ Pn (lbOf listed) dn q := by
      rintro q ⟨s, hs, hl, _⟩
      rw [hall s (I.mem hs)] at hl; cases hl
    refine hfin fr (p.sh ++ S) nx a w hk ⟨⟨ρ, hI, ⟨by rw [← hp]; exact I.sat, I.gok, ?_⟩, I.ext, I.nle, I.sub⟩, I.dfr⟩
    intro q x hq
    obtain ⟨v, hv, hd⟩ := I.frm q x hq
    exact ⟨v, hv, hd (hpn q)⟩
  | cons s r =>
    have := I.unl s (List.mem_cons_self ..)
    rw [hall s (I.mem' (List.mem_cons_self ..))] at this
    cases this
theorem dgo (D : DStat P ops ds A) {Kf : FT → SH → Nat → Prop} {Q : Exit → Act → World → Prop} (hfin : ∀ fr S nx a w, Kf fr S nx → St G nx0 ρ0 hI0 hF w S nx fr a → Q .normal a w) :
    ∀ (fuel : Nat) (listed : Array Bool) (dn rs : List DStep) (fr : FT) (p : Pend) (S : SH) (nx : Nat) (a : Act) (w : World) (ρ : Env) (hI : Hp), listed.size = ops.size → cnt listed ≤ fuel →
      DInv P ops ds A G nx0 ρ0 hI0 hF (lbOf listed) dn rs fr p S nx a w ρ hI → dregK P G (CallOb P G) rs fr p S nx Kf → headEf rs → wpAny P .any ops Q fuel listed a w := by
  intro fuel
  induction fuel with
  | zero =>
    intro listed dn rs fr p S nx a w ρ hI hsz hcnt I hk hh
    have hr : Region.ready .any ops listed = [] := by
      rw [List.eq_nil_iff_forall_not_mem]
      intro i hi
      obtain ⟨hlt, hl, _⟩ := ready_lb hi
      rw [cnt_zero (by omega) hlt] at hl; cases hl
    exact ⟨hr, dend D hfin hsz I hk hr⟩
  | succ fuel ih =>
    intro listed dn rs fr p S nx a w ρ hI hsz hcnt I hk hh
    refine ⟨fun hr => dend D hfin hsz I hk hr, fun i hi => ?_⟩
    obtain ⟨hlt, hl, o, ho, hp⟩ := ready_lb hi
    have hsz' : (listed.setIfInBounds i true).size = ops.size := by simp [hsz]
    have hcnt' : cnt (listed.setIfInBounds i true) ≤ fuel := by have := cnt_set hlt hl; omega
    have hset := lbOf_set hlt
    obtain ⟨s, hs, rfl⟩ := D.cov i (by omega)
    rw [I.split] at hs
    rcases List.mem_append.1 hs with hs | hs
    · cases s with
      | q j c => exact ex_q D I hs hl ho hp fun a' w' ρ' hI' I' => ih _ dn rs fr p S nx a' w' ρ' hI' hsz' hcnt' (by rw [hset]; exact I') hk hh
      | al j c => exact ex_al D I hs hl ho hp fun a' w' ρ' hI' I' => ih _ dn rs fr p S nx a' w' ρ' hI' hsz' hcnt' (by rw [hset]; exact I') hk hh
      | ms j c src => exact ex_ms D I hs hl ho hp fun a' w' ρ' hI' I' => ih _ dn rs fr p S nx a' w' ρ' hI' hsz' hcnt' (by rw [hset]; exact I') hk hh
      | ef j c due re =>
        have := I.efs _ hs rfl
        rw [hl] at this; cases this
    · cases rs with
      | nil => cases hs
      | cons t r =>
        cases t with
        | q | al | ms => exact nomatch hh
        | ef j c due re =>
          rcases List.mem_cons.1 hs with e | hs
          · subst e
            refine ex_ef D I ho hp hk fun fr' p' S' nx' a' w' ρ' hI' I' hk' => ?_
            obtain ⟨dn2, rs2, fr2, p2, nx2, I2, hk2, hh2⟩ := norm D r _ fr' p' nx' I' hk'
            exact ih _ dn2 rs2 fr2 p2 S' nx2 a' w' ρ' hI' hsz' hcnt' (by rw [hset]; exact I2) hk2 hh2
          · exfalso
            have hone := D.one dn _ r I.split
            simp only [oneOk, kindOk, Bool.and_eq_true] at hone
            have hA := List.all_eq_true.1 hone.2.1.1.1 s hs
            have : lbOf listed j = true := D.anc _ I.cls _ o ho hp j hA
            have h2 := I.unl _ (List.mem_cons_self ..)
            rw [show (DStep.ef j c due re).ix = j from rfl, this] at h2
            cases h2
end
theorem chkD_ok : DOk P (chkD P) := by
  intro G nx0 ρ0 hI0 hF id ops ds K Q fr S nx a w hD hQ hst hk
  obtain ⟨hm, A, D⟩ := chkD_stat hD
  obtain ⟨⟨ρ, hI, C, e1, e2, e3⟩, hd⟩ := hst
  refine wp_region_any hm ?_
  have h0 : ∀ i, lbOf (Array.replicate ops.size false) i = false := by
    intro i
    unfold lbOf
    by_cases h : i < ops.size <;> simp [h]
  have I : DInv P ops ds A G nx0 ρ0 hI0 hF (lbOf (Array.replicate ops.size false)) [] ds fr [] S nx a { w with drawn := w.drawn + 1 } ρ hI :=
    { split := rfl, efs := fun s hs => (by cases hs), unl := fun s hs => h0 _, cls := fun i o ho hi => absurd (show lbOf _ i = true from hi) (by rw [h0]; simp),
      sat := ⟨C.sat.1, C.sat.2.1, ⟨C.sat.2.2.os, C.sat.2.2.tape, C.sat.2.2.output, C.sat.2.2.size⟩⟩, gok := C.g, ext := e1, nle := e2, sub := e3, dfr := hd,
      frm := fun q x hq => (let ⟨v, hv, hdn⟩ := C.f q x hq; ⟨v, hv, fun _ => hdn⟩), redo := fun i c hi => (by cases hi), als := fun i c hi => (by cases hi), mss := fun i c src hi => (by cases hi), pnd := fun x hx => (by cases hx), nm := fun x hx => (by cases hx), nd := .nil }
  obtain ⟨dn2, rs2, fr2, p2, nx2, I2, hk2, hh2⟩ := norm D ds [] fr [] nx I hk
  exact dgo D hQ ops.size _ dn2 rs2 fr2 p2 S nx2 a _ ρ hI (by simp) (by unfold cnt; exact Nat.le_trans (List.length_filter_le ..) (by simp)) I2 hk2 hh2
end Sg
end Go.Proofs.YtfkboondffejaaaGreatDoor
set_option linter.unusedVariables false
set_option linter.unusedSimpArgs false
namespace Go.Proofs.YtfkboondffejaaaGreatDoor
namespace Sg
variable {P : Program}
def isUndef : SV → Bool
  | .tup [] => true
  | _ => false
def frOk (n : Nat) : FT → Nat → Nat → Bool
  | .nil, _, _ => true
  | .lf v, off, _ => isUndef v && Nat.blt off n
  | .nd l r, off, st => frOk n l off (2 * st) && frOk n r (off + st) (2 * st)
theorem frOk_sound {n : Nat} : ∀ {t : FT} {off st : Nat} {p : Pth} {x : SV}, frOk n t off st = true → t.get p = some x → x = undefS ∧ off + st * p.val < n
  | .nil, off, st, p, x, h, g => by cases p <;> simp [FT.get] at g
  | .lf v, off, st, p, x, h, g => by
    cases p <;> simp [FT.get] at g
    subst g
    simp only [frOk, Bool.and_eq_true] at h
    refine ⟨?_, by simpa [Pth.val] using of_blt h.2⟩
    have := h.1
    unfold isUndef at this
    split at this
    · rfl
    · cases this
  | .nd l r, off, st, p, x, h, g => by
    simp only [frOk, Bool.and_eq_true] at h
    cases p <;> simp only [FT.get, reduceCtorEq] at g
    · obtain ⟨a, b⟩ := frOk_sound h.1 g
      refine ⟨a, ?_⟩
      simp only [Pth.val]
      rw [Nat.mul_comm 2 st, Nat.mul_assoc] at b
      exact b
    · obtain ⟨a, b⟩ := frOk_sound h.2 g
      refine ⟨a, ?_⟩
      simp only [Pth.val]
      rw [Nat.mul_comm 2 st, Nat.mul_assoc] at b
      rw [Nat.mul_add, Nat.mul_one]
      omega
def chkPar : Nat → List Pth → Bool
  | _, [] => true
  | k, p :: ps => Nat.beq p.val k && chkPar (k + 1) ps
def chkRes (P : Program) : List ResultVar → List RV → Bool
  | [], [] => true
  | .tmp t :: rs, .t p :: ps => Nat.beq t p.val && chkRes P rs ps
  | .cell a t :: rs, .c1 p :: ps => Nat.beq a p.val && decide (isAggT P t = some false) && chkRes P rs ps
  | .cell a t :: rs, .cN n p :: ps => Nat.beq a p.val && decide (isAggT P t = some true) && decide (sizeT P t = some n) && Nat.blt 0 n && chkRes P rs ps
  | _, _ => false
def chkFunc (P : Program) (D : Array Oper → List DStep → Bool) (f : Nat) (F : CF) : Bool :=
  match P.funcs[f]? with
  | some fn => match fn.body with
    | some code => chkCode P D code F.code && frOk fn.ntmps F.fr0 0 1 && chkPar 0 F.par && chkRes P fn.results.toList F.res
    | none => false
  | none => false
section
variable {ρ : Env} {hI : Hp}
theorem argK_sound : ∀ {vs : List SV} {xs : List Value} {ps : List Pth} {k : Nat} {fr : FT} {tm : List Value} {K : FT → Prop}, STup ρ hI vs xs → chkPar k ps = true → FDen ρ hI fr tm.toArray → argK fr ps vs K → ∃ fr', K fr' ∧ FDen ρ hI fr' (splice1 tm k xs).toArray ∧ (xs = [] ∨ k + xs.length ≤ tm.length)
  | [], xs, [], k, fr, tm, K, hs, hc, hf, h => by
    cases hs
    exact ⟨fr, h, by simpa [splice1] using hf, .inl rfl⟩
  | [], xs, _ :: _, k, fr, tm, K, hs, hc, hf, h => h.elim
  | _ :: _, xs, [], k, fr, tm, K, hs, hc, hf, h => h.elim
  | v :: vs, _, p :: ps, k, fr, tm, K, .cons _ x _ xs hx hs, hc, hf, h => by
    simp only [chkPar, Bool.and_eq_true] at hc
    obtain rfl := Nat.eq_of_beq_eq_true hc.1
    obtain ⟨hp, hk⟩ := FT.setK_iff.1 (show FT.setK fr p v _ from h)
    have hf' := hf.set hp hx
    obtain ⟨y, hy⟩ := hp
    obtain ⟨u, hu, _⟩ := hf p y hy
    have hlt : p.val < tm.length := by simpa using (Array.getElem?_eq_some_iff.1 hu).1
    rw [show tm.toArray.setIfInBounds p.val x = (tm.set p.val x).toArray by simp] at hf'
    obtain ⟨fr', a, b, c⟩ := argK_sound hs hc.2 hf' hk
    have hle : p.val + (xs.length + 1) ≤ tm.length := by
      rcases c with rfl | c
      · simp; omega
      · simp at c; omega
    exact ⟨fr', a, by rw [← splice_step hle]; exact b, .inr (by simpa using hle)⟩
def rvS (tmps : Array Value) : ResultVar → Sem Value
  | .tmp t => pure (tmps.getD t undef)
  | .cell a t => do loadVar t (← asAddr (tmps.getD a undef))
theorem results_rv (fn : Func) (tmps : Array Value) : results fn tmps = (do let vs ← fn.results.mapM (rvS tmps); pure (if h : vs.size = 1 then vs[0] else .tuple vs)) := rfl
theorem resK_sound {hF : Fm} {w : World} {S : SH} {nx : Nat} (hs : Sat ρ hI hF w S nx) {fr : FT} {tmps : Array Value} (hf : FDen ρ hI fr tmps) : ∀ {ps : List RV} {rs : List ResultVar} {K : List SV → Prop}, chkRes P rs ps = true → resK S fr ps K → ∃ vs us, K vs ∧ STup ρ hI vs us ∧
    (rs.mapM (rvS tmps)).run P w = .ok us w
  | [], [], K, hc, h => ⟨[], [], h, .nil, by simp [List.mapM_nil, run_pure]⟩
  | [], _ :: _, K, hc, h => by simp [chkRes] at hc
  | _ :: _, [], K, hc, h => by simp [chkRes] at hc
  | .t p :: ps, .tmp t :: rs, K, hc, h => by
    simp only [chkRes, Bool.and_eq_true] at hc
    obtain rfl := Nat.eq_of_beq_eq_true hc.1
    obtain ⟨x, hx, hk⟩ := FT.getK_iff.1 (show FT.getK fr p _ from h)
    obtain ⟨u, hu, hd⟩ := hf p x hx
    obtain ⟨vs, us, a, b, c⟩ := resK_sound hs hf hc.2 hk
    refine ⟨x :: vs, u :: us, a, .cons _ _ _ _ hd b, ?_⟩
    rw [List.mapM_cons]
    simp only [rvS]
    rw [run_ok (run_pure _ w), run_ok c, run_pure]
    simp [hu]
  | .c1 p :: ps, .cell a t :: rs, K, hc, h => by
    simp only [chkRes, Bool.and_eq_true, decide_eq_true_eq] at hc
    obtain ⟨⟨h1, h2⟩, h3⟩ := hc
    obtain rfl := Nat.eq_of_beq_eq_true h1
    obtain ⟨x, hx, hk⟩ := FT.getK_iff.1 (show FT.getK fr p _ from h)
    obtain ⟨u, hu, hd⟩ := hf p x hx
    split at hk
    · rename_i n off
      obtain ⟨ob, hob, hk2⟩ := SH.getK_iff.1 hk
      split at hk2
      · rename_i cs
        obtain ⟨e, vals, T, fz, he, hds, hh, hnil, hcap, hfz⟩ := hs.cells hob
        obtain ⟨y, v, hk3, hv, hy, _⟩ := cellK_sound hds hk2
        cases hd with | ptr _ _ e' he' =>
        rw [he] at he'; cases he'
        obtain ⟨vs, us, a, b, c⟩ := resK_sound hs hf h3 hk3
        refine ⟨y :: vs, v :: us, a, .cons _ _ _ _ hy b, ?_⟩
        obtain ⟨d, hd1, hd2⟩ := isAggT_of h2
        have hl := run_load1 (P := P) hd1 hd2 (w := w) (b := e.b) (o := off) (v := v) (by rw [cell_of hh]; simpa using hv)
        rw [List.mapM_cons]
        simp only [rvS]
        have hu' : tmps.getD p.val undef = .pointer (some ⟨e.b, off, none⟩) := by simp [hu]
        rw [hu']
        rw [run_ok (w' := w) (a := v) (by simpa [asAddr, Instr.loadAt, Instr.sureAddr] using hl), run_ok c, run_pure]
      · exact hk2.elim
    · exact hk.elim
  | .cN m p :: ps, .cell a t :: rs, K, hc, h => by
    simp only [chkRes, Bool.and_eq_true, decide_eq_true_eq] at hc
    obtain ⟨⟨⟨⟨h1, h2⟩, hsz⟩, hpos⟩, h3⟩ := hc
    have hpos := of_blt hpos
    obtain rfl := Nat.eq_of_beq_eq_true h1
    obtain ⟨x, hx, hk⟩ := FT.getK_iff.1 (show FT.getK fr p _ from h)
    obtain ⟨u, hu, hd⟩ := hf p x hx
    split at hk
    · rename_i n off
      obtain ⟨ob, hob, hk2⟩ := SH.getK_iff.1 hk
      split at hk2
      · rename_i cs
        obtain ⟨e, vals, T, fz, he, hds, hh, hnil, hcap, hfz⟩ := hs.cells hob
        obtain ⟨r, hk3, hr, hlen⟩ := takeK_sound hds hk2
        cases hd with | ptr _ _ e' he' =>
        rw [he] at he'; cases he'
        obtain ⟨vs, us, a, b, c⟩ := resK_sound hs hf h3 hk3
        refine ⟨.agg r :: vs, .agg ((vals.drop off).take m).toArray :: us, a, .cons _ _ _ _ (.agg _ _ hr) b, ?_⟩
        obtain ⟨d, hd1, hd2⟩ := isAggT_of h2
        obtain ⟨i, hi, rfl⟩ := sizeT_of hsz
        have hle := hlen hpos
        have hl := run_loadN (P := P) hd1 hd2 hi (w := w) (b := e.b) (o := off) (vs := (vals.drop off).take i.size) (by simp; omega) (fun j v hj => by
          have hlt : j < i.size := by have := (List.getElem?_eq_some_iff.1 hj).1; simp at this; omega
          rw [List.getElem?_take_of_lt hlt, List.getElem?_drop] at hj
          rw [cell_of hh]; simpa using hj)
        rw [List.mapM_cons]
        simp only [rvS]
        have hu' : tmps.getD p.val undef = .pointer (some ⟨e.b, off, none⟩) := by simp [hu]
        rw [hu']
        rw [run_ok (w' := w) (a := .agg ((vals.drop off).take i.size).toArray) (by simpa [asAddr, Instr.loadAt, Instr.sureAddr] using hl), run_ok c, run_pure]
      · exact hk2.elim
    · exact hk.elim
  | .t _ :: _, .cell _ _ :: _, K, hc, h => by simp [chkRes] at hc
  | .c1 _ :: _, .tmp _ :: _, K, hc, h => by simp [chkRes] at hc
  | .cN _ _ :: _, .tmp _ :: _, K, hc, h => by simp [chkRes] at hc
theorem den0 {fr : FT} {n : Nat} (h : frOk n fr 0 1 = true) : FDen ρ hI fr (List.replicate n undef).toArray := by
  intro p x hx
  obtain ⟨rfl, hlt⟩ := frOk_sound h hx
  have : p.val < n := by omega
  exact ⟨undef, by simp [this], undef_den⟩
theorem frame_eq {n : Nat} {us : List Value} (h : us = [] ∨ 0 + us.length ≤ (List.replicate n undef).length) : us.toArray ++ Array.replicate (n - us.toArray.size) undef = (splice1 (List.replicate n undef) 0 us).toArray := by
  apply Array.ext'
  simp [splice1]
end
def retV : List Value → Value
  | [v] => v
  | us => .tuple us.toArray
theorem run_results {fn : Func} {tmps : Array Value} {us : List Value} {w : World}
    (h : (fn.results.toList.mapM (rvS tmps)).run P w = .ok us w) :
    (results fn tmps).run P w = .ok (retV us) w := by
  rw [results_rv, Array.mapM_eq_mapM_toList, map_eq_pure_bind, bind_assoc, run_ok h, run_ok (run_pure _ w), run_pure]
  congr 1
  match us with
  | [] => rfl
  | [v] => rfl
  | _ :: _ :: _ => rfl
theorem body_sound {D : Array Oper → List DStep → Bool} (hD : DOk P D) {G : Gl} {f : Nat} {F : CF} (hc : chkFunc P D f F = true) {vs : List SV} {S : SH} {nx : Nat} {K : SV → SH → Nat → Prop} (h : bodyK P G (CallOb P G) F vs S nx K) : CallOb P G f vs S nx K := by
  intro ρ hI hF w us hsat hg hs
  unfold chkFunc at hc
  split at hc
  · rename_i fn hfn
    split at hc
    · rename_i code hbody
      simp only [Bool.and_eq_true] at hc
      obtain ⟨⟨⟨h1, h2⟩, h3⟩, h4⟩ := hc
      obtain ⟨fr, hk, hf, hlen⟩ := argK_sound hs h3 (den0 (hI := hI) (ρ := ρ) h2) h
      refine calls_of_wp hfn hbody ?_
      rw [frame_eq hlen]
      have hst : St G nx ρ hI hF w S nx fr { tmps := (splice1 (List.replicate fn.ntmps undef) 0 us).toArray, defers := [] } :=
        ⟨⟨ρ, hI, ⟨hsat, hg, hf⟩, Env.ext.refl _ _, Nat.le_refl _, Hp.sub.refl _⟩, rfl⟩
      refine wp_mono (swp_sound hD F.code code _ fr S nx _ w h1 hst hk) ?_
      rintro e a w' ⟨x, fr', S', nx', rfl, hq, ⟨⟨ρ', hI', C', e1, e2, e3⟩, hd⟩⟩
      have fin : retK S' fr' F.res (fun v => K v S' nx') → a.defers = [] ∧ ∃ v, (results fn a.tmps).run P w' = .ok v w' ∧
          ∃ v' r S' nx' ρ' hI', Ending.returned v = .returned v' ∧ K r S' nx' ∧ SDen ρ' hI' r v' ∧ Sat ρ' hI' hF w' S' nx' ∧ Env.ext nx ρ ρ' ∧ nx ≤ nx' ∧ hI.sub hI' := by
        intro hr
        obtain ⟨rs, us, a1, a2, a3⟩ := resK_sound C'.sat C'.f h4 hr
        have hrr := run_results (P := P) (fn := fn) (tmps := a.tmps) (us := us) (w := w') a3
        refine ⟨hd, _, hrr, ?_⟩
        split at a1
        · rename_i v
          cases a2 with | cons _ u _ _ hx hs =>
          cases hs
          exact ⟨_, v, S', nx', ρ', hI', rfl, a1, hx, C'.sat, e1, e2, e3⟩
        · rename_i hne
          have : retV us = .tuple us.toArray := by
            unfold retV
            split
            · rename_i u
              cases a2 with | cons x _ _ _ hx hs =>
              cases hs
              exact absurd rfl (hne x)
            · rfl
          rw [this]
          exact ⟨_, _, S', nx', ρ', hI', rfl, a1, .tup _ _ a2, C'.sat, e1, e2, e3⟩
      cases x with
      | norm => exact fin hq
      | exit id => exact hq.elim
      | ret => exact fin hq
    · cases hc
  · cases hc
end Sg
end Go.Proofs.YtfkboondffejaaaGreatDoor
