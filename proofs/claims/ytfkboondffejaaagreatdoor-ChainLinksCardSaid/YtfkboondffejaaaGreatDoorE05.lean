/- The kernel machine, part Ke: all operations that leave memory alone. -/
import Derived.Test.YtfkboondffejaaaGreatDoorE04
import Derived.Test.YtfkboondffejaaaGreatDoorE03
set_option linter.all false
set_option linter.unusedVariables false
set_option linter.unusedSimpArgs false
set_option linter.deprecated false
set_option linter.unusedVariables false
set_option linter.unusedSimpArgs false
set_option linter.constructorNameAsVariable false
namespace Go.Proofs.YtfkboondffejaaaGreatDoor
namespace Sg
section
variable {G : KG} {G' : Gl} {fr : KT} {fr' : FT} {S : KH} {S' : SH} {nx : Nat}
theorem knat_some {v : KV} {v' : SV} {K : Nat → R} {t : KSt} (hv : VR v v') (h : knat v K = some t) : ∃ n : Nat, K n = some t ∧ ((∃ k, v' = .iv (.int k (n : Int))) ∨ ∃ b : UInt8, v' = .iv (.byte b) ∧ b.toNat = n) := by
  cases hv with
  | iv _ _ hv =>
    cases hv with
    | int k n =>
      cases n with
      | ofNat n => exact ⟨n, h, .inl ⟨k, rfl⟩⟩
      | negSucc n => cases h
    | byte b n hb => exact ⟨n, h, .inr ⟨b, rfl, hb⟩⟩
    | bool | str | nilptr | nilsl | nilmap | nilfn | nilif | ip | sbs | sis => cases h
  | ptr | ixp | sl | slx | map | agg | tup | fn => cases h
theorem kidx_sim (hG : GR G G') (hF : FR fr fr') {x : Opd} : Sim (fun K => kev G fr x fun v => knat v K) (evoK G' fr' (some x)) (fun n j => j = some (n : Int)) := by
  intro K t h
  obtain ⟨v, v', h1, h2, h3⟩ := kev_sim hG hF _ t h
  obtain ⟨n, h4, h5⟩ := knat_some h2 h1
  refine ⟨n, _, h4, rfl, fun K' hk => ?_⟩
  show evK G' fr' x _
  refine h3 _ ?_
  rcases h5 with ⟨k, rfl⟩ | ⟨b, rfl, rfl⟩ <;> exact hk
theorem koNat_sim (hG : GR G G') (hF : FR fr fr') {x : Option Opd} {d : Nat} : Sim (koNat G fr x d) (evoK G' fr' x) (fun n j => (j.getD d = (n : Int))) := by
  cases x with
  | none => exact fun K t h => ⟨d, none, h, rfl, fun _ h => h⟩
  | some x =>
    intro K t h
    obtain ⟨n, j, h1, h2, h3⟩ := kidx_sim hG hF K t h
    exact ⟨n, j, h1, by rw [h2]; rfl, h3⟩
theorem kslsl_sim {sz lo : Nat} {hi : Option Nat} {v : KV} {v' : SV} {l h : Option Int} (hv : VR v v') (hl : l.getD 0 = (lo : Int)) (hh : h = hi.map Int.ofNat) : Sim (kslsl sz v lo hi) (fun K => match v' with
    | .iv .nilsl => vc (l.getD 0 = 0 ∧ h.getD 0 = 0) (K (.iv .nilsl))
    | .iv (.ib b) => vc (sz = 1 ∧ 0 ≤ l.getD 0 ∧ l.getD 0 ≤ h.getD b.length ∧ h.getD b.length ≤ b.length) (K (.iv (.ib (sub b (l.getD 0).toNat ((h.getD b.length).toNat - (l.getD 0).toNat)))))
    | .iv (.isl sz' len E) => vc (sz = sz' ∧ 0 ≤ l.getD 0 ∧ l.getD 0 ≤ h.getD len ∧ h.getD len ≤ len) (K (.iv (.isl sz ((h.getD len).toNat - (l.getD 0).toNat) (fun i => E ((l.getD 0).toNat + i)))))
    | .sl sz' n off len => vc (sz = sz' ∧ 0 ≤ l.getD 0 ∧ l.getD 0 ≤ h.getD len ∧ h.getD len ≤ len) (K (.sl sz n (off + (l.getD 0).toNat) ((h.getD len).toNat - (l.getD 0).toNat)))
    | .slx sz' n off len cap => vc (sz = sz' ∧ 0 ≤ l.getD 0 ∧ l.getD 0 ≤ h.getD len ∧ h.getD len ≤ len ∧ l.getD 0 < cap) (K (.slx sz n (off + (l.getD 0).toNat * sz) ((h.getD len).toNat - (l.getD 0).toNat) (cap - (l.getD 0).toNat)))
    | _ => False) VR := by
  have hget : ∀ d : Nat, h.getD (d : Int) = ((hi.getD d : Nat) : Int) := by
    intro d; rw [hh]; cases hi <;> rfl
  cases hv with
  | iv _ _ hv =>
    cases hv with
    | nilsl =>
      refine Sim.gd fun e => Sim.vc ?_ (Sim.pure (.iv _ _ .nilsl))
      obtain ⟨e1, e2⟩ := and2 e
      have e1 := ofb e1
      have e2 := ofb e2
      have e3 : h.getD 0 = ((hi.getD 0 : Nat) : Int) := hget 0
      exact ⟨by rw [hl, e1]; rfl, by rw [e3, e2]; rfl⟩
    | int | byte | bool | str | nilptr | nilmap | nilfn | nilif | ip | sbs | sis => exact Sim.none
  | sl sz' n off len =>
    intro K t hk
    obtain ⟨e, hk⟩ := gd_some (show gd (Nat.beq sz sz' && Nat.ble lo (hi.getD len) && Nat.ble (hi.getD len) len) (forR (Nat.add off lo) fun off => forR (Nat.sub (hi.getD len) lo) fun len => K (.sl sz n off len)) = some t from hk)
    obtain ⟨e1, e2, e3⟩ := and3 e
    have e2 := of_ble e2
    have e3 := of_ble e3
    simp only [forR_eq] at hk
    refine ⟨_, _, hk, .sl _ _ _ _, fun K' hk' => vc_iff.2 ⟨⟨ofb e1, by rw [hl]; omega, by rw [hl, hget]; omega, by rw [hget]; omega⟩, ?_⟩⟩
    rw [hl, hget]
    exact hk'
  | slx sz' n off len cap =>
    intro K t hk
    obtain ⟨e, hk⟩ := gd_some (show gd (Nat.beq sz sz' && Nat.ble lo (hi.getD len) && Nat.ble (hi.getD len) len && Nat.blt lo cap) (forR (Nat.add off (Nat.mul lo sz)) fun off => forR (Nat.sub (hi.getD len) lo) fun len => forR (Nat.sub cap lo) fun cap => K (.slx sz n off len cap)) = some t from hk)
    obtain ⟨e0, e4⟩ := and2 e
    obtain ⟨e1, e2, e3⟩ := and3 e0
    have e2 := of_ble e2
    have e3 := of_ble e3
    have e4 := of_blt e4
    simp only [forR_eq] at hk
    refine ⟨_, _, hk, .slx _ _ _ _ _, fun K' hk' => vc_iff.2 ⟨⟨ofb e1, by rw [hl]; omega, by rw [hl, hget]; omega, by rw [hget]; omega, by rw [hl]; omega⟩, ?_⟩⟩
    rw [hl, hget]
    exact hk'
  | ptr | ixp | map | agg | tup | fn => exact Sim.none
theorem allLK_some {k : IntKind} {t : KSt} : ∀ {n : Nat} {ls : List LK} {K : List LK → R}, allLK k n ls K = some t → ls.take n = List.replicate n (.i k) ∧ K (ls.drop n) = some t
  | 0, ls, K, h => ⟨by simp, by cases ls <;> exact h⟩
  | n + 1, [], K, h => nomatch h
  | n + 1, .b :: ls, K, h => nomatch h
  | n + 1, .s :: ls, K, h => nomatch h
  | n + 1, .i k' :: ls, K, h => by
    obtain ⟨e, g⟩ := gd_some (show gd (eqIK k k') (allLK k n ls K) = some t from h)
    have e := eqIK_eq e
    obtain ⟨h1, h2⟩ := allLK_some g
    exact ⟨by rw [List.take_succ_cons, h1, ← e]; rfl, h2⟩
theorem eqIs_iff : ∀ {l m : List Int}, eqIs l m = decide (l = m)
  | [], [] => rfl
  | [], _ :: _ => rfl
  | _ :: _, [] => rfl
  | x :: l, y :: m => by
    rw [eqIs, eqZ_iff, eqIs_iff (l := l) (m := m), Bool.eq_iff_iff, Bool.and_eq_true, decide_eq_true_iff, decide_eq_true_iff, decide_eq_true_iff, List.cons.injEq]
theorem keqa_sim : ∀ {xs : List KV} {xs' : List SV} {ys : List KV} {ys' : List SV} {ls : List LK}, VRs xs xs' → VRs ys ys' → Sim (keqa ls xs ys) (eqaK ls xs' ys') (· = ·) := by
  intro xs
  induction xs with
  | nil =>
    intro xs' ys ys' ls hx hy K t h
    cases hx
    cases hy with
    | nil => cases ls with
      | nil => exact ⟨true, true, h, rfl, fun _ h => h⟩
      | cons l ls => cases l <;> cases h
    | cons => cases ls <;> first | (cases h; done) | (rename_i l ls; cases l <;> cases h)
  | cons x xs ih =>
    intro xs' ys ys' ls hx hy
    cases hx with
    | cons _ x' _ xs' h1 hs1 =>
      cases hy with
      | nil => intro K t h; cases x <;> cases ls <;> first | (cases h; done) | (rename_i l ls; cases l <;> cases h)
      | cons y y' ys ys' h2 hs2 =>
        have none : ∀ {T : (Bool → Prop) → Prop}, (∀ K : Bool → R, keqa ls (x :: xs) (y :: ys) K = Option.none) → Sim (keqa ls (x :: xs) (y :: ys)) T (· = ·) := fun hn K t h => by rw [hn] at h; cases h
        cases h1 with
        | iv _ _ h1 =>
          cases h2 with
          | iv _ _ h2 =>
            cases h1 with
            | sbs l n m hn hm =>
              cases h2 with
              | sbs l2 n2 m2 hn2 hm2 =>
                subst hm hm2
                intro K t h
                have g0 : gd (Nat.beq n n2) (allLK .u8 n ls fun ls => keqa ls xs ys fun b => K (Nat.beq (packL l) (packL l2) && b)) = some t := by cases ls <;> exact h
                obtain ⟨e, g⟩ := gd_some g0
                obtain rfl := ofb e
                obtain ⟨h3, h4⟩ := allLK_some g
                obtain ⟨r, r', h5, rfl, h6⟩ := ih hs1 hs2 _ t h4
                have e2 : Nat.beq (packL l) (packL l2) = decide (l = l2) := by
                  rw [nbeq, Bool.eq_iff_iff, decide_eq_true_iff, decide_eq_true_iff]
                  exact ⟨fun e => packL_inj (by rw [hn, hn2]) e, fun e => by rw [e]⟩
                rw [e2] at h5
                refine ⟨_, _, h5, rfl, fun K' hk => ?_⟩
                have : vc (n = n ∧ ls.take n = List.replicate n (.i .u8)) (eqaK (ls.drop n) xs' ys' fun b => K' (decide (l = l2) && b)) := vc_iff.2 ⟨⟨rfl, h3⟩, h6 _ hk⟩
                cases ls <;> exact this
              | int | byte | bool | str | nilptr | nilsl | nilmap | nilfn | nilif | ip | sis => exact none fun K => by cases ls <;> first | rfl | (rename_i l ls; cases l <;> rfl)
            | sis k n l hn =>
              cases h2 with
              | sis k2 n2 l2 hn2 =>
                intro K t h
                have g0 : gd (Nat.beq n n2 && eqIK k k2) (allLK k n ls fun ls => keqa ls xs ys fun b => K (eqIs l l2 && b)) = some t := by cases ls <;> exact h
                obtain ⟨e, g⟩ := gd_some g0
                obtain ⟨e1, e3⟩ := and2 e
                obtain rfl := ofb e1
                obtain rfl := eqIK_eq e3
                obtain ⟨h3, h4⟩ := allLK_some g
                obtain ⟨r, r', h5, rfl, h6⟩ := ih hs1 hs2 _ t h4
                rw [eqIs_iff] at h5
                refine ⟨_, _, h5, rfl, fun K' hk => ?_⟩
                have : vc (n = n ∧ k = k ∧ ls.take n = List.replicate n (.i k)) (eqaK (ls.drop n) xs' ys' fun b => K' (decide (l = l2) && b)) := vc_iff.2 ⟨⟨rfl, rfl, h3⟩, h6 _ hk⟩
                cases ls <;> exact this
              | int | byte | bool | str | nilptr | nilsl | nilmap | nilfn | nilif | ip | sbs => exact none fun K => by cases ls <;> first | rfl | (rename_i l ls; cases l <;> rfl)
            | int k a =>
              cases h2 with
              | int k2 b =>
                cases ls with
                | nil => exact Sim.none
                | cons l ls =>
                  cases l with
                  | i k3 =>
                    refine Sim.gd fun e => ?_
                    obtain ⟨e1, e2⟩ := and2 e
                    refine Sim.vc ⟨(eqIK_eq e1).symm, (eqIK_eq e2).symm⟩ ((ih hs1 hs2).bind fun r r' hr => ?_)
                    subst hr
                    rw [eqZ_iff]
                    exact Sim.pure rfl
                  | b => exact Sim.none
                  | s => exact Sim.none
              | byte | bool | str | nilptr | nilsl | nilmap | nilfn | nilif | ip | sbs | sis => exact none fun K => by cases ls <;> first | rfl | (rename_i l ls; cases l <;> rfl)
            | byte a an ha =>
              cases h2 with
              | byte b bn hb =>
                subst ha hb
                cases ls with
                | nil => exact Sim.none
                | cons l ls =>
                  cases l with
                  | i k3 =>
                    refine Sim.gd fun e => ?_
                    refine Sim.vc (eqIK_eq e) ((ih hs1 hs2).bind fun r r' hr => ?_)
                    subst hr
                    rw [show Nat.beq a.toNat b.toNat = decide (a = b) by rw [nbeq, Bool.eq_iff_iff]; simp [UInt8.toNat_inj]]
                    exact Sim.pure rfl
                  | b => exact Sim.none
                  | s => exact Sim.none
              | int | bool | str | nilptr | nilsl | nilmap | nilfn | nilif | ip | sbs | sis => exact none fun K => by cases ls <;> first | rfl | (rename_i l ls; cases l <;> rfl)
            | bool a =>
              cases h2 with
              | bool b =>
                cases ls with
                | nil => exact Sim.none
                | cons l ls =>
                  cases l with
                  | b =>
                    refine (ih hs1 hs2).bind fun r r' hr => ?_
                    subst hr
                    rw [show (!xor a b) = decide (a = b) by cases a <;> cases b <;> rfl]
                    exact Sim.pure rfl
                  | i => exact Sim.none
                  | s => exact Sim.none
              | int | byte | str | nilptr | nilsl | nilmap | nilfn | nilif | ip | sbs | sis => exact none fun K => by cases ls <;> first | rfl | (rename_i l ls; cases l <;> rfl)
            | str l n m hn hm =>
              cases h2 with
              | str l2 n2 m2 hn2 hm2 =>
                subst hn hm hn2 hm2
                cases ls with
                | nil => exact Sim.none
                | cons lk ls =>
                  cases lk with
                  | s =>
                    refine (ih hs1 hs2).bind fun r r' hr => ?_
                    subst hr
                    rw [str_eq]
                    exact Sim.pure rfl
                  | i => exact Sim.none
                  | b => exact Sim.none
              | int | byte | bool | nilptr | nilsl | nilmap | nilfn | nilif | ip | sbs | sis => exact none fun K => by cases ls <;> first | rfl | (rename_i l ls; cases l <;> rfl)
            | nilptr | nilsl | nilmap | nilfn | nilif | ip => exact none fun K => by cases ls <;> first | rfl | (rename_i l ls; cases l <;> rfl)
          | ptr | ixp | sl | slx | map | agg | tup | fn => exact none fun K => by cases h1 <;> cases ls <;> first | rfl | (rename_i l ls; cases l <;> rfl)
        | ptr | ixp | sl | slx | map | agg | tup | fn => exact none fun K => by cases ls <;> first | rfl | (rename_i l ls; cases l <;> rfl)
theorem kisKey_iff {s : Bool} {x k : KV} {x' k' : IV} (h1 : KI x x') (h2 : KI k k') (h : kisKey s x k = true) : isKey s x' k' = true := by
  cases h1 <;> cases h2 <;> first | (cases h; done) | skip
  case int.int k1 a k2 b =>
    obtain ⟨e1, e2⟩ := and2 (show (!s && eqIK k1 k2) = true from h)
    obtain rfl := eqIK_eq e2
    simp only [isKey, e1, decide_true, Bool.and_self]
  case str.str => exact h
theorem keqKey_eq {s : Bool} {x k : KV} {x' k' : IV} (h1 : KI x x') (h2 : KI k k') (h : kisKey s x k = true) : keqKey x k = eqKey x' k' := by
  cases h1 <;> cases h2 <;> first | (cases h; done) | skip
  case int.int k1 a k2 b => exact eqZ_iff
  case str.str l n m hn hm l2 n2 m2 hn2 hm2 =>
    subst hn hm hn2 hm2
    exact str_eq
theorem kallKeys_iff {s : Bool} {x : KV} {x' : IV} (h1 : KI x x') : ∀ {es : List (KV × KV)} {es' : List (IV × SV)}, MR es es' → kallKeys s x es = true → allKeys s x' es' = true
  | _, _, .nil, _ => rfl
  | _, _, .cons k v k' v' es es' hk hv hs, h => by
    obtain ⟨e1, e2⟩ := and2 (show (kisKey s x k && kallKeys s x es) = true from h)
    show (isKey s x' k' && allKeys s x' es') = true
    rw [kisKey_iff h1 hk e1, kallKeys_iff h1 hs e2]; rfl
def OV (a : Option KV) (b : Option SV) : Prop := (a = none ∧ b = none) ∨ ∃ v v', a = some v ∧ b = some v' ∧ VR v v'
theorem kfind_sim {s : Bool} {x : KV} {x' : IV} (h1 : KI x x') : ∀ {es : List (KV × KV)} {es' : List (IV × SV)}, MR es es' → kallKeys s x es = true → Sim (kfind es x) (mfindK es' x') OV
  | _, _, .nil, _ => Sim.pure (.inl ⟨rfl, rfl⟩)
  | _, _, .cons k v k' v' es es' hk hv hs, h => by
    obtain ⟨e1, e2⟩ := and2 (show (kisKey s x k && kallKeys s x es) = true from h)
    have ih := kfind_sim h1 hs e2
    have e := keqKey_eq h1 hk e1
    intro K t hkk
    have hkk : (bif keqKey x k then K (some v) else kfind es x K) = some t := hkk
    rw [e] at hkk
    exact (Sim.cond (b := eqKey x' k') (fun _ => Sim.pure (.inr ⟨v, v', rfl, rfl, hv⟩)) fun _ => ih) K t hkk
theorem kmput_sim {s : Bool} {x v : KV} {x' : IV} {v' : SV} (h1 : KI x x') (h2 : VR v v') : ∀ {es : List (KV × KV)} {es' : List (IV × SV)}, MR es es' → kallKeys s x es = true → Sim (kmput es x v) (mputK es' x' v') MR
  | _, _, .nil, _ => Sim.pure (.cons _ _ _ _ _ _ h1 h2 .nil)
  | _, _, .cons k w k' w' es es' hk hw hs, h => by
    obtain ⟨e1, e2⟩ := and2 (show (kisKey s x k && kallKeys s x es) = true from h)
    have ih := kmput_sim h1 h2 hs e2
    have e := keqKey_eq h1 hk e1
    intro K t hkk
    have hkk : (bif keqKey x k then K ((k, v) :: es) else kmput es x v fun r => K ((k, w) :: r)) = some t := hkk
    rw [e] at hkk
    exact (Sim.cond (b := eqKey x' k') (fun _ => Sim.pure (.cons _ _ _ _ _ _ hk h2 hs)) fun _ => ih.bind fun r r' hr => Sim.pure (.cons _ _ _ _ _ _ hk hw hr)) K t hkk
theorem kmdel_sim {s : Bool} {x : KV} {x' : IV} (h1 : KI x x') : ∀ {es : List (KV × KV)} {es' : List (IV × SV)}, MR es es' → kallKeys s x es = true → Sim (kmdel es x) (mdelK es' x') MR
  | _, _, .nil, _ => Sim.pure .nil
  | _, _, .cons k w k' w' es es' hk hw hs, h => by
    obtain ⟨e1, e2⟩ := and2 (show (kisKey s x k && kallKeys s x es) = true from h)
    have ih := kmdel_sim h1 hs e2
    have e := keqKey_eq h1 hk e1
    intro K t hkk
    have hkk : (bif keqKey x k then K es else kmdel es x fun r => K ((k, w) :: r)) = some t := hkk
    rw [e] at hkk
    exact (Sim.cond (b := eqKey x' k') (fun _ => Sim.pure hs) fun _ => ih.bind fun r r' hr => Sim.pure (.cons _ _ _ _ _ _ hk hw hr)) K t hkk
theorem MR.len : ∀ {es : List (KV × KV)} {es' : List (IV × SV)}, MR es es' → es.length = es'.length
  | _, _, .nil => rfl
  | _, _, .cons _ _ _ _ _ _ _ _ hs => by simp [hs.len]
end
end Sg
end Go.Proofs.YtfkboondffejaaaGreatDoor
set_option linter.unusedVariables false
set_option linter.unusedSimpArgs false
set_option linter.constructorNameAsVariable false
namespace Go.Proofs.YtfkboondffejaaaGreatDoor
namespace Sg
section
variable {G : KG} {G' : Gl} {fr : KT} {fr' : FT} {S : KH} {S' : SH} {nx : Nat}
theorem VRs.get : ∀ {xs : List KV} {ys : List SV} {i : Nat} {v : KV}, VRs xs ys → xs[i]? = some v → ∃ y, ys[i]? = some y ∧ VR v y
  | _, _, i, v, .nil, h => by simp at h
  | _, _, 0, v, .cons x y xs ys h hs, e => by simp at e; subst e; exact ⟨y, rfl, h⟩
  | _, _, i + 1, v, .cons x y xs ys h hs, e => by simpa using hs.get (i := i) (by simpa using e)
theorem kdt_sim {cs : List KV} {cs' : List SV} {off n : Nat} (h : VRs cs cs') : Sim (fun K : KV → R => kdrop cs off fun cs => ktake cs n fun r => K (.agg r)) (fun K => takeK cs' off n fun r => K (.agg r)) VR := by
  have h1 : Sim (fun K : KV → R => kdrop cs off fun cs => ktake cs n fun r => K (.agg r)) (fun K => dropK cs' off fun cs => takeK cs 0 n fun r => K (.agg r)) VR :=
    (kdrop_sim h).bind fun r r' hr => (ktake_sim hr).bind fun q q' hq => Sim.pure (.agg _ _ hq)
  exact h1.to fun K hK => take_drop cs' off n _ hK
theorem not_bit {k : IntKind} {n : Nat} (h1 : sgn k = false) (h2 : n < modN k) : bitI .xor k (bif sgn k then -1 else maxI k) (Int.ofNat n) = Int.ofNat (Nat.xor (Nat.sub (modN k) 1) n) := by
  have e1 : (bif sgn k then -1 else maxI k) = ((modN k - 1 : Nat) : Int) := by rw [h1]; cases k <;> first | rfl | cases h1
  have e2 : limN k = modN k := by cases k <;> first | rfl | cases h1
  have hp := modN_pos k
  rw [← e2] at h2 e1 hp ⊢
  have h3 : limN k - 1 < limN k := by omega
  rw [e1]
  simp only [bitI, Int.ofNat_eq_natCast, BitVec.toNat_xor, bit_nat h2, bit_nat h3]
  exact wr_lim (bit_lt h3 h2).2.2
theorem kcint_sim {k : IntKind} {v : KV} {v' : SV} : VR v v' → Sim (fun K : KV → R => match v with
    | .byte b => (match k with | .u8 => K (.byte b) | .i8 => none | k => K (.int k (.ofNat b)))
    | .int _ n => (match k with
      | .u8 => (match n with | .ofNat m => forR (Nat.mod m 256) fun m => K (.byte m) | _ => none)
      | k => kint k n K)
    | _ => none) (fun K => match v' with
    | .iv (.byte b) => bif decide (k = .u8) then K (.iv (.byte b)) else vc (k ≠ .i8) (K (.iv (.int k b.toNat)))
    | .iv (.int _ n) => bif decide (k = .u8) then K (.iv (.byte (toByte n))) else K (.iv (.int k (wr k n)))
    | _ => False) VR := by
  intro h
  cases h with
  | iv _ _ h =>
    cases h with
    | byte b n hb =>
      subst hb
      have key : ∀ k : IntKind, k ≠ .u8 → k ≠ .i8 → Sim (fun K : KV → R => K (.int k (.ofNat b.toNat))) (fun K : SV → Prop => bif decide (k = .u8) then K (.iv (.byte b)) else vc (k ≠ .i8) (K (.iv (.int k b.toNat)))) VR := by
        intro k h1 h2 K t h
        refine ⟨_, SV.iv (.int k b.toNat), h, VR.iv _ _ (.int _ _), fun K' hk => ?_⟩
        simp only [decide_eq_false h1, cond_false]
        exact vc_iff.2 ⟨h2, hk⟩
      cases k
      case u8 => exact Sim.pure (.iv _ _ (.byte _ _ rfl))
      case i8 => exact Sim.none
      all_goals exact key _ (by decide) (by decide)
    | int k' n =>
      cases k
      case u8 =>
        cases n with
        | negSucc n => exact Sim.none
        | ofNat m =>
          refine Sim.forR (T := fun m (K : KV → R) => K (.byte m)) (Sim.pure (.iv _ _ (.byte _ _ ?_)))
          show (UInt8.ofNat ((m : Int) % 256).toNat).toNat = m % 256
          rw [show ((m : Int) % 256).toNat = m % 256 by omega]
          simp
      all_goals exact kint_wr
    | bool | str | nilptr | nilsl | nilmap | nilfn | nilif | ip | sbs | sis => exact Sim.none
  | ptr | ixp | sl | slx | map | agg | tup | fn => exact Sim.none
theorem kb2s_sim (hH : HR S S') {v : KV} {v' : SV} : VR v v' → Sim (fun K : KV → R => match v with
    | .nilsl => K (.str 0 0)
    | .sl sz n off len => KH.getR S n fun o => match o with
      | .bytes m l => gd (Nat.beq sz 1 && Nat.ble (Nat.add off len) m) (forR (psub l off len) fun l => K (.str len l))
      | _ => none
    | .slx sz n off len _ => KH.getR S n fun o => match o with
      | .cells cs => kdrop cs off fun r => match r with
        | .sbs m l :: _ => gd (Nat.beq sz 1 && Nat.ble len m) (forR (psub l 0 len) fun l => K (.str len l))
        | _ => none
      | _ => none
    | _ => none) (fun K => match v' with
    | .iv .nilsl => K (.iv (.str []))
    | .iv (.ib l) => K (.iv (.str l))
    | .sl sz n off len => SH.getK S' n fun o => match o with
      | .bytes l => vc (sz = 1 ∧ off + len ≤ l.length) (K (.iv (.str (sub l off len))))
      | _ => False
    | .slx sz n off len _ => SH.getK S' n fun o => match o with
      | .cells cs => dropK cs off fun r => match r with
        | .iv (.sbs m l) :: _ => vc (sz = 1 ∧ len ≤ m) (K (.iv (.str (sub l 0 len))))
        | _ => False
      | _ => False
    | _ => False) VR := by
  intro h
  cases h with
  | iv _ _ h =>
    cases h with
    | nilsl => exact Sim.pure (.iv _ _ (.str [] _ _ rfl rfl))
    | byte | int | bool | str | nilptr | nilmap | nilfn | nilif | ip | sbs | sis => exact Sim.none
  | sl sz n off len =>
    refine (kget_sim hH).bind fun o o' ho => ?_
    cases ho with
    | bytes l p q hn hm =>
      subst hn hm
      refine Sim.gd fun e => ?_
      obtain ⟨e1, e2⟩ := and2 e
      have e2 : off + len ≤ l.length := of_ble e2
      refine Sim.vc ⟨ofb e1, e2⟩ ?_
      rw [packL_sub]
      exact Sim.forR (T := fun m (K : KV → R) => K (.str len m)) (Sim.pure (.iv _ _ (.str _ _ _ (by simp [sub]; omega) rfl)))
    | cells | arr | mp => exact Sim.none
  | slx sz n off len cap =>
    refine (kget_sim hH).bind fun o o' ho => ?_
    cases ho with
    | cells cs cs' h =>
      refine (kdrop_sim h).bind fun r r' hr => ?_
      cases hr with
      | nil => exact Sim.none
      | cons x y xs ys hxy hs =>
        cases hxy with
        | iv _ _ h =>
          cases h with
          | sbs l n m hn hm =>
            subst hm
            refine Sim.gd fun e => ?_
            obtain ⟨e1, e2⟩ := and2 e
            refine Sim.vc ⟨ofb e1, of_ble e2⟩ ?_
            rw [packL_sub]
            exact Sim.forR (T := fun m (K : KV → R) => K (.str len m)) (Sim.pure (.iv _ _ (.str _ _ _ (by have := of_ble e2; simp [sub]; omega) rfl)))
          | sis | int | byte | bool | str | nilptr | nilsl | nilmap | nilfn | nilif | ip => exact Sim.none
        | ptr | ixp | sl | slx | map | agg | tup | fn => exact Sim.none
    | bytes | arr | mp => exact Sim.none
  | ptr | ixp | map | agg | tup | fn => exact Sim.none
theorem kmm_eq {mx : Bool} {a b : Int} : (bif ltZ a b then (bif mx then b else a) else (bif mx then a else b)) = bif mx then max a b else min a b := by
  rw [ltZ_iff]
  by_cases h : a < b
  · rw [decide_eq_true h]; cases mx
    · simp only [cond_true, cond_false]; omega
    · simp only [cond_true]; omega
  · rw [decide_eq_false h]; cases mx
    · simp only [cond_false]; omega
    · simp only [cond_true, cond_false]; omega
theorem pget_sim {l : List UInt8} {i n : Nat} {f : Nat → KV} {g : UInt8 → SV} (h : i < l.length) (hf : ∀ b : UInt8, VR (f b.toNat) (g b)) : Sim (fun K : KV → R => forR (pget (packL l) i) fun b => K (f b)) (fun K => K (g (l.getD i 0))) VR := by
  rw [packL_get h]
  exact Sim.forR (T := fun m (K : KV → R) => K (f m)) (Sim.pure (hf _))
theorem kgetI_sim {l : List Int} {i : Nat} {f : Int → KV} {g : Int → SV} (hf : ∀ b : Int, VR (f b) (g b)) : Sim (fun K : KV → R => kgetI l i fun b => K (f b)) (fun K => K (g (l.getD i 0))) VR := by
  intro K t h
  obtain ⟨_, h2⟩ := kgetI_some h
  exact ⟨_, _, h2, hf _, fun _ h => h⟩
theorem kq_sim (hG : GR G G') (hF : FR fr fr') (hH : HR S S') {c : COp} : Sim (kq G S fr c) (qop G' S' fr' c) VR := by
  have ev := fun x => kev_sim (x := x) hG hF
  cases c
  case mov x => exact ev x
  case pick c a b =>
    refine (ev c).bind fun v v' hv => ?_
    cases hv with
    | iv _ _ h =>
      cases h with
      | bool b => exact Sim.cond (fun _ => ev a) fun _ => ev _
      | byte | int | str | nilptr | nilsl | nilmap | nilfn | nilif | ip | sbs | sis => exact Sim.none
    | ptr | ixp | sl | slx | map | agg | tup | fn => exact Sim.none
  case build ps => exact (kpieces_sim hG hF).bind fun v v' hv => Sim.pure (.agg _ _ hv)
  case load1 a => exact (ev a).bind fun v v' hv => kload1_sim hH hv
  case loadN n a => exact (ev a).bind fun v v' hv => kloadN_sim hH hv
  case nilck x =>
    refine (ev x).bind fun v v' hv => ?_
    cases hv with
    | iv _ _ h =>
      cases h with
      | ip cs cs' h => exact Sim.pure (.iv _ _ (.ip _ _ h))
      | byte | int | bool | str | nilptr | nilsl | nilmap | nilfn | nilif | sbs | sis => exact Sim.none
    | ptr n off => exact Sim.pure (.ptr n off)
    | ixp n off sz i => exact Sim.pure (.ixp n off sz i)
    | sl | slx | map | agg | tup | fn => exact Sim.none
  case bin op x y => exact (ev x).bind fun v v' hv => (ev y).bind fun u u' hu => kbin_sim hv hu
  case eqb neg x y =>
    refine (ev x).bind fun v v' hv => (ev y).bind fun u u' hu => ?_
    cases hv with
    | iv _ _ h =>
      cases h with
      | bool a =>
        cases hu with
        | iv _ _ h =>
          cases h with
          | bool b =>
            have e : (bif neg then xor a b else !xor a b) = (bif neg then !(a == b) else (a == b)) := by cases neg <;> cases a <;> cases b <;> rfl
            exact Sim.pure (e ▸ .iv _ _ (.bool _))
          | byte | int | str | nilptr | nilsl | nilmap | nilfn | nilif | ip | sbs | sis => exact Sim.none
        | ptr | ixp | sl | slx | map | agg | tup | fn => exact Sim.none
      | byte | int | str | nilptr | nilsl | nilmap | nilfn | nilif | ip | sbs | sis => exact Sim.none
    | ptr | ixp | sl | slx | map | agg | tup | fn => exact Sim.none
  case eqp neg x y =>
    refine (ev x).bind fun v v' hv => (ev y).bind fun u u' hu => ?_
    cases hv with
    | iv _ _ h =>
      cases h with
      | nilptr =>
        cases hu with
        | iv _ _ h =>
          cases h with
          | nilptr => exact Sim.pure (.iv _ _ (.bool _))
          | byte | int | bool | str | nilsl | nilmap | nilfn | nilif | ip | sbs | sis => exact Sim.none
        | ptr n off => exact Sim.pure (.iv _ _ (.bool _))
        | ixp | sl | slx | map | agg | tup | fn => exact Sim.none
      | ip cs cs' h =>
        cases hu with
        | iv _ _ h =>
          cases h with
          | nilptr => exact Sim.pure (.iv _ _ (.bool _))
          | byte | int | bool | str | nilsl | nilmap | nilfn | nilif | ip | sbs | sis => exact Sim.none
        | ptr | ixp | sl | slx | map | agg | tup | fn => exact Sim.none
      | byte | int | bool | str | nilsl | nilmap | nilfn | nilif | sbs | sis => exact Sim.none
    | ptr n off =>
      cases hu with
      | iv _ _ h =>
        cases h with
        | nilptr => exact Sim.pure (.iv _ _ (.bool _))
        | byte | int | bool | str | nilsl | nilmap | nilfn | nilif | ip | sbs | sis => exact Sim.none
      | ptr m p =>
        refine Sim.gd fun e => ?_
        obtain ⟨e1, e2⟩ := and2 e
        obtain rfl := Pos.eq_of_eqb e1
        obtain rfl := ofb e2
        exact Sim.vc ⟨rfl, rfl⟩ (Sim.pure (.iv _ _ (.bool _)))
      | ixp | sl | slx | map | agg | tup | fn => exact Sim.none
    | ixp | sl | slx | map | agg | tup | fn => exact Sim.none
  case un op x =>
    refine (ev x).bind fun v v' hv => ?_
    cases hv with
    | iv _ _ h =>
      cases h with
      | bool b =>
        cases op
        case not => exact Sim.pure (.iv _ _ (.bool _))
        all_goals exact Sim.none
      | int k n =>
        cases op
        case xor =>
          cases n with
          | negSucc n => exact Sim.none
          | ofNat n =>
            refine Sim.gd fun e => ?_
            obtain ⟨e1, e2⟩ := and2 e
            intro K t h
            simp only [forR_eq] at h
            refine ⟨_, _, h, .iv _ _ (.int _ _), fun K' hk => ?_⟩
            show K' (.iv (.int k (bitI .xor k (bif sgn k then -1 else maxI k) (Int.ofNat n))))
            rw [not_bit (by simpa using e1) (of_blt e2)]
            exact hk
        case neg =>
          intro K t h
          obtain ⟨v, v', h1, h2, h3⟩ := kint_ar K t h
          refine ⟨v, v', h1, h2, fun K' hk => ?_⟩
          have := h3 K' hk
          rw [show Int.neg n = 0 - n by rw [Int.zero_sub]; rfl] at this
          exact this
        all_goals exact Sim.none
      | byte | str | nilptr | nilsl | nilmap | nilfn | nilif | ip | sbs | sis => cases op <;> exact Sim.none
    | ptr | ixp | sl | slx | map | agg | tup | fn => cases op <;> exact Sim.none
  case cint k x => exact (ev x).bind fun v v' hv => kcint_sim hv
  case b2s x => exact (ev x).bind fun v v' hv => kb2s_sim hH hv
  case s2ap n x =>
    refine (ev x).bind fun v v' hv => ?_
    cases hv with
    | sl sz m off len =>
      refine Sim.gd fun e => ?_
      obtain ⟨e1, e2, e3⟩ := and3 e
      exact Sim.vc ⟨ofb e1, of_ble e2, of_blt e3⟩ (Sim.pure (.ixp _ _ _ _))
    | slx sz m off len cap =>
      refine Sim.gd fun e => ?_
      obtain ⟨e1, e2, e3⟩ := and3 e
      exact Sim.vc ⟨ofb e1, of_ble e2, of_blt e3⟩ (Sim.pure (.ptr _ _))
    | iv _ _ h => cases h <;> exact Sim.none
    | ptr | ixp | map | agg | tup | fn => exact Sim.none
  case faddr off x =>
    refine (ev x).bind fun v v' hv => ?_
    cases hv with
    | iv _ _ h =>
      cases h with
      | ip cs cs' h => exact (kdropI_sim h).bind fun r r' hr => Sim.pure (.iv _ _ (.ip _ _ hr))
      | byte | int | bool | str | nilptr | nilsl | nilmap | nilfn | nilif | sbs | sis => exact Sim.none
    | ptr n o => exact Sim.forR (T := fun o (K : KV → R) => K (.ptr n o)) (Sim.pure (.ptr _ _))
    | ixp n o sz i => exact Sim.forR (T := fun o (K : KV → R) => K (.ixp n o sz i)) (Sim.pure (.ixp _ _ _ _))
    | sl | slx | map | agg | tup | fn => exact Sim.none
  case field off n x =>
    cases n with
    | none =>
      refine (ev x).bind fun v v' hv => ?_
      cases hv with
      | agg cs cs' h => exact kcell_sim h
      | iv _ _ h => cases h <;> exact Sim.none
      | ptr | ixp | sl | slx | map | tup | fn => exact Sim.none
    | some n =>
      refine (ev x).bind fun v v' hv => ?_
      cases hv with
      | agg cs cs' h => exact kdt_sim h
      | iv _ _ h => cases h <;> exact Sim.none
      | ptr | ixp | sl | slx | map | tup | fn => exact Sim.none
  case ixarr sz n x i =>
    refine (ev x).bind fun v v' hv => (kidx_sim hG hF (x := i)).bind (T := fun K => kev G fr i fun i => knat i K) fun j j' hj => ?_
    subst hj
    refine Sim.gd fun e => ?_
    have e := of_blt e
    cases hv with
    | ptr m off => exact Sim.vc ⟨Int.natCast_nonneg j, by omega⟩ (Sim.pure (.ixp _ _ _ _))
    | iv _ _ h =>
      cases h with
      | ip cs cs' h =>
        cases h with
        | nil => exact Sim.none
        | cons y y' ys ys' h hs =>
          cases hs with
          | cons => cases h <;> exact Sim.none
          | nil =>
            cases h with
            | sbs l m p hn hm =>
              subst hm
              refine Sim.gd fun g => ?_
              obtain ⟨g1, g2⟩ := and2 g
              have g2 := of_ble g2
              refine Sim.vc ⟨ofb g1, Int.natCast_nonneg j, by omega, g2⟩ ?_
              exact pget_sim (n := 0) (f := fun b => .ip [.byte b]) (g := fun b => .iv (.ip [.byte b])) (by omega) fun b => .iv _ _ (.ip _ _ (.cons _ _ _ _ (.byte _ _ rfl) .nil))
            | sis k m l hn =>
              refine Sim.gd fun g => ?_
              obtain ⟨g1, g2⟩ := and2 g
              have g2 := of_ble g2
              refine Sim.vc ⟨ofb g1, Int.natCast_nonneg j, by omega, g2⟩ ?_
              exact kgetI_sim (f := fun x => .ip [.int k x]) (g := fun x => .iv (.ip [.int k x])) fun b => .iv _ _ (.ip _ _ (.cons _ _ _ _ (.int _ _) .nil))
            | int | byte | bool | str | nilptr | nilsl | nilmap | nilfn | nilif | ip => exact Sim.none
      | byte | int | bool | str | nilptr | nilsl | nilmap | nilfn | nilif | sbs | sis => exact Sim.none
    | ixp | sl | slx | map | agg | tup | fn => exact Sim.none
  case ixsl sz x i =>
    refine (ev x).bind fun v v' hv => (kidx_sim hG hF (x := i)).bind (T := fun K => kev G fr i fun i => knat i K) fun j j' hj => ?_
    subst hj
    cases hv with
    | sl sz' n off len =>
      refine Sim.gd fun e => ?_
      obtain ⟨e1, e2⟩ := and2 e
      have e2 := of_blt e2
      exact Sim.vc ⟨ofb e1, Int.natCast_nonneg j, by omega⟩ (Sim.forR (T := fun i (K : KV → R) => K (.ixp n 0 sz i)) (Sim.pure (.ixp _ _ _ _)))
    | slx sz' n off len cap =>
      refine Sim.gd fun e => ?_
      obtain ⟨e1, e2⟩ := and2 e
      have e2 := of_blt e2
      exact Sim.vc ⟨ofb e1, Int.natCast_nonneg j, by omega⟩ (Sim.pure (.ixp _ _ _ _))
    | iv _ _ h => cases h <;> exact Sim.none
    | ptr | ixp | map | agg | tup | fn => exact Sim.none
  case idxstr x i =>
    refine (ev x).bind fun v v' hv => (kidx_sim hG hF (x := i)).bind (T := fun K => kev G fr i fun i => knat i K) fun j j' hj => ?_
    subst hj
    cases hv with
    | iv _ _ h =>
      cases h with
      | str l n m hn hm =>
        subst hn hm
        refine Sim.gd fun e => ?_
        have e := of_blt e
        refine Sim.vc ⟨Int.natCast_nonneg j, by omega⟩ ?_
        exact pget_sim (n := 0) (f := fun b => .byte b) (g := fun b => .iv (.byte b)) e fun b => .iv _ _ (.byte _ _ rfl)
      | byte | int | bool | nilptr | nilsl | nilmap | nilfn | nilif | ip | sbs | sis => exact Sim.none
    | ptr | ixp | sl | slx | map | agg | tup | fn => exact Sim.none
  case idxagg n x i =>
    refine (ev x).bind fun v v' hv => (kidx_sim hG hF (x := i)).bind (T := fun K => kev G fr i fun i => knat i K) fun j j' hj => ?_
    subst hj
    refine Sim.gd fun e => ?_
    have e := of_blt e
    cases hv with
    | agg cs cs' h =>
      cases h with
      | nil => exact Sim.none
      | cons y y' ys ys' h hs =>
        cases hs with
        | cons => cases h with
          | iv _ _ h => cases h <;> exact Sim.none
          | ptr | ixp | sl | slx | map | agg | tup | fn => exact Sim.none
        | nil =>
          cases h with
          | iv _ _ h =>
            cases h with
            | sbs l m p hn hm =>
              subst hm
              refine Sim.gd fun g => ?_
              have g := ofb g
              refine Sim.vc ⟨Int.natCast_nonneg j, by omega, g⟩ ?_
              exact pget_sim (n := 0) (f := fun b => .byte b) (g := fun b => .iv (.byte b)) (by omega) fun b => .iv _ _ (.byte _ _ rfl)
            | sis k m l hn =>
              refine Sim.gd fun g => ?_
              have g := ofb g
              refine Sim.vc ⟨Int.natCast_nonneg j, by omega, g⟩ ?_
              exact kgetI_sim (f := fun x => .int k x) (g := fun x => .iv (.int k x)) fun b => .iv _ _ (.int _ _)
            | int | byte | bool | str | nilptr | nilsl | nilmap | nilfn | nilif | ip => exact Sim.none
          | ptr | ixp | sl | slx | map | agg | tup | fn => exact Sim.none
    | iv _ _ h => cases h <;> exact Sim.none
    | ptr | ixp | sl | slx | map | tup | fn => exact Sim.none
  case slarr sz n x lo hi =>
    refine (ev x).bind fun v v' hv => (koNat_sim hG hF (x := lo) (d := 0)).bind fun l l' hl => (koNat_sim hG hF (x := hi) (d := n)).bind fun h h' hh => ?_
    cases hv with
    | ptr m off =>
      intro K t hk
      obtain ⟨e, hk⟩ := gd_some (show gd (Nat.ble l h && Nat.ble h n && Nat.blt l n) (forR (Nat.add off (Nat.mul l sz)) fun off => forR (Nat.sub h l) fun len => forR (Nat.sub n l) fun cap => K (.slx sz m off len cap)) = some t from hk)
      obtain ⟨e1, e2, e3⟩ := and3 e
      have e1 := of_ble e1
      have e2 := of_ble e2
      have e3 := of_blt e3
      simp only [forR_eq] at hk
      have hl : l'.getD 0 = (l : Int) := hl
      have hh : h'.getD (n : Int) = (h : Int) := hh
      refine ⟨_, _, hk, .slx _ _ _ _ _, fun K' hk' => vc_iff.2 ⟨⟨by omega, by omega, by omega, by omega⟩, ?_⟩⟩
      rw [hl, hh]
      exact hk'
    | iv _ _ h => cases h <;> exact Sim.none
    | ixp | sl | slx | map | agg | tup | fn => exact Sim.none
  case slsl sz x lo hi =>
    refine (ev x).bind fun v v' hv => (koNat_sim hG hF (x := lo) (d := 0)).bind fun l l' hl => ?_
    cases hi with
    | none => exact kslsl_sim (h := none) hv hl rfl
    | some hi =>
      refine (kidx_sim hG hF (x := hi)).bind (T := fun K => kev G fr hi fun i => knat i K) fun j j' hj => ?_
      exact kslsl_sim hv hl hj
  case slstr x lo hi =>
    refine (ev x).bind fun v v' hv => ?_
    cases hv with
    | iv _ _ h =>
      cases h with
      | str s n m hn hm =>
        subst hn hm
        refine (koNat_sim hG hF (x := lo) (d := 0)).bind fun l l' hl => (koNat_sim hG hF (x := hi) (d := s.length)).bind fun h h' hh => ?_
        intro K t hk
        obtain ⟨e, hk⟩ := gd_some (show gd (Nat.ble l h && Nat.ble h s.length) (forR (Nat.sub h l) fun len => forR (psub (packL s) l len) fun s => K (.str len s)) = some t from hk)
        obtain ⟨e1, e2⟩ := and2 e
        have e1 := of_ble e1
        have e2 := of_ble e2
        simp only [forR_eq, packL_sub] at hk
        have hl : l'.getD 0 = (l : Int) := hl
        have hh : h'.getD (s.length : Int) = (h : Int) := hh
        refine ⟨_, _, hk, .iv _ _ (.str _ _ _ ?_ rfl), fun K' hk' => vc_iff.2 ⟨⟨by omega, by omega, by omega⟩, ?_⟩⟩
        · simp only [sub, List.length_take, List.length_drop]
          show min (h - l) _ = h - l
          omega
        · rw [hl, hh]
          exact hk'
      | byte | int | bool | nilptr | nilsl | nilmap | nilfn | nilif | ip | sbs | sis => exact Sim.none
    | ptr | ixp | sl | slx | map | agg | tup | fn => exact Sim.none
  case ext x i =>
    refine (ev x).bind fun v v' hv => ?_
    cases hv with
    | tup vs vs' h =>
      intro K t hk
      replace hk : (match vs[i]? with | some v => K v | none => none) = some t := hk
      cases hi : vs[i]? with
      | none => rw [hi] at hk; cases hk
      | some v =>
        rw [hi] at hk
        obtain ⟨y, h1, h2⟩ := h.get hi
        exact ⟨v, y, hk, h2, fun K' hk' => getK_iff.2 ⟨y, h1, hk'⟩⟩
    | iv _ _ h => cases h <;> exact Sim.none
    | ptr | ixp | sl | slx | map | agg | fn => exact Sim.none
  case len s x =>
    cases s with
    | true =>
      refine (ev x).bind fun v v' hv => ?_
      cases hv with
      | iv _ _ h =>
        cases h with
        | str l n m hn hm => subst hn; exact Sim.pure (.iv _ _ (.int _ _))
        | byte | int | bool | nilptr | nilsl | nilmap | nilfn | nilif | ip | sbs | sis => exact Sim.none
      | ptr | ixp | sl | slx | map | agg | tup | fn => exact Sim.none
    | false =>
      refine (ev x).bind fun v v' hv => ?_
      cases hv with
      | iv _ _ h =>
        cases h with
        | nilsl => exact Sim.pure (.iv _ _ (.int _ _))
        | byte | int | bool | str | nilptr | nilmap | nilfn | nilif | ip | sbs | sis => exact Sim.none
      | sl sz n off len => exact Sim.pure (.iv _ _ (.int _ _))
      | slx sz n off len cap => exact Sim.pure (.iv _ _ (.int _ _))
      | ptr | ixp | map | agg | tup | fn => exact Sim.none
  case mm mx x y =>
    refine (ev x).bind fun v v' hv => (ev y).bind fun u u' hu => ?_
    cases hv with
    | iv _ _ h =>
      cases h with
      | int k a =>
        cases hu with
        | iv _ _ h =>
          cases h with
          | int k' b =>
            refine Sim.gd fun e => Sim.vc (eqIK_eq e) ?_
            exact Sim.pure (kmm_eq ▸ .iv _ _ (.int _ _))
          | byte | bool | str | nilptr | nilsl | nilmap | nilfn | nilif | ip | sbs | sis => exact Sim.none
        | ptr | ixp | sl | slx | map | agg | tup | fn => exact Sim.none
      | byte | bool | str | nilptr | nilsl | nilmap | nilfn | nilif | ip | sbs | sis => exact Sim.none
    | ptr | ixp | sl | slx | map | agg | tup | fn => exact Sim.none
  case eqa neg ls x y =>
    refine (ev x).bind fun v v' hv => (ev y).bind fun u u' hu => ?_
    cases hv with
    | agg cs cs' h =>
      cases hu with
      | agg ds ds' h2 => exact (keqa_sim h h2).bind fun r r' hr => Sim.pure (hr ▸ .iv _ _ (.bool _))
      | iv _ _ h => cases h <;> exact Sim.none
      | ptr | ixp | sl | slx | map | tup | fn => exact Sim.none
    | iv _ _ h => cases h <;> exact Sim.none
    | ptr | ixp | sl | slx | map | tup | fn => exact Sim.none
  case eqn neg x =>
    refine (ev x).bind fun v v' hv => ?_
    cases hv with
    | iv _ _ h =>
      cases h with
      | nilsl => exact Sim.pure (.iv _ _ (.bool _))
      | byte | int | bool | str | nilptr | nilmap | nilfn | nilif | ip | sbs | sis => exact Sim.none
    | sl sz n off len => exact Sim.gd fun e => Sim.vc (of_blt e) (Sim.pure (.iv _ _ (.bool _)))
    | slx sz n off len cap => exact Sim.pure (.iv _ _ (.bool _))
    | ptr | ixp | map | agg | tup | fn => exact Sim.none
  case mget s ok z x i =>
    refine (ev x).bind fun v v' hv => (ev i).bind fun k k' hk => ?_
    cases hv with
    | map n =>
      cases hk with
      | iv _ k' hk =>
        refine (kget_sim hH).bind fun o o' ho => ?_
        cases ho with
        | mp es es' h =>
          refine Sim.gd fun e => ?_
          obtain ⟨e1, e2⟩ := and2 e
          refine Sim.vc ⟨kisKey_iff hk hk e1, kallKeys_iff hk h e2⟩ ((kfind_sim hk h e2).bind fun r r' hr => ?_)
          rcases hr with ⟨rfl, rfl⟩ | ⟨v, v', rfl, rfl, hv⟩
          · intro K t hk
            obtain ⟨z', h1, h2⟩ := kz_some (show kz z (fun z => K (bif ok then .tup [z, .bool false] else z)) = some t from hk)
            refine ⟨_, (bif ok then .tup [z, .iv (.bool false)] else z), h1, ?_, fun K' hk' => hk'⟩
            cases ok
            · exact h2
            · exact .tup _ _ (.cons _ _ _ _ h2 (.cons _ _ _ _ (.iv _ _ (.bool _)) .nil))
          · refine Sim.pure (v := bif ok then .tup [v, .bool true] else v) (v' := bif ok then .tup [v', .iv (.bool true)] else v') ?_
            cases ok
            · exact hv
            · exact .tup _ _ (.cons _ _ _ _ hv (.cons _ _ _ _ (.iv _ _ (.bool _)) .nil))
        | cells | bytes | arr => exact Sim.none
      | ptr | ixp | sl | slx | map | agg | tup | fn =>
        intro K t h
        obtain ⟨o, h1, h2⟩ := KH.getR_some h
        cases o <;> cases h2
    | iv _ _ h => cases h <;> exact Sim.none
    | ptr | ixp | sl | slx | agg | tup | fn => exact Sim.none
  case mlen x =>
    refine (ev x).bind fun v v' hv => ?_
    cases hv with
    | iv _ _ h =>
      cases h with
      | nilmap => exact Sim.pure (.iv _ _ (.int _ _))
      | byte | int | bool | str | nilptr | nilsl | nilfn | nilif | ip | sbs | sis => exact Sim.none
    | map n =>
      refine (kget_sim hH).bind fun o o' ho => ?_
      cases ho with
      | mp es es' h =>
        refine Sim.forR (T := fun n (K : KV → R) => K (.int .i64 (.ofNat n))) (Sim.pure ?_)
        rw [h.len]
        exact .iv _ _ (.int _ _)
      | cells | bytes | arr => exact Sim.none
    | ptr | ixp | sl | slx | agg | tup | fn => exact Sim.none
  case cmpb f x y =>
    refine (ev x).bind fun v v' hv => (ev y).bind fun u u' hu => ?_
    intro K t h
    obtain ⟨⟨n, p⟩, l, h1, ⟨rfl, rfl⟩, h3⟩ := kcont_sim hH hv (fun p => kcont S u fun m l' => K (.int .i64 (kcmp p.1 m p.2 l'))) t h
    obtain ⟨⟨m, q⟩, l2, h4, ⟨rfl, rfl⟩, h6⟩ := kcont_sim hH hu (fun p => K (.int .i64 (kcmp l.length p.1 (packL l) p.2))) t h1
    rw [packL_cmp] at h4
    exact ⟨_, _, h4, .iv _ _ (.int _ _), fun K' hk => h3 _ (h6 _ hk)⟩
  all_goals exact Sim.none
end
end Sg
end Go.Proofs.YtfkboondffejaaaGreatDoor
set_option linter.unusedVariables false
set_option linter.unusedSimpArgs false
set_option linter.constructorNameAsVariable false
namespace Go.Proofs.YtfkboondffejaaaGreatDoor
namespace Sg
def VJ (v : KV) (v' : SV) : Prop := VR v v' ∨ (v = .tup [] ∧ v' = .junk)
def Sim3 (T : (KV → KH → Pos → R) → R) (T' : (SV → SH → Nat → Prop) → Prop) : Prop :=
  ∀ (K : KV → KH → Pos → R) (t : KSt), T K = some t → ∃ v S nx v' S', K v S nx = some t ∧ VJ v v' ∧ HR S S' ∧ ∀ K' : SV → SH → Nat → Prop, K' v' S' nx.val → T' K'
section
variable {α β : Type}
theorem Sim3.none {T' : (SV → SH → Nat → Prop) → Prop} : Sim3 (fun _ => Option.none) T' := fun K t h => nomatch h
theorem Sim3.pure {v : KV} {v' : SV} {S : KH} {S' : SH} {nx : Pos} (h : VJ v v') (hH : HR S S') : Sim3 (fun K => K v S nx) (fun K => K v' S' nx.val) := fun K t hk => ⟨v, S, nx, v', S', hk, h, hH, fun _ h => h⟩
theorem Sim.bind3 {T : (α → R) → R} {T' : (β → Prop) → Prop} {r : α → β → Prop} {U : α → (KV → KH → Pos → R) → R} {U' : β → (SV → SH → Nat → Prop) → Prop} (h : Sim T T' r) (k : ∀ v v', r v v' → Sim3 (U v) (U' v')) :
    Sim3 (fun K => T fun v => U v K) (fun K => T' fun v => U' v K) := by
  intro K t hk
  obtain ⟨v, v', h1, h2, h3⟩ := h _ t hk
  obtain ⟨u, S, nx, u', S', h4, h5, h6, h7⟩ := k v v' h2 K t h1
  exact ⟨u, S, nx, u', S', h4, h5, h6, fun K' hk' => h3 _ (h7 K' hk')⟩
theorem Sim3.gd {T : (KV → KH → Pos → R) → R} {T' : (SV → SH → Nat → Prop) → Prop} {b : Bool} (h : b = true → Sim3 T T') : Sim3 (fun K => Sg.gd b (T K)) T' := fun K t hk => by
  obtain ⟨h1, h2⟩ := gd_some hk
  exact h h1 K t h2
theorem Sim3.vc {T : (KV → KH → Pos → R) → R} {T' : (SV → SH → Nat → Prop) → Prop} {A : Prop} [Decidable A] (ha : A) (h : Sim3 T T') : Sim3 T (fun K => Sg.vc A (T' K)) := fun K t hk => by
  obtain ⟨v, S, nx, v', S', h1, h2, h3, h4⟩ := h K t hk
  exact ⟨v, S, nx, v', S', h1, h2, h3, fun K' hk' => vc_iff.2 ⟨ha, h4 K' hk'⟩⟩
theorem Sim3.forR {T : Nat → (KV → KH → Pos → R) → R} {T' : (SV → SH → Nat → Prop) → Prop} {n : Nat} (h : Sim3 (T n) T') : Sim3 (fun K => Sg.forR n fun m => T m K) T' := fun K t hk => by
  replace hk : Sg.forR n (fun m => T m K) = some t := hk
  rw [forR_eq] at hk
  exact h K t hk
theorem Sim3.to {T : (KV → KH → Pos → R) → R} {T' T2 : (SV → SH → Nat → Prop) → Prop} (h : Sim3 T T') (k : ∀ K, T' K → T2 K) : Sim3 T T2 := fun K t hk => by
  obtain ⟨v, S, nx, v', S', h1, h2, h3, h4⟩ := h K t hk
  exact ⟨v, S, nx, v', S', h1, h2, h3, fun K' hk' => k _ (h4 K' hk')⟩
end
theorem SH.get_put_self : ∀ {S : SH} {n : Nat} {o x : SObj}, SH.get S n = some o → SH.get (SH.put S n x) n = some x
  | [], n, o, x, h => by simp [SH.get] at h
  | (m, y) :: S, n, o, x, h => by
    cases e : Nat.beq m n
    · simp [SH.get, SH.put, e] at h ⊢
      exact SH.get_put_self h
    · simp [SH.get, SH.put, e]
theorem SH.get_put_ne : ∀ {S : SH} {n m : Nat} {x : SObj}, m ≠ n → SH.get (SH.put S n x) m = SH.get S m
  | [], n, m, x, h => rfl
  | (k, y) :: S, n, m, x, h => by
    cases e : Nat.beq k n
    · simp only [SH.put, e, cond_false, SH.get]
      rw [SH.get_put_ne h]
    · obtain rfl := Nat.eq_of_beq_eq_true e
      simp only [SH.put, e, cond_true, SH.get]
      rw [beq_false (fun e => h e.symm)]
      rfl
theorem SH.get_del_ne : ∀ {S : SH} {n m : Nat}, m ≠ n → SH.get (SH.del S n) m = SH.get S m
  | [], n, m, h => rfl
  | (k, y) :: S, n, m, h => by
    cases e : Nat.beq k n
    · simp only [SH.del, e, cond_false, SH.get]
      rw [SH.get_del_ne h]
    · obtain rfl := Nat.eq_of_beq_eq_true e
      simp only [SH.del, e, cond_true, SH.get]
      rw [beq_false (fun e => h e.symm)]
      rfl
section
variable {G : KG} {G' : Gl} {fr : KT} {fr' : FT} {S : KH} {S' : SH} {nx : Pos}
theorem beq_self (n : Nat) : Nat.beq n n = true := by rw [Nat.beq_eq]
theorem HR.new {n : Pos} {o : KObj} {o' : SObj} (h : HR S S') (ho : OR o o') : HR (KH.set n S o) ((n.val, o') :: S') := by
  intro m x hx
  by_cases e : m = n
  · subst e
    rw [KH.get_set_self] at hx
    cases hx
    exact ⟨o', by simp [SH.get], ho⟩
  · rw [KH.get_set_ne _ _ _ _ e] at hx
    obtain ⟨x', h1, h2⟩ := h m x hx
    refine ⟨x', ?_, h2⟩
    simp only [SH.get]
    rw [beq_false (fun q => e (Pos.inj q.symm))]
    exact h1
theorem HR.put {n : Pos} {o : KObj} {o' x0 : SObj} (h : HR S S') (hg : SH.get S' n.val = some x0) (ho : OR o o') : HR (KH.set n S o) (SH.put S' n.val o') := by
  intro m x hx
  by_cases e : m = n
  · subst e
    rw [KH.get_set_self] at hx
    cases hx
    exact ⟨o', SH.get_put_self hg, ho⟩
  · rw [KH.get_set_ne _ _ _ _ e] at hx
    obtain ⟨x', h1, h2⟩ := h m x hx
    exact ⟨x', by rw [SH.get_put_ne (fun q => e (Pos.inj q))]; exact h1, h2⟩
theorem HR.del {n : Pos} (h : HR S S') : HR (KH.del n S) (SH.del S' n.val) := by
  intro m x hx
  obtain ⟨e, hx⟩ := KH.get_del _ _ _ _ hx
  obtain ⟨x', h1, h2⟩ := h m x hx
  exact ⟨x', by rw [SH.get_del_ne (fun q => e (Pos.inj q))]; exact h1, h2⟩
theorem kget3 (hH : HR S S') {n : Pos} : Sim (KH.getR S n) (SH.getK S' n.val) (fun o o' => OR o o' ∧ SH.get S' n.val = some o') := by
  intro K t h
  obtain ⟨o, h1, h2⟩ := KH.getR_some h
  obtain ⟨o', h3, h4⟩ := hH n o h1
  exact ⟨o, o', h2, ⟨h4, h3⟩, fun K' hk => SH.getK_iff.2 ⟨o', h3, hk⟩⟩
theorem new3 {v : KV} {v' : SV} {o : KObj} {o' : SObj} (hH : HR S S') (hv : VR v v') (ho : OR o o') : Sim3 (fun K => KH.newR S nx o fun S nx' => K v S nx') (fun K => K v' ((nx.val, o') :: S') (nx.val + 1)) := by
  intro K t h
  replace h : KH.newR S nx o (fun S nx' => K v S nx') = some t := h
  simp only [KH.newR, KH.setR_eq, Pos.succR_eq] at h
  exact ⟨v, _, _, v', _, h, .inl hv, hH.new ho, fun K' hk => by rw [Pos.val_succ] at hk; exact hk⟩
theorem put3 {n : Pos} {o : KObj} {o' x0 : SObj} (hH : HR S S') (hg : SH.get S' n.val = some x0) (ho : OR o o') : Sim3 (fun K => KH.setR n S o fun S => K (.tup []) S nx) (fun K => SH.putK S' n.val o' fun S' => K .junk S' nx.val) := by
  intro K t h
  replace h : KH.setR n S o (fun S => K (.tup []) S nx) = some t := h
  rw [KH.setR_eq] at h
  exact ⟨_, _, _, .junk, _, h, .inr ⟨rfl, rfl⟩, hH.put hg ho, fun K' hk => SH.putK_iff.2 hk⟩
theorem put3v {n : Pos} {o : KObj} {o' x0 : SObj} {v : KV} {v' : SV} (hH : HR S S') (hg : SH.get S' n.val = some x0) (ho : OR o o') (hv : VR v v') : Sim3 (fun K => KH.setR n S o fun S => K v S nx) (fun K => SH.putK S' n.val o' fun S' => K v' S' nx.val) := by
  intro K t h
  replace h : KH.setR n S o (fun S => K v S nx) = some t := h
  rw [KH.setR_eq] at h
  exact ⟨_, _, _, v', _, h, .inl hv, hH.put hg ho, fun K' hk => SH.putK_iff.2 hk⟩
theorem ksetN_some {t : KSt} : ∀ {l : List (List KV)} {i : Nat} {v : List KV} {K : List (List KV) → R}, ksetN l i v K = some t → i < l.length ∧ K (l.set i v) = some t
  | [], i, v, K, h => by cases i <;> cases h
  | x :: l, 0, v, K, h => ⟨by simp, h⟩
  | x :: l, i + 1, v, K, h => by
    obtain ⟨h1, h2⟩ := ksetN_some (l := l) (K := fun r => K (x :: r)) h
    exact ⟨by simpa using h1, h2⟩
theorem arr_set {sz len : Nat} {l : List (List KV)} {E : Nat → List SV} {i : Nat} {r : List KV} {r' : List SV} (hl : l.length = len) (h : ∀ i x, l[i]? = some x → VRs x (E i)) (hr : VRs r r') :
    OR (.arr sz len (l.set i r)) (.arr sz len (fun j => bif Nat.beq j i then r' else E j)) := by
  refine .arr _ _ _ _ (by simpa using hl) fun j x hx => ?_
  by_cases e : j = i
  · subst e
    rw [List.getElem?_set] at hx
    simp only [if_true] at hx
    split at hx
    · cases hx
      simpa using hr
    · cases hx
  · rw [List.getElem?_set_ne (fun q => e q.symm)] at hx
    rw [beq_false e]
    exact h j x hx
theorem kstore1_sim (hH : HR S S') {a v : KV} {a' v' : SV} : VR a a' → VR v v' → Sim3 (kstore1 S nx a v) (fun K => match a' with
    | .ptr n off => SH.getK S' n fun o => match o with
      | .cells cs => setCellK cs off v' fun cs' => SH.putK S' n (.cells cs') fun S' => K .junk S' nx.val
      | _ => False
    | .ixp n off sz i => SH.getK S' n fun o => match o with
      | .arr sz' len E => vc (sz = sz' ∧ i < len ∧ off < sz) (setCellK (E i) off v' fun r => SH.putK S' n (.arr sz len (fun j => bif Nat.beq j i then r else E j)) fun S' => K .junk S' nx.val)
      | .bytes l => match v' with
        | .iv (.byte b) => vc (sz = 1 ∧ off = 0 ∧ i < l.length) (SH.putK S' n (.bytes (l.set i b)) fun S' => K .junk S' nx.val)
        | _ => False
      | .cells cs => vc (sz = 1) (takeK cs 0 off fun pre => dropK cs off fun r => match r with
        | .iv (.sbs m l) :: tl => (match v' with
          | .iv (.byte b) => vc (i < m) (appK pre (.iv (.sbs m (l.set i b)) :: tl) fun cs' => SH.putK S' n (.cells cs') fun S' => K .junk S' nx.val)
          | _ => False)
        | .iv (.sis kd m l) :: tl => (match v' with
          | .iv (.int kd' b) => vc (kd = kd' ∧ i < m) (appK pre (.iv (.sis kd m (l.set i b)) :: tl) fun cs' => SH.putK S' n (.cells cs') fun S' => K .junk S' nx.val)
          | _ => False)
        | _ => False)
      | _ => False
    | _ => False) := by
  intro ha hv
  cases ha with
  | ptr n off =>
    refine (kget3 hH).bind3 fun o o' ho => ?_
    obtain ⟨ho, hg⟩ := ho
    cases ho with
    | cells cs cs' h => exact (kset_sim hv h).bind3 fun r r' hr => put3 hH hg (.cells _ _ hr)
    | bytes | arr | mp => exact Sim3.none
  | ixp n off sz i =>
    refine (kget3 hH).bind3 fun o o' ho => ?_
    obtain ⟨ho, hg⟩ := ho
    cases ho with
    | cells cs cs' h =>
      refine Sim3.gd fun e => Sim3.vc (ofb e) ((ktake_sim h).bind3 fun p p' hp => (kdrop_sim h).bind3 fun r r' hr => ?_)
      cases hr with
      | nil => exact Sim3.none
      | cons x y xs ys hxy hs =>
        cases hxy with
        | iv _ _ h =>
          cases h with
          | sbs l m q hn hm =>
            cases hv with
            | iv _ _ hv =>
              cases hv with
              | byte b bn hb =>
                subst hm hb
                refine Sim3.gd fun e => ?_
                have e := of_blt e
                refine Sim3.vc e ?_
                rw [packL_set (by omega)]
                exact Sim3.forR (T := fun l (K : KV → KH → Pos → R) => kapp p (.sbs m l :: xs) fun cs => KH.setR n S (.cells cs) fun S => K (.tup []) S nx)
                  ((kapp_sim hp (.cons _ _ _ _ (.iv _ _ (.sbs _ _ _ (by simpa using hn) rfl)) hs)).bind3 fun c c' hc => put3 hH hg (.cells _ _ hc))
              | int | bool | str | nilptr | nilsl | nilmap | nilfn | nilif | ip | sbs | sis => exact Sim3.none
            | ptr | ixp | sl | slx | map | agg | tup | fn => exact Sim3.none
          | sis k m l hn =>
            cases hv with
            | iv _ _ hv =>
              cases hv with
              | int k' b =>
                refine Sim3.gd fun e => ?_
                obtain ⟨e1, e2⟩ := and2 e
                refine Sim3.vc ⟨eqIK_eq e1, of_blt e2⟩ ?_
                intro K t hk
                obtain ⟨g1, g2⟩ := ksetI_some hk
                exact (kapp_sim hp (.cons _ _ _ _ (.iv _ _ (.sis k m (l.set i b) (by simpa using hn))) hs)).bind3 (fun c c' hc => put3 hH hg (.cells _ _ hc)) K t g2
              | byte | bool | str | nilptr | nilsl | nilmap | nilfn | nilif | ip | sbs | sis => exact Sim3.none
            | ptr | ixp | sl | slx | map | agg | tup | fn => exact Sim3.none
          | int | byte | bool | str | nilptr | nilsl | nilmap | nilfn | nilif | ip => exact Sim3.none
        | ptr | ixp | sl | slx | map | agg | tup | fn => exact Sim3.none
    | bytes l p q hn hm =>
      cases hv with
      | iv _ _ hv =>
        cases hv with
        | byte b bn hb =>
          subst hn hm hb
          refine Sim3.gd fun e => ?_
          obtain ⟨e1, e2, e3⟩ := and3 e
          refine Sim3.vc ⟨ofb e1, ofb e2, of_blt e3⟩ ?_
          rw [packL_set (of_blt e3)]
          exact Sim3.forR (T := fun N (K : KV → KH → Pos → R) => KH.setR n S (.bytes l.length N) fun S => K (.tup []) S nx) (put3 hH hg (.bytes _ _ _ (by simp) rfl))
        | int | bool | str | nilptr | nilsl | nilmap | nilfn | nilif | ip | sbs | sis => exact Sim3.none
      | ptr | ixp | sl | slx | map | agg | tup | fn => exact Sim3.none
    | arr sz' len l E hl h =>
      refine Sim3.gd fun e => ?_
      obtain ⟨e1, e2, e3⟩ := and3 e
      obtain rfl := ofb e1
      refine Sim3.vc ⟨rfl, of_blt e2, of_blt e3⟩ ?_
      intro K t hk
      obtain ⟨cs, g0, hk⟩ := knth_some hk
      refine (kset_sim (off := off) hv (h i cs g0)).bind3 (U := fun cs K => ksetN l i cs fun l => KH.setR n S (.arr sz len l) fun S => K (.tup []) S nx) (fun r r' hr => ?_) K t hk
      intro K t hk
      obtain ⟨g1, g2⟩ := ksetN_some hk
      exact put3 hH hg (arr_set hl h hr) K t g2
    | mp => exact Sim3.none
  | iv _ _ h => cases h <;> exact Sim3.none
  | sl | slx | map | agg | tup | fn => exact Sim3.none
theorem kstoreN_sim (hH : HR S S') {n : Nat} {a v : KV} {a' v' : SV} : VR a a' → VR v v' → Sim3 (kstoreN S nx n a v) (fun K => match v' with
    | .agg new => vc (ncells new = n) (match a' with
      | .ptr m off => SH.getK S' m fun o => match o with
        | .cells cs => putCellsK cs off new fun cs' => SH.putK S' m (.cells cs') fun S' => K .junk S' nx.val
        | _ => False
      | .ixp m off sz i => SH.getK S' m fun o => match o with
        | .arr sz' len E => vc (sz = sz' ∧ i < len ∧ off + n ≤ sz) (putCellsK (E i) off new fun r => SH.putK S' m (.arr sz len (fun j => bif Nat.beq j i then r else E j)) fun S' => K .junk S' nx.val)
        | _ => False
      | _ => False)
    | _ => False) := by
  intro ha hv
  cases hv with
  | agg cs cs' hcs =>
    refine Sim3.gd fun e => Sim3.vc (by rw [← ncells_sim hcs]; exact ofb e) ?_
    cases ha with
    | ptr m off =>
      refine (kget3 hH).bind3 fun o o' ho => ?_
      obtain ⟨ho, hg⟩ := ho
      cases ho with
      | cells ds ds' h => exact (kput_sim h hcs).bind3 fun r r' hr => put3 hH hg (.cells _ _ hr)
      | bytes | arr | mp => exact Sim3.none
    | ixp m off sz i =>
      refine (kget3 hH).bind3 fun o o' ho => ?_
      obtain ⟨ho, hg⟩ := ho
      cases ho with
      | arr sz' len l E hl h =>
        refine Sim3.gd fun e => ?_
        obtain ⟨e1, e2, e3⟩ := and3 e
        obtain rfl := ofb e1
        refine Sim3.vc ⟨rfl, of_blt e2, of_ble e3⟩ ?_
        intro K t hk
        obtain ⟨ds, g0, hk⟩ := knth_some hk
        refine (kput_sim (off := off) (h i ds g0) hcs).bind3 (U := fun cs K => ksetN l i cs fun l => KH.setR m S (.arr sz len l) fun S => K (.tup []) S nx) (fun r r' hr => ?_) K t hk
        intro K t hk
        obtain ⟨g1, g2⟩ := ksetN_some hk
        exact put3 hH hg (arr_set hl h hr) K t g2
      | cells | bytes | mp => exact Sim3.none
    | iv _ _ h => cases h <;> exact Sim3.none
    | sl | slx | map | agg | tup | fn => exact Sim3.none
  | iv _ _ h => cases h <;> exact Sim3.none
  | ptr | ixp | sl | slx | map | tup | fn => exact Sim3.none
theorem new_bytes (hH : HR S S') {l : List UInt8} {n m : Nat} (h1 : l.length = n) (h2 : packL l = m) : Sim3 (fun K => KH.newR S nx (.bytes n m) fun S nx' => K (.sl 1 nx 0 n) S nx') (fun K => K (.sl 1 nx.val 0 n) ((nx.val, .bytes l) :: S') (nx.val + 1)) :=
  new3 hH (.sl _ _ _ _) (.bytes _ _ _ h1 h2)
theorem kappb_sim (hH : HR S S') {v : KV} {v' : SV} {l : List UInt8} (hv : VR v v') : Sim3 (kappb S nx v l.length (packL l)) (appbK S' nx.val v' l) := by
  cases hv with
  | iv _ _ h =>
    cases h with
    | nilsl => exact Sim3.gd fun e => Sim3.vc (of_ble e) (new_bytes hH rfl rfl)
    | int | byte | bool | str | nilptr | nilmap | nilfn | nilif | ip | sbs | sis => exact Sim3.none
  | sl sz n off len =>
    refine (kget3 hH).bind3 fun o o' ho => ?_
    obtain ⟨ho, hg⟩ := ho
    cases ho with
    | bytes b p q hn hm =>
      subst hn hm
      refine Sim3.gd fun e => ?_
      simp only [Bool.and_eq_true] at e
      obtain ⟨⟨⟨e1, e2⟩, e3⟩, e4⟩ := e
      obtain rfl := ofb e3
      refine Sim3.vc ⟨ofb e1, ofb e2, rfl, of_ble e4⟩ ?_
      rw [packL_app]
      intro K t h
      simp only [forR_eq, KH.delR_eq] at h
      obtain ⟨u, T, nx', u', T', h4, h5, h6, h7⟩ := new_bytes (hH.del (n := n)) (l := b ++ l) (by simp) rfl K t h
      exact ⟨u, T, nx', u', T', h4, h5, h6, fun K' hk => SH.delK_iff.2 (h7 K' hk)⟩
    | cells | arr | mp => exact Sim3.none
  | slx sz n off len cap =>
    refine (kget3 hH).bind3 fun o o' ho => ?_
    obtain ⟨ho, hg⟩ := ho
    cases ho with
    | cells cs cs' h =>
      refine (kdrop_sim h).bind3 fun r r' hr => ?_
      cases hr with
      | nil => exact Sim3.none
      | cons x y xs ys hxy hs =>
        cases hxy with
        | iv _ _ h =>
          cases h with
          | sbs b m q hn hm =>
            subst hm
            refine Sim3.gd fun e => ?_
            simp only [Bool.and_eq_true] at e
            obtain ⟨⟨⟨⟨e1, e2⟩, e3⟩, e4⟩, e5⟩ := e
            have e2 := of_ble e2
            refine Sim3.vc ⟨ofb e1, e2, ofb e3, of_blt e4, of_ble e5⟩ ?_
            have hl : (sub b 0 len).length = len := by simp [sub]; omega
            rw [packL_sub]
            intro K t h
            simp only [forR_eq] at h
            have ha : papp len (packL (sub b 0 len)) (packL l) = packL (sub b 0 len ++ l) := by
              have := packL_app (sub b 0 len) l
              rw [hl] at this
              exact this
            rw [ha] at h
            exact new_bytes hH (l := sub b 0 len ++ l) (by rw [List.length_append, hl]) rfl K t h
          | sis | int | byte | bool | str | nilptr | nilsl | nilmap | nilfn | nilif | ip => exact Sim3.none
        | ptr | ixp | sl | slx | map | agg | tup | fn => exact Sim3.none
    | bytes | arr | mp => exact Sim3.none
  | ptr | ixp | map | agg | tup | fn => exact Sim3.none
structure ER (F : List (List KV)) (m : Nat) (F' : Nat → List SV) : Prop where
  len : F.length = m
  el : ∀ i x, F[i]? = some x → VRs x (F' i)
theorem ktakeN_some {t : KSt} : ∀ {l : List (List KV)} {n : Nat} {K : List (List KV) → R}, ktakeN l n K = some t → n ≤ l.length ∧ K (l.take n) = some t
  | l, 0, K, h => ⟨Nat.zero_le _, by cases l <;> exact h⟩
  | [], n + 1, K, h => nomatch h
  | x :: l, n + 1, K, h => by
    obtain ⟨h1, h2⟩ := ktakeN_some (l := l) (K := fun r => K (x :: r)) h
    exact ⟨by simpa using h1, h2⟩
theorem kcontE_sim (hH : HR S S') {sz : Nat} {v : KV} {v' : SV} (hv : VR v v') {K : Nat → List (List KV) → R} {t : KSt} (h : kcontE S sz v K = some t) : ∃ m F F', K m F = some t ∧ ER F m F' ∧ ∀ K' : Nat → (Nat → List SV) → Prop, K' m F' → contEK S' sz v' K' := by
  cases hv with
  | iv _ _ hv =>
    cases hv with
    | nilsl => exact ⟨_, _, _, h, ⟨rfl, fun i x hx => by simp at hx⟩, fun _ h => h⟩
    | int | byte | bool | str | nilptr | nilmap | nilfn | nilif | ip | sbs | sis => cases h
  | sl sz' n off len =>
    obtain ⟨o, h1, h2⟩ := KH.getR_some h
    obtain ⟨o', h3, h4⟩ := hH n o h1
    cases h4 with
    | arr sz2 m l E hl he =>
      obtain ⟨e, g⟩ := gd_some h2
      obtain ⟨e1, e2, e3⟩ := and3 e
      obtain ⟨g1, g2⟩ := ktakeN_some g
      have e3 := of_ble e3
      refine ⟨_, _, fun i => E (off + i), g2, ⟨by rw [List.length_take]; omega, fun i x hx => ?_⟩, fun K' hk => SH.getK_iff.2 ⟨_, h3, vc_iff.2 ⟨⟨ofb e1, ofb e2, e3⟩, hk⟩⟩⟩
      refine he (off + i) x ?_
      rw [List.getElem?_take] at hx
      split at hx
      · rwa [List.getElem?_drop] at hx
      · cases hx
    | cells | bytes | mp => cases h2
  | ptr | ixp | slx | map | agg | tup | fn => cases h
theorem kappE_sim (hH : HR S S') {sz b m : Nat} {v : KV} {v' : SV} {F : List (List KV)} {F' : Nat → List SV} (hF : ER F m F') : VR v v' → Sim3 (kappE S nx sz b v m F) (fun K => match v' with
    | .iv .nilsl => vc (b * m ≤ 140737488355328) (K (.sl sz nx.val 0 m) ((nx.val, .arr sz m F') :: S') (nx.val + 1))
    | .sl sz' n off len => SH.getK S' n fun o => match o with
      | .arr sz2 len2 E => vc (sz = sz' ∧ sz = sz2 ∧ off = 0 ∧ len = len2 ∧ b * (len + m) ≤ 140737488355328) (SH.delK S' n fun S' => K (.sl sz nx.val 0 (len + m)) ((nx.val, .arr sz (len + m) (joinE len E F')) :: S') (nx.val + 1))
      | _ => False
    | _ => False) := by
  intro hv
  cases hv with
  | iv _ _ h =>
    cases h with
    | nilsl => exact Sim3.gd fun e => Sim3.vc (of_ble e) (new3 hH (.sl _ _ _ _) (.arr _ _ _ _ hF.len hF.el))
    | int | byte | bool | str | nilptr | nilmap | nilfn | nilif | ip | sbs | sis => exact Sim3.none
  | sl sz' n off len =>
    refine (kget3 hH).bind3 fun o o' ho => ?_
    obtain ⟨ho, hg⟩ := ho
    cases ho with
    | arr sz2 len2 l E hl he =>
      refine Sim3.gd fun e => ?_
      simp only [Bool.and_eq_true] at e
      obtain ⟨⟨⟨⟨e1, e2⟩, e3⟩, e4⟩, e5⟩ := e
      obtain rfl := ofb e4
      refine Sim3.vc ⟨ofb e1, ofb e2, ofb e3, rfl, of_ble e5⟩ ?_
      intro K t h
      simp only [forR_eq, KH.delR_eq, kapp_eq] at h
      have ho : OR (.arr sz (len + m) (l ++ F)) (.arr sz (len + m) (joinE len E F')) := by
        refine .arr _ _ _ _ (by rw [List.length_append, hl, hF.len]) fun i x hx => ?_
        unfold joinE
        by_cases hi : i < len
        · rw [blt_of hi]
          rw [List.getElem?_append_left (by omega)] at hx
          exact he i x hx
        · have : Nat.blt i len = false := by
            cases hb : Nat.blt i len
            · rfl
            · exact absurd (of_blt hb) hi
          rw [this]
          rw [List.getElem?_append_right (by omega), hl] at hx
          exact hF.el _ x hx
      obtain ⟨u, T, nx', u', T', h4, h5, h6, h7⟩ := new3 (hH.del (n := n)) (VR.sl sz nx 0 (len + m)) ho K t h
      exact ⟨u, T, nx', u', T', h4, h5, h6, fun K' hk => SH.delK_iff.2 (h7 K' hk)⟩
    | cells | bytes | mp => exact Sim3.none
  | ptr | ixp | slx | map | agg | tup | fn => exact Sim3.none
end
end Sg
end Go.Proofs.YtfkboondffejaaaGreatDoor
set_option linter.unusedVariables false
set_option linter.unusedSimpArgs false
set_option linter.constructorNameAsVariable false
namespace Go.Proofs.YtfkboondffejaaaGreatDoor
namespace Sg
section
variable {G : KG} {G' : Gl} {fr : KT} {fr' : FT} {S : KH} {S' : SH} {nx : Pos}
theorem minN_eq (a b : Nat) : minN a b = min a b := by
  unfold minN
  rw [nble]
  by_cases h : a ≤ b
  · rw [decide_eq_true h]; show a = _; omega
  · rw [decide_eq_false h]; show b = _; omega
theorem kapps_eq : ∀ (a b : List Int), kapps a b = a ++ b
  | [], b => rfl
  | x :: a, b => by rw [kapps, kapps_eq a b]; rfl
theorem kcsts_sim {xs : List SV} : Sim (kcsts xs) (fun K => K xs) VRs := fun K t h => by
  obtain ⟨vs, h1, h2⟩ := kcsts_some h
  exact ⟨vs, xs, h1, h2, fun _ h => h⟩
theorem ksrc_sim (hH : HR S S') {v : KV} {v' : SV} (h : VR v v') : Sim (fun K : Nat × Nat → R => ksrc S v fun a b => K (a, b)) (srcK S' v') BR := by
  cases h with
  | iv _ _ h =>
    cases h with
    | str => exact Sim.none
    | nilsl => exact kcont_sim hH (.iv _ _ .nilsl)
    | int | byte | bool | nilptr | nilmap | nilfn | nilif | ip | sbs | sis => exact Sim.none
  | sl sz n off len => exact kcont_sim hH (.sl _ _ _ _)
  | slx sz n off len cap => exact kcont_sim hH (.slx sz n off len cap)
  | ptr | ixp | map | agg | tup | fn => exact Sim.none
theorem kcontI_sim (hH : HR S S') {v : KV} {v' : SV} (h : VR v v') {K : IntKind → List Int → R} {t : KSt} (hk : kcontI S v K = some t) : ∃ kd l, K kd l = some t ∧ ∀ K' : IntKind → List Int → Prop, K' kd l → contIK S' v' K' := by
  cases h with
  | slx sz n off len cap =>
    obtain ⟨o, h1, h2⟩ := KH.getR_some hk
    obtain ⟨o', h3, h4⟩ := hH n o h1
    cases h4 with
    | cells cs cs' h =>
      obtain ⟨r, r', h5, h6, h7⟩ := kdrop_sim h _ t h2
      cases h6 with
      | nil => cases h5
      | cons x y xs ys hxy hs =>
        cases hxy with
        | iv _ _ h =>
          cases h with
          | sis k m l hn =>
            obtain ⟨e, g⟩ := gd_some h5
            obtain ⟨e1, e2⟩ := and2 e
            exact ⟨k, l.take len, g, fun K' hk' => SH.getK_iff.2 ⟨_, h3, h7 _ (vc_iff.2 ⟨⟨ofb e1, of_ble e2⟩, by simpa [sub] using hk'⟩)⟩⟩
          | sbs | int | byte | bool | str | nilptr | nilsl | nilmap | nilfn | nilif | ip => cases h5
        | ptr | ixp | sl | slx | map | agg | tup | fn => cases h5
    | bytes | arr | mp => cases h2
  | iv _ _ h => cases h <;> cases hk
  | ptr | ixp | sl | map | agg | tup | fn => cases hk
theorem kspB_sim {src : List UInt8} {k : Nat} (hk : k ≤ src.length) : ∀ {cs : List KV} {cs' : List SV} {off : Nat}, VRs cs cs' → Sim (kspB cs off k (packL src)) (spliceBK cs' off (src.take k)) VRs
  | _, _, off, .nil => by cases off <;> exact Sim.none
  | _, _, off, .cons x y xs ys h hs => by
    have ih := fun o => kspB_sim (off := o) hk hs
    cases h with
    | iv _ _ h =>
      cases h with
      | sbs l n m hn hm =>
        intro K t hk2
        simp only [kspB, spliceBK] at hk2 ⊢
        cases hb : Nat.blt off n
        · rw [hb] at hk2
          obtain ⟨v, v', h1, h2, h3⟩ := ih _ _ t hk2
          exact ⟨_, _, h1, .cons _ _ _ _ (.iv _ _ (.sbs l n m hn hm)) h2, fun K' h => h3 (fun r => K' (.iv (.sbs n l) :: r)) h⟩
        · rw [hb] at hk2
          simp only [cond_true, forR_eq] at hk2 ⊢
          obtain ⟨e, g⟩ := gd_some hk2
          have e : off + k ≤ n := of_ble e
          subst hm
          rw [packL_put (by omega) hk] at g
          exact ⟨_, _, g, .cons _ _ _ _ (.iv _ _ (.sbs _ _ _ (by simp [splice1]; omega) rfl)) hs, fun K' h => vc_iff.2 ⟨by simp; omega, h⟩⟩
      | sis kd n l hn =>
        intro K t hk2
        simp only [kspB, spliceBK] at hk2 ⊢
        cases hb : Nat.blt off n
        · rw [hb] at hk2
          obtain ⟨v, v', h1, h2, h3⟩ := ih _ _ t hk2
          exact ⟨_, _, h1, .cons _ _ _ _ (.iv _ _ (.sis kd n l hn)) h2, fun K' h => h3 (fun r => K' (.iv (.sis kd n l) :: r)) h⟩
        · rw [hb] at hk2; cases hk2
      | int | byte | bool | str | nilptr | nilsl | nilmap | nilfn | nilif | ip => cases off with
        | zero => exact Sim.none
        | succ n => exact (ih n).bind fun v v' hv => Sim.pure (.cons _ _ _ _ (.iv _ _ (by constructor <;> assumption)) hv)
    | ptr | ixp | sl | slx | map | agg | tup | fn => cases off with
      | zero => exact Sim.none
      | succ n => exact (ih n).bind fun v v' hv => Sim.pure (.cons _ _ _ _ (by constructor <;> assumption) hv)
theorem kspI_sim {kd : IntKind} {src : List Int} : ∀ {cs : List KV} {cs' : List SV} {off : Nat}, VRs cs cs' → Sim (kspI kd cs off src) (spliceIK kd cs' off src) VRs
  | _, _, off, .nil => by cases off <;> exact Sim.none
  | _, _, off, .cons x y xs ys h hs => by
    have ih := fun o => kspI_sim (kd := kd) (src := src) (off := o) hs
    cases h with
    | iv _ _ h =>
      cases h with
      | sbs l n m hn hm =>
        intro K t hk2
        simp only [kspI, spliceIK] at hk2 ⊢
        cases hb : Nat.blt off n
        · rw [hb] at hk2
          obtain ⟨v, v', h1, h2, h3⟩ := ih _ _ t hk2
          exact ⟨_, _, h1, .cons _ _ _ _ (.iv _ _ (.sbs l n m hn hm)) h2, fun K' h => h3 (fun r => K' (.iv (.sbs n l) :: r)) h⟩
        · rw [hb] at hk2; cases hk2
      | sis k n l hn =>
        intro K t hk2
        simp only [kspI, spliceIK] at hk2 ⊢
        cases hb : Nat.blt off n
        · rw [hb] at hk2
          obtain ⟨v, v', h1, h2, h3⟩ := ih _ _ t hk2
          exact ⟨_, _, h1, .cons _ _ _ _ (.iv _ _ (.sis k n l hn)) h2, fun K' h => h3 (fun r => K' (.iv (.sis k n l) :: r)) h⟩
        · rw [hb] at hk2
          simp only [cond_true] at hk2 ⊢
          obtain ⟨e, g⟩ := gd_some hk2
          obtain ⟨e1, e2⟩ := and2 e
          have e2 : off + src.length ≤ n := of_ble e2
          rw [kapp_eq, kapps_eq] at g
          refine ⟨_, .iv (.sis k n (splice1 l off src)) :: ys, g, .cons _ _ _ _ (.iv _ _ ?_) hs, fun K' h => vc_iff.2 ⟨⟨eqIK_eq e1, e2⟩, h⟩⟩
          have : splice1 l off src = l.take off ++ (src ++ l.drop (Nat.add off src.length)) := by
            simp [splice1]
          rw [this]
          exact .sis _ _ _ (by simp; omega)
      | int | byte | bool | str | nilptr | nilsl | nilmap | nilfn | nilif | ip => cases off with
        | zero => exact Sim.none
        | succ n => exact (ih n).bind fun v v' hv => Sim.pure (.cons _ _ _ _ (.iv _ _ (by constructor <;> assumption)) hv)
    | ptr | ixp | sl | slx | map | agg | tup | fn => cases off with
      | zero => exact Sim.none
      | succ n => exact (ih n).bind fun v v' hv => Sim.pure (.cons _ _ _ _ (by constructor <;> assumption) hv)
theorem take_min {α : Type} (l : List α) (n : Nat) : l.take n = l.take (min l.length n) := by
  by_cases h : n ≤ l.length
  · rw [Nat.min_eq_right h]
  · rw [Nat.min_eq_left (by omega), List.take_of_length_le (by omega), List.take_of_length_le (Nat.le_refl _)]
theorem kcpy_sim (hH : HR S S') {x y : KV} {x' y' : SV} : VR x x' → VR y y' → Sim3 (kcpy S nx x y) (fun K => match x' with
    | .sl sz n off len => SH.getK S' n fun o => match o with
      | .bytes l => srcK S' y' fun src => vc (sz = 1 ∧ 0 < len ∧ off + len ≤ l.length) (SH.putK S' n (.bytes (splice1 l off (src.take len))) fun S' => K (.iv (.int .i64 (min src.length len : Nat))) S' nx.val)
      | _ => False
    | .slx sz n off len cap => SH.getK S' n fun o => match o with
      | .cells cs => dropK cs off fun r => match r with
        | .iv (.sbs m _) :: _ => srcK S' y' fun src => vc (sz = 1 ∧ len ≤ m) (spliceBK cs off (src.take len) fun cs' => SH.putK S' n (.cells cs') fun S' => K (.iv (.int .i64 (min src.length len : Nat))) S' nx.val)
        | .iv (.sis kd m _) :: _ => contIK S' y' fun kd' src => vc (sz = 1 ∧ kd = kd' ∧ len ≤ m) (spliceIK kd cs off (src.take len) fun cs' => SH.putK S' n (.cells cs') fun S' => K (.iv (.int .i64 (min src.length len : Nat))) S' nx.val)
        | _ => False
      | _ => False
    | _ => False) := by
  intro hx hy
  cases hx with
  | sl sz n off len =>
    refine (kget3 hH).bind3 fun o o' ho => ?_
    obtain ⟨ho, hg⟩ := ho
    cases ho with
    | bytes l p q hn hm =>
      subst hn hm
      intro K t h
      obtain ⟨⟨m, M⟩, src, h1, ⟨rfl, rfl⟩, h3⟩ := ksrc_sim hH hy (fun p => gd (Nat.beq sz 1 && Nat.blt 0 len && Nat.ble (Nat.add off len) l.length) (forR (minN p.1 len) fun k => forR (pput (packL l) off k p.2) fun N => KH.setR n S (.bytes l.length N) fun S => K (.int .i64 (.ofNat k)) S nx)) t h
      obtain ⟨e, g⟩ := gd_some h1
      obtain ⟨e1, e2, e3⟩ := and3 e
      have e3 : off + len ≤ l.length := of_ble e3
      simp only [forR_eq, minN_eq] at g
      rw [packL_put (by omega) (Nat.min_le_left _ _), ← take_min] at g
      have hl : (splice1 l off (src.take len)).length = l.length := by simp [splice1]; omega
      obtain ⟨u, T, nx', u', T', h4, h5, h6, h7⟩ := put3v (v' := .iv (.int .i64 (min src.length len : Nat))) hH hg (.bytes (splice1 l off (src.take len)) _ _ hl rfl) (.iv _ _ (.int _ _)) K t g
      exact ⟨u, T, nx', u', T', h4, h5, h6, fun K' hk => h3 _ (vc_iff.2 ⟨⟨ofb e1, of_blt e2, e3⟩, h7 K' hk⟩)⟩
    | cells | arr | mp => exact Sim3.none
  | slx sz n off len cap =>
    refine (kget3 hH).bind3 fun o o' ho => ?_
    obtain ⟨ho, hg⟩ := ho
    cases ho with
    | cells cs cs' h =>
      refine (kdrop_sim h).bind3 fun r r' hr => ?_
      cases hr with
      | nil => exact Sim3.none
      | cons x y xs ys hxy hs =>
        cases hxy with
        | iv _ _ hxy =>
          cases hxy with
          | sbs l m q hn hm =>
            intro K t hk
            obtain ⟨⟨m2, M⟩, src, h1, ⟨rfl, rfl⟩, h3⟩ := ksrc_sim hH hy (fun p => gd (Nat.beq sz 1 && Nat.ble len m) (forR (minN p.1 len) fun k => kspB cs off k p.2 fun cs => KH.setR n S (.cells cs) fun S => K (.int .i64 (.ofNat k)) S nx)) t hk
            obtain ⟨e, g⟩ := gd_some h1
            obtain ⟨e1, e2⟩ := and2 e
            simp only [forR_eq, minN_eq] at g
            obtain ⟨r, r', g1, g2, g3⟩ := kspB_sim (Nat.min_le_left src.length len) h _ t g
            rw [← take_min] at g3
            obtain ⟨u, T, nx', u', T', h4, h5, h6, h7⟩ := put3v (v' := .iv (.int .i64 (min src.length len : Nat))) hH hg (.cells _ _ g2) (.iv _ _ (.int _ _)) K t g1
            exact ⟨u, T, nx', u', T', h4, h5, h6, fun K' hk => h3 _ (vc_iff.2 ⟨⟨ofb e1, of_ble e2⟩, g3 _ (h7 K' hk)⟩)⟩
          | sis kd m l hn =>
            intro K t hk
            obtain ⟨kd', src, h1, h3⟩ := kcontI_sim hH hy hk
            obtain ⟨e, g⟩ := gd_some h1
            obtain ⟨e1, e2, e3⟩ := and3 e
            simp only [forR_eq, minN_eq] at g
            obtain ⟨r, r', g1, g2, g3⟩ := kspI_sim h _ t g
            obtain ⟨u, T, nx', u', T', h4, h5, h6, h7⟩ := put3v (v' := .iv (.int .i64 (min src.length len : Nat))) hH hg (.cells _ _ g2) (.iv _ _ (.int _ _)) K t g1
            exact ⟨u, T, nx', u', T', h4, h5, h6, fun K' hk => h3 _ (vc_iff.2 ⟨⟨ofb e1, eqIK_eq e2, of_ble e3⟩, g3 _ (h7 K' hk)⟩)⟩
          | int | byte | bool | str | nilptr | nilsl | nilmap | nilfn | nilif | ip => exact Sim3.none
        | ptr | ixp | sl | slx | map | agg | tup | fn => exact Sim3.none
    | bytes | arr | mp => exact Sim3.none
  | iv _ _ h => cases h <;> exact Sim3.none
  | ptr | ixp | map | agg | tup | fn => exact Sim3.none
theorem LR.er : ∀ {F : List (List KV)} {F' : List (List SV)}, LR F F' → F.length = F'.length ∧ ∀ i x, F[i]? = some x → VRs x (F'.getD i [])
  | _, _, .nil => ⟨rfl, fun i x hx => by simp at hx⟩
  | _, _, .cons _ _ _ _ h hs => by
    obtain ⟨h1, h2⟩ := hs.er
    refine ⟨by simp [h1], fun i x hx => ?_⟩
    cases i with
    | zero => simp at hx; subst hx; simpa using h
    | succ i => simpa using h2 i x (by simpa using hx)
theorem krep_eq {α : Type} (x : α) : ∀ (n : Nat) (K : List α → R), krep x n K = K (List.replicate n x)
  | 0, K => rfl
  | n + 1, K => by rw [krep, krep_eq x n]; rfl
theorem kh_sim {P : Program} (hG : GR G G') (hF : FR fr fr') (hH : HR S S') {c : COp} : Sim3 (kh G S nx fr c) (hop P G' S' nx.val fr' c) := by
  have ev := fun x => kev_sim (x := x) hG hF
  cases c
  case alloc cs => exact kcsts_sim.bind3 fun v v' hv => new3 hH (.ptr _ _) (.cells _ _ hv)
  case box x => exact (ev x).bind3 fun v v' hv => (kcells_sim hv).bind3 fun cs cs' hcs => new3 hH (.ptr _ _) (.cells _ _ hcs)
  case bslice sz len xs =>
    refine (kelems_sim hG hF).bind3 fun F F' hE => Sim3.gd fun e => ?_
    exact new3 hH (.sl _ _ _ _) (.arr _ _ _ _ (ofb e) hE.er.2)
  case bbytes xs =>
    refine (kbytes_sim hG hF).bind3 fun l l' hl => ?_
    exact Sim3.forR (T := fun n (K : KV → KH → Pos → R) => KH.newR S nx (.bytes n l) fun S nx' => K (.sl 1 nx 0 n) S nx') (new_bytes hH hl.2 hl.1)
  case mkb x =>
    refine (ev x).bind3 fun v v' hv => ?_
    cases hv with
    | iv _ _ h =>
      cases h with
      | int k n =>
        cases n with
        | negSucc n => exact Sim3.none
        | ofNat n =>
          refine Sim3.gd fun e => ?_
          have e := of_ble e
          refine Sim3.vc ⟨Int.natCast_nonneg n, by simp only [Int.ofNat_eq_natCast]; omega⟩ ?_
          exact new_bytes hH (l := List.replicate n 0) (by simp) (packL_zero n)
      | byte | bool | str | nilptr | nilsl | nilmap | nilfn | nilif | ip | sbs | sis => exact Sim3.none
    | ptr | ixp | sl | slx | map | agg | tup | fn => exact Sim3.none
  case mksl sz zero b x =>
    refine (ev x).bind3 fun v v' hv => ?_
    cases hv with
    | iv _ _ h =>
      cases h with
      | int k n =>
        cases n with
        | negSucc n => exact Sim3.none
        | ofNat n =>
          refine Sim3.gd fun e => ?_
          have e : b * n ≤ 140737488355328 := of_ble e
          refine Sim3.vc ⟨Int.natCast_nonneg n, ?_⟩ ?_
          · show ((b : Int) * (n : Int)) ≤ 140737488355328
            rw [← Int.natCast_mul]
            omega
          intro K t h
          obtain ⟨z, h1, h2⟩ := kcsts_some h
          rw [krep_eq] at h1
          refine new3 hH (.sl sz nx 0 n) (.arr sz n (List.replicate n z) (fun _ => zero) (by simp) fun i x hx => ?_) K t h1
          rw [List.getElem?_replicate] at hx
          split at hx
          · cases hx; exact h2
          · cases hx
      | byte | bool | str | nilptr | nilsl | nilmap | nilfn | nilif | ip | sbs | sis => exact Sim3.none
    | ptr | ixp | sl | slx | map | agg | tup | fn => exact Sim3.none
  case s2s x =>
    refine (ev x).bind3 fun v v' hv => ?_
    cases hv with
    | sl sz n off len =>
      refine (kget3 hH).bind3 fun o o' ho => ?_
      obtain ⟨ho, hg⟩ := ho
      cases ho with
      | bytes l p q hn hm =>
        refine Sim3.gd fun e => ?_
        obtain ⟨e1, e2⟩ := and2 e
        exact Sim3.vc ⟨by rw [hn]; exact of_blt e1, ofb e2⟩ (Sim3.pure (.inl (.sl _ _ _ _)) hH)
      | cells | arr | mp => exact Sim3.none
    | iv _ _ h => cases h <;> exact Sim3.none
    | ptr | ixp | slx | map | agg | tup | fn => exact Sim3.none
  case store1 a v => exact (ev a).bind3 fun a a' ha => (ev v).bind3 fun v v' hv => (ksingle_sim hv).bind3 fun u u' hu => kstore1_sim (nx := nx) hH ha hu
  case storeN n a v => exact (ev a).bind3 fun a a' ha => (ev v).bind3 fun v v' hv => kstoreN_sim (nx := nx) (n := n) hH ha hv
  case appb x y =>
    refine (ev x).bind3 fun v v' hv => (ev y).bind3 fun u u' hu => ?_
    intro K t h
    obtain ⟨⟨m, M⟩, l, h1, ⟨rfl, rfl⟩, h3⟩ := kcont_sim hH hu (fun p => kappb S nx v p.1 p.2 K) t h
    obtain ⟨u, T, nx', u', T', h4, h5, h6, h7⟩ := kappb_sim hH hv K t h1
    exact ⟨u, T, nx', u', T', h4, h5, h6, fun K' hk => h3 _ (h7 K' hk)⟩
  case appz x y =>
    refine (ev x).bind3 fun v v' hv => (ev y).bind3 fun u u' hu => ?_
    cases hu with
    | iv _ _ h =>
      cases h with
      | int k n =>
        cases n with
        | negSucc n => exact Sim3.none
        | ofNat n =>
          refine Sim3.gd fun e => ?_
          have e := of_ble e
          refine Sim3.vc ⟨Int.natCast_nonneg n, by simp only [Int.ofNat_eq_natCast]; omega⟩ ?_
          have := kappb_sim (nx := nx) hH hv (l := List.replicate n 0)
          rw [packL_zero, List.length_replicate] at this
          exact this
      | byte | bool | str | nilptr | nilsl | nilmap | nilfn | nilif | ip | sbs | sis => exact Sim3.none
    | ptr | ixp | sl | slx | map | agg | tup | fn => exact Sim3.none
  case app sz b x y =>
    refine (ev x).bind3 fun v v' hv => (ev y).bind3 fun u u' hu => ?_
    intro K t h
    obtain ⟨m, F, F', h1, h2, h3⟩ := kcontE_sim hH hu h
    obtain ⟨u, T, nx', u', T', h4, h5, h6, h7⟩ := kappE_sim hH h2 hv K t h1
    exact ⟨u, T, nx', u', T', h4, h5, h6, fun K' hk => h3 _ (h7 K' hk)⟩
  case mmk => exact new3 hH (.map _) (.mp _ _ .nil)
  case mset s x k v =>
    refine (ev x).bind3 fun x x' hx => (ev k).bind3 fun k k' hk => (ev v).bind3 fun v v' hv => ?_
    cases hx with
    | map n =>
      cases hk with
      | iv _ k' hk =>
        refine (kget3 hH).bind3 fun o o' ho => ?_
        obtain ⟨ho, hg⟩ := ho
        cases ho with
        | mp es es' h =>
          refine Sim3.gd fun e => ?_
          obtain ⟨e1, e2⟩ := and2 e
          exact Sim3.vc ⟨kisKey_iff hk hk e1, kallKeys_iff hk h e2⟩ ((kmput_sim hk hv h e2).bind3 fun r r' hr => put3 hH hg (.mp _ _ hr))
        | cells | bytes | arr => exact Sim3.none
      | ptr | ixp | sl | slx | map | agg | tup | fn =>
        intro K t h
        obtain ⟨o, h1, h2⟩ := KH.getR_some h
        cases o <;> cases h2
    | iv _ _ h => cases h <;> exact Sim3.none
    | ptr | ixp | sl | slx | agg | tup | fn => exact Sim3.none
  case mdel s x k =>
    refine (ev x).bind3 fun x x' hx => (ev k).bind3 fun k k' hk => ?_
    cases hx with
    | map n =>
      cases hk with
      | iv _ k' hk =>
        refine (kget3 hH).bind3 fun o o' ho => ?_
        obtain ⟨ho, hg⟩ := ho
        cases ho with
        | mp es es' h =>
          refine Sim3.gd fun e => ?_
          obtain ⟨e1, e2⟩ := and2 e
          exact Sim3.vc ⟨kisKey_iff hk hk e1, kallKeys_iff hk h e2⟩ ((kmdel_sim hk h e2).bind3 fun r r' hr => put3 hH hg (.mp _ _ hr))
        | cells | bytes | arr => exact Sim3.none
      | ptr | ixp | sl | slx | map | agg | tup | fn =>
        intro K t h
        obtain ⟨o, h1, h2⟩ := KH.getR_some h
        cases o <;> cases h2
    | iv _ _ h => cases h <;> exact Sim3.none
    | ptr | ixp | sl | slx | agg | tup | fn => exact Sim3.none
  case mclr x =>
    refine (ev x).bind3 fun x x' hx => ?_
    cases hx with
    | map n =>
      refine (kget3 hH).bind3 fun o o' ho => ?_
      obtain ⟨ho, hg⟩ := ho
      cases ho with
      | mp es es' h => exact put3 hH hg (.mp _ _ .nil)
      | cells | bytes | arr => exact Sim3.none
    | iv _ _ h => cases h <;> exact Sim3.none
    | ptr | ixp | sl | slx | agg | tup | fn => exact Sim3.none
  case cpy x y => exact (ev x).bind3 fun x x' hx => (ev y).bind3 fun y y' hy => kcpy_sim (nx := nx) hH hx hy
  all_goals exact Sim3.none
theorem kop_sim {P : Program} (hG : GR G G') (hF : FR fr fr') (hH : HR S S') {c : COp} : Sim3 (kop G S nx fr c) (opK P G' S' nx.val fr' c) := by
  unfold kop opK
  cases c.quiet
  · exact kh_sim hG hF hH
  · intro K t h
    obtain ⟨v, v', h1, h2, h3⟩ := kq_sim hG hF hH (fun v => K v S nx) t h
    exact ⟨v, S, nx, v', S', h1, .inl h2, hH, fun K' hk => h3 (fun v => K' v S' nx.val) hk⟩
end
end Sg
end Go.Proofs.YtfkboondffejaaaGreatDoor
set_option linter.unusedVariables false
set_option linter.unusedSimpArgs false
set_option linter.constructorNameAsVariable false
namespace Go.Proofs.YtfkboondffejaaaGreatDoor
namespace Sg
theorem FR.set {fr : KT} {fr' : FT} {p : Pth} {v : KV} {v' : SV} (h : FR fr fr') (hp : ∃ u, fr.get p = some u) (hv : VR v v') : FR (fr.set p v) (fr'.set p v') := by
  obtain ⟨u, hu⟩ := hp
  obtain ⟨u', hu', _⟩ := h p u hu
  intro q w hw
  by_cases e : p = q
  · subst e
    rw [KT.get_set_self hu] at hw
    cases hw
    exact ⟨v', FT.get_set_self hu', hv⟩
  · rw [KT.get_set_ne hu e] at hw
    rw [FT.get_set_ne hu' e]
    exact h q w hw
theorem kset1_sim {fr : KT} {fr' : FT} {p : Pth} {v : KV} {v' : SV} (h : FR fr fr') (hv : VR v v') : Sim (KT.setR fr p v) (FT.setK fr' p v') FR := fun K t hk => by
  obtain ⟨hp, h2⟩ := KT.setR_some hk
  refine ⟨_, _, h2, h.set hp hv, fun K' hk' => FT.setK_iff.2 ⟨?_, hk'⟩⟩
  obtain ⟨u, hu⟩ := hp
  obtain ⟨u', hu', _⟩ := h p u hu
  exact ⟨u', hu'⟩
theorem kFT_get : ∀ {t : FT} {p : Pth} {v : KV}, (kFT t).get p = some v → ∃ v', t.get p = some v' ∧ VR v v'
  | .nil, p, v, h => by cases p <;> cases h
  | .lf x, p, v, h => by
    simp only [kFT] at h
    split at h
    · cases p with
      | e => cases h; exact ⟨_, rfl, .tup _ _ .nil⟩
      | o p => cases h
      | i p => cases h
    · cases p <;> cases h
  | .nd l r, .e, v, h => by cases h
  | .nd l r, .o p, v, h => kFT_get (t := l) h
  | .nd l r, .i p, v, h => kFT_get (t := r) h
theorem kargs_sim : ∀ {ps : List Pth} {vs : List KV} {vs' : List SV} {fr : KT} {fr' : FT}, VRs vs vs' → FR fr fr' → Sim (kargs fr ps vs) (argK fr' ps vs') FR
  | [], _, _, fr, fr', .nil, hF => Sim.pure hF
  | [], _, _, fr, fr', .cons _ _ _ _ _ _, hF => Sim.none
  | _ :: _, _, _, fr, fr', .nil, hF => Sim.none
  | p :: ps, _, _, fr, fr', .cons v v' vs vs' h hs, hF => (kset1_sim hF h).bind fun fr fr' hF => kargs_sim hs hF
section
variable {G : KG} {G' : Gl} {fr : KT} {fr' : FT} {S : KH} {S' : SH}
theorem kdst_sim {dst : Option Pth} {v : KV} {v' : SV} (hF : FR fr fr') (hv : VR v v') : Sim (kdst fr dst v) (putK fr' dst v') FR := by
  cases dst with
  | none => exact Sim.pure hF
  | some p => exact kset1_sim hF hv
theorem kdst2_sim {dst : Option Pth} {v : KV} {v' : SV} (hF : FR fr fr') (hv : VJ v v') : Sim (kdst2 fr dst v) (putK fr' dst v') FR := by
  cases dst with
  | none => exact Sim.pure hF
  | some p =>
    intro K t h
    rcases hv with hv | ⟨rfl, rfl⟩
    · refine kset1_sim hF hv K t ?_
      unfold kdst2 at h
      split at h
      · rename_i e; cases e
      · rename_i e
        cases e
        split at h
        · cases h
        · exact h
    · cases h
theorem ksp_sim {sp : Bool} {v : KV} {v' : SV} (hv : VJ v v') : Sim (ksp sp v) (spK sp v') VJ := by
  cases sp with
  | false => exact Sim.pure hv
  | true =>
    rcases hv with hv | ⟨rfl, rfl⟩
    · cases hv with
      | iv _ _ h =>
        cases h with
        | bool b =>
          intro K t h
          refine ⟨_, _, h, .inl (.iv _ _ (.bool b)), fun K' hk => ?_⟩
          cases b <;> exact hk
        | byte | int | str | nilptr | nilsl | nilmap | nilfn | nilif | ip | sbs | sis => exact Sim.none
      | ptr | ixp | sl | slx | map | agg | tup | fn => exact Sim.none
    · exact Sim.none
theorem ksp_sim1 {sp : Bool} {v : KV} {v' : SV} (hv : VR v v') : Sim (ksp sp v) (spK sp v') VR := by
  cases sp with
  | false => exact Sim.pure hv
  | true =>
    cases hv with
    | iv _ _ h =>
      cases h with
      | bool b =>
        intro K t h
        refine ⟨_, _, h, (.iv _ _ (.bool b)), fun K' hk => ?_⟩
        cases b <;> exact hk
      | byte | int | str | nilptr | nilsl | nilmap | nilfn | nilif | ip | sbs | sis => exact Sim.none
    | ptr | ixp | sl | slx | map | agg | tup | fn => exact Sim.none
theorem kgd_sim {g : Option (Pth × Bool)} {yes no : R} {t : KSt} (h : kgd fr g yes no = some t) (hF : FR fr fr') : (yes = some t ∧ ∀ Y N : Prop, Y → gdK fr' g Y N) ∨ (no = some t ∧ ∀ Y N : Prop, N → gdK fr' g Y N) := by
  cases g with
  | none => exact .inl ⟨h, fun _ _ y => y⟩
  | some x =>
    obtain ⟨s, b⟩ := x
    obtain ⟨v, h1, h2⟩ := KT.getR_some (show KT.getR fr s _ = some t from h)
    obtain ⟨v', h3, h4⟩ := hF s v h1
    have key : ∀ Y N : Prop, (match (generalizing := false) v' with
      | .iv (.bool t) => cond (t == b) Y N
      | .tup [] => N
      | _ => False) → gdK fr' (some (s, b)) Y N := fun Y N hh => FT.getK_iff.2 ⟨v', h3, hh⟩
    cases h4 with
    | iv _ _ h =>
      cases h with
      | bool c =>
        cases c <;> cases b
        · exact .inl ⟨h2, fun Y N y => key Y N y⟩
        · exact .inr ⟨h2, fun Y N y => key Y N y⟩
        · exact .inr ⟨h2, fun Y N y => key Y N y⟩
        · exact .inl ⟨h2, fun Y N y => key Y N y⟩
      | byte | int | str | nilptr | nilsl | nilmap | nilfn | nilif | ip | sbs | sis => cases h2
    | tup cs cs' h =>
      cases h with
      | nil => exact .inr ⟨h2, fun Y N y => key Y N y⟩
      | cons => cases h2
    | ptr | ixp | sl | slx | map | agg | fn => cases h2
theorem kres_sim (hF : FR fr fr') (hH : HR S S') : ∀ {rs : List RV}, Sim (kres S fr rs) (resK S' fr' rs) VRs
  | [] => Sim.pure .nil
  | .t p :: ts => by
    intro K t h
    obtain ⟨v, h1, h2⟩ := KT.getR_some (show KT.getR fr p _ = some t from h)
    obtain ⟨v', h3, h4⟩ := hF p v h1
    obtain ⟨vs, vs', h5, h6, h7⟩ := kres_sim hF hH (rs := ts) _ t h2
    exact ⟨_, _, h5, .cons _ _ _ _ h4 h6, fun K' hk => FT.getK_iff.2 ⟨v', h3, h7 (fun vs => K' (v' :: vs)) hk⟩⟩
  | .c1 p :: ts => by
    intro K t h
    obtain ⟨v, h1, h2⟩ := KT.getR_some (show KT.getR fr p _ = some t from h)
    obtain ⟨v', h3, h4⟩ := hF p v h1
    cases h4 with
    | ptr n off =>
      obtain ⟨o, g1, g2⟩ := KH.getR_some h2
      obtain ⟨o', g3, g4⟩ := hH n o g1
      cases g4 with
      | cells cs cs' hcs =>
        obtain ⟨c, c', e1, e2, e3⟩ := kcell_sim hcs _ t g2
        obtain ⟨vs, vs', h5, h6, h7⟩ := kres_sim hF hH (rs := ts) _ t e1
        exact ⟨_, _, h5, .cons _ _ _ _ e2 h6, fun K' hk => FT.getK_iff.2 ⟨_, h3, SH.getK_iff.2 ⟨_, g3, e3 _ (h7 (fun vs => K' (c' :: vs)) hk)⟩⟩⟩
      | bytes | arr | mp => cases g2
    | iv _ _ h => cases h <;> cases h2
    | ixp | sl | slx | map | agg | tup | fn => cases h2
  | .cN m p :: ts => by
    intro K t h
    obtain ⟨v, h1, h2⟩ := KT.getR_some (show KT.getR fr p _ = some t from h)
    obtain ⟨v', h3, h4⟩ := hF p v h1
    cases h4 with
    | ptr n off =>
      obtain ⟨o, g1, g2⟩ := KH.getR_some h2
      obtain ⟨o', g3, g4⟩ := hH n o g1
      cases g4 with
      | cells cs cs' hcs =>
        obtain ⟨d, d', e1, e2, e3⟩ := kdrop_sim hcs _ t g2
        obtain ⟨c, c', e4, e5, e6⟩ := ktake_sim e2 _ t e1
        obtain ⟨vs, vs', h5, h6, h7⟩ := kres_sim hF hH (rs := ts) _ t e4
        exact ⟨_, _, h5, .cons _ _ _ _ (.agg _ _ e5) h6, fun K' hk => FT.getK_iff.2 ⟨_, h3, SH.getK_iff.2 ⟨_, g3, take_drop _ _ _ _ (e3 _ (e6 _ (h7 (fun vs => K' (.agg c' :: vs)) hk)))⟩⟩⟩
      | bytes | arr | mp => cases g2
    | iv _ _ h => cases h <;> cases h2
    | ixp | sl | slx | map | agg | tup | fn => cases h2
theorem kret_sim (hF : FR fr fr') (hH : HR S S') {rs : List RV} : Sim (kret S fr rs) (retK S' fr' rs) VR := by
  refine (kres_sim hF hH).bind fun vs vs' h => ?_
  cases h with
  | nil => exact Sim.pure (.tup _ _ .nil)
  | cons x y xs ys h hs =>
    cases hs with
    | nil => exact Sim.pure h
    | cons z w zs ws h2 hs => exact Sim.pure (.tup _ _ (.cons _ _ _ _ h (.cons _ _ _ _ h2 hs)))
inductive PR : KP → Pend → Prop
  | nil : PR [] []
  | cons (i : Nat) (n : Pos) (o : KObj) (o' : SObj) (p : KP) (p' : Pend) (h : OR o o') (hs : PR p p') : PR ((i, n, o) :: p) ((i, n.val, o') :: p')
theorem PR.app : ∀ {a b : KP} {a' b' : Pend}, PR a a' → PR b b' → PR (a ++ b) (a' ++ b')
  | _, _, _, _, .nil, h => h
  | _, _, _, _, .cons _ _ _ _ _ _ h hs, k => .cons _ _ _ _ _ _ h (hs.app k)
theorem ksplit_some {due : List Nat} {t : KSt} : ∀ {p : KP} {p' : Pend} {K : KP → KP → R}, PR p p' → ksplit p due K = some t → ∃ a b a' b', K a b = some t ∧ PR a a' ∧ PR b b' ∧ ∀ K' : Pend → Pend → Prop, K' a' b' → splitK p' due K'
  | _, _, K, .nil, h => ⟨[], [], [], [], h, .nil, .nil, fun _ h => h⟩
  | _, _, K, .cons i n o o' p p' ho hs, h => by
    obtain ⟨a, b, a', b', h1, h2, h3, h4⟩ := ksplit_some hs (show ksplit p due (fun a b => bif isIn i due then K ((i, n, o) :: a) b else K a ((i, n, o) :: b)) = some t from h)
    cases hi : isIn i due
    · rw [hi] at h1
      exact ⟨a, _, a', _, h1, h2, .cons _ _ _ _ _ _ ho h3, fun K' hk => h4 (fun a b => bif isIn i due then K' ((i, n.val, o') :: a) b else K' a ((i, n.val, o') :: b)) (by rw [hi]; exact hk)⟩
    · rw [hi] at h1
      exact ⟨_, b, _, b', h1, .cons _ _ _ _ _ _ ho h2, h3, fun K' hk => h4 (fun a b => bif isIn i due then K' ((i, n.val, o') :: a) b else K' a ((i, n.val, o') :: b)) (by rw [hi]; exact hk)⟩
theorem kadd_some {t : KSt} : ∀ {p : KP} {p' : Pend} {K : KH → R}, HR S S' → PR p p' → kadd S p K = some t → ∃ T, K T = some t ∧ HR T (p'.sh ++ S')
  | _, _, K, hH, .nil, h => ⟨S, h, hH⟩
  | _, _, K, hH, .cons i n o o' p p' ho hs, h => by
    obtain ⟨T, h1, h2⟩ := kadd_some hH hs (show kadd S p (fun S => KH.setR n S o K) = some t from h)
    rw [KH.setR_eq] at h1
    exact ⟨_, h1, h2.new ho⟩
mutual
theorem keqi_sound : ∀ {x y : KV} {x' y' : IV}, KI x x' → KI y y' → keq x y = true → ∀ K : Prop, K → eqiK x' y' K
  | _, _, _, _, .int k n, h2, e, K, hk => by
    cases h2 <;> first | (cases e; done) | skip
    case int k' n' =>
      obtain ⟨e1, e2⟩ := and2 e
      rw [eqZ_iff, decide_eq_true_iff] at e2
      exact vc_iff.2 ⟨⟨eqIK_eq e1, e2⟩, hk⟩
  | _, _, _, _, .byte b n h, h2, e, K, hk => by
    cases h2 <;> first | (cases e; done) | skip
    case byte b' n' h' => exact vc_iff.2 ⟨UInt8.toNat_inj.1 (by rw [h, h']; exact ofb e), hk⟩
  | _, _, _, _, .bool b, h2, e, K, hk => by
    cases h2 <;> first | (cases e; done) | skip
    case bool b' => exact vc_iff.2 ⟨by revert e; cases b <;> cases b' <;> simp [keq], hk⟩
  | _, _, _, _, .str l n m h1 h2, h3, e, K, hk => by
    cases h3 <;> first | (cases e; done) | skip
    case str l' n' m' h1' h2' =>
      obtain ⟨e1, e2⟩ := and2 e
      exact vc_iff.2 ⟨packL_inj (by rw [h1, h1']; exact ofb e1) (by rw [h2, h2']; exact ofb e2), hk⟩
  | _, _, _, _, .nilptr, h3, e, K, hk => by cases h3 <;> first | (cases e; done) | exact hk
  | _, _, _, _, .nilsl, h3, e, K, hk => by cases h3 <;> first | (cases e; done) | exact hk
  | _, _, _, _, .nilmap, h3, e, K, hk => by cases h3 <;> first | (cases e; done) | exact hk
  | _, _, _, _, .nilfn, h3, e, K, hk => by cases h3 <;> first | (cases e; done) | exact hk
  | _, _, _, _, .nilif, h3, e, K, hk => by cases h3 <;> first | (cases e; done) | exact hk
  | _, _, _, _, .ip cs cs' h, h3, e, K, hk => by
    cases h3 <;> first | (cases e; done) | skip
    case ip ds ds' h' => exact keqis_sound h h' (show keqs cs ds = true from e) K hk
  | _, _, _, _, .sbs l n m h1 h2, h3, e, K, hk => by
    cases h3 <;> first | (cases e; done) | skip
    case sbs l' n' m' h1' h2' =>
      obtain ⟨e1, e2⟩ := and2 e
      have e3 := packL_inj (by rw [h1, h1']; exact ofb e1) (show packL l = packL l' by rw [h2, h2']; exact ofb e2)
      exact vc_iff.2 ⟨⟨ofb e1, e3⟩, hk⟩
  | _, _, _, _, .sis k n l hn, h3, e, K, hk => by
    cases h3 <;> first | (cases e; done) | skip
    case sis k' n' l' hn' =>
      obtain ⟨e1, e2, e3⟩ := and3 e
      rw [eqIs_iff, decide_eq_true_iff] at e3
      exact vc_iff.2 ⟨⟨eqIK_eq e1, ofb e2, e3⟩, hk⟩
theorem keqis_sound : ∀ {x y : List KV} {x' y' : List IV}, KIs x x' → KIs y y' → keqs x y = true → ∀ K : Prop, K → eqisK x' y' K
  | _, _, _, _, .nil, .nil, e, K, hk => hk
  | _, _, _, _, .nil, .cons _ _ _ _ _ _, e, K, hk => by cases e
  | _, _, _, _, .cons _ _ _ _ _ _, .nil, e, K, hk => by cases e
  | _, _, _, _, .cons x x' xs xs' h hs, .cons y y' ys ys' k ks, e, K, hk => by
    obtain ⟨e1, e2⟩ := and2 (show (keq x y && keqs xs ys) = true from e)
    exact keqi_sound h k e1 _ (keqis_sound hs ks e2 K hk)
end
mutual
theorem keq_sound : ∀ {x y : KV} {x' y' : SV}, VR x x' → VR y y' → keq x y = true → ∀ K : Prop, K → eqvK x' y' K
  | _, _, _, _, .iv x x' h, h2, e, K, hk => by
    cases h2 with
    | iv y y' h2 => exact keqi_sound h h2 e K hk
    | ptr | ixp | sl | slx | map | agg | tup | fn => cases h <;> cases e
  | _, _, _, _, .ptr n o, h2, e, K, hk => by
    cases h2 with
    | iv y y' h2 => cases h2 <;> cases e
    | ptr n' o' =>
      obtain ⟨e1, e2⟩ := and2 e
      exact vc_iff.2 ⟨⟨by rw [Pos.eq_of_eqb e1], ofb e2⟩, hk⟩
    | ixp | sl | slx | map | agg | tup | fn => cases e
  | _, _, _, _, .ixp n o s i, h2, e, K, hk => by
    cases h2 with
    | iv y y' h2 => cases h2 <;> cases e
    | ixp n' o' s' i' =>
      simp only [keq, Bool.and_eq_true] at e
      obtain ⟨⟨⟨e1, e2⟩, e3⟩, e4⟩ := e
      exact vc_iff.2 ⟨⟨by rw [Pos.eq_of_eqb e1], ofb e2, ofb e3, ofb e4⟩, hk⟩
    | ptr | sl | slx | map | agg | tup | fn => cases e
  | _, _, _, _, .sl s n o l, h2, e, K, hk => by
    cases h2 with
    | iv y y' h2 => cases h2 <;> cases e
    | sl s' n' o' l' =>
      simp only [keq, Bool.and_eq_true] at e
      obtain ⟨⟨⟨e1, e2⟩, e3⟩, e4⟩ := e
      exact vc_iff.2 ⟨⟨ofb e1, by rw [Pos.eq_of_eqb e2], ofb e3, ofb e4⟩, hk⟩
    | ptr | ixp | slx | map | agg | tup | fn => cases e
  | _, _, _, _, .slx s n o l c, h2, e, K, hk => by
    cases h2 with
    | iv y y' h2 => cases h2 <;> cases e
    | slx s' n' o' l' c' =>
      simp only [keq, Bool.and_eq_true] at e
      obtain ⟨⟨⟨⟨e1, e2⟩, e3⟩, e4⟩, e5⟩ := e
      exact vc_iff.2 ⟨⟨ofb e1, by rw [Pos.eq_of_eqb e2], ofb e3, ofb e4, ofb e5⟩, hk⟩
    | ptr | ixp | sl | map | agg | tup | fn => cases e
  | _, _, _, _, .map n, h2, e, K, hk => by
    cases h2 with
    | iv y y' h2 => cases h2 <;> cases e
    | map n' => exact vc_iff.2 ⟨by rw [Pos.eq_of_eqb (show Pos.eqb n n' = true from e)], hk⟩
    | ptr | ixp | sl | slx | agg | tup | fn => cases e
  | _, _, _, _, .agg cs cs' h, h2, e, K, hk => by
    cases h2 with
    | iv y y' h2 => cases h2 <;> cases e
    | agg ds ds' h2 => exact keqs_sound h h2 (show keqs cs ds = true from e) K hk
    | ptr | ixp | sl | slx | map | tup | fn => cases e
  | _, _, _, _, .tup cs cs' h, h2, e, K, hk => by
    cases h2 with
    | iv y y' h2 => cases h2 <;> cases e
    | tup ds ds' h2 => exact keqs_sound h h2 (show keqs cs ds = true from e) K hk
    | ptr | ixp | sl | slx | map | agg | fn => cases e
  | _, _, _, _, .fn f, h2, e, K, hk => by
    cases h2 with
    | iv y y' h2 => cases h2 <;> cases e
    | fn f' => exact vc_iff.2 ⟨ofb e, hk⟩
    | ptr | ixp | sl | slx | map | agg | tup => cases e
theorem keqs_sound : ∀ {x y : List KV} {x' y' : List SV}, VRs x x' → VRs y y' → keqs x y = true → ∀ K : Prop, K → eqvsK x' y' K
  | _, _, _, _, .nil, .nil, e, K, hk => hk
  | _, _, _, _, .nil, .cons _ _ _ _ _ _, e, K, hk => by cases e
  | _, _, _, _, .cons _ _ _ _ _ _, .nil, e, K, hk => by cases e
  | _, _, _, _, .cons x x' xs xs' h hs, .cons y y' ys ys' k ks, e, K, hk => by
    obtain ⟨e1, e2⟩ := and2 (show (keq x y && keqs xs ys) = true from e)
    exact keq_sound h k e1 _ (keqs_sound hs ks e2 K hk)
end
theorem kre_some (hG : GR G G') (hF : FR fr fr') (hH : HR S S') {R0 : R} {t : KSt} : ∀ {os : List (Nat × ROp)}, kre G S fr os R0 = some t → R0 = some t ∧ ∀ K' : Prop, K' → reK G' S' fr' os K'
  | [], h => ⟨h, fun _ h => h⟩
  | (i, o) :: os, h => by
    have one : ∀ {v : KV} {v' : SV}, VR v v' → (match o.dst with
        | some d => KT.getR fr d fun v' => gd (keq v v') (kre G S fr os R0)
        | none => none) = some t → R0 = some t ∧ ∀ K' : Prop, K' → (match o.dst with
        | some d => FT.getK fr' d fun w => eqvK v' w (reK G' S' fr' os K')
        | none => False) := by
      intro v v' hv h
      cases hd : o.dst with
      | none => rw [hd] at h; cases h
      | some d =>
        rw [hd] at h
        obtain ⟨w, h1, h2⟩ := KT.getR_some h
        obtain ⟨w', h3, h4⟩ := hF d w h1
        obtain ⟨e, g⟩ := gd_some h2
        obtain ⟨g1, g2⟩ := kre_some hG hF hH g
        exact ⟨g1, fun K' hk => FT.getK_iff.2 ⟨w', h3, keq_sound hv h4 e _ (g2 K' hk)⟩⟩
    rcases kgd_sim (fr' := fr') h hF with ⟨h1, h2⟩ | ⟨h1, h2⟩
    · obtain ⟨v, v', h3, h4, h5⟩ := kq_sim hG hF hH _ t h1
      obtain ⟨h6, h7⟩ := one h4 h3
      exact ⟨h6, fun K' hk => h2 _ _ (h5 _ (h7 K' hk))⟩
    · obtain ⟨h6, h7⟩ := one (.tup _ _ .nil) h1
      exact ⟨h6, fun K' hk => h2 _ _ (h7 K' hk)⟩
theorem knew_some (hG : GR G G') (hF : FR fr fr') {nx : Pos} {c : COp} {K : KV → KObj → R} {t : KSt} (h : knew G nx fr c K = some t) : ∃ v o v' o', K v o = some t ∧ VR v v' ∧ OR o o' ∧ ∀ K' : SV → SObj → Prop, K' v' o' → nop G' fr' c fun mk ob => K' (mk nx.val) ob := by
  cases c
  case alloc cs =>
    obtain ⟨vs, h1, h2⟩ := kcsts_some h
    exact ⟨_, _, _, _, h1, .ptr _ _, .cells _ _ h2, fun K' hk => hk⟩
  case mmk => exact ⟨_, _, _, _, h, .map _, .mp _ _ .nil, fun K' hk => hk⟩
  case box x =>
    obtain ⟨v, v', h1, h2, h3⟩ := kev_sim hG hF _ t h
    obtain ⟨cs, cs', h4, h5, h6⟩ := kcells_sim h2 _ t h1
    exact ⟨_, _, _, _, h4, .ptr _ _, .cells _ _ h5, fun K' hk => h3 _ (h6 _ hk)⟩
  case bslice sz len xs =>
    obtain ⟨F, F', h1, h2, h3⟩ := kelems_sim hG hF _ t h
    obtain ⟨e, h4⟩ := gd_some h1
    exact ⟨_, _, _, _, h4, .sl _ _ _ _, .arr _ _ _ _ (ofb e) h2.er.2, fun K' hk => h3 _ hk⟩
  case bbytes xs =>
    obtain ⟨l, l', h1, h2, h3⟩ := kbytes_sim hG hF _ t h
    rw [forR_eq] at h1
    exact ⟨_, _, _, _, h1, .sl _ _ _ _, .bytes _ _ _ h2.2 h2.1, fun K' hk => h3 _ hk⟩
  all_goals cases h
theorem kgetP_some {i : Nat} {t : KSt} : ∀ {p : KP} {p' : Pend} {K : Pos → KObj → R}, PR p p' → kgetP p i K = some t → ∃ n o o', K n o = some t ∧ OR o o' ∧ ∀ K' : Nat → SObj → Prop, K' n.val o' → getP p' i K'
  | _, _, K, .nil, h => by cases h
  | _, _, K, .cons j n o o' p p' ho hs, h => by
    replace h : (bif Nat.beq j i then K n o else kgetP p i K) = some t := h
    cases e : Nat.beq j i
    · rw [e] at h
      obtain ⟨n, o, o', h1, h2, h3⟩ := kgetP_some hs (show kgetP p i K = some t from h)
      exact ⟨n, o, o', h1, h2, fun K' hk => by simp only [getP, e, cond_false]; exact h3 K' hk⟩
    · rw [e] at h
      exact ⟨n, o, o', h, ho, fun K' hk => by simp only [getP, e, cond_true]; exact hk⟩
theorem kms_sim (hG : GR G G') (hF : FR fr fr') {p : KP} {p' : Pend} (hp : PR p p') {c : COp} {src : Nat} : Sim (kms G fr p c src) (msK G' fr' p' c src) VR := by
  cases c
  case s2s x =>
    refine (kev_sim hG hF).bind fun v v' hv => ?_
    cases hv with
    | sl sz n off len =>
      intro K t h
      obtain ⟨m, o, o', h1, h2, h3⟩ := kgetP_some hp h
      cases h2 with
      | bytes l q r hn hm =>
        obtain ⟨e, g⟩ := gd_some h1
        obtain ⟨e1, e2, e3⟩ := and3 e
        obtain rfl := Pos.eq_of_eqb e1
        exact ⟨_, _, g, .sl _ _ _ _, fun K' hk => h3 _ (vc_iff.2 ⟨⟨rfl, ofb e2, by rw [hn]; exact of_blt e3⟩, hk⟩)⟩
      | cells | arr | mp => cases h1
    | iv _ _ h => cases h <;> exact Sim.none
    | ptr | ixp | slx | map | agg | tup | fn => exact Sim.none
  all_goals exact Sim.none
end
end Sg
end Go.Proofs.YtfkboondffejaaaGreatDoor
set_option linter.unusedVariables false
set_option linter.unusedSimpArgs false
set_option linter.constructorNameAsVariable false
namespace Go.Proofs.YtfkboondffejaaaGreatDoor
namespace Sg
section
variable (P : Program) (G' : Gl) (K0 : SV → SH → Nat → Prop)
def postRet (res : List RV) (K : SV → SH → Nat → Prop) : Post := fun x fr S nx => match x with
  | .exit _ => False
  | _ => retK S fr res fun v => K v S nx
inductive Sem : KK → Post → Prop
  | done (res : List RV) : Sem (.done res) (postRet res K0)
  | seq (b : CC) (k : KK) (Q : Post) (h : Sem k Q) : Sem (.seq b k) (fun x fr S nx => match x with | .norm => swp P G' (CallOb P G') b Q fr S nx | x => Q x fr S nx)
  | block (id : Nat) (k : KK) (Q : Post) (h : Sem k Q) : Sem (.block id k) (fun x fr S nx => match x with | .exit j => _root_.cond (Nat.beq j id) (Q .norm fr S nx) (Q (.exit j) fr S nx) | x => Q x fr S nx)
  | loop (a : CC) (k : KK) (Q : Post) (h : Sem k Q) (I : FT → SH → Nat → Prop)
      (hI : ∀ fr S nx, swp P G' (CallOb P G') a (fun x fr' S' nx' => match x with | .norm => I fr' S' nx' | x => Q x fr' S' nx') fr S nx → I fr S nx) : Sem (.loop a k) (fun x fr' S' nx' => match x with | .norm => I fr' S' nx' | x => Q x fr' S' nx')
  | call (fr : KT) (fr' : FT) (o : ROp) (os : List ROp) (res : List RV) (k : KK) (Q : Post) (hF : FR fr fr') (h : Sem k Q) :
      Sem (.call fr o os res k) (postRet res fun v S nx => spK o.sp v fun v => putK fr' o.dst v fun fr => regK P G' (CallOb P G') os fr S nx (Q .norm))
  | dcall (fr : KT) (fr' : FT) (o : ROp) (re : List (Nat × ROp)) (ds : List DStep) (p : KP) (p' : Pend) (res : List RV) (k : KK) (Q : Post) (hF : FR fr fr') (hp : PR p p') (h : Sem k Q) :
      Sem (.dcall fr o re ds p res k) (postRet res fun v S nx => spK o.sp v fun v => putK fr' o.dst v fun fr => reK G' S fr re (dregK P G' (CallOb P G') ds fr p' S nx (Q .norm)))
def MS : KSt → Prop
  | .code c k fr S nx => ∀ fr' S' Q, FR fr fr' → HR S S' → Sem P G' K0 k Q → swp P G' (CallOb P G') c Q fr' S' nx.val
  | .ops os k fr S nx => ∀ fr' S' Q, FR fr fr' → HR S S' → Sem P G' K0 k Q → regK P G' (CallOb P G') os fr' S' nx.val (Q .norm)
  | .dops ds p k fr S nx => ∀ fr' S' p' Q, FR fr fr' → HR S S' → PR p p' → Sem P G' K0 k Q → dregK P G' (CallOb P G') ds fr' p' S' nx.val (Q .norm)
  | .exit x k fr S nx => ∀ fr' S' Q, FR fr fr' → HR S S' → Sem P G' K0 k Q → Q x fr' S' nx.val
  | .fin v S nx => ∀ v' S', VR v v' → HR S S' → K0 v' S' nx.val
def TOk (T : KTab) : Prop := ∀ f F, T f = some F → chkFunc P (chkD P) f F = true
def XOk (X : KPr) : Prop := ∀ f x, X f = some x → ∀ (vs : List KV) (vs' : List SV) (S : KH) (S' : SH) (nx : Pos) (K : KV → KH → Pos → R) (t : KSt), VRs vs vs' → HR S S' → x vs S nx K = some t →
  ∃ v T nx2 v' T', K v T nx2 = some t ∧ VR v v' ∧ HR T T' ∧ ∀ K' : SV → SH → Nat → Prop, K' v' T' nx2.val → CallOb P G' f vs' S' nx.val K'
end
section
variable {P : Program} {G : KG} {G' : Gl} {K0 : SV → SH → Nat → Prop} {T : KTab} {X : KPr}
theorem kcall_some (hG : GR G G') (hT : TOk P T) (hX : XOk P G' X) {fr : KT} {fr' : FT} {S : KH} {S' : SH} {f : Nat} {args : List Opd} {nx : Pos} {run : CF → KT → R} {fin : KV → KH → Pos → R} {t : KSt}
    (hF : FR fr fr') (hH : HR S S') (h : kcall G T X fr f args S nx run fin = some t) :
    (∃ F fr2 fr2', run F fr2 = some t ∧ FR fr2 fr2' ∧ ∀ K' : SV → SH → Nat → Prop, swp P G' (CallOb P G') F.code (postRet F.res K') fr2' S' nx.val → evsK G' fr' args fun vs => CallOb P G' f vs S' nx.val K') ∨
    (∃ v S2 nx2 v' S2', fin v S2 nx2 = some t ∧ VR v v' ∧ HR S2 S2' ∧ ∀ K' : SV → SH → Nat → Prop, K' v' S2' nx2.val → evsK G' fr' args fun vs => CallOb P G' f vs S' nx.val K') := by
  obtain ⟨vs, vs', h1, h2, h3⟩ := kevs_sim hG hF _ t h
  cases hx : X f with
  | some x =>
    simp only [hx] at h1
    obtain ⟨v, S2, nx2, v', S2', g1, g2, g3, g4⟩ := hX f x hx vs vs' S S' nx fin t h2 hH h1
    exact .inr ⟨v, S2, nx2, v', S2', g1, g2, g3, fun K' hk => h3 _ (g4 K' hk)⟩
  | none =>
    simp only [hx] at h1
    cases hf : T f with
    | none => simp only [hf] at h1; cases h1
    | some F =>
      simp only [hf] at h1
      obtain ⟨fr2, fr2', g1, g2, g3⟩ := kargs_sim h2 (show FR (kFT F.fr0) F.fr0 from fun p v hp => kFT_get hp) _ t h1
      refine .inl ⟨F, fr2, fr2', g1, g2, fun K' hk => h3 _ (body_sound chkD_ok (hT f F hf) ?_)⟩
      exact g3 _ hk
theorem kstep_sound (hG : GR G G') (hT : TOk P T) (hX : XOk P G' X) {s : KSt} {K : KSt → R} {t : KSt} (h : kstep G T X s K = some t) (hK : ∀ s', K s' = some t → MS P G' K0 s') : MS P G' K0 s := by
  cases s with
  | code c k fr S nx =>
    intro fr' S' Q hF hH hQ
    cases c with
    | skip => exact hK _ h fr' S' Q hF hH hQ
    | reg os => exact hK _ h fr' S' Q hF hH hQ
    | dreg ds => exact hK _ h fr' S' [] Q hF hH .nil hQ
    | seq a b => exact hK _ h fr' S' _ hF hH (.seq b k Q hQ)
    | cond c a b =>
      obtain ⟨v, v', h1, h2, h3⟩ := kev_sim hG hF _ t h
      refine h3 _ ?_
      cases h2 with
      | iv _ _ h =>
        cases h with
        | bool b =>
          cases b
          · exact hK _ h1 fr' S' Q hF hH hQ
          · exact hK _ h1 fr' S' Q hF hH hQ
        | byte | int | str | nilptr | nilsl | nilmap | nilfn | nilif | ip | sbs | sis => cases h1
      | ptr | ixp | sl | slx | map | agg | tup | fn => cases h1
    | block id a => exact hK _ h fr' S' _ hF hH (.block id k Q hQ)
    | loop a =>
      intro I hI
      exact hI _ _ _ (hK _ h fr' S' _ hF hH (.loop a k Q hQ I hI))
    | exit id => exact hK _ h fr' S' Q hF hH hQ
    | ret => exact hK _ h fr' S' Q hF hH hQ
    | trap => cases h
  | ops os k fr S nx =>
    intro fr' S' Q hF hH hQ
    cases os with
    | nil => exact hK _ h fr' S' Q hF hH hQ
    | cons o os =>
      rcases kgd_sim (fr' := fr') h hF with ⟨h1, h2⟩ | ⟨h1, h2⟩
      · refine h2 _ _ ?_
        have other : (kop G S nx fr o.c fun v S nx => ksp o.sp v fun v => kdst2 fr o.dst v fun fr => K (.ops os k fr S nx)) = some t → opK P G' S' nx.val fr' o.c fun v S nx => spK o.sp v fun v => putK fr' o.dst v fun fr => regK P G' (CallOb P G') os fr S nx (Q .norm) := by
          intro h1
          obtain ⟨v, S2, nx2, v', S2', g1, g2, g3, g4⟩ := kop_sim (P := P) hG hF hH _ t h1
          obtain ⟨u, u', g5, g6, g7⟩ := ksp_sim g2 _ t g1
          obtain ⟨fr2, fr2', g8, g9, g10⟩ := kdst2_sim hF g6 _ t g5
          exact g4 _ (g7 _ (g10 _ (hK _ g8 fr2' S2' Q g9 g3 hQ)))
        cases hc : o.c with
        | call f args =>
          simp only [hc] at h1
          rcases kcall_some hG hT hX hF hH h1 with ⟨F, fr2, fr2', g1, g2, g3⟩ | ⟨v, S2, nx2, v', S2', g1, g2, g3, g4⟩
          · refine g3 _ ?_
            exact hK _ g1 fr2' S' _ g2 hH (.call fr fr' o os F.res k Q hF hQ)
          · refine g4 _ ?_
            obtain ⟨u, u', g5, g6, g7⟩ := ksp_sim1 g2 _ t g1
            obtain ⟨fr2, fr2', g8, g9, g10⟩ := kdst_sim hF g6 _ t g5
            exact g7 _ (g10 _ (hK _ g8 fr2' S2' Q g9 g3 hQ))
        | _ => rw [hc] at other; simp only [hc] at h1; exact other h1
      · refine h2 _ _ ?_
        obtain ⟨fr2, fr2', g8, g9, g10⟩ := kdst_sim hF (.tup _ _ .nil) _ t h1
        exact g10 _ (hK _ g8 fr2' S' Q g9 hH hQ)
  | dops ds p k fr S nx =>
    intro fr' S' p' Q hF hH hp hQ
    cases ds with
    | nil =>
      obtain ⟨T2, g1, g2⟩ := kadd_some hH hp h
      exact hK _ g1 fr' _ Q hF g2 hQ
    | cons d ds =>
      cases d with
      | q i o =>
        rcases kgd_sim (fr' := fr') h hF with ⟨h1, h2⟩ | ⟨h1, h2⟩
        · refine h2 _ _ ?_
          obtain ⟨v, v', g1, g2, g3⟩ := kq_sim hG hF hH _ t h1
          obtain ⟨u, u', g5, g6, g7⟩ := ksp_sim1 g2 _ t g1
          obtain ⟨fr2, fr2', g8, g9, g10⟩ := kdst_sim hF g6 _ t g5
          exact g3 _ (g7 _ (g10 _ (hK _ g8 fr2' S' p' Q g9 hH hp hQ)))
        · refine h2 _ _ ?_
          obtain ⟨fr2, fr2', g8, g9, g10⟩ := kdst_sim hF (.tup _ _ .nil) _ t h1
          exact g10 _ (hK _ g8 fr2' S' p' Q g9 hH hp hQ)
      | al i o =>
        rcases kgd_sim (fr' := fr') h hF with ⟨h1, h2⟩ | ⟨h1, h2⟩
        · refine h2 _ _ ?_
          obtain ⟨v, ob, v', ob', g1, g2, g3, g4⟩ := knew_some hG hF h1
          obtain ⟨fr2, fr2', g8, g9, g10⟩ := kdst_sim hF g2 _ t g1
          rw [Pos.succR_eq, kapp_eq] at g8
          refine g4 (fun v ob => putK fr' o.dst v fun fr => dregK P G' (CallOb P G') ds fr (p' ++ [(i, nx.val, ob)]) S' (nx.val + 1) (Q .norm)) (g10 _ ?_)
          have := hK _ g8 fr2' S' _ Q g9 hH (hp.app (.cons i nx ob ob' _ _ g3 .nil)) hQ
          rw [Pos.val_succ] at this
          exact this
        · refine h2 _ _ ?_
          obtain ⟨fr2, fr2', g8, g9, g10⟩ := kdst_sim hF (.tup _ _ .nil) _ t h1
          exact g10 _ (hK _ g8 fr2' S' p' Q g9 hH hp hQ)
      | ms i o src =>
        rcases kgd_sim (fr' := fr') h hF with ⟨h1, h2⟩ | ⟨h1, h2⟩
        · refine h2 _ _ ?_
          obtain ⟨v, v', g1, g2, g3⟩ := kms_sim hG hF hp _ t h1
          obtain ⟨fr2, fr2', g8, g9, g10⟩ := kdst_sim hF g2 _ t g1
          exact g3 _ (g10 _ (hK _ g8 fr2' S' p' Q g9 hH hp hQ))
        · refine h2 _ _ ?_
          obtain ⟨fr2, fr2', g8, g9, g10⟩ := kdst_sim hF (.tup _ _ .nil) _ t h1
          exact g10 _ (hK _ g8 fr2' S' p' Q g9 hH hp hQ)
      | ef i o due re =>
        obtain ⟨a, b, a', b', h1, ha, hb, h4⟩ := ksplit_some hp h
        refine h4 _ ?_
        obtain ⟨T2, h5, hH2⟩ := kadd_some hH ha h1
        rcases kgd_sim (fr' := fr') h5 hF with ⟨h1, h2⟩ | ⟨h1, h2⟩
        · refine h2 _ _ ?_
          have other : (kop G T2 nx fr o.c fun v S nx => ksp o.sp v fun v => kdst2 fr o.dst v fun fr => kre G S fr re (K (.dops ds b k fr S nx))) = some t → opK P G' (a'.sh ++ S') nx.val fr' o.c fun v S nx => spK o.sp v fun v => putK fr' o.dst v fun fr => reK G' S fr re (dregK P G' (CallOb P G') ds fr b' S nx (Q .norm)) := by
            intro h1
            obtain ⟨v, S2, nx2, v', S2', g1, g2, g3, g4⟩ := kop_sim (P := P) hG hF hH2 _ t h1
            obtain ⟨u, u', g5, g6, g7⟩ := ksp_sim g2 _ t g1
            obtain ⟨fr2, fr2', g8, g9, g10⟩ := kdst2_sim hF g6 _ t g5
            obtain ⟨g11, g12⟩ := kre_some hG g9 g3 g8
            exact g4 _ (g7 _ (g10 _ (g12 _ (hK _ g11 fr2' S2' b' Q g9 g3 hb hQ))))
          cases hc : o.c with
          | call f args =>
            simp only [hc] at h1
            rcases kcall_some hG hT hX hF hH2 h1 with ⟨F, fr2, fr2', g1, g2, g3⟩ | ⟨v, S2, nx2, v', S2', g1, g2, g3, g4⟩
            · refine g3 _ ?_
              exact hK _ g1 fr2' _ _ g2 hH2 (.dcall fr fr' o re ds b b' F.res k Q hF hb hQ)
            · refine g4 _ ?_
              obtain ⟨u, u', g5, g6, g7⟩ := ksp_sim1 g2 _ t g1
              obtain ⟨fr2, fr2', g8, g9, g10⟩ := kdst_sim hF g6 _ t g5
              obtain ⟨g11, g12⟩ := kre_some hG g9 g3 g8
              exact g7 _ (g10 _ (g12 _ (hK _ g11 fr2' S2' b' Q g9 g3 hb hQ)))
          | _ => rw [hc] at other; simp only [hc] at h1; exact other h1
        · refine h2 _ _ ?_
          obtain ⟨fr2, fr2', g8, g9, g10⟩ := kdst_sim hF (.tup _ _ .nil) _ t h1
          obtain ⟨g11, g12⟩ := kre_some hG g9 hH2 g8
          exact g10 _ (g12 _ (hK _ g11 fr2' _ b' Q g9 hH2 hb hQ))
  | exit x k fr S nx =>
    intro fr' S' Q hF hH hQ
    cases hQ with
    | done res =>
      cases x with
      | exit j => cases h
      | norm =>
        obtain ⟨v, v', h1, h2, h3⟩ := kret_sim hF hH _ t h
        exact h3 (fun v => K0 v S' nx.val) (hK _ h1 v' S' h2 hH)
      | ret =>
        obtain ⟨v, v', h1, h2, h3⟩ := kret_sim hF hH _ t h
        exact h3 (fun v => K0 v S' nx.val) (hK _ h1 v' S' h2 hH)
    | seq b k Q hQ =>
      cases x with
      | norm => exact hK _ h fr' S' Q hF hH hQ
      | exit j => exact hK _ h fr' S' Q hF hH hQ
      | ret => exact hK _ h fr' S' Q hF hH hQ
    | block id k Q hQ =>
      cases x with
      | norm => exact hK _ h fr' S' Q hF hH hQ
      | exit j =>
        replace h : (bif Nat.beq j id then K (.exit .norm k fr S nx) else K (.exit (.exit j) k fr S nx)) = some t := h
        show _root_.cond (Nat.beq j id) (Q .norm fr' S' nx.val) (Q (.exit j) fr' S' nx.val)
        cases hb : Nat.beq j id
        · rw [hb] at h; exact hK _ h fr' S' Q hF hH hQ
        · rw [hb] at h; exact hK _ h fr' S' Q hF hH hQ
      | ret => exact hK _ h fr' S' Q hF hH hQ
    | loop a k Q hQ I hI =>
      cases x with
      | norm => exact hI _ _ _ (hK _ h fr' S' _ hF hH (.loop a k Q hQ I hI))
      | exit j => exact hK _ h fr' S' Q hF hH hQ
      | ret => exact hK _ h fr' S' Q hF hH hQ
    | call fr2 fr2' o os res k Q hF2 hQ =>
      have fin : kret S fr res (fun v => ksp o.sp v fun v => kdst fr2 o.dst v fun fr' => K (.ops os k fr' S nx)) = some t → retK S' fr' res fun v => spK o.sp v fun v => putK fr2' o.dst v fun fr => regK P G' (CallOb P G') os fr S' nx.val (Q .norm) := by
        intro h
        obtain ⟨v, v', h1, h2, h3⟩ := kret_sim hF hH _ t h
        obtain ⟨u, u', g5, g6, g7⟩ := ksp_sim1 h2 _ t h1
        obtain ⟨fr3, fr3', g8, g9, g10⟩ := kdst_sim hF2 g6 _ t g5
        exact h3 _ (g7 _ (g10 _ (hK _ g8 fr3' S' Q g9 hH hQ)))
      cases x with
      | exit j => cases h
      | norm => exact fin h
      | ret => exact fin h
    | dcall fr2 fr2' o re ds p p' res k Q hF2 hp hQ =>
      have fin : kret S fr res (fun v => ksp o.sp v fun v => kdst fr2 o.dst v fun fr' => kre G S fr' re (K (.dops ds p k fr' S nx))) = some t → retK S' fr' res fun v => spK o.sp v fun v => putK fr2' o.dst v fun fr => reK G' S' fr re (dregK P G' (CallOb P G') ds fr p' S' nx.val (Q .norm)) := by
        intro h
        obtain ⟨v, v', h1, h2, h3⟩ := kret_sim hF hH _ t h
        obtain ⟨u, u', g5, g6, g7⟩ := ksp_sim1 h2 _ t h1
        obtain ⟨fr3, fr3', g8, g9, g10⟩ := kdst_sim hF2 g6 _ t g5
        obtain ⟨g11, g12⟩ := kre_some hG g9 hH g8
        exact h3 _ (g7 _ (g10 _ (g12 _ (hK _ g11 fr3' S' p' Q g9 hH hp hQ))))
      cases x with
      | exit j => cases h
      | norm => exact fin h
      | ret => exact fin h
  | fin v S nx => cases h
theorem iter_sound (hG : GR G G') (hT : TOk P T) (hX : XOk P G' X) : ∀ {n : Nat} {s t : KSt}, iter G T X n s = some t → MS P G' K0 t → MS P G' K0 s
  | 0, s, t, h, ht => by cases h; exact ht
  | n + 1, s, t, h, ht => kstep_sound hG hT hX (show kstep G T X s (iter G T X n) = some t from h) fun s' hs' => iter_sound hG hT hX hs' ht
theorem call_sound (hT : TOk P T) {f : Nat} {F : CF} (hf : T f = some F) {vs : List KV} {vs' : List SV} {S : KH} {S' : SH} {nx : Pos} (hs : VRs vs vs') (hH : HR S S') {fr : KT} (ha : kargs (kFT F.fr0) F.par vs (fun fr => some (.code F.code (.done F.res) fr S nx)) = some (.code F.code (.done F.res) fr S nx))
    (h : MS P G' K0 (.code F.code (.done F.res) fr S nx)) : CallOb P G' f vs' S' nx.val K0 := by
  obtain ⟨fr2, fr2', g1, g2, g3⟩ := kargs_sim hs (show FR (kFT F.fr0) F.fr0 from fun p v hp => kFT_get hp) _ _ ha
  cases g1
  exact body_sound chkD_ok (hT f F hf) (g3 _ (h fr2' S' _ g2 hH (.done F.res)))
end
end Sg
end Go.Proofs.YtfkboondffejaaaGreatDoor
set_option linter.unusedVariables false
set_option linter.unusedSimpArgs false
namespace Go.Proofs.YtfkboondffejaaaGreatDoor
namespace Sg
def CC.s1 : CC → CC
  | .seq a _ => a
  | .cond _ a _ => a
  | .block _ a => a
  | .loop a => a
  | c => c
def CC.s2 : CC → CC
  | .seq _ b => b
  | .cond _ _ b => b
  | c => c
def CC.os : CC → List ROp
  | .reg os => os
  | _ => []
def CC.ds : CC → List DStep
  | .dreg ds => ds
  | _ => []
def dropO (n : Nat) (os : List ROp) : List ROp := os.drop n
def dropD (n : Nat) (os : List DStep) : List DStep := os.drop n
def nthO (n : Nat) (os : List ROp) : ROp := (os.drop n).headD ⟨.bad, none, none, false⟩
def opD (n : Nat) (ds : List DStep) : ROp := match (ds.drop n).headD (.q 0 ⟨.bad, none, none, false⟩) with
  | .q _ o => o
  | .al _ o => o
  | .ms _ o _ => o
  | .ef _ o _ _ => o
def reD (n : Nat) (ds : List DStep) : List (Nat × ROp) := match (ds.drop n).headD (.q 0 ⟨.bad, none, none, false⟩) with
  | .ef _ _ _ re => re
  | _ => []
def pk : List (Nat × Nat) → Nat
  | [] => 0
  | (i, n) :: l => Nat.add (Nat.shiftLeft n i) (pk l)
inductive TT : Type
  | nil
  | lf (k : Nat) (F : CF)
  | nd (m : Nat) (l r : TT)
noncomputable def TT.get (t : TT) : Nat → Option CF :=
  TT.rec (motive := fun _ => Nat → Option CF) (fun _ => none) (fun k F n => bif Nat.beq n k then some F else none) (fun m _ _ il ir n => bif Nat.blt n m then il n else ir n) t
def TT.Ok (P : Program) : TT → Prop
  | .nil => True
  | .lf k F => chkFunc P (chkD P) k F = true
  | .nd _ l r => TT.Ok P l ∧ TT.Ok P r
theorem TT.ok {P : Program} : ∀ {t : TT}, TT.Ok P t → TOk P (TT.get t)
  | .nil, _, f, F, h => nomatch h
  | .lf k F', o, f, F, h => by
    replace h : (bif Nat.beq f k then some F' else none) = some F := h
    cases e : Nat.beq f k
    · rw [e] at h; cases h
    · rw [e] at h
      cases h
      obtain rfl := ofb e
      exact o
  | .nd m l r, o, f, F, h => by
    replace h : (bif Nat.blt f m then TT.get l f else TT.get r f) = some F := h
    cases e : Nat.blt f m
    · rw [e] at h; exact TT.ok o.2 f F h
    · rw [e] at h; exact TT.ok o.1 f F h
inductive KM : Type
  | no
  | nd (l : KM) (b : Bool) (r : KM)
noncomputable section
def maskH (m : KM) : KH → KH :=
  KM.rec (motive := fun _ => KH → KH) (fun _ => .nil) (fun l b r il ir S => KH.casesOn S .nil fun l' v r' => .nd (il l') (Bool.casesOn b none v) (ir r')) m
def maskS (m : KM) (s : KSt) : KSt := match s with
  | .code c k fr S nx => .code c k fr (maskH m S) nx
  | .ops os k fr S nx => .ops os k fr (maskH m S) nx
  | .dops ds p k fr S nx => .dops ds p k fr (maskH m S) nx
  | .exit x k fr S nx => .exit x k fr (maskH m S) nx
  | .fin v S nx => .fin v (maskH m S) nx
def iterM (G : KG) (T : KTab) (X : KPr) (n : Nat) (m : KM) (s : KSt) : R := Option.casesOn (motive := fun _ => R) (iter G T X n s) none fun t => some (maskS m t)
end
theorem maskH_get : ∀ {m : KM} {S : KH} {n : Pos} {o : KObj}, (maskH m S).get n = some o → S.get n = some o
  | .no, S, n, o, h => by
    have : (maskH .no S).get n = none := KH.get_nil n
    rw [this] at h; cases h
  | .nd l b r, .nil, n, o, h => h
  | .nd l b r, .nd l' v r', .h, o, h => by
    cases b
    · cases h
    · exact h
  | .nd l b r, .nd l' v r', .o p, o, h => maskH_get (m := l) (S := l') h
  | .nd l b r, .nd l' v r', .i p, o, h => maskH_get (m := r) (S := r') h
theorem HR.mask {m : KM} {S : KH} {S' : SH} (h : HR S S') : HR (maskH m S) S' := fun n o hn => h n o (maskH_get hn)
section
variable {P : Program} {G : KG} {G' : Gl} {K0 : SV → SH → Nat → Prop} {T : KTab} {X : KPr}
theorem MS.mask {m : KM} {s : KSt} (h : MS P G' K0 (maskS m s)) : MS P G' K0 s := by
  cases s with
  | code c k fr S nx => exact fun fr' S' Q a b d => h fr' S' Q a b.mask d
  | ops os k fr S nx => exact fun fr' S' Q a b d => h fr' S' Q a b.mask d
  | dops ds p k fr S nx => exact fun fr' S' p' Q a b c d => h fr' S' p' Q a b.mask c d
  | exit x k fr S nx => exact fun fr' S' Q a b d => h fr' S' Q a b.mask d
  | fin v S nx => exact fun v' S' a b => h v' S' a b.mask
theorem seg (hG : GR G G') (hT : TOk P T) (hX : XOk P G' X) {n : Nat} {m : KM} {s t : KSt} (h : iterM G T X n m s = some t) (ht : MS P G' K0 t) : MS P G' K0 s := by
  unfold iterM at h
  cases hi : iter G T X n s with
  | none => rw [hi] at h; cases h
  | some u =>
    rw [hi] at h
    cases h
    exact iter_sound hG hT hX hi ht.mask
end
end Sg
end Go.Proofs.YtfkboondffejaaaGreatDoor
set_option linter.unusedVariables false
set_option linter.unusedSimpArgs false
namespace Go.Proofs
namespace YtfkboondffejaaaGreatDoor
namespace Sg
def flatI : IV → Bool
  | .ib _ => false
  | .isl _ _ _ => false
  | .ip _ => false
  | _ => true
mutual
def nmQ (Q : IV → Bool) : SV → Bool
  | .iv x => Q x
  | .agg cs => nmQs Q cs
  | .tup cs => nmQs Q cs
  | _ => false
def nmQs (Q : IV → Bool) : List SV → Bool
  | [] => true
  | x :: xs => nmQ Q x && nmQs Q xs
end
def flat (x : SV) : Bool := nmQ flatI x
def flats (x : List SV) : Bool := nmQs flatI x
def nml (x : SV) : Bool := nmQ (fun _ => true) x
theorem flatI_den {hI hI' : Hp} {x : IV} {v : Value} (h : flatI x = true) (d : IDen hI x v) : IDen hI' x v := by
  cases d <;> first | (cases h; done) | constructor
section
variable {Q : IV → Bool} {ρ ρ' : Env} {hI hI' : Hp}
mutual
theorem nmQ_den (hQ : ∀ x v, Q x = true → IDen hI x v → IDen hI' x v) : ∀ (x : SV) (v : Value), nmQ Q x = true → SDen ρ hI x v → SDen ρ' hI' x v
  | .iv x, v, h, d => by cases d with | iv _ _ d => exact .iv _ _ (hQ _ _ (by simpa [nmQ] using h) d)
  | .agg cs, v, h, d => by cases d with | agg _ vs d => exact .agg _ _ (nmQs_den hQ cs vs (by simpa [nmQ] using h) d)
  | .tup cs, v, h, d => by cases d with | tup _ vs d => exact .tup _ _ (nmQs_tup hQ cs vs (by simpa [nmQ] using h) d)
  | .ptr .., v, h, d => by simp [nmQ] at h
  | .ixp .., v, h, d => by simp [nmQ] at h
  | .sl .., v, h, d => by simp [nmQ] at h
  | .slx .., v, h, d => by simp [nmQ] at h
  | .map .., v, h, d => by simp [nmQ] at h
  | .fn .., v, h, d => by simp [nmQ] at h
  | .iface .., v, h, d => by simp [nmQ] at h
  | .junk, v, h, d => by simp [nmQ] at h
theorem nmQs_den (hQ : ∀ x v, Q x = true → IDen hI x v → IDen hI' x v) : ∀ (x : List SV) (v : List Value), nmQs Q x = true → SDens ρ hI x v → SDens ρ' hI' x v
  | [], v, h, d => by cases d; exact .nil
  | x :: xs, v, h, d => by
    simp only [nmQs, Bool.and_eq_true] at h
    cases d with
    | one _ v _ vs d ho ds => exact .one _ _ _ _ (nmQ_den hQ x v h.1 d) ho (nmQs_den hQ xs vs h.2 ds)
    | sbs n l _ vs hl ds => exact .sbs n l _ vs hl (nmQs_den hQ xs vs h.2 ds)
    | sis k n l _ vs hl ds => exact .sis k n l _ vs hl (nmQs_den hQ xs vs h.2 ds)
theorem nmQs_tup (hQ : ∀ x v, Q x = true → IDen hI x v → IDen hI' x v) : ∀ (x : List SV) (v : List Value), nmQs Q x = true → STup ρ hI x v → STup ρ' hI' x v
  | [], v, h, d => by cases d; exact .nil
  | x :: xs, v, h, d => by
    simp only [nmQs, Bool.and_eq_true] at h
    cases d with
    | cons _ v _ vs d ds => exact .cons _ _ _ _ (nmQ_den hQ x v h.1 d) (nmQs_tup hQ xs vs h.2 ds)
end
theorem flat_den {x : SV} {v : Value} (h : flat x = true) (d : SDen ρ hI x v) : SDen ρ' hI' x v := nmQ_den (fun _ _ h d => flatI_den h d) _ _ h d
theorem flats_den {x : List SV} {v : List Value} (h : flats x = true) (d : SDens ρ hI x v) : SDens ρ' hI' x v := nmQs_den (fun _ _ h d => flatI_den h d) _ _ h d
theorem nml_den {x : SV} {v : Value} (h : nml x = true) (s : hI.sub hI') (d : SDen ρ hI x v) : SDen ρ' hI' x v := nmQ_den (fun _ _ _ d => d.mono s) _ _ h d
end
inductive Lend (S : SH) : SV → SV → Prop
  | same (x : SV) (h : nml x = true) : Lend S x x
  | sl (n off len : Nat) (l : List UInt8) (h : SH.get S n = some (.bytes l)) (hl : off + len ≤ l.length) : Lend S (.sl 1 n off len) (.iv (.ib (sub l off len)))
  | slx (n off len cap m : Nat) (l : List UInt8) (cs tl : List SV) (h : SH.get S n = some (.cells cs)) (hd : ∀ K : List SV → Prop, K (.iv (.sbs m l) :: tl) → dropK cs off K) (hl : len ≤ m) : Lend S (.slx 1 n off len cap) (.iv (.ib (sub l 0 len)))
inductive Lends (S : SH) : List SV → List SV → Prop
  | nil : Lends S [] []
  | cons (a x : SV) (as xs : List SV) (h : Lend S a x) (hs : Lends S as xs) : Lends S (a :: as) (x :: xs)
section
variable {ρ ρ' : Env} {hI : Hp} {S : SH} {h : Hp}
theorem sub_len {l : List UInt8} {off len : Nat} (hl : off + len ≤ l.length) : (sub l off len).length = len := by simp [sub]; omega
theorem ib_of {hJ : Hp} {l : List UInt8} {b o len cap : Nat} (hl : l.length = len) (hc : len ≤ cap) (h : ∀ (i : Nat) (x : UInt8), l[i]? = some x → hJ.cell b (o + i) = some (bv x)) : IDen hJ (.ib l) (.slice (some ⟨b, o, none⟩) len cap) := by
  subst hl
  exact .ib l b o cap h hc
theorem lend_den (ho : Own ρ hI S h) (dj : hI.disj h) {a x : SV} {v : Value} (hl : Lend S a x) (d : SDen ρ hI a v) : SDen ρ' (hI.union h) x v := by
  cases hl with
  | same _ hn => exact nml_den hn (Hp.union_sub_left _ _) d
  | sl n off len l hg hle =>
    obtain ⟨e', h1, h2, hr', od, _, _, _, s1, _⟩ := ho.take hg
    cases d with
    | sl _ _ _ _ e A hr hn hA hcap =>
      rw [hr] at hr'; cases hr'
      cases od with
      | bytesNil _ hn' => rw [hn] at hn'; cases hn'
      | bytes _ _ rest T fz hn' hc hf =>
        by_cases h0 : len = 0
        · subst h0
          refine .iv _ _ ?_
          have : sub l off 0 = [] := by simp [sub]
          rw [this]; exact .ib0 _ _
        · have hA' := hA (.inl (Nat.pos_of_ne_zero h0))
          subst hA'
          refine .iv _ _ (ib_of (sub_len hle) (by omega) fun i x hx => ?_)
          have hlt : i < len := by have := (List.getElem?_eq_some_iff.1 hx).1; rw [sub_len hle] at this; exact this
          have hb : (hI.union h) e'.b = some (.cells (l.map bv ++ rest).toArray T fz) := (Hp.union_sub_right dj) _ _ (s1 _ _ (by simp [Hp.one]))
          simp only [Hp.cell, hb]
          simp only [sub, List.getElem?_take, List.getElem?_drop] at hx
          rw [if_pos hlt] at hx
          have hlen : off * 1 + i < (l.map bv).length := by simp; omega
          rw [List.getElem?_toArray, List.getElem?_append_left hlen, List.getElem?_map, Nat.mul_one, hx]; rfl
    | slnil _ _ e hr hn =>
      refine .iv _ _ ?_
      have : sub l 0 0 = [] := by simp [sub]
      rw [this]; exact .ib0 _ _
  | slx n off len cap m l cs tl hg hd hle =>
    obtain ⟨e', h1, h2, hr', od, _, _, _, s1, _⟩ := ho.take hg
    cases d with
    | slx _ _ _ _ _ e hr hcap =>
      rw [hr] at hr'; cases hr'
      cases od with
      | cells _ _ us T fz hds hn hc hf =>
        obtain ⟨r, hr2, hds2, hlen2⟩ := dropK_sound (K := fun r => r = .iv (.sbs m l) :: tl) hds (hd _ rfl)
        subst hr2
        have hb : (hI.union h) e'.b = some (.cells us.toArray T fz) := (Hp.union_sub_right dj) _ _ (s1 _ _ (by simp [Hp.one]))
        generalize hvs : us.drop off = vs2 at hds2
        cases hds2 with
        | one _ _ _ _ hx => exact (no_sbs hx).elim
        | sbs _ _ _ rest hl2 hrest =>
          refine .iv _ _ (ib_of (by simp [sub]; omega) hcap fun i x hx => ?_)
          have hlt : i < len := by have := (List.getElem?_eq_some_iff.1 hx).1; simp [sub] at this; omega
          simp only [Hp.cell, hb]
          simp only [sub, List.getElem?_take, List.getElem?_drop] at hx
          rw [if_pos hlt, Nat.zero_add] at hx
          rw [List.getElem?_toArray, ← List.getElem?_drop, hvs, List.getElem?_append_left (by simp; omega), List.getElem?_map, hx]; rfl
theorem lends_den (ho : Own ρ hI S h) (dj : hI.disj h) : ∀ {as xs : List SV} {vs : List Value}, Lends S as xs → STup ρ hI as vs → STup ρ' (hI.union h) xs vs
  | _, _, _, .nil, .nil => .nil
  | _, _, _, .cons a x as xs h1 hs, .cons _ v _ vs d ds => .cons x v xs vs (lend_den ho dj h1 d) (lends_den ho dj hs ds)
end
section
variable {P : Program} {G : Gl} {f : Nat} {xs args : List SV} {S : SH} {nx : Nat} {K : SV → SH → Nat → Prop}
theorem lend_all {ρ : Env} {hI : Hp} {hF : Fm} {w : World} (hs : Sat ρ hI hF w S nx) : ∃ h, Own ρ hI S h ∧ hI.disj h ∧ Sat (fun _ => none) (hI.union h) hF w [] 1 ∧
    ∀ (hJ : Hp) (w' : World), (hI.union h).sub hJ → hJ.into w' → hF.hp.into w' → Wk hF.base w' → Sat ρ hI hF w' S nx := by
  obtain ⟨⟨h, ho, d1, d2, d3, i1, i2, i3⟩, hn, hw⟩ := hs
  refine ⟨h, ho, d1, ⟨⟨Hp.emp, fun _ => rfl, Hp.disj_emp _, Hp.union_disj.2 ⟨d2, d3⟩, Hp.emp_disj _, (Hp.into_union d1).2 ⟨i1, i2⟩, (fun b o e => by cases e), i3⟩, fun _ _ => rfl, hw⟩, ?_⟩
  intro hJ w' s j jF hw'
  exact ⟨⟨h, ho, d1, d2, d3, j.sub ((Hp.union_sub_left hI h).trans s), j.sub ((Hp.union_sub_right d1).trans s), jF⟩, hn, hw'⟩
theorem flat_ob {R : SV → Prop} (hc : CallOb P G f xs [] 1 (fun v _ _ => R v)) (hl : Lends S args xs) (hK : ∀ v, R v → flat v = true ∧ K v S nx) : CallOb P G f args S nx K := by
  intro ρ hI hF w vs hs hg hv
  obtain ⟨h, ho, dj, hs0, back⟩ := lend_all hs
  refine (hc _ _ _ w vs hs0 (hg.mono (Hp.union_sub_left _ _)) (lends_den ho dj hl hv)).mono ?_
  rintro e w' ⟨v, r, S', nx', ρ', hI', rfl, hr, hd, ⟨⟨k, ok, e1, e2, e3, j1, j2, j3⟩, hn', hw'⟩, _, _, hsub⟩
  obtain ⟨hf, hk⟩ := hK r hr
  exact ⟨v, r, S, nx, ρ, hI, rfl, hk, flat_den hf hd, back _ _ hsub j1 j3 hw', Env.ext.refl _ _, Nat.le_refl _, Hp.sub.refl _⟩
def Ren (mk : Nat → SV) : Prop := ∀ (ρ ρ' : Env) (hI hI' : Hp) (q n : Nat) (e : Ent) (v : Value), ρ q = some e → ρ' n = some e → SDen ρ hI (mk q) v → SDen ρ' hI' (mk n) v
theorem Ren.sl {sz off len : Nat} : Ren (fun q => .sl sz q off len) := by
  intro ρ ρ' hI hI' q n e v h h' d
  cases d with
  | sl _ _ _ _ e2 A hr hn hA hl => rw [h] at hr; cases hr; exact .sl sz n off len e A h' hn hA hl
  | slnil _ _ e2 hr hn => rw [h] at hr; cases hr; exact .slnil sz n e h' hn
theorem Ren.slx {sz off len cap : Nat} : Ren (fun q => .slx sz q off len cap) := by
  intro ρ ρ' hI hI' q n e v h h' d
  cases d with
  | slx _ _ _ _ _ e2 hr hl => rw [h] at hr; cases hr; exact .slx sz n off len cap e h' hl
theorem Ren.tup1 {mk : Nat → SV} {r : List SV} (hm : Ren mk) (hr : flats r = true) : Ren (fun q => .tup (mk q :: r)) := by
  intro ρ ρ' hI hI' q n e v h h' d
  cases d with
  | tup _ vs hd =>
    cases hd with
    | cons _ u _ us hu hus => exact .tup _ _ (.cons _ _ _ _ (hm _ _ _ _ _ _ _ _ h h' hu) (nmQs_tup (fun _ _ h d => flatI_den h d) _ _ hr hus))
def flatO : SObj → Bool
  | .cells cs => flats cs
  | .bytes _ => true
  | _ => false
theorem flatO_den {ρ ρ' : Env} {hI hI' : Hp} {o : SObj} {e : Ent} {h : Hp} (hf : flatO o = true) (d : ODen ρ hI o e h) : ODen ρ' hI' o e h := by
  cases d with
  | cells cs _ vs T fz hd hn hc hz => exact .cells cs e vs T fz (flats_den hf hd) hn hc hz
  | bytes l _ rest T fz hn hc hz => exact .bytes l e rest T fz hn hc hz
  | bytesNil _ hn => exact .bytesNil e hn
  | arr | arrNil | mp | abs => cases hf
theorem fresh_ob {R : (Nat → SV) → SObj → Prop} (hc : CallOb P G f xs [] 1 (fun v S' _ => ∃ mk q o, v = mk q ∧ Ren mk ∧ SH.get S' q = some o ∧ flatO o = true ∧ R mk o)) (hl : Lends S args xs) (hK : ∀ mk o, R mk o → K (mk nx) ((nx, o) :: S) (nx + 1)) :
    CallOb P G f args S nx K := by
  intro ρ hI hF w vs hs hg hv
  have hnx : ρ nx = none := hs.2.1 nx (Nat.le_refl _)
  have hnn := hs.2.1
  obtain ⟨h, ho, dj, hs0, back⟩ := lend_all hs
  refine (hc _ _ _ w vs hs0 (hg.mono (Hp.union_sub_left _ _)) (lends_den ho dj hl hv)).mono ?_
  rintro e w' ⟨v, r, S', nx', ρ', hI', rfl, ⟨mk, q, o, rfl, hmk, hq, hfo, hr⟩, hd, ⟨⟨k, ok, e1, e2, e3, j1, j2, j3⟩, hn', hw'⟩, _, _, hsub⟩
  obtain ⟨⟨h', ho', d1, d2, d3, i1, i2, i3⟩, hn, hw2⟩ := back _ _ hsub j1 j3 hw'
  obtain ⟨en, h1, h2, hrq, od, _, _, hz, s1, _⟩ := ok.take hq
  have hsb : ρ.sub (ρ.set nx en) := Env.sub_set hnx
  -- h of the caller is Own's; take the lent one
  have dh1 : h1.disj h := fun b => by
    rcases e1 b with z | z
    · right
      cases hb : h b with
      | none => rfl
      | some x => have := hsub _ _ ((Hp.union_sub_right dj) _ _ hb); rw [z] at this; cases this
    · exact .inl ((hz b).1 z).1
  have dI1 : hI.disj h1 := fun b => by
    rcases e1 b with z | z
    · left
      cases hb : hI b with
      | none => rfl
      | some x => have := hsub _ _ ((Hp.union_sub_left _ _) _ _ hb); rw [z] at this; cases this
    · exact .inr ((hz b).1 z).1
  have dF1 : h1.disj hF.hp := fun b => (e3 b).imp (fun z => ((hz b).1 z).1) id
  obtain ⟨⟨h0, ho0, c1, c2, c3, g1, g2, g3⟩, _, _⟩ := hs
  have hIh := (Hp.union_sub_right dj).trans hsub
  have hdF : h.disj hF.hp := fun b => by
    rcases e2 b with z | z
    · left
      cases hb : h b with
      | none => rfl
      | some x => have := hIh _ _ hb; rw [z] at this; cases this
    · exact .inr z
  refine ⟨_, mk nx, (nx, o) :: S, nx + 1, ρ.set nx en, hI, rfl, hK _ _ hr, hmk _ _ _ _ _ _ _ _ hrq (Env.set_self _ _ _) hd, ⟨⟨h1.union h, ⟨en, h1, h, Env.set_self _ _ _, flatO_den hfo od, ho.mono hsb (Hp.sub.refl _), dh1, rfl⟩, Hp.disj_union.2 ⟨dI1, dj⟩, d2, Hp.union_disj.2 ⟨dF1, hdF⟩, i1, ?_, i3⟩, ?_, hw2⟩, ⟨hsb, fun m hm => Env.set_low m hm⟩, Nat.le_succ _, Hp.sub.refl _⟩
  · exact (Hp.into_union dh1).2 ⟨j2.sub s1, j1.sub hIh⟩
  · intro m hm
    unfold Env.set
    rw [if_neg (by omega)]
    exact hnn m (by omega)
theorem inout_ob {n : Nat} {cs : List SV} {R : SV → List SV → Prop} (hn : SH.get S n = some (.cells cs)) (hcs : flats cs = true)
    (hc : CallOb P G f (.ptr 1 0 :: xs) [(1, .cells cs)] 2 (fun v S' _ => ∃ cs', SH.get S' 1 = some (.cells cs') ∧ flats cs' = true ∧ R v cs')) (hl : Lends (SH.del S n) args xs)
    (hK : ∀ v cs', R v cs' → flat v = true ∧ K v (SH.put S n (.cells cs')) nx) : CallOb P G f (.ptr n 0 :: args) S nx K := by
  intro ρ hI hF w vs hs hg hv
  obtain ⟨⟨h, ho, d1, d2, d3, i1, i2, i3⟩, hnn, hw⟩ := hs
  obtain ⟨en, h1, h2, hr, od, ho2, dj12, hz, s1, s2⟩ := ho.take hn
  have dI1 : hI.disj h1 := fun b => (d1 b).imp id (fun z => ((hz b).1 z).1)
  have dI2 : hI.disj h2 := fun b => (d1 b).imp id (fun z => ((hz b).1 z).2)
  have dF1 : h1.disj hF.hp := fun b => (d3 b).imp (fun z => ((hz b).1 z).1) id
  have dF2 : h2.disj hF.hp := fun b => (d3 b).imp (fun z => ((hz b).1 z).2) id
  have i21 : h1.into w := i2.sub s1
  have i22 : h2.into w := i2.sub s2
  cases hv with | cons _ v0 _ vs hv0 hvs =>
  cases hv0 with | ptr _ _ e he =>
  rw [hr] at he; cases he
  have hs0 : Sat (Env.set (fun _ => none) 1 en) (hI.union h2) hF w [(1, .cells cs)] 2 := by
    refine ⟨⟨h1, ⟨en, h1, Hp.emp, Env.set_self _ _ _, flatO_den hcs od, fun _ => rfl, fun b => .inr rfl, ?_⟩, Hp.union_disj.2 ⟨dI1, dj12.symm⟩, Hp.union_disj.2 ⟨d2, dF2⟩, dF1, (Hp.into_union dI2).2 ⟨i1, i22⟩, i21, i3⟩, ?_, hw⟩
    · funext b; simp [Hp.union, Hp.emp]
    · intro m hm
      unfold Env.set
      rw [if_neg (by omega)]
  refine (hc _ _ _ w _ hs0 (hg.mono (Hp.union_sub_left _ _)) (.cons _ _ _ _ (.ptr 1 0 en (Env.set_self _ _ _)) (lends_den ho2 dI2 hl hvs))).mono ?_
  rintro e w' ⟨v, r, S', nx', ρ', hI', rfl, ⟨cs', hq, hfc, hR⟩, hd, ⟨⟨k, ok, e1, e2, e3, j1, j2, j3⟩, hn', hw'⟩, hext, _, hsub⟩
  obtain ⟨e', k1, k2, hr', od', _, _, hz', t1, _⟩ := ok.take hq
  rw [hext.sub _ _ (Env.set_self _ _ _)] at hr'
  cases hr'
  obtain ⟨hfv, hk⟩ := hK _ _ hR
  have hI2 := (Hp.union_sub_right dI2).trans hsub
  have hI1 := (Hp.union_sub_left hI h2).trans hsub
  have off : ∀ {g : Hp}, g.sub hI' → k1.disj g := fun {g} hg b => by
    rcases e1 b with z | z
    · right
      cases hb : g b with
      | none => rfl
      | some x => have := hg _ _ hb; rw [z] at this; cases this
    · exact .inl ((hz' b).1 z).1
  have dF : k1.disj hF.hp := fun b => (e3 b).imp (fun z => ((hz' b).1 z).1) id
  obtain ⟨hnew, ohnew, hu⟩ := Own.give hr (flatO_den (o := .cells cs') (hI' := hI) hfc od') ho2 (off hI2) (by rw [hn]; simp)
  have hu' : ∀ b, hnew b = none ↔ k1 b = none ∧ h2 b = none := fun b => by rw [hu b]; exact Hp.union_none
  refine ⟨v, r, _, nx, ρ, hI, rfl, hk, flat_den hfv hd, ⟨⟨hnew, ohnew, ?_, d2, ?_, j1.sub hI1, ?_, j3⟩, hnn, hw'⟩, Env.ext.refl _ _, Nat.le_refl _, Hp.sub.refl _⟩
  · intro b
    rcases off hI1 b with z | z
    · rcases dI2 b with y | y
      · exact .inl y
      · exact .inr ((hu' b).2 ⟨z, y⟩)
    · exact .inl z
  · intro b
    rcases dF b with z | z
    · rcases dF2 b with y | y
      · exact .inl ((hu' b).2 ⟨z, y⟩)
      · exact .inr y
    · exact .inr z
  · intro b o hb
    rw [hu b] at hb
    exact (Hp.into_union (off hI2)).2 ⟨j2.sub t1, j1.sub hI2⟩ b o hb
end
end Sg
end YtfkboondffejaaaGreatDoor
end Go.Proofs
set_option linter.unusedVariables false
set_option linter.unusedSimpArgs false
namespace Go.Proofs
namespace YtfkboondffejaaaGreatDoor
namespace Sg
abbrev W32 := BitVec 32
def wi (x : W32) : Int := (x.toNat : Int)
theorem wr32 (n : Nat) : wr .u32 (n : Int) = ((n % 4294967296 : Nat) : Int) := by
  simp [wr, IntKind.wrap, IntKind.bits, IntKind.signed]
theorem wr64 (n : Nat) : wr .u64 (n : Int) = ((n % 18446744073709551616 : Nat) : Int) := by
  simp [wr, IntKind.wrap, IntKind.bits, IntKind.signed]
theorem wi_add (x y : W32) : wr .u32 (wi x + wi y) = wi (x + y) := by
  unfold wi
  rw [← Int.natCast_add, wr32, BitVec.toNat_add]
theorem wi_mul (x y : W32) : wr .u32 (wi x * wi y) = wi (x * y) := by
  unfold wi
  rw [← Int.natCast_mul, wr32, BitVec.toNat_mul]
theorem ofInt_wi (x : W32) : BitVec.ofInt IntKind.u32.bits (wi x) = x := by
  show BitVec.ofInt 32 (wi x) = x
  unfold wi
  rw [BitVec.ofInt_natCast]
  simp
theorem bits_wi (x : W32) : wr .u32 (x.toNat : Int) = wi x := by
  rw [wr32]; unfold wi; rw [Nat.mod_eq_of_lt x.isLt]
theorem wi_xor (x y : W32) : bitI .xor .u32 (wi x) (wi y) = wi (x ^^^ y) := by
  unfold bitI; simp only [ofInt_wi]; exact bits_wi (x ^^^ y)
theorem wi_and (x y : W32) : bitI .and .u32 (wi x) (wi y) = wi (x &&& y) := by
  unfold bitI; simp only [ofInt_wi]; exact bits_wi (x &&& y)
theorem wi_or (x y : W32) : bitI .or .u32 (wi x) (wi y) = wi (x ||| y) := by
  unfold bitI; simp only [ofInt_wi]; exact bits_wi (x ||| y)
theorem wi_not (x : W32) : bitI .xor .u32 (maxI .u32) (wi x) = wi (~~~x) := by
  have : maxI .u32 = wi (BitVec.allOnes 32) := by decide
  rw [this, wi_xor, BitVec.allOnes_xor]
theorem wi_shr (x : W32) (n : Nat) : shrI (wi x) n = wi (x >>> n) := by
  unfold shrI wi
  rw [BitVec.toNat_ushiftRight, Nat.shiftRight_eq_div_pow]
  rw [show ((2 : Int) ^ n) = ((2 ^ n : Nat) : Int) by simp]
  rw [Int.fdiv_eq_ediv_of_nonneg _ (Int.natCast_nonneg _)]
  simp
theorem wi_shl (x : W32) (n : Nat) : shlI .u32 (wi x) n = wi (x <<< n) := by
  unfold shlI wi
  rw [show ((2 : Int) ^ n) = ((2 ^ n : Nat) : Int) by simp, ← Int.natCast_mul, wr32, BitVec.toNat_shiftLeft, Nat.shiftLeft_eq]
theorem wi_byte (b : UInt8) : ((b.toNat : Nat) : Int) = wi (BitVec.ofNat 32 b.toNat) := by
  unfold wi
  have := b.toNat_lt
  simp
theorem getD_wi (l : List W32) (i : Nat) : (l.map wi).getD i 0 = wi (l.getD i 0) := by
  rw [List.getD_eq_getElem?_getD, List.getD_eq_getElem?_getD, List.getElem?_map]
  cases l[i]? <;> rfl
theorem set_wi (l : List W32) (i : Nat) (x : W32) : (l.map wi).set i (wi x) = (l.set i x).map wi := by simp [List.map_set]
def rr (x : W32) (n : Nat) : W32 := x >>> n ||| x <<< (32 - n)
def ch (e f g : W32) : W32 := (e &&& f) ||| (~~~e &&& g)
def maj (a b c : W32) : W32 := (a &&& b) ||| (a &&& c) ||| (b &&& c)
theorem ch_xor (e f g : W32) : (e &&& f) ^^^ (~~~e &&& g) = ch e f g := by
  unfold ch
  ext i hi
  simp only [BitVec.getElem_xor, BitVec.getElem_and, BitVec.getElem_or, BitVec.getElem_not]
  cases e[i] <;> cases f[i] <;> cases g[i] <;> rfl
theorem maj_xor (a b c : W32) : (a &&& b) ^^^ (a &&& c) ^^^ (b &&& c) = maj a b c := by
  unfold maj
  ext i hi
  simp only [BitVec.getElem_xor, BitVec.getElem_and, BitVec.getElem_or]
  cases a[i] <;> cases b[i] <;> cases c[i] <;> rfl
def big0 (a : W32) : W32 := rr a 2 ^^^ rr a 13 ^^^ rr a 22
def big1 (e : W32) : W32 := rr e 6 ^^^ rr e 11 ^^^ rr e 25
def sml0 (x : W32) : W32 := rr x 7 ^^^ rr x 18 ^^^ x >>> 3
def sml1 (x : W32) : W32 := rr x 17 ^^^ rr x 19 ^^^ x >>> 10
structure V8 where
  a : W32
  b : W32
  c : W32
  d : W32
  e : W32
  f : W32
  g : W32
  h : W32
def V8.l (v : V8) : List W32 := [v.a, v.b, v.c, v.d, v.e, v.f, v.g, v.h]
def V8.add (v u : V8) : V8 := ⟨v.a + u.a, v.b + u.b, v.c + u.c, v.d + u.d, v.e + u.e, v.f + u.f, v.g + u.g, v.h + u.h⟩
def rnd (k w : W32) (v : V8) : V8 :=
  let one := v.h + big1 v.e + ch v.e v.f v.g + k + w
  let two := big0 v.a + maj v.a v.b v.c
  ⟨one + two, v.a, v.b, v.c, v.d + one, v.e, v.f, v.g⟩
def wv (p : List UInt8) (i : Nat) : W32 :=
  BitVec.ofNat 32 (p.getD (4 * i) 0).toNat <<< 24 ||| BitVec.ofNat 32 (p.getD (4 * i + 1) 0).toNat <<< 16 ||| BitVec.ofNat 32 (p.getD (4 * i + 2) 0).toNat <<< 8 ||| BitVec.ofNat 32 (p.getD (4 * i + 3) 0).toNat
def fill (p : List UInt8) : Nat → List W32
  | 0 => List.replicate 64 0
  | i + 1 => (fill p i).set i (wv p i)
def schd (p : List UInt8) : Nat → List W32
  | 0 => fill p 16
  | i + 1 => (schd p i).set (16 + i) ((schd p i).getD i 0 + sml0 ((schd p i).getD (i + 1) 0) + (schd p i).getD (i + 9) 0 + sml1 ((schd p i).getD (i + 14) 0))
def rounds (kt ws : List W32) (v : V8) : Nat → V8
  | 0 => v
  | i + 1 => rnd (kt.getD i 0) (ws.getD i 0) (rounds kt ws v i)
def blk (kt : List W32) (h : V8) (p : List UInt8) : V8 := h.add (rounds kt (schd p 48) h 64)
def blocks (kt : List W32) : Nat → V8 → List UInt8 → V8
  | 0, h, _ => h
  | n + 1, h, q => blocks kt n (blk kt h (q.take 64)) (q.drop 64)
def padz (n : Nat) : Nat := (120 - n % 64) % 64
def be8 (u : Nat) : List UInt8 := [UInt8.ofNat (u / 2 ^ 56), UInt8.ofNat (u / 2 ^ 48), UInt8.ofNat (u / 2 ^ 40), UInt8.ofNat (u / 2 ^ 32), UInt8.ofNat (u / 2 ^ 24), UInt8.ofNat (u / 2 ^ 16), UInt8.ofNat (u / 2 ^ 8), UInt8.ofNat u]
def padded (l : List UInt8) : List UInt8 := l ++ [128] ++ List.replicate (padz (l.length + 1)) 0 ++ be8 (l.length * 8)
def be4 (w : W32) : List UInt8 := [UInt8.ofNat (w >>> 24).toNat, UInt8.ofNat (w >>> 16).toNat, UInt8.ofNat (w >>> 8).toNat, UInt8.ofNat w.toNat]
def V8.out (v : V8) : List UInt8 := be4 v.a ++ be4 v.b ++ be4 v.c ++ be4 v.d ++ be4 v.e ++ be4 v.f ++ be4 v.g ++ be4 v.h
def sha (kt : List W32) (h : V8) (l : List UInt8) : List UInt8 := (blocks kt ((padded l).length / 64) h (padded l)).out
theorem padded_len (l : List UInt8) : (padded l).length % 64 = 0 := by
  simp [padded, padz, be8]; omega
theorem fill_len (p : List UInt8) (i : Nat) : (fill p i).length = 64 := by induction i with | zero => simp [fill] | succ i ih => simp [fill, ih]
theorem schd_len (p : List UInt8) (i : Nat) : (schd p i).length = 64 := by induction i with | zero => simp [schd, fill_len] | succ i ih => simp [schd, ih]
theorem toByte_wi (x : W32) : toByte (wi x) = UInt8.ofNat x.toNat := by
  unfold toByte wi
  rw [show ((x.toNat : Nat) : Int) % 256 = ((x.toNat % 256 : Nat) : Int) by omega, Int.toNat_natCast]
  exact UInt8.ofNat_mod_size
end Sg
end YtfkboondffejaaaGreatDoor
end Go.Proofs
