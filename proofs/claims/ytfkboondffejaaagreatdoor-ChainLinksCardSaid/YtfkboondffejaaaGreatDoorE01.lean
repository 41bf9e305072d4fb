/- The symbolic executor, part H: soundness of the operations that leave memory alone, continued. -/
import Derived.Test.YtfkboondffejaaaGreatDoorE00
import Derived.Deep.AppendSrc
set_option linter.all false
set_option linter.unusedVariables false
set_option linter.unusedSimpArgs false
set_option linter.deprecated false
set_option linter.unusedVariables false
set_option linter.unusedSimpArgs false
namespace Go.Proofs.YtfkboondffejaaaGreatDoor
namespace Sg
variable {P : Program}
section
variable {G : Gl} {ρ : Env} {hI : Hp} {hF : Fm} {w : World} {S : SH} {nx : Nat} {fr : FT} {a : Act} {o : Oper} {K : SV → Prop}
theorem q_s2ap {t e : TypeId} {n : Nat} {x : Operand} {c : Opd} (C : Cx G ρ hI hF w S nx fr a) (ho : o.op = .sliceToArrayPointer t x) (ht : P.underlying t = some (.array n e)) (hc : chkOpd x c = true) (h : qop G S fr (.s2ap n c) K) : QOk P ρ hI w a o K := by
  obtain ⟨v, hv, hd⟩ := evK_sound hc C.g C.f (show evK G fr c _ from h)
  have run : ∀ (A : Addr) (len cap : Nat), n ≤ len → (Instr.arrayAt t (.slice (some A) len cap)).run P w = .ok (.pointer (some A)) w := by
    intro A len cap hle
    unfold Instr.arrayAt
    rw [run_ok (run_underlying ht w)]
    simp only
    rw [if_neg (by omega)]
    rfl
  generalize hx : a.eval x = u at hd
  split at hv
  · rename_i l
    obtain ⟨⟨hn, h0⟩, hk⟩ := vc_iff.1 hv
    cases hd with | iv _ _ hd =>
    cases hd with
    | ib _ b off cap hcs hl =>
      refine ⟨_, _, hk, .iv _ _ (.ip _ b off ((l.take n).map bv ++ []) (.sbs _ _ _ _ (by simp; omega) .nil) ?_), ?_⟩
      · intro j v hj
        rw [List.append_nil, List.getElem?_map] at hj
        cases hjj : (l.take n)[j]? with
        | none => simp [hjj] at hj
        | some y =>
          rw [hjj] at hj
          simp only [Option.map_some, Option.some.injEq] at hj
          subst hj
          have hlt : j < n := by have := (List.getElem?_eq_some_iff.1 hjj).1; simp at this; omega
          rw [List.getElem?_take_of_lt hlt] at hjj
          exact hcs j y hjj
      · simp only [execOp, ho, hx]
        exact exec_v (run _ _ _ hn)
    | ib0 => simp at hn; omega
  · rename_i sz m off len
    obtain ⟨⟨rfl, hn, h0⟩, hk⟩ := vc_iff.1 hv
    cases hd with
    | sl _ _ _ _ e' A he hnil hA hcap =>
      have := hA (.inl (by omega))
      subst this
      refine ⟨_, _, hk, .ixp _ _ _ _ e' he, ?_⟩
      simp only [execOp, ho, hx]
      rw [show (0 + off * 1) = off * 1 by omega]
      exact exec_v (run _ _ _ hn)
    | slnil => omega
  · rename_i sz m off len cap
    obtain ⟨⟨rfl, hn, h0⟩, hk⟩ := vc_iff.1 hv
    cases hd with
    | slx _ _ _ _ _ e' he hl =>
      refine ⟨_, _, hk, .ptr _ _ e' he, ?_⟩
      simp only [execOp, ho, hx]
      exact exec_v (run _ _ _ hn)
  · exact hv.elim
theorem q_faddr {t : TypeId} {f off : Nat} {fs : Array Field} {d : Field} {i : TypeInfo} {x : Operand} {c : Opd} (C : Cx G ρ hI hF w S nx fr a) (ho : o.op = .fieldAddr t x f) (ht : P.underlying t = some (.struct fs)) (hf : fs[f]? = some d) (hoff : d.offset = off)
    (hi : P.info? d.type = some i) (hz : i.size ≠ 0) (hc : chkOpd x c = true) (h : qop G S fr (.faddr off c) K) : QOk P ρ hI w a o K := by
  obtain ⟨v, hv, hd⟩ := evK_sound hc C.g C.f (show evK G fr c _ from h)
  have run : ∀ (b q : Nat), (Instr.fieldAt t (.pointer (some ⟨b, q, none⟩)) f).run P w = .ok (.pointer (some ⟨b, q + off, none⟩)) w := by
    intro b q
    unfold Instr.fieldAt
    rw [run_ok (run_underlying ht w)]
    simp only [hf]
    unfold Instr.sureAddr
    rw [run_ok (run_pure _ w)]
    unfold fieldPlace
    have : (do if (← sizeOf d.type) = 0 then partAt (⟨b, q, none⟩ : Addr) d.offset d.byteOffset else pure ((⟨b, q, none⟩ : Addr).add d.offset)).run P w = .ok (⟨b, q + off, none⟩ : Addr) w := by
      rw [run_ok (run_sizeOf hi w), if_neg hz, addr_add, hoff]
      rfl
    rw [run_ok this]
    rfl
  generalize hx : a.eval x = u at hd
  split at hv
  · cases hd with | iv _ _ hd => cases hd with | ip _ b q vs hds hcs =>
    obtain ⟨r, hk, hr, hle⟩ := dropIK_sound hds hv
    refine ⟨_, _, hk, .iv _ _ (.ip _ b (q + off) (vs.drop off) hr (fun j v hj => ?_)), ?_⟩
    · rw [List.getElem?_drop] at hj
      rw [← hcs _ _ hj, Nat.add_assoc]
    · simp only [execOp, ho, hx]
      exact exec_v (run b q)
  · cases hd with | ptr _ _ e he =>
    refine ⟨_, _, hv, .ptr _ _ e he, ?_⟩
    simp only [execOp, ho, hx]
    exact exec_v (run _ _)
  · cases hd with | ixp _ _ _ _ e he =>
    refine ⟨_, _, hv, .ixp _ _ _ _ e he, ?_⟩
    simp only [execOp, ho, hx]
    rw [Nat.add_right_comm]
    exact exec_v (run _ _)
  · exact hv.elim
theorem q_field1 {t : TypeId} {f off : Nat} {fs : Array Field} {d : Field} {x : Operand} {c : Opd} (C : Cx G ρ hI hF w S nx fr a) (ho : o.op = .field t x f) (ht : P.underlying t = some (.struct fs)) (hf : fs[f]? = some d) (hoff : d.offset = off)
    (hi : isAggT P d.type = some false) (hc : chkOpd x c = true) (h : qop G S fr (.field off none c) K) : QOk P ρ hI w a o K := by
  obtain ⟨v, hv, hd⟩ := evK_sound hc C.g C.f (show evK G fr c _ from h)
  obtain ⟨td, htd, hag⟩ := isAggT_of hi
  generalize hx : a.eval x = u at hd
  split at hv
  · cases hd with | agg _ vs hds =>
    obtain ⟨y, r, hk, hvs, hy, _⟩ := cellK_sound hds hv
    refine ⟨_, _, hk, hy, ?_⟩
    simp only [execOp, ho, hx]
    apply exec_v
    unfold Instr.field
    rw [run_ok (run_underlying ht w)]
    simp only [hf]
    unfold asAgg
    rw [run_ok (run_pure _ w)]
    unfold part
    rw [run_ok (run_isAgg htd w), hag]
    subst hoff
    simp [hvs, run_pure]
  · exact hv.elim
theorem q_fieldN {t : TypeId} {f off n : Nat} {fs : Array Field} {d : Field} {x : Operand} {c : Opd} (C : Cx G ρ hI hF w S nx fr a) (ho : o.op = .field t x f) (ht : P.underlying t = some (.struct fs)) (hf : fs[f]? = some d) (hoff : d.offset = off)
    (hi : isAggT P d.type = some true) (hn : sizeT P d.type = some n) (hc : chkOpd x c = true) (h : qop G S fr (.field off (some n) c) K) : QOk P ρ hI w a o K := by
  obtain ⟨v, hv, hd⟩ := evK_sound hc C.g C.f (show evK G fr c _ from h)
  obtain ⟨td, htd, hag⟩ := isAggT_of hi
  obtain ⟨i, hi', rfl⟩ := sizeT_of hn
  generalize hx : a.eval x = u at hd
  split at hv
  · cases hd with | agg _ vs hds =>
    obtain ⟨r, hk, hr, hle⟩ := takeK_sound hds hv
    refine ⟨_, _, hk, .agg _ _ hr, ?_⟩
    simp only [execOp, ho, hx]
    apply exec_v
    unfold Instr.field
    rw [run_ok (run_underlying ht w)]
    simp only [hf]
    unfold asAgg
    rw [run_ok (run_pure _ w)]
    unfold part
    rw [run_ok (run_isAgg htd w), hag]
    simp only [if_true]
    rw [run_ok (run_sizeOf hi' w)]
    subst hoff
    have : vs.toArray.extract d.offset (d.offset + i.size) = ((vs.drop d.offset).take i.size).toArray := by
      apply Array.toList_inj.1
      simp [List.extract_eq_take_drop]
    rw [this]
    rfl
  · exact hv.elim
theorem run_ixarr {t e : TypeId} {n : Nat} {ie : TypeInfo} {k : IntKind} {i : Int} {b q : Nat} (ht : P.underlying t = some (.array n e)) (hi : P.info? e = some ie) (h0 : 0 ≤ i) (h1 : i < n) :
    (Instr.indexAt t (.pointer (some ⟨b, q, none⟩)) (.int k i)).run P w = .ok (.pointer (some ⟨b, q + i.toNat * ie.size, none⟩)) w := by
  unfold Instr.indexAt asIntOf
  rw [run_ok (run_pure _ w)]
  simp only
  rw [run_ok (run_underlying ht w)]
  simp only [Instr.sureAddr]
  rw [run_ok (run_pure _ w)]
  rw [run_ok (run_pure _ w)]
  simp only
  rw [run_ok (run_underlying ht w)]
  simp only [h0, h1, and_self, if_true]
  rw [run_ok (run_sizeOf hi w), addr_add]
  rfl
theorem run_ixsl {t e : TypeId} {len cap : Nat} {ie : TypeInfo} {k : IntKind} {i : Int} {A : Addr} (ht : P.underlying t = some (.slice e)) (hi : P.info? e = some ie) (h0 : 0 ≤ i) (h1 : i < len) :
    (Instr.indexAt t (.slice (some A) len cap) (.int k i)).run P w = .ok (.pointer (some (A.add (i.toNat * ie.size)))) w := by
  unfold Instr.indexAt asIntOf
  rw [run_ok (run_pure _ w)]
  simp only
  rw [run_ok (run_underlying ht w)]
  simp only
  rw [run_ok (run_pure _ w)]
  simp only
  rw [run_ok (run_underlying ht w)]
  simp only [h0, h1, and_self, if_true]
  rw [run_ok (run_sizeOf hi w)]
  rfl
theorem q_ixarr {t e : TypeId} {n sz : Nat} {x i : Operand} {c d : Opd} (C : Cx G ρ hI hF w S nx fr a) (ho : o.op = .indexAddr t x i) (ht : P.underlying t = some (.array n e)) (hs : sizeT P e = some sz)
    (h1 : chkOpd x c = true) (h2 : chkOpd i d = true) (h : qop G S fr (.ixarr sz n c d) K) : QOk P ρ hI w a o K := by
  obtain ⟨v, hv, hd⟩ := evK_sound h1 C.g C.f (show evK G fr c _ from h)
  obtain ⟨k, j, hj, hej⟩ := evoK_sound h2 C.g C.f hv
  obtain ⟨ie, hie, rfl⟩ := sizeT_of hs
  generalize hx : a.eval x = u at hd
  split at hj
  · rename_i m off i' e1
    cases e1
    obtain ⟨⟨h0, hlt⟩, hk⟩ := vc_iff.1 hj
    cases hd with | ptr _ _ en he =>
    refine ⟨_, _, hk, .ixp _ _ _ _ en he, ?_⟩
    simp only [execOp, ho, hx, hej]
    exact exec_v (run_ixarr ht hie h0 hlt)
  · rename_i m l i' e1
    cases e1
    obtain ⟨⟨h1s, h0, hlt, hle⟩, hk⟩ := vc_iff.1 hj
    cases hd with | iv _ _ hd => cases hd with | ip _ b q vs hds hcs =>
    cases hds with
    | one _ _ _ _ hz => exact (no_isbs hz).elim
    | sbs _ _ _ vs' hl hs' =>
      cases hs'
      refine ⟨_, _, hk, .iv _ _ (.ip _ b (q + j.toNat * ie.size) [bv (l.getD j.toNat 0)] (.one _ _ _ _ (.byte _) rfl .nil) (fun jj v hjj => ?_)), ?_⟩
      · cases jj with
        | zero =>
          simp only [List.getElem?_cons_zero, Option.some.injEq] at hjj
          subst hjj
          have := hcs j.toNat _ (getD_app_bytes (l := l) (vs := []) (by omega))
          rw [h1s]; simpa using this
        | succ jj => simp at hjj
      · simp only [execOp, ho, hx, hej]
        exact exec_v (run_ixarr ht hie h0 hlt)
  · rename_i kd m l i' e1
    cases e1
    obtain ⟨⟨h1s, h0, hlt, hle⟩, hk⟩ := vc_iff.1 hj
    cases hd with | iv _ _ hd => cases hd with | ip _ b q vs hds hcs =>
    cases hds with
    | one _ _ _ _ hz => exact (no_isis hz).elim
    | sis _ _ _ _ vs' hl hs' =>
      cases hs'
      refine ⟨_, _, hk, .iv _ _ (.ip _ b (q + j.toNat * ie.size) [.int kd (l.getD j.toNat 0)] (.one _ _ _ _ (.int _ _) rfl .nil) (fun jj v hjj => ?_)), ?_⟩
      · cases jj with
        | zero =>
          simp only [List.getElem?_cons_zero, Option.some.injEq] at hjj
          subst hjj
          have := hcs j.toNat _ (getD_app_ints (l := l) (vs := []) (by omega))
          rw [h1s]; simpa using this
        | succ jj => simp at hjj
      · simp only [execOp, ho, hx, hej]
        exact exec_v (run_ixarr ht hie h0 hlt)
  · exact hj.elim
theorem q_ixsl {t e : TypeId} {sz : Nat} {x i : Operand} {c d : Opd} (C : Cx G ρ hI hF w S nx fr a) (ho : o.op = .indexAddr t x i) (ht : P.underlying t = some (.slice e)) (hs : sizeT P e = some sz)
    (h1 : chkOpd x c = true) (h2 : chkOpd i d = true) (h : qop G S fr (.ixsl sz c d) K) : QOk P ρ hI w a o K := by
  obtain ⟨v, hv, hd⟩ := evK_sound h1 C.g C.f (show evK G fr c _ from h)
  obtain ⟨k, j, hj, hej⟩ := evoK_sound h2 C.g C.f hv
  obtain ⟨ie, hie, rfl⟩ := sizeT_of hs
  generalize hx : a.eval x = u at hd
  split at hj
  · rename_i l i' e1
    cases e1
    obtain ⟨⟨h1s, h0, hlt⟩, hk⟩ := vc_iff.1 hj
    cases hd with | iv _ _ hd =>
    cases hd with
    | ib _ b q cap hcs hl =>
      refine ⟨_, _, hk, .iv _ _ (.ip _ b (q + j.toNat * ie.size) [bv (l.getD j.toNat 0)] (.one _ _ _ _ (.byte _) rfl .nil) (fun jj v hjj => ?_)), ?_⟩
      · cases jj with
        | zero =>
          simp only [List.getElem?_cons_zero, Option.some.injEq] at hjj
          subst hjj
          have hlt' : j.toNat < l.length := by omega
          have := hcs j.toNat (l.getD j.toNat 0) (by simp [List.getD_eq_getElem?_getD, hlt'])
          rw [h1s]; simpa using this
        | succ jj => simp at hjj
      · simp only [execOp, ho, hx, hej]
        have := run_ixsl (P := P) (w := w) (k := k) (cap := cap) (A := ⟨b, q, none⟩) ht hie h0 hlt
        rw [addr_add] at this
        exact exec_v this
    | ib0 => simp at hlt; omega
  · rename_i sz' len E i' e1
    cases e1
    obtain ⟨⟨h1s, h0, hlt⟩, hk⟩ := vc_iff.1 hj
    cases hd with | iv _ _ hd =>
    cases hd with
    | isl _ _ _ b q cap vs hds hss hcs hl =>
      refine ⟨_, _, hk, .iv _ _ (.ip _ b (q + j.toNat * ie.size) (vs j.toNat) (hds _ (by omega)) (fun jj v hjj => ?_)), ?_⟩
      · have := hcs j.toNat (by omega) jj v hjj
        rw [h1s]; exact this
      · simp only [execOp, ho, hx, hej]
        have := run_ixsl (P := P) (w := w) (k := k) (cap := cap) (A := ⟨b, q, none⟩) ht hie h0 hlt
        rw [addr_add] at this
        exact exec_v this
    | isl0 => omega
  · rename_i sz' n off len i' e1
    cases e1
    obtain ⟨⟨h1s, h0, hlt⟩, hk⟩ := vc_iff.1 hj
    cases hd with
    | sl _ _ _ _ en A he hnil hA hcap =>
      have := hA (.inl (by omega))
      subst this
      refine ⟨_, _, hk, .ixp _ _ _ _ en he, ?_⟩
      simp only [execOp, ho, hx, hej]
      have := run_ixsl (P := P) (w := w) (k := k) (len := len) (cap := en.cap / sz' - off) (A := ⟨en.b, off * sz', none⟩) ht hie h0 hlt
      rw [addr_add] at this
      have e2 : 0 + (off + j.toNat) * ie.size = off * sz' + j.toNat * ie.size := by rw [← h1s, Nat.add_mul]; omega
      rw [e2]
      exact exec_v this
    | slnil => omega
  · rename_i sz' n off len cap i' e1
    cases e1
    obtain ⟨⟨h1s, h0, hlt⟩, hk⟩ := vc_iff.1 hj
    cases hd with | slx _ _ _ _ _ en he hl =>
    refine ⟨_, _, hk, .ixp _ _ _ _ en he, ?_⟩
    simp only [execOp, ho, hx, hej]
    have := run_ixsl (P := P) (w := w) (k := k) (len := len) (cap := cap) (A := ⟨en.b, off, none⟩) ht hie h0 hlt
    rw [addr_add] at this
    exact exec_v this
  · exact hj.elim
theorem q_idxstr {t : TypeId} {x i : Operand} {c d : Opd} (C : Cx G ρ hI hF w S nx fr a) (ho : o.op = .index t x i) (ht : P.underlying t = some .string)
    (h1 : chkOpd x c = true) (h2 : chkOpd i d = true) (h : qop G S fr (.idxstr c d) K) : QOk P ρ hI w a o K := by
  obtain ⟨v, hv, hd⟩ := evK_sound h1 C.g C.f (show evK G fr c _ from h)
  obtain ⟨k, j, hj, hej⟩ := evoK_sound h2 C.g C.f hv
  generalize hx : a.eval x = u at hd
  split at hj
  · rename_i l i' e1
    cases e1
    obtain ⟨⟨h0, hlt⟩, hk⟩ := vc_iff.1 hj
    cases hd with | iv _ _ hd => cases hd with | str =>
    refine ⟨_, _, hk, .iv _ _ (.byte _), ?_⟩
    simp only [execOp, ho, hx, hej]
    apply exec_v
    unfold Instr.index asIntOf
    rw [run_ok (run_pure _ w)]
    simp only
    rw [run_ok (run_underlying ht w)]
    have hlt' : j.toNat < l.length := by omega
    have e2 : (⟨l.toArray⟩ : ByteArray)[j.toNat]? = some (l.getD j.toNat 0) := by
      have hs : j.toNat < (⟨l.toArray⟩ : ByteArray).size := by rw [ba_size]; exact hlt'
      rw [getElem?_pos (⟨l.toArray⟩ : ByteArray) j.toNat hs]
      simp [List.getD_eq_getElem?_getD, hlt', ByteArray.getElem_eq_getElem_data]
    simp only [h0, if_true, e2]
    rfl
  · exact hj.elim
theorem q_idxagg {t e : TypeId} {n : Nat} {x i : Operand} {c d : Opd} (C : Cx G ρ hI hF w S nx fr a) (ho : o.op = .index t x i) (ht : P.underlying t = some (.array n e)) (hs : sizeT P e = some 1) (ha : isAggT P e = some false)
    (h1 : chkOpd x c = true) (h2 : chkOpd i d = true) (h : qop G S fr (.idxagg n c d) K) : QOk P ρ hI w a o K := by
  obtain ⟨v, hv, hd⟩ := evK_sound h1 C.g C.f (show evK G fr c _ from h)
  obtain ⟨k, j, hj, hej⟩ := evoK_sound h2 C.g C.f hv
  obtain ⟨ie, hie, hsz⟩ := sizeT_of hs
  obtain ⟨td, htd, hag⟩ := isAggT_of ha
  have run : ∀ (vs : List Value) (r : Value), 0 ≤ j → j < n → vs[j.toNat]? = some r → (Instr.index t (.agg vs.toArray) (.int k j)).run P w = .ok r w := by
    intro vs r h0 hlt hr
    unfold Instr.index asIntOf
    rw [run_ok (run_pure _ w)]
    simp only
    rw [run_ok (run_underlying ht w)]
    simp only [h0, hlt, and_self, if_true]
    rw [run_ok (run_sizeOf hie w), hsz]
    unfold part
    rw [run_ok (run_isAgg htd w), hag]
    simp [hr, run_pure]
  generalize hx : a.eval x = u at hd
  split at hj
  · rename_i m l i' e1
    cases e1
    obtain ⟨⟨h0, hlt, hm⟩, hk⟩ := vc_iff.1 hj
    cases hd with | agg _ vs hds =>
    cases hds with
    | one _ _ _ _ hz => exact (no_sbs hz).elim
    | sbs _ _ _ vs' hl hs' =>
      cases hs'
      refine ⟨_, _, hk, .iv _ _ (.byte _), ?_⟩
      simp only [execOp, ho, hx, hej]
      exact exec_v (run _ _ h0 hlt (getD_app_bytes (by omega)))
  · rename_i kd m l i' e1
    cases e1
    obtain ⟨⟨h0, hlt, hm⟩, hk⟩ := vc_iff.1 hj
    cases hd with | agg _ vs hds =>
    cases hds with
    | one _ _ _ _ hz => exact (no_sis hz).elim
    | sis _ _ _ _ vs' hl hs' =>
      cases hs'
      refine ⟨_, _, hk, .iv _ _ (.int _ _), ?_⟩
      simp only [execOp, ho, hx, hej]
      exact exec_v (run _ _ h0 hlt (getD_app_ints (by omega)))
  · exact hj.elim
end
end Sg
end Go.Proofs.YtfkboondffejaaaGreatDoor
set_option linter.unusedVariables false
set_option linter.unusedSimpArgs false
namespace Go.Proofs.YtfkboondffejaaaGreatDoor
namespace Sg
variable {P : Program}
section
variable {G : Gl} {ρ : Env} {hI : Hp} {hF : Fm} {w : World} {S : SH} {nx : Nat} {fr : FT} {a : Act} {o : Oper} {K : SV → Prop}
theorem bounds_of {b : Bool} {len cap : Nat} {lo hi : Option Operand} {l h : Option Int} (hl : (lo = none ∧ l = none) ∨ ∃ y k n, lo = some y ∧ l = some n ∧ a.eval y = .int k n)
    (hh : (hi = none ∧ h = none) ∨ ∃ y k n, hi = some y ∧ h = some n ∧ a.eval y = .int k n) (h0 : 0 ≤ l.getD 0) (h1 : l.getD 0 ≤ h.getD len) (h2 : h.getD len ≤ cap) :
    (Instr.sliceBounds b len cap (lo.map a.eval) (hi.map a.eval) none).run P w = .ok ((l.getD 0).toNat, (h.getD len).toNat, cap) w := by
  refine run_bounds ?_ ?_ ?_ ?_ h0 h1 h2
  · intro v hv
    rcases hl with ⟨rfl, _⟩ | ⟨y, k, n, rfl, rfl, e⟩
    · simp at hv
    · simp at hv; subst hv; exact ⟨k, n, e, rfl⟩
  · intro hv
    rcases hl with ⟨rfl, rfl⟩ | ⟨y, k, n, rfl, rfl, e⟩
    · rfl
    · simp at hv
  · intro v hv
    rcases hh with ⟨rfl, _⟩ | ⟨y, k, n, rfl, rfl, e⟩
    · simp at hv
    · simp at hv; subst hv; exact ⟨k, n, e, rfl⟩
  · intro hv
    rcases hh with ⟨rfl, rfl⟩ | ⟨y, k, n, rfl, rfl, e⟩
    · rfl
    · simp at hv
theorem evoK_two {lo hi : Option Operand} {l h : Option Opd} {Kk : Option Int → Option Int → Prop} (C : Cx G ρ hI hF w S nx fr a) (h1 : chkOpO lo l = true) (h2 : chkOpO hi h = true) (hk : evoK G fr l fun x => evoK G fr h fun y => Kk x y) :
    ∃ x y, Kk x y ∧ ((lo = none ∧ x = none) ∨ ∃ z k n, lo = some z ∧ x = some n ∧ a.eval z = .int k n) ∧ ((hi = none ∧ y = none) ∨ ∃ z k n, hi = some z ∧ y = some n ∧ a.eval z = .int k n) := by
  rcases evoK_sound' h1 C.g C.f hk with ⟨_, rfl, hk'⟩ | ⟨z, k, n, rfl, hk', e⟩
  · rcases evoK_sound' h2 C.g C.f hk' with ⟨_, rfl, hk''⟩ | ⟨z', k', n', rfl, hk'', e'⟩
    · exact ⟨_, _, hk'', .inl ⟨rfl, rfl⟩, .inl ⟨rfl, rfl⟩⟩
    · exact ⟨_, _, hk'', .inl ⟨rfl, rfl⟩, .inr ⟨_, _, _, rfl, rfl, e'⟩⟩
  · rcases evoK_sound' h2 C.g C.f hk' with ⟨_, rfl, hk''⟩ | ⟨z', k', n', rfl, hk'', e'⟩
    · exact ⟨_, _, hk'', .inr ⟨_, _, _, rfl, rfl, e⟩, .inl ⟨rfl, rfl⟩⟩
    · exact ⟨_, _, hk'', .inr ⟨_, _, _, rfl, rfl, e⟩, .inr ⟨_, _, _, rfl, rfl, e'⟩⟩
theorem q_slarr {t e : TypeId} {n sz : Nat} {x : Operand} {lo hi : Option Operand} {c : Opd} {l h : Option Opd} (C : Cx G ρ hI hF w S nx fr a) (ho : o.op = .slice t x lo hi none) (ht : P.underlying t = some (.array n e)) (hs : sizeT P e = some sz)
    (h1 : chkOpd x c = true) (h2 : chkOpO lo l = true) (h3 : chkOpO hi h = true) (hq : qop G S fr (.slarr sz n c l h) K) : QOk P ρ hI w a o K := by
  obtain ⟨v, hv, hd⟩ := evK_sound h1 C.g C.f (show evK G fr c _ from hq)
  obtain ⟨p, q, hk, hp, hq'⟩ := evoK_two C h2 h3 hv
  obtain ⟨ie, hie, rfl⟩ := sizeT_of hs
  generalize hx : a.eval x = u at hd
  split at hk
  · rename_i m off
    obtain ⟨⟨b0, b1, b2, b3⟩, hk2⟩ := vc_iff.1 hk
    cases hd with | ptr _ _ en he =>
    refine ⟨_, _, hk2, .slx _ _ _ _ _ en he (by omega), ?_⟩
    simp only [execOp, ho, hx, Option.map_none]
    apply exec_v
    unfold Instr.sliceAt
    rw [run_ok (run_underlying ht w)]
    simp only [Instr.sureAddr]
    rw [run_ok (run_pure _ w), run_ok (bounds_of hp hq' b0 b1 (by exact_mod_cast b2))]
    simp only
    rw [run_ok (run_sizeOf hie w)]
    rw [if_neg (by omega), addr_add]
    rfl
  · exact hk.elim
theorem run_slice {t e : TypeId} {ie : TypeInfo} {lo hi : Option Operand} {p q : Option Int} {A : Option Addr} {len cap : Nat} (ht : P.underlying t = some (.slice e)) (hi' : P.info? e = some ie)
    (hl : (lo = none ∧ p = none) ∨ ∃ y k n, lo = some y ∧ p = some n ∧ a.eval y = .int k n) (hh : (hi = none ∧ q = none) ∨ ∃ y k n, hi = some y ∧ q = some n ∧ a.eval y = .int k n)
    (h0 : 0 ≤ p.getD 0) (h1 : p.getD 0 ≤ q.getD len) (h2 : q.getD len ≤ cap) :
    (Instr.sliceAt t (.slice A len cap) (lo.map a.eval) (hi.map a.eval) none).run P w =
      .ok (.slice (if cap = (p.getD 0).toNat then A else A.map (·.add ((p.getD 0).toNat * ie.size))) ((q.getD len).toNat - (p.getD 0).toNat) (cap - (p.getD 0).toNat)) w := by
  unfold Instr.sliceAt
  rw [run_ok (run_underlying ht w)]
  simp only
  unfold Instr.slice
  rw [run_ok (run_underlying ht w)]
  simp only
  rw [run_ok (bounds_of hl hh h0 h1 h2)]
  simp only
  rw [run_ok (run_sizeOf hi' w)]
  rfl
def cut (A : Option Addr) (cap pn qn sz : Nat) : Value := .slice (if cap = pn then A else A.map (·.add (pn * sz))) (qn - pn) (cap - pn)
theorem cut_ib {b : List UInt8} {v : Value} {pn qn : Nat} (hd : IDen hI (.ib b) v) (h1 : pn ≤ qn) (h2 : qn ≤ b.length) :
    ∃ A cap, v = .slice A b.length cap ∧ b.length ≤ cap ∧ IDen hI (.ib (sub b pn (qn - pn))) (cut A cap pn qn 1) := by
  have hlen : (sub b pn (qn - pn)).length = qn - pn := by simp [sub]; omega
  cases hd with
  | ib _ bb off cap hcs hl =>
    refine ⟨_, cap, rfl, hl, ?_⟩
    by_cases hz : qn - pn = 0
    · have hnil : sub b pn (qn - pn) = [] := by rw [hz]; simp [sub]
      rw [hnil]; unfold cut; rw [hz]; exact .ib0 _ _
    · have hne : ¬ cap = pn := by omega
      unfold cut
      rw [if_neg hne]
      simp only [Option.map_some, addr_add, Nat.mul_one]
      have := IDen.ib (hI := hI) (sub b pn (qn - pn)) bb (off + pn) (cap - pn) (fun i y hy => by
        simp only [sub] at hy
        have hlt : i < qn - pn := by have := (List.getElem?_eq_some_iff.1 hy).1; simp at this; omega
        rw [List.getElem?_take_of_lt hlt, List.getElem?_drop] at hy
        rw [Nat.add_assoc]; exact hcs _ _ hy) (by omega)
      rwa [hlen] at this
  | ib0 A cap =>
    have e1 : pn = 0 := by simp at h2; omega
    have e2 : qn = 0 := by simp at h2; omega
    subst e1; subst e2
    exact ⟨A, cap, rfl, Nat.zero_le _, .ib0 _ _⟩
theorem cut_isl {sz len : Nat} {E : Nat → List IV} {v : Value} {pn qn : Nat} (hd : IDen hI (.isl sz len E) v) (h1 : pn ≤ qn) (h2 : qn ≤ len) :
    ∃ A cap, v = .slice A len cap ∧ len ≤ cap ∧ IDen hI (.isl sz (qn - pn) (fun i => E (pn + i))) (cut A cap pn qn sz) := by
  cases hd with
  | isl _ _ _ b off cap vs hds hss hcs hl =>
    refine ⟨_, cap, rfl, hl, ?_⟩
    by_cases hz : qn - pn = 0
    · unfold cut; rw [hz]; exact .isl0 _ _ _ _
    · have hne : ¬ cap = pn := by omega
      unfold cut
      rw [if_neg hne]
      simp only [Option.map_some, addr_add]
      refine .isl _ _ _ b (off + pn * sz) _ (fun i => vs (pn + i)) (fun i hi => hds _ (by omega)) (fun i hi => hss _ (by omega)) (fun i hi j v hj => ?_) (by omega)
      have := hcs (pn + i) (by omega) j v hj
      rw [← this]; congr 1; rw [Nat.add_mul]; omega
  | isl0 _ _ A cap =>
    have e1 : pn = 0 := by omega
    have e2 : qn = 0 := by omega
    subst e1; subst e2
    exact ⟨A, cap, rfl, Nat.zero_le _, .isl0 _ _ _ _⟩
theorem cut_sl {sz n off len : Nat} {v : Value} {pn qn : Nat} (hd : SDen ρ hI (.sl sz n off len) v) (h1 : pn ≤ qn) (h2 : qn ≤ len) :
    ∃ A cap, v = .slice A len cap ∧ len ≤ cap ∧ SDen ρ hI (.sl sz n (off + pn) (qn - pn)) (cut A cap pn qn sz) := by
  cases hd with
  | sl _ _ _ _ en A he hnil hA hcap =>
    refine ⟨some A, _, rfl, by omega, ?_⟩
    unfold cut
    have e : (if en.cap / sz - off = pn then some A else Option.map (fun x => x.add (pn * sz)) (some A)) = some (if en.cap / sz - off = pn then A else A.add (pn * sz)) := by split <;> rfl
    rw [e, show en.cap / sz - off - pn = en.cap / sz - (off + pn) by omega]
    refine .sl _ _ _ _ en _ he hnil (fun hpos => ?_) (by omega)
    by_cases hz : qn - pn = 0
    · have ho0 : off = 0 := by omega
      have hp0 : pn = 0 := by omega
      have := hA (.inr ho0)
      subst this
      subst ho0; subst hp0
      simp [addr_add]
    · have := hA (.inl (by omega))
      subst this
      rw [if_neg (by omega), addr_add, Nat.add_mul]
  | slnil _ _ en he hnil =>
    have e1 : pn = 0 := by omega
    have e2 : qn = 0 := by omega
    subst e1; subst e2
    exact ⟨none, 0, rfl, Nat.zero_le _, .slnil _ _ en he hnil⟩
theorem q_slsl {t e : TypeId} {sz : Nat} {x : Operand} {lo hi : Option Operand} {c : Opd} {l h : Option Opd} (C : Cx G ρ hI hF w S nx fr a) (ho : o.op = .slice t x lo hi none) (ht : P.underlying t = some (.slice e)) (hs : sizeT P e = some sz)
    (h1 : chkOpd x c = true) (h2 : chkOpO lo l = true) (h3 : chkOpO hi h = true) (hq : qop G S fr (.slsl sz c l h) K) : QOk P ρ hI w a o K := by
  obtain ⟨v, hv, hd⟩ := evK_sound h1 C.g C.f (show evK G fr c _ from hq)
  obtain ⟨p, q, hk, hp, hq'⟩ := evoK_two C h2 h3 hv
  obtain ⟨ie, hie, rfl⟩ := sizeT_of hs
  clear hv hq hs
  have run : ∀ (A : Option Addr) (len cap : Nat) (u : SV), a.eval x = .slice A len cap → 0 ≤ p.getD 0 → p.getD 0 ≤ q.getD len → q.getD len ≤ cap → K u → SDen ρ hI u (cut A cap (p.getD 0).toNat (q.getD len).toNat ie.size) → QOk P ρ hI w a o K := by
    intro A len cap u hx b0 b1 b2 hk hu
    refine ⟨u, _, hk, hu, ?_⟩
    simp only [execOp, ho, hx, Option.map_none]
    apply exec_v
    rw [run_slice ht hie hp hq' b0 b1 b2]
    rfl
  generalize hx : a.eval x = u at hd
  split at hk
  · obtain ⟨⟨b0, b1⟩, hk2⟩ := vc_iff.1 hk
    cases hd with | iv _ _ hd => cases hd with | nilsl =>
    refine run none 0 0 _ hx (by omega) (by rw [b0]; simp [b1]) (by simp [b1]) hk2 ?_
    unfold cut
    simp [b0, b1]
    exact .iv _ _ .nilsl
  · rename_i bl
    obtain ⟨⟨hsz, b0, b1, b2⟩, hk2⟩ := vc_iff.1 hk
    cases hd with | iv _ _ hd =>
    obtain ⟨A, cap, rfl, hcap, hden⟩ := cut_ib (pn := (p.getD 0).toNat) (qn := (q.getD (bl.length : Int)).toNat) hd (by omega) (by omega)
    rw [← hsz] at hden
    exact run A _ cap _ hx b0 b1 (by omega) hk2 (.iv _ _ hden)
  · rename_i sz' len E
    obtain ⟨⟨hsz, b0, b1, b2⟩, hk2⟩ := vc_iff.1 hk
    cases hd with | iv _ _ hd =>
    obtain ⟨A, cap, rfl, hcap, hden⟩ := cut_isl (pn := (p.getD 0).toNat) (qn := (q.getD (len : Int)).toNat) hd (by omega) (by omega)
    rw [← hsz] at hden
    exact run A _ cap _ hx b0 b1 (by omega) hk2 (.iv _ _ hden)
  · rename_i sz' n off len
    obtain ⟨⟨hsz, b0, b1, b2⟩, hk2⟩ := vc_iff.1 hk
    obtain ⟨A, cap, rfl, hcap, hden⟩ := cut_sl (pn := (p.getD 0).toNat) (qn := (q.getD (len : Int)).toNat) hd (by omega) (by omega)
    rw [← hsz] at hden
    exact run A _ cap _ hx b0 b1 (by omega) hk2 hden
  · rename_i sz' n off len cap
    obtain ⟨⟨hsz, b0, b1, b2, b3⟩, hk2⟩ := vc_iff.1 hk
    cases hd with | slx _ _ _ _ _ en he hl =>
    refine run (some ⟨en.b, off, none⟩) len cap _ hx b0 b1 (by omega) hk2 ?_
    unfold cut
    rw [if_neg (by omega)]
    simp only [Option.map_some, addr_add]
    exact .slx _ _ _ _ _ en he (by omega)
  · exact hk.elim
theorem q_slstr {t : TypeId} {x : Operand} {lo hi : Option Operand} {c : Opd} {l h : Option Opd} (C : Cx G ρ hI hF w S nx fr a) (ho : o.op = .slice t x lo hi none) (ht : P.underlying t = some .string)
    (h1 : chkOpd x c = true) (h2 : chkOpO lo l = true) (h3 : chkOpO hi h = true) (hq : qop G S fr (.slstr c l h) K) : QOk P ρ hI w a o K := by
  obtain ⟨v, hv, hd⟩ := evK_sound h1 C.g C.f (show evK G fr c _ from hq)
  obtain ⟨p, q, hk, hp, hq'⟩ := evoK_two C h2 h3 hv
  generalize hx : a.eval x = u at hd
  split at hk
  · rename_i b
    obtain ⟨⟨b0, b1, b2⟩, hk2⟩ := vc_iff.1 hk
    cases hd with | iv _ _ hd => cases hd with | str =>
    refine ⟨_, _, hk2, .iv _ _ (.str _), ?_⟩
    simp only [execOp, ho, hx, Option.map_none]
    apply exec_v
    unfold Instr.sliceAt
    rw [run_ok (run_underlying ht w)]
    simp only
    unfold Instr.slice
    rw [run_ok (run_underlying ht w)]
    simp only [Option.isSome_none, Bool.false_eq_true, if_false]
    rw [run_ok (bounds_of (b := false) (len := (⟨b.toArray⟩ : ByteArray).size) (cap := (⟨b.toArray⟩ : ByteArray).size) hp hq' b0 (by rw [ba_size]; exact b1) (by rw [ba_size]; exact_mod_cast b2))]
    simp only [ba_size]
    rw [run_pure]
    congr 2
    apply ByteArray.ext
    simp [sub, List.extract_eq_take_drop]
  · exact hk.elim
theorem STup.get {ρ : Env} {hI : Hp} : ∀ {xs : List SV} {vs : List Value}, STup ρ hI xs vs → ∀ {i : Nat} {x : SV}, xs[i]? = some x → ∃ v, vs[i]? = some v ∧ SDen ρ hI x v
  | _, _, .nil, i, x, h => by simp at h
  | _, _, .cons y v xs vs hd hs, 0, x, h => by simp at h; subst h; exact ⟨v, rfl, hd⟩
  | _, _, .cons y v xs vs hd hs, i + 1, x, h => by
    obtain ⟨u, hu, hd'⟩ := hs.get (i := i) (x := x) (by simpa using h)
    exact ⟨u, by simpa using hu, hd'⟩
theorem q_ext {x : Operand} {i : Nat} {c : Opd} (C : Cx G ρ hI hF w S nx fr a) (ho : o.op = .extract x i) (hc : chkOpd x c = true) (h : qop G S fr (.ext c i) K) : QOk P ρ hI w a o K := by
  obtain ⟨v, hv, hd⟩ := evK_sound hc C.g C.f (show evK G fr c _ from h)
  generalize hx : a.eval x = u at hd
  split at hv
  · cases hd with | tup xs vs hds =>
    obtain ⟨y, hy, hk⟩ := getK_iff.1 hv
    obtain ⟨r, hr, hdr⟩ := hds.get hy
    refine ⟨_, _, hk, hdr, ?_⟩
    simp only [execOp, ho, hx]
    apply exec_v
    unfold Instr.extract
    simp [hr, run_pure]
  · exact hv.elim
theorem q_len {b : Bool} {x : Operand} {c : Opd} {args : Array Operand} {argTypes : Array TypeId} {t : TypeId} (C : Cx G ρ hI hF w S nx fr a) (ho : o.op = .call { callee := .builtin .len, args, argTypes }) (ha : args.toList = [x]) (hT : argTypes[0]? = some t)
    (ht : (b = true ∧ P.underlying t = some .string) ∨ (b = false ∧ ∃ e, P.underlying t = some (.slice e))) (hc : chkOpd x c = true) (h : qop G S fr (.len b c) K) : QOk P ρ hI w a o K := by
  have hargs : args = #[x] := by cases args; simp_all
  subst hargs
  have fin : ∀ (n : Nat), (Builtin.len_ argTypes o.type #[a.eval x]).run P w = .ok (.int .i64 n) w → K (.iv (.int .i64 n)) → QOk P ρ hI w a o K := by
    intro n hr hk
    refine ⟨_, _, hk, .iv _ _ (.int _ _), ?_⟩
    simp only [execOp, ho, resolve]
    rw [run_ok (run_pure _ w)]
    simp only [invoke, builtin, List.map_toArray, List.map_cons, List.map_nil]
    exact exec_v hr
  rcases ht with ⟨rfl, ht⟩ | ⟨rfl, e, ht⟩
  · obtain ⟨v, hv, hd⟩ := evK_sound hc C.g C.f (show evK G fr c _ from h)
    generalize hx : a.eval x = u at hd
    split at hv
    · rename_i l
      cases hd with | iv _ _ hd => cases hd with | str =>
      refine fin l.length ?_ hv
      unfold Builtin.len_
      simp only [hT, hx, List.getElem?_toArray, List.getElem?_cons_zero]
      rw [run_ok (run_underlying ht w)]
      simp only [ba_size]
      rfl
    · exact hv.elim
  · obtain ⟨v, hv, hd⟩ := evK_sound hc C.g C.f (show evK G fr c _ from h)
    have runS : ∀ (A : Option Addr) (n cap : Nat), a.eval x = .slice A n cap → K (.iv (.int .i64 n)) → QOk P ρ hI w a o K := by
      intro A n cap hx hk
      refine fin n ?_ hk
      unfold Builtin.len_
      simp only [hT, hx, List.getElem?_toArray, List.getElem?_cons_zero]
      rw [run_ok (run_underlying ht w)]
      rfl
    generalize hx : a.eval x = u at hd
    split at hv
    · cases hd with | iv _ _ hd =>
      cases hd with
      | ib => exact runS _ _ _ hx hv
      | ib0 => exact runS _ 0 _ hx hv
    · cases hd with | iv _ _ hd =>
      cases hd with
      | isl => exact runS _ _ _ hx hv
      | isl0 => exact runS _ 0 _ hx hv
    · cases hd with | iv _ _ hd => cases hd with | nilsl => exact runS _ 0 _ hx hv
    · cases hd with
      | sl => exact runS _ _ _ hx hv
      | slnil => exact runS _ 0 _ hx hv
    · cases hd with | slx => exact runS _ _ _ hx hv
    · exact hv.elim
theorem q_mm {mx : Bool} {x y : Operand} {c d : Opd} {args : Array Operand} {argTypes : Array TypeId} (C : Cx G ρ hI hF w S nx fr a) (ho : o.op = .call { callee := .builtin (bif mx then .max else .min), args, argTypes }) (ha : args.toList = [x, y])
    (hc : chkOpd x c = true) (hd : chkOpd y d = true) (h : qop G S fr (.mm mx c d) K) : QOk P ρ hI w a o K := by
  have hargs : args = #[x, y] := by cases args; simp_all
  subst hargs
  obtain ⟨u, hu, hdu⟩ := evK_sound hc C.g C.f (show evK G fr c _ from h)
  obtain ⟨v, hv, hdv⟩ := evK_sound hd C.g C.f hu
  generalize hx : a.eval x = vx at hdu
  generalize hy : a.eval y = vy at hdv
  split at hv
  · rename_i k p k' q
    obtain ⟨rfl, hk⟩ := vc_iff.1 hv
    cases hdu with | iv _ _ hdu => cases hdu with | int =>
    cases hdv with | iv _ _ hdv => cases hdv with | int =>
    refine ⟨_, _, hk, .iv _ _ (.int _ _), ?_⟩
    simp only [execOp, ho, resolve]
    cases mx
    · simp only [cond_false]
      rw [run_ok (run_pure _ w)]
      simp only [invoke, builtin, List.map_toArray, List.map_cons, List.map_nil, hx, hy]
      apply exec_v
      show (List.foldlM Builtin.min2 (.int k p) [.int k q]).run P w = _
      simp only [List.foldlM_cons, List.foldlM_nil]
      have : (Builtin.min2 (.int k p) (.int k q)).run P w = .ok (.int k (min p q)) w := by
        unfold Builtin.min2
        rw [run_pure]
        congr 2
        by_cases hpq : q < p
        · rw [if_pos hpq]; omega
        · rw [if_neg hpq]; omega
      rw [run_ok this]
      rfl
    · simp only [cond_true]
      rw [run_ok (run_pure _ w)]
      simp only [invoke, builtin, List.map_toArray, List.map_cons, List.map_nil, hx, hy]
      apply exec_v
      show (List.foldlM Builtin.max2 (.int k p) [.int k q]).run P w = _
      simp only [List.foldlM_cons, List.foldlM_nil]
      have : (Builtin.max2 (.int k p) (.int k q)).run P w = .ok (.int k (max p q)) w := by
        unfold Builtin.max2
        rw [run_pure]
        congr 2
        by_cases hpq : q > p
        · rw [if_pos hpq]; omega
        · rw [if_neg hpq]; omega
      rw [run_ok this]
      rfl
  · exact hv.elim
theorem tyBool {t : TypeId} (h : (match P.underlying t with | some .bool => true | _ => false) = true) : P.underlying t = some .bool := by
  split at h
  · assumption
  · cases h
theorem tyPtr {t : TypeId} (h : (match P.underlying t with | some (.pointer e) => (sizeT P e).isSome | _ => false) = true) : ∃ e, P.underlying t = some (.pointer e) ∧ (sizeT P e).isSome = true := by
  split at h
  · exact ⟨_, by assumption, h⟩
  · cases h
theorem tyStr {t : TypeId} (h : (match P.underlying t with | some .string => true | _ => false) = true) : P.underlying t = some .string := by
  split at h
  · assumption
  · cases h
theorem qop_sound {c : COp} (C : Cx G ρ hI hF w S nx fr a) (hc : chkQ P o.op c = true) (h : qop G S fr c K) : QOk P ρ hI w a o K := by
  generalize ho : o.op = op at hc
  unfold chkQ at hc
  split at hc
  · exact q_mov C (.inl ho) hc h
  · exact q_mov C (.inr ho) hc h
  · simp only [Bool.and_eq_true] at hc; exact q_pick C ho hc.1.1 hc.1.2 hc.2 h
  · split at hc
    · exact q_build C ho (by assumption) hc h
    · cases hc
  · simp only [Bool.and_eq_true, decide_eq_true_eq] at hc; exact q_load1 C ho hc.1 hc.2 h
  · simp only [Bool.and_eq_true, decide_eq_true_eq] at hc; exact q_loadN C ho hc.1.1 hc.1.2 hc.2 h
  · exact q_nilck C ho hc h
  · simp only [Bool.and_eq_true, decide_eq_true_eq] at hc; obtain ⟨⟨rfl, h1⟩, h2⟩ := hc; exact q_bin C ho h1 h2 h
  · simp only [Bool.and_eq_true] at hc; exact q_eqb C ho rfl (tyBool hc.1.1) hc.1.2 hc.2 h
  · simp only [Bool.and_eq_true] at hc; exact q_eqb C ho rfl (tyBool hc.1.1) hc.1.2 hc.2 h
  · simp only [Bool.and_eq_true] at hc; obtain ⟨e, he, hz⟩ := tyPtr hc.1.1; exact q_eqp C ho rfl he hz hc.1.2 hc.2 h
  · simp only [Bool.and_eq_true] at hc; obtain ⟨e, he, hz⟩ := tyPtr hc.1.1; exact q_eqp C ho rfl he hz hc.1.2 hc.2 h
  · simp only [Bool.and_eq_true, decide_eq_true_eq] at hc; obtain ⟨rfl, h1⟩ := hc; exact q_un C ho h1 h
  · simp only [Bool.and_eq_true, decide_eq_true_eq] at hc; exact q_cint C ho hc.1.1 hc.1.2 hc.2 h
  · simp only [Bool.and_eq_true] at hc
    obtain ⟨⟨h1, h2⟩, h3⟩ := hc
    split at h1
    · exact q_b2s C ho (sliceE_of (by assumption)) (isU8_of h1) (tyStr h2) h3 h
    · cases h1
  · simp only [Bool.and_eq_true] at hc
    obtain ⟨h1, h2⟩ := hc
    split at h1
    · obtain rfl := Nat.eq_of_beq_eq_true h1
      exact q_s2ap C ho (arrE_of (by assumption)) h2 h
    · cases h1
  · simp only [Bool.and_eq_true] at hc
    obtain ⟨h1, h2⟩ := hc
    split at h1
    · rename_i d hd
      simp only [Bool.and_eq_true] at h1
      obtain ⟨h1, h3⟩ := h1
      obtain ⟨fs, hfs, hf⟩ := fieldOf_of hd
      split at h3
      · rename_i n hn
        obtain ⟨i, hi, rfl⟩ := sizeT_of hn
        refine q_faddr C ho hfs hf (Nat.eq_of_beq_eq_true h1) hi (fun hz => ?_) h2 h
        rw [hz] at h3
        simp at h3
      · cases h3
    · cases h1
  · simp only [Bool.and_eq_true] at hc
    obtain ⟨h1, h2⟩ := hc
    split at h1
    · rename_i d hd
      simp only [Bool.and_eq_true, decide_eq_true_eq] at h1
      obtain ⟨fs, hfs, hf⟩ := fieldOf_of hd
      exact q_field1 C ho hfs hf (Nat.eq_of_beq_eq_true h1.1) h1.2 h2 h
    · cases h1
  · simp only [Bool.and_eq_true] at hc
    obtain ⟨h1, h2⟩ := hc
    split at h1
    · rename_i d hd
      simp only [Bool.and_eq_true, decide_eq_true_eq] at h1
      obtain ⟨fs, hfs, hf⟩ := fieldOf_of hd
      exact q_fieldN C ho hfs hf (Nat.eq_of_beq_eq_true h1.1.1) h1.1.2 h1.2 h2 h
    · cases h1
  · simp only [Bool.and_eq_true] at hc
    obtain ⟨⟨h1, h2⟩, h3⟩ := hc
    split at h1
    · simp only [Bool.and_eq_true, decide_eq_true_eq] at h1
      obtain rfl := Nat.eq_of_beq_eq_true h1.1
      exact q_ixarr C ho (arrE_of (by assumption)) h1.2 h2 h3 h
    · cases h1
  · simp only [Bool.and_eq_true] at hc
    obtain ⟨⟨h1, h2⟩, h3⟩ := hc
    split at h1
    · simp only [decide_eq_true_eq] at h1
      exact q_ixsl C ho (sliceE_of (by assumption)) h1 h2 h3 h
    · cases h1
  · simp only [Bool.and_eq_true] at hc; exact q_idxstr C ho (tyStr hc.1.1) hc.1.2 hc.2 h
  · simp only [Bool.and_eq_true] at hc
    obtain ⟨⟨h1, h2⟩, h3⟩ := hc
    split at h1
    · simp only [Bool.and_eq_true, decide_eq_true_eq] at h1
      obtain rfl := Nat.eq_of_beq_eq_true h1.1.1
      exact q_idxagg C ho (arrE_of (by assumption)) h1.1.2 h1.2 h2 h3 h
    · cases h1
  · simp only [Bool.and_eq_true] at hc
    obtain ⟨⟨⟨h1, h2⟩, h3⟩, h4⟩ := hc
    split at h1
    · simp only [Bool.and_eq_true, decide_eq_true_eq] at h1
      obtain rfl := Nat.eq_of_beq_eq_true h1.1
      exact q_slarr C ho (arrE_of (by assumption)) h1.2 h2 h3 h4 h
    · cases h1
  · simp only [Bool.and_eq_true] at hc
    obtain ⟨⟨⟨h1, h2⟩, h3⟩, h4⟩ := hc
    split at h1
    · simp only [decide_eq_true_eq] at h1
      exact q_slsl C ho (sliceE_of (by assumption)) h1 h2 h3 h4 h
    · cases h1
  · simp only [Bool.and_eq_true] at hc; exact q_slstr C ho (tyStr hc.1.1.1) hc.1.1.2 hc.1.2 hc.2 h
  · simp only [Bool.and_eq_true] at hc
    obtain rfl := Nat.eq_of_beq_eq_true hc.1
    exact q_ext C ho hc.2 h
  · split at hc
    · rename_i t x hT ha
      simp only [Bool.and_eq_true] at hc
      refine q_len C ho ha hT ?_ hc.2 h
      have h1 := hc.1
      split at h1
      · exact .inl ⟨h1, by assumption⟩
      · exact .inr ⟨by simpa using h1, _, by assumption⟩
      · cases h1
    · cases hc
  · rename_i args _ _ _
    generalize ha : args.toList = l at hc
    match l, hc with
    | [x, y], hc => simp only [chkOpds, Bool.and_eq_true] at hc; exact q_mm (mx := true) C ho ha hc.1 hc.2.1 h
    | [], hc => simp [chkOpds] at hc
    | [_], hc => simp [chkOpds] at hc
    | _ :: _ :: _ :: _, hc => simp [chkOpds] at hc
  · rename_i args _ _ _
    generalize ha : args.toList = l at hc
    match l, hc with
    | [x, y], hc => simp only [chkOpds, Bool.and_eq_true] at hc; exact q_mm (mx := false) C ho ha hc.1 hc.2.1 h
    | [], hc => simp [chkOpds] at hc
    | [_], hc => simp [chkOpds] at hc
    | _ :: _ :: _ :: _, hc => simp [chkOpds] at hc
  · cases hc
end
end Sg
end Go.Proofs.YtfkboondffejaaaGreatDoor
set_option linter.unusedVariables false
set_option linter.unusedSimpArgs false
namespace Go.Proofs.YtfkboondffejaaaGreatDoor
namespace Sg
variable {P : Program}
def push (w : World) (o : Obj) : World := { w with heap := w.heap.push o }
theorem push_old {w : World} {o x : Obj} {b : Nat} (h : w.heap[b]? = some x) : (push w o).heap[b]? = some x := by
  have hlt : b < w.heap.size := (Array.getElem?_eq_some_iff.1 h).1
  simp only [push]
  rw [Array.getElem?_push_lt hlt]
  rw [Array.getElem?_eq_getElem hlt] at h
  exact h
theorem push_new (w : World) (o : Obj) : (push w o).heap[w.heap.size]? = some o := by
  show (w.heap.push o)[w.heap.size]? = some o
  simp
theorem Hp.into.push {h : Hp} {w : World} (i : h.into w) (o : Obj) : h.into (push w o) := fun b x e => push_old (i b x e)
theorem Hp.into.lt {h : Hp} {w : World} (i : h.into w) {b : Nat} (hb : w.heap.size ≤ b) : h b = none := by
  cases e : h b with
  | none => rfl
  | some x => have := (Array.getElem?_eq_some_iff.1 (i b x e)).1; omega
theorem Wk.push (w : World) (o : Obj) : Wk w (push w o) := ⟨rfl, rfl, rfl, by simp [Sg.push]⟩
theorem Sat.new {ρ : Env} {hI : Hp} {hF : Fm} {w : World} {S : SH} {nx : Nat} (h : Sat ρ hI hF w S nx) {o : SObj} {ob : Obj} {cap : Nat} (hd : ∀ ρ', ρ.sub ρ' → ODen ρ' hI o ⟨w.heap.size, cap, false⟩ (Hp.one w.heap.size ob)) :
    Env.ext nx ρ (ρ.set nx ⟨w.heap.size, cap, false⟩) ∧ Sat (ρ.set nx ⟨w.heap.size, cap, false⟩) hI hF (push w ob) ((nx, o) :: S) (nx + 1) := by
  obtain ⟨⟨k, hk, d1, d2, d3, i1, i2, i3⟩, hn, hw⟩ := h
  have r : ρ.sub (ρ.set nx ⟨w.heap.size, cap, false⟩) := Env.sub_set (hn nx (Nat.le_refl _))
  have z : ∀ {h : Hp}, h.into w → h w.heap.size = none := fun i => i.lt (Nat.le_refl _)
  refine ⟨⟨r, Env.set_low⟩, ⟨(Hp.one w.heap.size ob).union k, ⟨_, _, _, Env.set_self _ _ _, hd _ r, hk.mono r (Hp.sub.refl _), Hp.one_disj (z i2), rfl⟩, ?_, d2, ?_, i1.push _, ?_, i3.push _⟩, ?_, hw.trans (Wk.push _ _)⟩
  · exact Hp.disj_union.2 ⟨(Hp.one_disj (z i1)).symm, d1⟩
  · exact Hp.union_disj.2 ⟨Hp.one_disj (z i3), d3⟩
  · exact (Hp.into_union (Hp.one_disj (z i2))).2 ⟨Hp.one_into (push_new _ _), i2.push _⟩
  · intro n hge
    unfold Env.set
    rw [if_neg (by omega)]
    exact hn n (by omega)
theorem Sat.newNil {ρ : Env} {hI : Hp} {hF : Fm} {w : World} {S : SH} {nx : Nat} (h : Sat ρ hI hF w S nx) {o : SObj} (hd : ∀ ρ', ODen ρ' hI o ⟨0, 0, true⟩ Hp.emp) :
    Env.ext nx ρ (ρ.set nx ⟨0, 0, true⟩) ∧ Sat (ρ.set nx ⟨0, 0, true⟩) hI hF w ((nx, o) :: S) (nx + 1) := by
  obtain ⟨⟨k, hk, d1, d2, d3, i1, i2, i3⟩, hn, hw⟩ := h
  have r : ρ.sub (ρ.set nx ⟨0, 0, true⟩) := Env.sub_set (hn nx (Nat.le_refl _))
  have e : Hp.emp.union k = k := by funext b; simp [Hp.union, Hp.emp]
  refine ⟨⟨r, Env.set_low⟩, ⟨k, ⟨_, Hp.emp, k, Env.set_self _ _ _, hd _, hk.mono r (Hp.sub.refl _), Hp.emp_disj _, e.symm⟩, d1, d2, d3, i1, i2, i3⟩, ?_, hw⟩
  intro n hge
  unfold Env.set
  rw [if_neg (by omega)]
  exact hn n (by omega)
structure Only (w w' : World) (b : Nat) : Prop where
  wk : Wk w w'
  other : ∀ b', b' ≠ b → ∀ x, w.heap[b']? = some x → w'.heap[b']? = some x
theorem Only.into {w w' : World} {b : Nat} (o : Only w w' b) {h : Hp} (i : h.into w) (hb : h b = none) : h.into w' := fun b' x e => by
  by_cases hbb : b' = b
  · subst hbb; rw [hb] at e; cases e
  · exact o.other b' hbb x (i b' x e)
theorem Sat.upd {ρ : Env} {hI : Hp} {hF : Fm} {w w' : World} {S : SH} {nx n : Nat} {o o' : SObj} {e : Ent} {ob' : Obj} (h : Sat ρ hI hF w S nx) (g : SH.get S n = some o) (hr : ρ n = some e)
    (hown : ∀ h1, ODen ρ hI o e h1 → h1 e.b ≠ none ∧ ∀ b, b ≠ e.b → h1 b = none) (ho : Only w w' e.b) (hob : w'.heap[e.b]? = some ob') (hd : ODen ρ hI o' e (Hp.one e.b ob')) :
    Sat ρ hI hF w' (SH.put S n o') nx := by
  obtain ⟨⟨k, hk, d1, d2, d3, i1, i2, i3⟩, hn, hw⟩ := h
  obtain ⟨e', h1, h2, hr', ho', hs, hd12, hz, hk1, hk2⟩ := hk.take g
  rw [hr] at hr'; cases hr'
  obtain ⟨hsome, hrest⟩ := hown h1 ho'
  obtain ⟨x, hx⟩ := Option.ne_none_iff_exists'.1 hsome
  have kb : k e.b = some x := hk1 _ _ hx
  have z2 : h2 e.b = none := hd12.none_of hx
  have zI : hI e.b = none := by rcases d1 e.b with y | y; exact y; rw [kb] at y; cases y
  have zF : hF.hp e.b = none := d3.none_of kb
  obtain ⟨k', hk', hu⟩ := Own.give (S := S) hr hd hs (Hp.one_disj z2) (by rw [g]; simp)
  have sub' : ∀ b, k' b = none ↔ (b ≠ e.b ∧ h2 b = none) := fun b => by
    rw [hu b, Hp.union_none]
    constructor
    · rintro ⟨y, y2⟩
      refine ⟨fun hb => ?_, y2⟩
      subst hb; simp [Hp.one] at y
    · rintro ⟨y, y2⟩
      exact ⟨by simp [Hp.one, y], y2⟩
  refine ⟨⟨k', hk', ?_, d2, ?_, ho.into i1 zI, ?_, ho.into i3 zF⟩, hn, hw.trans ho.wk⟩
  · intro b
    rcases d1 b with y | y
    · exact .inl y
    · by_cases hb : b = e.b
      · exact .inl (hb ▸ zI)
      · exact .inr ((sub' b).2 ⟨hb, ((hz b).1 y).2⟩)
  · intro b
    rcases d3 b with y | y
    · by_cases hb : b = e.b
      · exact .inr (hb ▸ zF)
      · exact .inl ((sub' b).2 ⟨hb, ((hz b).1 y).2⟩)
    · exact .inr y
  · intro b y hy
    rw [hu b] at hy
    by_cases hb : b = e.b
    · subst hb
      simp [Hp.union, Hp.one] at hy
      rw [hob, hy]
    · have : h2 b = some y := by simpa [Hp.union, Hp.one, hb] using hy
      exact ho.other b hb y (i2 b y (hk2 _ _ this))
theorem ODen.owns {ρ : Env} {hI : Hp} {o : SObj} {e : Ent} {h : Hp} (d : ODen ρ hI o e h) (ha : ∀ ns A, o ≠ .abs ns A) (hn : e.nil = false) : h e.b ≠ none ∧ ∀ b, b ≠ e.b → h b = none := by
  have one : ∀ x, (Hp.one e.b x) e.b ≠ none ∧ ∀ b, b ≠ e.b → (Hp.one e.b x) b = none := fun x => ⟨by simp [Hp.one], fun b hb => by simp [Hp.one, hb]⟩
  cases d with
  | cells => exact one _
  | bytes => exact one _
  | bytesNil _ hz => rw [hz] at hn; cases hn
  | arr => exact one _
  | arrNil _ _ _ hz => rw [hz] at hn; cases hn
  | mp => exact one _
  | abs ns A => exact absurd rfl (ha ns A)
theorem setRow_only (w : World) (b : Nat) (cs : Array Value) : Only w (w.setRow b cs) b :=
  ⟨⟨rfl, rfl, rfl, by simp⟩, fun b' hb x hx => by rw [setRow_other w b b' cs hb]; exact hx⟩
theorem setCell_row {w : World} {b o : Nat} {v : Value} {c : Array Value} {T : TypeId} {fz : Nat × Nat} (h : w.heap[b]? = some (.cells c T fz)) : w.setCell ⟨b, o, none⟩ v = w.setRow b (c.setIfInBounds o v) := by
  have hlt : b < w.heap.size := (Array.getElem?_eq_some_iff.1 h).1
  have hv : w.heap[b] = .cells c T fz := (Array.getElem?_eq_some_iff.1 h).2
  unfold World.setCell World.setRow
  congr 1
  apply Array.ext
  · simp
  · intro i h1 h2
    simp only [Array.getElem_modify]
    split
    · rename_i hi; subst hi; simp [hv]
    · rfl
theorem run_store {w : World} {b o : Nat} {v : Value} {c : Array Value} {T : TypeId} {fz : Nat × Nat} (h : w.heap[b]? = some (.cells c T fz)) (hlt : o < c.size) (hf : Unfrozen c.size fz) (hv : one1 v = true) :
    (store ⟨b, o, none⟩ v).run P w = .ok () (w.setRow b (c.setIfInBounds o v)) := by
  have hc : w.cell? ⟨b, o, none⟩ = some c[o] := by rw [cell_of h]; simp [hlt]
  have hz : w.frozen? ⟨b, o, none⟩ = false := by
    rw [frozen_of h]
    have := hf.at o hlt
    by_cases h1 : fz.1 ≤ o
    · have : ¬ o < fz.2 := fun h2 => this ⟨h1, h2⟩
      simp [this]
    · simp [h1]
  rw [← setCell_row h]
  unfold store
  cases v <;> simp [one1] at hv <;> simp [Sem.run, hc, hz]
theorem splice_step {c : List Value} {o : Nat} {v : Value} {vs : List Value} (h : o + (vs.length + 1) ≤ c.length) : splice1 (c.set o v) (o + 1) vs = splice1 c o (v :: vs) := by
  obtain ⟨a, x, b, rfl, rfl⟩ : ∃ a x b, c = a ++ x :: b ∧ a.length = o := by
    refine ⟨c.take o, c[o]'(by omega), c.drop (o + 1), ?_, by simp; omega⟩
    rw [← List.drop_eq_getElem_cons, List.take_append_drop]
  unfold splice1
  rw [List.set_append_right _ _ (Nat.le_refl _)]
  simp only [Nat.sub_self, List.set_cons_zero, List.length_cons]
  have d1 : ∀ (l : List Value) (k : Nat), (a ++ l).drop (a.length + k) = l.drop k := fun l k => by
    rw [List.drop_append, List.drop_of_length_le (by omega), List.nil_append]
    congr 1; omega
  have t1 : ∀ (l : List Value) (k : Nat), (a ++ l).take (a.length + k) = a ++ l.take k := fun l k => by
    rw [List.take_append, List.take_of_length_le (by omega)]
    congr 2; omega
  have t0 : ∀ (l : List Value), (a ++ l).take a.length = a := fun l => by simp
  rw [t1, t0, show a.length + 1 + vs.length = a.length + (vs.length + 1) by omega, d1, d1]
  simp
theorem run_storeCells {b : Nat} {T : TypeId} {fz : Nat × Nat} : ∀ (vs : List Value) (i o : Nat) (c : List Value) (w : World), w.heap[b]? = some (.cells c.toArray T fz) → o + i + vs.length ≤ c.length → Unfrozen c.length fz → (∀ v ∈ vs, one1 v = true) →
    (storeCells ⟨b, o, none⟩ vs i).run P w = .ok () (w.setRow b (splice1 c (o + i) vs).toArray)
  | [], i, o, c, w, h, hl, hf, hv => by
    unfold storeCells
    have : (splice1 c (o + i) []).toArray = c.toArray := by simp [splice1]
    rw [this, run_pure]
    congr 1
    have hlt : b < w.heap.size := (Array.getElem?_eq_some_iff.1 h).1
    have hv : w.heap[b] = .cells c.toArray T fz := (Array.getElem?_eq_some_iff.1 h).2
    unfold World.setRow
    cases w
    simp only [World.mk.injEq, and_true]
    apply Array.ext
    · simp
    · intro j h1 h2
      simp only [Array.getElem_modify]
      split
      · rename_i hi; subst hi; simp only at hv; rw [hv]
      · rfl
  | v :: vs, i, o, c, w, h, hl, hf, hv => by
    unfold storeCells
    simp only [List.length_cons] at hl
    rw [addr_add, run_ok (run_store h (by simp; omega) (by simpa using hf) (hv v (by simp)))]
    have h2 := setRow_heap w b c.toArray (c.toArray.setIfInBounds (o + i) v) T fz h
    have e : c.toArray.setIfInBounds (o + i) v = (c.set (o + i) v).toArray := by simp
    rw [e] at h2 ⊢
    rw [run_storeCells vs (i + 1) o (c.set (o + i) v) _ h2 (by simp; omega) (by simpa using hf) (fun u hu => hv u (by simp [hu]))]
    rw [setRow_setRow]
    rw [show o + (i + 1) = o + i + 1 by omega, splice_step (by omega)]
end Sg
end Go.Proofs.YtfkboondffejaaaGreatDoor
set_option linter.unusedVariables false
set_option linter.unusedSimpArgs false
namespace Go.Proofs.YtfkboondffejaaaGreatDoor
namespace Sg
def CallOb (P : Program) (G : Gl) (f : Nat) (args : List SV) (S : SH) (nx : Nat) (K : SV → SH → Nat → Prop) : Prop :=
  ∀ (ρ : Env) (hI : Hp) (hF : Fm) (w : World) (vs : List Value), Sat ρ hI hF w S nx → GOk G hI → STup ρ hI args vs →
    Calls P f vs.toArray w fun e w' => ∃ v r S' nx' ρ' hI', e = .returned v ∧ K r S' nx' ∧ SDen ρ' hI' r v ∧ Sat ρ' hI' hF w' S' nx' ∧ Env.ext nx ρ ρ' ∧ nx ≤ nx' ∧ hI.sub hI'
def SemOb (P : Program) (G : Gl) (f : List Value → Sem Value) (args : List SV) (S : SH) (nx : Nat) (K : SV → SH → Nat → Prop) : Prop :=
  ∀ (ρ : Env) (hI : Hp) (hF : Fm) (w : World) (vs : List Value), Sat ρ hI hF w S nx → GOk G hI → STup ρ hI args vs →
    ∃ v w' r S' nx' ρ' hI', (f vs).run P w = .ok v w' ∧ K r S' nx' ∧ SDen ρ' hI' r v ∧ Sat ρ' hI' hF w' S' nx' ∧ Env.ext nx ρ ρ' ∧ nx ≤ nx' ∧ hI.sub hI'
def setCellK : List SV → Nat → SV → (List SV → Prop) → Prop
  | [], _, _, _ => False
  | .iv (.sbs n l) :: xs, off, v, k => bif Nat.blt off n then (match v with | .iv (.byte b) => k (.iv (.sbs n (l.set off b)) :: xs) | _ => False) else setCellK xs (off - n) v (fun r => k (.iv (.sbs n l) :: r))
  | .iv (.sis kd n l) :: xs, off, v, k => bif Nat.blt off n then (match v with | .iv (.int kd' b) => vc (kd = kd') (k (.iv (.sis kd n (l.set off b)) :: xs)) | _ => False) else setCellK xs (off - n) v (fun r => k (.iv (.sis kd n l) :: r))
  | _ :: xs, 0, v, k => k (v :: xs)
  | x :: xs, off + 1, v, k => setCellK xs off v (fun r => k (x :: r))
def putCellsK (cs : List SV) (off : Nat) (new : List SV) (k : List SV → Prop) : Prop :=
  takeK cs 0 off fun a => dropK cs (off + ncells new) fun b => appK new b fun r => appK a r k
def spliceBK : List SV → Nat → List UInt8 → (List SV → Prop) → Prop
  | [], _, _, _ => False
  | .iv (.sbs n l) :: xs, off, src, K => bif Nat.blt off n then vc (off + src.length ≤ n) (K (.iv (.sbs n (splice1 l off src)) :: xs)) else spliceBK xs (off - n) src fun r => K (.iv (.sbs n l) :: r)
  | .iv (.sis kd n l) :: xs, off, src, K => bif Nat.blt off n then False else spliceBK xs (off - n) src fun r => K (.iv (.sis kd n l) :: r)
  | _ :: _, 0, _, _ => False
  | x :: xs, off + 1, src, K => spliceBK xs off src fun r => K (x :: r)
def spliceIK (kd : IntKind) : List SV → Nat → List Int → (List SV → Prop) → Prop
  | [], _, _, _ => False
  | .iv (.sis k n l) :: xs, off, src, K => bif Nat.blt off n then vc (kd = k ∧ off + src.length ≤ n) (K (.iv (.sis k n (splice1 l off src)) :: xs)) else spliceIK kd xs (off - n) src fun r => K (.iv (.sis k n l) :: r)
  | .iv (.sbs n l) :: xs, off, src, K => bif Nat.blt off n then False else spliceIK kd xs (off - n) src fun r => K (.iv (.sbs n l) :: r)
  | _ :: _, 0, _, _ => False
  | x :: xs, off + 1, src, K => spliceIK kd xs off src fun r => K (x :: r)
def singleK : SV → (SV → Prop) → Prop
  | .agg _, _ => False
  | .tup _, _ => False
  | .junk, _ => False
  | .iv (.sbs _ _), _ => False
  | .iv (.sis _ _ _), _ => False
  | x, k => k x
def elemsK (G : Gl) (fr : FT) (sz : Nat) : List Opd → (List (List SV) → Prop) → Prop
  | [], K => K []
  | x :: xs, K => evK G fr x fun v => cellsK v fun cs => vc (ncells cs = sz) (elemsK G fr sz xs fun r => K (cs :: r))
def srcK (S : SH) (v : SV) (k : List UInt8 → Prop) : Prop := match v with
  | .iv (.str _) => False
  | v => contK S v k
def contIK (S : SH) : SV → (IntKind → List Int → Prop) → Prop
  | .slx sz n off len _, k => SH.getK S n fun o => match o with
    | .cells cs => dropK cs off fun r => match r with
      | .iv (.sis kd m l) :: _ => vc (sz = 1 ∧ len ≤ m) (k kd (sub l 0 len))
      | _ => False
    | _ => False
  | _, _ => False
def contEK (S : SH) (sz : Nat) : SV → (Nat → (Nat → List SV) → Prop) → Prop
  | .iv .nilsl, k => k 0 (fun _ => [])
  | .iv (.isl sz' len E), k => vc (sz = sz') (k len (fun i => (E i).map SV.iv))
  | .sl sz' n off len, k => SH.getK S n fun o => match o with
    | .arr sz2 len2 E => vc (sz = sz' ∧ sz = sz2 ∧ off + len ≤ len2) (k len (fun i => E (off + i)))
    | _ => False
  | _, _ => False
def joinE (n : Nat) (E F : Nat → List SV) : Nat → List SV := fun i => bif Nat.blt i n then E i else F (i - n)
def appbK (S : SH) (nx : Nat) (vx : SV) (new : List UInt8) (K : SV → SH → Nat → Prop) : Prop := match vx with
  | .iv .nilsl => vc (new.length ≤ 140737488355328) (K (.sl 1 nx 0 new.length) ((nx, .bytes new) :: S) (nx + 1))
  | .sl sz n off len => SH.getK S n fun o => match o with
      | .bytes l => vc (sz = 1 ∧ off = 0 ∧ len = l.length ∧ len + new.length ≤ 140737488355328) (SH.delK S n fun S' => K (.sl 1 nx 0 (len + new.length)) ((nx, .bytes (l ++ new)) :: S') (nx + 1))
      | _ => False
  | .slx sz n off len cap => SH.getK S n fun o => match o with
      | .cells cs => dropK cs off fun r => match r with
        | .iv (.sbs m l) :: _ => vc (sz = 1 ∧ len ≤ m ∧ len = cap ∧ 0 < new.length ∧ len + new.length ≤ 140737488355328) (K (.sl 1 nx 0 (len + new.length)) ((nx, .bytes (sub l 0 len ++ new)) :: S) (nx + 1))
        | _ => False
      | _ => False
  | _ => False
def hop (P : Program) (G : Gl) (S : SH) (nx : Nat) (fr : FT) : COp → (SV → SH → Nat → Prop) → Prop
  | .alloc cs, K => K (.ptr nx 0) ((nx, .cells cs) :: S) (nx + 1)
  | .box x, K => evK G fr x fun v => cellsK v fun cs => K (.ptr nx 0) ((nx, .cells cs) :: S) (nx + 1)
  | .bslice sz len xs, K => elemsK G fr sz xs fun es => K (.sl sz nx 0 len) ((nx, .arr sz len (fun i => es.getD i [])) :: S) (nx + 1)
  | .bbytes xs, K => bytesK G fr xs fun l => K (.sl 1 nx 0 xs.length) ((nx, .bytes l) :: S) (nx + 1)
  | .mkb x, K => evK G fr x fun v => match v with
    | .iv (.int _ n) => vc (0 ≤ n ∧ n ≤ 140737488355328) (K (.sl 1 nx 0 n.toNat) ((nx, .bytes (List.replicate n.toNat 0)) :: S) (nx + 1))
    | _ => False
  | .mksl sz zero bytes x, K => evK G fr x fun v => match v with
    | .iv (.int _ n) => vc (0 ≤ n ∧ bytes * n ≤ 140737488355328) (K (.sl sz nx 0 n.toNat) ((nx, .arr sz n.toNat (fun _ => zero)) :: S) (nx + 1))
    | _ => False
  | .s2b x, K => evK G fr x fun v => match v with
    | .iv (.str l) => K (.sl 1 nx 0 l.length) ((nx, .bytes l) :: S) (nx + 1)
    | _ => False
  | .s2s x, K => evK G fr x fun v => match v with
    | .sl sz n off len => SH.getK S n fun o => match o with
      | .bytes l => vc (0 < l.length ∧ off = 0) (K (.sl sz n off len) S nx)
      | _ => False
    | _ => False
  | .store1 a v, K => evK G fr a fun va => evK G fr v fun vv => singleK vv fun vv => match va with
    | .ptr n off => SH.getK S n fun o => match o with
      | .cells cs => setCellK cs off vv fun cs' => SH.putK S n (.cells cs') fun S' => K .junk S' nx
      | _ => False
    | .ixp n off sz i => SH.getK S n fun o => match o with
      | .arr sz' len E => vc (sz = sz' ∧ i < len ∧ off < sz) (setCellK (E i) off vv fun r => SH.putK S n (.arr sz len (fun j => bif Nat.beq j i then r else E j)) fun S' => K .junk S' nx)
      | .bytes l => match vv with
        | .iv (.byte b) => vc (sz = 1 ∧ off = 0 ∧ i < l.length) (SH.putK S n (.bytes (l.set i b)) fun S' => K .junk S' nx)
        | _ => False
      | .cells cs => vc (sz = 1) (takeK cs 0 off fun pre => dropK cs off fun r => match r with
        | .iv (.sbs m l) :: tl => (match vv with
          | .iv (.byte b) => vc (i < m) (appK pre (.iv (.sbs m (l.set i b)) :: tl) fun cs' => SH.putK S n (.cells cs') fun S' => K .junk S' nx)
          | _ => False)
        | .iv (.sis kd m l) :: tl => (match vv with
          | .iv (.int kd' b) => vc (kd = kd' ∧ i < m) (appK pre (.iv (.sis kd m (l.set i b)) :: tl) fun cs' => SH.putK S n (.cells cs') fun S' => K .junk S' nx)
          | _ => False)
        | _ => False)
      | _ => False
    | _ => False
  | .storeN n a v, K => evK G fr a fun va => evK G fr v fun vv => match vv with
    | .agg new => vc (ncells new = n) (match va with
      | .ptr m off => SH.getK S m fun o => match o with
        | .cells cs => putCellsK cs off new fun cs' => SH.putK S m (.cells cs') fun S' => K .junk S' nx
        | _ => False
      | .ixp m off sz i => SH.getK S m fun o => match o with
        | .arr sz' len E => vc (sz = sz' ∧ i < len ∧ off + n ≤ sz) (putCellsK (E i) off new fun r => SH.putK S m (.arr sz len (fun j => bif Nat.beq j i then r else E j)) fun S' => K .junk S' nx)
        | _ => False
      | _ => False)
    | _ => False
  | .appb x y, K => evK G fr x fun vx => evK G fr y fun vy => contK S vy fun new => appbK S nx vx new K
  | .appz x n, K => evK G fr x fun vx => evK G fr n fun vn => match vn with
    | .iv (.int _ m) => vc (0 ≤ m ∧ m ≤ 140737488355328) (appbK S nx vx (List.replicate m.toNat 0) K)
    | _ => False
  | .app sz bytes x y, K => evK G fr x fun vx => evK G fr y fun vy => contEK S sz vy fun m F => match vx with
    | .iv .nilsl => vc (bytes * m ≤ 140737488355328) (K (.sl sz nx 0 m) ((nx, .arr sz m F) :: S) (nx + 1))
    | .sl sz' n off len => SH.getK S n fun o => match o with
      | .arr sz2 len2 E => vc (sz = sz' ∧ sz = sz2 ∧ off = 0 ∧ len = len2 ∧ bytes * (len + m) ≤ 140737488355328) (SH.delK S n fun S' => K (.sl sz nx 0 (len + m)) ((nx, .arr sz (len + m) (joinE len E F)) :: S') (nx + 1))
      | _ => False
    | _ => False
  | .mmk, K => K (.map nx) ((nx, .mp []) :: S) (nx + 1)
  | .mset s x k v, K => evK G fr x fun m => evK G fr k fun k => evK G fr v fun v => match m, k with
    | .map n, .iv k => SH.getK S n fun o => match o with
      | .mp es => vc (isKey s k k = true ∧ allKeys s k es = true) (mputK es k v fun es' => SH.putK S n (.mp es') fun S' => K .junk S' nx)
      | _ => False
    | _, _ => False
  | .mdel s x k, K => evK G fr x fun m => evK G fr k fun k => match m, k with
    | .map n, .iv k => SH.getK S n fun o => match o with
      | .mp es => vc (isKey s k k = true ∧ allKeys s k es = true) (mdelK es k fun es' => SH.putK S n (.mp es') fun S' => K .junk S' nx)
      | _ => False
    | _, _ => False
  | .mclr x, K => evK G fr x fun m => match m with
    | .map n => SH.getK S n fun o => match o with
      | .mp es => SH.putK S n (.mp []) fun S' => K .junk S' nx
      | _ => False
    | _ => False
  | .cpy x y, K => evK G fr x fun vx => evK G fr y fun vy => match vx with
    | .sl sz n off len => SH.getK S n fun o => match o with
      | .bytes l => srcK S vy fun src => vc (sz = 1 ∧ 0 < len ∧ off + len ≤ l.length) (SH.putK S n (.bytes (splice1 l off (src.take len))) fun S' => K (.iv (.int .i64 (min src.length len : Nat))) S' nx)
      | _ => False
    | .slx sz n off len cap => SH.getK S n fun o => match o with
      | .cells cs => dropK cs off fun r => match r with
        | .iv (.sbs m _) :: _ => srcK S vy fun src => vc (sz = 1 ∧ len ≤ m) (spliceBK cs off (src.take len) fun cs' => SH.putK S n (.cells cs') fun S' => K (.iv (.int .i64 (min src.length len : Nat))) S' nx)
        | .iv (.sis kd m _) :: _ => contIK S vy fun kd' src => vc (sz = 1 ∧ kd = kd' ∧ len ≤ m) (spliceIK kd cs off (src.take len) fun cs' => SH.putK S n (.cells cs') fun S' => K (.iv (.int .i64 (min src.length len : Nat))) S' nx)
        | _ => False
      | _ => False
    | _ => False
  | .call f args, K => evsK G fr args fun vs => CallOb P G f vs S nx K
  | .sem s args, K => evsK G fr args fun vs => SemOb P G s vs S nx K
  | _, _ => False
end Sg
end Go.Proofs.YtfkboondffejaaaGreatDoor
set_option linter.unusedVariables false
set_option linter.unusedSimpArgs false
namespace Go.Proofs.YtfkboondffejaaaGreatDoor
namespace Sg
variable {P : Program}
def Lands (nx : Nat) (ρ : Env) (hI : Hp) (hF : Fm) (a : Act) (dst : Option Tmp) (K : SV → SH → Nat → Prop) (a' : Act) (w' : World) : Prop :=
  ∃ x S' nx' ρ' hI' v, a' = a.put dst v ∧ K x S' nx' ∧ SDen ρ' hI' x v ∧ Sat ρ' hI' hF w' S' nx' ∧ Env.ext nx ρ ρ' ∧ nx ≤ nx' ∧ hI.sub hI'
def chkParts (n : Nat) : List (Nat × Operand) → List Opd → Bool
  | [], [] => true
  | (i, x) :: ps, c :: cs => Nat.beq i n && chkOpd x c && chkParts (n + 1) ps cs
  | _, _ => false
def strT (P : Program) (t : TypeId) : Bool := match P.underlying t with | some .string => true | _ => false
def zeroT (P : Program) (t : TypeId) : Option Value := (P.info? t).bind (·.zero)
def bytesT (P : Program) (t : TypeId) : Option Nat := (P.info? t).map (·.bytes)
section
variable {G : Gl} {ρ : Env} {hI : Hp} {hF : Fm} {w : World} {S : SH} {nx : Nat} {fr : FT} {a : Act} {o : Oper} {K : SV → SH → Nat → Prop} {Q : Exit → Act → World → Prop}
theorem wp_value {v : Value} {w' : World} {next : Act → World → Prop} (h : (execOp a.eval o).run P w = .ok (.value v) w') (hn : next (a.put o.dst v) w') : o.wp P a w next Q := by
  unfold Oper.wp; rw [h]; exact hn
theorem wp_skip' {w' : World} {next : Act → World → Prop} (h : (execOp a.eval o).run P w = .ok .skip w') (hn : next (a.put o.dst undef) w') : o.wp P a w next Q := by
  unfold Oper.wp; rw [h]; exact hn
theorem unfrozen0 (n : Nat) : Unfrozen n (0, 0) := .inl rfl
theorem run_newRow {cells : Array Value} {T : TypeId} : (newRow T cells).run P w = .ok ⟨w.heap.size, 0, none⟩ (push w (.cells cells T)) := by
  unfold newRow newObj
  rfl
theorem h_alloc {T : TypeId} {cs : List SV} {z : Value} (C : Cx G ρ hI hF w S nx fr a) (ho : o.op = .alloc T) (hz : zeroT P T = some z) (hc : chkCells cs z.cells.toList = true) (h : hop P G S nx fr (.alloc cs) K) : o.wp P a w (Lands nx ρ hI hF a o.dst K) Q := by
  unfold zeroT at hz
  cases hi : P.info? T with
  | none => simp [hi] at hz
  | some i =>
    simp only [hi, Option.bind_some] at hz
    have hd := chkCells_sound ρ hI hc
    obtain ⟨r, hs⟩ := C.sat.new (o := .cells cs) (ob := .cells z.cells T) (cap := z.cells.toList.length) (fun ρ' r => .cells cs _ z.cells.toList T (0, 0) (hd.mono r (Hp.sub.refl _)) rfl rfl (unfrozen0 _))
    refine wp_value (v := .pointer (some ⟨w.heap.size, 0, none⟩)) (w' := push w (.cells z.cells T)) ?_ ⟨_, _, _, _, _, _, rfl, h, .ptr _ _ _ (Env.set_self _ _ _), hs, r, Nat.le_succ _, Hp.sub.refl _⟩
    simp only [execOp, ho]
    apply exec_v
    unfold Instr.alloc
    rw [run_ok (run_zeroValue hi hz w)]
    simp only
    unfold newVar
    rw [run_ok run_newRow]
    rfl
theorem h_box {T : TypeId} {x : Operand} {c : Opd} (C : Cx G ρ hI hF w S nx fr a) (ho : o.op = .box T x) (hc : chkOpd x c = true) (h : hop P G S nx fr (.box c) K) : o.wp P a w (Lands nx ρ hI hF a o.dst K) Q := by
  obtain ⟨v, hv, hd⟩ := evK_sound hc C.g C.f (show evK G fr c _ from h)
  obtain ⟨cs, hk, hds⟩ := cellsK_sound hd hv
  obtain ⟨r, hs⟩ := C.sat.new (o := .cells cs) (ob := .cells (a.eval x).cells T) (cap := (a.eval x).cells.toList.length) (fun ρ' r => .cells cs _ (a.eval x).cells.toList T (0, 0) (hds.mono r (Hp.sub.refl _)) rfl rfl (unfrozen0 _))
  refine wp_value (v := .pointer (some ⟨w.heap.size, 0, none⟩)) (w' := push w (.cells (a.eval x).cells T)) ?_ ⟨_, _, _, _, _, _, rfl, hk, .ptr _ _ _ (Env.set_self _ _ _), hs, r, Nat.le_succ _, Hp.sub.refl _⟩
  simp only [execOp, ho]
  apply exec_v
  unfold Instr.box newVar
  rw [run_ok run_newRow]
  rfl
theorem setCellK_sound : ∀ {cs : List SV} {off : Nat} {v : SV} {u : Value} {vs : List Value} {K : List SV → Prop}, SDens ρ hI cs vs → SDen ρ hI v u → one1 u = true → setCellK cs off v K → ∃ cs', K cs' ∧ SDens ρ hI cs' (vs.set off u) ∧ off < vs.length
  | [], off, v, u, vs, K, _, _, _, hk => by simp [setCellK] at hk
  | x :: xs, off, v, u, _, K, .one _ y _ vs hd ho hs, hu, h1, hk => by
    unfold setCellK at hk
    split at hk
    · rename_i e; cases e
    · rename_i e; cases e; exact (no_sbs hd).elim
    · rename_i e; cases e; exact (no_sis hd).elim
    · rename_i e; cases e; exact ⟨_, hk, .one _ _ _ _ hu h1 hs, by simp⟩
    · rename_i e
      cases e
      obtain ⟨r, a, b, c⟩ := setCellK_sound hs hu h1 hk
      exact ⟨_, a, .one _ _ _ _ hd ho b, by simp; omega⟩
  | _ :: xs, off, v, u, _, K, .sbs n l _ vs hl hs, hu, h1, hk => by
    simp only [setCellK] at hk
    cases hb : Nat.blt off n
    · rw [hb] at hk
      have : n ≤ off := by
        rcases Nat.lt_or_ge off n with h | h
        · have := blt_of h; rw [hb] at this; cases this
        · exact h
      obtain ⟨r, a, b, c⟩ := setCellK_sound hs hu h1 hk
      refine ⟨_, a, ?_, by simp; omega⟩
      rw [List.set_append_right _ _ (by simp; omega)]
      simp only [List.length_map, hl]
      exact .sbs _ _ _ _ hl b
    · rw [hb] at hk
      have hlt : off < n := of_blt hb
      simp only [cond_true] at hk
      split at hk
      · rename_i b
        cases hu with | iv _ _ hu => cases hu with | byte =>
        refine ⟨_, hk, ?_, by simp; omega⟩
        rw [List.set_append_left _ _ (by simp; omega), ← List.map_set]
        exact .sbs _ _ _ _ (by simp [hl]) hs
      · exact hk.elim
  | _ :: xs, off, v, u, _, K, .sis kd n l _ vs hl hs, hu, h1, hk => by
    simp only [setCellK] at hk
    cases hb : Nat.blt off n
    · rw [hb] at hk
      have : n ≤ off := by
        rcases Nat.lt_or_ge off n with h | h
        · have := blt_of h; rw [hb] at this; cases this
        · exact h
      obtain ⟨r, a, b, c⟩ := setCellK_sound hs hu h1 hk
      refine ⟨_, a, ?_, by simp; omega⟩
      rw [List.set_append_right _ _ (by simp; omega)]
      simp only [List.length_map, hl]
      exact .sis _ _ _ _ _ hl b
    · rw [hb] at hk
      have hlt : off < n := of_blt hb
      simp only [cond_true] at hk
      split at hk
      · rename_i kd' b
        obtain ⟨rfl, hk2⟩ := vc_iff.1 hk
        cases hu with | iv _ _ hu => cases hu with | int =>
        refine ⟨_, hk2, ?_, by simp; omega⟩
        rw [List.set_append_left _ _ (by simp; omega), ← List.map_set]
        exact .sis _ _ _ _ _ (by simp [hl]) hs
      · exact hk.elim
theorem SDens.one1 : ∀ {cs : List SV} {vs : List Value}, SDens ρ hI cs vs → ∀ v ∈ vs, Sg.one1 v = true
  | _, _, .nil, v, h => by cases h
  | _, _, .one x u xs vs hd ho hs, v, h => by
    cases h with
    | head => exact ho
    | tail _ h => exact hs.one1 v h
  | _, _, .sbs n l xs vs hl hs, v, h => by
    rcases List.mem_append.1 h with h | h
    · obtain ⟨b, _, rfl⟩ := List.mem_map.1 h; rfl
    · exact hs.one1 v h
  | _, _, .sis k n l xs vs hl hs, v, h => by
    rcases List.mem_append.1 h with h | h
    · obtain ⟨b, _, rfl⟩ := List.mem_map.1 h; rfl
    · exact hs.one1 v h
theorem putCellsK_sound {cs new : List SV} {off : Nat} {vs us : List Value} {K : List SV → Prop} (hd : SDens ρ hI cs vs) (hn : SDens ρ hI new us) (hk : putCellsK cs off new K) : ∃ cs', K cs' ∧ SDens ρ hI cs' (splice1 vs off us) ∧ off + us.length ≤ vs.length := by
  unfold putCellsK at hk
  obtain ⟨r, hk, hr, h1⟩ := takeK_sound hd hk
  obtain ⟨q, hk, hq, h2⟩ := dropK_sound hd hk
  have hlen := ncells_eq hn
  refine ⟨_, appK_iff.1 (appK_iff.1 hk), ?_, by omega⟩
  unfold splice1
  rw [List.append_assoc, hlen]
  simpa using hr.app (hn.app hq)
theorem singleK_sound {x : SV} {v : Value} {K : SV → Prop} (h : SDen ρ hI x v) (hk : singleK x K) : K x ∧ one1 v = true ∧ v.cells = #[v] := by
  cases h with
  | agg | tup | junk => exact hk.elim
  | iv y v hd =>
    refine ⟨?_, hd.one, by cases hd <;> rfl⟩
    cases y <;> first | exact hk | exact (no_isbs hd).elim | exact (no_isis hd).elim
  | ptr | ixp | sl | slnil | slx | map | fn | iface => exact ⟨hk, rfl, rfl⟩
theorem run_storeAt {T : TypeId} {n : Nat} {b off : Nat} {v : Value} {c : List Value} {T' : TypeId} {fz : Nat × Nat} (hs : sizeT P T = some n) (hn : v.cells.size = n) (hb : w.heap[b]? = some (.cells c.toArray T' fz)) (hl : off + n ≤ c.length) (hf : Unfrozen c.length fz) (h1 : ∀ u ∈ v.cells.toList, one1 u = true) :
    (Instr.storeAt T (.pointer (some ⟨b, off, none⟩)) v).run P w = .ok () (w.setRow b (splice1 c off v.cells.toList).toArray) := by
  obtain ⟨i, hi, rfl⟩ := sizeT_of hs
  unfold Instr.storeAt Instr.sureAddr
  rw [run_ok (run_pure _ w)]
  unfold storeVar
  rw [run_ok (run_sizeOf hi w), if_neg (by simpa using hn)]
  have := run_storeCells (P := P) v.cells.toList 0 off c w hb (by simp; omega) hf h1
  simpa using this
theorem splice1_one {c : List Value} {off : Nat} {u : Value} (h : off < c.length) : splice1 c off [u] = c.set off u := by
  unfold splice1
  rw [List.set_eq_take_append_cons_drop, if_pos h]
  simp
theorem splice1_length {c us : List Value} {off : Nat} (h : off + us.length ≤ c.length) : (splice1 c off us).length = c.length := by
  unfold splice1; simp; omega
theorem elem_other {c us : List Value} {sz i j o : Nat} (hij : j ≠ i) (ho : o + us.length ≤ sz) (hl : i * sz + o + us.length ≤ c.length) : ((splice1 c (i * sz + o) us).drop (j * sz)).take sz = (c.drop (j * sz)).take sz := by
  apply List.ext_getElem?
  intro k
  by_cases hk : k < sz
  · rw [List.getElem?_take_of_lt hk, List.getElem?_take_of_lt hk, List.getElem?_drop, List.getElem?_drop]
    unfold splice1
    rcases Nat.lt_or_gt_of_ne hij with h | h
    · have : (j + 1) * sz ≤ i * sz := Nat.mul_le_mul_right _ h
      rw [Nat.add_mul] at this
      rw [List.append_assoc, List.getElem?_append_left (by simp; omega), List.getElem?_take_of_lt (by omega)]
    · have : (i + 1) * sz ≤ j * sz := Nat.mul_le_mul_right _ h
      rw [Nat.add_mul] at this
      rw [List.getElem?_append_right (by simp; omega), List.getElem?_drop]
      congr 1
      simp
      omega
  · rw [List.getElem?_eq_none (by simp; omega), List.getElem?_eq_none (by simp; omega)]
theorem elem_own {c us : List Value} {sz i o : Nat} (ho : o + us.length ≤ sz) (hl : (i + 1) * sz ≤ c.length) : ((splice1 c (i * sz + o) us).drop (i * sz)).take sz = splice1 ((c.drop (i * sz)).take sz) o us := by
  rw [Nat.add_mul] at hl
  obtain ⟨A, B, D, rfl, hA, hB⟩ : ∃ A B D, c = A ++ (B ++ D) ∧ A.length = i * sz ∧ B.length = sz :=
    ⟨c.take (i * sz), (c.drop (i * sz)).take sz, (c.drop (i * sz)).drop sz, by rw [List.take_append_drop, List.take_append_drop], by simp; omega, by simp; omega⟩
  have e1 : ((A ++ (B ++ D)).drop (i * sz)).take sz = B := by rw [← hA, List.drop_left, ← hB, List.take_left]
  rw [e1]
  have e2 : splice1 (A ++ (B ++ D)) (i * sz + o) us = A ++ (splice1 B o us ++ D) := by
    unfold splice1
    rw [← hA, List.take_append, List.take_of_length_le (by omega), show A.length + o - A.length = o by omega, List.take_append_of_le_length (by omega)]
    rw [List.drop_append, List.drop_of_length_le (by omega), show A.length + o + us.length - A.length = o + us.length by omega, List.drop_append_of_le_length (by omega)]
    simp
  rw [e2, ← hA, List.drop_left]
  have e3 : (splice1 B o us).length = sz := by rw [splice1_length (by omega)]; exact hB
  rw [← e3, List.take_left]
end
end Sg
end Go.Proofs.YtfkboondffejaaaGreatDoor
set_option linter.unusedVariables false
set_option linter.unusedSimpArgs false
namespace Go.Proofs.YtfkboondffejaaaGreatDoor
namespace Sg
variable {P : Program}
section
variable {G : Gl} {ρ : Env} {hI : Hp} {hF : Fm} {w : World} {S : SH} {nx : Nat} {fr : FT} {a : Act} {o : Oper} {K : SV → SH → Nat → Prop} {Q : Exit → Act → World → Prop}
theorem upd_row (C : Cx G ρ hI hF w S nx fr a) {n : Nat} {ob ob' : SObj} {e : Ent} {c c' : List Value} {T : TypeId} {fz : Nat × Nat} (g : SH.get S n = some ob) (he : ρ n = some e) (hna : ∀ ns A, ob ≠ .abs ns A) (hnil : e.nil = false)
    (hh : w.heap[e.b]? = some (.cells c.toArray T fz)) (hd : ODen ρ hI ob' e (Hp.one e.b (.cells c'.toArray T fz))) : Sat ρ hI hF (w.setRow e.b c'.toArray) (SH.put S n ob') nx :=
  C.sat.upd g he (fun h1 d => d.owns hna hnil) (setRow_only _ _ _) (setRow_heap w e.b c.toArray c'.toArray T fz hh) hd
theorem stored {T : TypeId} {x y : Operand} {n : Nat} {b off : Nat} {c : List Value} {T' : TypeId} {fz : Nat × Nat} {S' : SH} (ho : o.op = .store T x y) (hs : sizeT P T = some n) (hx : a.eval x = .pointer (some ⟨b, off, none⟩)) (hn : (a.eval y).cells.size = n)
    (hb : w.heap[b]? = some (.cells c.toArray T' fz)) (hl : off + n ≤ c.length) (hf : Unfrozen c.length fz) (h1 : ∀ u ∈ (a.eval y).cells.toList, one1 u = true) (hsat : Sat ρ hI hF (w.setRow b (splice1 c off (a.eval y).cells.toList).toArray) S' nx) (hk : K .junk S' nx) :
    o.wp P a w (Lands nx ρ hI hF a o.dst K) Q := by
  refine wp_skip' (w' := w.setRow b (splice1 c off (a.eval y).cells.toList).toArray) ?_ ⟨_, _, _, _, _, _, rfl, hk, .junk _, hsat, Env.ext.refl _ _, Nat.le_refl _, Hp.sub.refl _⟩
  simp only [execOp, ho, hx]
  exact exec_u (run_storeAt hs hn hb hl hf h1)
theorem h_store1 {T : TypeId} {x y : Operand} {c d : Opd} (C : Cx G ρ hI hF w S nx fr a) (ho : o.op = .store T x y) (hs : sizeT P T = some 1) (h1 : chkOpd x c = true) (h2 : chkOpd y d = true) (h : hop P G S nx fr (.store1 c d) K) : o.wp P a w (Lands nx ρ hI hF a o.dst K) Q := by
  obtain ⟨va, hva, hda⟩ := evK_sound h1 C.g C.f (show evK G fr c _ from h)
  obtain ⟨vv, hvv, hdv⟩ := evK_sound h2 C.g C.f hva
  obtain ⟨hk, hone, hcells⟩ := singleK_sound hdv hvv
  clear hvv hva h
  have hsz : (a.eval y).cells.size = 1 := by rw [hcells]; rfl
  have hall : ∀ u ∈ (a.eval y).cells.toList, one1 u = true := by rw [hcells]; simpa using hone
  have hl1 : (a.eval y).cells.toList = [a.eval y] := by rw [hcells]
  generalize hx : a.eval x = u at hda
  split at hk
  · rename_i n off
    cases hda with | ptr _ _ e he =>
    obtain ⟨ob, hob, hk⟩ := SH.getK_iff.1 hk
    split at hk
    · rename_i cs
      obtain ⟨e', vs, T', fz, he', hds, hh, hnil, hcap, hf⟩ := C.sat.cells hob
      rw [he] at he'; cases he'
      obtain ⟨cs', hk2, hds', hlt⟩ := setCellK_sound hds hdv hone hk
      have hk3 := SH.putK_iff.1 hk2
      refine stored ho hs hx hsz hh (by omega) hf hall ?_ hk3
      rw [hl1, splice1_one hlt]
      exact upd_row C hob he (by intro _ _ q; cases q) hnil hh (.cells _ _ _ _ _ hds' hnil (by simp [hcap]) (by simpa using hf))
    · exact hk.elim
  · rename_i n off sz i
    cases hda with | ixp _ _ _ _ e he =>
    obtain ⟨ob, hob, hk⟩ := SH.getK_iff.1 hk
    split at hk
    · rename_i sz' len E
      obtain ⟨⟨hsz', hi, hoff⟩, hk2⟩ := vc_iff.1 hk
      clear hk
      obtain ⟨e', he', hcase⟩ := C.sat.arr hob
      rw [he] at he'; cases he'
      rcases hcase with ⟨_, h0⟩ | ⟨vs, T', fz, hh, hds, hl, hnil, hcap, hf⟩
      · omega
      · rw [← hsz'] at hds hl
        obtain ⟨r, hk3, hr, hlt⟩ := setCellK_sound (hds i hi) hdv hone hk2
        have hk4 := SH.putK_iff.1 hk3
        have hle : (i + 1) * sz ≤ vs.length := Nat.le_trans (Nat.mul_le_mul_right _ hi) hl
        have hle' := hle
        rw [Nat.add_mul] at hle'
        rw [hcap] at hf
        refine stored ho hs hx hsz hh (by omega) hf hall ?_ hk4
        rw [hl1, show off + i * sz = i * sz + off by omega]
        refine upd_row C hob he (by intro _ _ q; cases q) hnil hh (.arr _ _ _ _ _ _ _ (fun j hj => ?_) (by rw [splice1_length (by simp; omega)]; exact hl) hnil (by rw [splice1_length (by simp; omega)]; exact hcap) (by rw [hcap]; exact hf))
        by_cases hji : j = i
        · subst hji
          have : Nat.beq j j = true := by simp
          rw [this, cond_true, elem_own (by simp; omega) hle, splice1_one hlt]
          exact hr
        · rw [beq_false hji, cond_false, elem_other hji (by simp; omega) (by simp; omega)]
          exact hds j hj
    · rename_i l
      split at hk
      · rename_i bb _
        obtain ⟨⟨rfl, rfl, hi⟩, hk2⟩ := vc_iff.1 hk
        clear hk
        have hk3 := SH.putK_iff.1 hk2
        generalize hy : a.eval y = uy at hdv
        cases hdv with | iv _ _ hdv => cases hdv with | byte =>
        obtain ⟨e', he', hcase⟩ := C.sat.bytes hob
        rw [he] at he'; cases he'
        rcases hcase with ⟨_, h0⟩ | ⟨rest, T', fz, hh, hnil, hcap, hf⟩
        · subst h0; simp at hi
        · have hlen : (l.map bv ++ rest).length = e.cap := by simp [hcap]
          refine stored ho hs hx hsz hh (by rw [hlen, hcap]; omega) (by rw [hlen]; exact hf) hall ?_ hk3
          rw [hl1, hy, splice1_one (by rw [hlen, hcap]; omega)]
          refine upd_row C hob he (by intro _ _ q; cases q) hnil hh ?_
          have : (l.map bv ++ rest).set (0 + i * 1) (bv bb) = (l.set i bb).map bv ++ rest := by
            rw [List.set_append_left _ _ (by simp; omega), List.map_set]; simp
          rw [this]
          exact .bytes _ _ _ _ _ hnil (by simp [hcap]) hf
      · exact hk.elim
    · rename_i cs
      obtain ⟨rfl, hk2⟩ := vc_iff.1 hk
      clear hk
      obtain ⟨e', vs, T', fz, he', hds, hh, hnil, hcap, hf⟩ := C.sat.cells hob
      rw [he] at he'; cases he'
      obtain ⟨pre, hk3, hpre, hlpre⟩ := takeK_sound hds hk2
      obtain ⟨r, hk4, hr, hlr⟩ := dropK_sound hds hk3
      generalize hvd : vs.drop off = vd at hr
      have hvs : vs = vs.take off ++ vd := by rw [← hvd, List.take_append_drop]
      have hlt : (vs.take off).length = off := by simp; omega
      rw [List.drop_zero] at hpre
      have fin : ∀ (cs' : List SV) (u' : Value) (vd' : List Value), a.eval y = u' → SDens ρ hI cs' vd' → vd' = vd.set i u' → i < vd.length → (SH.putK S n (.cells (pre ++ cs')) fun S' => K .junk S' nx) → o.wp P a w (Lands nx ρ hI hF a o.dst K) Q := by
        intro cs' u' vd' hu' hd' hvd' hilt hk5
        have hk6 := SH.putK_iff.1 hk5
        have hlen : vs.length = off + vd.length := by rw [hvs, List.length_append, hlt]
        refine stored ho hs hx hsz hh (by omega) hf hall ?_ hk6
        rw [hl1, hu', splice1_one (by omega)]
        refine upd_row C hob he (by intro _ _ q; cases q) hnil hh ?_
        have e2 : vs.set (off + i * 1) u' = vs.take off ++ vd' := by
          conv => lhs; rw [hvs]
          rw [List.set_append_right _ _ (by omega), hlt, hvd']
          congr 2; omega
        rw [e2]
        refine .cells _ _ _ _ _ (hpre.app hd') hnil ?_ ?_
        · rw [hcap, hlen, List.length_append, hlt, hvd', List.length_set]
        · have : (vs.take off ++ vd').length = vs.length := by rw [hlen, List.length_append, hlt, hvd', List.length_set]
          rw [this]; exact hf
      split at hk4
      · rename_i m l tl
        split at hk4
        · rename_i bb
          obtain ⟨hi, hk5⟩ := vc_iff.1 hk4
          cases hr with
          | one _ _ _ _ hz => exact (no_sbs hz).elim
          | sbs _ _ _ vs' hl hs' =>
            generalize hy : a.eval y = uy at hdv
            cases hdv with | iv _ _ hdv => cases hdv with | byte =>
            refine fin _ _ _ hy (.sbs m (l.set i bb) tl vs' (by simp [hl]) hs') ?_ (by simp; omega) (appK_iff.1 hk5)
            rw [List.set_append_left _ _ (by simp; omega), List.map_set]
        · exact hk4.elim
      · rename_i kd m l tl
        split at hk4
        · rename_i kd' bb
          obtain ⟨⟨rfl, hi⟩, hk5⟩ := vc_iff.1 hk4
          cases hr with
          | one _ _ _ _ hz => exact (no_sis hz).elim
          | sis _ _ _ _ vs' hl hs' =>
            generalize hy : a.eval y = uy at hdv
            cases hdv with | iv _ _ hdv => cases hdv with | int =>
            refine fin _ _ _ hy (.sis kd m (l.set i bb) tl vs' (by simp [hl]) hs') ?_ (by simp; omega) (appK_iff.1 hk5)
            rw [List.set_append_left _ _ (by simp; omega), List.map_set]
        · exact hk4.elim
      · exact hk4.elim
    · exact hk.elim
  · exact hk.elim
theorem h_storeN {T : TypeId} {x y : Operand} {n : Nat} {c d : Opd} (C : Cx G ρ hI hF w S nx fr a) (ho : o.op = .store T x y) (hs : sizeT P T = some n) (h1 : chkOpd x c = true) (h2 : chkOpd y d = true) (h : hop P G S nx fr (.storeN n c d) K) : o.wp P a w (Lands nx ρ hI hF a o.dst K) Q := by
  obtain ⟨va, hva, hda⟩ := evK_sound h1 C.g C.f (show evK G fr c _ from h)
  obtain ⟨vv, hvv, hdv⟩ := evK_sound h2 C.g C.f hva
  split at hvv
  · rename_i new
    obtain ⟨hnc, hk⟩ := vc_iff.1 hvv
    generalize hy : a.eval y = uy at hdv
    cases hdv with | agg _ us hdn =>
    have hcl : (a.eval y).cells.toList = us := by rw [hy]; simp [Value.cells]
    have hul : us.length = n := by rw [ncells_eq hdn, hnc]
    have hsz : (a.eval y).cells.size = n := by rw [hy]; simp [Value.cells, hul]
    have hall : ∀ u ∈ (a.eval y).cells.toList, one1 u = true := by rw [hcl]; exact hdn.one1
    generalize hx : a.eval x = u at hda
    split at hk
    · rename_i m off
      cases hda with | ptr _ _ e he =>
      obtain ⟨ob, hob, hk⟩ := SH.getK_iff.1 hk
      split at hk
      · rename_i cs
        obtain ⟨e', vs, T', fz, he', hds, hh, hnil, hcap, hf⟩ := C.sat.cells hob
        rw [he] at he'; cases he'
        obtain ⟨cs', hk2, hds', hlt⟩ := putCellsK_sound hds hdn hk
        have hk3 := SH.putK_iff.1 hk2
        refine stored ho hs hx hsz hh (by omega) hf hall ?_ hk3
        rw [hcl]
        exact upd_row C hob he (by intro _ _ q; cases q) hnil hh (.cells _ _ _ _ _ hds' hnil (by rw [splice1_length hlt]; exact hcap) (by rw [splice1_length hlt]; exact hf))
      · exact hk.elim
    · rename_i m off sz i
      cases hda with | ixp _ _ _ _ e he =>
      obtain ⟨ob, hob, hk⟩ := SH.getK_iff.1 hk
      split at hk
      · rename_i sz' len E
        obtain ⟨⟨hsz', hi, hoff⟩, hk2⟩ := vc_iff.1 hk
        obtain ⟨e', he', hcase⟩ := C.sat.arr hob
        rw [he] at he'; cases he'
        rcases hcase with ⟨_, h0⟩ | ⟨vs, T', fz, hh, hds, hl, hnil, hcap, hf⟩
        · omega
        · rw [← hsz'] at hds hl
          obtain ⟨r, hk3, hr, hlt⟩ := putCellsK_sound (hds i hi) hdn hk2
          have hk4 := SH.putK_iff.1 hk3
          have hle : (i + 1) * sz ≤ vs.length := Nat.le_trans (Nat.mul_le_mul_right _ hi) hl
          have hle' := hle
          rw [Nat.add_mul] at hle'
          rw [hcap] at hf
          refine stored ho hs hx hsz hh (by omega) hf hall ?_ hk4
          rw [hcl, show off + i * sz = i * sz + off by omega]
          refine upd_row C hob he (by intro _ _ q; cases q) hnil hh (.arr _ _ _ _ _ _ _ (fun j hj => ?_) (by rw [splice1_length (by omega)]; exact hl) hnil (by rw [splice1_length (by omega)]; exact hcap) (by rw [hcap]; exact hf))
          by_cases hji : j = i
          · subst hji
            have : Nat.beq j j = true := by simp
            rw [this, cond_true, elem_own (by omega) hle]
            exact hr
          · rw [beq_false hji, cond_false, elem_other hji (by omega) (by omega)]
            exact hds j hj
      · exact hk.elim
    · exact hk.elim
  · exact hvv.elim
theorem h_call {f : Nat} {args : Array Operand} {argTypes : Array TypeId} {cs : List Opd} (C : Cx G ρ hI hF w S nx fr a) (ho : o.op = .call { callee := .value (.func f), args, argTypes }) (hc : chkOpds args.toList cs = true)
    (hb : ∃ fn c, P.funcs[f]? = some fn ∧ fn.body = some c ∧ fn.name ≠ "runtime.NumGoroutine") (h : hop P G S nx fr (.call f cs) K) : o.wp P a w (Lands nx ρ hI hF a o.dst K) Q := by
  obtain ⟨vs, hvs, hd⟩ := evsK_sound C.g C.f hc (show evsK G fr cs _ from h)
  have hcall := hvs ρ hI hF w _ C.sat C.g hd
  obtain ⟨fn, cd, hf, hbody, hname⟩ := hb
  have hrun : (execOp a.eval o).run P w = .ok (.enter f (args.toList.map a.eval).toArray) w := by
    simp only [execOp, ho, resolve]
    have e1 : (Deferred.ofValue (a.eval (.func f)) (args.map a.eval)).run P w = .ok { target := .fn (.func f) #[], args := args.map a.eval } w := by
      simp [Act.eval, Deferred.ofValue, run_pure]
    rw [run_ok e1]
    simp only [invoke, callFunc]
    rw [run_ok (run_program w)]
    have hn : (fn.name == "runtime.NumGoroutine") = false := by simpa using hname
    simp only [hf, hn, hbody, Option.isNone_some, Bool.false_eq_true, if_false]
    rw [run_pure]
    congr 2
    simp [← Array.toList_map]
  unfold Oper.wp
  rw [hrun]
  refine hcall.mono ?_
  rintro e w' ⟨v, r, S', nx', ρ', hI', rfl, hk, hr, hs, hρ, hle, hsub⟩
  exact ⟨_, _, _, _, _, _, rfl, hk, hr, hs, hρ, hle, hsub⟩
end
end Sg
end Go.Proofs.YtfkboondffejaaaGreatDoor
set_option linter.unusedVariables false
set_option linter.unusedSimpArgs false
namespace Go.Proofs.YtfkboondffejaaaGreatDoor
namespace Sg
variable {P : Program}
section
variable {G : Gl} {ρ : Env} {hI : Hp} {hF : Fm} {w : World} {S : SH} {nx : Nat} {fr : FT} {a : Act} {o : Oper} {K : SV → SH → Nat → Prop} {Q : Exit → Act → World → Prop}
theorem Sat.drew (h : Sat ρ hI hF w S nx) : Sat ρ hI hF w.drew S nx :=
  ⟨h.1, h.2.1, ⟨h.2.2.os, h.2.2.tape, h.2.2.output, h.2.2.size⟩⟩
theorem Sat.take {n : Nat} {ob : SObj} (h : Sat ρ hI hF w S nx) (g : SH.get S n = some ob) :
    ∃ e, ρ n = some e ∧ (∀ (m : Nat) (e' : Ent) (ρ' : Env), ρ.sub ρ' → ρ' m = some e' → (∀ h1, ODen ρ hI ob e h1 → ODen ρ' hI ob e' h1) → (∀ k, nx + 1 ≤ k → ρ' k = none) → Sat ρ' hI hF w ((m, ob) :: SH.del S n) (nx + 1)) ∧ Sat ρ hI hF w (SH.del S n) nx := by
  obtain ⟨⟨k, hk, d1, d2, d3, i1, i2, i3⟩, hn, hw⟩ := h
  obtain ⟨e, h1, h2, hr, ho, hs, hd, hz, s1, s2⟩ := hk.take g
  have ku : k = h1.union h2 := by
    funext b
    cases e1 : h1 b with
    | some x => simp [Hp.union, e1, s1 _ _ e1]
    | none =>
      cases e2 : h2 b with
      | some x => simp [Hp.union, e1, e2, s2 _ _ e2]
      | none => simp [Hp.union, e1, e2, (hz b).2 ⟨e1, e2⟩]
  refine ⟨e, hr, ?_, ⟨h2, hs, ?_, d2, ?_, i1, i2.sub s2, i3⟩, hn, hw⟩
  · intro m e' ρ' r hm hob hk'
    exact ⟨⟨k, ⟨e', h1, h2, hm, hob _ ho, hs.mono r (Hp.sub.refl _), hd, ku⟩, d1, d2, d3, i1, i2, i3⟩, hk', hw⟩
  · intro b; rcases d1 b with y | y
    · exact .inl y
    · exact .inr ((hz b).1 y).2
  · intro b; rcases d3 b with y | y
    · exact .inl ((hz b).1 y).2
    · exact .inr y
theorem Sat.drop {n : Nat} {ob : SObj} (h : Sat ρ hI hF w S nx) (g : SH.get S n = some ob) : Sat ρ hI hF w (SH.del S n) nx := by
  obtain ⟨e, _, _, h⟩ := h.take g; exact h
theorem Sat.move {n : Nat} {ob : SObj} {e : Ent} (h : Sat ρ hI hF w S nx) (g : SH.get S n = some ob) (he : ρ n = some e) : Env.ext nx ρ (ρ.set nx e) ∧ Sat (ρ.set nx e) hI hF w ((nx, ob) :: SH.del S n) (nx + 1) := by
  have hn := h.2.1
  have r : ρ.sub (ρ.set nx e) := Env.sub_set (hn nx (Nat.le_refl _))
  obtain ⟨e', he', hm, _⟩ := h.take g
  rw [he] at he'; cases he'
  refine ⟨⟨r, Env.set_low⟩, hm nx e _ r (Env.set_self _ _ _) (fun h1 d => d.mono r (Hp.sub.refl _)) fun k hk => ?_⟩
  unfold Env.set
  rw [if_neg (by omega)]
  exact hn k (by omega)
theorem SH.del_put : ∀ {S : SH} {n : Nat} {o : SObj}, SH.del (SH.put S n o) n = SH.del S n
  | [], _, _ => rfl
  | (m, x) :: S, n, o => by
    cases h : Nat.beq m n
    · simp [SH.put, SH.del, h, SH.del_put (S := S)]
    · simp [SH.put, SH.del, h]
theorem SH.get_put : ∀ {S : SH} {n : Nat} {o x : SObj}, SH.get S n = some x → SH.get (SH.put S n o) n = some o
  | [], _, _, _, h => by simp [SH.get] at h
  | (m, y) :: S, n, o, x, h => by
    cases hb : Nat.beq m n
    · simp only [SH.get, hb, cond_false] at h; simp [SH.put, SH.get, hb, SH.get_put h]
    · simp [SH.put, SH.get, hb]
structure ElemB (P : Program) (t e : TypeId) : Prop where
  t : P.underlying t = some (.slice e)
  u : P.underlying e = some (.int .u8)
  i : ∃ i, P.info? e = some i ∧ i.size = 1 ∧ i.bytes = 1 ∧ i.zero = some (.int .u8 0)
def elemB (P : Program) (t : TypeId) : Option TypeId := match sliceE P t with
  | some e => bif isU8 P e && decide (sizeT P e = some 1) && decide (bytesT P e = some 1) && (match zeroT P e with | some (.int .u8 0) => true | _ => false) then some e else none
  | none => none
theorem elemB_of {t e : TypeId} (h : elemB P t = some e) : ElemB P t e := by
  unfold elemB at h
  split at h
  · rename_i e' he
    cases hb : (isU8 P e' && decide (sizeT P e' = some 1) && decide (bytesT P e' = some 1) && (match zeroT P e' with | some (.int .u8 0) => true | _ => false)) with
    | false => rw [hb] at h; cases h
    | true =>
      rw [hb] at h
      simp only [cond_true, Option.some.injEq] at h
      subst h
      simp only [Bool.and_eq_true, decide_eq_true_eq] at hb
      obtain ⟨⟨⟨h1, h2⟩, h3⟩, h4⟩ := hb
      obtain ⟨i, hi, hs⟩ := sizeT_of h2
      refine ⟨sliceE_of he, isU8_of h1, i, hi, hs, by simpa [bytesT, hi] using h3, ?_⟩
      split at h4
      · rename_i hz; simpa [zeroT, hi] using hz
      · cases h4
  · cases h
structure ElemS (P : Program) (t e : TypeId) (sz b : Nat) (z : Value) : Prop where
  t : P.underlying t = some (.slice e)
  i : ∃ i, P.info? e = some i ∧ i.size = sz ∧ i.bytes = b ∧ i.zero = some z
  zs : z.cells.size = sz
  sz : 0 < sz
  b : 0 < b
def elemS (P : Program) (t : TypeId) (sz b : Nat) : Option (TypeId × Value) := match sliceE P t with
  | some e => match zeroT P e with
    | some z => bif decide (sizeT P e = some sz) && decide (bytesT P e = some b) && Nat.beq z.cells.size sz && Nat.blt 0 sz && Nat.blt 0 b then some (e, z) else none
    | none => none
  | none => none
theorem elemS_of {t e : TypeId} {sz b : Nat} {z : Value} (h : elemS P t sz b = some (e, z)) : ElemS P t e sz b z := by
  unfold elemS at h
  split at h
  · rename_i e' he
    split at h
    · rename_i z' hz
      cases hb : (decide (sizeT P e' = some sz) && decide (bytesT P e' = some b) && Nat.beq z'.cells.size sz && Nat.blt 0 sz && Nat.blt 0 b) with
      | false => rw [hb] at h; cases h
      | true =>
        rw [hb] at h
        simp only [cond_true, Option.some.injEq, Prod.mk.injEq] at h
        obtain ⟨rfl, rfl⟩ := h
        simp only [Bool.and_eq_true, decide_eq_true_eq] at hb
        obtain ⟨⟨⟨⟨h1, h2⟩, h3⟩, h4⟩, h5⟩ := hb
        obtain ⟨i, hi, hs⟩ := sizeT_of h1
        exact ⟨sliceE_of he, ⟨i, hi, hs, by simpa [bytesT, hi] using h2, by simpa [zeroT, hi] using hz⟩, Nat.eq_of_beq_eq_true h3, of_blt h4, of_blt h5⟩
    · cases h
  · cases h
theorem zcells (z : Value) : ∀ (n sz : Nat), z.cells.size = sz → (Builtin.zeroCells z.cells n).toList = (List.replicate n z.cells.toList).flatten := by
  intro n sz hz
  apply List.ext_getElem?
  intro j
  by_cases hj : j < n * sz
  · have hs : 0 < sz := Nat.pos_of_ne_zero (by rintro rfl; simp at hj)
    have hm : j % sz < sz := Nat.mod_lt _ hs
    have hl : (Builtin.zeroCells z.cells n).toList[j]? = some z.cells[j % sz]! := by
      simp [Builtin.zeroCells, hz, hj]
    rw [hl]
    have : ∀ (n j : Nat), j < n * sz → (List.replicate n z.cells.toList).flatten[j]? = some z.cells[j % sz]! := by
      intro n
      induction n with
      | zero => intro j h; omega
      | succ n ih =>
        intro j h
        rw [List.replicate_succ, List.flatten_cons]
        by_cases hj : j < sz
        · rw [List.getElem?_append_left (by simpa [hz] using hj), Nat.mod_eq_of_lt hj]
          simp [hz, hj]
        · rw [List.getElem?_append_right (by simp [hz]; omega)]
          simp only [Array.length_toList, hz]
          rw [ih (j - sz) (by rw [Nat.add_mul] at h; omega), ← Nat.mod_eq_sub_mod (by omega)]
    rw [this n j hj]
  · rw [List.getElem?_eq_none (by simp [Builtin.zeroCells, hz]; omega), List.getElem?_eq_none]
    simp only [List.length_flatten, List.map_replicate, List.sum_replicate_nat, Array.length_toList, hz]
    omega
theorem chunk {α : Type} {l : List α} {n sz i : Nat} (hl : l.length = sz) (hi : i < n) : (((List.replicate n l).flatten).drop (i * sz)).take sz = l := by
  induction n generalizing i with
  | zero => omega
  | succ n ih =>
    rw [List.replicate_succ, List.flatten_cons]
    cases i with
    | zero => rw [Nat.zero_mul, List.drop_zero, ← hl, List.take_left]
    | succ i =>
      rw [Nat.add_mul, Nat.one_mul, List.drop_append, List.drop_of_length_le (by omega), List.nil_append, show i * sz + sz - l.length = i * sz by omega]
      exact ih (by omega)
theorem made_zero (z : Value) (n sz : Nat) (hz : z.cells.size = sz) : (madeCells z.cells (n * sz)).toList = (List.replicate n z.cells.toList).flatten := by
  rw [← zcells z n sz hz]
  simp [madeCells, Builtin.zeroCells, hz]
theorem evK_det {fr : FT} {c : Opd} {K : SV → Prop} (h : evK G fr c K) : ∃ v, K v ∧ evK G fr c (fun x => x = v) := by
  cases c with
  | t n => obtain ⟨x, e, hk⟩ := FT.getK_iff.1 (show FT.getK fr n K from h); exact ⟨x, hk, FT.getK_iff.2 ⟨x, e, rfl⟩⟩
  | k v => exact ⟨v, h, rfl⟩
  | g n =>
    simp only [evK] at h
    split at h
    · rename_i cs e; exact ⟨_, h, by simp [evK, e]⟩
    · exact h.elim
theorem evK_both {x y : Operand} {c : Opd} {K : SV → Prop} (C : Cx G ρ hI hF w S nx fr a) (h1 : chkOpd x c = true) (h2 : chkOpd y c = true) (h : evK G fr c K) : ∃ v, K v ∧ SDen ρ hI v (a.eval x) ∧ SDen ρ hI v (a.eval y) := by
  obtain ⟨v, hk, hd⟩ := evK_det h
  obtain ⟨_, rfl, d1⟩ := evK_sound h1 C.g C.f hd
  obtain ⟨_, e, d2⟩ := evK_sound h2 C.g C.f hd
  subst e
  exact ⟨_, hk, d1, d2⟩
theorem h_mksl {t e : TypeId} {sz b : Nat} {z : Value} {zero : List SV} {l c : Operand} {x : Opd} (C : Cx G ρ hI hF w S nx fr a) (ho : o.op = .makeSlice t l c) (E : ElemS P t e sz b z) (hz : chkCells zero z.cells.toList = true) (h1 : chkOpd l x = true) (h2 : chkOpd c x = true)
    (h : hop P G S nx fr (.mksl sz zero b x) K) : o.wp P a w (Lands nx ρ hI hF a o.dst K) Q := by
  obtain ⟨v, hv, hd, hd2⟩ := evK_both C h1 h2 (show evK G fr x _ from h)
  generalize hx : a.eval l = u at hd
  generalize hy : a.eval c = u2 at hd2
  split at hv
  · rename_i k n
    obtain ⟨⟨hn0, hn⟩, hk⟩ := vc_iff.1 hv
    cases hd with | iv _ _ hd => cases hd with | int =>
    cases hd2 with | iv _ _ hd2 => cases hd2 with | int =>
    obtain ⟨m, rfl⟩ : ∃ m : Nat, n = (m : Int) := ⟨n.toNat, by omega⟩
    obtain ⟨i, hi, rfl, rfl, hzi⟩ := E.i
    have hsm : (m : Int) ≤ 9223372036854775807 := by
      have h1 : ((m : Nat) : Int) ≤ ((i.bytes * m : Nat) : Int) := Int.ofNat_le.2 (Nat.le_mul_of_pos_left m E.b)
      rw [Int.natCast_mul] at h1
      omega
    have hr := run_make (P := P) w t e i z E.t hi hzi k k m m (by omega) (by omega) (by omega) hsm
    simp only [Int.toNat_natCast] at hr hk
    have hml := made_zero z m i.size E.zs
    generalize hcs : madeCells z.cells (m * i.size) = cs at hr hml
    have hlen : cs.toList.length = m * i.size := by rw [← hcs]; simp [madeCells]
    have hdz := chkCells_sound ρ hI hz
    obtain ⟨r, hs⟩ := C.sat.new (o := .arr i.size m (fun _ => zero)) (ob := .cells cs e) (cap := cs.toList.length) (fun ρ' r => .arr _ _ _ _ cs.toList e (0, 0) (fun j hj => by rw [hml, chunk (by simp [E.zs]) hj]; exact hdz.mono r (Hp.sub.refl _)) (by omega) rfl rfl (unfrozen0 _))
    refine wp_value (v := .slice (some ⟨w.heap.size, 0, none⟩) m m) (w' := push w (.cells cs e)) ?_ ⟨_, _, _, _, _, _, rfl, hk, ?_, hs, r, Nat.le_succ _, Hp.sub.refl _⟩
    · simp only [execOp, ho, hx, hy]
      exact exec_v hr
    · have hsd := SDen.sl (hI := hI) i.size nx 0 m ⟨w.heap.size, cs.toList.length, false⟩ ⟨w.heap.size, 0, none⟩ (Env.set_self ρ nx _) rfl (by intro _; simp) (by simp only [hlen]; rw [Nat.mul_div_cancel _ E.sz]; omega)
      simpa only [hlen, Nat.mul_div_cancel _ E.sz, Nat.sub_zero] using hsd
  · exact hv.elim
theorem h_mkb {t e : TypeId} {l c : Operand} {x : Opd} (C : Cx G ρ hI hF w S nx fr a) (ho : o.op = .makeSlice t l c) (E : ElemB P t e) (h1 : chkOpd l x = true) (h2 : chkOpd c x = true)
    (h : hop P G S nx fr (.mkb x) K) : o.wp P a w (Lands nx ρ hI hF a o.dst K) Q := by
  obtain ⟨v, hv, hd, hd2⟩ := evK_both C h1 h2 (show evK G fr x _ from h)
  generalize hx : a.eval l = u at hd
  generalize hy : a.eval c = u2 at hd2
  split at hv
  · rename_i k n
    obtain ⟨⟨hn0, hn⟩, hk⟩ := vc_iff.1 hv
    cases hd with | iv _ _ hd => cases hd with | int =>
    cases hd2 with | iv _ _ hd2 => cases hd2 with | int =>
    obtain ⟨m, rfl⟩ : ∃ m : Nat, n = (m : Int) := ⟨n.toNat, by omega⟩
    obtain ⟨i, hi, hs1, hb1, hzi⟩ := E.i
    have hr := run_make (P := P) w t e i _ E.t hi hzi k k m m (by omega) (by omega) (by rw [hb1]; omega) (by omega)
    simp only [Int.toNat_natCast] at hr hk
    have hml : (madeCells (Value.cells (.int .u8 0)) (m * i.size)).toList = (List.replicate m (0 : UInt8)).map bv ++ [] := by
      rw [made_zero _ m i.size (by rw [hs1]; rfl)]
      simp [bv, Value.cells, List.flatten_replicate_singleton]
    generalize hcs : madeCells (Value.cells (.int .u8 0)) (m * i.size) = cs at hr hml
    have e2 : cs = ((List.replicate m (0 : UInt8)).map bv ++ []).toArray := by rw [← hml]
    rw [e2] at hr
    obtain ⟨r, hs⟩ := C.sat.new (o := .bytes (List.replicate m 0)) (ob := .cells ((List.replicate m (0 : UInt8)).map bv ++ []).toArray e) (cap := m) (fun ρ' r => .bytes _ _ [] e (0, 0) rfl (by simp) (unfrozen0 _))
    refine wp_value (v := .slice (some ⟨w.heap.size, 0, none⟩) m m) (w' := push w (.cells ((List.replicate m (0 : UInt8)).map bv ++ []).toArray e)) ?_ ⟨_, _, _, _, _, _, rfl, hk, ?_, hs, r, Nat.le_succ _, Hp.sub.refl _⟩
    · simp only [execOp, ho, hx, hy]
      exact exec_v hr
    · have hsd := SDen.sl (hI := hI) 1 nx 0 m ⟨w.heap.size, m, false⟩ ⟨w.heap.size, 0, none⟩ (Env.set_self ρ nx _) rfl (by intro _; simp) (by simp)
      simpa using hsd
  · exact hv.elim
theorem Wk.drew (w : World) : Wk w w.drew := ⟨rfl, rfl, rfl, Nat.le_refl _⟩
theorem freeze_only (w : World) (b o n : Nat) : Only w (w.freeze ⟨b, o, none⟩ n) b := by
  unfold World.freeze
  split
  · exact ⟨Wk.refl _, fun b' _ x h => h⟩
  · refine ⟨⟨rfl, rfl, rfl, by simp⟩, fun b' hb x hx => ?_⟩
    simp only [Array.getElem?_modify, if_neg (Ne.symm hb)]
    exact hx
theorem freeze_heap {w : World} {b : Nat} {c : Array Value} {T : TypeId} {fz : Nat × Nat} (h : w.heap[b]? = some (.cells c T fz)) : ∃ fz', (w.freeze ⟨b, c.size, none⟩ 1).heap[b]? = some (.cells c T fz') ∧ (Unfrozen c.size fz → Unfrozen c.size fz') := by
  obtain ⟨lo, hi⟩ := fz
  refine ⟨if lo == hi then (c.size, c.size + 1) else (min lo c.size, max hi (c.size + 1)), ?_, ?_⟩
  · simp [World.freeze, Array.getElem?_modify, h]
  · intro hf
    unfold Unfrozen at *
    simp only at *
    by_cases e : lo = hi
    · subst e; simp
    · simp only [beq_iff_eq, e, if_false]
      right
      rcases hf with hf | hf
      · exact absurd hf e
      · omega
theorem run_markS {w : World} {b o : Nat} {c : Array Value} {T : TypeId} {fz : Nat × Nat} (h : w.heap[b]? = some (.cells c T fz)) : (markStringish ⟨b, o, none⟩).run P w = .ok () (w.freeze ⟨b, c.size, none⟩ 1) := by
  unfold markStringish
  have : (shape b).run P w = .ok (some (T, c.size)) w := by simp [shape, Sem.run, World.shape?, h]
  rw [run_ok this]
  rfl
theorem Sat.upd_any {n : Nat} {ob ob' : SObj} {e : Ent} {w' : World} {O : Obj} (h : Sat ρ hI hF w S nx) (g : SH.get S n = some ob) (he : ρ n = some e) (hna : ∀ ns A, ob ≠ .abs ns A) (hnil : e.nil = false)
    (ho : Only w w' e.b) (hh : w'.heap[e.b]? = some O) (hd : ODen ρ hI ob' e (Hp.one e.b O)) : Sat ρ hI hF w' (SH.put S n ob') nx :=
  h.upd g he (fun h1 d => d.owns hna hnil) ho hh hd
theorem SH.put_self : ∀ {S : SH} {n : Nat} {o : SObj}, SH.get S n = some o → SH.put S n o = S
  | [], _, _, _ => rfl
  | (m, x) :: S, n, o, h => by
    cases hb : Nat.beq m n
    · simp only [SH.get, hb, cond_false] at h; simp [SH.put, hb, SH.put_self h]
    · simp only [SH.get, hb, cond_true, Option.some.injEq] at h; simp [SH.put, hb, h]
theorem h_s2s {s e : TypeId} {x : Operand} {c : Opd} (C : Cx G ρ hI hF w S nx fr a) (ho : o.op = .convert s s x) (hs : P.underlying s = some (.slice e)) (he : P.underlying e = some (.int .u8)) (hc : chkOpd x c = true) (h : hop P G S nx fr (.s2s c) K) : o.wp P a w (Lands nx ρ hI hF a o.dst K) Q := by
  obtain ⟨v, hv, hd⟩ := evK_sound hc C.g C.f (show evK G fr c _ from h)
  generalize hx : a.eval x = u at hd
  split at hv
  · rename_i sz n off len
    obtain ⟨ob, hob, hk⟩ := SH.getK_iff.1 hv
    split at hk
    · rename_i l
      obtain ⟨⟨hl, h0⟩, hk2⟩ := vc_iff.1 hk
      subst h0
      obtain ⟨en, hen, hcase⟩ := C.sat.bytes hob
      rcases hcase with ⟨_, h0⟩ | ⟨rest, T, fz, hh, hnil, hcap, hf⟩
      · subst h0; simp at hl
      · have hd' := hd
        cases hd with
        | slnil _ _ e' he' hn' => rw [hen] at he'; cases he'; rw [hnil] at hn'; cases hn'
        | sl _ _ _ _ e' A he' hn' hA hle =>
          rw [hen] at he'; cases he'
          have hA' := hA (.inr rfl)
          subst hA'
          have hsz : (l.map bv ++ rest).toArray.size = en.cap := by simp [hcap]
          obtain ⟨fz', hh', huf⟩ := freeze_heap hh
          have hs' := C.sat.upd_any (ob' := .bytes l) hob hen (by intro _ _ q; cases q) hnil (freeze_only w en.b (l.map bv ++ rest).toArray.size 1) hh' (.bytes _ _ _ _ _ hnil hcap (by rw [← hsz]; exact huf (by rw [hsz]; exact hf)))
          rw [SH.put_self hob] at hs'
          refine wp_value (v := a.eval x) (w' := w.freeze ⟨en.b, (l.map bv ++ rest).toArray.size, none⟩ 1) ?_ ⟨_, _, _, _, _, _, rfl, hk2, by rw [hx]; exact hd', hs', Env.ext.refl _ _, Nat.le_refl _, Hp.sub.refl _⟩
          simp only [execOp, ho, hx]
          refine exec_v ?_
          unfold convert
          rw [run_ok (run_underlying hs w), run_ok (run_underlying hs w)]
          simp only [beq_self_eq_true]
          rw [run_ok (run_underlying he w)]
          simp only
          rw [run_ok (run_markS hh)]
          rfl
    · exact hk.elim
  · exact hv.elim
end
end Sg
end Go.Proofs.YtfkboondffejaaaGreatDoor
set_option linter.unusedVariables false
set_option linter.unusedSimpArgs false
namespace Go.Proofs.YtfkboondffejaaaGreatDoor
namespace Sg
variable {P : Program}
section
variable {G : Gl} {ρ : Env} {hI : Hp} {hF : Fm} {w : World} {S : SH} {nx : Nat} {fr : FT} {a : Act} {o : Oper} {K : SV → SH → Nat → Prop} {Q : Exit → Act → World → Prop}
theorem fill_one {sz n : Nat} {pre mid us : List Value} {v : Value} {rest : List (Nat × Value)} (hv : v.cells.toList = us) (hu : us.length = sz) (hp : pre.length = n * sz) (hm : sz ≤ mid.length) :
    Instr.fill (fun i => some (i * sz, sz)) (pre ++ mid).toArray ((n, v) :: rest) = Instr.fill (fun i => some (i * sz, sz)) (pre ++ us ++ mid.drop sz).toArray rest := by
  have hvs : v.cells.size = sz := by rw [← hu, ← hv]; simp
  simp only [Instr.fill]
  rw [if_neg (by simp [hvs]; omega)]
  congr 1
  have := splice v.cells.toList (n * sz) (pre ++ mid).toArray pre (mid.take sz) (mid.drop sz) (by simp) hp (by simp [hvs]; omega)
  apply Array.ext'
  rw [← hv]
  rw [← this, ← Array.foldl_toList, Array.toList_zipIdx]
theorem fill_elems (C : Cx G ρ hI hF w S nx fr a) {sz : Nat} : ∀ (ps : List (Nat × Operand)) (cs : List Opd) (n : Nat) (pre : List Value) (K : List (List SV) → Prop), chkParts n ps cs = true → elemsK G fr sz cs K → pre.length = n * sz →
    ∃ (es : List (List SV)) (vs : List Value), K es ∧ vs.length = cs.length * sz ∧ (∀ i, i < cs.length → SDens ρ hI (es.getD i []) ((vs.drop (i * sz)).take sz)) ∧ ∀ mid : List Value, mid.length = cs.length * sz → Instr.fill (fun i => some (i * sz, sz)) (pre ++ mid).toArray (ps.map fun p => (p.1, a.eval p.2)) = some (pre ++ vs).toArray
  | [], [], n, pre, K, _, hk, hp => ⟨[], [], hk, by simp, fun i hi => by simp at hi, fun mid hm => by
    have : mid = [] := List.length_eq_zero_iff.1 (by simpa using hm)
    subst this
    simp [Instr.fill]⟩
  | [], _ :: _, _, _, _, hc, _, _ => by simp [chkParts] at hc
  | _ :: _, [], _, _, _, hc, _, _ => by simp [chkParts] at hc
  | (j, x) :: ps, c :: cs, n, pre, K, hc, hk, hp => by
    simp only [chkParts, Bool.and_eq_true] at hc
    obtain ⟨⟨h1, h2⟩, h3⟩ := hc
    obtain rfl := Nat.eq_of_beq_eq_true h1
    obtain ⟨v, hv, hd⟩ := evK_sound h2 C.g C.f (show evK G fr c _ from hk)
    obtain ⟨ds, hk2, hds⟩ := cellsK_sound hd hv
    obtain ⟨hn, hk3⟩ := vc_iff.1 hk2
    have hus : (a.eval x).cells.toList.length = sz := by rw [ncells_eq hds, hn]
    obtain ⟨es, vs, hK, hl, hE, hfill⟩ := fill_elems C ps cs (j + 1) (pre ++ (a.eval x).cells.toList) (fun r => K (ds :: r)) h3 hk3 (by rw [List.length_append, hus, hp, Nat.add_mul, Nat.one_mul])
    refine ⟨ds :: es, (a.eval x).cells.toList ++ vs, hK, by simp only [List.length_append, hus, hl, List.length_cons, Nat.add_mul]; omega, ?_, ?_⟩
    · intro i hi
      cases i with
      | zero =>
        rw [Nat.zero_mul, List.drop_zero, ← hus, List.take_left]
        exact hds
      | succ i =>
        rw [Nat.add_mul, Nat.one_mul, List.drop_append, List.drop_of_length_le (by omega), List.nil_append, show i * sz + sz - (a.eval x).cells.toList.length = i * sz by omega]
        exact hE i (by simpa using hi)
    · intro mid hm
      simp only [List.length_cons, Nat.add_mul, Nat.one_mul] at hm
      rw [List.map_cons, fill_one rfl hus hp (by omega), hfill (mid.drop sz) (by simp; omega), List.append_assoc]
theorem fill_bytes (C : Cx G ρ hI hF w S nx fr a) : ∀ (ps : List (Nat × Operand)) (cs : List Opd) (n : Nat) (pre : List Value) (K : List UInt8 → Prop), chkParts n ps cs = true → bytesK G fr cs K → pre.length = n →
    ∃ l, K l ∧ l.length = cs.length ∧ ∀ mid : List Value, mid.length = cs.length → Instr.fill (fun i => some (i * 1, 1)) (pre ++ mid).toArray (ps.map fun p => (p.1, a.eval p.2)) = some (pre ++ l.map bv).toArray
  | [], [], n, pre, K, _, hk, hp => ⟨[], hk, by simp, fun mid hm => by
    have : mid = [] := List.length_eq_zero_iff.1 (by simpa using hm)
    subst this
    simp [Instr.fill]⟩
  | [], _ :: _, _, _, _, hc, _, _ => by simp [chkParts] at hc
  | _ :: _, [], _, _, _, hc, _, _ => by simp [chkParts] at hc
  | (j, x) :: ps, c :: cs, n, pre, K, hc, hk, hp => by
    simp only [chkParts, Bool.and_eq_true] at hc
    obtain ⟨⟨h1, h2⟩, h3⟩ := hc
    obtain rfl := Nat.eq_of_beq_eq_true h1
    obtain ⟨v, hv, hd⟩ := evK_sound h2 C.g C.f (show evK G fr c _ from hk)
    split at hv
    · rename_i b
      have hx : (a.eval x).cells.toList = [bv b] := by
        generalize a.eval x = u at hd
        cases hd with | iv _ _ hd => cases hd with | byte => rfl
      obtain ⟨l, hK, hl, hfill⟩ := fill_bytes C ps cs (j + 1) (pre ++ [bv b]) (fun r => K (b :: r)) h3 hv (by simp [hp])
      refine ⟨b :: l, hK, by simp [hl], fun mid hm => ?_⟩
      simp only [List.length_cons] at hm
      rw [List.map_cons, fill_one (sz := 1) (n := j) hx rfl (by omega) (by omega), hfill _ (by simp; omega)]
      simp
    · exact hv.elim
theorem run_bslice {t e : TypeId} {len sz : Nat} {i : TypeInfo} {z : Value} {parts : Array (Nat × Value)} {vs : List Value} (ht : P.underlying t = some (.slice e)) (hi : P.info? e = some i) (hz : i.zero = some z) (hs : i.size = sz) (hb : len * sz ≤ 16777216)
    (hf : ∀ mid : List Value, mid.length = len * sz → Instr.fill (fun i => some (i * sz, sz)) mid.toArray parts.toList = some vs.toArray) :
    (Instr.buildSlice t len parts).run P w = .ok (.slice (some ⟨w.heap.size, 0, none⟩) len len) (push w (.cells vs.toArray e)) := by
  subst hs
  unfold Instr.buildSlice
  rw [run_ok (run_underlying ht w), run_ok (run_sizeOf hi w), if_neg (by omega)]
  have ez : ∃ zs, ((if len * i.size = 0 then pure #[] else do pure (← zeroValue e).cells : Sem (Array Value))).run P w = .ok zs w := by
    split
    · exact ⟨_, rfl⟩
    · exact ⟨z.cells, by rw [run_ok (run_zeroValue hi hz w)]; rfl⟩
  clear ez
  have fin : ∀ zero : Array Value, ((match Instr.fill (fun i_1 => some (i_1 * i.size, i.size)) (Array.map (fun x => zero[x % zero.size]!) (Array.range (len * i.size))) parts.toList with
      | some cells => do
        let a ← newRow e cells
        pure (Value.slice (some a) len len)
      | x => stuck "buildSlice: a part of the wrong size" : Sem Value)).run P w = .ok (.slice (some ⟨w.heap.size, 0, none⟩) len len) (push w (.cells vs.toArray e)) := by
    intro zero
    have h := hf (Array.map (fun x => zero[x % zero.size]!) (Array.range (len * i.size))).toList (by simp)
    rw [Array.toArray_toList] at h
    rw [h]
    simp only
    rw [run_ok run_newRow]
    rfl
  split
  · rw [run_ok (run_pure _ w)]; exact fin _
  · rw [run_ok (run_zeroValue hi hz w), run_ok (run_pure _ w)]
    exact fin _
theorem h_bslice {t e : TypeId} {len sz : Nat} {parts : Array (Nat × Operand)} {xs : List Opd} {i : TypeInfo} {z : Value} (C : Cx G ρ hI hF w S nx fr a) (ho : o.op = .buildSlice t len parts) (ht : P.underlying t = some (.slice e)) (hi : P.info? e = some i) (hz : i.zero = some z) (hs : i.size = sz)
    (hsz : 0 < sz) (hx : len = xs.length) (hb : len * sz ≤ 16777216) (hp : chkParts 0 parts.toList xs = true) (h : hop P G S nx fr (.bslice sz len xs) K) : o.wp P a w (Lands nx ρ hI hF a o.dst K) Q := by
  have h2 : elemsK G fr sz xs _ := h
  subst hx
  obtain ⟨es, vs, hK, hl, hE, hfill⟩ := fill_elems C parts.toList xs 0 [] _ hp h2 (by simp)
  obtain ⟨r, hsat⟩ := C.sat.new (o := .arr sz xs.length (fun i => es.getD i [])) (ob := .cells vs.toArray e) (cap := vs.length) (fun ρ' r => .arr _ _ _ _ vs e (0, 0) (fun j hj => (hE j hj).mono r (Hp.sub.refl _)) (by omega) rfl rfl (unfrozen0 _))
  have hr := run_bslice (P := P) (w := w) (parts := parts.map fun (i, x) => (i, a.eval x)) ht hi hz hs hb (by simpa using hfill)
  refine wp_value (v := .slice (some ⟨w.heap.size, 0, none⟩) xs.length xs.length) (w' := push w (.cells vs.toArray e)) ?_ ⟨_, _, _, _, _, _, rfl, hK, ?_, hsat, r, Nat.le_succ _, Hp.sub.refl _⟩
  · simp only [execOp, ho]
    exact exec_v hr
  · have hsd := SDen.sl (hI := hI) sz nx 0 xs.length ⟨w.heap.size, vs.length, false⟩ ⟨w.heap.size, 0, none⟩ (Env.set_self ρ nx _) rfl (by intro _; simp) (by simp only [hl]; rw [Nat.mul_div_cancel _ hsz]; omega)
    simpa only [hl, Nat.mul_div_cancel _ hsz, Nat.sub_zero] using hsd
theorem h_bbytes {t e : TypeId} {len : Nat} {parts : Array (Nat × Operand)} {xs : List Opd} {i : TypeInfo} {z : Value} (C : Cx G ρ hI hF w S nx fr a) (ho : o.op = .buildSlice t len parts) (ht : P.underlying t = some (.slice e)) (hi : P.info? e = some i) (hz : i.zero = some z) (hs : i.size = 1)
    (hx : len = xs.length) (hb : len ≤ 16777216) (hp : chkParts 0 parts.toList xs = true) (h : hop P G S nx fr (.bbytes xs) K) : o.wp P a w (Lands nx ρ hI hF a o.dst K) Q := by
  have h2 : bytesK G fr xs _ := h
  subst hx
  obtain ⟨l, hK, hl, hfill⟩ := fill_bytes C parts.toList xs 0 [] _ hp h2 (by simp)
  obtain ⟨r, hsat⟩ := C.sat.new (o := .bytes l) (ob := .cells (l.map bv ++ []).toArray e) (cap := l.length) (fun ρ' r => .bytes _ _ [] e (0, 0) rfl (by simp) (unfrozen0 _))
  have hr := run_bslice (P := P) (w := w) (len := xs.length) (vs := l.map bv ++ []) (parts := parts.map fun (i, x) => (i, a.eval x)) ht hi hz hs (by omega) (by simpa using hfill)
  refine wp_value (v := .slice (some ⟨w.heap.size, 0, none⟩) xs.length xs.length) (w' := push w (.cells (l.map bv ++ []).toArray e)) ?_ ⟨_, _, _, _, _, _, rfl, hK, ?_, hsat, r, Nat.le_succ _, Hp.sub.refl _⟩
  · simp only [execOp, ho]
    exact exec_v hr
  · have hsd := SDen.sl (hI := hI) 1 nx 0 xs.length ⟨w.heap.size, l.length, false⟩ ⟨w.heap.size, 0, none⟩ (Env.set_self ρ nx _) rfl (by intro _; simp) (by simp [hl])
    simpa [hl] using hsd
theorem src_bytes {tx : TypeId} {x : SV} {u : Value} {K : List UInt8 → Prop} (h : Sat ρ hI hF w S nx) (hk : (∃ e', P.underlying tx = some (.slice e')) ∨ P.underlying tx = some .string) (hd : SDen ρ hI x u) (hc : contK S x K) :
    ∃ new, K new ∧ Src P 1 tx u new.length (new.map bv) w := by
  have one : ∀ l : List UInt8, ∀ y ∈ l.map bv, y.oneCell' = true := by
    intro l y hy; obtain ⟨b, _, rfl⟩ := List.mem_map.1 hy; rfl
  have none0 : ∀ c, Src P 1 tx (.slice none 0 c) 0 [] w := fun c => ⟨hk, fun _ => rfl, run_firstCells_none w 1 0 0 c, run_firstCells_none w.drew 1 0 0 c, by simp, fun _ h => by cases h⟩
  have some_ : ∀ (A : Addr) (l : List UInt8) (c : Nat), (∀ j v, (l.map bv)[j]? = some v → w.cell? (A.add j) = some v) → Src P 1 tx (.slice (some A) l.length c) l.length (l.map bv) w := fun A l c hl =>
    ⟨hk, fun _ => rfl, run_firstCells_some w 1 l.length A l.length c _ (by simp) hl, run_firstCells_some w.drew 1 l.length A l.length c _ (by simp) (by simpa using hl), by simp, one l⟩
  unfold contK at hc
  split at hc
  · cases hd with | iv _ _ hd => cases hd with | nilsl => exact ⟨[], hc, none0 0⟩
  · rename_i l
    cases hd with | iv _ _ hd => cases hd with
    | ib _ b o cap hcs hl =>
      refine ⟨l, hc, some_ ⟨b, o, none⟩ l cap fun j v hj => ?_⟩
      rw [addr_add]
      simp only [List.getElem?_map, Option.map_eq_some_iff] at hj
      obtain ⟨y, hy, rfl⟩ := hj
      exact cell_hI h.hI (hcs j y hy)
    | ib0 A cap =>
      cases A with
      | none => exact ⟨[], hc, none0 cap⟩
      | some A => exact ⟨[], hc, some_ A [] cap fun j v hj => by simp at hj⟩
  · rename_i l
    cases hd with | iv _ _ hd => cases hd with
    | str =>
      refine ⟨l, hc, hk, fun _ => ?_, ?_, ?_, by simp, one l⟩
      · simp [Builtin.lenOf, ba_size, run_pure]
      · have := firstCells_string (P := P) ⟨l.toArray⟩ w
        rw [ba_size] at this
        exact this
      · have := firstCells_string (P := P) ⟨l.toArray⟩ w.drew
        rw [ba_size] at this
        exact this
  · rename_i sz n off len
    obtain ⟨ob, hob, hk2⟩ := SH.getK_iff.1 hc
    split at hk2
    · rename_i l
      obtain ⟨⟨rfl, hle⟩, hk3⟩ := vc_iff.1 hk2
      have hlen : (sub l off len).length = len := by simp [sub]; omega
      obtain ⟨e, he, hcase⟩ := h.bytes hob
      refine ⟨_, hk3, ?_⟩
      rw [hlen]
      cases hd with
      | slnil _ _ e' he' hn' =>
        have : sub l 0 0 = [] := by simp [sub]
        rw [this]; exact none0 0
      | sl _ _ _ _ e' A he' hn' hA hl' =>
        rw [he] at he'; cases he'
        have := some_ A (sub l off len) (e.cap / 1 - off) (fun j v hj => ?_)
        · rwa [hlen] at this
        · simp only [List.getElem?_map, Option.map_eq_some_iff] at hj
          obtain ⟨y, hy, rfl⟩ := hj
          have hj : j < len := by rw [← hlen]; exact (List.getElem?_eq_some_iff.1 hy).1
          rw [hA (.inl (by omega)), addr_add]
          rcases hcase with ⟨_, h0⟩ | ⟨rest, T, fz, hh, hnil, hcap, hf⟩
          · subst h0; simp at hle; omega
          · rw [cell_of hh]
            unfold sub at hy
            rw [List.getElem?_take_of_lt hj, List.getElem?_drop] at hy
            have : off + j < l.length := (List.getElem?_eq_some_iff.1 hy).1
            simp only [List.getElem?_toArray]
            rw [Nat.mul_one, List.getElem?_append_left (by simpa using this), List.getElem?_map, hy]
            rfl
    · exact hk2.elim
  · rename_i sz n off len cap
    obtain ⟨ob, hob, hk2⟩ := SH.getK_iff.1 hc
    split at hk2
    · rename_i cs
      obtain ⟨e, vs, T, fz, he, hds, hh, hnil, hcap, hf⟩ := h.cells hob
      obtain ⟨r, hk3, hr, hlr⟩ := dropK_sound hds hk2
      split at hk3
      · rename_i m l tl
        obtain ⟨⟨rfl, hle⟩, hk4⟩ := vc_iff.1 hk3
        cases hd with | slx _ _ _ _ _ e' he' hlc =>
        rw [he] at he'; cases he'
        generalize hvd : vs.drop off = vd at hr
        cases hr with
        | one _ _ _ _ hz => exact (no_sbs hz).elim
        | sbs _ _ _ vs' hl hs' =>
          have hlen : (sub l 0 len).length = len := by simp [sub]; omega
          refine ⟨_, hk4, ?_⟩
          rw [hlen]
          have := some_ ⟨e.b, off, none⟩ (sub l 0 len) cap (fun j v hj => ?_)
          · rwa [hlen] at this
          · simp only [List.getElem?_map, Option.map_eq_some_iff] at hj
            obtain ⟨y, hy, rfl⟩ := hj
            have hj : j < len := by rw [← hlen]; exact (List.getElem?_eq_some_iff.1 hy).1
            rw [addr_add, cell_of hh]
            unfold sub at hy
            rw [List.drop_zero, List.getElem?_take_of_lt hj] at hy
            simp only [List.getElem?_toArray]
            rw [← List.getElem?_drop, hvd, List.getElem?_append_left (by simp; omega), List.getElem?_map, hy]
            rfl
      · exact hk3.elim
    · exact hk2.elim
  · exact hc.elim
theorem src_elems {tx : TypeId} {sz : Nat} {x : SV} {u : Value} {K : Nat → (Nat → List SV) → Prop} (h : Sat ρ hI hF w S nx) (hk : (∃ e', P.underlying tx = some (.slice e')) ∨ P.underlying tx = some .string) (hd : SDen ρ hI x u) (hc : contEK S sz x K) :
    ∃ m F us, K m F ∧ Src P sz tx u m us w ∧ ∀ i, i < m → SDens ρ hI (F i) ((us.drop (i * sz)).take sz) := by
  have none0 : ∀ c, Src P sz tx (.slice none 0 c) 0 [] w := fun c => ⟨hk, fun _ => rfl, run_firstCells_none w sz 0 0 c, run_firstCells_none w.drew sz 0 0 c, by simp, fun _ h => by cases h⟩
  have some_ : ∀ (A : Addr) (us : List Value) (m c : Nat), us.length = m * sz → (∀ y ∈ us, y.oneCell' = true) → (∀ j v, us[j]? = some v → w.cell? (A.add j) = some v) → Src P sz tx (.slice (some A) m c) m us w := fun A us m c hl h1 hcs =>
    ⟨hk, fun _ => rfl, run_firstCells_some w sz m A m c _ hl hcs, run_firstCells_some w.drew sz m A m c _ hl (by simpa using hcs), hl, h1⟩
  unfold contEK at hc
  split at hc
  · cases hd with | iv _ _ hd => cases hd with | nilsl => exact ⟨_, _, [], hc, none0 0, fun i hi => by omega⟩
  · rename_i sz' len E
    obtain ⟨rfl, hc2⟩ := vc_iff.1 hc
    cases hd with | iv _ _ hd => cases hd with
    | isl _ _ _ b o cap vs hds hsz hcs hl =>
      have key : ∀ n, n ≤ len → ∃ us : List Value, us.length = n * sz ∧ (∀ y ∈ us, y.oneCell' = true) ∧ (∀ j v, us[j]? = some v → hI.cell b (o + j) = some v) ∧ ∀ i, i < n → (us.drop (i * sz)).take sz = vs i := by
        intro n
        induction n with
        | zero => intro _; exact ⟨[], by simp, by simp, by simp, by omega⟩
        | succ n ih =>
          intro hn
          obtain ⟨us, h1, h2, h3, h4⟩ := ih (by omega)
          refine ⟨us ++ vs n, by rw [List.length_append, h1, hsz n (by omega), Nat.add_mul, Nat.one_mul], ?_, ?_, ?_⟩
          · intro y hy
            rcases List.mem_append.1 hy with hy | hy
            · exact h2 y hy
            · have := ((hds n (by omega)).up (fun _ => none)).one1 y hy
              cases y <;> simp [one1] at this <;> rfl
          · intro j v hj
            by_cases hlt : j < us.length
            · rw [List.getElem?_append_left hlt] at hj; exact h3 j v hj
            · rw [List.getElem?_append_right (by omega)] at hj
              have := hcs n (by omega) _ v hj
              rw [← this]; congr 1; omega
          · intro i hi
            by_cases hin : i < n
            · have hle : (i + 1) * sz ≤ n * sz := Nat.mul_le_mul_right _ hin
              rw [Nat.add_mul, Nat.one_mul] at hle
              rw [List.drop_append_of_le_length (by omega), List.take_append_of_le_length (by simp; omega)]
              exact h4 i hin
            · obtain rfl : i = n := by omega
              rw [← h1, List.drop_left, ← hsz i (by omega), List.take_length]
      obtain ⟨us, h1, h2, h3, h4⟩ := key len (Nat.le_refl _)
      refine ⟨len, _, us, hc2, some_ ⟨b, o, none⟩ us len cap h1 h2 fun j v hj => ?_, fun i hi => ?_⟩
      · rw [addr_add]; exact cell_hI h.hI (h3 j v hj)
      · rw [h4 i hi]; exact (hds i hi).up ρ
    | isl0 _ _ A cap =>
      cases A with
      | none => exact ⟨0, _, [], hc2, none0 cap, fun i hi => by omega⟩
      | some A => exact ⟨0, _, [], hc2, some_ A [] 0 cap (by simp) (by simp) (by simp), fun i hi => by omega⟩
  · rename_i sz' n off len
    obtain ⟨ob, hob, hk2⟩ := SH.getK_iff.1 hc
    split at hk2
    · rename_i sz2 len2 E
      obtain ⟨⟨rfl, rfl, hle⟩, hk3⟩ := vc_iff.1 hk2
      obtain ⟨e, he, hcase⟩ := h.arr hob
      cases hd with
      | slnil _ _ e' he' hn' => exact ⟨0, _, [], hk3, none0 0, fun i hi => by omega⟩
      | sl _ _ _ _ e' A he' hn' hA hl' =>
        rw [he] at he'; cases he'
        rcases hcase with ⟨_, h0⟩ | ⟨vs, T, fz, hh, hds, hlv, hnil, hcap, hf⟩
        · have : len = 0 := by omega
          subst this
          exact ⟨0, _, [], hk3, some_ A [] 0 _ (by simp) (by simp) (by simp), fun i hi => by omega⟩
        · have hls : (off + len) * sz ≤ len2 * sz := Nat.mul_le_mul_right _ hle
          rw [Nat.add_mul] at hls
          have hlu : ((vs.drop (off * sz)).take (len * sz)).length = len * sz := by simp; omega
          have elem : ∀ i, i < len → (((vs.drop (off * sz)).take (len * sz)).drop (i * sz)).take sz = (vs.drop ((off + i) * sz)).take sz := by
            intro i hi
            have : (i + 1) * sz ≤ len * sz := Nat.mul_le_mul_right _ hi
            rw [Nat.add_mul, Nat.one_mul] at this
            rw [List.drop_take, List.take_take, List.drop_drop, ← Nat.add_mul, Nat.min_eq_left (by omega)]
          refine ⟨len, _, (vs.drop (off * sz)).take (len * sz), hk3, some_ A _ len _ hlu ?_ ?_, fun i hi => ?_⟩
          · intro y hy
            obtain ⟨j, hj⟩ := List.getElem?_of_mem hy
            have hjl : j < len * sz := by rw [← hlu]; exact (List.getElem?_eq_some_iff.1 hj).1
            have hsz : 0 < sz := Nat.pos_of_ne_zero (by rintro rfl; simp at hjl)
            have hq : j / sz < len := (Nat.div_lt_iff_lt_mul hsz).2 hjl
            have := (hds (off + j / sz) (by omega)).one1 y (by
              rw [← elem _ hq]
              refine List.mem_of_getElem? (i := j % sz) ?_
              rw [List.getElem?_take_of_lt (Nat.mod_lt _ hsz), List.getElem?_drop]
              rw [← hj]; congr 1
              rw [Nat.mul_comm]; exact Nat.div_add_mod j sz)
            cases y <;> simp [one1] at this <;> rfl
          · intro j v hj
            have hjl : j < len * sz := by rw [← hlu]; exact (List.getElem?_eq_some_iff.1 hj).1
            have hl0 : 0 < len := Nat.pos_of_ne_zero (by rintro rfl; simp at hjl)
            rw [hA (.inl hl0), addr_add, cell_of hh, List.getElem?_toArray]
            rw [List.getElem?_take_of_lt hjl, List.getElem?_drop] at hj
            exact hj
          · rw [elem i hi]; exact hds (off + i) (by omega)
    · exact hk2.elim
  · exact hc.elim
end
end Sg
end Go.Proofs.YtfkboondffejaaaGreatDoor
