/- The symbolic executor, part P: soundness of append; all operations. -/
import Derived.Test.YtfkboondffejaaaGreatDoorE01
import Derived.Laws.StructEq
import Derived.ChangeKeysEq
set_option linter.all false
set_option linter.unusedVariables false
set_option linter.unusedSimpArgs false
set_option linter.deprecated false
set_option linter.unusedVariables false
set_option linter.unusedSimpArgs false
namespace Go.Proofs.YtfkboondffejaaaGreatDoor
namespace Sg
variable {P : Program}
section
variable {G : Gl} {ρ : Env} {hI : Hp} {hF : Fm} {w : World} {S : SH} {nx : Nat} {fr : FT} {a : Act} {o : Oper} {K : SV → SH → Nat → Prop} {Q : Exit → Act → World → Prop}
theorem exec_append {x y : Operand} {args : Array Operand} {ts : Array TypeId} {t tx : TypeId} {v : Value} {w' : World} (ho : o.op = .call { callee := .builtin .append, args, argTypes := ts }) (ha : args.toList = [x, y]) (hT : ts.toList = [t, tx])
    (h : (Builtin.append_ #[t, tx] o.type #[a.eval x, a.eval y]).run P w = .ok v w') : (execOp a.eval o).run P w = .ok (.value v) w' := by
  have hargs : args = #[x, y] := by cases args; simp_all
  have hts : ts = #[t, tx] := by cases ts; simp_all
  subst hargs hts
  simp only [execOp, ho, resolve]
  rw [run_ok (run_pure _ w)]
  simp only [invoke, builtin, List.map_toArray, List.map_cons, List.map_nil]
  exact exec_v h
theorem run_room {t tx ty e : TypeId} {i : TypeInfo} (ht : P.underlying t = some (.slice e)) (hi : P.info? e = some i) {b off sLen sCap : Nat} {x : Value} {n : Nat} {news : List Value} (hs : Src P i.size tx x n news w)
    (hroom : sLen + n ≤ sCap) {w' : World} (hst : (storeCells ⟨b, off + sLen * i.size, none⟩ news 0).run P w = .ok () w') :
    (Builtin.append_ #[t, tx] ty #[.slice (some ⟨b, off, none⟩) sLen sCap, x]).run P w = .ok (.slice (some ⟨b, off, none⟩) (sLen + n) sCap) w' := by
  rcases hs.kind with ⟨e', hk⟩ | hk <;> simp [Builtin.append_, run_underlying ht, run_underlying hk, sizeOf, typeInfo, hi, hs.len, hroom, hs.cells, Addr.add_lit, hst]
theorem run_room0 {t tx ty e : TypeId} {i : TypeInfo} (ht : P.underlying t = some (.slice e)) (hi : P.info? e = some i) {x : Value} (hs : Src P i.size tx x 0 [] w) :
    (Builtin.append_ #[t, tx] ty #[.slice none 0 0, x]).run P w = .ok (.slice none 0 0) w := by
  rcases hs.kind with ⟨e', hk⟩ | hk <;> simp [Builtin.append_, run_underlying ht, run_underlying hk, sizeOf, typeInfo, hi, hs.len, hs.cells]
structure SrcG (P : Program) (t tx e : TypeId) (i : TypeInfo) (z x : Value) (n : Nat) (news : List Value) (w : World) : Prop where
  room : ∀ (ty : TypeId) (b off sLen sCap : Nat) (w' : World), sLen + n ≤ sCap → (storeCells ⟨b, off + sLen * i.size, none⟩ news 0).run P w = .ok () w' →
    (Builtin.append_ #[t, tx] ty #[.slice (some ⟨b, off, none⟩) sLen sCap, x]).run P w = .ok (.slice (some ⟨b, off, none⟩) (sLen + n) sCap) w'
  room0 : n = 0 → ∀ ty : TypeId, (Builtin.append_ #[t, tx] ty #[.slice none 0 0, x]).run P w = .ok (.slice none 0 0) w
  grow : ∀ (ty : TypeId) (base : Option Addr) (sLen sCap : Nat) (olds : List Value), (Builtin.firstCells i.size sLen (.slice base sLen sCap)).run P w.drew = .ok olds.toArray w.drew → sCap < sLen + n → ((sLen + n : Nat) : Int) ≤ 9223372036854775807 →
    Builtin.nextslicecap (sLen + n) sCap * i.bytes ≤ 281474976710656 → (Builtin.append_ #[t, tx] ty #[.slice base sLen sCap, x]).run P w =
      .ok (.slice (some ⟨w.heap.size, 0, none⟩) (sLen + n) (grownCap w (sLen + n) sCap e)) (w.drew.alloc (.cells ((olds ++ news).toArray ++ Builtin.zeroCells z.cells (grownCap w (sLen + n) sCap e - (sLen + n))) e))
  newsLen : news.length = n * i.size
  one : ∀ u ∈ news, u.oneCell' = true
abbrev SrcA (P : Program) (sz : Nat) (tx e : TypeId) (z x : Value) (n : Nat) (news : List Value) (w : World) : Prop :=
  ∀ (t : TypeId) (i : TypeInfo), P.underlying t = some (.slice e) → P.info? e = some i → i.zero = some z → i.size = sz → SrcG P t tx e i z x n news w
theorem srcAll {sz : Nat} {tx e : TypeId} {z x : Value} {n : Nat} {news : List Value} (h : Src P sz tx x n news w) : SrcA P sz tx e z x n news w := fun t i ht hi hz hs => by
  subst hs
  refine ⟨fun ty b off sLen sCap w' hr hst => run_room ht hi h hr hst, fun h0 ty => ?_, fun ty base sLen sCap olds hold hg h63 hfit => run_append_grow_src (P := P) w t tx ty e i z ht hi hz base sLen sCap olds hold x n news h hg h63 hfit, h.newsLen, h.one⟩
  subst h0
  have hnil : news = [] := List.length_eq_zero_iff.1 (by simpa using h.newsLen)
  subst hnil
  exact run_room0 ht hi h
structure AppC (P : Program) (a : Act) (o : Oper) (x y : Operand) (tx e : TypeId) (sz b : Nat) (z : Value) : Prop where
  op : ∃ args ts t, o.op = .call { callee := .builtin .append, args, argTypes := ts } ∧ args.toList = [x, y] ∧ ts.toList = [t, tx] ∧ ElemS P t e sz b z
theorem grown {x y : Operand} {tx e : TypeId} {sz b : Nat} {z : Value} (A : AppC P a o x y tx e sz b z) {base : Option Addr} {sLen sCap : Nat} {olds : List Value} (hx : a.eval x = .slice base sLen sCap) (hol : olds.length = sLen * sz)
    (hold : (Builtin.firstCells sz sLen (.slice base sLen sCap)).run P w.drew = .ok olds.toArray w.drew) {n : Nat} {news : List Value} (hsrc : SrcA P sz tx e z (a.eval y) n news w) (hg : sCap < sLen + n) (hb : b * (sLen + n) ≤ 140737488355328) {ob : SObj} {S0 : SH}
    (hsat : Sat ρ hI hF w S0 nx) (hob : ∀ ρ' rest cap, ρ.sub ρ' → cap = (sLen + n) * sz + rest.length → ODen ρ' hI ob ⟨w.heap.size, cap, false⟩ (Hp.one w.heap.size (.cells (olds ++ news ++ rest).toArray e)))
    (hk : K (.sl sz nx 0 (sLen + n)) ((nx, ob) :: S0) (nx + 1)) : o.wp P a w (Lands nx ρ hI hF a o.dst K) Q := by
  obtain ⟨args, ts, t, ho, ha, hT, E⟩ := A.op
  obtain ⟨i, hi, rfl, rfl, hz⟩ := E.i
  have hsmall : sLen + n ≤ i.bytes * (sLen + n) := Nat.le_mul_of_pos_left _ E.b
  have hfit := growslice_fits hg (bytes := i.bytes) (by rw [Nat.mul_comm]; exact hb)
  have hr := (hsrc t i E.t hi hz rfl).grow o.type base sLen sCap olds hold hg (by omega) hfit
  have hge := grownCap_ge w (sLen + n) sCap e
  generalize grownCap w (sLen + n) sCap e = g at hr hge
  have hzl : (Builtin.zeroCells z.cells (g - (sLen + n))).toList.length = (g - (sLen + n)) * i.size := by simp [size_zeroCells, E.zs]
  have hcells : (olds ++ news).toArray ++ Builtin.zeroCells z.cells (g - (sLen + n)) = (olds ++ news ++ (Builtin.zeroCells z.cells (g - (sLen + n))).toList).toArray := by
    apply Array.ext'; simp
  generalize Builtin.zeroCells z.cells (g - (sLen + n)) = zc at hr hzl hcells
  rw [hcells] at hr
  have hcap : g * i.size = (sLen + n) * i.size + zc.toList.length := by
    rw [hzl, ← Nat.add_mul]; congr 1; omega
  obtain ⟨r, hs⟩ := hsat.drew.new (o := ob) (ob := .cells (olds ++ news ++ zc.toList).toArray e) (cap := g * i.size) (fun ρ' r => hob ρ' zc.toList _ r hcap)
  refine wp_value (exec_append ho ha hT (by rw [hx]; exact hr)) ⟨_, _, _, _, _, _, rfl, hk, ?_, hs, r, Nat.le_succ _, Hp.sub.refl _⟩
  have hsd := SDen.sl (hI := hI) i.size nx 0 (sLen + n) ⟨w.heap.size, g * i.size, false⟩ ⟨w.heap.size, 0, none⟩ (Env.set_self ρ nx _) rfl (by intro _; simp) (by simp only; rw [Nat.mul_div_cancel _ E.sz]; omega)
  simp only [Nat.mul_div_cancel _ E.sz, Nat.sub_zero] at hsd
  exact hsd
theorem grown0 {x y : Operand} {tx e : TypeId} {sz b : Nat} {z : Value} (A : AppC P a o x y tx e sz b z) (hx : a.eval x = .slice none 0 0) {n : Nat} {news : List Value} (hsrc : SrcA P sz tx e z (a.eval y) n news w) (hb : b * n ≤ 140737488355328) {ob : SObj} {S0 : SH}
    (hsat : Sat ρ hI hF w S0 nx) (hob : ∀ ρ' rest cap, ρ.sub ρ' → cap = n * sz + rest.length → ODen ρ' hI ob ⟨w.heap.size, cap, false⟩ (Hp.one w.heap.size (.cells (news ++ rest).toArray e))) (hob0 : n = 0 → ∀ ρ', ODen ρ' hI ob ⟨0, 0, true⟩ Hp.emp)
    (hk : K (.sl sz nx 0 n) ((nx, ob) :: S0) (nx + 1)) : o.wp P a w (Lands nx ρ hI hF a o.dst K) Q := by
  by_cases hn : n = 0
  · subst hn
    obtain ⟨args, ts, t, ho, ha, hT, E⟩ := A.op
    obtain ⟨i, hi, rfl, rfl, hz⟩ := E.i
    have hg := hsrc t i E.t hi hz rfl
    obtain ⟨r, hs⟩ := hsat.newNil (o := ob) (hob0 rfl)
    exact wp_value (exec_append ho ha hT (by rw [hx]; exact hg.room0 rfl _)) ⟨_, _, _, _, _, _, rfl, hk, .slnil _ _ _ (Env.set_self _ _ _) rfl, hs, r, Nat.le_succ _, Hp.sub.refl _⟩
  · refine grown A (olds := []) hx (by simp) (run_firstCells_none w.drew sz 0 0 0) hsrc (by omega) (by simpa using hb) hsat (fun ρ' rest cap r hc => ?_) (by simpa using hk)
    have := hob ρ' rest cap r (by simpa using hc)
    simpa using this
theorem AppC.elem {x y : Operand} {tx e : TypeId} {sz b : Nat} {z : Value} (A : AppC P a o x y tx e sz b z) : 0 < sz ∧ 0 < b := by obtain ⟨_, _, _, _, _, _, E⟩ := A.op; exact ⟨E.sz, E.b⟩
theorem onto {x y : Operand} {tx e : TypeId} {sz b : Nat} {z : Value} (A : AppC P a o x y tx e sz b z) {en : Ent} {m len n : Nat} {old ob : SObj} {c news : List Value} {T : TypeId} {fz : Nat × Nat} (hx : a.eval x = .slice (some ⟨en.b, 0, none⟩) len (en.cap / sz - 0))
    (hgt : SH.get S m = some old) (he : ρ m = some en) (hna : ∀ ns A, old ≠ .abs ns A) (hnil : en.nil = false) (hh : w.heap[en.b]? = some (.cells c.toArray T fz)) (hcap : en.cap = c.length) (hf : Unfrozen en.cap fz) (hlen : len * sz ≤ c.length)
    (hsrc : SrcA P sz tx e z (a.eval y) n news w) (hb : b * (len + n) ≤ 140737488355328) (hsat : Sat ρ hI hF w S nx)
    (hob : ∀ ρ' b cap rest T fz, ρ.sub ρ' → cap = (len + n) * sz + rest.length → Unfrozen cap fz → ODen ρ' hI ob ⟨b, cap, false⟩ (Hp.one b (.cells (c.take (len * sz) ++ news ++ rest).toArray T fz)))
    (hk : K (.sl sz nx 0 (len + n)) ((nx, ob) :: SH.del S m) (nx + 1)) : o.wp P a w (Lands nx ρ hI hF a o.dst K) Q := by
  have hsz := A.elem.1
  by_cases hroom : len + n ≤ en.cap / sz - 0
  · obtain ⟨args, ts, t, ho, ha, hT, E⟩ := A.op
    obtain ⟨i, hi, rfl, rfl, hz⟩ := E.i
    have hfit : (len + n) * i.size ≤ c.length := by
      rw [← hcap]; exact Nat.le_trans (Nat.mul_le_mul_right _ (by simpa using hroom)) (Nat.div_mul_le_self _ _)
    rw [Nat.add_mul] at hfit
    have hsrc := hsrc t i E.t hi hz rfl
    have hst := run_storeCells (P := P) news 0 (len * i.size) c w hh (by rw [hsrc.newsLen]; omega) (by rw [← hcap]; exact hf) (fun u hu => by have := hsrc.one u hu; cases u <;> simp [Value.oneCell'] at this <;> rfl)
    have hr := hsrc.room o.type en.b 0 len _ _ hroom (by simpa using hst)
    have hspl : splice1 c (len * i.size + 0) news = c.take (len * i.size) ++ news ++ c.drop (len * i.size + n * i.size) := by simp [splice1, hsrc.newsLen]
    simp only [Nat.add_zero] at hspl
    rw [hspl] at hr
    have hlc : (c.take (len * i.size) ++ news ++ c.drop (len * i.size + n * i.size)).length = c.length := by simp [hsrc.newsLen]; omega
    obtain ⟨eb, ecap, enil⟩ := en
    simp only at hnil hcap hf hh hx hr hroom he
    subst hnil
    have hod := fun ρ' (r : ρ.sub ρ') => hob ρ' eb ecap (c.drop (len * i.size + n * i.size)) T fz r (by rw [List.length_drop, Nat.add_mul]; omega) hf
    have hs1 := hsat.upd_any (ob' := ob) hgt he hna rfl (setRow_only w eb (c.take (len * i.size) ++ news ++ c.drop (len * i.size + n * i.size)).toArray) (setRow_heap w eb c.toArray _ T fz hh) (hod ρ (Env.sub.refl _))
    obtain ⟨r, hs2⟩ := hs1.move (SH.get_put hgt) he
    rw [SH.del_put] at hs2
    refine wp_value (exec_append ho ha hT (by rw [hx]; exact hr)) ⟨_, _, _, _, _, _, rfl, hk, ?_, hs2, r, Nat.le_succ _, Hp.sub.refl _⟩
    exact SDen.sl i.size nx 0 (len + n) ⟨eb, ecap, false⟩ ⟨eb, 0, none⟩ (Env.set_self ρ nx _) rfl (by intro _; simp) (by simpa using hroom)
  · have hol : (c.take (len * sz)).length = len * sz := by simp; omega
    refine grown A (olds := c.take (len * sz)) hx hol ?_ hsrc (by omega) hb (hsat.drop hgt) (fun ρ' rest cap r hc => hob ρ' _ cap rest e (0, 0) r hc (unfrozen0 _)) hk
    refine run_firstCells_some w.drew sz len _ len _ _ hol (fun j v hj => ?_)
    have hjl : j < len * sz := by rw [← hol]; exact (List.getElem?_eq_some_iff.1 hj).1
    rw [addr_add, World.cell?_drew, cell_of hh, List.getElem?_toArray, Nat.zero_add]
    rw [List.getElem?_take_of_lt hjl] at hj
    exact hj
theorem ElemB.s {t e : TypeId} (h : ElemB P t e) : ElemS P t e 1 1 (.int .u8 0) := by
  obtain ⟨i, h1, h2, h3, h4⟩ := h.i
  exact ⟨h.t, ⟨i, h1, h2, h3, h4⟩, rfl, by omega, by omega⟩
def srcT (P : Program) (t : TypeId) : Bool := (sliceE P t).isSome || strT P t
theorem srcT_of {t : TypeId} (h : srcT P t = true) : (∃ e', P.underlying t = some (.slice e')) ∨ P.underlying t = some .string := by
  unfold srcT at h
  rcases Bool.or_eq_true_iff.1 h with h | h
  · obtain ⟨e, he⟩ := Option.isSome_iff_exists.1 h; exact .inl ⟨e, sliceE_of he⟩
  · right
    unfold strT at h
    split at h
    · assumption
    · cases h
theorem zeroBytes (n : Nat) : Builtin.zeroCells (Value.int .u8 0).cells n = ((List.replicate n (0 : UInt8)).map bv).toArray := by
  apply Array.ext'
  rw [zcells _ _ 1 rfl]
  simp only [List.map_replicate]
  induction n with
  | zero => rfl
  | succ n ih =>
    simp only [List.replicate_succ, List.flatten_cons, ih]
    rfl
theorem src_zeros {tn e : TypeId} {kn k : IntKind} {n : Nat} (htn : P.underlying tn = some (.int kn)) (hn : n ≤ 140737488355328) {i0 : TypeInfo} (hi0 : P.info? e = some i0) (hb0 : i0.bytes = 1) : SrcA P 1 tn e (.int .u8 0) (.int k (n : Int)) n ((List.replicate n 0).map bv) w := by
  intro t i ht hi hz hs
  rw [hi0] at hi; cases hi
  have hw : IntKind.i64.wrap (n : Int) = n := by rw [IntKind.wrap_i64]; omega
  have hneg : ¬ ((n : Int) < 0) := by omega
  have h48 : ¬ (281474976710656 < (n : Int)) := by omega
  have hw0 : IntKind.i64.wrap 0 = 0 := by decide
  refine ⟨?_, ?_, ?_, by simp [hs], fun u hu => by obtain ⟨b, _, rfl⟩ := List.mem_map.1 hu; rfl⟩
  · intro ty b off sLen sCap w' hr hst
    rw [hs, Nat.mul_one] at hst
    by_cases h0 : n = 0
    · subst h0
      simp only [List.replicate_zero, List.map_nil] at hst
      have hr' : sLen ≤ sCap := by omega
      simp [Builtin.append_, run_underlying ht, run_underlying htn, sizeOf, typeInfo, zeroValue, hi0, hz, hb0, hs, asInt, asIntOf, hw0, Addr.add_lit, hst, hr']
    · simp [-List.map_replicate, Builtin.append_, run_underlying ht, run_underlying htn, sizeOf, typeInfo, zeroValue, hi0, hz, hb0, hs, asInt, asIntOf, hw, hneg, h48, h0, hr, Addr.add_lit, zeroBytes, hst]
  · intro h0 ty
    subst h0
    simp [Builtin.append_, run_underlying ht, run_underlying htn, sizeOf, typeInfo, zeroValue, hi0, hz, hb0, hs, asInt, asIntOf, hw0]
  · intro ty base sLen sCap olds hold hg h63 hfit
    rw [hs] at hold
    have hn' : ¬ (sLen + n ≤ sCap) := by omega
    have h63' : ¬ (9223372036854775807 < ((sLen : Int) + (n : Int))) := by omega
    have h48' : ¬ (281474976710656 < Builtin.nextslicecap (sLen + n) sCap) := by rw [hb0] at hfit; omega
    by_cases h0 : n = 0
    · subst h0
      have hn2 : ¬ (sLen ≤ sCap) := by omega
      have h63'' : ¬ (9223372036854775807 < (sLen : Int)) := by omega
      simp only [Nat.add_zero] at h48'
      simp [Builtin.append_, run_underlying ht, run_underlying htn, sizeOf, typeInfo, zeroValue, hi0, hz, hb0, hs, asInt, asIntOf, hw0, hn2, h63'', h48', Question.forced, hold, newRow, grownCap]
    · simp [-List.map_replicate, Builtin.append_, run_underlying ht, run_underlying htn, sizeOf, typeInfo, zeroValue, hi0, hz, hb0, hs, asInt, asIntOf, hw, hneg, h48, h0, hn', h63', h48', Question.forced, hold, newRow, grownCap, zeroBytes]
theorem appb_core {va : SV} {new : List UInt8} {x y : Operand} {tx e : TypeId} (C : Cx G ρ hI hF w S nx fr a) (A : AppC P a o x y tx e 1 1 (.int .u8 0)) (hda : SDen ρ hI va (a.eval x)) (hsrc : SrcA P 1 tx e (.int .u8 0) (a.eval y) new.length (new.map bv) w) (hk : appbK S nx va new K) :
    o.wp P a w (Lands nx ρ hI hF a o.dst K) Q := by
  unfold appbK at hk
  generalize hu : a.eval x = u at hda
  split at hk
  · obtain ⟨hb, hk2⟩ := vc_iff.1 hk
    cases hda with | iv _ _ hda => cases hda with | nilsl =>
    exact grown0 A hu hsrc (by omega) C.sat (fun ρ' rest cap r hc => by
      have := ODen.bytes (ρ := ρ') (hI := hI) new ⟨w.heap.size, cap, false⟩ rest e (0, 0) rfl (by simpa using hc) (unfrozen0 _)
      exact this) (fun h0 ρ' => by
      have : new = [] := List.length_eq_zero_iff.1 h0
      subst this; exact .bytesNil _ rfl) hk2
  · rename_i sz n off len
    obtain ⟨ob, hob, hk2⟩ := SH.getK_iff.1 hk
    split at hk2
    · rename_i l
      obtain ⟨⟨rfl, rfl, rfl, hb⟩, hk3⟩ := vc_iff.1 hk2
      have hk4 := SH.delK_iff.1 hk3
      clear hk hk2 hk3
      obtain ⟨en, hen, hcase⟩ := C.sat.bytes hob
      rcases hcase with ⟨hn, h0⟩ | ⟨rest, T, fz, hh, hnil, hcap, hf⟩
      · subst h0
        cases hda with
        | sl _ _ _ _ e' A' he' hn' hA hle => rw [hen] at he'; cases he'; rw [hn] at hn'; cases hn'
        | slnil _ _ e' he' hn' =>
          exact grown0 A hu hsrc (by simp at hb; omega) (C.sat.drop hob) (fun ρ' rest cap r hc => by
            have := ODen.bytes (ρ := ρ') (hI := hI) new ⟨w.heap.size, cap, false⟩ rest e (0, 0) rfl (by simpa using hc) (unfrozen0 _)
            exact this) (fun h0 ρ' => by
            have : new = [] := List.length_eq_zero_iff.1 h0
            subst this; exact .bytesNil _ rfl) (by simpa using hk4)
      · have hv : u = .slice (some ⟨en.b, 0, none⟩) l.length (en.cap / 1 - 0) := by
          generalize hl : l.length = len at hda
          cases hda with
          | slnil _ _ e' he' hn' => rw [hen] at he'; cases he'; rw [hnil] at hn'; cases hn'
          | sl _ _ _ _ e' A' he' hn' hA hle =>
            rw [hen] at he'; cases he'
            rw [hA (.inr rfl)]
        subst hv
        refine onto A hu hob hen (by intro _ _ q; cases q) hnil hh (by simp [hcap]) hf (by simp) hsrc (by omega) C.sat (fun ρ' b cap rest' T fz r hc hfz => ?_) hk4
        have := ODen.bytes (ρ := ρ') (hI := hI) (l ++ new) ⟨b, cap, false⟩ rest' T fz rfl (by simp; simp at hc; omega) hfz
        have e2 : (l.map bv ++ rest).take (l.length * 1) = l.map bv := by
          rw [Nat.mul_one, List.take_append_of_le_length (by simp), List.take_of_length_le (by simp)]
        rw [e2, ← List.map_append]
        exact this
    · exact hk2.elim
  · rename_i sz n off len cap
    obtain ⟨ob, hob, hk2⟩ := SH.getK_iff.1 hk
    split at hk2
    · rename_i cs
      obtain ⟨en, vs, T, fz, hen, hds, hh, hnil, hcap, hf⟩ := C.sat.cells hob
      obtain ⟨r, hk3, hr, hlr⟩ := dropK_sound hds hk2
      split at hk3
      · rename_i m l tl
        obtain ⟨⟨rfl, hle, rfl, hpos, hb⟩, hk4⟩ := vc_iff.1 hk3
        cases hda with | slx _ _ _ _ _ e' he' hlc =>
        rw [hen] at he'; cases he'
        generalize hvd : vs.drop off = vd at hr
        cases hr with
        | one _ _ _ _ hz => exact (no_sbs hz).elim
        | sbs _ _ _ vs' hl hs' =>
          have hlen : (sub l 0 len).length = len := by simp [sub]; omega
          refine grown A (olds := (sub l 0 len).map bv) hu (by simp [hlen]) ?_ hsrc (by omega) (by omega) C.sat (fun ρ' rest cap r hc => ?_) hk4
          · refine run_firstCells_some w.drew 1 len _ len _ _ (by simp [hlen]) fun j v hj => ?_
            simp only [List.getElem?_map, Option.map_eq_some_iff] at hj
            obtain ⟨y, hy, rfl⟩ := hj
            have hj : j < len := by rw [← hlen]; exact (List.getElem?_eq_some_iff.1 hy).1
            rw [addr_add, World.cell?_drew, cell_of hh]
            unfold sub at hy
            rw [List.drop_zero, List.getElem?_take_of_lt hj] at hy
            simp only [List.getElem?_toArray]
            rw [← List.getElem?_drop, hvd, List.getElem?_append_left (by simp; omega), List.getElem?_map, hy]
            rfl
          · have := ODen.bytes (ρ := ρ') (hI := hI) (sub l 0 len ++ new) ⟨w.heap.size, cap, false⟩ rest e (0, 0) rfl (by simp [hlen]; simp at hc; omega) (unfrozen0 _)
            rw [← List.map_append]
            exact this
      · exact hk3.elim
    · exact hk2.elim
  · exact hk.elim
theorem h_appb {x y : Operand} {args : Array Operand} {ts : Array TypeId} {t tx e : TypeId} {c d : Opd} (C : Cx G ρ hI hF w S nx fr a) (ho : o.op = .call { callee := .builtin .append, args, argTypes := ts }) (ha : args.toList = [x, y]) (hT : ts.toList = [t, tx])
    (E : ElemB P t e) (hx : srcT P tx = true) (h1 : chkOpd x c = true) (h2 : chkOpd y d = true) (h : hop P G S nx fr (.appb c d) K) : o.wp P a w (Lands nx ρ hI hF a o.dst K) Q := by
  obtain ⟨va, hva, hda⟩ := evK_sound h1 C.g C.f (show evK G fr c _ from h)
  obtain ⟨vv, hvv, hdv⟩ := evK_sound h2 C.g C.f hva
  obtain ⟨new, hk, hsrc⟩ := src_bytes C.sat (srcT_of hx) hdv hvv
  have A : AppC P a o x y tx e 1 1 (.int .u8 0) := ⟨args, ts, t, ho, ha, hT, E.s⟩
  exact appb_core C A hda (srcAll hsrc) hk
theorem h_appz {x y : Operand} {args : Array Operand} {ts : Array TypeId} {t tx e : TypeId} {c d : Opd} (C : Cx G ρ hI hF w S nx fr a) (ho : o.op = .call { callee := .builtin .append, args, argTypes := ts }) (ha : args.toList = [x, y]) (hT : ts.toList = [t, tx])
    (E : ElemB P t e) (hx : (intT P tx).isSome = true) (h1 : chkOpd x c = true) (h2 : chkOpd y d = true) (h : hop P G S nx fr (.appz c d) K) : o.wp P a w (Lands nx ρ hI hF a o.dst K) Q := by
  obtain ⟨va, hva, hda⟩ := evK_sound h1 C.g C.f (show evK G fr c _ from h)
  obtain ⟨vv, hvv, hdv⟩ := evK_sound h2 C.g C.f hva
  obtain ⟨kn, hkn⟩ := Option.isSome_iff_exists.1 hx
  have A : AppC P a o x y tx e 1 1 (.int .u8 0) := ⟨args, ts, t, ho, ha, hT, E.s⟩
  obtain ⟨i0, hi0, _, hb0, _⟩ := E.i
  split at hvv
  · rename_i k m
    obtain ⟨⟨h0, hm⟩, hk⟩ := vc_iff.1 hvv
    have hy : a.eval y = .int k (m.toNat : Int) := by
      generalize a.eval y = u at hdv
      cases hdv with | iv _ _ hd => cases hd with | int => rw [Int.toNat_of_nonneg h0]
    refine appb_core C A hda ?_ hk
    rw [hy, List.length_replicate]
    exact src_zeros (intT_of hkn) (by omega) hi0 hb0
  · exact hvv.elim
theorem joinE0 (E F : Nat → List SV) : joinE 0 E F = F := rfl
theorem joinE_app {n m sz : Nat} {E F : Nat → List SV} {us ws : List Value} (hl : us.length = n * sz) (h1 : ∀ i, i < n → SDens ρ hI (E i) ((us.drop (i * sz)).take sz)) (h2 : ∀ i, i < m → SDens ρ hI (F i) ((ws.drop (i * sz)).take sz)) (hw : ws.length = m * sz) (rest : List Value) :
    ∀ i, i < n + m → SDens ρ hI (joinE n E F i) (((us ++ ws ++ rest).drop (i * sz)).take sz) := by
  intro i hi
  unfold joinE
  by_cases hn : i < n
  · rw [blt_of hn, cond_true]
    have hle : (i + 1) * sz ≤ n * sz := Nat.mul_le_mul_right _ hn
    rw [Nat.add_mul, Nat.one_mul] at hle
    rw [List.append_assoc, List.drop_append_of_le_length (by omega), List.take_append_of_le_length (by simp; omega)]
    exact h1 i hn
  · have : Nat.blt i n = false := by
      cases hb : Nat.blt i n with
      | false => rfl
      | true => exact absurd (of_blt hb) hn
    rw [this, cond_false]
    obtain ⟨k, rfl⟩ : ∃ k, i = n + k := ⟨i - n, by omega⟩
    have hle : (k + 1) * sz ≤ m * sz := Nat.mul_le_mul_right _ (by omega)
    rw [Nat.add_mul, Nat.one_mul] at hle
    rw [Nat.add_sub_cancel_left, Nat.add_mul, ← hl, List.append_assoc, List.drop_append, List.drop_of_length_le (by omega), List.nil_append, show us.length + k * sz - us.length = k * sz by omega,
      List.drop_append_of_le_length (by omega), List.take_append_of_le_length (by simp; omega)]
    exact h2 k (by omega)
theorem h_app {x y : Operand} {args : Array Operand} {ts : Array TypeId} {t tx e : TypeId} {sz b : Nat} {z : Value} {c d : Opd} (C : Cx G ρ hI hF w S nx fr a) (ho : o.op = .call { callee := .builtin .append, args, argTypes := ts }) (ha : args.toList = [x, y]) (hT : ts.toList = [t, tx])
    (E : ElemS P t e sz b z) (hx : srcT P tx = true) (h1 : chkOpd x c = true) (h2 : chkOpd y d = true) (h : hop P G S nx fr (.app sz b c d) K) : o.wp P a w (Lands nx ρ hI hF a o.dst K) Q := by
  obtain ⟨va, hva, hda⟩ := evK_sound h1 C.g C.f (show evK G fr c _ from h)
  obtain ⟨vv, hvv, hdv⟩ := evK_sound h2 C.g C.f hva
  obtain ⟨m, F, us, hk, hsrc, hF'⟩ := src_elems C.sat (srcT_of hx) hdv hvv
  have A : AppC P a o x y tx e sz b z := ⟨args, ts, t, ho, ha, hT, E⟩
  clear hvv hva h
  generalize hu : a.eval x = u at hda
  have fresh : ∀ (ρ' : Env) (rest : List Value) (cap : Nat), ρ.sub ρ' → cap = m * sz + rest.length → ODen ρ' hI (.arr sz m F) ⟨w.heap.size, cap, false⟩ (Hp.one w.heap.size (.cells (us ++ rest).toArray e)) := by
    intro ρ' rest cap r hc
    refine .arr _ _ _ _ (us ++ rest) e (0, 0) (fun i hi => ?_) (by simp [hsrc.newsLen]) rfl (by simp [hsrc.newsLen, hc]) (unfrozen0 _)
    have := joinE_app (n := 0) (m := m) (E := fun _ => []) (us := []) (by simp) (fun i hi => by omega) (fun i hi => (hF' i hi).mono r (Hp.sub.refl _)) hsrc.newsLen rest i (by omega)
    rw [joinE0] at this
    simpa using this
  split at hk
  · obtain ⟨hb, hk2⟩ := vc_iff.1 hk
    cases hda with | iv _ _ hda => cases hda with | nilsl =>
    exact grown0 A hu (srcAll hsrc) hb C.sat fresh (fun h0 ρ' => by subst h0; exact .arrNil _ _ _ rfl) hk2
  · rename_i sz' n off len
    obtain ⟨ob, hob, hk2⟩ := SH.getK_iff.1 hk
    split at hk2
    · rename_i sz2 len2 E'
      obtain ⟨⟨rfl, rfl, rfl, rfl, hb⟩, hk3⟩ := vc_iff.1 hk2
      have hk4 := SH.delK_iff.1 hk3
      clear hk hk2 hk3
      obtain ⟨en, hen, hcase⟩ := C.sat.arr hob
      rcases hcase with ⟨hn, h0⟩ | ⟨vs, T, fz, hh, hds, hlv, hnil, hcap, hf⟩
      · subst h0
        cases hda with
        | sl _ _ _ _ e' A' he' hn' hA hle => rw [hen] at he'; cases he'; rw [hn] at hn'; cases hn'
        | slnil _ _ e' he' hn' =>
          refine grown0 A hu (srcAll hsrc) (by simpa using hb) (C.sat.drop hob) (ob := .arr sz (0 + m) (joinE 0 E' F)) (fun ρ' rest cap r hc => ?_) (fun h0 ρ' => by subst h0; exact .arrNil _ _ _ rfl) (by simpa using hk4)
          have := fresh ρ' rest cap r hc
          rw [joinE0, Nat.zero_add]; exact this
      · have hv : u = .slice (some ⟨en.b, 0, none⟩) len (en.cap / sz - 0) := by
          cases hda with
          | slnil _ _ e' he' hn' => rw [hen] at he'; cases he'; rw [hnil] at hn'; cases hn'
          | sl _ _ _ _ e' A' he' hn' hA hle =>
            rw [hen] at he'; cases he'
            rw [hA (.inr rfl)]
            simp
        subst hv
        refine onto A hu hob hen (by intro _ _ q; cases q) hnil hh hcap hf hlv (srcAll hsrc) hb C.sat (fun ρ' b' cap rest' T fz r hc hfz => ?_) hk4
        have hlt : (vs.take (len * sz)).length = len * sz := by simp; omega
        refine .arr _ _ _ _ _ T fz (fun i hi => joinE_app hlt (fun j hj => ?_) (fun j hj => (hF' j hj).mono r (Hp.sub.refl _)) hsrc.newsLen rest' i hi) (by simp [hsrc.newsLen, Nat.add_mul]; omega) rfl (by rw [List.length_append, List.length_append, hlt, hsrc.newsLen, hc, Nat.add_mul]) hfz
        have hle : (j + 1) * sz ≤ len * sz := Nat.mul_le_mul_right _ hj
        rw [Nat.add_mul, Nat.one_mul] at hle
        rw [List.drop_take, List.take_take, Nat.min_eq_left (by omega)]
        exact (hds j hj).mono r (Hp.sub.refl _)
    · exact hk2.elim
  · exact hk.elim
end
end Sg
end Go.Proofs.YtfkboondffejaaaGreatDoor
set_option linter.unusedVariables false
set_option linter.unusedSimpArgs false
namespace Go.Proofs.YtfkboondffejaaaGreatDoor
namespace Sg
variable {P : Program}
def flatFs (P : Program) (F : TypeId → Option (List LK)) : List Field → Nat → Option (List LK)
  | [], _ => some []
  | f :: fs, off => if f.name = "_" ∨ f.offset ≠ off then none else match F f.type with
    | some l => if sizeT P f.type = some l.length then (flatFs P F fs (off + l.length)).map (l ++ ·) else none
    | none => none
def flatT (P : Program) : Nat → TypeId → Option (List LK)
  | 0, _ => none
  | d + 1, t => match P.underlying t with
    | some .bool => some [.b]
    | some (.int k) => some [.i k]
    | some .string => some [.s]
    | some (.array n e) => match flatT P d e with
      | some l => if sizeT P e = some l.length then some (List.replicate n l).flatten else none
      | none => none
    | some (.struct fs) => if P.stoodInHeld t then none else flatFs P (flatT P d) fs.toList 0
    | _ => none
def lkOk : LK → Value → Prop
  | .i k, .int k' _ => k = k'
  | .b, .bool _ => True
  | .s, .string _ => True
  | _, _ => False
inductive TL : List LK → List Value → Prop
  | nil : TL [] []
  | cons (l : LK) (v : Value) (ls : List LK) (vs : List Value) (h : lkOk l v) (hs : TL ls vs) : TL (l :: ls) (v :: vs)
theorem TL.len : ∀ {ls : List LK} {vs : List Value}, TL ls vs → vs.length = ls.length
  | _, _, .nil => rfl
  | _, _, .cons _ _ _ _ _ hs => by simp [hs.len]
theorem TL.split : ∀ {l m : List LK} {vs : List Value}, TL (l ++ m) vs → TL l (vs.take l.length) ∧ TL m (vs.drop l.length)
  | [], m, vs, h => ⟨by simpa using TL.nil, by simpa using h⟩
  | x :: l, m, _, .cons _ v _ vs h hs => by
    obtain ⟨a, b⟩ := TL.split hs
    exact ⟨by simpa using TL.cons _ _ _ _ h a, by simpa using b⟩
theorem TL.rep {k : IntKind} : ∀ {vs : List Value} {n : Nat}, vs.length = n → (∀ v ∈ vs, ∃ x, v = .int k x) → TL (List.replicate n (.i k)) vs
  | [], n, h, _ => by subst h; exact .nil
  | v :: vs, n, h, hv => by
    subst h
    obtain ⟨x, rfl⟩ := hv v (by simp)
    exact .cons _ _ _ _ rfl (TL.rep rfl fun u hu => hv u (by simp [hu]))
theorem TL.app : ∀ {l m : List LK} {vs us : List Value}, TL l vs → TL m us → TL (l ++ m) (vs ++ us)
  | _, _, _, _, .nil, h => h
  | _, _, _, _, .cons _ _ _ _ h hs, h2 => .cons _ _ _ _ h (hs.app h2)
def Fm1 (P : Program) (t : TypeId) (v : Value) (vs : List Value) : Prop := match isAggT P t with
  | some true => v = .agg vs.toArray
  | some false => vs = [v]
  | none => False
theorem run_part1 {e : TypeId} {n off : Nat} {cells : List Value} {w : World} (ha : (isAggT P e).isSome = true) (hs : sizeT P e = some n) (hl : off + n ≤ cells.length) (h1 : isAggT P e = some false → n = 1) :
    ∃ v, (part e cells.toArray off).run P w = .ok v w ∧ Fm1 P e v ((cells.drop off).take n) := by
  obtain ⟨i, hi, rfl⟩ := sizeT_of hs
  cases hb : isAggT P e with
  | none => rw [hb] at ha; cases ha
  | some b =>
    obtain ⟨d, hd, hag⟩ := isAggT_of hb
    unfold part Fm1
    rw [hb]
    cases b
    · rw [run_ok (run_isAgg hd w), hag]
      have h1 := h1 hb
      have hlt : off < cells.length := by omega
      simp only [Bool.false_eq_true, if_false, List.getElem?_toArray, List.getElem?_eq_getElem hlt]
      refine ⟨_, run_pure _ _, ?_⟩
      rw [h1, List.drop_eq_getElem_cons hlt]
      rfl
    · rw [run_ok (run_isAgg hd w), hag]
      simp only [if_true]
      rw [run_ok (run_sizeOf hi w)]
      refine ⟨_, run_pure _ _, ?_⟩
      simp [List.extract_eq_take_drop]
theorem flat_agg {d : Nat} {t : TypeId} {ls : List LK} (h : flatT P d t = some ls) : (isAggT P t).isSome = true ∧ (isAggT P t = some false → ls.length = 1) := by
  cases d with
  | zero => simp [flatT] at h
  | succ d =>
    unfold flatT at h
    unfold isAggT
    split at h <;> first | cases h; (rename_i hu; rw [hu]; exact ⟨rfl, fun _ => rfl⟩) | (rename_i hu; rw [hu]; exact ⟨rfl, fun x => by simp [aggD] at x⟩) | cases h
theorem take_iff {vs us : List Value} {n : Nat} (h : vs.length = us.length) : vs = us ↔ vs.take n = us.take n ∧ vs.drop n = us.drop n := by
  constructor
  · rintro rfl; exact ⟨rfl, rfl⟩
  · rintro ⟨a, b⟩; rw [← List.take_append_drop n vs, a, b, List.take_append_drop]
theorem run_flat : ∀ (d : Nat) (t : TypeId) (ls : List LK) (x y : Value) (vs us : List Value) (w : World), flatT P d t = some ls → TL ls vs → TL ls us → Fm1 P t x vs → Fm1 P t y us → ∀ k, ∃ r : Bool, (Op.equalIn (d + k) t x y).run P w = .ok r w ∧ (r = true ↔ vs = us)
  | 0, _, _, _, _, _, _, _, h, _, _, _, _, _ => by simp [flatT] at h
  | d + 1, t, ls, x, y, vs, us, w, h, hv, hu, fx, fy, k => by
    rw [show d + 1 + k = (d + k) + 1 by omega]
    unfold flatT at h
    have single : ∀ {l : LK}, TL [l] vs → TL [l] us → ∃ a b, vs = [a] ∧ us = [b] ∧ lkOk l a ∧ lkOk l b := by
      intro l h1 h2
      cases h1 with | cons _ a _ _ ha h1 =>
      cases h1
      cases h2 with | cons _ b _ _ hb h2 =>
      cases h2
      exact ⟨a, b, rfl, rfl, ha, hb⟩
    split at h
    · rename_i ht
      cases h
      obtain ⟨a, b, rfl, rfl, ha, hb⟩ := single hv hu
      simp only [Fm1, isAggT, ht, Option.map_some, aggD, List.cons.injEq, and_true] at fx fy
      subst fx fy
      cases a <;> simp only [lkOk] at ha
      cases b <;> simp only [lkOk] at hb
      rename_i p q
      exact ⟨_, run_equalIn_bool w (d + k) t p q ht, by simp⟩
    · rename_i kk ht
      cases h
      obtain ⟨a, b, rfl, rfl, ha, hb⟩ := single hv hu
      simp only [Fm1, isAggT, ht, Option.map_some, aggD, List.cons.injEq, and_true] at fx fy
      subst fx fy
      cases a <;> simp only [lkOk] at ha
      cases b <;> simp only [lkOk] at hb
      subst ha hb
      rename_i p q
      exact ⟨_, run_equalIn_int w (d + k) t _ _ p q ht, by simp⟩
    · rename_i ht
      cases h
      obtain ⟨a, b, rfl, rfl, ha, hb⟩ := single hv hu
      simp only [Fm1, isAggT, ht, Option.map_some, aggD, List.cons.injEq, and_true] at fx fy
      subst fx fy
      cases a <;> simp only [lkOk] at ha
      cases b <;> simp only [lkOk] at hb
      rename_i p q
      refine ⟨_, run_equalIn_string w (d + k) t p q ht, ?_⟩
      rw [beq_iff_eq, ByteArray.toList_eq, ByteArray.toList_eq]
      obtain ⟨⟨p⟩⟩ := p
      obtain ⟨⟨q⟩⟩ := q
      simp
    · rename_i n e ht
      split at h
      · rename_i l hl
        split at h
        · rename_i hsz
          simp only [Option.some.injEq] at h
          subst h
          simp only [Fm1, isAggT, ht, Option.map_some, aggD] at fx fy
          subst fx fy
          obtain ⟨i, hi, hin⟩ := sizeT_of hsz
          have hcell : P.cellsOf e = l.length := by simp [Program.cellsOf, hi, hin]
          rw [run_equalIn_array w (d + k) vs.toArray us.toArray ht hi, hcell]
          obtain ⟨hag1, hag2⟩ := flat_agg hl
          -- by the items that are left
          have key : ∀ (m j : Nat), j + m = n → TL (List.replicate m l).flatten (vs.drop (j * l.length)) → TL (List.replicate m l).flatten (us.drop (j * l.length)) →
              ∃ r : Bool, (Op.eqItems (d + k) e l.length vs.toArray us.toArray (List.range' j m)).run P w = .ok r w ∧ (r = true ↔ vs.drop (j * l.length) = us.drop (j * l.length)) := by
            intro m
            induction m with
            | zero =>
              intro j hj h1 h2
              refine ⟨true, rfl, ?_⟩
              have e1 := h1.len
              have e2 := h2.len
              simp only [List.replicate_zero, List.flatten_nil, List.length_nil] at e1 e2
              rw [List.length_eq_zero_iff.1 e1, List.length_eq_zero_iff.1 e2]
              simp
            | succ m ih =>
              intro j hj h1 h2
              have e1 := h1.len
              have e2 := h2.len
              simp only [List.replicate_succ, List.flatten_cons] at h1 h2 e1 e2
              obtain ⟨a1, b1⟩ := h1.split
              obtain ⟨a2, b2⟩ := h2.split
              rw [List.drop_drop] at b1 b2
              have hst : j * l.length + l.length = (j + 1) * l.length := by rw [Nat.add_mul]; omega
              rw [hst] at b1 b2
              have hL1 : j * l.length + l.length ≤ vs.length := by
                simp only [List.length_drop, List.length_append] at e1
                by_cases hz : l.length = 0
                · rw [hz]; simp
                · omega
              have hL2 : j * l.length + l.length ≤ us.length := by
                simp only [List.length_drop, List.length_append] at e2
                by_cases hz : l.length = 0
                · rw [hz]; simp
                · omega
              obtain ⟨p, hp, fp⟩ := run_part1 (w := w) (cells := vs) (off := j * l.length) hag1 hsz hL1 hag2
              obtain ⟨q, hq, fq⟩ := run_part1 (w := w) (cells := us) (off := j * l.length) hag1 hsz hL2 hag2
              obtain ⟨r, hr, hiff⟩ := run_flat d e l p q _ _ w hl a1 a2 fp fq k
              obtain ⟨r', hr', hiff'⟩ := ih (j + 1) (by omega) b1 b2
              rw [List.range'_succ]
              unfold Op.eqItems
              rw [run_ok hp, run_ok hq, run_ok hr]
              have hlen : (vs.drop (j * l.length)).length = (us.drop (j * l.length)).length := by rw [e1, e2]
              rw [take_iff (n := l.length) hlen, List.drop_drop, List.drop_drop, hst]
              cases r
              · refine ⟨false, rfl, ?_⟩
                simp only [Bool.false_eq_true, false_iff, not_and]
                intro e3; exact absurd (hiff.2 e3) (by simp)
              · refine ⟨r', by simpa using hr', ?_⟩
                rw [hiff']
                have := hiff.1 rfl
                simp [this]
          have := key n 0 (by omega) (by simpa using hv) (by simpa using hu)
          simpa [List.range_eq_range'] using this
        · cases h
      · cases h
    · rename_i fs ht
      split at h
      · cases h
      · rename_i hst
        simp only [Fm1, isAggT, ht, Option.map_some, aggD] at fx fy
        subst fx fy
        have hfs : P.fieldsOf t = fs := by simp [Program.fieldsOf, ht]
        rw [run_equalIn_struct w (d + k) t vs.toArray us.toArray (by rw [hfs]; exact ht) (by simpa using hst), hfs]
        have key : ∀ (l : List Field) (off : Nat) (m : List LK), flatFs P (flatT P d) l off = some m → TL m (vs.drop off) → TL m (us.drop off) → off ≤ vs.length → off ≤ us.length →
            ∃ r : Bool, (Op.eqFields (d + k) vs.toArray us.toArray l).run P w = .ok r w ∧ (r = true ↔ vs.drop off = us.drop off) := by
          intro l
          induction l with
          | nil =>
            intro off m hm h1 h2 _ _
            simp only [flatFs, Option.some.injEq] at hm
            subst hm
            refine ⟨true, rfl, ?_⟩
            have e1 := h1.len
            have e2 := h2.len
            rw [List.length_eq_zero_iff.1 e1, List.length_eq_zero_iff.1 e2]
            simp
          | cons f fs ih =>
            intro off m hm h1 h2 o1 o2
            simp only [flatFs] at hm
            split at hm
            · cases hm
            · rename_i hno
              have hname : f.name ≠ "_" := fun e => hno (.inl e)
              have hoff : f.offset = off := Classical.byContradiction fun e => hno (.inr e)
              split at hm
              · rename_i lf hlf
                split at hm
                · rename_i hsz
                  simp only [Option.map_eq_some_iff] at hm
                  obtain ⟨m', hm', rfl⟩ := hm
                  obtain ⟨a1, b1⟩ := h1.split
                  obtain ⟨a2, b2⟩ := h2.split
                  rw [List.drop_drop] at b1 b2
                  have e1 := h1.len
                  have e2 := h2.len
                  simp only [List.length_drop, List.length_append] at e1 e2
                  have hL1 : off + lf.length ≤ vs.length := by omega
                  have hL2 : off + lf.length ≤ us.length := by omega
                  obtain ⟨hag1, hag2⟩ := flat_agg hlf
                  obtain ⟨p, hp, fp⟩ := run_part1 (w := w) (cells := vs) (off := off) hag1 hsz hL1 hag2
                  obtain ⟨q, hq, fq⟩ := run_part1 (w := w) (cells := us) (off := off) hag1 hsz hL2 hag2
                  obtain ⟨r, hr, hiff⟩ := run_flat d f.type lf p q _ _ w hlf a1 a2 fp fq k
                  obtain ⟨r', hr', hiff'⟩ := ih (off + lf.length) m' hm' b1 b2 hL1 hL2
                  unfold Op.eqFields
                  rw [if_pos hname, hoff, run_ok hp, run_ok hq, run_ok hr]
                  have hlen : (vs.drop off).length = (us.drop off).length := by simp; omega
                  rw [take_iff (n := lf.length) hlen, List.drop_drop, List.drop_drop]
                  cases r
                  · refine ⟨false, rfl, ?_⟩
                    simp only [Bool.false_eq_true, false_iff, not_and]
                    intro e3; exact absurd (hiff.2 e3) (by simp)
                  · refine ⟨r', by simpa using hr', ?_⟩
                    rw [hiff']
                    have := hiff.1 rfl
                    simp [this]
                · cases hm
              · cases hm
        have := key fs.toList 0 ls h (by simpa using hv) (by simpa using hu) (by omega) (by omega)
        simpa using this
    · cases h
section
variable {G : Gl} {ρ : Env} {hI : Hp} {hF : Fm} {w : World} {S : SH} {nx : Nat} {fr : FT} {a : Act} {o : Oper} {K : SV → SH → Nat → Prop} {Q : Exit → Act → World → Prop}
theorem sbs_inv {n : Nat} {l : List UInt8} {xs : List SV} {vs : List Value} (h : SDens ρ hI (.iv (.sbs n l) :: xs) vs) : ∃ vs', vs = l.map bv ++ vs' ∧ l.length = n ∧ SDens ρ hI xs vs' := by
  cases h with
  | one _ _ _ _ hd => exact (no_sbs hd).elim
  | sbs _ _ _ vs' hl hs => exact ⟨vs', rfl, hl, hs⟩
theorem sis_inv {k : IntKind} {n : Nat} {l : List Int} {xs : List SV} {vs : List Value} (h : SDens ρ hI (.iv (.sis k n l) :: xs) vs) : ∃ vs', vs = l.map (Value.int k) ++ vs' ∧ l.length = n ∧ SDens ρ hI xs vs' := by
  cases h with
  | one _ _ _ _ hd => exact (no_sis hd).elim
  | sis _ _ _ _ vs' hl hs => exact ⟨vs', rfl, hl, hs⟩
theorem one_inv {x : SV} {xs : List SV} {vs : List Value} (h : SDens ρ hI (x :: xs) vs) (h1 : ∀ n l, x ≠ .iv (.sbs n l)) (h2 : ∀ k n l, x ≠ .iv (.sis k n l)) : ∃ v vs', vs = v :: vs' ∧ SDen ρ hI x v ∧ one1 v = true ∧ SDens ρ hI xs vs' := by
  cases h with
  | one _ v _ vs' hd ho hs => exact ⟨v, vs', rfl, hd, ho, hs⟩
  | sbs _ _ _ vs' hl hs => exact absurd rfl (h1 _ _)
  | sis _ _ _ _ vs' hl hs => exact absurd rfl (h2 _ _ _)
theorem TL.chunk {k : IntKind} {n : Nat} {ls : List LK} {vs us : List Value} (ht : ls.take n = List.replicate n (.i k)) (hv : vs.length = n) (h : ∀ v ∈ vs, ∃ x, v = .int k x) (hr : TL (ls.drop n) us) : TL ls (vs ++ us) := by
  have := (TL.rep hv h).app hr
  rwa [← ht, List.take_append_drop] at this
theorem map_inj {α β : Type} {f : α → β} (hf : ∀ a b, f a = f b → a = b) : ∀ {l m : List α}, l.map f = m.map f → l = m
  | [], [], _ => rfl
  | [], _ :: _, h => by simp at h
  | _ :: _, [], h => by simp at h
  | x :: l, y :: m, h => by
    simp only [List.map_cons, List.cons.injEq] at h
    rw [hf _ _ h.1, map_inj hf h.2]
theorem bv_inj (a b : UInt8) (h : bv a = bv b) : a = b := by
  simp only [bv, Value.int.injEq, true_and] at h
  exact UInt8.toNat_inj.1 (by omega)
theorem and_iff_app {A : Prop} [Decidable A] {r : Bool} {p q v u : List Value} (h1 : A ↔ p = q) (h2 : r = true ↔ v = u) (hl : p.length = q.length) : (decide A && r) = true ↔ p ++ v = q ++ u := by
  rw [Bool.and_eq_true, decide_eq_true_eq, h1, h2]
  constructor
  · rintro ⟨rfl, rfl⟩; rfl
  · intro h; exact List.append_inj h hl
theorem eqaK_sound : ∀ (xs : List SV) (ls : List LK) (ys : List SV) (vs us : List Value) (K : Bool → Prop), SDens ρ hI xs vs → SDens ρ hI ys us → eqaK ls xs ys K → ∃ r, K r ∧ TL ls vs ∧ TL ls us ∧ (r = true ↔ vs = us) := by
  intro xs
  induction xs with
  | nil =>
    intro ls ys vs us K h1 h2 h
    cases ys with
    | nil =>
      cases ls with
      | nil =>
        cases h1; cases h2
        exact ⟨true, h, .nil, .nil, by simp⟩
      | cons l ls => cases l <;> exact h.elim
    | cons y ys => cases ls <;> first | exact h.elim | (rename_i l ls; cases l <;> exact h.elim)
  | cons x xs ih =>
    intro ls ys vs us K h1 h2 h
    unfold eqaK at h
    split at h
    · rename_i n l xs' m l' ys' e
      cases e
      obtain ⟨⟨rfl, ht⟩, h'⟩ := vc_iff.1 h
      obtain ⟨vs', rfl, hl1, h1'⟩ := sbs_inv h1
      obtain ⟨us', rfl, hl2, h2'⟩ := sbs_inv h2
      obtain ⟨r, hk, t1, t2, hiff⟩ := ih _ _ _ _ _ h1' h2' h'
      refine ⟨_, hk, TL.chunk ht (by simpa using hl1) ?_ t1, TL.chunk ht (by simpa using hl2) ?_ t2, and_iff_app ?_ hiff (by simp [hl1, hl2])⟩
      · intro v hv; obtain ⟨b, _, rfl⟩ := List.mem_map.1 hv; exact ⟨_, rfl⟩
      · intro v hv; obtain ⟨b, _, rfl⟩ := List.mem_map.1 hv; exact ⟨_, rfl⟩
      · exact ⟨fun e => by rw [e], map_inj bv_inj⟩
    · rename_i k n l xs' k' m l' ys' e
      cases e
      obtain ⟨⟨rfl, rfl, ht⟩, h'⟩ := vc_iff.1 h
      obtain ⟨vs', rfl, hl1, h1'⟩ := sis_inv h1
      obtain ⟨us', rfl, hl2, h2'⟩ := sis_inv h2
      obtain ⟨r, hk, t1, t2, hiff⟩ := ih _ _ _ _ _ h1' h2' h'
      refine ⟨_, hk, TL.chunk ht (by simpa using hl1) ?_ t1, TL.chunk ht (by simpa using hl2) ?_ t2, and_iff_app ?_ hiff (by simp [hl1, hl2])⟩
      · intro v hv; obtain ⟨b, _, rfl⟩ := List.mem_map.1 hv; exact ⟨_, rfl⟩
      · intro v hv; obtain ⟨b, _, rfl⟩ := List.mem_map.1 hv; exact ⟨_, rfl⟩
      · exact ⟨fun e => by rw [e], map_inj (by intro a b e; simpa using e)⟩
    · rename_i k ls' k1 p xs' k2 q ys' e
      cases e
      obtain ⟨⟨rfl, rfl⟩, h'⟩ := vc_iff.1 h
      obtain ⟨v, vs', rfl, hv, _, h1'⟩ := one_inv h1 (by simp) (by simp)
      obtain ⟨u, us', rfl, hu, _, h2'⟩ := one_inv h2 (by simp) (by simp)
      cases hv with | iv _ _ hv => cases hv with | int =>
      cases hu with | iv _ _ hu => cases hu with | int =>
      obtain ⟨r, hk, t1, t2, hiff⟩ := ih _ _ _ _ _ h1' h2' h'
      exact ⟨_, hk, .cons _ _ _ _ rfl t1, .cons _ _ _ _ rfl t2, and_iff_app (A := p = q) (p := [.int _ p]) (q := [.int _ q]) (by simp) hiff rfl⟩
    · rename_i k ls' p xs' q ys' e
      cases e
      obtain ⟨rfl, h'⟩ := vc_iff.1 h
      obtain ⟨v, vs', rfl, hv, _, h1'⟩ := one_inv h1 (by simp) (by simp)
      obtain ⟨u, us', rfl, hu, _, h2'⟩ := one_inv h2 (by simp) (by simp)
      cases hv with | iv _ _ hv => cases hv with | byte =>
      cases hu with | iv _ _ hu => cases hu with | byte =>
      obtain ⟨r, hk, t1, t2, hiff⟩ := ih _ _ _ _ _ h1' h2' h'
      exact ⟨_, hk, .cons _ _ _ _ rfl t1, .cons _ _ _ _ rfl t2, and_iff_app (p := [bv p]) (q := [bv q]) ⟨fun e => by rw [e], fun e => bv_inj _ _ (by simpa using e)⟩ hiff rfl⟩
    · rename_i ls' p xs' q ys' e
      cases e
      obtain ⟨v, vs', rfl, hv, _, h1'⟩ := one_inv h1 (by simp) (by simp)
      obtain ⟨u, us', rfl, hu, _, h2'⟩ := one_inv h2 (by simp) (by simp)
      cases hv with | iv _ _ hv => cases hv with | bool =>
      cases hu with | iv _ _ hu => cases hu with | bool =>
      obtain ⟨r, hk, t1, t2, hiff⟩ := ih _ _ _ _ _ h1' h2' h
      exact ⟨_, hk, .cons _ _ _ _ trivial t1, .cons _ _ _ _ trivial t2, and_iff_app (p := [.bool p]) (q := [.bool q]) (by simp) hiff rfl⟩
    · rename_i ls' p xs' q ys' e
      cases e
      obtain ⟨v, vs', rfl, hv, _, h1'⟩ := one_inv h1 (by simp) (by simp)
      obtain ⟨u, us', rfl, hu, _, h2'⟩ := one_inv h2 (by simp) (by simp)
      cases hv with | iv _ _ hv => cases hv with | str =>
      cases hu with | iv _ _ hu => cases hu with | str =>
      obtain ⟨r, hk, t1, t2, hiff⟩ := ih _ _ _ _ _ h1' h2' h
      exact ⟨_, hk, .cons _ _ _ _ trivial t1, .cons _ _ _ _ trivial t2, and_iff_app (p := [.string ⟨p.toArray⟩]) (q := [.string ⟨q.toArray⟩]) (by simp) hiff rfl⟩
    · rename_i e; cases e
    · exact h.elim
def eqaT (P : Program) (t : TypeId) (ls : List LK) : Bool := decide (flatT P 20 t = some ls) && (isAggT P t == some true) && !(P.eqGuardType P.depth t)
theorem q_eqa {K : SV → Prop} {neg : Bool} {ls : List LK} {op : BinOp} {t ty : TypeId} {x y : Operand} {c d : Opd} (C : Cx G ρ hI hF w S nx fr a) (ho : o.op = .binOp op t x y ty) (hop : op = bif neg then .neq else .eql) (ht : eqaT P t ls = true)
    (h1 : chkOpd x c = true) (h2 : chkOpd y d = true) (h : qop G S fr (.eqa neg ls c d) K) : QOk P ρ hI w a o K := by
  simp only [eqaT, Bool.and_eq_true, decide_eq_true_eq, beq_iff_eq, Bool.not_eq_true'] at ht
  obtain ⟨⟨t1, t2⟩, t3⟩ := ht
  obtain ⟨u, hu, hdu⟩ := evK_sound h1 C.g C.f (show evK G fr c _ from h)
  obtain ⟨v, hv, hdv⟩ := evK_sound h2 C.g C.f hu
  generalize hx : a.eval x = vx at hdu
  generalize hy : a.eval y = vy at hdv
  split at hv
  · rename_i xs ys
    cases hdu with | agg _ vs hds =>
    cases hdv with | agg _ us hdt =>
    obtain ⟨r, hk, l1, l2, hiff⟩ := eqaK_sound xs ls ys vs us _ hds hdt hv
    obtain ⟨r', hr', hiff'⟩ := run_flat (P := P) 20 t ls (.agg vs.toArray) (.agg us.toArray) vs us w t1 l1 l2 (by simp [Fm1, t2]) (by simp [Fm1, t2]) 9980
    have hrr : r' = r := by
      cases r <;> cases r' <;> simp_all
    subst hrr
    refine ⟨_, _, hk, .iv _ _ (.bool _), ?_⟩
    simp only [execOp, ho, hx, hy]
    apply exec_v
    rw [run_ok (run_eqGuard_agg w op t x y _ _ t3)]
    subst hop
    cases neg
    · simp only [cond_false, run_eql_struct, hr', Result.andThen_ok]
    · simp only [cond_true, run_neq_struct, hr', Result.andThen_ok]
  · exact hv.elim
theorem q_eqn {K : SV → Prop} {neg : Bool} {op : BinOp} {t e ty : TypeId} {x y : Operand} {c : Opd} (C : Cx G ρ hI hF w S nx fr a) (ho : o.op = .binOp op t x y ty) (hop : op = bif neg then .neq else .eql) (ht : P.underlying t = some (.slice e))
    (hy : y = .const (.slice none 0 0)) (h1 : chkOpd x c = true) (h : qop G S fr (.eqn neg c) K) : QOk P ρ hI w a o K := by
  obtain ⟨u, hu, hdu⟩ := evK_sound h1 C.g C.f (show evK G fr c _ from h)
  generalize hx : a.eval x = vx at hdu
  have fin : ∀ (A : Option Addr) (l cp : Nat), vx = .slice A l cp → K (.iv (.bool (bif neg then !A.isNone else A.isNone))) → QOk P ρ hI w a o K := by
    intro A l cp e hk
    refine ⟨_, _, hk, .iv _ _ (.bool _), ?_⟩
    have hyv : a.eval y = .slice none 0 0 := by rw [hy]; rfl
    simp only [execOp, ho, hx, hyv, e]
    apply exec_v
    have g : (eqGuard op t x y (.slice A l cp) (.slice none 0 0)).run P w = .ok () w := by unfold eqGuard; subst hop; cases neg <;> rfl
    rw [run_ok g]
    have he : (Op.equal t (.slice A l cp) (.slice none 0 0)).run P w = .ok A.isNone w := by
      unfold Op.equal Op.maxDepth Op.equalIn
      rw [run_ok (run_underlying ht w)]
      cases A <;> rfl
    subst hop
    cases neg
    · simp only [cond_false, binOp]
      rw [run_ok he]
      rfl
    · simp only [cond_true, binOp]
      rw [run_ok he]
      rfl
  split at hu
  · cases hdu with | iv _ _ hd => cases hd with | nilsl => exact fin none 0 0 rfl (by cases neg <;> exact hu)
  · rename_i sz n off len
    obtain ⟨hlt, hk⟩ := vc_iff.1 hu
    cases hdu with
    | sl => exact fin (some _) _ _ rfl (by cases neg <;> exact hk)
    | slnil => omega
  · cases hdu with | slx => exact fin (some _) _ _ rfl (by cases neg <;> exact hu)
  · rename_i l
    obtain ⟨hlt, hk⟩ := vc_iff.1 hu
    cases hdu with | iv _ _ hd => cases hd with
    | ib => exact fin (some _) _ _ rfl (by cases neg <;> exact hk)
    | ib0 => simp at hlt
  · rename_i sz len E
    obtain ⟨hlt, hk⟩ := vc_iff.1 hu
    cases hdu with | iv _ _ hd => cases hd with
    | isl => exact fin (some _) _ _ rfl (by cases neg <;> exact hk)
    | isl0 => omega
  · exact hu.elim
end
end Sg
end Go.Proofs.YtfkboondffejaaaGreatDoor
set_option linter.unusedVariables false
set_option linter.unusedSimpArgs false
namespace Go.Proofs.YtfkboondffejaaaGreatDoor
namespace Sg
variable {P : Program}
def mfind : List (IV × SV) → IV → Option SV
  | [], _ => none
  | (k, v) :: es, x => cond (eqKey x k) (some v) (mfind es x)
def mput : List (IV × SV) → IV → SV → List (IV × SV)
  | [], x, v => [(x, v)]
  | (k, w) :: es, x, v => cond (eqKey x k) ((k, v) :: es) ((k, w) :: mput es x v)
def mdel : List (IV × SV) → IV → List (IV × SV)
  | [], x => []
  | (k, w) :: es, x => cond (eqKey x k) es ((k, w) :: mdel es x)
theorem mfindK_iff : ∀ {es : List (IV × SV)} {x : IV} {K : Option SV → Prop}, mfindK es x K ↔ K (mfind es x)
  | [], x, K => Iff.rfl
  | (k, v) :: es, x, K => by
    simp only [mfindK, mfind]
    cases eqKey x k
    · exact mfindK_iff (es := es)
    · exact Iff.rfl
theorem mputK_iff : ∀ {es : List (IV × SV)} {x : IV} {v : SV} {K : List (IV × SV) → Prop}, mputK es x v K ↔ K (mput es x v)
  | [], x, v, K => Iff.rfl
  | (k, w) :: es, x, v, K => by
    simp only [mputK, mput]
    cases eqKey x k
    · exact mputK_iff (es := es)
    · exact Iff.rfl
theorem mdelK_iff : ∀ {es : List (IV × SV)} {x : IV} {K : List (IV × SV) → Prop}, mdelK es x K ↔ K (mdel es x)
  | [], x, K => Iff.rfl
  | (k, w) :: es, x, K => by
    simp only [mdelK, mdel]
    cases eqKey x k
    · exact mdelK_iff (es := es)
    · exact Iff.rfl
theorem eqKey_eq {s : Bool} {x k : IV} (h : isKey s x k = true) (e : eqKey x k = true) : k = x := by
  unfold isKey at h
  split at h
  · simp only [Bool.and_eq_true, decide_eq_true_eq, eqKey] at h e
    rw [h.2, e]
  · simp only [decide_eq_true_eq, eqKey] at e
    rw [e]
  · cases h
theorem eqKey_self {s : Bool} {x : IV} (h : isKey s x x = true) : eqKey x x = true := by
  unfold isKey at h
  split at h <;> simp [eqKey] at *
theorem allKeys_mem {s : Bool} {x : IV} : ∀ {es : List (IV × SV)}, allKeys s x es = true ↔ ∀ p ∈ es, isKey s x p.1 = true
  | [] => by simp [allKeys]
  | (k, v) :: es => by simp [allKeys, allKeys_mem (es := es)]
theorem filter_ne {s : Bool} {x : IV} {es : List (IV × SV)} (ha : ∀ p ∈ es, isKey s x p.1 = true) (hn : x ∉ es.map Prod.fst) : es.filter (fun p => !eqKey x p.1) = es := by
  refine List.filter_eq_self.2 fun p hp => ?_
  cases e : eqKey x p.1
  · rfl
  · exact absurd (List.mem_map.2 ⟨p, hp, eqKey_eq (ha p hp) e⟩) hn
theorem mput_canon {s : Bool} {x : IV} {v : SV} : ∀ {es : List (IV × SV)}, (∀ p ∈ es, isKey s x p.1 = true) → (es.map Prod.fst).Nodup → (mput es x v).Perm ((x, v) :: es.filter fun p => !eqKey x p.1)
  | [], _, _ => .refl _
  | (k, w) :: es, ha, hn => by
    simp only [List.map_cons, List.nodup_cons] at hn
    have ha' : ∀ p ∈ es, isKey s x p.1 = true := fun p hp => ha p (List.mem_cons_of_mem _ hp)
    have hk : isKey s x k = true := ha (k, w) (List.mem_cons_self ..)
    have ih := mput_canon (v := v) ha' hn.2
    unfold mput
    rw [List.filter_cons]
    cases e : eqKey x k
    · simp only [cond_false, Bool.not_false, if_true]
      exact (List.Perm.cons _ ih).trans (List.Perm.swap ..)
    · simp only [cond_true, Bool.not_true, Bool.false_eq_true, if_false]
      have := eqKey_eq hk e
      subst this
      rw [filter_ne ha' hn.1]
theorem mdel_canon {s : Bool} {x : IV} : ∀ {es : List (IV × SV)}, (∀ p ∈ es, isKey s x p.1 = true) → (es.map Prod.fst).Nodup → mdel es x = es.filter fun p => !eqKey x p.1
  | [], _, _ => rfl
  | (k, w) :: es, ha, hn => by
    simp only [List.map_cons, List.nodup_cons] at hn
    have ha' : ∀ p ∈ es, isKey s x p.1 = true := fun p hp => ha p (List.mem_cons_of_mem _ hp)
    have hk : isKey s x k = true := ha (k, w) (List.mem_cons_self ..)
    have ih := mdel_canon ha' hn.2
    unfold mdel
    rw [List.filter_cons]
    cases e : eqKey x k
    · simp only [cond_false, Bool.not_false, if_true]
      rw [ih]
    · simp only [cond_true, Bool.not_true, Bool.false_eq_true, if_false]
      have := eqKey_eq hk e
      subst this
      rw [filter_ne ha' hn.1]
theorem mput_keys {s : Bool} {x : IV} {v : SV} {es : List (IV × SV)} (ha : ∀ p ∈ es, isKey s x p.1 = true) (hn : (es.map Prod.fst).Nodup) : ((mput es x v).map Prod.fst).Nodup := by
  rw [((mput_canon (v := v) ha hn).map Prod.fst).nodup_iff]
  simp only [List.map_cons, List.nodup_cons]
  constructor
  · intro h
    obtain ⟨p, hp, e⟩ := List.mem_map.1 h
    obtain ⟨hp1, hp2⟩ := List.mem_filter.1 hp
    subst e
    have := eqKey_self (ha p hp1)
    simp [this] at hp2
  · exact (List.Sublist.map _ List.filter_sublist).nodup hn
theorem mdel_keys {s : Bool} {x : IV} {es : List (IV × SV)} (ha : ∀ p ∈ es, isKey s x p.1 = true) (hn : (es.map Prod.fst).Nodup) : ((mdel es x).map Prod.fst).Nodup := by
  rw [mdel_canon ha hn]
  exact (List.Sublist.map _ List.filter_sublist).nodup hn
theorem nodup_fst {k : IV} {v v' : SV} : ∀ {es : List (IV × SV)}, (es.map Prod.fst).Nodup → (k, v) ∈ es → (k, v') ∈ es → v = v'
  | [], _, h, _ => nomatch h
  | (q, u) :: es, hn, h1, h2 => by
    simp only [List.map_cons, List.nodup_cons] at hn
    rcases List.mem_cons.1 h1 with e1 | e1 <;> rcases List.mem_cons.1 h2 with e2 | e2
    · cases e1; cases e2; rfl
    · cases e1; exact absurd (List.mem_map.2 ⟨_, e2, rfl⟩) hn.1
    · cases e2; exact absurd (List.mem_map.2 ⟨_, e1, rfl⟩) hn.1
    · exact nodup_fst hn.2 e1 e2
theorem mfind_spec {s : Bool} {x : IV} : ∀ {es : List (IV × SV)}, (∀ p ∈ es, isKey s x p.1 = true) → (∀ v, mfind es x = some v → (x, v) ∈ es) ∧ (mfind es x = none → ∀ p ∈ es, p.1 ≠ x)
  | [], _ => ⟨(fun v h => by cases h), (fun _ p hp => by cases hp)⟩
  | (k, w) :: es, ha => by
    have hk : isKey s x k = true := ha (k, w) (List.mem_cons_self ..)
    obtain ⟨h1, h2⟩ := mfind_spec (s := s) (x := x) (es := es) fun p hp => ha p (List.mem_cons_of_mem _ hp)
    unfold mfind
    cases e : eqKey x k
    · simp only [cond_false]
      refine ⟨fun v hv => List.mem_cons_of_mem _ (h1 v hv), fun hn p hp => ?_⟩
      rcases List.mem_cons.1 hp with rfl | hp
      · intro e2
        simp only at e2
        subst e2
        rw [eqKey_self hk] at e; cases e
      · exact h2 hn p hp
    · have := eqKey_eq hk e
      subst this
      exact ⟨fun v hv => by simp only [cond_true, Option.some.injEq] at hv; subst hv; exact List.mem_cons_self .., fun hn => by simp at hn⟩
theorem mfind_perm {s : Bool} {x : IV} {es es' : List (IV × SV)} (hp : es'.Perm es) (ha : ∀ p ∈ es, isKey s x p.1 = true) (hn : (es.map Prod.fst).Nodup) : mfind es' x = mfind es x := by
  have ha' : ∀ p ∈ es', isKey s x p.1 = true := fun p hpp => ha p (hp.mem_iff.1 hpp)
  obtain ⟨a1, a2⟩ := mfind_spec ha
  obtain ⟨b1, b2⟩ := mfind_spec ha'
  cases h1 : mfind es' x with
  | none =>
    cases h2 : mfind es x with
    | none => rfl
    | some v => exact absurd rfl (b2 h1 _ (hp.mem_iff.2 (a1 v h2)))
  | some u =>
    have hu := hp.mem_iff.1 (b1 u h1)
    cases h2 : mfind es x with
    | none => exact absurd rfl (a2 h2 _ hu)
    | some v => rw [nodup_fst hn hu (a1 v h2)]
theorem ba_beq (a b : List UInt8) : ((⟨a.toArray⟩ : ByteArray) == ⟨b.toArray⟩) = decide (a = b) := by rw [beq_toListBytes, ba_mk, ba_mk, lbeq]
section
variable {ρ : Env} {hI : Hp}
def descOk (s : Bool) : TypeDesc → Bool
  | .int _ => !s
  | .string => s
  | _ => false
theorem same_now {s : Bool} {d : TypeDesc} {x k : IV} {vx vk : Value} (hd : descOk s d = true) (h : isKey s x k = true) (hx : IDen hI x vx) (hk : IDen hI k vk) : Instr.sameNow d vx vk = some (eqKey x k) := by
  unfold isKey at h
  split at h
  · simp only [Bool.and_eq_true, Bool.not_eq_true', decide_eq_true_eq] at h
    obtain ⟨rfl, rfl⟩ := h
    cases hx; cases hk
    unfold descOk at hd
    split at hd
    · simp [Instr.sameNow, eqKey]; rfl
    · cases hd
    · cases hd
  · subst h
    cases hx; cases hk
    unfold descOk at hd
    split at hd
    · cases hd
    · simp only [Instr.sameNow, eqKey, Option.some.injEq, ba_beq]
    · cases hd
  · cases h
theorem find_now {s : Bool} {d : TypeDesc} {x : IV} {vx : Value} (hd : descOk s d = true) (hx : IDen hI x vx) : ∀ {es : List (IV × SV)} {ms : List MapEntry} (i : Nat), MDen ρ hI es ms → (∀ p ∈ es, isKey s x p.1 = true) →
    (mfind es x = none ∧ Instr.findNow d vx ms i = some none) ∨
    ∃ v j m, mfind es x = some v ∧ SDen ρ hI v m.val ∧ Instr.findNow d vx ms i = some (some (i + j, m.val)) ∧ ms[j]? = some m ∧ IDen hI x m.key ∧
      ∀ v' m', SDen ρ hI v' m'.val → IDen hI x m'.key → MDen ρ hI (mput es x v') (ms.set j m') ∧ MDen ρ hI (mdel es x) (ms.eraseIdx j)
  | _, _, i, .nil, _ => .inl ⟨rfl, rfl⟩
  | _, _, i, .cons k v m es ms hk hv hs, ha => by
    have hkk : isKey s x k = true := ha (k, v) (List.mem_cons_self ..)
    have ha' : ∀ p ∈ es, isKey s x p.1 = true := fun p hp => ha p (List.mem_cons_of_mem _ hp)
    have hsn := same_now (hI := hI) hd hkk hx hk
    unfold mfind Instr.findNow mput mdel
    rw [hsn]
    cases e : eqKey x k
    · simp only [cond_false]
      rcases find_now hd hx (i + 1) hs ha' with ⟨h1, h2⟩ | ⟨u, j, m1, h1, h2, h3, h4, h5, h6⟩
      · exact .inl ⟨h1, h2⟩
      · refine .inr ⟨u, j + 1, m1, h1, h2, by rw [h3]; congr 3; omega, by simpa using h4, h5, fun v' m' a b => ?_⟩
        obtain ⟨c1, c2⟩ := h6 v' m' a b
        exact ⟨by simpa using MDen.cons _ _ _ _ _ hk hv c1, by simpa using MDen.cons _ _ _ _ _ hk hv c2⟩
    · have := eqKey_eq hkk e
      subst this
      simp only [cond_true]
      refine .inr ⟨v, 0, m, rfl, hv, rfl, rfl, hk, fun v' m' a b => ?_⟩
      exact ⟨by simpa using MDen.cons _ _ _ _ _ b a hs, by simpa using hs⟩
theorem MDen.len : ∀ {es : List (IV × SV)} {ms : List MapEntry}, MDen ρ hI es ms → ms.length = es.length
  | _, _, .nil => rfl
  | _, _, .cons _ _ _ _ _ _ _ hs => by simp [hs.len]
theorem MDen.push {x : IV} {v : SV} {m : MapEntry} (hk : IDen hI x m.key) (hv : SDen ρ hI v m.val) : ∀ {es : List (IV × SV)} {ms : List MapEntry}, MDen ρ hI es ms → mfind es x = none → MDen ρ hI (mput es x v) (ms ++ [m])
  | _, _, .nil, _ => .cons _ _ _ _ _ hk hv .nil
  | _, _, .cons k u n es ms a b hs, h => by
    unfold mfind at h
    unfold mput
    cases e : eqKey x k
    · rw [e] at h
      exact .cons _ _ _ _ _ a b (MDen.push hk hv hs h)
    · rw [e] at h; cases h
theorem mdel_none {x : IV} : ∀ {es : List (IV × SV)}, mfind es x = none → mdel es x = es
  | [], _ => rfl
  | (k, v) :: es, h => by
    unfold mfind at h
    unfold mdel
    cases e : eqKey x k
    · rw [e] at h; simp only [cond_false]; rw [mdel_none h]
    · rw [e] at h; cases h
variable {hF : Fm} {w : World} {S : SH} {nx : Nat}
theorem Sat.mp {n : Nat} {es : List (IV × SV)} (h : Sat ρ hI hF w S nx) (g : SH.get S n = some (.mp es)) :
    ∃ e es' ms clock, ρ n = some e ∧ w.heap[e.b]? = some (.map ms.toArray clock) ∧ es'.Perm es ∧ MDen ρ hI es' ms ∧ (es.map Prod.fst).Nodup ∧ (∀ m ∈ ms, m.born < clock) ∧ (ms.map MapEntry.born).Nodup ∧ e.nil = false := by
  obtain ⟨e, h1, hr, ho, hi⟩ := h.look g
  cases ho with
  | mp _ es' _ ms clock hp hd hk hb hbn hn => exact ⟨e, es', ms, clock, hr, hi _ _ (Hp.one_self _ _), hp, hd, hk, hb, hbn, hn⟩
theorem run_getObj {r : Nat} {o : Obj} (h : w.heap[r]? = some o) (hc : ∀ c t f, o ≠ .cells c t f) : (getObj r).run P w = .ok o w := by
  unfold getObj
  simp only [Sem.run, h]
def setO (w : World) (r : Nat) (o : Obj) : World := { w with heap := w.heap.setIfInBounds r o }
theorem run_setObj {r : Nat} {o o' : Obj} (h : w.heap[r]? = some o) (hc : ∀ c t f, o ≠ .cells c t f) : (setObj r o').run P w = .ok () (setO w r o') := by
  unfold setObj
  simp only [Sem.run, h]
  cases o <;> first | rfl | exact absurd rfl (hc _ _ _)
theorem setO_only (w : World) (r : Nat) (o : Obj) : Only w (setO w r o) r :=
  ⟨⟨rfl, rfl, rfl, by simp [setO]⟩, fun b hb x hx => by
    simp only [setO]
    rw [Array.getElem?_setIfInBounds_ne (Ne.symm hb)]; exact hx⟩
theorem setO_at {r : Nat} {o o' : Obj} (h : w.heap[r]? = some o) : (setO w r o').heap[r]? = some o' := by
  have hlt : r < w.heap.size := (Array.getElem?_eq_some_iff.1 h).1
  simp [setO, hlt]
def mapT (P : Program) (t : TypeId) : Option (TypeId × TypeId) := match P.underlying t with | some (.map k v) => some (k, v) | _ => none
theorem mapT_of {t k v : TypeId} (h : mapT P t = some (k, v)) : P.underlying t = some (.map k v) := by
  unfold mapT at h
  split at h
  · rename_i e; simp only [Option.some.injEq, Prod.mk.injEq] at h; rw [e, h.1, h.2]
  · cases h
def keyD (P : Program) (s : Bool) (k : TypeId) : Bool := match P.underlying k with | some d => descOk s d | none => false
theorem run_checkKey {s : Bool} {k : TypeId} {b : Bool} {v : Value} (h : keyD P s k = true) : (Instr.checkKey b 10000 k v).run P w = .ok () w := by
  unfold keyD at h
  split at h
  · rename_i d hd
    rw [show (10000 : Nat) = 9999 + 1 from rfl]
    unfold Instr.checkKey
    rw [run_ok (run_underlying hd w)]
    cases d <;> first | (simp [descOk] at h; done) | rfl
  · cases h
theorem run_find {s : Bool} {k : TypeId} {x : IV} {vx : Value} {es : List (IV × SV)} {ms : List MapEntry} (h : keyD P s k = true) (hx : IDen hI x vx) (hd : MDen ρ hI es ms) (ha : ∀ p ∈ es, isKey s x p.1 = true) :
    (mfind es x = none ∧ (Instr.findKey k vx ms).run P w = .ok none w) ∨
    ∃ v j m, mfind es x = some v ∧ SDen ρ hI v m.val ∧ (Instr.findKey k vx ms).run P w = .ok (some (j, m.val)) w ∧ ms[j]? = some m ∧ IDen hI x m.key ∧
      ∀ v' m', SDen ρ hI v' m'.val → IDen hI x m'.key → MDen ρ hI (mput es x v') (ms.set j m') ∧ MDen ρ hI (mdel es x) (ms.eraseIdx j) := by
  unfold keyD at h
  split at h
  · rename_i d hd'
    unfold Instr.findKey
    rw [run_ok (run_underlying hd' w)]
    rcases find_now h hx 0 hd ha with ⟨h1, h2⟩ | ⟨v, j, m, h1, h2, h3, h4, h5, h6⟩
    · exact .inl ⟨h1, by rw [h2]; rfl⟩
    · exact .inr ⟨v, j, m, h1, h2, by rw [h3, Nat.zero_add]; rfl, h4, h5, h6⟩
  · cases h
theorem same_bits {s : Bool} {x : IV} {a b : Value} (h : isKey s x x = true) (ha : IDen hI x a) (hb : IDen hI x b) : Instr.sameBits 10000 a b = true := by
  unfold isKey at h
  split at h
  · cases ha; cases hb; simp [Instr.sameBits]
  · cases ha; cases hb; simp [Instr.sameBits, ba_beq]
  · cases h
end
section
variable {G : Gl} {ρ : Env} {hI : Hp} {hF : Fm} {w : World} {S : SH} {nx : Nat} {fr : FT} {a : Act} {o : Oper} {K : SV → SH → Nat → Prop} {Q : Exit → Act → World → Prop}
def chkZ (z : SV) (v : Value) : Bool := match z, v with
  | .agg cs, .agg vs => chkCells cs vs.toList
  | x, v => chkC x v
theorem chkZ_sound {z : SV} {v : Value} (h : chkZ z v = true) : SDen ρ hI z v := by
  unfold chkZ at h
  split at h
  · rename_i cs vs
    have := chkCells_sound ρ hI h
    have := SDen.agg cs vs.toList this
    simpa using this
  · exact (chkC_sound h ρ hI).1
def mgetT (P : Program) (s : Bool) (t : TypeId) (z : SV) : Bool := match mapT P t with
  | some (k, e) => keyD P s k && (match zeroT P e with | some v => chkZ z v | none => false)
  | none => false
theorem q_mget {K : SV → Prop} {s ok : Bool} {z : SV} {t : TypeId} {x i : Operand} {c d : Opd} (C : Cx G ρ hI hF w S nx fr a) (ho : o.op = .lookup t x i ok) (ht : mgetT P s t z = true) (h1 : chkOpd x c = true) (h2 : chkOpd i d = true) (h : qop G S fr (.mget s ok z c d) K) : QOk P ρ hI w a o K := by
  unfold mgetT at ht
  split at ht
  · rename_i kt e hmt
    simp only [Bool.and_eq_true] at ht
    obtain ⟨hkd, hz⟩ := ht
    split at hz
    · rename_i zv hzv
      obtain ⟨u, hu, hdu⟩ := evK_sound h1 C.g C.f (show evK G fr c _ from h)
      obtain ⟨v, hv, hdv⟩ := evK_sound h2 C.g C.f hu
      generalize hx : a.eval x = vx at hdu
      generalize hy : a.eval i = vi at hdv
      split at hv
      · rename_i n k
        obtain ⟨ob, hob, hk2⟩ := SH.getK_iff.1 hv
        split at hk2
        · rename_i es
          obtain ⟨⟨hself, hall⟩, hk3⟩ := vc_iff.1 hk2
          rw [mfindK_iff] at hk3
          obtain ⟨en, es', ms, clock, hen, hh, hperm, hden, hnd, hb, hbn, hnil⟩ := C.sat.mp hob
          cases hdu with | map _ e' he' =>
          rw [hen] at he'; cases he'
          cases hdv with | iv _ _ hdv =>
          have hall := allKeys_mem.1 hall
          have hall' : ∀ p ∈ es', isKey s k p.1 = true := fun p hp => hall p (hperm.mem_iff.1 hp)
          rw [← mfind_perm hperm hall hnd] at hk3
          simp only [execOp, ho, hx, hy, QOk]
          have run : ∀ (fnd : Option (Nat × Value)) (v : Value) (okv : Bool), (Instr.findKey kt vi ms).run P w = .ok fnd w → (match fnd with | some (_, v') => v = v' ∧ okv = true | none => v = zv ∧ okv = false) →
              (Instr.lookup t (.map (some en.b)) vi ok).run P w = .ok (if ok then .tuple #[v, .bool okv] else v) w := by
            intro fnd v okv hf hm
            unfold Instr.lookup
            rw [run_ok (run_underlying (mapT_of hmt) w)]
            simp only
            rw [run_ok (run_getObj hh (by simp))]
            simp only
            rw [run_ok (run_pure _ w), run_ok (run_checkKey hkd), run_ok (by simpa using hf)]
            cases fnd with
            | none =>
              obtain ⟨rfl, rfl⟩ := hm
              simp only
              unfold zeroT at hzv
              cases hi : P.info? e with
              | none => simp [hi] at hzv
              | some inf =>
                simp only [hi, Option.bind_some] at hzv
                rw [run_ok (run_zeroValue hi hzv w), run_ok (run_pure _ w), run_pure]
            | some p =>
              obtain ⟨rfl, rfl⟩ := hm
              simp only
              rw [run_ok (run_pure _ w), run_pure]
          rcases run_find hkd hdv hden hall' with ⟨f1, f2⟩ | ⟨v1, j, m, f1, f2, f3, f4, f5, f6⟩
          · rw [f1] at hk3
            have hz' : SDen ρ hI z zv := chkZ_sound hz
            cases ok
            · exact ⟨_, _, hk3, hz', exec_v (run none zv false f2 ⟨rfl, rfl⟩)⟩
            · exact ⟨_, _, hk3, .tup _ [zv, .bool false] (.cons _ _ _ _ hz' (.cons _ _ _ _ (.iv _ _ (.bool _)) .nil)), exec_v (run none zv false f2 ⟨rfl, rfl⟩)⟩
          · rw [f1] at hk3
            cases ok
            · exact ⟨_, _, hk3, f2, exec_v (run _ m.val true f3 ⟨rfl, rfl⟩)⟩
            · exact ⟨_, _, hk3, .tup _ [m.val, .bool true] (.cons _ _ _ _ f2 (.cons _ _ _ _ (.iv _ _ (.bool _)) .nil)), exec_v (run _ m.val true f3 ⟨rfl, rfl⟩)⟩
        · exact hk2.elim
      · exact hv.elim
    · cases hz
  · cases ht
end
end Sg
end Go.Proofs.YtfkboondffejaaaGreatDoor
set_option linter.unusedVariables false
set_option linter.unusedSimpArgs false
namespace Go.Proofs.YtfkboondffejaaaGreatDoor
namespace Sg
variable {P : Program}
section
variable {G : Gl} {ρ : Env} {hI : Hp} {hF : Fm} {w : World} {S : SH} {nx : Nat} {fr : FT} {a : Act} {o : Oper} {K : SV → SH → Nat → Prop} {Q : Exit → Act → World → Prop}
theorem exec_b1 {b : Builtin} {x : Operand} {args : Array Operand} {ts : Array TypeId} {t : TypeId} {v : Value} {w' : World} (ho : o.op = .call { callee := .builtin b, args, argTypes := ts }) (ha : args.toList = [x]) (hT : ts.toList = [t])
    (h : ∀ cs, (builtin b #[t] o.type cs #[a.eval x]).run P w = .ok (.value v) w') : (execOp a.eval o).run P w = .ok (.value v) w' := by
  have hargs : args = #[x] := by cases args; simp_all
  have hts : ts = #[t] := by cases ts; simp_all
  subst hargs hts
  simp only [execOp, ho, resolve]
  rw [run_ok (run_pure _ w)]
  simp only [invoke, List.map_toArray, List.map_cons, List.map_nil]
  exact h _
theorem exec_b2 {b : Builtin} {x y : Operand} {args : Array Operand} {ts : Array TypeId} {t u : TypeId} {v : Value} {w' : World} (ho : o.op = .call { callee := .builtin b, args, argTypes := ts }) (ha : args.toList = [x, y]) (hT : ts.toList = [t, u])
    (h : ∀ cs, (builtin b #[t, u] o.type cs #[a.eval x, a.eval y]).run P w = .ok (.value v) w') : (execOp a.eval o).run P w = .ok (.value v) w' := by
  have hargs : args = #[x, y] := by cases args; simp_all
  have hts : ts = #[t, u] := by cases ts; simp_all
  subst hargs hts
  simp only [execOp, ho, resolve]
  rw [run_ok (run_pure _ w)]
  simp only [invoke, List.map_toArray, List.map_cons, List.map_nil]
  exact h _
theorem q_mlen {K : SV → Prop} {t : TypeId} {x : Operand} {args : Array Operand} {ts : Array TypeId} {c : Opd} (C : Cx G ρ hI hF w S nx fr a) (ho : o.op = .call { callee := .builtin .len, args, argTypes := ts }) (ha : args.toList = [x]) (hT : ts.toList = [t])
    (ht : (mapT P t).isSome = true) (h1 : chkOpd x c = true) (h : qop G S fr (.mlen c) K) : QOk P ρ hI w a o K := by
  obtain ⟨⟨k, e⟩, hmt⟩ := Option.isSome_iff_exists.1 ht
  obtain ⟨u, hu, hdu⟩ := evK_sound h1 C.g C.f (show evK G fr c _ from h)
  generalize hx : a.eval x = vx at hdu
  split at hu
  · cases hdu with | iv _ _ hd => cases hd with | nilmap =>
    refine ⟨_, _, hu, .iv _ _ (.int _ _), exec_b1 ho ha hT fun cs => ?_⟩
    rw [hx]
    simp only [builtin]
    apply exec_v
    unfold Builtin.len_
    simp only [List.getElem?_toArray, List.getElem?_cons_zero]
    rw [run_ok (run_underlying (mapT_of hmt) w)]
    rfl
  · rename_i n
    obtain ⟨ob, hob, hk2⟩ := SH.getK_iff.1 hu
    split at hk2
    · rename_i es
      obtain ⟨en, es', ms, clock, hen, hh, hperm, hden, hnd, hb, hbn, hnil⟩ := C.sat.mp hob
      cases hdu with | map _ e' he' =>
      rw [hen] at he'; cases he'
      refine ⟨_, _, hk2, .iv _ _ (.int _ _), exec_b1 ho ha hT fun cs => ?_⟩
      rw [hx]
      simp only [builtin]
      apply exec_v
      unfold Builtin.len_
      simp only [List.getElem?_toArray, List.getElem?_cons_zero]
      rw [run_ok (run_underlying (mapT_of hmt) w)]
      simp only
      rw [run_ok (run_getObj hh (by simp))]
      simp only [run_pure, goInt]
      congr 2
      simp [hden.len, hperm.length_eq]
    · exact hk2.elim
  · exact hu.elim
theorem h_mmk {t : TypeId} (C : Cx G ρ hI hF w S nx fr a) (ho : o.op = .makeMap t none) (h : hop P G S nx fr .mmk K) : o.wp P a w (Lands nx ρ hI hF a o.dst K) Q := by
  obtain ⟨r, hs⟩ := C.sat.new (o := .mp []) (ob := .map #[] 0) (cap := 0) (fun ρ' r => .mp [] [] _ [] 0 (.refl _) .nil .nil (by simp) .nil rfl)
  refine wp_value (v := .map (some w.heap.size)) (w' := push w (.map #[] 0)) ?_ ⟨_, _, _, _, _, _, rfl, h, .map _ _ (Env.set_self _ _ _), hs, r, Nat.le_succ _, Hp.sub.refl _⟩
  simp only [execOp, ho]
  apply exec_v
  rfl
theorem upd_map (C : Cx G ρ hI hF w S nx fr a) {n : Nat} {es es2 es2' : List (IV × SV)} {e : Ent} {ms : List MapEntry} {clock : Nat} {O : Obj} (g : SH.get S n = some (.mp es)) (he : ρ n = some e) (hnil : e.nil = false) (hh : w.heap[e.b]? = some O) 
    (hp : es2'.Perm es2) (hd : MDen ρ hI es2' ms) (hk : (es2.map Prod.fst).Nodup) (hb : ∀ m ∈ ms, m.born < clock) (hbn : (ms.map MapEntry.born).Nodup) : Sat ρ hI hF (setO w e.b (.map ms.toArray clock)) (SH.put S n (.mp es2)) nx :=
  C.sat.upd g he (fun h1 d => d.owns (by simp) hnil) (setO_only _ _ _) (setO_at hh) (.mp es2 es2' e ms clock hp hd hk hb hbn hnil)
theorem h_mset {s : Bool} {t : TypeId} {x k v : Operand} {c d e : Opd} (C : Cx G ρ hI hF w S nx fr a) (ho : o.op = .mapUpdate t x k v ∨ o.op = .insert t x k v) (ht : (match mapT P t with | some (k, _) => keyD P s k | none => false) = true)
    (h1 : chkOpd x c = true) (h2 : chkOpd k d = true) (h3 : chkOpd v e = true) (h : hop P G S nx fr (.mset s c d e) K) : o.wp P a w (Lands nx ρ hI hF a o.dst K) Q := by
  split at ht
  · rename_i kt et hmt
    obtain ⟨u, hu, hdu⟩ := evK_sound h1 C.g C.f (show evK G fr c _ from h)
    obtain ⟨y, hy, hdy⟩ := evK_sound h2 C.g C.f hu
    obtain ⟨z, hz, hdz⟩ := evK_sound h3 C.g C.f hy
    generalize hx : a.eval x = vx at hdu
    generalize hkk : a.eval k = vk at hdy
    generalize hvv : a.eval v = vv at hdz
    split at hz
    · rename_i n key
      obtain ⟨ob, hob, hk2⟩ := SH.getK_iff.1 hz
      split at hk2
      · rename_i es
        obtain ⟨⟨hself, hall⟩, hk3⟩ := vc_iff.1 hk2
        rw [mputK_iff, SH.putK_iff] at hk3
        obtain ⟨en, es', ms, clock, hen, hh, hperm, hden, hnd, hb, hbn, hnil⟩ := C.sat.mp hob
        cases hdu with | map _ e' he' =>
        rw [hen] at he'; cases he'
        cases hdy with | iv _ _ hdy =>
        have hall := allKeys_mem.1 hall
        have hall' : ∀ p ∈ es', isKey s key p.1 = true := fun p hp => hall p (hperm.mem_iff.1 hp)
        have hnd' : (es'.map Prod.fst).Nodup := (hperm.map Prod.fst).nodup_iff.2 hnd
        have hp2 : (mput es' key z).Perm (mput es key z) := (mput_canon hall' hnd').trans ((List.Perm.cons _ (hperm.filter _)).trans (mput_canon hall hnd).symm)
        have hk4 := mput_keys (v := z) hall hnd
        have exec : ∀ w', (Instr.mapUpdate t (.map (some en.b)) vk vv).run P w = .ok () w' → (execOp a.eval o).run P w = .ok .skip w' := by
          intro w' hr
          rcases ho with ho | ho <;> (simp only [execOp, ho, hx, hkk, hvv]; exact exec_u hr)
        rcases run_find ht hdy hden hall' with ⟨f1, f2⟩ | ⟨v1, j, m, f1, f2, f3, f4, f5, f6⟩
        · have hd2 : MDen ρ hI (mput es' key z) (ms ++ [({ key := vk, val := vv, born := clock } : MapEntry)]) := MDen.push (m := { key := vk, val := vv, born := clock }) hdy hdz hden f1
          refine wp_skip' (w' := setO w en.b (.map (ms ++ [({ key := vk, val := vv, born := clock } : MapEntry)]).toArray (clock + 1))) (exec _ ?_) ⟨_, _, _, _, _, _, rfl, hk3, .junk _, upd_map C hob hen hnil hh hp2 hd2 hk4 ?_ ?_, Env.ext.refl _ _, Nat.le_refl _, Hp.sub.refl _⟩
          · unfold Instr.mapUpdate
            rw [run_ok (run_underlying (mapT_of hmt) w)]
            simp only
            rw [run_ok (run_getObj hh (by simp))]
            simp only
            rw [run_ok (run_checkKey ht), run_ok (by simpa using f2)]
            simp only
            rw [run_setObj hh (by simp)]
            simp
          · intro m hm
            rcases List.mem_append.1 hm with hm | hm
            · have := hb m hm; omega
            · rw [List.mem_singleton.1 hm]; exact Nat.lt_succ_self _
          · rw [List.map_append, List.nodup_append]
            refine ⟨hbn, by simp, fun p hp q hq e => ?_⟩
            obtain ⟨m, hm, rfl⟩ := List.mem_map.1 hp
            simp only [List.map_cons, List.map_nil, List.mem_singleton] at hq
            have := hb m hm
            omega
        · obtain ⟨hd2, _⟩ := f6 z { m with key := vk, val := vv } hdz hdy
          have hjl : j < ms.length := (List.getElem?_eq_some_iff.1 f4).1
          have hjm : ms[j] = m := (List.getElem?_eq_some_iff.1 f4).2
          have hborn : (ms.set j { m with key := vk, val := vv }).map MapEntry.born = ms.map MapEntry.born := by
            rw [List.map_set]
            have : (ms.map MapEntry.born)[j]'(by simpa using hjl) = m.born := by simp [hjm]
            show (ms.map MapEntry.born).set j m.born = _
            rw [← this, List.set_getElem_self]
          refine wp_skip' (w' := setO w en.b (.map (ms.set j { m with key := vk, val := vv }).toArray clock)) (exec _ ?_) ⟨_, _, _, _, _, _, rfl, hk3, .junk _, upd_map C hob hen hnil hh hp2 hd2 hk4 ?_ (by rw [hborn]; exact hbn), Env.ext.refl _ _, Nat.le_refl _, Hp.sub.refl _⟩
          · unfold Instr.mapUpdate
            rw [run_ok (run_underlying (mapT_of hmt) w)]
            simp only
            rw [run_ok (run_getObj hh (by simp))]
            simp only
            rw [run_ok (run_checkKey ht), run_ok (by simpa using f3)]
            simp only [List.getElem?_toArray, f4, Option.map_some, Option.getD_some]
            unfold Instr.keyThatStays
            rw [same_bits hself f5 hdy]
            simp only [if_true]
            rw [run_ok (run_pure _ w), run_setObj hh (by simp)]
            congr 3
            apply Array.ext'
            simp only [Array.toList_modify]
            refine List.ext_getElem? fun i => ?_
            rw [List.getElem?_modify, List.getElem?_set]
            by_cases hij : j = i
            · subst hij; rw [f4]; simp [hjl]
            · simp [hij]
          · intro q hq
            have : q.born ∈ (ms.set j { m with key := vk, val := vv }).map MapEntry.born := List.mem_map.2 ⟨q, hq, rfl⟩
            rw [hborn] at this
            obtain ⟨q', hq', e⟩ := List.mem_map.1 this
            rw [← e]; exact hb q' hq'
      · exact hk2.elim
    · exact hz.elim
  · cases ht
theorem h_mdel {s : Bool} {t t2 : TypeId} {x k : Operand} {args : Array Operand} {ts : Array TypeId} {c d : Opd} (C : Cx G ρ hI hF w S nx fr a) (ho : o.op = .call { callee := .builtin .delete, args, argTypes := ts }) (ha : args.toList = [x, k]) (hT : ts.toList = [t, t2])
    (ht : (match mapT P t with | some (k, _) => keyD P s k | none => false) = true) (h1 : chkOpd x c = true) (h2 : chkOpd k d = true) (h : hop P G S nx fr (.mdel s c d) K) : o.wp P a w (Lands nx ρ hI hF a o.dst K) Q := by
  split at ht
  · rename_i kt et hmt
    obtain ⟨u, hu, hdu⟩ := evK_sound h1 C.g C.f (show evK G fr c _ from h)
    obtain ⟨y, hy, hdy⟩ := evK_sound h2 C.g C.f hu
    generalize hx : a.eval x = vx at hdu
    generalize hkk : a.eval k = vk at hdy
    split at hy
    · rename_i n key
      obtain ⟨ob, hob, hk2⟩ := SH.getK_iff.1 hy
      split at hk2
      · rename_i es
        obtain ⟨⟨hself, hall⟩, hk3⟩ := vc_iff.1 hk2
        rw [mdelK_iff, SH.putK_iff] at hk3
        obtain ⟨en, es', ms, clock, hen, hh, hperm, hden, hnd, hb, hbn, hnil⟩ := C.sat.mp hob
        cases hdu with | map _ e' he' =>
        rw [hen] at he'; cases he'
        cases hdy with | iv _ _ hdy =>
        have hall := allKeys_mem.1 hall
        have hall' : ∀ p ∈ es', isKey s key p.1 = true := fun p hp => hall p (hperm.mem_iff.1 hp)
        have hnd' : (es'.map Prod.fst).Nodup := (hperm.map Prod.fst).nodup_iff.2 hnd
        have hp2 : (mdel es' key).Perm (mdel es key) := by rw [mdel_canon hall' hnd', mdel_canon hall hnd]; exact hperm.filter _
        have hk4 := mdel_keys hall hnd
        rcases run_find ht hdy hden hall' with ⟨f1, f2⟩ | ⟨v1, j, m, f1, f2, f3, f4, f5, f6⟩
        · have hd2 : MDen ρ hI (mdel es' key) ms := by rw [mdel_none f1]; exact hden
          refine wp_value (v := .tuple #[]) (w' := setO w en.b (.map ms.toArray clock)) (exec_b2 ho ha hT fun cs => ?_) ⟨_, _, _, _, _, _, rfl, hk3, .junk _, upd_map C hob hen hnil hh hp2 hd2 hk4 hb hbn, Env.ext.refl _ _, Nat.le_refl _, Hp.sub.refl _⟩
          rw [hx, hkk]
          simp only [builtin]
          apply exec_v
          unfold Builtin.delete_
          simp only [List.getElem?_toArray, List.getElem?_cons_zero, List.getElem?_cons_succ]
          rw [run_ok (run_underlying (mapT_of hmt) w)]
          simp only
          rw [run_ok (run_getObj hh (by simp))]
          simp only
          rw [run_ok (run_checkKey ht), run_ok (by simpa using f2)]
          simp only
          rw [run_ok (run_setObj hh (by simp))]
          rfl
        · obtain ⟨_, hd2⟩ := f6 v1 m f2 f5
          refine wp_value (v := .tuple #[]) (w' := setO w en.b (.map (ms.eraseIdx j).toArray clock)) (exec_b2 ho ha hT fun cs => ?_) ⟨_, _, _, _, _, _, rfl, hk3, .junk _, upd_map C hob hen hnil hh hp2 hd2 hk4 ?_ ?_, Env.ext.refl _ _, Nat.le_refl _, Hp.sub.refl _⟩
          · rw [hx, hkk]
            simp only [builtin]
            apply exec_v
            unfold Builtin.delete_
            simp only [List.getElem?_toArray, List.getElem?_cons_zero, List.getElem?_cons_succ]
            rw [run_ok (run_underlying (mapT_of hmt) w)]
            simp only
            rw [run_ok (run_getObj hh (by simp))]
            simp only
            rw [run_ok (run_checkKey ht), run_ok (by simpa using f3)]
            simp only
            rw [run_ok (w' := setO w en.b (.map (ms.eraseIdx j).toArray clock)) (a := ()) (by rw [run_setObj hh (by simp)]; congr 2; simp)]
            rfl
          · exact fun q hq => hb q ((List.eraseIdx_sublist ms j).mem hq)
          · exact ((List.eraseIdx_sublist ms j).map _).nodup hbn
      · exact hk2.elim
    · exact hy.elim
  · cases ht
theorem h_mclr {t : TypeId} {x : Operand} {args : Array Operand} {ts : Array TypeId} {c : Opd} (C : Cx G ρ hI hF w S nx fr a) (ho : o.op = .call { callee := .builtin .clear, args, argTypes := ts }) (ha : args.toList = [x]) (hT : ts.toList = [t])
    (ht : (mapT P t).isSome = true) (h1 : chkOpd x c = true) (h : hop P G S nx fr (.mclr c) K) : o.wp P a w (Lands nx ρ hI hF a o.dst K) Q := by
  obtain ⟨⟨k, e⟩, hmt⟩ := Option.isSome_iff_exists.1 ht
  obtain ⟨u, hu, hdu⟩ := evK_sound h1 C.g C.f (show evK G fr c _ from h)
  generalize hx : a.eval x = vx at hdu
  split at hu
  · rename_i n
    obtain ⟨ob, hob, hk2⟩ := SH.getK_iff.1 hu
    split at hk2
    · rename_i es
      rw [SH.putK_iff] at hk2
      obtain ⟨en, es', ms, clock, hen, hh, hperm, hden, hnd, hb, hbn, hnil⟩ := C.sat.mp hob
      cases hdu with | map _ e' he' =>
      rw [hen] at he'; cases he'
      refine wp_value (v := .tuple #[]) (w' := setO w en.b (.map #[] clock)) (exec_b1 ho ha hT fun cs => ?_) ⟨_, _, _, _, _, _, rfl, hk2, .junk _, upd_map C hob hen hnil hh (ms := []) (es2' := []) (.refl _) .nil .nil (by simp) .nil, Env.ext.refl _ _, Nat.le_refl _, Hp.sub.refl _⟩
      rw [hx]
      simp only [builtin]
      apply exec_v
      unfold Builtin.clear_
      simp only [List.getElem?_toArray, List.getElem?_cons_zero]
      rw [run_ok (run_underlying (mapT_of hmt) w), run_ok (run_getObj hh (by simp)), run_ok (run_setObj hh (by simp))]
      rfl
    · exact hk2.elim
  · exact hu.elim
end
end Sg
end Go.Proofs.YtfkboondffejaaaGreatDoor
set_option linter.unusedVariables false
set_option linter.unusedSimpArgs false
namespace Go.Proofs.YtfkboondffejaaaGreatDoor
namespace Sg
variable {P : Program}
def CA (w : World) (u : Value) (new : List UInt8) : Prop :=
  (∃ c, u = .slice none 0 c ∧ new = []) ∨ (∃ A c, u = .slice (some A) new.length c ∧ ∀ (j : Nat) (v : Value), (new.map bv)[j]? = some v → w.cell? (A.add j) = some v) ∨ u = .string ⟨new.toArray⟩
section
variable {G : Gl} {ρ : Env} {hI : Hp} {hF : Fm} {w : World} {S : SH} {nx : Nat} {fr : FT} {a : Act} {o : Oper} {K : SV → SH → Nat → Prop} {Q : Exit → Act → World → Prop}
theorem cont_cells {x : SV} {u : Value} {K : List UInt8 → Prop} (h : Sat ρ hI hF w S nx) (hd : SDen ρ hI x u) (hc : contK S x K) : ∃ new, K new ∧ CA w u new := by
  unfold contK at hc
  split at hc
  · cases hd with | iv _ _ hd => cases hd with | nilsl => exact ⟨[], hc, .inl ⟨0, rfl, rfl⟩⟩
  · rename_i l
    cases hd with | iv _ _ hd => cases hd with
    | ib _ b o cap hcs hl =>
      refine ⟨l, hc, .inr (.inl ⟨⟨b, o, none⟩, cap, rfl, fun j v hj => ?_⟩)⟩
      rw [addr_add]
      simp only [List.getElem?_map, Option.map_eq_some_iff] at hj
      obtain ⟨y, hy, rfl⟩ := hj
      exact cell_hI h.hI (hcs j y hy)
    | ib0 A cap =>
      cases A with
      | none => exact ⟨[], hc, .inl ⟨cap, rfl, rfl⟩⟩
      | some A => exact ⟨[], hc, .inr (.inl ⟨A, cap, rfl, fun j v hj => by simp at hj⟩)⟩
  · rename_i l
    cases hd with | iv _ _ hd => cases hd with
    | str => exact ⟨l, hc, .inr (.inr rfl)⟩
  · rename_i sz n off len
    obtain ⟨ob, hob, hk2⟩ := SH.getK_iff.1 hc
    split at hk2
    · rename_i l
      obtain ⟨⟨rfl, hle⟩, hk3⟩ := vc_iff.1 hk2
      have hlen : (sub l off len).length = len := by simp [sub]; omega
      obtain ⟨e, he, hcase⟩ := h.bytes hob
      refine ⟨_, hk3, ?_⟩
      cases hd with
      | slnil _ _ e' he' hn' => exact .inl ⟨0, rfl, by simp [sub]⟩
      | sl _ _ _ _ e' A he' hn' hA hl' =>
        rw [he] at he'; cases he'
        refine .inr (.inl ⟨A, _, by rw [hlen], fun j v hj => ?_⟩)
        simp only [List.getElem?_map, Option.map_eq_some_iff] at hj
        obtain ⟨y, hy, rfl⟩ := hj
        have hj : j < len := by rw [← hlen]; exact (List.getElem?_eq_some_iff.1 hy).1
        rw [hA (.inl (by omega)), addr_add]
        rcases hcase with ⟨_, h0⟩ | ⟨rest, T, fz, hh, hnil, hcap, hf⟩
        · subst h0; simp at hle; omega
        · rw [cell_of hh]
          unfold sub at hy
          rw [List.getElem?_take_of_lt hj, List.getElem?_drop] at hy
          have : off + j < l.length := (List.getElem?_eq_some_iff.1 hy).1
          simp only [List.getElem?_toArray]
          rw [Nat.mul_one, List.getElem?_append_left (by simpa using this), List.getElem?_map, hy]
          rfl
    · exact hk2.elim
  · rename_i sz n off len cap
    obtain ⟨ob, hob, hk2⟩ := SH.getK_iff.1 hc
    split at hk2
    · rename_i cs
      obtain ⟨e, vs, T, fz, he, hds, hh, hnil, hcap, hf⟩ := h.cells hob
      obtain ⟨r, hk3, hr, hlr⟩ := dropK_sound hds hk2
      split at hk3
      · rename_i m l tl
        obtain ⟨⟨rfl, hle⟩, hk4⟩ := vc_iff.1 hk3
        cases hd with | slx _ _ _ _ _ e' he' hlc =>
        rw [he] at he'; cases he'
        generalize hvd : vs.drop off = vd at hr
        obtain ⟨vs', rfl, hl, hs'⟩ := sbs_inv hr
        have hlen : (sub l 0 len).length = len := by simp [sub]; omega
        refine ⟨_, hk4, .inr (.inl ⟨⟨e.b, off, none⟩, cap, by rw [hlen], fun j v hj => ?_⟩)⟩
        simp only [List.getElem?_map, Option.map_eq_some_iff] at hj
        obtain ⟨y, hy, rfl⟩ := hj
        have hj : j < len := by rw [← hlen]; exact (List.getElem?_eq_some_iff.1 hy).1
        rw [addr_add, cell_of hh]
        unfold sub at hy
        rw [List.drop_zero, List.getElem?_take_of_lt hj] at hy
        simp only [List.getElem?_toArray]
        rw [← List.getElem?_drop, hvd, List.getElem?_append_left (by simp; omega), List.getElem?_map, hy]
        rfl
      · exact hk3.elim
    · exact hk2.elim
  · exact hc.elim
theorem run_loadBytes : ∀ (l : List UInt8) (A : Addr) (acc : ByteArray), (∀ (j : Nat) (v : Value), (l.map bv)[j]? = some v → w.cell? (A.add j) = some v) → (Extern.Bytes.loadBytes A l.length acc).run P w = .ok ⟨acc.data ++ l.toArray⟩ w
  | [], A, acc, _ => by
    simp only [List.length_nil, Extern.Bytes.loadBytes, run_pure]
    congr 1
  | b :: l, A, acc, h => by
    simp only [List.length_cons, Extern.Bytes.loadBytes]
    have h0 := h 0 (bv b) (by simp)
    rw [run_ok (run_load (v := bv b) (by simpa [Addr.add] using h0))]
    simp only [bv]
    have ih := run_loadBytes l (A.add 1) (acc.push b) fun j v hj => by
      have := h (j + 1) v (by simpa using hj)
      rw [← this]
      congr 1
      unfold Addr.add
      by_cases hj0 : j = 0
      · subst hj0; simp
      · simp [hj0]; omega
    have e : ((b.toNat : Int).toNat.toUInt8) = b := by simp
    rw [e, ih]
    congr 2
    simp [ByteArray.push]
theorem run_bytesOf {u : Value} {l : List UInt8} (h : CA w u l) : (Extern.Bytes.bytesOf u).run P w = .ok ⟨l.toArray⟩ w := by
  rcases h with ⟨c, rfl, rfl⟩ | ⟨A, c, rfl, hc⟩ | rfl
  · rfl
  · unfold Extern.Bytes.bytesOf
    simp only
    rw [run_loadBytes l A .empty hc]
    congr 2
    simp [ByteArray.empty, ByteArray.emptyWithCapacity]
    rfl
  · rfl
theorem ba_get (l : List UInt8) (i : Nat) : (⟨l.toArray⟩ : ByteArray)[i]! = l.getD i 0 := by
  by_cases h : i < l.length
  · rw [getElem!_pos _ i (by rw [ba_size]; exact h)]
    show l.toArray[i] = _
    simp [List.getD_eq_getElem?_getD, h]
  · rw [getElem!_neg _ i (by rw [ba_size]; exact h)]
    simp only [List.getD_eq_getElem?_getD]
    rw [List.getElem?_eq_none (by omega)]
    rfl
theorem cmp_eq : ∀ (a b : List UInt8), Extern.BytealgCompare.cmp ⟨a.toArray⟩ ⟨b.toArray⟩ = cmpL a b
  | [], [] => by simp [Extern.BytealgCompare.cmp, ba_size, cmpL]
  | [], b :: m => by simp [Extern.BytealgCompare.cmp, ba_size, cmpL]
  | a :: l, [] => by simp [Extern.BytealgCompare.cmp, ba_size, cmpL]
  | a :: l, b :: m => by
    have ih := cmp_eq l m
    unfold Extern.BytealgCompare.cmp at ih ⊢
    simp only [ba_size, ba_get] at ih ⊢
    simp only [List.length_cons, cmpL]
    rw [show min (l.length + 1) (m.length + 1) = min l.length m.length + 1 by omega, List.range_succ_eq_map, List.find?_cons]
    by_cases hab : a = b
    · subst hab
      simp only [List.getD_cons_zero, bne_self_eq_false, if_true]
      rw [← ih, List.find?_map]
      have : ((fun i => (a :: l).getD i 0 != (a :: m).getD i 0) ∘ Nat.succ) = fun i => l.getD i 0 != m.getD i 0 := by
        funext i; simp
      rw [this]
      cases (List.range (min l.length m.length)).find? fun i => l.getD i 0 != m.getD i 0 with
      | none =>
        simp only [Option.map_none]
        by_cases h1 : l.length < m.length
        · rw [if_pos (by omega), if_pos h1]
        · rw [if_neg (by omega), if_neg h1]
          by_cases h2 : l.length > m.length
          · rw [if_pos (by omega), if_pos h2]
          · rw [if_neg (by omega), if_neg h2]
      | some i => simp
    · have : ((a :: l).getD 0 0 != (b :: m).getD 0 0) = true := by simpa using hab
      rw [this]
      simp only [List.getD_cons_zero]
      rw [if_neg hab]
      rfl
theorem find_cmp {fn : Func} (h : fn.name = "internal/bytealg.Compare") : Extern.find fn = some Extern.BytealgCompare.compare := by
  unfold Extern.find
  rw [h]
  have e1 : Extern.allGenericRows.lookup "internal/bytealg.Compare" = none := by kernel_rfl
  have e2 : Extern.allTypedRows.lookup "internal/bytealg.Compare" = none := by kernel_rfl
  have e3 : Extern.allRows.lookup "internal/bytealg.Compare" = some Extern.BytealgCompare.compare := by kernel_rfl
  simp only [e1, e2, e3]
  rfl
def isCmp (P : Program) (f : Nat) : Bool := match P.funcs[f]? with
  | some fn => (fn.name == "internal/bytealg.Compare") && fn.body.isNone && (Extern.findNext fn).isNone
  | none => false
theorem q_cmpb {K : SV → Prop} {f : Nat} {x y : Operand} {args : Array Operand} {argTypes : Array TypeId} {c d : Opd} (C : Cx G ρ hI hF w S nx fr a) (ho : o.op = .call { callee := .value (.func f), args, argTypes }) (ha : args.toList = [x, y]) (hf : isCmp P f = true)
    (h1 : chkOpd x c = true) (h2 : chkOpd y d = true) (h : qop G S fr (.cmpb f c d) K) : QOk P ρ hI w a o K := by
  obtain ⟨u, hu, hdu⟩ := evK_sound h1 C.g C.f (show evK G fr c _ from h)
  obtain ⟨v, hv, hdv⟩ := evK_sound h2 C.g C.f hu
  obtain ⟨l, hl, hcl⟩ := cont_cells C.sat hdu hv
  obtain ⟨m, hm, hcm⟩ := cont_cells C.sat hdv hl
  refine ⟨_, _, hm, .iv _ _ (.int _ _), ?_⟩
  have hargs : args = #[x, y] := by cases args; simp_all
  subst hargs
  unfold isCmp at hf
  split at hf
  · rename_i fn hfn
    simp only [Bool.and_eq_true, beq_iff_eq, Option.isNone_iff_eq_none] at hf
    obtain ⟨⟨hname, hbody⟩, hnext⟩ := hf
    simp only [execOp, ho, resolve]
    have e1 : (Deferred.ofValue (a.eval (.func f)) (#[x, y].map a.eval)).run P w = .ok { target := .fn (.func f) #[], args := #[x, y].map a.eval } w := by
      simp [Act.eval, Deferred.ofValue, run_pure]
    rw [run_ok e1]
    simp only [invoke, callFunc]
    rw [run_ok (run_program w)]
    have hn : (fn.name == "runtime.NumGoroutine") = false := by rw [hname]; decide
    simp only [hfn, hn, hbody, Option.isNone_none, Bool.false_eq_true, if_false, if_true, hnext, find_cmp hname]
    rw [run_ok (a := ()) (w' := w) rfl]
    simp only [List.map_toArray, List.map_cons, List.map_nil, Array.append_empty]
    refine (run_ok (a := goInt (cmpL l m)) (w' := w) ?_).trans rfl
    show (do let x ← Extern.Bytes.bytesOf (a.eval x); let y ← Extern.Bytes.bytesOf (a.eval y); pure (goInt (Extern.BytealgCompare.cmp x y)) : Sem Value).run P w = _
    rw [run_ok (run_bytesOf hcl), run_ok (run_bytesOf hcm), cmp_eq]
    rfl
  · cases hf
theorem src_ca {x : SV} {u : Value} {K : List UInt8 → Prop} (h : Sat ρ hI hF w S nx) (hd : SDen ρ hI x u) (hc : srcK S x K) : ∃ new, K new ∧ ((∃ c, u = .slice none 0 c ∧ new = []) ∨ ∃ A c, u = .slice (some A) new.length c ∧ ∀ (j : Nat) (v : Value), (new.map bv)[j]? = some v → w.cell? (A.add j) = some v) := by
  unfold srcK at hc
  split at hc
  · exact hc.elim
  · rename_i hns
    obtain ⟨new, hk, hca⟩ := cont_cells h hd hc
    refine ⟨new, hk, ?_⟩
    rcases hca with h1 | h1 | h1
    · exact .inl h1
    · exact .inr h1
    · exfalso
      subst h1
      cases hd with
      | iv _ _ hd => cases hd with | str => exact hns _ rfl
      | junk => unfold contK at hc; exact hc
theorem cont_ints {x : SV} {u : Value} {K : IntKind → List Int → Prop} (h : Sat ρ hI hF w S nx) (hd : SDen ρ hI x u) (hc : contIK S x K) : ∃ kd new, K kd new ∧ ∃ A c, u = .slice (some A) new.length c ∧ ∀ (j : Nat) (v : Value), (new.map (Value.int kd))[j]? = some v → w.cell? (A.add j) = some v := by
  unfold contIK at hc
  split at hc
  · rename_i sz n off len cap
    obtain ⟨ob, hob, hk2⟩ := SH.getK_iff.1 hc
    split at hk2
    · rename_i cs
      obtain ⟨e, vs, T, fz, he, hds, hh, hnil, hcap, hf⟩ := h.cells hob
      obtain ⟨r, hk3, hr, hlr⟩ := dropK_sound hds hk2
      split at hk3
      · rename_i kd m l tl
        obtain ⟨⟨rfl, hle⟩, hk4⟩ := vc_iff.1 hk3
        cases hd with | slx _ _ _ _ _ e' he' hlc =>
        rw [he] at he'; cases he'
        generalize hvd : vs.drop off = vd at hr
        obtain ⟨vs', rfl, hl, hs'⟩ := sis_inv hr
        have hlen : (sub l 0 len).length = len := by simp [sub]; omega
        refine ⟨kd, _, hk4, ⟨e.b, off, none⟩, cap, by rw [hlen], fun j v hj => ?_⟩
        simp only [List.getElem?_map, Option.map_eq_some_iff] at hj
        obtain ⟨y, hy, rfl⟩ := hj
        have hj : j < len := by rw [← hlen]; exact (List.getElem?_eq_some_iff.1 hy).1
        rw [addr_add, cell_of hh]
        unfold sub at hy
        rw [List.drop_zero, List.getElem?_take_of_lt hj] at hy
        simp only [List.getElem?_toArray]
        rw [← List.getElem?_drop, hvd, List.getElem?_append_left (by simp; omega), List.getElem?_map, hy]
        rfl
      · exact hk3.elim
    · exact hk2.elim
  · exact hc.elim
theorem run_copy {t t2 e ty : TypeId} {b off len cap : Nat} {vy : Value} {news c : List Value} {T : TypeId} {fz : Nat × Nat} (ht : P.underlying t = some (.slice e)) (hs : sizeT P e = some 1)
    (hy : (news = [] ∧ ∃ cp, vy = .slice none 0 cp) ∨ ∃ A cp, vy = .slice (some A) news.length cp ∧ ∀ (j : Nat) (v : Value), news[j]? = some v → w.cell? (A.add j) = some v)
    (hh : w.heap[b]? = some (.cells c.toArray T fz)) (hl : off + len ≤ c.length) (hf : Unfrozen c.length fz) (h1 : ∀ v ∈ news, one1 v = true) :
    (Builtin.copy_ #[t, t2] ty #[.slice (some ⟨b, off, none⟩) len cap, vy]).run P w = .ok (.int .i64 (min news.length len : Nat)) (w.setRow b (splice1 c off (news.take len)).toArray) := by
  obtain ⟨i, hi, hin⟩ := sizeT_of hs
  unfold Builtin.copy_
  simp only [List.getElem?_toArray, List.getElem?_cons_zero, List.getElem?_cons_succ]
  rw [run_ok (run_underlying ht w)]
  simp only
  have hlen : (Builtin.lenOf vy).run P w = .ok news.length w := by
    rcases hy with ⟨rfl, cp, rfl⟩ | ⟨A, cp, rfl, _⟩ <;> rfl
  rw [run_ok hlen, run_ok (run_sizeOf hi w), hin]
  have hcells : (Builtin.firstCells 1 (Nat.min news.length len) vy).run P w = .ok (news.take len).toArray w := by
    rcases hy with ⟨rfl, cp, rfl⟩ | ⟨A, cp, rfl, hc⟩
    · simpa using run_firstCells_none w 1 (Nat.min 0 len) 0 cp
    · refine run_firstCells_some w 1 _ A _ _ (news.take len) (by simp [Nat.min_comm]) fun j v hj => hc j v ?_
      have hjl : j < len := by have := (List.getElem?_eq_some_iff.1 hj).1; simp at this; omega
      rwa [List.getElem?_take_of_lt hjl] at hj
  rw [run_ok hcells]
  simp only
  rw [run_ok (run_storeCells (news.take len) 0 off c w hh (by simp; omega) hf fun v hv => h1 v (List.mem_of_mem_take hv))]
  rfl
theorem splice_chunk {α : Type} {f : α → Value} {l src : List α} {vs : List Value} {off : Nat} (h : off + src.length ≤ l.length) : splice1 (l.map f ++ vs) off (src.map f) = (splice1 l off src).map f ++ vs := by
  unfold splice1
  rw [List.take_append_of_le_length (by simp; omega), List.drop_append_of_le_length (by simp; omega)]
  simp [List.map_take, List.map_drop]
theorem splice_skip {pre vs us : List Value} {off : Nat} (h : pre.length ≤ off) : splice1 (pre ++ vs) off us = pre ++ splice1 vs (off - pre.length) us := by
  unfold splice1
  rw [List.take_append, List.drop_append, List.take_of_length_le h, List.drop_of_length_le (by omega)]
  simp only [List.nil_append, List.append_assoc]
  congr 4
  omega
theorem spliceBK_sound : ∀ {cs : List SV} {off : Nat} {src : List UInt8} {vs : List Value} {K : List SV → Prop}, SDens ρ hI cs vs → spliceBK cs off src K → ∃ cs', K cs' ∧ SDens ρ hI cs' (splice1 vs off (src.map bv)) ∧ off + src.length ≤ vs.length
  | [], off, src, vs, K, _, h => by simp [spliceBK] at h
  | x :: xs, off, src, _, K, .one _ v _ vs hd ho hs, h => by
    unfold spliceBK at h
    split at h
    · rename_i e; cases e
    · rename_i e; cases e; exact (no_sbs hd).elim
    · rename_i e; cases e; exact (no_sis hd).elim
    · exact h.elim
    · rename_i e; cases e
      obtain ⟨cs', a, b, c⟩ := spliceBK_sound hs h
      refine ⟨_, a, ?_, by simp only [List.length_cons]; omega⟩
      rw [show v :: vs = [v] ++ vs from rfl, splice_skip (by simp)]
      exact .one _ _ _ _ hd ho (by simpa using b)
  | _ :: xs, off, src, _, K, .sbs n l _ vs hl hs, h => by
    simp only [spliceBK] at h
    cases hb : Nat.blt off n
    · rw [hb] at h
      have hge : n ≤ off := by
        rcases Nat.lt_or_ge off n with h1 | h1
        · have := blt_of h1; rw [hb] at this; cases this
        · exact h1
      obtain ⟨cs', a, b, c⟩ := spliceBK_sound hs h
      refine ⟨_, a, ?_, by simp only [List.length_append, List.length_map]; omega⟩
      rw [splice_skip (by simpa [hl] using hge)]
      exact .sbs _ _ _ _ hl (by simpa [hl] using b)
    · rw [hb] at h
      obtain ⟨hle, hk⟩ := vc_iff.1 (show vc _ _ from h)
      refine ⟨_, hk, ?_, by simp only [List.length_append, List.length_map]; omega⟩
      rw [splice_chunk (by omega)]
      exact .sbs _ _ _ _ (by unfold splice1; simp; omega) hs
  | _ :: xs, off, src, _, K, .sis kd n l _ vs hl hs, h => by
    simp only [spliceBK] at h
    cases hb : Nat.blt off n
    · rw [hb] at h
      have hge : n ≤ off := by
        rcases Nat.lt_or_ge off n with h1 | h1
        · have := blt_of h1; rw [hb] at this; cases this
        · exact h1
      obtain ⟨cs', a, b, c⟩ := spliceBK_sound hs h
      refine ⟨_, a, ?_, by simp only [List.length_append, List.length_map]; omega⟩
      rw [splice_skip (by simpa [hl] using hge)]
      exact .sis _ _ _ _ _ hl (by simpa [hl] using b)
    · rw [hb] at h
      exact h.elim
theorem spliceIK_sound {kd : IntKind} : ∀ {cs : List SV} {off : Nat} {src : List Int} {vs : List Value} {K : List SV → Prop}, SDens ρ hI cs vs → spliceIK kd cs off src K → ∃ cs', K cs' ∧ SDens ρ hI cs' (splice1 vs off (src.map (Value.int kd))) ∧ off + src.length ≤ vs.length
  | [], off, src, vs, K, _, h => by simp [spliceIK] at h
  | x :: xs, off, src, _, K, .one _ v _ vs hd ho hs, h => by
    unfold spliceIK at h
    split at h
    · rename_i e; cases e
    · rename_i e; cases e; exact (no_sis hd).elim
    · rename_i e; cases e; exact (no_sbs hd).elim
    · exact h.elim
    · rename_i e; cases e
      obtain ⟨cs', a, b, c⟩ := spliceIK_sound hs h
      refine ⟨_, a, ?_, by simp only [List.length_cons]; omega⟩
      rw [show v :: vs = [v] ++ vs from rfl, splice_skip (by simp)]
      exact .one _ _ _ _ hd ho (by simpa using b)
  | _ :: xs, off, src, _, K, .sis k n l _ vs hl hs, h => by
    simp only [spliceIK] at h
    cases hb : Nat.blt off n
    · rw [hb] at h
      have hge : n ≤ off := by
        rcases Nat.lt_or_ge off n with h1 | h1
        · have := blt_of h1; rw [hb] at this; cases this
        · exact h1
      obtain ⟨cs', a, b, c⟩ := spliceIK_sound hs h
      refine ⟨_, a, ?_, by simp only [List.length_append, List.length_map]; omega⟩
      rw [splice_skip (by simpa [hl] using hge)]
      exact .sis _ _ _ _ _ hl (by simpa [hl] using b)
    · rw [hb] at h
      obtain ⟨⟨rfl, hle⟩, hk⟩ := vc_iff.1 (show vc _ _ from h)
      refine ⟨_, hk, ?_, by simp only [List.length_append, List.length_map]; omega⟩
      rw [splice_chunk (by omega)]
      exact .sis _ _ _ _ _ (by unfold splice1; simp; omega) hs
  | _ :: xs, off, src, _, K, .sbs n l _ vs hl hs, h => by
    simp only [spliceIK] at h
    cases hb : Nat.blt off n
    · rw [hb] at h
      have hge : n ≤ off := by
        rcases Nat.lt_or_ge off n with h1 | h1
        · have := blt_of h1; rw [hb] at this; cases this
        · exact h1
      obtain ⟨cs', a, b, c⟩ := spliceIK_sound hs h
      refine ⟨_, a, ?_, by simp only [List.length_append, List.length_map]; omega⟩
      rw [splice_skip (by simpa [hl] using hge)]
      exact .sbs _ _ _ _ hl (by simpa [hl] using b)
    · rw [hb] at h
      exact h.elim
theorem h_cpy {x y : Operand} {args : Array Operand} {ts : Array TypeId} {t t2 e : TypeId} {c d : Opd} (C : Cx G ρ hI hF w S nx fr a) (ho : o.op = .call { callee := .builtin .copy, args, argTypes := ts }) (ha : args.toList = [x, y]) (hT : ts.toList = [t, t2])
    (ht : P.underlying t = some (.slice e)) (hs : sizeT P e = some 1) (h1 : chkOpd x c = true) (h2 : chkOpd y d = true) (h : hop P G S nx fr (.cpy c d) K) : o.wp P a w (Lands nx ρ hI hF a o.dst K) Q := by
  obtain ⟨u, hu, hdu⟩ := evK_sound h1 C.g C.f (show evK G fr c _ from h)
  obtain ⟨v, hv, hdv⟩ := evK_sound h2 C.g C.f hu
  generalize hx : a.eval x = vx at hdu
  generalize hy : a.eval y = vy at hdv
  have exec : ∀ (b off len cap : Nat) (news cc : List Value) (T : TypeId) (fz : Nat × Nat) (S' : SH), vx = .slice (some ⟨b, off, none⟩) len cap →
      ((news = [] ∧ ∃ cp, vy = .slice none 0 cp) ∨ ∃ A cp, vy = .slice (some A) news.length cp ∧ ∀ (j : Nat) (v : Value), news[j]? = some v → w.cell? (A.add j) = some v) →
      w.heap[b]? = some (.cells cc.toArray T fz) → off + len ≤ cc.length → Unfrozen cc.length fz → (∀ v ∈ news, one1 v = true) → K (.iv (.int .i64 (min news.length len : Nat))) S' nx →
      Sat ρ hI hF (w.setRow b (splice1 cc off (news.take len)).toArray) S' nx → o.wp P a w (Lands nx ρ hI hF a o.dst K) Q := by
    intro b off len cap news cc T fz S' e1 e2 e3 e4 e5 e6 e7 e8
    refine wp_value (v := .int .i64 (min news.length len : Nat)) (exec_b2 ho ha hT fun cs => ?_) ⟨_, _, _, _, _, _, rfl, e7, .iv _ _ (.int _ _), e8, Env.ext.refl _ _, Nat.le_refl _, Hp.sub.refl _⟩
    rw [hx, hy, e1]
    simp only [builtin]
    exact exec_v (run_copy ht hs e2 e3 e4 e5 e6)
  split at hv
  · rename_i sz n off len
    obtain ⟨ob, hob, hk2⟩ := SH.getK_iff.1 hv
    split at hk2
    · rename_i l
      obtain ⟨new, hk3, hsrc⟩ := src_ca C.sat hdv hk2
      obtain ⟨⟨rfl, hpos, hle⟩, hk4⟩ := vc_iff.1 hk3
      rw [SH.putK_iff] at hk4
      obtain ⟨en, hen, hcase⟩ := C.sat.bytes hob
      rcases hcase with ⟨_, h0⟩ | ⟨rest, T, fz, hh, hnil, hcap, hf⟩
      · subst h0; simp at hle; omega
      · cases hdu with
        | slnil => omega
        | sl _ _ _ _ e' A he' hn' hA hl' =>
          rw [hen] at he'; cases he'
          have hA' := hA (.inl hpos)
          rw [Nat.mul_one] at hA'
          subst hA'
          have hsp : splice1 (l.map bv ++ rest) off ((new.map bv).take len) = (splice1 l off (new.take len)).map bv ++ rest := by
            unfold splice1
            rw [List.take_append_of_le_length (by simp; omega), List.drop_append_of_le_length (by simp; omega)]
            simp [List.map_take, List.map_drop]
          have hlen : (splice1 l off (new.take len)).length = l.length := by
            unfold splice1; simp; omega
          refine exec en.b off len _ (new.map bv) (l.map bv ++ rest) T fz _ rfl ?_ hh (by simp; omega) (by rw [List.length_append, List.length_map, ← hcap]; exact hf) (fun v hv => by obtain ⟨b, _, rfl⟩ := List.mem_map.1 hv; rfl) (by simpa using hk4) ?_
          · rcases hsrc with ⟨cp, h1, rfl⟩ | ⟨A, cp, h1, h2⟩
            · exact .inl ⟨rfl, cp, h1⟩
            · exact .inr ⟨A, cp, by simpa using h1, h2⟩
          · rw [hsp]
            exact upd_row C hob hen (by simp) hnil hh (.bytes _ _ rest T fz hnil (by rw [hlen]; exact hcap) hf)
    · exact hk2.elim
  · rename_i sz n off len cap
    obtain ⟨ob, hob, hk2⟩ := SH.getK_iff.1 hv
    split at hk2
    · rename_i cs
      obtain ⟨en, vals, T, fz, hen, hds, hh, hnil, hcap, hf⟩ := C.sat.cells hob
      obtain ⟨r, hk3, hr, hlr⟩ := dropK_sound hds hk2
      cases hdu with | slx _ _ _ _ _ e' he' hlc =>
      rw [hen] at he'; cases he'
      generalize hvd : vals.drop off = vd at hr
      have hvl : vd.length = vals.length - off := by rw [← hvd]; simp
      split at hk3
      · rename_i m l0 tl
        obtain ⟨new, hk4, hsrc⟩ := src_ca C.sat hdv hk3
        obtain ⟨⟨rfl, hle⟩, hk5⟩ := vc_iff.1 hk4
        obtain ⟨vs', rfl, hl, hs'⟩ := sbs_inv hr
        obtain ⟨cs', hk6, hd6, hl6⟩ := spliceBK_sound hds hk5
        rw [SH.putK_iff] at hk6
        replace hl6 : off + ((new.take len).map bv).length ≤ vals.length := by simpa using hl6
        have hlv : off + len ≤ vals.length := by simp at hvl; omega
        refine exec en.b off len _ (new.map bv) vals T fz _ rfl ?_ hh hlv hf (fun v hv => by obtain ⟨b, _, rfl⟩ := List.mem_map.1 hv; rfl) (by simpa using hk6) ?_
        · rcases hsrc with ⟨cp, h1, rfl⟩ | ⟨A, cp, h1, h2⟩
          · exact .inl ⟨rfl, cp, h1⟩
          · exact .inr ⟨A, cp, by simpa using h1, h2⟩
        · rw [← List.map_take]
          have hll := splice1_length hl6
          exact upd_row C hob hen (by simp) hnil hh (.cells _ _ _ T fz hd6 hnil (by rw [hll]; exact hcap) (by rw [hll]; exact hf))
      · rename_i kd m l0 tl
        obtain ⟨kd', new, hk4, A, cp, h1, h2⟩ := cont_ints C.sat hdv hk3
        obtain ⟨⟨rfl, rfl, hle⟩, hk5⟩ := vc_iff.1 hk4
        obtain ⟨vs', rfl, hl, hs'⟩ := sis_inv hr
        obtain ⟨cs', hk6, hd6, hl6⟩ := spliceIK_sound hds hk5
        rw [SH.putK_iff] at hk6
        replace hl6 : off + ((new.take len).map (Value.int kd)).length ≤ vals.length := by simpa using hl6
        have hlv : off + len ≤ vals.length := by simp at hvl; omega
        refine exec en.b off len _ (new.map (Value.int kd)) vals T fz _ rfl (.inr ⟨A, cp, by simpa using h1, h2⟩) hh hlv hf (fun v hv => by obtain ⟨b, _, rfl⟩ := List.mem_map.1 hv; rfl) (by simpa using hk6) ?_
        rw [← List.map_take]
        have hll := splice1_length hl6
        exact upd_row C hob hen (by simp) hnil hh (.cells _ _ _ T fz hd6 hnil (by rw [hll]; exact hcap) (by rw [hll]; exact hf))
      · exact hk3.elim
    · exact hk2.elim
  · exact hv.elim
end
end Sg
end Go.Proofs.YtfkboondffejaaaGreatDoor
set_option linter.unusedVariables false
set_option linter.unusedSimpArgs false
namespace Go.Proofs.YtfkboondffejaaaGreatDoor
namespace Sg
variable {P : Program}
def COp.quiet : COp → Bool
  | .alloc .. | .box .. | .bslice .. | .bbytes .. | .mkb .. | .mksl .. | .s2b .. | .s2s .. | .store1 .. | .storeN .. | .appb .. | .appz .. | .app .. | .mmk | .mset .. | .mdel .. | .mclr .. | .cpy .. | .call .. | .sem .. => false
  | _ => true
def callable (P : Program) (f : Nat) : Bool := match P.funcs[f]? with
  | some fn => fn.body.isSome && !(fn.name == "runtime.NumGoroutine")
  | none => false
theorem callable_of {f : Nat} (h : callable P f = true) : ∃ fn c, P.funcs[f]? = some fn ∧ fn.body = some c ∧ fn.name ≠ "runtime.NumGoroutine" := by
  unfold callable at h
  split at h
  · rename_i fn hf
    simp only [Bool.and_eq_true, Bool.not_eq_true', beq_eq_false_iff_ne] at h
    obtain ⟨c, hc⟩ := Option.isSome_iff_exists.1 h.1
    exact ⟨fn, c, hf, hc, h.2⟩
  · cases h
def chkOp (P : Program) (o : Op) (c : COp) : Bool :=
  match c with
  | .alloc cs => match o with
    | .alloc T => (match zeroT P T with | some z => chkCells cs z.cells.toList | none => false)
    | _ => false
  | .box c => match o with
    | .box _ x => chkOpd x c
    | _ => false
  | .bslice sz len xs => match o with
    | .buildSlice T len' parts => Nat.beq len len' && Nat.beq len xs.length && Nat.ble (len * sz) 16777216 && Nat.blt 0 sz && (match sliceE P T with | some e => decide (sizeT P e = some sz) && (zeroT P e).isSome | none => false) && chkParts 0 parts.toList xs
    | _ => false
  | .bbytes xs => match o with
    | .buildSlice T len parts => Nat.beq len xs.length && Nat.ble len 16777216 && (match sliceE P T with | some e => decide (sizeT P e = some 1) && (zeroT P e).isSome | none => false) && chkParts 0 parts.toList xs
    | _ => false
  | .mkb x => match o with
    | .makeSlice T l c => (elemB P T).isSome && chkOpd l x && chkOpd c x
    | _ => false
  | .mksl sz zero b x => match o with
    | .makeSlice T l c => (match elemS P T sz b with | some (_, z) => chkCells zero z.cells.toList | none => false) && chkOpd l x && chkOpd c x
    | _ => false
  | .s2s c => match o with
    | .convert s d x => Nat.beq s d && (match sliceE P s with | some e => isU8 P e | none => false) && chkOpd x c
    | _ => false
  | .store1 c d => match o with
    | .store T x v => decide (sizeT P T = some 1) && chkOpd x c && chkOpd v d
    | _ => false
  | .storeN n c d => match o with
    | .store T x v => decide (sizeT P T = some n) && chkOpd x c && chkOpd v d
    | _ => false
  | .appb c d => match o with
    | .call { callee := .builtin .append, args, argTypes } => (match args.toList, argTypes.toList with
      | [x, y], [t, tx] => (elemB P t).isSome && srcT P tx && chkOpd x c && chkOpd y d
      | _, _ => false)
    | _ => false
  | .appz c d => match o with
    | .call { callee := .builtin .append, args, argTypes } => (match args.toList, argTypes.toList with
      | [x, y], [t, tx] => (elemB P t).isSome && (intT P tx).isSome && chkOpd x c && chkOpd y d
      | _, _ => false)
    | _ => false
  | .app sz b c d => match o with
    | .call { callee := .builtin .append, args, argTypes } => (match args.toList, argTypes.toList with
      | [x, y], [t, tx] => (elemS P t sz b).isSome && srcT P tx && chkOpd x c && chkOpd y d
      | _, _ => false)
    | _ => false
  | .call f' cs => match o with
    | .call { callee := .value (.func f), args, .. } => Nat.beq f f' && callable P f && chkOpds args.toList cs
    | _ => false
  | .s2b _ => false
  | .sem _ _ => false
  | .bad => true
  | .eqa neg ls c d => match o with
    | .binOp op t x y _ => decide (op = bif neg then .neq else .eql) && eqaT P t ls && chkOpd x c && chkOpd y d
    | _ => false
  | .eqn neg c => match o with
    | .binOp op t x (.const (.slice none 0 0)) _ => decide (op = bif neg then .neq else .eql) && (sliceE P t).isSome && chkOpd x c
    | _ => false
  | .mget s ok z c d => match o with
    | .lookup t x i ok' => (ok == ok') && mgetT P s t z && chkOpd x c && chkOpd i d
    | _ => false
  | .mlen c => match o with
    | .call { callee := .builtin .len, args, argTypes } => (match args.toList, argTypes.toList with
      | [x], [t] => (mapT P t).isSome && chkOpd x c
      | _, _ => false)
    | _ => false
  | .cmpb f c d => match o with
    | .call { callee := .value (.func f'), args, .. } => Nat.beq f f' && isCmp P f && (match args.toList with
      | [x, y] => chkOpd x c && chkOpd y d
      | _ => false)
    | _ => false
  | .mmk => match o with
    | .makeMap _ none => true
    | _ => false
  | .mset s c d e => match o with
    | .mapUpdate t x k v => (match mapT P t with | some (k, _) => keyD P s k | none => false) && chkOpd x c && chkOpd k d && chkOpd v e
    | .insert t x k v => (match mapT P t with | some (k, _) => keyD P s k | none => false) && chkOpd x c && chkOpd k d && chkOpd v e
    | _ => false
  | .mdel s c d => match o with
    | .call { callee := .builtin .delete, args, argTypes } => (match args.toList, argTypes.toList with
      | [x, k], [t, _] => (match mapT P t with | some (k, _) => keyD P s k | none => false) && chkOpd x c && chkOpd k d
      | _, _ => false)
    | _ => false
  | .mclr c => match o with
    | .call { callee := .builtin .clear, args, argTypes } => (match args.toList, argTypes.toList with
      | [x], [t] => (mapT P t).isSome && chkOpd x c
      | _, _ => false)
    | _ => false
  | .cpy c d => match o with
    | .call { callee := .builtin .copy, args, argTypes } => (match args.toList, argTypes.toList with
      | [x, y], [t, _] => (match sliceE P t with | some e => decide (sizeT P e = some 1) | none => false) && chkOpd x c && chkOpd y d
      | _, _ => false)
    | _ => false
  | c => chkQ P o c
def opK (P : Program) (G : Gl) (S : SH) (nx : Nat) (fr : FT) (c : COp) (K : SV → SH → Nat → Prop) : Prop :=
  bif c.quiet then qop G S fr c (fun v => K v S nx) else hop P G S nx fr c K
section
variable {G : Gl} {ρ : Env} {hI : Hp} {hF : Fm} {w : World} {S : SH} {nx : Nat} {fr : FT} {a : Act} {o : Oper} {K : SV → SH → Nat → Prop} {Q : Exit → Act → World → Prop}
theorem quiet_ok {K : SV → Prop} {c : COp} (C : Cx G ρ hI hF w S nx fr a) (hq : c.quiet = true) (hc : chkOp P o.op c = true) (h : qop G S fr c K) : QOk P ρ hI w a o K := by
  cases c
  case eqa neg ls c d =>
    simp only [chkOp] at hc
    split at hc
    · rename_i op t x y ty ho
      simp only [Bool.and_eq_true, decide_eq_true_eq] at hc
      exact q_eqa C ho hc.1.1.1 hc.1.1.2 hc.1.2 hc.2 h
    · cases hc
  case eqn neg c =>
    simp only [chkOp] at hc
    split at hc
    · rename_i op t x ty ho
      simp only [Bool.and_eq_true, decide_eq_true_eq] at hc
      obtain ⟨⟨h1, h2⟩, h3⟩ := hc
      obtain ⟨e, he⟩ := Option.isSome_iff_exists.1 h2
      exact q_eqn C ho h1 (sliceE_of he) rfl h3 h
    · cases hc
  case mget s ok z c d =>
    simp only [chkOp] at hc
    split at hc
    · rename_i t x i ok' ho
      simp only [Bool.and_eq_true, beq_iff_eq] at hc
      obtain ⟨⟨⟨h1, h2⟩, h3⟩, h4⟩ := hc
      subst h1
      exact q_mget C ho h2 h3 h4 h
    · cases hc
  case mlen c =>
    simp only [chkOp] at hc
    split at hc
    · rename_i args ts ell ho
      split at hc
      · rename_i x t ha hT
        simp only [Bool.and_eq_true] at hc
        exact q_mlen C ho ha hT hc.1 hc.2 h
      · cases hc
    · cases hc
  case cmpb f c d =>
    simp only [chkOp] at hc
    split at hc
    · rename_i f' args ts ell ho
      simp only [Bool.and_eq_true] at hc
      obtain ⟨⟨h1, h2⟩, h3⟩ := hc
      obtain rfl := Nat.eq_of_beq_eq_true h1
      split at h3
      · rename_i x y ha
        simp only [Bool.and_eq_true] at h3
        exact q_cmpb C ho ha h2 h3.1 h3.2 h
      · cases h3
    · cases hc
  case bad => exact h.elim
  case alloc | box | bslice | bbytes | mkb | mksl | s2b | s2s | store1 | storeN | appb | appz | app | mmk | mset | mdel | mclr | cpy | call | sem => simp [COp.quiet] at hq
  all_goals exact qop_sound C hc h
theorem quiet_lands {c : COp} (C : Cx G ρ hI hF w S nx fr a) (hq : c.quiet = true) (hc : chkOp P o.op c = true) (h : qop G S fr c (fun v => K v S nx)) : o.wp P a w (Lands nx ρ hI hF a o.dst K) Q := by
  obtain ⟨x, v, hk, hd, hr⟩ := quiet_ok C hq hc h
  exact wp_value hr ⟨_, _, _, _, _, _, rfl, hk, hd, C.sat, Env.ext.refl _ _, Nat.le_refl _, Hp.sub.refl _⟩
theorem op_sound {c : COp} (C : Cx G ρ hI hF w S nx fr a) (hc : chkOp P o.op c = true) (h : opK P G S nx fr c K) : o.wp P a w (Lands nx ρ hI hF a o.dst K) Q := by
  cases c
  case alloc cs =>
    simp only [chkOp] at hc
    split at hc
    · rename_i T ho
      split at hc
      · rename_i z hz; exact h_alloc C ho hz hc h
      · cases hc
    · cases hc
  case box c =>
    simp only [chkOp] at hc
    split at hc
    · rename_i T x ho; exact h_box C ho hc h
    · cases hc
  case bslice sz len xs =>
    simp only [chkOp] at hc
    split at hc
    · rename_i T len' parts ho
      simp only [Bool.and_eq_true] at hc
      obtain ⟨⟨⟨⟨⟨h1, h2⟩, h3⟩, h4⟩, h5⟩, h6⟩ := hc
      obtain rfl := Nat.eq_of_beq_eq_true h1
      split at h5
      · rename_i e he
        simp only [Bool.and_eq_true, decide_eq_true_eq] at h5
        obtain ⟨i, hi, hs⟩ := sizeT_of h5.1
        obtain ⟨z, hz⟩ := Option.isSome_iff_exists.1 h5.2
        simp only [zeroT, hi, Option.bind_some] at hz
        exact h_bslice C ho (sliceE_of he) hi hz hs (of_blt h4) (Nat.eq_of_beq_eq_true h2) (of_ble h3) h6 h
      · cases h5
    · cases hc
  case bbytes xs =>
    simp only [chkOp] at hc
    split at hc
    · rename_i T len' parts ho
      simp only [Bool.and_eq_true] at hc
      obtain ⟨⟨⟨h2, h3⟩, h5⟩, h6⟩ := hc
      split at h5
      · rename_i e he
        simp only [Bool.and_eq_true, decide_eq_true_eq] at h5
        obtain ⟨i, hi, hs⟩ := sizeT_of h5.1
        obtain ⟨z, hz⟩ := Option.isSome_iff_exists.1 h5.2
        simp only [zeroT, hi, Option.bind_some] at hz
        exact h_bbytes C ho (sliceE_of he) hi hz hs (Nat.eq_of_beq_eq_true h2) (of_ble h3) h6 h
      · cases h5
    · cases hc
  case mkb x =>
    simp only [chkOp] at hc
    split at hc
    · rename_i T l c ho
      simp only [Bool.and_eq_true] at hc
      obtain ⟨⟨h1, h2⟩, h3⟩ := hc
      obtain ⟨e, he⟩ := Option.isSome_iff_exists.1 h1
      exact h_mkb C ho (elemB_of he) h2 h3 h
    · cases hc
  case mksl sz zero b x =>
    simp only [chkOp] at hc
    split at hc
    · rename_i T l c ho
      simp only [Bool.and_eq_true] at hc
      obtain ⟨⟨h1, h2⟩, h3⟩ := hc
      split at h1
      · rename_i e z he; exact h_mksl C ho (elemS_of he) h1 h2 h3 h
      · cases h1
    · cases hc
  case s2s c =>
    simp only [chkOp] at hc
    split at hc
    · rename_i s d x ho
      simp only [Bool.and_eq_true] at hc
      obtain ⟨⟨h1, h2⟩, h3⟩ := hc
      obtain rfl := Nat.eq_of_beq_eq_true h1
      split at h2
      · rename_i e he; exact h_s2s C ho (sliceE_of he) (isU8_of h2) h3 h
      · cases h2
    · cases hc
  case store1 c d =>
    simp only [chkOp] at hc
    split at hc
    · rename_i T x v ho
      simp only [Bool.and_eq_true, decide_eq_true_eq] at hc
      exact h_store1 C ho hc.1.1 hc.1.2 hc.2 h
    · cases hc
  case storeN n c d =>
    simp only [chkOp] at hc
    split at hc
    · rename_i T x v ho
      simp only [Bool.and_eq_true, decide_eq_true_eq] at hc
      exact h_storeN C ho hc.1.1 hc.1.2 hc.2 h
    · cases hc
  case appb c d =>
    simp only [chkOp] at hc
    split at hc
    · rename_i args ts ell ho
      split at hc
      · rename_i x y t tx ha hT
        simp only [Bool.and_eq_true] at hc
        obtain ⟨⟨⟨h1, h2⟩, h3⟩, h4⟩ := hc
        obtain ⟨e, he⟩ := Option.isSome_iff_exists.1 h1
        exact h_appb C ho ha hT (elemB_of he) h2 h3 h4 h
      · cases hc
    · cases hc
  case appz c d =>
    simp only [chkOp] at hc
    split at hc
    · rename_i args ts ell ho
      split at hc
      · rename_i x y t tx ha hT
        simp only [Bool.and_eq_true] at hc
        obtain ⟨⟨⟨h1, h2⟩, h3⟩, h4⟩ := hc
        obtain ⟨e, he⟩ := Option.isSome_iff_exists.1 h1
        exact h_appz C ho ha hT (elemB_of he) h2 h3 h4 h
      · cases hc
    · cases hc
  case app sz b c d =>
    simp only [chkOp] at hc
    split at hc
    · rename_i args ts ell ho
      split at hc
      · rename_i x y t tx ha hT
        simp only [Bool.and_eq_true] at hc
        obtain ⟨⟨⟨h1, h2⟩, h3⟩, h4⟩ := hc
        obtain ⟨⟨e, z⟩, he⟩ := Option.isSome_iff_exists.1 h1
        exact h_app C ho ha hT (elemS_of he) h2 h3 h4 h
      · cases hc
    · cases hc
  case call f cs =>
    simp only [chkOp] at hc
    split at hc
    · rename_i f' args ts ell ho
      simp only [Bool.and_eq_true] at hc
      obtain ⟨⟨h1, h2⟩, h3⟩ := hc
      obtain rfl := Nat.eq_of_beq_eq_true h1
      exact h_call C ho h3 (callable_of h2) h
    · cases hc
  case s2b => cases hc
  case sem => cases hc
  case mmk =>
    simp only [chkOp] at hc
    split at hc
    · rename_i t ho; exact h_mmk C ho h
    · cases hc
  case mset s c d e =>
    simp only [chkOp] at hc
    split at hc
    · rename_i t x k v ho
      simp only [Bool.and_eq_true] at hc
      exact h_mset C (.inl ho) hc.1.1.1 hc.1.1.2 hc.1.2 hc.2 h
    · rename_i t x k v ho
      simp only [Bool.and_eq_true] at hc
      exact h_mset C (.inr ho) hc.1.1.1 hc.1.1.2 hc.1.2 hc.2 h
    · cases hc
  case mdel s c d =>
    simp only [chkOp] at hc
    split at hc
    · rename_i args ts ell ho
      split at hc
      · rename_i x k t t2 ha hT
        simp only [Bool.and_eq_true] at hc
        exact h_mdel C ho ha hT hc.1.1 hc.1.2 hc.2 h
      · cases hc
    · cases hc
  case mclr c =>
    simp only [chkOp] at hc
    split at hc
    · rename_i args ts ell ho
      split at hc
      · rename_i x t ha hT
        simp only [Bool.and_eq_true] at hc
        exact h_mclr C ho ha hT hc.1 hc.2 h
      · cases hc
    · cases hc
  case cpy c d =>
    simp only [chkOp] at hc
    split at hc
    · rename_i args ts ell ho
      split at hc
      · rename_i x y t t2 ha hT
        simp only [Bool.and_eq_true] at hc
        obtain ⟨⟨h1, h2⟩, h3⟩ := hc
        split at h1
        · rename_i e he
          exact h_cpy C ho ha hT (sliceE_of he) (by simpa using h1) h2 h3 h
        · cases h1
      · cases hc
    · cases hc
  all_goals exact quiet_lands C rfl hc h
end
end Sg
end Go.Proofs.YtfkboondffejaaaGreatDoor
set_option linter.unusedVariables false
set_option linter.unusedSimpArgs false
namespace Go.Proofs.YtfkboondffejaaaGreatDoor
namespace Sg
mutual
def eqiK : IV → IV → Prop → Prop
  | .int k n, .int k' n', K => vc (k = k' ∧ n = n') K
  | .byte b, .byte b', K => vc (b = b') K
  | .bool b, .bool b', K => vc (b = b') K
  | .str l, .str l', K => vc (l = l') K
  | .nilptr, .nilptr, K => K
  | .nilsl, .nilsl, K => K
  | .nilmap, .nilmap, K => K
  | .nilfn, .nilfn, K => K
  | .nilif, .nilif, K => K
  | .ib l, .ib l', K => vc (l = l') K
  | .isl s n E, .isl s' n' E', K => s = s' ∧ n = n' ∧ E = E' ∧ K
  | .ip cs, .ip cs', K => eqisK cs cs' K
  | .sbs n l, .sbs n' l', K => vc (n = n' ∧ l = l') K
  | .sis k n l, .sis k' n' l', K => vc (k = k' ∧ n = n' ∧ l = l') K
  | _, _, _ => False
def eqisK : List IV → List IV → Prop → Prop
  | [], [], K => K
  | x :: xs, y :: ys, K => eqiK x y (eqisK xs ys K)
  | _, _, _ => False
end
mutual
def eqvK : SV → SV → Prop → Prop
  | .iv x, .iv y, K => eqiK x y K
  | .ptr n o, .ptr n' o', K => vc (n = n' ∧ o = o') K
  | .ixp n o s i, .ixp n' o' s' i', K => vc (n = n' ∧ o = o' ∧ s = s' ∧ i = i') K
  | .sl s n o l, .sl s' n' o' l', K => vc (s = s' ∧ n = n' ∧ o = o' ∧ l = l') K
  | .slx s n o l c, .slx s' n' o' l' c', K => vc (s = s' ∧ n = n' ∧ o = o' ∧ l = l' ∧ c = c') K
  | .map n, .map n', K => vc (n = n') K
  | .agg cs, .agg cs', K => eqvsK cs cs' K
  | .tup cs, .tup cs', K => eqvsK cs cs' K
  | .fn f cs, .fn f' cs', K => vc (f = f') (eqvsK cs cs' K)
  | .iface t v, .iface t' v', K => vc (t = t') (eqvK v v' K)
  | _, _, _ => False
def eqvsK : List SV → List SV → Prop → Prop
  | [], [], K => K
  | x :: xs, y :: ys, K => eqvK x y (eqvsK xs ys K)
  | _, _, _ => False
end
mutual
theorem eqiK_sound : ∀ {x y : IV} {K : Prop}, eqiK x y K → x = y ∧ K
  | .int k n, y, K, h => by cases y <;> simp only [eqiK] at h; obtain ⟨⟨rfl, rfl⟩, h2⟩ := vc_iff.1 h; exact ⟨rfl, h2⟩
  | .byte b, y, K, h => by cases y <;> simp only [eqiK] at h; obtain ⟨rfl, h2⟩ := vc_iff.1 h; exact ⟨rfl, h2⟩
  | .bool b, y, K, h => by cases y <;> simp only [eqiK] at h; obtain ⟨rfl, h2⟩ := vc_iff.1 h; exact ⟨rfl, h2⟩
  | .str l, y, K, h => by cases y <;> simp only [eqiK] at h; obtain ⟨rfl, h2⟩ := vc_iff.1 h; exact ⟨rfl, h2⟩
  | .nilptr, y, K, h => by cases y <;> simp only [eqiK] at h; exact ⟨rfl, h⟩
  | .nilsl, y, K, h => by cases y <;> simp only [eqiK] at h; exact ⟨rfl, h⟩
  | .nilmap, y, K, h => by cases y <;> simp only [eqiK] at h; exact ⟨rfl, h⟩
  | .nilfn, y, K, h => by cases y <;> simp only [eqiK] at h; exact ⟨rfl, h⟩
  | .nilif, y, K, h => by cases y <;> simp only [eqiK] at h; exact ⟨rfl, h⟩
  | .ib l, y, K, h => by cases y <;> simp only [eqiK] at h; obtain ⟨rfl, h2⟩ := vc_iff.1 h; exact ⟨rfl, h2⟩
  | .isl s n E, y, K, h => by cases y <;> simp only [eqiK] at h; obtain ⟨rfl, rfl, rfl, h2⟩ := h; exact ⟨rfl, h2⟩
  | .ip cs, y, K, h => by cases y <;> simp only [eqiK] at h; obtain ⟨rfl, h2⟩ := eqisK_sound h; exact ⟨rfl, h2⟩
  | .sbs n l, y, K, h => by cases y <;> simp only [eqiK] at h; obtain ⟨⟨rfl, rfl⟩, h2⟩ := vc_iff.1 h; exact ⟨rfl, h2⟩
  | .sis k n l, y, K, h => by cases y <;> simp only [eqiK] at h; obtain ⟨⟨rfl, rfl, rfl⟩, h2⟩ := vc_iff.1 h; exact ⟨rfl, h2⟩
theorem eqisK_sound : ∀ {x y : List IV} {K : Prop}, eqisK x y K → x = y ∧ K
  | [], [], K, h => ⟨rfl, h⟩
  | [], _ :: _, K, h => h.elim
  | _ :: _, [], K, h => h.elim
  | x :: xs, y :: ys, K, h => by obtain ⟨rfl, h1⟩ := eqiK_sound (show eqiK x y _ from h); obtain ⟨rfl, h2⟩ := eqisK_sound h1; exact ⟨rfl, h2⟩
end
mutual
theorem eqvK_sound : ∀ {x y : SV} {K : Prop}, eqvK x y K → x = y ∧ K
  | .iv x, y, K, h => by cases y <;> simp only [eqvK] at h; obtain ⟨rfl, h2⟩ := eqiK_sound h; exact ⟨rfl, h2⟩
  | .ptr n o, y, K, h => by cases y <;> simp only [eqvK] at h; obtain ⟨⟨rfl, rfl⟩, h2⟩ := vc_iff.1 h; exact ⟨rfl, h2⟩
  | .ixp n o s i, y, K, h => by cases y <;> simp only [eqvK] at h; obtain ⟨⟨rfl, rfl, rfl, rfl⟩, h2⟩ := vc_iff.1 h; exact ⟨rfl, h2⟩
  | .sl s n o l, y, K, h => by cases y <;> simp only [eqvK] at h; obtain ⟨⟨rfl, rfl, rfl, rfl⟩, h2⟩ := vc_iff.1 h; exact ⟨rfl, h2⟩
  | .slx s n o l c, y, K, h => by cases y <;> simp only [eqvK] at h; obtain ⟨⟨rfl, rfl, rfl, rfl, rfl⟩, h2⟩ := vc_iff.1 h; exact ⟨rfl, h2⟩
  | .map n, y, K, h => by cases y <;> simp only [eqvK] at h; obtain ⟨rfl, h2⟩ := vc_iff.1 h; exact ⟨rfl, h2⟩
  | .agg cs, y, K, h => by cases y <;> simp only [eqvK] at h; obtain ⟨rfl, h2⟩ := eqvsK_sound h; exact ⟨rfl, h2⟩
  | .tup cs, y, K, h => by cases y <;> simp only [eqvK] at h; obtain ⟨rfl, h2⟩ := eqvsK_sound h; exact ⟨rfl, h2⟩
  | .fn f cs, y, K, h => by cases y <;> simp only [eqvK] at h; obtain ⟨rfl, h1⟩ := vc_iff.1 h; obtain ⟨rfl, h2⟩ := eqvsK_sound h1; exact ⟨rfl, h2⟩
  | .iface t v, y, K, h => by cases y <;> simp only [eqvK] at h; obtain ⟨rfl, h2⟩ := vc_iff.1 h; obtain ⟨rfl, h3⟩ := eqvK_sound h2; exact ⟨rfl, h3⟩
  | .junk, y, K, h => by cases y <;> simp only [eqvK] at h
theorem eqvsK_sound : ∀ {x y : List SV} {K : Prop}, eqvsK x y K → x = y ∧ K
  | [], [], K, h => ⟨rfl, h⟩
  | [], _ :: _, K, h => h.elim
  | _ :: _, [], K, h => h.elim
  | x :: xs, y :: ys, K, h => by obtain ⟨rfl, h1⟩ := eqvK_sound (show eqvK x y _ from h); obtain ⟨rfl, h2⟩ := eqvsK_sound h1; exact ⟨rfl, h2⟩
end
structure ROp where
  c : COp
  dst : Option Pth
  g : Option (Pth × Bool)
  sp : Bool
abbrev CK := Nat → List SV → SH → Nat → (SV → SH → Nat → Prop) → Prop
def opC (P : Program) (G : Gl) (C : CK) (S : SH) (nx : Nat) (fr : FT) (c : COp) (K : SV → SH → Nat → Prop) : Prop :=
  match c with
  | .call f args => evsK G fr args fun vs => C f vs S nx K
  | c => opK P G S nx fr c K
def putK (fr : FT) (dst : Option Pth) (v : SV) (K : FT → Prop) : Prop :=
  match dst with
  | none => K fr
  | some n => FT.setK fr n v K
def spK (sp : Bool) (v : SV) (K : SV → Prop) : Prop :=
  bif sp then (match v with | .iv (.bool b) => cond b (K (.iv (.bool true))) (K (.iv (.bool false))) | _ => False) else K v
def gdK (fr : FT) (g : Option (Pth × Bool)) (yes no : Prop) : Prop :=
  match g with
  | none => yes
  | some (s, b) => FT.getK fr s fun v => match v with
    | .iv (.bool t) => cond (t == b) yes no
    | .tup [] => no
    | _ => False
def undefS : SV := .tup []
def regK (P : Program) (G : Gl) (C : CK) : List ROp → FT → SH → Nat → (FT → SH → Nat → Prop) → Prop
  | [], fr, S, nx, K => K fr S nx
  | o :: os, fr, S, nx, K => gdK fr o.g
    (opC P G C S nx fr o.c fun v S nx => spK o.sp v fun v => putK fr o.dst v fun fr => regK P G C os fr S nx K)
    (putK fr o.dst undefS fun fr => regK P G C os fr S nx K)
def nop (G : Gl) (fr : FT) : COp → ((Nat → SV) → SObj → Prop) → Prop
  | .alloc cs, K => K (fun n => .ptr n 0) (.cells cs)
  | .mmk, K => K (fun n => .map n) (.mp [])
  | .box x, K => evK G fr x fun v => cellsK v fun cs => K (fun n => .ptr n 0) (.cells cs)
  | .bslice sz len xs, K => elemsK G fr sz xs fun es => K (fun n => .sl sz n 0 len) (.arr sz len (fun i => es.getD i []))
  | .bbytes xs, K => bytesK G fr xs fun l => K (fun n => .sl 1 n 0 xs.length) (.bytes l)
  | _, _ => False
inductive DStep : Type
    | q (i : Nat) (o : ROp)
    | al (i : Nat) (o : ROp)
    | ms (i : Nat) (o : ROp) (src : Nat)
    | ef (i : Nat) (o : ROp) (due : List Nat) (re : List (Nat × ROp))
abbrev Pend := List (Nat × Nat × SObj)
def Pend.sh (p : Pend) : SH := p.map (·.2)
def isIn (n : Nat) : List Nat → Bool
  | [] => false
  | m :: l => bif Nat.beq m n then true else isIn n l
def splitK : Pend → List Nat → (Pend → Pend → Prop) → Prop
  | [], _, K => K [] []
  | x :: p, due, K => splitK p due fun a b => bif isIn x.1 due then K (x :: a) b else K a (x :: b)
def reK (G : Gl) (S : SH) (fr : FT) : List (Nat × ROp) → Prop → Prop
  | [], K => K
  | (_, o) :: os, K => gdK fr o.g (qop G S fr o.c fun v => match o.dst with
    | some d => FT.getK fr d fun v' => eqvK v v' (reK G S fr os K)
    | none => False) (match o.dst with
    | some d => FT.getK fr d fun v' => eqvK undefS v' (reK G S fr os K)
    | none => False)
def getP : Pend → Nat → (Nat → SObj → Prop) → Prop
  | [], _, _ => False
  | (j, n, ob) :: p, i, K => bif Nat.beq j i then K n ob else getP p i K
def msK (G : Gl) (fr : FT) (p : Pend) (c : COp) (src : Nat) (K : SV → Prop) : Prop :=
  match c with
  | .s2s x => evK G fr x fun v => match v with
    | .sl sz n off len => getP p src fun m ob => match ob with
      | .bytes l => vc (n = m ∧ off = 0 ∧ 0 < l.length) (K (.sl sz n off len))
      | _ => False
    | _ => False
  | _ => False
def dregK (P : Program) (G : Gl) (C : CK) : List DStep → FT → Pend → SH → Nat → (FT → SH → Nat → Prop) → Prop
  | [], fr, p, S, nx, K => K fr (p.sh ++ S) nx
  | .q i o :: r, fr, p, S, nx, K => gdK fr o.g
    (qop G S fr o.c fun v => spK o.sp v fun v => putK fr o.dst v fun fr => dregK P G C r fr p S nx K)
    (putK fr o.dst undefS fun fr => dregK P G C r fr p S nx K)
  | .al i o :: r, fr, p, S, nx, K => gdK fr o.g
    (nop G fr o.c fun mk ob => putK fr o.dst (mk nx) fun fr => dregK P G C r fr (p ++ [(i, nx, ob)]) S (nx + 1) K)
    (putK fr o.dst undefS fun fr => dregK P G C r fr p S nx K)
  | .ms i o src :: r, fr, p, S, nx, K => gdK fr o.g
    (msK G fr p o.c src fun v => putK fr o.dst v fun fr => dregK P G C r fr p S nx K)
    (putK fr o.dst undefS fun fr => dregK P G C r fr p S nx K)
  | .ef i o due re :: r, fr, p, S, nx, K => splitK p due fun a p => gdK fr o.g
    (opC P G C (a.sh ++ S) nx fr o.c fun v S nx => spK o.sp v fun v => putK fr o.dst v fun fr => reK G S fr re (dregK P G C r fr p S nx K))
    (putK fr o.dst undefS fun fr => reK G (a.sh ++ S) fr re (dregK P G C r fr p (a.sh ++ S) nx K))
inductive CC : Type
  | skip
  | reg (os : List ROp)
  | dreg (ds : List DStep)
  | seq (a b : CC)
  | cond (c : Opd) (a b : CC)
  | block (id : Nat) (a : CC)
  | loop (a : CC)
  | exit (id : Nat)
  | ret
  | trap
inductive Xt : Type
  | norm
  | exit (id : Nat)
  | ret
abbrev Post := Xt → FT → SH → Nat → Prop
def LoopL (body : Post → FT → SH → Nat → Prop) (Q : Post) (fr : FT) (S : SH) (nx : Nat) : Prop :=
  ∀ I : FT → SH → Nat → Prop, (∀ fr S nx, body (fun x fr' S' nx' => match x with | .norm => I fr' S' nx' | x => Q x fr' S' nx') fr S nx → I fr S nx) → I fr S nx
def swp (P : Program) (G : Gl) (C : CK) : CC → Post → FT → SH → Nat → Prop
  | .skip, Q, fr, S, nx => Q .norm fr S nx
  | .reg os, Q, fr, S, nx => regK P G C os fr S nx (Q .norm)
  | .dreg ds, Q, fr, S, nx => dregK P G C ds fr [] S nx (Q .norm)
  | .seq a b, Q, fr, S, nx => swp P G C a (fun x fr S nx => match x with | .norm => swp P G C b Q fr S nx | x => Q x fr S nx) fr S nx
  | .cond c a b, Q, fr, S, nx => evK G fr c fun v => match v with
    | .iv (.bool t) => _root_.cond t (swp P G C a Q fr S nx) (swp P G C b Q fr S nx)
    | _ => False
  | .block id a, Q, fr, S, nx => swp P G C a (fun x fr S nx => match x with | .exit j => _root_.cond (Nat.beq j id) (Q .norm fr S nx) (Q (.exit j) fr S nx) | x => Q x fr S nx) fr S nx
  | .loop a, Q, fr, S, nx => LoopL (swp P G C a) Q fr S nx
  | .exit id, Q, fr, S, nx => Q (.exit id) fr S nx
  | .ret, Q, fr, S, nx => Q .ret fr S nx
  | .trap, Q, fr, S, nx => False
inductive RV : Type
  | t (p : Pth)
  | c1 (p : Pth)
  | cN (n : Nat) (p : Pth)
structure CF where
  code : CC
  fr0 : FT
  par : List Pth
  res : List RV
def tmk : Nat → Nat → FT
  | 0, _ => .nil
  | d + 1, n => match n with
    | 0 => .nil
    | 1 => .lf undefS
    | n => .nd (tmk d ((n + 1) / 2)) (tmk d (n / 2))
def resK (S : SH) (fr : FT) : List RV → (List SV → Prop) → Prop
  | [], K => K []
  | .t p :: ts, K => FT.getK fr p fun v => resK S fr ts fun vs => K (v :: vs)
  | .c1 p :: ts, K => FT.getK fr p fun a => match a with
    | .ptr n off => SH.getK S n fun o => match o with
      | .cells cs => cellK cs off fun v => resK S fr ts fun vs => K (v :: vs)
      | _ => False
    | _ => False
  | .cN m p :: ts, K => FT.getK fr p fun a => match a with
    | .ptr n off => SH.getK S n fun o => match o with
      | .cells cs => takeK cs off m fun r => resK S fr ts fun vs => K (.agg r :: vs)
      | _ => False
    | _ => False
def retK (S : SH) (fr : FT) (res : List RV) (K : SV → Prop) : Prop :=
  resK S fr res fun vs => match vs with
    | [v] => K v
    | vs => K (.tup vs)
def argK : FT → List Pth → List SV → (FT → Prop) → Prop
  | fr, [], [], K => K fr
  | fr, p :: ps, v :: vs, K => FT.setK fr p v fun fr => argK fr ps vs K
  | _, _, _, _ => False
def bodyK (P : Program) (G : Gl) (C : CK) (F : CF) (vs : List SV) (S : SH) (nx : Nat) (K : SV → SH → Nat → Prop) : Prop :=
  argK F.fr0 F.par vs fun fr => swp P G C F.code (fun x fr S nx => match x with
    | .exit _ => False
    | _ => retK S fr F.res fun v => K v S nx) fr S nx
end Sg
end Go.Proofs.YtfkboondffejaaaGreatDoor
