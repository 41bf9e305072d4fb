/- The shelf's layings at this dump, in plain words (printed by program). -/
import Derived.Test.YtfkboondffejaaaGreatDoorProg
import Derived.Shelf.SlIterI.Nil
import Derived.Shelf.SlIterI.Sorted
import Derived.Shelf.SortM.Plain
import Derived.Shelf.SortM.SortNone
import Derived.Shelf.Unicode.ValidAny
import Derived.Test.YtfkboondffejaaaGreatDoorE05
import Derived.Test.YtfkboondffejaaaGreatDoorE09
import Derived.Test.YtfkboondffejaaaGreatDoorE10
import Derived.Test.YtfkboondffejaaaGreatDoorRows
import Derived.Test.YtfkboondffejaaaGreatDoorTie
import Derived.Test.YtfkboondffejaaaGreatDoorCards
import Derived.ProofKit
import Derived.OpenShut
import Derived.LaidMore
import Derived.Lay
import Derived.SevenTiedAt
import Derived.Stop.Joined
import Derived.Carry
import Derived.Lib.LaidTab
import Derived.Lib.LaidU8T
import Derived.PinnedBridge
set_option linter.all false
set_option linter.unusedVariables false
set_option linter.unusedSimpArgs false
set_option linter.deprecated false
namespace Go.Proofs
open Go.Shelf
def Tryz.keysA_ren : Go.Shelf.Ren := ⟨fun | 7 => 151 | 10 => 159 | n => n, fun | 23 => 149 | 26 => 3 | 3 => 219 | 28 => 238 | 0 => 0 | 27 => 237 | 33 => 244 | 4 => 4 | n => n, fun | n => n⟩
theorem Tryz.keysA : Go.Proofs.SlLaysZI.n7 Tryz.prog Tryz.keysA_ren := {
  mixed := by kernel_rfl,
  f7 := ⟨Tryz.f151.name, by decide, Tryz.func151.trans (congrArg some (by kernel_rfl))⟩,
  f10 := ⟨Tryz.f159.name, by decide, Tryz.func159.trans (congrArg some (by kernel_rfl))⟩,
  t0 := Tryz.underlying0,
  a0 := Tryz.isAgg0,
  z0 := Tryz.sizeOf0,
  v0 := Tryz.zeroValue0,
  t4 := Tryz.underlying4,
  a4 := Tryz.isAgg4,
  z4 := Tryz.sizeOf4,
  v4 := Tryz.zeroValue4,
  t23 := Tryz.underlying149,
  a23 := Tryz.isAgg149,
  z23 := Tryz.sizeOf149,
  v23 := Tryz.zeroValue149,
  t26 := Tryz.underlying3,
  a26 := Tryz.isAgg3,
  z26 := Tryz.sizeOf3,
  v26 := Tryz.zeroValue3,
  t27 := Tryz.underlying237,
  a27 := Tryz.isAgg237,
  z27 := Tryz.sizeOf237,
  v27 := Tryz.zeroValue237,
  t28 := Tryz.underlying238,
  a28 := Tryz.isAgg238,
  z28 := Tryz.sizeOf238,
  v28 := Tryz.zeroValue238,
  t33 := Tryz.underlying244,
  a33 := Tryz.isAgg244,
  z33 := Tryz.sizeOf244,
  v33 := Tryz.zeroValue244 }
def Tryz.sortedA_ren : Go.Shelf.Ren := ⟨fun | 6 => 150 | 8 => 157 | 9 => 158 | 11 => 161 | 13 => 163 | 12 => 162 | 23 => 173 | 24 => 174 | 14 => 164 | 15 => 165 | 16 => 166 | 17 => 167 | 18 => 168 | 19 => 169 | 20 => 170 | 21 => 171 | 22 => 172 | 25 => 175 | 26 => 176 | 27 => 177 | 28 => 178 | 29 => 179 | 30 => 180 | 31 => 181 | n => n, fun | 26 => 3 | 28 => 238 | 24 => 227 | 0 => 0 | 3 => 3 | 37 => 105 | 48 => 32 | 50 => 23 | 4 => 4 | 40 => 250 | 39 => 249 | 45 => 175 | 5 => 5 | 9 => 9 | 51 => 258 | 55 => 261 | 57 => 263 | 58 => 179 | 33 => 244 | n => n, fun | n => n⟩
theorem Tryz.sortedA : Go.Proofs.SlLaysZI.n6 Tryz.prog Tryz.sortedA_ren := {
  mixed := by kernel_rfl,
  f6 := ⟨Tryz.f150.name, by decide, Tryz.func150.trans (congrArg some (by kernel_rfl))⟩,
  f8 := ⟨Tryz.f157.name, by decide, Tryz.func157.trans (congrArg some (by kernel_rfl))⟩,
  f11 := ⟨Tryz.f161.name, by decide, Tryz.func161.trans (congrArg some (by kernel_rfl))⟩,
  t0 := Tryz.underlying0,
  a0 := Tryz.isAgg0,
  z0 := Tryz.sizeOf0,
  v0 := Tryz.zeroValue0,
  t24 := Tryz.underlying227,
  a24 := Tryz.isAgg227,
  z24 := Tryz.sizeOf227,
  v24 := Tryz.zeroValue227,
  t26 := Tryz.underlying3,
  a26 := Tryz.isAgg3,
  z26 := Tryz.sizeOf3,
  v26 := Tryz.zeroValue3,
  t28 := Tryz.underlying238,
  a28 := Tryz.isAgg238,
  z28 := Tryz.sizeOf238,
  v28 := Tryz.zeroValue238,
  i26 := by kernel_rfl }
def Tryz.sortA_ren : Go.Shelf.Ren := ⟨fun | 5 => 158 | 8 => 163 | 7 => 162 | 19 => 173 | 20 => 174 | 10 => 164 | 11 => 165 | 12 => 166 | 13 => 167 | 14 => 168 | 15 => 169 | 16 => 170 | 17 => 171 | 18 => 172 | 30 => 175 | 31 => 176 | 32 => 177 | 33 => 178 | 34 => 179 | 35 => 180 | 40 => 181 | n => n, fun | 23 => 227 | 25 => 3 | 3 => 3 | 32 => 105 | 22 => 227 | 0 => 0 | 44 => 32 | 46 => 23 | 4 => 4 | 36 => 250 | 35 => 249 | 41 => 175 | 5 => 5 | 9 => 9 | 53 => 258 | 57 => 261 | 63 => 263 | 64 => 179 | n => n, fun | n => n⟩
theorem Tryz.sortA : Go.Proofs.SlLaysM.n5 Tryz.prog Tryz.sortA_ren := {
  mixed := by kernel_rfl,
  f5 := ⟨Tryz.f158.name, by decide, Tryz.func158.trans (congrArg some (by kernel_rfl))⟩,
  f7 := ⟨Tryz.f162.name, by decide, Tryz.func162.trans (congrArg some (by kernel_rfl))⟩,
  f8 := Tryz.func163.trans (congrArg some (by kernel_rfl)),
  f10 := ⟨Tryz.f164.name, by decide, Tryz.func164.trans (congrArg some (by kernel_rfl))⟩,
  f11 := ⟨Tryz.f165.name, by decide, Tryz.func165.trans (congrArg some (by kernel_rfl))⟩,
  f12 := ⟨Tryz.f166.name, by decide, Tryz.func166.trans (congrArg some (by kernel_rfl))⟩,
  f13 := ⟨Tryz.f167.name, by decide, Tryz.func167.trans (congrArg some (by kernel_rfl))⟩,
  f14 := ⟨Tryz.f168.name, by decide, Tryz.func168.trans (congrArg some (by kernel_rfl))⟩,
  f15 := ⟨Tryz.f169.name, by decide, Tryz.func169.trans (congrArg some (by kernel_rfl))⟩,
  f16 := ⟨Tryz.f170.name, by decide, Tryz.func170.trans (congrArg some (by kernel_rfl))⟩,
  f17 := ⟨Tryz.f171.name, by decide, Tryz.func171.trans (congrArg some (by kernel_rfl))⟩,
  f18 := ⟨Tryz.f172.name, by decide, Tryz.func172.trans (congrArg some (by kernel_rfl))⟩,
  f19 := Tryz.func173.trans (congrArg some (by kernel_rfl)),
  f20 := Tryz.func174.trans (congrArg some (by kernel_rfl)),
  f30 := ⟨Tryz.f175.name, by decide, Tryz.func175.trans (congrArg some (by kernel_rfl))⟩,
  f31 := Tryz.func176.trans (congrArg some (by kernel_rfl)),
  f32 := Tryz.func177.trans (congrArg some (by kernel_rfl)),
  f33 := ⟨Tryz.f178.name, by decide, Tryz.func178.trans (congrArg some (by kernel_rfl))⟩,
  f34 := ⟨Tryz.f179.name, by decide, Tryz.func179.trans (congrArg some (by kernel_rfl))⟩,
  f35 := ⟨Tryz.f180.name, by decide, Tryz.func180.trans (congrArg some (by kernel_rfl))⟩,
  f40 := ⟨Tryz.f181.name, by decide, Tryz.func181.trans (congrArg some (by kernel_rfl))⟩,
  t0 := Tryz.underlying0,
  a0 := Tryz.isAgg0,
  z0 := Tryz.sizeOf0,
  v0 := Tryz.zeroValue0,
  t3 := Tryz.underlying3,
  a3 := Tryz.isAgg3,
  z3 := Tryz.sizeOf3,
  v3 := Tryz.zeroValue3,
  t4 := Tryz.underlying4,
  a4 := Tryz.isAgg4,
  z4 := Tryz.sizeOf4,
  v4 := Tryz.zeroValue4,
  t5 := Tryz.underlying5,
  a5 := Tryz.isAgg5,
  z5 := Tryz.sizeOf5,
  v5 := Tryz.zeroValue5,
  t9 := Tryz.underlying9,
  a9 := Tryz.isAgg9,
  z9 := Tryz.sizeOf9,
  v9 := Tryz.zeroValue9,
  t22 := Tryz.underlying227,
  a22 := Tryz.isAgg227,
  z22 := Tryz.sizeOf227,
  v22 := Tryz.zeroValue227,
  t23 := Tryz.underlying227,
  a23 := Tryz.isAgg227,
  z23 := Tryz.sizeOf227,
  v23 := Tryz.zeroValue227,
  t25 := Tryz.underlying3,
  a25 := Tryz.isAgg3,
  z25 := Tryz.sizeOf3,
  v25 := Tryz.zeroValue3,
  t32 := Tryz.underlying105,
  a32 := Tryz.isAgg105,
  z32 := Tryz.sizeOf105,
  v32 := Tryz.zeroValue105,
  t35 := Tryz.underlying249,
  a35 := Tryz.isAgg249,
  z35 := Tryz.sizeOf249,
  v35 := Tryz.zeroValue249,
  t36 := Tryz.underlying250,
  a36 := Tryz.isAgg250,
  z36 := Tryz.sizeOf250,
  v36 := Tryz.zeroValue250,
  t41 := Tryz.underlying175,
  a41 := Tryz.isAgg175,
  z41 := Tryz.sizeOf175,
  v41 := Tryz.zeroValue175,
  t44 := Tryz.underlying32,
  a44 := Tryz.isAgg32,
  z44 := Tryz.sizeOf32,
  v44 := Tryz.zeroValue32,
  t46 := Tryz.underlying23,
  a46 := Tryz.isAgg23,
  z46 := Tryz.sizeOf23,
  v46 := Tryz.zeroValue23,
  t53 := Tryz.underlying258,
  a53 := Tryz.isAgg258,
  z53 := Tryz.sizeOf258,
  v53 := Tryz.zeroValue258,
  t57 := Tryz.underlying261,
  a57 := Tryz.isAgg261,
  z57 := Tryz.sizeOf261,
  v57 := Tryz.zeroValue261,
  t63 := Tryz.underlying263,
  a63 := Tryz.isAgg263,
  z63 := Tryz.sizeOf263,
  v63 := Tryz.zeroValue263,
  t64 := Tryz.underlying179,
  a64 := Tryz.isAgg179,
  z64 := Tryz.sizeOf179,
  v64 := Tryz.zeroValue179 }
def Tryz.validA_ren : Go.Shelf.Ren := ⟨fun | 196 => 23 | 259 => 48 | n => n, fun | 9 => 9 | 4 => 4 | 3 => 3 | 5 => 5 | 12 => 12 | 119 => 101 | 0 => 0 | 46 => 105 | 139 => 104 | 138 => 103 | 53 => 23 | n => n, fun | 3 => 1 | 4 => 2 | n => n⟩
theorem Tryz.validA : Go.Proofs.Lays.n196 Tryz.prog Tryz.validA_ren := {
  mixed := by kernel_rfl,
  f196 := Tryz.func23.trans (congrArg some (by kernel_rfl)),
  f259 := Tryz.func48.trans (congrArg some (by kernel_rfl)),
  t0 := Tryz.underlying0,
  a0 := Tryz.isAgg0,
  z0 := Tryz.sizeOf0,
  v0 := Tryz.zeroValue0,
  t3 := Tryz.underlying3,
  a3 := Tryz.isAgg3,
  z3 := Tryz.sizeOf3,
  v3 := Tryz.zeroValue3,
  t4 := Tryz.underlying4,
  a4 := Tryz.isAgg4,
  z4 := Tryz.sizeOf4,
  v4 := Tryz.zeroValue4,
  t5 := Tryz.underlying5,
  a5 := Tryz.isAgg5,
  z5 := Tryz.sizeOf5,
  v5 := Tryz.zeroValue5,
  t9 := Tryz.underlying9,
  a9 := Tryz.isAgg9,
  z9 := Tryz.sizeOf9,
  v9 := Tryz.zeroValue9,
  t12 := Tryz.underlying12,
  a12 := Tryz.isAgg12,
  z12 := Tryz.sizeOf12,
  v12 := Tryz.zeroValue12,
  t46 := Tryz.underlying105,
  a46 := Tryz.isAgg105,
  z46 := Tryz.sizeOf105,
  v46 := Tryz.zeroValue105,
  t53 := Tryz.underlying23,
  a53 := Tryz.isAgg23,
  z53 := Tryz.sizeOf23,
  v53 := Tryz.zeroValue23,
  t119 := Tryz.underlying101,
  a119 := Tryz.isAgg101,
  z119 := Tryz.sizeOf101,
  t138 := Tryz.underlying103,
  a138 := Tryz.isAgg103,
  z138 := Tryz.sizeOf103,
  v138 := Tryz.zeroValue103,
  t139 := Tryz.underlying104,
  a139 := Tryz.isAgg104,
  z139 := Tryz.sizeOf104,
  v139 := Tryz.zeroValue104,
  g3 := by kernel_rfl,
  g4 := by kernel_rfl }
end Go.Proofs
set_option linter.unusedVariables false
set_option linter.unusedSimpArgs false
namespace Go.Proofs
open Go.RowKit Go.Maps Go.Sort Go.Shelf
theorem Tryz.sortsA (m : Nat) : AnyZI.SortsIn Tryz.prog Tryz.sortedA_ren Fence.wide m :=
  ⟨fun blk off cap ss W hH hblk hsz => callsIn_wide.2 (AnyM.slices_Sort_int Tryz.sortA blk off cap ss W hH hblk hsz),
   fun p cap W => callsIn_wide.2 (AnyM.slices_Sort_int_none Tryz.sortA p cap W)⟩
namespace YtfkboondffejaaaGreatDoor
namespace Sg
theorem Hp.into.below {h : Hp} {w w' : World} (i : h.into w) (b : RowKit.Below w.heap.size w w') : h.into w' := fun k x e => by
  have := i k x e
  rw [b.block k (Array.getElem?_eq_some_iff.1 this).1]
  exact this
theorem Sat.below {ρ : Env} {hI : Hp} {hF : Fm} {w w' : World} {S : SH} {nx : Nat} (h : Sat ρ hI hF w S nx) (b : RowKit.Below w.heap.size w w') : Sat ρ hI hF w' S nx := by
  obtain ⟨⟨k, hk, d1, d2, d3, i1, i2, i3⟩, hn, hw⟩ := h
  exact ⟨⟨k, hk, d1, d2, d3, i1.below b, i2.below b, i3.below b⟩, hn, hw.trans ⟨b.os, b.tape, b.output, b.size⟩⟩
section
variable {G : Gl} {S : SH} {nx : Nat} {K : SV → SH → Nat → Prop}
theorem keys_ob {m : Nat} (h : K (.fn 159 [.ptr nx 0]) ((nx, .cells [.map m]) :: S) (nx + 1)) : CallOb Tryz.prog G 151 [.map m] S nx K := by
  intro ρ hI hF w vs hs hg hv
  cases hv with | cons _ v _ vs hd hs2 =>
  cases hs2
  cases hd with | map _ e he =>
  have hc := (callsIn_wide (n := 5)).1 (AnyZI.keys_in Tryz.keysA Fence.wide 5 trivial rfl (some e.b) w)
  refine hc.mono ?_
  rintro en w' ⟨rfl, rfl⟩
  obtain ⟨r, hsat⟩ := hs.new (o := .cells [.map m]) (ob := .cells #[.map (some e.b)] (Tryz.keysA_ren.t 23)) (cap := 1) (fun ρ' r => .cells _ _ [.map (some e.b)] _ (0, 0) (.one _ _ _ _ (.map _ _ (r _ _ he)) rfl .nil) rfl rfl (unfrozen0 _))
  exact ⟨_, _, _, _, _, hI, rfl, h, .fn _ _ [.pointer (some ⟨w.heap.size, 0, none⟩)] (.cons _ _ _ _ (.ptr nx 0 _ (Env.set_self _ _ _)) .nil), hsat, r, Nat.le_succ _, Hp.sub.refl _⟩
theorem sorted_nil_ob {q m : Nat} (hq : SH.get S q = some (.cells [.map m])) (hm : SH.get S m = some (.mp [])) (h : K (.iv .nilsl) S nx) : CallOb Tryz.prog G 150 [.fn 159 [.ptr q 0]] S nx K := by
  intro ρ hI hF w vs hs hg hv
  cases hv with | cons _ v _ vs hd hs2 =>
  cases hs2
  cases hd with | fn _ _ us hus =>
  cases hus with | cons _ u _ us hu hus =>
  cases hus
  cases hu with | ptr _ _ e he =>
  obtain ⟨k, hk, d1, d2, d3, i1, i2, i3⟩ := hs.1
  obtain ⟨e1, h1, h2, r1, o1, _, _, _, s1, _⟩ := hk.take hq
  rw [he] at r1
  cases r1
  cases o1 with | cells _ _ cs T fz hd hn hc hf =>
  cases hd with | one _ x _ xs hx ho hxs =>
  cases hxs
  cases hx with | map _ e2 he2 =>
  obtain ⟨e3, h3, h4, r3, o3, _, _, _, s3, _⟩ := hk.take hm
  rw [he2] at r3
  cases r3
  cases o3 with | mp _ es' _ ms clock hp hmd hkk hb hbn hn =>
  have := List.perm_nil.1 hp
  subst this
  cases hmd
  have b1 : w.heap[e.b]? = some (.cells #[.map (some e2.b)] T fz) := i2 _ _ (s1 _ _ (by simp [Hp.one]))
  have b2 : w.heap[e2.b]? = some (.map #[] clock) := i2 _ _ (s3 _ _ (by simp [Hp.one]))
  have hown : w.ownsMap Tryz.prog 3 (fun _ => (none : Option (DataW Unit × List MemPlace))) e2.b 0 (.map []) := ⟨#[], clock, b2, ⟨by simp, ⟨by simp, by simp, by simp⟩, fun x hx => by simp at hx⟩, by simp, rfl⟩
  have hcell : w.cell? ⟨e.b, 0, none⟩ = some (.map (some e2.b)) := by simp [World.cell?, b1]
  have hlt : e.b < w.heap.size := (Array.getElem?_eq_some_iff.1 b1).1
  have hseq : SeqGives Fence.wide 2 Tryz.prog 159 #[.pointer (some ⟨e.b, 0, none⟩)] encZ (fun ss => ss.Perm (intKeys (H := Unit) (.map []))) (Maps.size (H := Unit) (.map [])) w :=
    AnyZI.keys_gives (ρ := Tryz.keysA_ren) { Tryz.keysA with } Fence.wide _ trivial rfl (by omega) e.b e2.b 0 (.map []) _ hlt hcell hown
  have cS := AnyZI.sorted_in Tryz.sortedA Fence.wide 5 trivial trivial trivial trivial rfl (by omega) (Tryz.sortsA _) (enters_of Tryz.func158 (by kernel_rfl) rfl) 159 #[.pointer (some ⟨e.b, 0, none⟩)] trivial (enters_of Tryz.func159 (by kernel_rfl) rfl) _ _ (Nat.zero_le _) (by simp [Maps.size]) _ hseq
  refine ((callsIn_wide (n := 5)).1 cS).mono ?_
  rintro en w' ⟨v, ss, rfl, hS, hrow, hnil, hbl⟩
  have hss : ss = [] := List.perm_nil.1 hS
  have hv := hnil.2 hss
  subst hv
  exact ⟨_, _, S, nx, ρ, hI, rfl, h, .iv _ _ .nilsl, hs.below hbl, Env.ext.refl _ _, Nat.le_refl _, Hp.sub.refl _⟩
end
end Sg
end YtfkboondffejaaaGreatDoor
end Go.Proofs
set_option linter.unusedVariables false
set_option linter.unusedSimpArgs false
set_option maxRecDepth 10000
namespace Go.Proofs
namespace YtfkboondffejaaaGreatDoor
namespace Sg
def flist : FT := .nd (.nd (.nd (.nd (.lf (.tup [])) (.lf (.tup []))) (.lf (.tup []))) (.nd (.lf (.tup [])) (.lf (.tup [])))) (.nd (.nd (.lf (.tup [])) (.lf (.tup []))) (.nd (.lf (.tup [])) (.lf (.tup []))))
def clist : CF := ⟨(.seq (.reg [⟨.mov (.k (.iv .nilsl)), (some (.o (.i (.o (.e))))), none, false⟩])
 (.seq (.reg [⟨.mov (.t (.o (.o (.o (.o (.e)))))), (some (.i (.i (.o (.e))))), none, false⟩,
 ⟨.nilck (.t (.i (.i (.o (.e))))), (some (.o (.o (.i (.e))))), none, false⟩,
 ⟨.faddr 6 (.t (.o (.o (.i (.e))))), (some (.i (.o (.i (.e))))), none, false⟩,
 ⟨.load1 (.t (.i (.o (.i (.e))))), (some (.o (.i (.i (.e))))), none, false⟩,
 ⟨.call 151 [(.t (.o (.i (.i (.e)))))], (some (.i (.i (.i (.e))))), none, false⟩,
 ⟨.call 150 [(.t (.i (.i (.i (.e)))))], (some (.o (.o (.o (.i (.e)))))), none, false⟩,
 ⟨.mov (.t (.o (.o (.o (.i (.e)))))), (some (.o (.i (.o (.e))))), none, false⟩])
 .ret)), flist, [.o (.o (.o (.o (.e))))], [.t (.o (.i (.o (.e))))]⟩
theorem clist_ok : chkFunc Tryz.prog (chkD Tryz.prog) 134 clist = true := by kernel_rfl
noncomputable def xlist (vs : List KV) (S : KH) (nx : Pos) (K : KV → KH → Pos → R) : R := match vs with
  | [.ptr n off] => KH.getR S n fun o => match o with
    | .cells cs => kcell cs (Nat.add off 6) fun v => match v with
      | .map m => KH.getR S m fun o => match o with
        | .mp [] => gd (!Pos.eqb m nx) (KH.newR S nx (.cells [.map m]) fun S nx => K .nilsl S nx)
        | _ => none
      | _ => none
    | _ => none
  | _ => none
section
variable {G : Gl} {S : SH} {nx : Nat} {K : SV → SH → Nat → Prop}
theorem list_ob {n off m : Nat} {cs : List SV} (hn : SH.get S n = some (.cells cs)) (hc : ∀ K' : SV → Prop, K' (.map m) → cellK cs (off + 6) K') (hm : SH.get S m = some (.mp [])) (hlt : m ≠ nx)
    (h : K (.iv .nilsl) ((nx, .cells [.map m]) :: S) (nx + 1)) : CallOb Tryz.prog G 134 [.ptr n off] S nx K := by
  refine body_sound chkD_ok clist_ok ?_
  show SH.getK S n fun o => match o with
    | .cells cs => cellK cs (off + 6) fun v => CallOb Tryz.prog G 151 [v] S nx fun v S nx => CallOb Tryz.prog G 150 [v] S nx fun v S nx => K v S nx
    | _ => False
  refine SH.getK_iff.2 ⟨_, hn, hc _ ?_⟩
  refine keys_ob ?_
  refine sorted_nil_ob (q := nx) (m := m) (by simp [SH.get]) ?_ ?_
  · simp only [SH.get]
    rw [beq_false (fun e => hlt e.symm)]
    exact hm
  · exact h
theorem Pos.eqb_self : ∀ p : Pos, Pos.eqb p p = true
  | .h => rfl
  | .o p => Pos.eqb_self p
  | .i p => Pos.eqb_self p
theorem xlist_ok : ∀ (vs : List KV) (vs' : List SV) (S : KH) (S' : SH) (nx : Pos) (K : KV → KH → Pos → R) (t : KSt), VRs vs vs' → HR S S' → xlist vs S nx K = some t →
    ∃ v T nx2 v' T', K v T nx2 = some t ∧ VR v v' ∧ HR T T' ∧ ∀ K' : SV → SH → Nat → Prop, K' v' T' nx2.val → CallOb Tryz.prog G 134 vs' S' nx.val K' := by
  intro vs vs' S S' nx K t hv hH h
  cases hv with
  | nil => cases h
  | cons v v' vs vs' hv hs =>
    cases hs with
    | cons => cases hv with
      | iv _ _ h2 => cases h2 <;> cases h
      | ptr | ixp | sl | slx | map | agg | tup | fn => cases h
    | nil =>
      cases hv with
      | ptr n off =>
        obtain ⟨o, h1, h2⟩ := KH.getR_some h
        obtain ⟨o', h3, h4⟩ := hH n o h1
        cases h4 with
        | cells cs cs' hcs =>
          obtain ⟨c, c', g1, g2, g3⟩ := kcell_sim hcs _ t h2
          cases g2 with
          | map m =>
            obtain ⟨o, h5, h6⟩ := KH.getR_some g1
            obtain ⟨o', h7, h8⟩ := hH m o h5
            cases h8 with
            | mp es es' hes =>
              cases hes with
              | nil =>
                obtain ⟨e, h9⟩ := gd_some h6
                simp only [KH.newR, KH.setR_eq, Pos.succR_eq] at h9
                refine ⟨_, _, _, .iv .nilsl, _, h9, .iv _ _ .nilsl, hH.new (.cells _ _ (.cons _ _ _ _ (.map m) .nil)), fun K' hk => ?_⟩
                rw [Pos.val_succ] at hk
                refine list_ob h3 g3 h7 (fun q => ?_) hk
                rw [Pos.inj q, Pos.eqb_self] at e
                cases e
              | cons => cases h6
            | cells | bytes | arr => cases h6
          | iv _ _ h => cases h <;> cases g1
          | ptr | ixp | sl | slx | agg | tup | fn => cases g1
        | bytes | arr | mp => cases h2
      | iv _ _ h2 => cases h2 <;> cases h
      | ixp | sl | slx | map | agg | tup | fn => cases h
end
end Sg
end YtfkboondffejaaaGreatDoor
end Go.Proofs
set_option linter.unusedVariables false
set_option linter.unusedSimpArgs false
namespace Go.Proofs
namespace YtfkboondffejaaaGreatDoor
namespace Sg
theorem Sat.bare {ρ ρ2 : Env} {hI : Hp} {hF : Fm} {w : World} {S : SH} {nx nx2 : Nat} (h : Sat ρ hI hF w S nx) (hn : ∀ n, nx2 ≤ n → ρ2 n = none) : Sat ρ2 hI hF w [] nx2 := by
  obtain ⟨⟨k, hk, d1, d2, d3, i1, i2, i3⟩, _, hw⟩ := h
  exact ⟨⟨Hp.emp, fun b => rfl, fun b => .inr rfl, d2, Hp.emp_disj _, i1, (fun b o e => by cases e), i3⟩, hn, hw⟩
theorem closed_ob {P : Program} {G : Gl} {f : Nat} {x : IV} (hc : CallOb P G f [] [] 1 (fun v _ _ => v = .iv x)) {S : SH} {nx : Nat} {K : SV → SH → Nat → Prop} (h : K (.iv x) S nx) : CallOb P G f [] S nx K := by
  intro ρ hI hF w vs hs hg hv
  cases hv
  have hs1 : Sat ρ hI hF w (S ++ []) nx := by rw [List.append_nil]; exact hs
  obtain ⟨hA, _, hs2, back⟩ := Sat.aside (A := S) (S := []) hs1
  refine (hc (fun _ => none) hI _ w [] (hs2.bare (fun _ _ => rfl)) hg .nil).mono ?_
  rintro e w' ⟨v, r, S', nx', ρ', hI', rfl, rfl, hd, hs3, _, _, hsub⟩
  have hs4 := back ρ hI' w' [] nx (fun _ _ h => h) hsub (hs3.bare hs.2.1)
  rw [List.append_nil] at hs4
  refine ⟨v, _, S, nx, ρ, hI', rfl, h, ?_, hs4, Env.ext.refl _ _, Nat.le_refl _, hsub⟩
  cases hd with
  | iv _ _ hd => exact .iv _ _ hd
end Sg
end YtfkboondffejaaaGreatDoor
end Go.Proofs
set_option maxRecDepth 100000
set_option linter.unusedVariables false
set_option linter.unusedSimpArgs false
namespace Go.Proofs
namespace YtfkboondffejaaaGreatDoor
namespace Sg
theorem utf8F_ok : ∀ c : Fin 256, ((utf8F.getD c 0).toNat : Int) = Lib.firstT c := by decide
theorem utf8A_ok : ∀ i : Fin 16, ((utf8A.getD (2 * i) 0).toNat : Int) = Lib.accLo i ∧ ((utf8A.getD (2 * i + 1) 0).toNat : Int) = Lib.accHi i := by decide
theorem sbs_cell {hI : Hp} {w : World} {g n : Nat} {l : List UInt8} (hi : hI.into w) (h : IDen hI (.ip [.sbs n l]) (.pointer (some ⟨g, 0, none⟩))) {j : Nat} (hj : j < l.length) : w.cell? ⟨g, j, none⟩ = some (.int .u8 ((l.getD j 0).toNat : Int)) := by
  cases h with
  | ip _ _ _ vs hd hc =>
    cases hd with
    | one _ _ _ _ h => exact (no_isbs h).elim
    | sbs _ _ _ us hl hs =>
      cases hs
      have e : (l.map bv ++ [])[j]? = some (bv (l.getD j 0)) := getD_app_bytes hj
      have := cell_hI hi (hc j _ e)
      rw [Nat.zero_add] at this
      exact this
section
variable {S : SH} {nx : Nat} {K : SV → SH → Nat → Prop}
theorem f23 (l : List UInt8) (hl : l.length ≤ 9223372036854775807) (h : K (.iv (.bool (Lib.validD l))) S nx) : CallOb Tryz.prog g0 23 [.iv (.str l)] S nx K := by
  intro ρ hI hF w vs hs hg hv
  cases hv with | cons _ v _ vs hd hs2 =>
  cases hs2
  cases hd with | iv _ _ hd =>
  cases hd
  have hi : hI.into w := hs.1.choose_spec.2.2.2.2.1
  have hT : Lib.Utf8Tabs 1 2 w := by
    refine ⟨fun c hc => ?_, fun i hi' => ⟨?_, ?_⟩⟩
    · rw [sbs_cell hi (hg 1 [.sbs 256 utf8F] rfl) (show c < utf8F.length from hc), utf8F_ok ⟨c, hc⟩]
    · rw [sbs_cell hi (hg 2 [.sbs 32 utf8A] rfl) (show 2 * i < utf8A.length by have : utf8A.length = 32 := rfl; omega), (utf8A_ok ⟨i, hi'⟩).1]
    · rw [sbs_cell hi (hg 2 [.sbs 32 utf8A] rfl) (show 2 * i + 1 < utf8A.length by have : utf8A.length = 32 := rfl; omega), (utf8A_ok ⟨i, hi'⟩).2]
  refine (Any.utf8_ValidString Tryz.validA ⟨l.toArray⟩ w (by simpa [ByteArray.size] using hl) hT).mono ?_
  rintro e w' ⟨rfl, hb⟩
  exact ⟨_, _, S, nx, ρ, hI, rfl, by simpa using h, .iv _ _ (.bool _), hs.below hb, Env.ext.refl _ _, Nat.le_refl _, Hp.sub.refl _⟩
end
end Sg
end YtfkboondffejaaaGreatDoor
end Go.Proofs
set_option maxRecDepth 100000
set_option maxHeartbeats 8000000
set_option linter.unusedVariables false
set_option linter.unusedSimpArgs false
namespace Go.Proofs
namespace YtfkboondffejaaaGreatDoor
namespace Sg
attribute [local irreducible] CallOb
theorem xor63 {n : Nat} (h : n < 9223372036854775808) : n ^^^ 9223372036854775808 = n + 9223372036854775808 := by
  have e := Nat.two_pow_add_eq_or_of_lt (i := 63) (b := n) (by simpa using h) 1
  rw [Nat.add_comm, show (9223372036854775808 : Nat) = 2 ^ 63 * 1 from rfl, e]
  apply Nat.eq_of_testBit_eq
  intro i
  simp only [Nat.testBit_xor, Nat.testBit_or, Nat.mul_one, Nat.testBit_two_pow]
  by_cases hi : 63 = i
  · subst hi
    rw [Nat.testBit_lt_two_pow (by simpa using h)]
    simp
  · simp [hi]
theorem xor63' {u : Nat} (h : u < 18446744073709551616) : u ^^^ 9223372036854775808 = (u + 9223372036854775808) % 18446744073709551616 := by
  by_cases hu : u < 9223372036854775808
  · rw [xor63 hu]; omega
  · obtain ⟨r, rfl⟩ : ∃ r, u = r + 9223372036854775808 := ⟨u - 9223372036854775808, by omega⟩
    rw [← xor63 (show r < 9223372036854775808 by omega), Nat.xor_assoc, Nat.xor_self, Nat.xor_zero, xor63 (by omega)]
    omega
theorem xorI63 {u : Nat} (h : u < 18446744073709551616) : bitI .xor .u64 (u : Int) 9223372036854775808 = (((u + 9223372036854775808) % 18446744073709551616 : Nat) : Int) := by
  unfold bitI
  have e1 : (BitVec.ofInt IntKind.u64.bits (u : Int)).toNat = u := by
    show (BitVec.ofInt 64 (u : Int)).toNat = u
    rw [BitVec.ofInt_natCast]; simp; omega
  have e2 : (BitVec.ofInt IntKind.u64.bits 9223372036854775808).toNat = 9223372036854775808 := by decide
  simp only [BitVec.toNat_xor, e1, e2]
  rw [xor63' h, wr64]
  omega
def txt : List UInt8 → List UInt8
  | [] => []
  | b :: l => b :: (if b = 0 then 255 :: txt l else txt l)
def textB (l : List UInt8) : List UInt8 := txt l ++ [0, 1]
theorem txt_app : ∀ (a b : List UInt8), txt (a ++ b) = txt a ++ txt b
  | [], b => rfl
  | x :: a, b => by
    simp only [List.cons_append, txt, txt_app a b]
    split <;> simp
theorem txt_len : ∀ l : List UInt8, (txt l).length ≤ 2 * l.length
  | [] => Nat.le_refl _
  | x :: l => by
    have := txt_len l
    simp only [txt]
    split <;> simp <;> omega
theorem take_getD {l : List UInt8} {i : Nat} (h : i < l.length) : l.take (i + 1) = l.take i ++ [l.getD i 0] := by
  rw [List.take_succ, List.getD_eq_getElem?_getD, List.getElem?_eq_getElem h]; rfl
theorem txt_step {l : List UInt8} {i : Nat} (h : i < l.length) : txt (l.take (i + 1)) = txt (l.take i) ++ [l.getD i 0] ++ (if l.getD i 0 = 0 then [255] else []) := by
  rw [take_getD h, txt_app]
  simp only [txt]
  split <;> simp
theorem sl_eq {s q o a b : Nat} (h : a = b) : SV.sl s q o a = SV.sl s q o b := by rw [h]
section
variable {S : SH} {nx : Nat} {K : SV → SH → Nat → Prop}
theorem f27 (n : Nat) (h : K (.slx 1 nx 0 8 8) ((nx, .cells [.iv (.sbs 8 (be8 n))]) :: S) (nx + 1)) : CallOb Tryz.prog g0 27 [.iv (.int .u64 (n : Int))] S nx K := by
  refine fresh_ob (R := fun mk o => mk = (fun q => .slx 1 q 0 8 8) ∧ o = .cells [.iv (.sbs 8 (be8 n))]) (xs := [.iv (.int .u64 (n : Int))]) ?_ (.cons _ _ _ _ (.same _ rfl) .nil) (by rintro mk o ⟨rfl, rfl⟩; exact h)
  refine body_ok ck27 ?_
  conv => whnf
  intro I hI
  iterate 8 (apply hI; (conv => whnf); repeat ((first | (refine And.intro ?_ ?_; · (simp only [minI, maxI]; omega)) | (refine vc_mk ?_ ?_; · first | omega | exact ⟨rfl, rfl⟩ | (simp [sub] <;> omega)) | (refine beq_yes ?_ ?_; · rfl) | (refine beq_no ?_ ?_; · omega)); conv => whnf))
  apply hI
  conv => whnf
  clear hI
  refine ⟨_, 1, _, rfl, Ren.slx, rfl, rfl, rfl, ?_⟩
  simp [toByte_shr, be8, List.replicate]
theorem f28 (n : Nat) (hn : n < 9223372036854775808) (h : K (.slx 1 nx 0 8 8) ((nx, .cells [.iv (.sbs 8 (be8 (n + 9223372036854775808)))]) :: S) (nx + 1)) : CallOb Tryz.prog g0 28 [.iv (.int .i64 (n : Int))] S nx K := by
  refine body_ok ck28 ?_
  conv => whnf
  rw [wr64, Nat.mod_eq_of_lt (by omega), xorI63 (by omega), Nat.mod_eq_of_lt (by omega)]
  refine f27 _ ?_
  conv => whnf
  exact h
theorem f29 (l : List UInt8) (hl : l.length ≤ 1000) (h : K (.sl 1 nx 0 (textB l).length) ((nx, .bytes (textB l)) :: S) (nx + 1)) : CallOb Tryz.prog g0 29 [.iv (.str l)] S nx K := by
  refine fresh_ob (R := fun mk o => mk = (fun q => .sl 1 q 0 (textB l).length) ∧ o = .bytes (textB l)) (xs := [.iv (.str l)]) ?_ (.cons _ _ _ _ (.same _ rfl) .nil) (by rintro mk o ⟨rfl, rfl⟩; exact h)
  refine body_ok ck29 ?_
  conv => whnf
  intro I hI
  have key : ∀ m i, i + m = l.length → ∀ c, c = txt (l.take i) → ∀ v S nx, ((v = .iv .nilsl ∧ c = [] ∧ S = [] ∧ nx = 1) ∨ ∃ q T n, v = .sl 1 q 0 n ∧ n = c.length ∧ S = (q, .bytes c) :: T ∧ q < nx) →
      FrI F27 [(x32, .iv (.str l)), (x35, v), (x38, .iv (.int .i64 (l.length : Int))), (x39, .iv (.int .i64 (i : Int)))] (fun fr => I fr S nx) := by
    intro m
    induction m with
    | zero =>
      intro i hi c hc v S nx hv
      have hcl : c.length ≤ 2000 := by rw [hc]; have := txt_len (l.take i); simp at this; omega
      have e : c ++ sub [0, 1] 0 2 = textB l := by rw [hc, List.take_of_length_le (by omega)]; rfl
      rcases hv with ⟨rfl, rfl, rfl, rfl⟩ | ⟨q, T, n, rfl, rfl, rfl, hq⟩
      all_goals refine FrI.mk fun g => ?_
      all_goals apply hI
      all_goals conv => whnf
      all_goals refine cond_no (by simp; omega) ?_
      all_goals conv => whnf
      all_goals repeat ((first | (refine And.intro ?_ ?_; · (simp only [minI, maxI]; omega)) | (refine vc_mk ?_ ?_; · first | omega | exact ⟨rfl, rfl⟩ | (simp [sub] <;> omega)) | (refine beq_yes ?_ ?_; · rfl) | (refine beq_no ?_ ?_; · omega)); conv => whnf)
      · refine ⟨fun q => .sl 1 q 0 (textB l).length, _, .bytes (textB l), sl_eq ?_, Ren.sl, ?_, rfl, rfl, rfl⟩
        · rw [← e]; rfl
        · rw [← e]; rfl
      · refine ⟨fun q => .sl 1 q 0 (textB l).length, _, .bytes (textB l), sl_eq ?_, Ren.sl, ?_, rfl, rfl, rfl⟩
        · rw [← e]; simp [sub]
        · rw [← e]; exact get_hd
    | succ m ih =>
      intro i hi c hc v S nx hv
      have hcl : c.length ≤ 2000 := by rw [hc]; have := txt_len (l.take i); simp at this; omega
      have hs := txt_step (l := l) (i := i) (by omega)
      rcases hv with ⟨rfl, rfl, rfl, rfl⟩ | ⟨q, T, n, rfl, rfl, rfl, hq⟩
      all_goals refine FrI.mk fun g => ?_
      all_goals apply hI
      all_goals conv => whnf
      all_goals refine cond_yes (by simp; omega) ?_
      all_goals conv => whnf
      all_goals repeat ((first | (refine And.intro ?_ ?_; · (simp only [minI, maxI]; omega)) | (refine vc_mk ?_ ?_; · first | omega | exact ⟨rfl, rfl⟩ | (simp [sub] <;> omega)) | (refine beq_yes ?_ ?_; · rfl) | (refine beq_no ?_ ?_; · omega)); conv => whnf)
      all_goals refine cond_mk (fun h0 => ?_) (fun h0 => ?_)
      all_goals conv => whnf
      all_goals repeat ((first | (refine And.intro ?_ ?_; · (simp only [minI, maxI]; omega)) | (refine vc_mk ?_ ?_; · first | omega | exact ⟨rfl, rfl⟩ | (simp [sub] <;> omega)) | (refine beq_yes ?_ ?_; · rfl) | (refine beq_no ?_ ?_; · omega)); conv => whnf)
      all_goals refine ih (i + 1) (by omega) _ ?_ _ _ _ (.inr ⟨_, _, _, rfl, ?_, rfl, by omega⟩) _ rfl ⟨rfl, rfl, rfl, rfl, trivial⟩
      all_goals clear hI ih
      all_goals simp only [decide_eq_true_eq, decide_eq_false_iff_not, Int.toNat_natCast] at h0
      all_goals first | (rw [hs, ← hc, if_pos h0]; simp [sub]; done) | (rw [hs, ← hc, if_neg h0]; simp [sub]; done) | (simp [sub]; done)
  refine key l.length 0 (Nat.zero_add _) [] rfl _ _ _ (.inl ⟨rfl, rfl, rfl, rfl⟩) _ rfl ⟨rfl, rfl, rfl, rfl, trivial⟩
end
end Sg
end YtfkboondffejaaaGreatDoor
end Go.Proofs
set_option maxRecDepth 100000
set_option maxHeartbeats 8000000
set_option linter.unusedVariables false
set_option linter.unusedSimpArgs false
namespace Go.Proofs
namespace YtfkboondffejaaaGreatDoor
namespace Sg
attribute [local irreducible] CallOb
structure Ev where
  seq : Nat
  tick : Int
  who : List UInt8
  verb : UInt8
  whom : List UInt8
  link : List UInt8
def Ev.sv (v : Ev) : SV := .agg [.iv (.int .u64 v.seq), .iv (.int .i64 v.tick), .iv (.str v.who), .iv (.byte v.verb), .iv (.str v.whom), .iv (.sbs 32 v.link)]
structure Ev.Ok (v : Ev) : Prop where
  seq : v.seq < 18446744073709551616
  who : v.who.length ≤ 9223372036854775807
  whom : v.whom.length ≤ 9223372036854775807
  link : v.link.length = 32
def formB (v : Ev) : Bool := decide (1 ≤ v.seq) && decide (0 ≤ v.tick) && decide (v.tick ≤ 1099511627776) && decide (1 ≤ v.verb) && decide (v.verb ≤ 11) && decide (v.who.length ≤ 32) && decide (v.whom.length ≤ 32) && Lib.validD v.who && Lib.validD v.whom
def encB (v : Ev) : List UInt8 := be8 v.seq ++ be8 (v.tick.toNat + 9223372036854775808) ++ [v.verb] ++ textB v.who ++ textB v.whom
section
variable {S : SH} {nx : Nat} {K : SV → SH → Nat → Prop}
theorem f14 (v : Ev) (hv : v.Ok) (h : K (.iv (.bool (formB v))) S nx) : CallOb Tryz.prog g0 14 [v.sv] S nx K := by
  refine flat_ob (R := fun r => r = .iv (.bool (formB v))) (xs := [v.sv]) ?_ (.cons _ _ _ _ (.same _ rfl) .nil) (by rintro r rfl; exact ⟨rfl, h⟩)
  refine body_ok ck14 ?_
  obtain ⟨seq, tick, who, verb, whom, link⟩ := v
  obtain ⟨h1, h2, h3, h4⟩ := hv
  simp only at h1 h2 h3 h4
  conv => whnf
  refine cond_mk (fun c0 => ?_) (fun c0 => ?_)
  rotate_left
  · conv => whnf
    simp only [decide_eq_false_iff_not] at c0
    rw [show formB ⟨seq, tick, who, verb, whom, link⟩ = false by simp [formB]; first | omega | (intros; first | contradiction | omega)]
  conv => whnf
  simp only [decide_eq_true_eq] at c0
  refine cond_mk (fun c1 => ?_) (fun c1 => ?_)
  rotate_left
  · conv => whnf
    simp only [decide_eq_false_iff_not] at c1
    rw [show formB ⟨seq, tick, who, verb, whom, link⟩ = false by simp [formB]; first | omega | (intros; first | contradiction | omega)]
  conv => whnf
  simp only [decide_eq_true_eq] at c1
  refine cond_mk (fun c2 => ?_) (fun c2 => ?_)
  rotate_left
  · conv => whnf
    simp only [decide_eq_false_iff_not] at c2
    rw [show formB ⟨seq, tick, who, verb, whom, link⟩ = false by simp [formB]; first | omega | (intros; first | contradiction | omega)]
  conv => whnf
  simp only [decide_eq_true_eq] at c2
  refine cond_mk (fun c3 => ?_) (fun c3 => ?_)
  rotate_left
  · conv => whnf
    simp only [decide_eq_false_iff_not] at c3
    rw [show formB ⟨seq, tick, who, verb, whom, link⟩ = false by simp [formB]; first | omega | (intros; first | contradiction | omega)]
  conv => whnf
  simp only [decide_eq_true_eq] at c3
  refine cond_mk (fun c4 => ?_) (fun c4 => ?_)
  rotate_left
  · conv => whnf
    simp only [decide_eq_false_iff_not] at c4
    rw [show formB ⟨seq, tick, who, verb, whom, link⟩ = false by simp [formB]; first | omega | (intros; first | contradiction | omega)]
  conv => whnf
  simp only [decide_eq_true_eq] at c4
  refine cond_mk (fun c5 => ?_) (fun c5 => ?_)
  rotate_left
  · conv => whnf
    simp only [decide_eq_false_iff_not] at c5
    rw [show formB ⟨seq, tick, who, verb, whom, link⟩ = false by simp [formB]; first | omega | (intros; first | contradiction | omega)]
  conv => whnf
  simp only [decide_eq_true_eq] at c5
  refine cond_mk (fun c6 => ?_) (fun c6 => ?_)
  rotate_left
  · conv => whnf
    simp only [decide_eq_false_iff_not] at c6
    rw [show formB ⟨seq, tick, who, verb, whom, link⟩ = false by simp [formB]; first | omega | (intros; first | contradiction | omega)]
  conv => whnf
  simp only [decide_eq_true_eq] at c6
  refine f23 _ h2 ?_
  conv => whnf
  refine cond_mk (fun d1 => ?_) (fun d1 => ?_)
  rotate_left
  · conv => whnf
    rw [show formB ⟨seq, tick, who, verb, whom, link⟩ = false by simp [formB, d1]]
  conv => whnf
  refine f23 _ h3 ?_
  conv => whnf
  rw [show formB ⟨seq, tick, who, verb, whom, link⟩ = Lib.validD whom by simp [formB, d1]; simp_all; omega]
theorem f9 (v : Ev) (hv : v.Ok) (h : K (.iv (.bool (formB v))) S nx) : CallOb Tryz.prog g0 9 [v.sv] S nx K := by
  refine flat_ob (R := fun r => r = .iv (.bool (formB v))) (xs := [v.sv]) ?_ (.cons _ _ _ _ (.same _ rfl) .nil) (by rintro r rfl; exact ⟨rfl, h⟩)
  refine body_ok ck9 ?_
  obtain ⟨seq, tick, who, verb, whom, link⟩ := v
  obtain ⟨h1, h2, h3, h4⟩ := hv
  simp only at h1 h2 h3 h4
  conv => whnf
  refine cond_mk (fun c0 => ?_) (fun c0 => ?_)
  rotate_left
  · conv => whnf
    simp only [decide_eq_false_iff_not] at c0
    rw [show formB ⟨seq, tick, who, verb, whom, link⟩ = false by simp [formB]; first | omega | (intros; first | contradiction | omega)]
  conv => whnf
  simp only [decide_eq_true_eq] at c0
  refine cond_mk (fun c1 => ?_) (fun c1 => ?_)
  rotate_left
  · conv => whnf
    simp only [decide_eq_false_iff_not] at c1
    rw [show formB ⟨seq, tick, who, verb, whom, link⟩ = false by simp [formB]; first | omega | (intros; first | contradiction | omega)]
  conv => whnf
  simp only [decide_eq_true_eq] at c1
  refine cond_mk (fun c2 => ?_) (fun c2 => ?_)
  rotate_left
  · conv => whnf
    simp only [decide_eq_false_iff_not] at c2
    rw [show formB ⟨seq, tick, who, verb, whom, link⟩ = false by simp [formB]; first | omega | (intros; first | contradiction | omega)]
  conv => whnf
  simp only [decide_eq_true_eq] at c2
  refine cond_mk (fun c3 => ?_) (fun c3 => ?_)
  rotate_left
  · conv => whnf
    simp only [decide_eq_false_iff_not] at c3
    rw [show formB ⟨seq, tick, who, verb, whom, link⟩ = false by simp [formB]; first | omega | (intros; first | contradiction | omega)]
  conv => whnf
  simp only [decide_eq_true_eq] at c3
  refine cond_mk (fun c4 => ?_) (fun c4 => ?_)
  rotate_left
  · conv => whnf
    simp only [decide_eq_false_iff_not] at c4
    rw [show formB ⟨seq, tick, who, verb, whom, link⟩ = false by simp [formB]; first | omega | (intros; first | contradiction | omega)]
  conv => whnf
  simp only [decide_eq_true_eq] at c4
  refine cond_mk (fun c5 => ?_) (fun c5 => ?_)
  rotate_left
  · conv => whnf
    simp only [decide_eq_false_iff_not] at c5
    rw [show formB ⟨seq, tick, who, verb, whom, link⟩ = false by simp [formB]; first | omega | (intros; first | contradiction | omega)]
  conv => whnf
  simp only [decide_eq_true_eq] at c5
  refine cond_mk (fun c6 => ?_) (fun c6 => ?_)
  rotate_left
  · conv => whnf
    simp only [decide_eq_false_iff_not] at c6
    rw [show formB ⟨seq, tick, who, verb, whom, link⟩ = false by simp [formB]; first | omega | (intros; first | contradiction | omega)]
  conv => whnf
  simp only [decide_eq_true_eq] at c6
  refine f23 _ h2 ?_
  conv => whnf
  refine cond_mk (fun d1 => ?_) (fun d1 => ?_)
  rotate_left
  · conv => whnf
    rw [show formB ⟨seq, tick, who, verb, whom, link⟩ = false by simp [formB, d1]]
  conv => whnf
  refine f23 _ h3 ?_
  conv => whnf
  rw [show formB ⟨seq, tick, who, verb, whom, link⟩ = Lib.validD whom by simp [formB, d1]; simp_all; omega]
end
end Sg
end YtfkboondffejaaaGreatDoor
end Go.Proofs
set_option maxRecDepth 100000
set_option linter.unusedVariables false
set_option linter.unusedSimpArgs false
namespace Go.Proofs
namespace YtfkboondffejaaaGreatDoor
open Go.ChangeShapes Go.WideShapes Go.ChangeAt Go.RowKit
namespace Sg
theorem own : ownKnob Tryz.prog.godebug = none := by kernel_rfl
theorem laidOut : laidOutB Tryz.prog = true := by kernel_rfl
def allH (W : World) : Hp := fun b => W.heap[b]?
theorem allH_cell {W : World} {b o : Nat} : (allH W).cell b o = W.cell? ⟨b, o, none⟩ := by
  unfold allH Hp.cell World.cell?
  rfl
theorem sat0 (W : World) : Sat (fun _ => none) (allH W) ⟨Hp.emp, W⟩ W [] 1 :=
  ⟨⟨Hp.emp, fun _ => rfl, Hp.disj_emp _, Hp.disj_emp _, Hp.emp_disj _, fun b o h => h, (fun b o h => by cases h), (fun b o h => by cases h)⟩, fun _ _ => rfl, Wk.refl W⟩
theorem below_of {W W' : World} {ρ : Env} {hI : Hp} {S : SH} {nx : Nat} (hs : (allH W).sub hI) (h : Sat ρ hI ⟨Hp.emp, W⟩ W' S nx) : Below W.heap.size W W' := by
  obtain ⟨⟨k, hk, d1, d2, d3, i1, i2, i3⟩, _, hw⟩ := h
  refine ⟨hw.os, hw.tape, hw.output, hw.size, fun b hb => ?_⟩
  have e : W.heap[b]? = some W.heap[b] := Array.getElem?_eq_getElem hb
  rw [i1 b _ (hs b _ e), e]
theorem ip_of {W : World} {g n : Nat} {l : List UInt8} (hl : l.length = n) (h : ∀ j, j < n → W.cell? ⟨g, j, none⟩ = some (bv (l.getD j 0))) : IDen (allH W) (.ip [.sbs n l]) (.pointer (some ⟨g, 0, none⟩)) := by
  refine .ip _ g 0 (l.map bv ++ []) (.sbs n l [] [] hl .nil) (fun j v hv => ?_)
  rw [Nat.zero_add, allH_cell]
  rw [List.append_nil, List.getElem?_map] at hv
  cases hx : l[j]? with
  | none => rw [hx] at hv; cases hv
  | some x =>
    rw [hx] at hv
    cases hv
    have hlt := (List.getElem?_eq_some_iff.1 hx).1
    rw [h j (by omega), List.getD_eq_getElem?_getD, hx]; rfl
theorem ip_ofI {W : World} {g n : Nat} {k : IntKind} {l : List Int} (hl : l.length = n) (h : ∀ j, j < n → W.cell? ⟨g, j, none⟩ = some (.int k (l.getD j 0))) : IDen (allH W) (.ip [.sis k n l]) (.pointer (some ⟨g, 0, none⟩)) := by
  refine .ip _ g 0 (l.map (Value.int k) ++ []) (.sis k n l [] [] hl .nil) (fun j v hv => ?_)
  rw [Nat.zero_add, allH_cell]
  rw [List.append_nil, List.getElem?_map] at hv
  cases hx : l[j]? with
  | none => rw [hx] at hv; cases hv
  | some x =>
    rw [hx] at hv
    cases hv
    have hlt := (List.getElem?_eq_some_iff.1 hx).1
    rw [h j (by omega), List.getD_eq_getElem?_getD, hx]; rfl
abbrev LAID : List (String × DataW Unit) := [("muniment/digest.first", Rows.laid_muniment_digest_first), ("muniment/digest.parts", Rows.laid_muniment_digest_parts), ("unicode/utf8.acceptRanges", Rows.laid_unicode_utf8_acceptRanges), ("unicode/utf8.first", Rows.laid_unicode_utf8_first)]
theorem ty0 : (Tryz.prog.globals[0]?).map (·.type) = some 33 := by kernel_rfl
theorem ty3 : (Tryz.prog.globals[3]?).map (·.type) = some 34 := by kernel_rfl
theorem u8extra : U8Extra Tryz.prog Tryz.validA_ren := ⟨by kernel_rfl, by kernel_rfl, by kernel_rfl, by kernel_rfl, by kernel_rfl, by kernel_rfl, by kernel_rfl⟩
theorem gok {W : World} (h : laidMetH Tryz.prog LAID W) : GOk g0 (allH W) := by
  rw [MakeChecks.laidMetH_plain _ _ _ (by kernel_rfl)] at h
  obtain ⟨ps, ⟨a0, b0, c0, F0, p0, q0, hg0, ht0, hv0, hd0, ⟨a3, b3, c3, F3, p3, q3, hg3, ht3, hv3, hd3, ⟨a2, b2, c2, F2, p2, q2, hg2, ht2, hv2, hd2, ⟨a1, b1, c1, F1, p1, q1, hg1, ht1, hv1, hd1, _, _⟩, _⟩, _⟩, _⟩, _, _⟩ := h
  have T : Lib.Utf8Tabs 1 2 W := utf8Tabs_of_readsT (U8Types.of196 Tryz.validA) u8extra ⟨a1, b1, c1, F1, p1, hg1, ht1, hv1, by rw [← Pinned.utf8First_eq]; exact hd1⟩ ⟨a2, b2, c2, F2, p2, hg2, ht2, hv2, hd2⟩
  obtain rfl := Option.some.inj ((show Tryz.prog.globalNamed "muniment/digest.first" = some 0 by kernel_rfl).symm.trans hg0)
  obtain rfl := Option.some.inj ((show Tryz.prog.globalNamed "muniment/digest.parts" = some 3 by kernel_rfl).symm.trans hg3)
  obtain rfl := Option.some.inj (ty0.symm.trans ht0)
  obtain rfl := Option.some.inj (ty3.symm.trans ht3)
  have k0 := Lib.cells_of_tab Tryz.underlying33 Tryz.underlying32 (by kernel_rfl) (by kernel_rfl) (show DataW.trod _ Tryz.prog W 0 _ false F0 33 c0.toList = some (Lib.tabData .u32 (firstV.l.map wi), p0) from hd0)
  have k3 := Lib.cells_of_tab Tryz.underlying34 Tryz.underlying32 (by kernel_rfl) (by kernel_rfl) (show DataW.trod _ Tryz.prog W 0 _ false F3 34 c3.toList = some (Lib.tabData .u32 (partsW.map wi), p3) from hd3)
  intro g cs hg
  unfold g0 at hg
  cases e0 : Nat.beq g 0
  · rw [e0] at hg
    cases e3 : Nat.beq g 3
    · rw [e3] at hg
      cases e1 : Nat.beq g 1
      · rw [e1] at hg
        cases e2 : Nat.beq g 2
        · rw [e2] at hg; cases hg
        · rw [e2] at hg
          obtain rfl := Nat.eq_of_beq_eq_true e2
          cases hg
          refine ip_of rfl (fun j hj => ?_)
          rcases Nat.mod_two_eq_zero_or_one j with hm | hm
          · obtain ⟨i, rfl⟩ : ∃ i, j = 2 * i := ⟨j / 2, by omega⟩
            rw [(T.2 i (by omega)).1]; exact congrArg _ (congrArg _ (utf8A_ok ⟨i, by omega⟩).1.symm)
          · obtain ⟨i, rfl⟩ : ∃ i, j = 2 * i + 1 := ⟨j / 2, by omega⟩
            rw [(T.2 i (by omega)).2]; exact congrArg _ (congrArg _ (utf8A_ok ⟨i, by omega⟩).2.symm)
      · rw [e1] at hg
        obtain rfl := Nat.eq_of_beq_eq_true e1
        cases hg
        refine ip_of rfl (fun j hj => ?_)
        rw [T.1 j hj]; exact congrArg _ (congrArg _ (utf8F_ok ⟨j, hj⟩).symm)
    · rw [e3] at hg
      obtain rfl := Nat.eq_of_beq_eq_true e3
      cases hg
      refine ip_ofI rfl (fun j hj => ?_)
      rw [World.var?_cell hg3 hv3 j, ← Array.getElem?_toList, k3, List.getElem?_map, List.getD_eq_getElem?_getD, List.getElem?_eq_getElem (by exact hj)]; rfl
  · rw [e0] at hg
    obtain rfl := Nat.eq_of_beq_eq_true e0
    cases hg
    refine ip_ofI rfl (fun j hj => ?_)
    rw [World.var?_cell hg0 hv0 j, ← Array.getElem?_toList, k0, List.getElem?_map, List.getD_eq_getElem?_getD, List.getElem?_eq_getElem (by exact hj)]; rfl
section
variable {H : Type} {enc : TypeId × Value → H} {W : World} {b : Nat} {sp : Nat → Bool} {hld : Bool}
theorem wf_int {k : IntKind} {n : Int} (h : (Lit.int k n).wf = true) : k.min ≤ n ∧ n ≤ k.max := by simpa [Lit.wf] using h
theorem bytes_of {n m : Nat} {cs : List Value} (hl : cs.length = n) (h : ∀ i, i < n → ∃ x, DataW.trod enc Tryz.prog W b sp hld m 5 ((cs.drop i).take 1) = some x) : ∃ l : List UInt8, l.length = n ∧ cs = l.map bv := by
  refine ⟨cs.map fun v => match v with | .int _ z => UInt8.ofNat z.toNat | _ => 0, by simp [hl], ?_⟩
  apply List.ext_getElem (by simp)
  intro i h1 h2
  obtain ⟨x, hx⟩ := h i (by omega)
  obtain ⟨z, e, _, hw⟩ := DataW.trod_int Tryz.underlying5 hx
  have hz := wf_int hw
  simp only [IntKind.min, IntKind.max, IntKind.signed, IntKind.bits] at hz
  have e2 : cs[i] = .int .u8 z := by
    have : ((cs.drop i).take 1)[0]? = some (.int .u8 z) := by rw [e]; rfl
    rw [List.getElem?_take, List.getElem?_drop] at this
    have h3 : cs[i]? = some (.int .u8 z) := by simpa using this
    exact (List.getElem?_eq_some_iff.1 h3).2
  simp only [List.getElem_map, e2, bv]
  congr 1
  simp at hz
  simp; omega
theorem arg22 {v : Value} {d : DataW H} {p : List MemPlace} (hval : Value.okWide Tryz.prog W .any b 22 v) (hd : DataW.Trod enc Tryz.prog W 0 sp hld 22 v d p) : ∃ l : List UInt8, l.length = 32 ∧ v = .agg (l.map bv).toArray := by
  unfold Value.okWide at hval
  rw [Tryz.underlying22] at hval
  obtain ⟨cs, rfl, hs, _⟩ := hval
  obtain ⟨fuel, hf⟩ := hd
  obtain ⟨xs, m, _, _, hl, hxl, hel⟩ := DataW.trod_array Tryz.underlying22 hf
  have c22 : Tryz.prog.cellsOf 22 = 32 := by kernel_rfl
  have c5 : Tryz.prog.cellsOf 5 = 1 := by kernel_rfl
  rw [c22] at hl
  obtain ⟨l, h1, h2⟩ := bytes_of (n := 32) (enc := enc) (W := W) (b := 0) (sp := sp) (hld := hld) (m := m) (cs := (Value.agg cs).cells.toList) hl (fun i hi => by
    have := hel i hi
    rw [c5, Nat.mul_one, List.getElem?_eq_getElem (by omega)] at this
    exact ⟨_, this⟩)
  refine ⟨l, h1, ?_⟩
  rw [← h2]
  simp [Value.cells]
theorem arg25 {v : Value} {d : DataW H} {p : List MemPlace} (hval : Value.okWide Tryz.prog W .any b 25 v) (hd : DataW.Trod enc Tryz.prog W 0 sp hld 25 v d p) : ∃ e : Ev, e.Ok ∧ ∀ (ρ : Env) (hI : Hp), SDen ρ hI e.sv v := by
  unfold Value.okWide at hval
  rw [Tryz.underlying25] at hval
  obtain ⟨cs, rfl, hs, _⟩ := hval
  obtain ⟨fuel, hf⟩ := hd
  obtain ⟨xs, n, _, _, hl, hxl, hel⟩ := DataW.trod_struct Tryz.underlying25 hf
  have c25 : Tryz.prog.cellsOf 25 = 37 := by kernel_rfl
  have c23 : Tryz.prog.cellsOf 23 = 1 := by kernel_rfl
  have c2 : Tryz.prog.cellsOf 2 = 1 := by kernel_rfl
  have c9 : Tryz.prog.cellsOf 9 = 1 := by kernel_rfl
  have c5 : Tryz.prog.cellsOf 5 = 1 := by kernel_rfl
  have c22 : Tryz.prog.cellsOf 22 = 32 := by kernel_rfl
  rw [c25] at hl
  have hxl6 : xs.length = 6 := hxl
  have f0 : DataW.trod enc Tryz.prog W 0 sp hld n 23 (((Value.agg cs).cells.toList.drop 0).take (Tryz.prog.cellsOf 23)) = xs[0]? := hel 0 _ rfl
  have f1 : DataW.trod enc Tryz.prog W 0 sp hld n 2 (((Value.agg cs).cells.toList.drop 1).take (Tryz.prog.cellsOf 2)) = xs[1]? := hel 1 _ rfl
  have f2 : DataW.trod enc Tryz.prog W 0 sp hld n 9 (((Value.agg cs).cells.toList.drop 2).take (Tryz.prog.cellsOf 9)) = xs[2]? := hel 2 _ rfl
  have f3 : DataW.trod enc Tryz.prog W 0 sp hld n 5 (((Value.agg cs).cells.toList.drop 3).take (Tryz.prog.cellsOf 5)) = xs[3]? := hel 3 _ rfl
  have f4 : DataW.trod enc Tryz.prog W 0 sp hld n 9 (((Value.agg cs).cells.toList.drop 4).take (Tryz.prog.cellsOf 9)) = xs[4]? := hel 4 _ rfl
  have f5 : DataW.trod enc Tryz.prog W 0 sp hld n 22 (((Value.agg cs).cells.toList.drop 5).take (Tryz.prog.cellsOf 22)) = xs[5]? := hel 5 _ rfl
  rw [c23] at f0
  rw [c2] at f1
  rw [c9] at f2 f4
  rw [c5] at f3
  rw [c22] at f5
  rw [List.getElem?_eq_getElem (by omega)] at f0 f1 f2 f3 f4 f5
  obtain ⟨s, e0, _, w0⟩ := DataW.trod_int Tryz.underlying23 f0
  obtain ⟨t, e1, _, w1⟩ := DataW.trod_int Tryz.underlying2 f1
  obtain ⟨who, e2, _, w2⟩ := DataW.trod_string Tryz.underlying9 f2
  obtain ⟨z, e3, _, w3⟩ := DataW.trod_int Tryz.underlying5 f3
  obtain ⟨whom, e4, _, w4⟩ := DataW.trod_string Tryz.underlying9 f4
  obtain ⟨ys, m, _, _, hl5, hyl, hel5⟩ := DataW.trod_array Tryz.underlying22 f5
  obtain ⟨l, hl1, hl2⟩ := bytes_of (n := 32) (enc := enc) (W := W) (b := 0) (sp := sp) (hld := hld) (m := m) (hl5.trans c22) (fun i hi => by
    have := hel5 i hi
    rw [c5, Nat.mul_one, List.getElem?_eq_getElem (by omega)] at this
    exact ⟨_, this⟩)
  have hz := wf_int w3
  have hs0 := wf_int w0
  simp only [IntKind.min, IntKind.max, IntKind.signed, IntKind.bits] at hz hs0
  simp at hz hs0
  have hcs : (Value.agg cs).cells.toList = .int .u64 s :: .int .i64 t :: .string who :: .int .u8 z :: .string whom :: (l.map bv ++ []) := by
    generalize (Value.agg cs).cells.toList = L at *
    match L, hl with
    | x0 :: x1 :: x2 :: x3 :: x4 :: R, hl =>
      simp at e0 e1 e2 e3 e4 hl2
      simp at hl
      rw [List.take_of_length_le (by omega)] at hl2
      rw [e0, e1, e2, e3, e4, hl2]; simp
  refine ⟨⟨s.toNat, t, who.data.toList, UInt8.ofNat z.toNat, whom.data.toList, l⟩, ⟨by simp only; omega, ?_, ?_, hl1⟩, fun ρ hI => ?_⟩
  · show who.data.toList.length ≤ _
    rw [Array.length_toList]
    have h : who.data.size ≤ maxLen := w2
    unfold maxLen at h
    omega
  · show whom.data.toList.length ≤ _
    rw [Array.length_toList]
    have h : whom.data.size ≤ maxLen := w4
    unfold maxLen at h
    omega
  · have : cs = (Value.int .u64 s :: .int .i64 t :: .string who :: .int .u8 z :: .string whom :: (l.map bv ++ [])).toArray := by rw [← hcs]; simp [Value.cells]
    rw [this]
    refine .agg _ _ (.one _ _ _ _ (.iv _ _ ?_) rfl (.one _ _ _ _ (.iv _ _ (.int _ _)) rfl (.one _ _ _ _ (.iv _ _ ?_) rfl (.one _ _ _ _ (.iv _ _ ?_) rfl (.one _ _ _ _ (.iv _ _ ?_) rfl (.sbs 32 l [] [] hl1 .nil))))))
    · rw [show s = ((s.toNat : Nat) : Int) by omega]; exact .int _ _
    · have := IDen.str (hI := hI) who.data.toList
      simpa using this
    · have := IDen.byte (hI := hI) (UInt8.ofNat z.toNat)
      rwa [show bv (UInt8.ofNat z.toNat) = .int .u8 z by simp only [bv]; congr 1; simp; omega] at this
    · have := IDen.str (hI := hI) whom.data.toList
      simpa using this
end
end Sg
end YtfkboondffejaaaGreatDoor
end Go.Proofs
set_option maxRecDepth 100000
set_option maxHeartbeats 8000000
set_option linter.unusedVariables false
set_option linter.unusedSimpArgs false
namespace Go.Proofs
namespace YtfkboondffejaaaGreatDoor
namespace Sg
attribute [local irreducible] CallOb
theorem formB_iff {v : Ev} (h : formB v = true) : 0 ≤ v.tick ∧ v.tick ≤ 1099511627776 ∧ v.who.length ≤ 32 ∧ v.whom.length ≤ 32 := by
  simp only [formB, Bool.and_eq_true, decide_eq_true_eq] at h
  omega
theorem textB_len (l : List UInt8) : (textB l).length ≤ 2 * l.length + 2 := by
  have := txt_len l
  simp [textB]; omega
theorem tup_sl_eq {s q o a b : Nat} {r : List SV} (h : a = b) : SV.tup (SV.sl s q o a :: r) = SV.tup (SV.sl s q o b :: r) := by rw [h]
theorem lend_sl {S : SH} {n len : Nat} {l l' : List UInt8} (h : SH.get S n = some (.bytes l')) (e : l' = l) (hl : len = l.length) : Lend S (.sl 1 n 0 len) (.iv (.ib l)) := by
  subst e hl
  have := Lend.sl n 0 l'.length l' h (by omega)
  rwa [show sub l' 0 l'.length = l' by simp [sub]] at this
theorem be8_len (n : Nat) : (be8 n).length = 8 := rfl
section
variable {S : SH} {nx : Nat} {K : SV → SH → Nat → Prop}
theorem f33 (n : Nat) (h : K (.sl 1 nx 0 8) ((nx, .bytes (be8 n)) :: S) (nx + 1)) : CallOb Tryz.prog g0 33 [.iv (.int .u64 (n : Int))] S nx K := by
  refine fresh_ob (R := fun mk o => mk = (fun q => .sl 1 q 0 8) ∧ o = .bytes (be8 n)) (xs := [.iv (.int .u64 (n : Int))]) ?_ (.cons _ _ _ _ (.same _ rfl) .nil) (by rintro mk o ⟨rfl, rfl⟩; exact h)
  refine body_ok ck33 ?_
  conv => whnf
  intro I hI
  iterate 8 (apply hI; (conv => whnf); repeat ((first | (refine And.intro ?_ ?_; · (simp only [minI, maxI]; omega)) | (refine vc_mk ?_ ?_; · first | omega | exact ⟨rfl, rfl⟩ | (simp [sub] <;> omega)) | (refine beq_yes ?_ ?_; · rfl) | (refine beq_no ?_ ?_; · omega)); conv => whnf))
  apply hI
  conv => whnf
  clear hI
  refine ⟨fun q => .sl 1 q 0 8, _, .bytes (be8 n), rfl, Ren.sl, ?_, rfl, rfl, rfl⟩
  simp [SH.get, sub, toByte_shr, be8]
theorem f34 (n : Nat) (hn : n < 9223372036854775808) (h : K (.sl 1 nx 0 8) ((nx, .bytes (be8 (n + 9223372036854775808))) :: S) (nx + 1)) : CallOb Tryz.prog g0 34 [.iv (.int .i64 (n : Int))] S nx K := by
  refine body_ok ck34 ?_
  conv => whnf
  rw [wr64, Nat.mod_eq_of_lt (by omega), show ((n : Int) + 9223372036854775808) = ((n + 9223372036854775808 : Nat) : Int) by omega, wr64, Nat.mod_eq_of_lt (by omega)]
  refine f33 _ ?_
  conv => whnf
  exact h
theorem f35 (l : List UInt8) (hl : l.length ≤ 1000) (h : K (.sl 1 nx 0 (textB l).length) ((nx, .bytes (textB l)) :: S) (nx + 1)) : CallOb Tryz.prog g0 35 [.iv (.str l)] S nx K := by
  refine fresh_ob (R := fun mk o => mk = (fun q => .sl 1 q 0 (textB l).length) ∧ o = .bytes (textB l)) (xs := [.iv (.str l)]) ?_ (.cons _ _ _ _ (.same _ rfl) .nil) (by rintro mk o ⟨rfl, rfl⟩; exact h)
  refine body_ok ck35 ?_
  conv => whnf
  intro I hI
  have key : ∀ m i, i + m = l.length → ∀ c, c = txt (l.take i) → ∀ v S nx, ((v = .iv .nilsl ∧ c = [] ∧ S = [] ∧ nx = 1) ∨ ∃ q T n, v = .sl 1 q 0 n ∧ n = c.length ∧ S = (q, .bytes c) :: T ∧ q < nx) →
      FrI F27 [(x32, .iv (.str l)), (x35, v), (x36, .iv (.int .i64 (i : Int)))] (fun fr => I fr S nx) := by
    intro m
    induction m with
    | zero =>
      intro i hi c hc v S nx hv
      have hcl : c.length ≤ 2000 := by rw [hc]; have := txt_len (l.take i); simp at this; omega
      have e : c ++ sub [0, 1] 0 2 = textB l := by rw [hc, List.take_of_length_le (by omega)]; rfl
      rcases hv with ⟨rfl, rfl, rfl, rfl⟩ | ⟨q, T, n, rfl, rfl, rfl, hq⟩
      all_goals refine FrI.mk fun g => ?_
      all_goals apply hI
      all_goals conv => whnf
      all_goals refine cond_no (by simp; omega) ?_
      all_goals conv => whnf
      all_goals repeat ((first | (refine And.intro ?_ ?_; · (simp only [minI, maxI]; omega)) | (refine vc_mk ?_ ?_; · first | omega | exact ⟨rfl, rfl⟩ | (simp [sub] <;> omega)) | (refine beq_yes ?_ ?_; · rfl) | (refine beq_no ?_ ?_; · omega)); conv => whnf)
      · refine ⟨fun q => .sl 1 q 0 (textB l).length, _, .bytes (textB l), sl_eq ?_, Ren.sl, ?_, rfl, rfl, rfl⟩
        · rw [← e]; rfl
        · rw [← e]; rfl
      · refine ⟨fun q => .sl 1 q 0 (textB l).length, _, .bytes (textB l), sl_eq ?_, Ren.sl, ?_, rfl, rfl, rfl⟩
        · rw [← e]; simp [sub]
        · rw [← e]; exact get_hd
    | succ m ih =>
      intro i hi c hc v S nx hv
      have hcl : c.length ≤ 2000 := by rw [hc]; have := txt_len (l.take i); simp at this; omega
      have hs := txt_step (l := l) (i := i) (by omega)
      rcases hv with ⟨rfl, rfl, rfl, rfl⟩ | ⟨q, T, n, rfl, rfl, rfl, hq⟩
      all_goals refine FrI.mk fun g => ?_
      all_goals apply hI
      all_goals conv => whnf
      all_goals refine cond_yes (by simp; omega) ?_
      all_goals conv => whnf
      all_goals repeat ((first | (refine And.intro ?_ ?_; · (simp only [minI, maxI]; omega)) | (refine vc_mk ?_ ?_; · first | omega | exact ⟨rfl, rfl⟩ | (simp [sub] <;> omega)) | (refine beq_yes ?_ ?_; · rfl) | (refine beq_no ?_ ?_; · omega)); conv => whnf)
      all_goals refine cond_mk (fun h0 => ?_) (fun h0 => ?_)
      all_goals conv => whnf
      all_goals repeat ((first | (refine And.intro ?_ ?_; · (simp only [minI, maxI]; omega)) | (refine vc_mk ?_ ?_; · first | omega | exact ⟨rfl, rfl⟩ | (simp [sub] <;> omega)) | (refine beq_yes ?_ ?_; · rfl) | (refine beq_no ?_ ?_; · omega)); conv => whnf)
      all_goals refine ih (i + 1) (by omega) _ ?_ _ _ _ (.inr ⟨_, _, _, rfl, ?_, rfl, by omega⟩) _ rfl ⟨rfl, rfl, rfl, trivial⟩
      all_goals clear hI ih
      all_goals simp only [decide_eq_true_eq, decide_eq_false_iff_not, Int.toNat_natCast] at h0
      all_goals first | (rw [hs, ← hc, if_pos h0]; simp [sub]; done) | (rw [hs, ← hc, if_neg h0]; simp [sub]; done) | (simp [sub]; done)
  refine key l.length 0 (Nat.zero_add _) [] rfl _ _ _ (.inl ⟨rfl, rfl, rfl, rfl⟩) _ rfl ⟨rfl, rfl, rfl, trivial⟩
theorem f15n (v : Ev) (hv : v.Ok) (hf : formB v = false) (h : K (.tup [.iv .nilsl, .iv (.int .i64 3)]) S nx) : CallOb Tryz.prog g0 15 [v.sv] S nx K := by
  refine flat_ob (R := fun r => r = .tup [.iv .nilsl, .iv (.int .i64 3)]) (xs := [v.sv]) ?_ (.cons _ _ _ _ (.same _ rfl) .nil) (by rintro r rfl; exact ⟨rfl, h⟩)
  refine body_ok ck15 ?_
  conv => whnf
  refine f14 v hv ?_
  rw [hf]
  conv => whnf
theorem f15 (v : Ev) (hv : v.Ok) (hf : formB v = true) (h : K (.tup [.sl 1 nx 0 (encB v).length, .iv (.int .i64 0)]) ((nx, .bytes (encB v)) :: S) (nx + 1)) : CallOb Tryz.prog g0 15 [v.sv] S nx K := by
  refine fresh_ob (R := fun mk o => mk = (fun q => .tup [.sl 1 q 0 (encB v).length, .iv (.int .i64 0)]) ∧ o = .bytes (encB v)) (xs := [v.sv]) ?_ (.cons _ _ _ _ (.same _ rfl) .nil) (by rintro mk o ⟨rfl, rfl⟩; exact h)
  refine body_ok ck15 ?_
  conv => whnf
  refine f14 v hv ?_
  rw [hf]
  conv => whnf
  obtain ⟨hf1, hf2, hf3, hf4⟩ := formB_iff hf
  obtain ⟨seq, tick, who, verb, whom, link⟩ := v
  simp only at hf1 hf2 hf3 hf4
  obtain ⟨tick, rfl⟩ : ∃ t : Nat, tick = (t : Int) := ⟨tick.toNat, by omega⟩
  have t1 := textB_len who
  have t2 := textB_len whom
  refine f27 _ ?_
  conv => whnf
  repeat ((first | (refine And.intro ?_ ?_; · (simp only [minI, maxI]; omega)) | (refine vc_mk ?_ ?_; · first | omega | exact ⟨rfl, rfl⟩ | (simp [sub, be8_len] <;> omega)) | (refine beq_yes ?_ ?_; · rfl) | (refine beq_no ?_ ?_; · omega)); conv => whnf)
  refine f28 _ (by omega) ?_
  conv => whnf
  repeat ((first | (refine And.intro ?_ ?_; · (simp only [minI, maxI]; omega)) | (refine vc_mk ?_ ?_; · first | omega | exact ⟨rfl, rfl⟩ | (simp [sub, be8_len] <;> omega)) | (refine beq_yes ?_ ?_; · rfl) | (refine beq_no ?_ ?_; · omega)); conv => whnf)
  refine f29 who (by omega) ?_
  conv => whnf
  repeat ((first | (refine And.intro ?_ ?_; · (simp only [minI, maxI]; omega)) | (refine vc_mk ?_ ?_; · first | omega | exact ⟨rfl, rfl⟩ | (simp [sub, be8_len] <;> omega)) | (refine beq_yes ?_ ?_; · rfl) | (refine beq_no ?_ ?_; · omega)); conv => whnf)
  refine f29 whom (by omega) ?_
  conv => whnf
  repeat ((first | (refine And.intro ?_ ?_; · (simp only [minI, maxI]; omega)) | (refine vc_mk ?_ ?_; · first | omega | exact ⟨rfl, rfl⟩ | (simp [sub, be8_len] <;> omega)) | (refine beq_yes ?_ ?_; · rfl) | (refine beq_no ?_ ?_; · omega)); conv => whnf)
  refine ⟨fun q => .tup [.sl 1 q 0 (encB ⟨seq, (tick : Int), who, verb, whom, link⟩).length, .iv (.int .i64 0)], _, .bytes (encB ⟨seq, (tick : Int), who, verb, whom, link⟩), tup_sl_eq ?_, Ren.tup1 Ren.sl rfl, get_hd.trans ?_, rfl, rfl, rfl⟩
  · simp [encB, sub, be8_len]; try omega
  · simp [encB, sub, be8]
theorem f17 (v : Ev) (hv : v.Ok) (hf : formB v = true) (h : K (.sl 1 nx 0 (encB v).length) ((nx, .bytes (encB v)) :: S) (nx + 1)) : CallOb Tryz.prog g0 17 [v.sv] S nx K := by
  refine fresh_ob (R := fun mk o => mk = (fun q => .sl 1 q 0 (encB v).length) ∧ o = .bytes (encB v)) (xs := [v.sv]) ?_ (.cons _ _ _ _ (.same _ rfl) .nil) (by rintro mk o ⟨rfl, rfl⟩; exact h)
  obtain ⟨hf1, hf2, hf3, hf4⟩ := formB_iff hf
  obtain ⟨seq, tick, who, verb, whom, link⟩ := v
  simp only at hf1 hf2 hf3 hf4
  obtain ⟨tick, rfl⟩ : ∃ t : Nat, tick = (t : Int) := ⟨tick.toNat, by omega⟩
  have t1 := textB_len who
  have t2 := textB_len whom
  refine body_ok ck17 ?_
  conv => whnf
  refine f33 _ ?_
  conv => whnf
  repeat ((first | (refine And.intro ?_ ?_; · (simp only [minI, maxI]; omega)) | (refine vc_mk ?_ ?_; · first | omega | exact ⟨rfl, rfl⟩ | (simp [sub, be8_len] <;> omega)) | (refine beq_yes ?_ ?_; · rfl) | (refine beq_no ?_ ?_; · omega)); conv => whnf)
  refine f34 _ (by omega) ?_
  conv => whnf
  repeat ((first | (refine And.intro ?_ ?_; · (simp only [minI, maxI]; omega)) | (refine vc_mk ?_ ?_; · first | omega | exact ⟨rfl, rfl⟩ | (simp [sub, be8_len] <;> omega)) | (refine beq_yes ?_ ?_; · rfl) | (refine beq_no ?_ ?_; · omega)); conv => whnf)
  refine f35 who (by omega) ?_
  conv => whnf
  repeat ((first | (refine And.intro ?_ ?_; · (simp only [minI, maxI]; omega)) | (refine vc_mk ?_ ?_; · first | omega | exact ⟨rfl, rfl⟩ | (simp [sub, be8_len] <;> omega)) | (refine beq_yes ?_ ?_; · rfl) | (refine beq_no ?_ ?_; · omega)); conv => whnf)
  refine f35 whom (by omega) ?_
  conv => whnf
  repeat ((first | (refine And.intro ?_ ?_; · (simp only [minI, maxI]; omega)) | (refine vc_mk ?_ ?_; · first | omega | exact ⟨rfl, rfl⟩ | (simp [sub, be8_len] <;> omega)) | (refine beq_yes ?_ ?_; · rfl) | (refine beq_no ?_ ?_; · omega)); conv => whnf)
  refine ⟨fun q => .sl 1 q 0 (encB ⟨seq, (tick : Int), who, verb, whom, link⟩).length, _, .bytes (encB ⟨seq, (tick : Int), who, verb, whom, link⟩), sl_eq ?_, Ren.sl, get_hd.trans ?_, rfl, rfl, rfl⟩
  · simp [encB, sub, be8_len]; try omega
  · simp [encB, sub, be8]
theorem encB_len {v : Ev} (hf : formB v = true) : 0 < (encB v).length ∧ (encB v).length ≤ 200 := by
  obtain ⟨hf1, hf2, hf3, hf4⟩ := formB_iff hf
  have t1 := textB_len v.who
  have t2 := textB_len v.whom
  simp [encB, be8_len]; omega
def linkB (b : List UInt8) (v : Ev) : List UInt8 := sha partsW firstV (b ++ encB v)
theorem f8n (b : List UInt8) (v : Ev) (hv : v.Ok) (hf : formB v = false) (h : K (.tup [.agg [.iv (.sbs 32 (List.replicate 32 0))], .iv (.int .i64 3)]) S nx) : CallOb Tryz.prog g0 8 [.agg [.iv (.sbs 32 b)], v.sv] S nx K := by
  refine flat_ob (R := fun r => r = .tup [.agg [.iv (.sbs 32 (List.replicate 32 0))], .iv (.int .i64 3)]) (xs := [.agg [.iv (.sbs 32 b)], v.sv]) ?_ (.cons _ _ _ _ (.same _ rfl) (.cons _ _ _ _ (.same _ rfl) .nil)) (by rintro r rfl; exact ⟨rfl, h⟩)
  refine body_ok ck8 ?_
  conv => whnf
  refine f15n v hv hf ?_
  conv => whnf
  rfl
theorem f8 (b : List UInt8) (hb : b.length = 32) (v : Ev) (hv : v.Ok) (hf : formB v = true) (h : K (.tup [.agg [.iv (.sbs 32 (linkB b v))], .iv (.int .i64 0)]) S nx) : CallOb Tryz.prog g0 8 [.agg [.iv (.sbs 32 b)], v.sv] S nx K := by
  refine flat_ob (R := fun r => r = .tup [.agg [.iv (.sbs 32 (linkB b v))], .iv (.int .i64 0)]) (xs := [.agg [.iv (.sbs 32 b)], v.sv]) ?_ (.cons _ _ _ _ (.same _ rfl) (.cons _ _ _ _ (.same _ rfl) .nil)) (by rintro r rfl; exact ⟨rfl, h⟩)
  obtain ⟨e1, e2⟩ := encB_len hf
  refine body_ok ck8 ?_
  conv => whnf
  refine f15 v hv hf ?_
  conv => whnf
  repeat ((first | (refine And.intro ?_ ?_; · (simp only [minI, maxI]; omega)) | (refine vc_mk ?_ ?_; · first | omega | exact ⟨rfl, rfl⟩ | (simp [sub, be8_len] <;> omega)) | (refine beq_yes ?_ ?_; · rfl) | (refine beq_no ?_ ?_; · omega)); conv => whnf)
  refine f22 (b ++ encB v) (by simp; omega) ?_ ?_
  · refine .cons _ _ _ _ (lend_sl get_hd ?_ ?_) .nil
    · simp [sub, ← hb]
    · simp [sub, hb]
  · conv => whnf
    rfl
end
end Sg
end YtfkboondffejaaaGreatDoor
end Go.Proofs
