/- Part 8 of the proof: printed by program. -/
import Derived.Test.YtfkboondffejaaaGreatDoorE07
import Derived.Test.YtfkboondffejaaaGreatDoorProg
set_option linter.all false
set_option linter.unusedVariables false
set_option linter.unusedSimpArgs false
set_option linter.deprecated false
set_option maxRecDepth 1000000
namespace Go.Proofs
namespace YtfkboondffejaaaGreatDoor
namespace Sg
theorem ck7 : chkFunc Tryz.prog (chkD Tryz.prog) 7 c7 = true := by kernel_rfl
theorem ck8 : chkFunc Tryz.prog (chkD Tryz.prog) 8 c8 = true := by kernel_rfl
theorem ck12 : chkFunc Tryz.prog (chkD Tryz.prog) 12 c12 = true := by kernel_rfl
theorem ck14 : chkFunc Tryz.prog (chkD Tryz.prog) 14 c14 = true := by kernel_rfl
theorem ck15 : chkFunc Tryz.prog (chkD Tryz.prog) 15 c15 = true := by kernel_rfl
theorem ck19 : chkFunc Tryz.prog (chkD Tryz.prog) 19 c19 = true := by kernel_rfl
theorem ck20 : chkFunc Tryz.prog (chkD Tryz.prog) 20 c20 = true := by kernel_rfl
theorem ck21 : chkFunc Tryz.prog (chkD Tryz.prog) 21 c21 = true := by kernel_rfl
theorem ck22 : chkFunc Tryz.prog (chkD Tryz.prog) 22 c22 = true := by kernel_rfl
theorem ck23 : chkFunc Tryz.prog (chkD Tryz.prog) 23 c23 = true := by kernel_rfl
theorem ck27 : chkFunc Tryz.prog (chkD Tryz.prog) 27 c27 = true := by kernel_rfl
theorem ck28 : chkFunc Tryz.prog (chkD Tryz.prog) 28 c28 = true := by kernel_rfl
theorem ck29 : chkFunc Tryz.prog (chkD Tryz.prog) 29 c29 = true := by kernel_rfl
theorem ck30 : chkFunc Tryz.prog (chkD Tryz.prog) 30 c30 = true := by kernel_rfl
theorem ck39 : chkFunc Tryz.prog (chkD Tryz.prog) 39 c39 = true := by kernel_rfl
theorem ck40 : chkFunc Tryz.prog (chkD Tryz.prog) 40 c40 = true := by kernel_rfl
theorem ck41 : chkFunc Tryz.prog (chkD Tryz.prog) 41 c41 = true := by kernel_rfl
theorem ck42 : chkFunc Tryz.prog (chkD Tryz.prog) 42 c42 = true := by kernel_rfl
theorem ck43 : chkFunc Tryz.prog (chkD Tryz.prog) 43 c43 = true := by kernel_rfl
theorem ck44 : chkFunc Tryz.prog (chkD Tryz.prog) 44 c44 = true := by kernel_rfl
theorem ck45 : chkFunc Tryz.prog (chkD Tryz.prog) 45 c45 = true := by kernel_rfl
theorem ck46 : chkFunc Tryz.prog (chkD Tryz.prog) 46 c46 = true := by kernel_rfl
theorem ck47 : chkFunc Tryz.prog (chkD Tryz.prog) 47 c47 = true := by kernel_rfl
theorem ck48 : chkFunc Tryz.prog (chkD Tryz.prog) 48 c48 = true := by kernel_rfl
theorem ck52 : chkFunc Tryz.prog (chkD Tryz.prog) 52 c52 = true := by kernel_rfl
theorem ck53 : chkFunc Tryz.prog (chkD Tryz.prog) 53 c53 = true := by kernel_rfl
theorem ck54 : chkFunc Tryz.prog (chkD Tryz.prog) 54 c54 = true := by kernel_rfl
theorem ck55 : chkFunc Tryz.prog (chkD Tryz.prog) 55 c55 = true := by kernel_rfl
theorem ck56 : chkFunc Tryz.prog (chkD Tryz.prog) 56 c56 = true := by kernel_rfl
theorem ck57 : chkFunc Tryz.prog (chkD Tryz.prog) 57 c57 = true := by kernel_rfl
theorem ck58 : chkFunc Tryz.prog (chkD Tryz.prog) 58 c58 = true := by kernel_rfl
theorem ck59 : chkFunc Tryz.prog (chkD Tryz.prog) 59 c59 = true := by kernel_rfl
theorem ck60 : chkFunc Tryz.prog (chkD Tryz.prog) 60 c60 = true := by kernel_rfl
theorem ck61 : chkFunc Tryz.prog (chkD Tryz.prog) 61 c61 = true := by kernel_rfl
theorem ck62 : chkFunc Tryz.prog (chkD Tryz.prog) 62 c62 = true := by kernel_rfl
theorem ck63 : chkFunc Tryz.prog (chkD Tryz.prog) 63 c63 = true := by kernel_rfl
theorem ck64 : chkFunc Tryz.prog (chkD Tryz.prog) 64 c64 = true := by kernel_rfl
theorem ck65 : chkFunc Tryz.prog (chkD Tryz.prog) 65 c65 = true := by kernel_rfl
theorem ck66 : chkFunc Tryz.prog (chkD Tryz.prog) 66 c66 = true := by kernel_rfl
theorem ck67 : chkFunc Tryz.prog (chkD Tryz.prog) 67 c67 = true := by kernel_rfl
theorem ck68 : chkFunc Tryz.prog (chkD Tryz.prog) 68 c68 = true := by kernel_rfl
theorem ck69 : chkFunc Tryz.prog (chkD Tryz.prog) 69 c69 = true := by kernel_rfl
theorem ck70 : chkFunc Tryz.prog (chkD Tryz.prog) 70 c70 = true := by kernel_rfl
theorem ck71 : chkFunc Tryz.prog (chkD Tryz.prog) 71 c71 = true := by kernel_rfl
theorem ck72 : chkFunc Tryz.prog (chkD Tryz.prog) 72 c72 = true := by kernel_rfl
theorem ck73 : chkFunc Tryz.prog (chkD Tryz.prog) 73 c73 = true := by kernel_rfl
theorem ck74 : chkFunc Tryz.prog (chkD Tryz.prog) 74 c74 = true := by kernel_rfl
theorem ck75 : chkFunc Tryz.prog (chkD Tryz.prog) 75 c75 = true := by kernel_rfl
theorem ck76 : chkFunc Tryz.prog (chkD Tryz.prog) 76 c76 = true := by kernel_rfl
theorem ck77 : chkFunc Tryz.prog (chkD Tryz.prog) 77 c77 = true := by kernel_rfl
theorem ck78 : chkFunc Tryz.prog (chkD Tryz.prog) 78 c78 = true := by kernel_rfl
theorem ck79 : chkFunc Tryz.prog (chkD Tryz.prog) 79 c79 = true := by kernel_rfl
theorem ck84 : chkFunc Tryz.prog (chkD Tryz.prog) 84 c84 = true := by kernel_rfl
theorem ck85 : chkFunc Tryz.prog (chkD Tryz.prog) 85 c85 = true := by kernel_rfl
theorem ck86 : chkFunc Tryz.prog (chkD Tryz.prog) 86 c86 = true := by kernel_rfl
theorem ck87 : chkFunc Tryz.prog (chkD Tryz.prog) 87 c87 = true := by kernel_rfl
theorem ck89 : chkFunc Tryz.prog (chkD Tryz.prog) 89 c89 = true := by kernel_rfl
theorem ck91 : chkFunc Tryz.prog (chkD Tryz.prog) 91 c91 = true := by kernel_rfl
theorem ck92 : chkFunc Tryz.prog (chkD Tryz.prog) 92 c92 = true := by kernel_rfl
theorem ck93 : chkFunc Tryz.prog (chkD Tryz.prog) 93 c93 = true := by kernel_rfl
theorem ck94 : chkFunc Tryz.prog (chkD Tryz.prog) 94 c94 = true := by kernel_rfl
theorem ck95 : chkFunc Tryz.prog (chkD Tryz.prog) 95 c95 = true := by kernel_rfl
theorem ck96 : chkFunc Tryz.prog (chkD Tryz.prog) 96 c96 = true := by kernel_rfl
theorem ck97 : chkFunc Tryz.prog (chkD Tryz.prog) 97 c97 = true := by kernel_rfl
theorem ck98 : chkFunc Tryz.prog (chkD Tryz.prog) 98 c98 = true := by kernel_rfl
theorem ck99 : chkFunc Tryz.prog (chkD Tryz.prog) 99 c99 = true := by kernel_rfl
theorem ck102 : chkFunc Tryz.prog (chkD Tryz.prog) 102 c102 = true := by kernel_rfl
theorem ck103 : chkFunc Tryz.prog (chkD Tryz.prog) 103 c103 = true := by kernel_rfl
theorem ck104 : chkFunc Tryz.prog (chkD Tryz.prog) 104 c104 = true := by kernel_rfl
theorem ck105 : chkFunc Tryz.prog (chkD Tryz.prog) 105 c105 = true := by kernel_rfl
theorem ck106 : chkFunc Tryz.prog (chkD Tryz.prog) 106 c106 = true := by kernel_rfl
theorem ck107 : chkFunc Tryz.prog (chkD Tryz.prog) 107 c107 = true := by kernel_rfl
theorem ck108 : chkFunc Tryz.prog (chkD Tryz.prog) 108 c108 = true := by kernel_rfl
theorem ck109 : chkFunc Tryz.prog (chkD Tryz.prog) 109 c109 = true := by kernel_rfl
theorem ck110 : chkFunc Tryz.prog (chkD Tryz.prog) 110 c110 = true := by kernel_rfl
theorem ck111 : chkFunc Tryz.prog (chkD Tryz.prog) 111 c111 = true := by kernel_rfl
theorem ck112 : chkFunc Tryz.prog (chkD Tryz.prog) 112 c112 = true := by kernel_rfl
theorem ck113 : chkFunc Tryz.prog (chkD Tryz.prog) 113 c113 = true := by kernel_rfl
theorem ck114 : chkFunc Tryz.prog (chkD Tryz.prog) 114 c114 = true := by kernel_rfl
theorem ck116 : chkFunc Tryz.prog (chkD Tryz.prog) 116 c116 = true := by kernel_rfl
theorem ck117 : chkFunc Tryz.prog (chkD Tryz.prog) 117 c117 = true := by kernel_rfl
theorem ck118 : chkFunc Tryz.prog (chkD Tryz.prog) 118 c118 = true := by kernel_rfl
theorem ck119 : chkFunc Tryz.prog (chkD Tryz.prog) 119 c119 = true := by kernel_rfl
theorem ck121 : chkFunc Tryz.prog (chkD Tryz.prog) 121 c121 = true := by kernel_rfl
theorem ck123 : chkFunc Tryz.prog (chkD Tryz.prog) 123 c123 = true := by kernel_rfl
theorem ck124 : chkFunc Tryz.prog (chkD Tryz.prog) 124 c124 = true := by kernel_rfl
theorem ck129 : chkFunc Tryz.prog (chkD Tryz.prog) 129 c129 = true := by kernel_rfl
theorem ck130 : chkFunc Tryz.prog (chkD Tryz.prog) 130 c130 = true := by kernel_rfl
theorem ck131 : chkFunc Tryz.prog (chkD Tryz.prog) 131 c131 = true := by kernel_rfl
theorem ck132 : chkFunc Tryz.prog (chkD Tryz.prog) 132 c132 = true := by kernel_rfl
theorem ck133 : chkFunc Tryz.prog (chkD Tryz.prog) 133 c133 = true := by kernel_rfl
theorem ck134 : chkFunc Tryz.prog (chkD Tryz.prog) 134 c134 = true := by kernel_rfl
theorem ck136 : chkFunc Tryz.prog (chkD Tryz.prog) 136 c136 = true := by kernel_rfl
theorem ck137 : chkFunc Tryz.prog (chkD Tryz.prog) 137 c137 = true := by kernel_rfl
theorem ck138 : chkFunc Tryz.prog (chkD Tryz.prog) 138 c138 = true := by kernel_rfl
theorem ck140 : chkFunc Tryz.prog (chkD Tryz.prog) 140 c140 = true := by kernel_rfl
theorem ck141 : chkFunc Tryz.prog (chkD Tryz.prog) 141 c141 = true := by kernel_rfl
theorem ck142 : chkFunc Tryz.prog (chkD Tryz.prog) 142 c142 = true := by kernel_rfl
theorem ck143 : chkFunc Tryz.prog (chkD Tryz.prog) 143 c143 = true := by kernel_rfl
theorem ck145 : chkFunc Tryz.prog (chkD Tryz.prog) 145 c145 = true := by kernel_rfl
theorem ck146 : chkFunc Tryz.prog (chkD Tryz.prog) 146 c146 = true := by kernel_rfl
theorem ck147 : chkFunc Tryz.prog (chkD Tryz.prog) 147 c147 = true := by kernel_rfl
theorem ck149 : chkFunc Tryz.prog (chkD Tryz.prog) 149 c149 = true := by kernel_rfl
theorem ck154 : chkFunc Tryz.prog (chkD Tryz.prog) 154 c154 = true := by kernel_rfl
theorem ck155 : chkFunc Tryz.prog (chkD Tryz.prog) 155 c155 = true := by kernel_rfl
theorem tabOk : TOk Tryz.prog tab := TT.ok (t := tbl) ⟨⟨⟨⟨⟨⟨ck7, ⟨ck8, ck12⟩⟩, ⟨ck14, ⟨ck15, ck19⟩⟩⟩, ⟨⟨ck20, ⟨ck21, ck22⟩⟩, ⟨⟨ck23, ck27⟩, ⟨ck28, ck29⟩⟩⟩⟩, ⟨⟨⟨ck30, ⟨ck39, ck40⟩⟩, ⟨ck41, ⟨ck42, ck43⟩⟩⟩, ⟨⟨ck44, ⟨ck45, ck46⟩⟩, ⟨⟨ck47, ck48⟩, ⟨ck52, ck53⟩⟩⟩⟩⟩, ⟨⟨⟨⟨ck54, ⟨ck55, ck56⟩⟩, ⟨ck57, ⟨ck58, ck59⟩⟩⟩, ⟨⟨ck60, ⟨ck61, ck62⟩⟩, ⟨⟨ck63, ck64⟩, ⟨ck65, ck66⟩⟩⟩⟩, ⟨⟨⟨ck67, ⟨ck68, ck69⟩⟩, ⟨ck70, ⟨ck71, ck72⟩⟩⟩, ⟨⟨ck73, ⟨ck74, ck75⟩⟩, ⟨⟨ck76, ck77⟩, ⟨ck78, ck79⟩⟩⟩⟩⟩⟩, ⟨⟨⟨⟨⟨ck84, ⟨ck85, ck86⟩⟩, ⟨ck87, ⟨ck89, ck91⟩⟩⟩, ⟨⟨ck92, ⟨ck93, ck94⟩⟩, ⟨⟨ck95, ck96⟩, ⟨ck97, ck98⟩⟩⟩⟩, ⟨⟨⟨ck99, ⟨ck102, ck103⟩⟩, ⟨ck104, ⟨ck105, ck106⟩⟩⟩, ⟨⟨ck107, ⟨ck108, ck109⟩⟩, ⟨⟨ck110, ck111⟩, ⟨ck112, ck113⟩⟩⟩⟩⟩, ⟨⟨⟨⟨ck114, ⟨ck116, ck117⟩⟩, ⟨ck118, ⟨ck119, ck121⟩⟩⟩, ⟨⟨ck123, ⟨ck124, ck129⟩⟩, ⟨⟨ck130, ck131⟩, ⟨ck132, ck133⟩⟩⟩⟩, ⟨⟨⟨ck134, ⟨ck136, ck137⟩⟩, ⟨⟨ck138, ck140⟩, ⟨ck141, ck142⟩⟩⟩, ⟨⟨ck143, ⟨ck145, ck146⟩⟩, ⟨⟨ck147, ck149⟩, ⟨ck154, ck155⟩⟩⟩⟩⟩⟩⟩
end Sg
end YtfkboondffejaaaGreatDoor
end Go.Proofs
