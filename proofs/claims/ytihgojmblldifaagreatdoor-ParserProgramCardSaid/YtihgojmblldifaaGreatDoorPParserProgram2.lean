/- The statement ParserProgram holds: texts that its proof needs. No condition beyond the row's own. (Part 2 of 7.) -/
import Derived.Test.YtihgojmblldifaaGreatDoorPParserProgram1
set_option linter.unusedSimpArgs false
set_option linter.unusedVariables false
namespace Go.Proofs
open Go.Shelf
def Tryz.lays169_ren : Go.Shelf.Ren := ⟨fun | 169 => 56 | n => n, fun | 70 => 79 | 9 => 9 | 0 => 0 | 72 => 82 | 37 => 80 | 127 => 119 | 3 => 3 | 5 => 5 | n => n, fun | n => n⟩
theorem Tryz.lays169 : Go.Proofs.Lays.n169 Tryz.prog Tryz.lays169_ren := {
 mixed := by kernel_rfl
 f169 := Tryz.func56.trans (congrArg some (by kernel_rfl))
 t0 := Tryz.underlying0
 a0 := Tryz.isAgg0
 z0 := Tryz.sizeOf0
 v0 := Tryz.zeroValue0
 t3 := Tryz.underlying3
 a3 := Tryz.isAgg3
 z3 := Tryz.sizeOf3
 v3 := Tryz.zeroValue3
 t9 := Tryz.underlying9
 a9 := Tryz.isAgg9
 z9 := Tryz.sizeOf9
 v9 := Tryz.zeroValue9
 t37 := Tryz.underlying80
 a37 := Tryz.isAgg80
 z37 := Tryz.sizeOf80
 v37 := Tryz.zeroValue80
 t70 := Tryz.underlying79
 a70 := Tryz.isAgg79
 z70 := Tryz.sizeOf79
 v70 := Tryz.zeroValue79
 t72 := Tryz.underlying82
 a72 := Tryz.isAgg82
 z72 := Tryz.sizeOf82
 v72 := Tryz.zeroValue82
 t127 := Tryz.underlying119
 a127 := Tryz.isAgg119
 z127 := Tryz.sizeOf119
 v127 := Tryz.zeroValue119 }
theorem Tryz.Builder_Extra_169 : Builder.Extra Tryz.prog Tryz.lays169_ren := {
 sizeBuilder := by kernel_rfl
 liesBuilder := by kernel_rfl
 t5 := Tryz.underlying5
 a5 := Tryz.isAgg5
 z5 := Tryz.sizeOf5
 v5 := Tryz.zeroValue5
 infoByte := by kernel_rfl
 cellsByte := by kernel_rfl
 sizeByte := by kernel_rfl
 neB5 := by decide }
open Go.RowKit in
theorem Tryz.Builder_String (B b : Nat) (l : List UInt8) (w : World) (h : Lib.IsBuilder 82 5 B b (Lib.byteCells l) w) (h0 : l ≠ []) :
 Calls Tryz.prog 56 #[.pointer (some ⟨b, 0, none⟩)] w fun e w' => e = .returned (.string ⟨l.toArray⟩) ∧ Below B w w' := Any.Builder_String Tryz.lays169 Tryz.Builder_Extra_169 B b l w h h0
open Go.RowKit in
theorem Tryz.Builder_String_empty (B b : Nat) (w : World) (h : Lib.IsBuilder 82 5 B b [] w) (hBw : B ≤ w.heap.size) :
 Calls Tryz.prog 56 #[.pointer (some ⟨b, 0, none⟩)] w fun e w' => e = .returned (.string ⟨#[]⟩) ∧ Below B w w' := Any.Builder_String_empty Tryz.lays169 Tryz.Builder_Extra_169 B b w h hBw
open Go.RowKit in
theorem Tryz.Builder_String_any (B b : Nat) (l : List UInt8) (w : World) (h : Lib.IsBuilder 82 5 B b (Lib.byteCells l) w) (hBw : B ≤ w.heap.size) :
 Calls Tryz.prog 56 #[.pointer (some ⟨b, 0, none⟩)] w fun e w' => e = .returned (.string ⟨l.toArray⟩) ∧ Below B w w' := Any.Builder_String_any Tryz.lays169 Tryz.Builder_Extra_169 B b l w h hBw
def Tryz.lays137_ren : Go.Shelf.Ren := ⟨fun | 137 => 141 | 217 => 150 | 266 => 161 | n => n, fun | 9 => 9 | 5 => 5 | 3 => 3 | n => n, fun | n => n⟩
theorem Tryz.lays137 : Go.Proofs.Lays.n137 Tryz.prog Tryz.lays137_ren := {
 mixed := by kernel_rfl
 f137 := Tryz.func141.trans (congrArg some (by kernel_rfl))
 f217 := Tryz.func150.trans (congrArg some (by kernel_rfl))
 f266 := Tryz.func161.trans (congrArg some (by kernel_rfl))
 t3 := Tryz.underlying3
 a3 := Tryz.isAgg3
 z3 := Tryz.sizeOf3
 v3 := Tryz.zeroValue3
 t5 := Tryz.underlying5
 a5 := Tryz.isAgg5
 z5 := Tryz.sizeOf5
 v5 := Tryz.zeroValue5
 t9 := Tryz.underlying9
 a9 := Tryz.isAgg9
 z9 := Tryz.sizeOf9
 v9 := Tryz.zeroValue9 }
open Go.RowKit in
theorem Tryz.strings_IndexByte (s : ByteArray) (c : Int) (w : World) :
 Calls Tryz.prog 141 #[.string s, .int .u8 c] w fun e w' => e = .returned (.int .i64 (Lib.indexByte s.data.toList c.toNat.toUInt8)) ∧ w' = w := Any.strings_IndexByte Tryz.lays137 s c w
open Go.RowKit in
theorem Tryz.Builder_String_f (B b : Nat) (l : List UInt8) (w : World) (h : Lib.IsBuilderF 82 5 B b (Lib.byteCells l) w) (h0 : l ≠ []) :
 Calls Tryz.prog 56 #[.pointer (some ⟨b, 0, none⟩)] w fun e w' => e = .returned (.string ⟨l.toArray⟩) ∧ (Lib.IsBuilderF 82 5 B b (Lib.byteCells l) w' ∧ Below B w w') := Any.Builder_String_f Tryz.lays169 Tryz.Builder_Extra_169 B b l w h h0
open Go.RowKit in
theorem Tryz.Builder_String_empty_f (B b : Nat) (w : World) (h : Lib.IsBuilderF 82 5 B b [] w) (hBw : B ≤ w.heap.size) :
 Calls Tryz.prog 56 #[.pointer (some ⟨b, 0, none⟩)] w fun e w' => e = .returned (.string ⟨#[]⟩) ∧ (Lib.IsBuilderF 82 5 B b [] w' ∧ Below B w w') := Any.Builder_String_empty_f Tryz.lays169 Tryz.Builder_Extra_169 B b w h hBw
open Go.RowKit in
theorem Tryz.Builder_String_any_f (B b : Nat) (l : List UInt8) (w : World) (h : Lib.IsBuilderF 82 5 B b (Lib.byteCells l) w) (hBw : B ≤ w.heap.size) :
 Calls Tryz.prog 56 #[.pointer (some ⟨b, 0, none⟩)] w fun e w' => e = .returned (.string ⟨l.toArray⟩) ∧ (Lib.IsBuilderF 82 5 B b (Lib.byteCells l) w' ∧ Below B w w') := Any.Builder_String_any_f Tryz.lays169 Tryz.Builder_Extra_169 B b l w h hBw
open Go.RowKit in
theorem Tryz.Builder_String_k (B b : Nat) (l : List UInt8) (w : World) (h : Lib.IsBuilderF 82 5 B b (Lib.byteCells l) w) (h0 : l ≠ []) :
 Calls Tryz.prog 56 #[.pointer (some ⟨b, 0, none⟩)] w fun e w' => e = .returned (.string ⟨l.toArray⟩) ∧ (Lib.IsBuilderF 82 5 B b (Lib.byteCells l) w' ∧ Below B w w' ∧ Lib.OthersKept 5 (some b) w w') := Any.Builder_String_k Tryz.lays169 Tryz.Builder_Extra_169 B b l w h h0
open Go.RowKit in
theorem Tryz.Builder_String_empty_k (B b : Nat) (w : World) (h : Lib.IsBuilderF 82 5 B b [] w) (hBw : B ≤ w.heap.size) :
 Calls Tryz.prog 56 #[.pointer (some ⟨b, 0, none⟩)] w fun e w' => e = .returned (.string ⟨#[]⟩) ∧ (Lib.IsBuilderF 82 5 B b [] w' ∧ Below B w w' ∧ Lib.OthersKept 5 (some b) w w') := Any.Builder_String_empty_k Tryz.lays169 Tryz.Builder_Extra_169 B b w h hBw
open Go.RowKit in
theorem Tryz.Builder_String_any_k (B b : Nat) (l : List UInt8) (w : World) (h : Lib.IsBuilderF 82 5 B b (Lib.byteCells l) w) (hBw : B ≤ w.heap.size) :
 Calls Tryz.prog 56 #[.pointer (some ⟨b, 0, none⟩)] w fun e w' => e = .returned (.string ⟨l.toArray⟩) ∧ (Lib.IsBuilderF 82 5 B b (Lib.byteCells l) w' ∧ Below B w w' ∧ Lib.OthersKept 5 (some b) w w') := Any.Builder_String_any_k Tryz.lays169 Tryz.Builder_Extra_169 B b l w h hBw
def Tryz.lays244_ren : Go.Shelf.Ren := ⟨fun | 244 => 142 | 247 => 151 | 287 => 162 | 321 => 167 | 322 => 168 | n => n, fun | 9 => 9 | 3 => 3 | 75 => 129 | 4 => 4 | 5 => 5 | 167 => 148 | 37 => 80 | 0 => 0 | 85 => 149 | 2 => 2 | 53 => 125 | 175 => 162 | 46 => 160 | 21 => 21 | 80 => 61 | n => n, fun | n => n⟩
theorem Tryz.lays244 : Go.Proofs.Lays.n244 Tryz.prog Tryz.lays244_ren := {
 mixed := by kernel_rfl
 f244 := Tryz.func142.trans (congrArg some (by kernel_rfl))
 f247 := Tryz.func151.trans (congrArg some (by kernel_rfl))
 f287 := Tryz.func162.trans (congrArg some (by kernel_rfl))
 f321 := Tryz.func167.trans (congrArg some (by kernel_rfl))
 f322 := Tryz.func168.trans (congrArg some (by kernel_rfl))
 t0 := Tryz.underlying0
 a0 := Tryz.isAgg0
 z0 := Tryz.sizeOf0
 v0 := Tryz.zeroValue0
 t2 := Tryz.underlying2
 a2 := Tryz.isAgg2
 z2 := Tryz.sizeOf2
 v2 := Tryz.zeroValue2
 t3 := Tryz.underlying3
 a3 := Tryz.isAgg3
 z3 := Tryz.sizeOf3
 v3 := Tryz.zeroValue3
 t4 := Tryz.underlying4
 a4 := Tryz.isAgg4
 z4 := Tryz.sizeOf4
 v4 := Tryz.zeroValue4
 t5 := Tryz.underlying5
 a5 := Tryz.isAgg5
 z5 := Tryz.sizeOf5
 v5 := Tryz.zeroValue5
 t9 := Tryz.underlying9
 a9 := Tryz.isAgg9
 z9 := Tryz.sizeOf9
 v9 := Tryz.zeroValue9
 t21 := Tryz.underlying21
 a21 := Tryz.isAgg21
 z21 := Tryz.sizeOf21
 v21 := Tryz.zeroValue21
 t37 := Tryz.underlying80
 a37 := Tryz.isAgg80
 z37 := Tryz.sizeOf80
 v37 := Tryz.zeroValue80
 t46 := Tryz.underlying160
 a46 := Tryz.isAgg160
 z46 := Tryz.sizeOf160
 v46 := Tryz.zeroValue160
 t53 := Tryz.underlying125
 a53 := Tryz.isAgg125
 z53 := Tryz.sizeOf125
 v53 := Tryz.zeroValue125
 t75 := Tryz.underlying129
 a75 := Tryz.isAgg129
 z75 := Tryz.sizeOf129
 v75 := Tryz.zeroValue129
 t85 := Tryz.underlying149
 a85 := Tryz.isAgg149
 z85 := Tryz.sizeOf149
 v85 := Tryz.zeroValue149
 t167 := Tryz.underlying148
 a167 := Tryz.isAgg148
 z167 := Tryz.sizeOf148
 v167 := Tryz.zeroValue148
 t175 := Tryz.underlying162
 a175 := Tryz.isAgg162
 z175 := Tryz.sizeOf162
 v175 := Tryz.zeroValue162 }
open Go.RowKit in
theorem Tryz.internal_strconv_Atoi (s : ByteArray) (n : Int) (hl : s.size ≤ 18) (h : Lib.atoi s.data.toList = some n) (w : World) :
 Calls Tryz.prog 142 #[.string s] w fun e w' => e = .returned (.tuple #[.int .i64 n, .nilIface]) ∧ ∃ t, w' = Lib.bytesWorld w 5 t := Any.internal_strconv_Atoi Tryz.lays244 s n hl h w
def Tryz.lays172_ren : Go.Shelf.Ren := ⟨fun | 172 => 131 | 244 => 142 | 245 => 143 | 247 => 151 | 279 => 152 | 280 => 153 | 281 => 154 | 282 => 155 | 287 => 162 | 316 => 163 | 171 => 97 | 205 => 164 | 321 => 167 | 322 => 168 | 243 => 123 | 246 => 139 | 283 => 145 | 284 => 146 | 285 => 147 | 286 => 148 | 129 => 157 | 317 => 156 | 318 => 158 | 319 => 159 | 320 => 160 | 337 => 165 | 338 => 166 | n => n, fun | 9 => 9 | 3 => 3 | 75 => 129 | 76 => 130 | 4 => 4 | 5 => 5 | 167 => 148 | 37 => 80 | 0 => 0 | 85 => 149 | 2 => 2 | 168 => 151 | 53 => 125 | 175 => 162 | 46 => 160 | 210 => 166 | 127 => 119 | 145 => 172 | 143 => 170 | 21 => 21 | 171 => 143 | 173 => 146 | 212 => 156 | 51 => 157 | 20 => 20 | 213 => 158 | 232 => 173 | 233 => 174 | 80 => 61 | n => n, fun | 15 => 2 | 16 => 3 | 17 => 1 | 18 => 5 | 19 => 6 | n => n⟩
theorem Tryz.lays172 : Go.Proofs.Lays.n172 Tryz.prog Tryz.lays172_ren := {
 mixed := by kernel_rfl
 f129 := Tryz.func157.trans (congrArg some (by kernel_rfl))
 f171 := Tryz.func97.trans (congrArg some (by kernel_rfl))
 f172 := Tryz.func131.trans (congrArg some (by kernel_rfl))
 f205 := Tryz.func164.trans (congrArg some (by kernel_rfl))
 f243 := Tryz.func123.trans (congrArg some (by kernel_rfl))
 f244 := Tryz.func142.trans (congrArg some (by kernel_rfl))
 f245 := Tryz.func143.trans (congrArg some (by kernel_rfl))
 f246 := Tryz.func139.trans (congrArg some (by kernel_rfl))
 f247 := Tryz.func151.trans (congrArg some (by kernel_rfl))
 f279 := Tryz.func152.trans (congrArg some (by kernel_rfl))
 f280 := Tryz.func153.trans (congrArg some (by kernel_rfl))
 f281 := Tryz.func154.trans (congrArg some (by kernel_rfl))
 f282 := Tryz.func155.trans (congrArg some (by kernel_rfl))
 f283 := Tryz.func145.trans (congrArg some (by kernel_rfl))
 f284 := Tryz.func146.trans (congrArg some (by kernel_rfl))
 f285 := Tryz.func147.trans (congrArg some (by kernel_rfl))
 f286 := Tryz.func148.trans (congrArg some (by kernel_rfl))
 f287 := Tryz.func162.trans (congrArg some (by kernel_rfl))
 f316 := Tryz.func163.trans (congrArg some (by kernel_rfl))
 f317 := Tryz.func156.trans (congrArg some (by kernel_rfl))
 f318 := Tryz.func158.trans (congrArg some (by kernel_rfl))
 f319 := Tryz.func159.trans (congrArg some (by kernel_rfl))
 f320 := Tryz.func160.trans (congrArg some (by kernel_rfl))
 f321 := Tryz.func167.trans (congrArg some (by kernel_rfl))
 f322 := Tryz.func168.trans (congrArg some (by kernel_rfl))
 f337 := Tryz.func165.trans (congrArg some (by kernel_rfl))
 f338 := Tryz.func166.trans (congrArg some (by kernel_rfl))
 t0 := Tryz.underlying0
 a0 := Tryz.isAgg0
 z0 := Tryz.sizeOf0
 v0 := Tryz.zeroValue0
 t2 := Tryz.underlying2
 a2 := Tryz.isAgg2
 z2 := Tryz.sizeOf2
 v2 := Tryz.zeroValue2
 t3 := Tryz.underlying3
 a3 := Tryz.isAgg3
 z3 := Tryz.sizeOf3
 v3 := Tryz.zeroValue3
 t4 := Tryz.underlying4
 a4 := Tryz.isAgg4
 z4 := Tryz.sizeOf4
 v4 := Tryz.zeroValue4
 t5 := Tryz.underlying5
 a5 := Tryz.isAgg5
 z5 := Tryz.sizeOf5
 v5 := Tryz.zeroValue5
 t9 := Tryz.underlying9
 a9 := Tryz.isAgg9
 z9 := Tryz.sizeOf9
 v9 := Tryz.zeroValue9
 t20 := Tryz.underlying20
 a20 := Tryz.isAgg20
 z20 := Tryz.sizeOf20
 v20 := Tryz.zeroValue20
 t21 := Tryz.underlying21
 a21 := Tryz.isAgg21
 z21 := Tryz.sizeOf21
 v21 := Tryz.zeroValue21
 t37 := Tryz.underlying80
 a37 := Tryz.isAgg80
 z37 := Tryz.sizeOf80
 v37 := Tryz.zeroValue80
 t46 := Tryz.underlying160
 a46 := Tryz.isAgg160
 z46 := Tryz.sizeOf160
 v46 := Tryz.zeroValue160
 t51 := Tryz.underlying157
 a51 := Tryz.isAgg157
 z51 := Tryz.sizeOf157
 v51 := Tryz.zeroValue157
 t53 := Tryz.underlying125
 a53 := Tryz.isAgg125
 z53 := Tryz.sizeOf125
 v53 := Tryz.zeroValue125
 t75 := Tryz.underlying129
 a75 := Tryz.isAgg129
 z75 := Tryz.sizeOf129
 v75 := Tryz.zeroValue129
 t76 := Tryz.underlying130
 a76 := Tryz.isAgg130
 z76 := Tryz.sizeOf130
 v76 := Tryz.zeroValue130
 t85 := Tryz.underlying149
 a85 := Tryz.isAgg149
 z85 := Tryz.sizeOf149
 v85 := Tryz.zeroValue149
 t127 := Tryz.underlying119
 a127 := Tryz.isAgg119
 z127 := Tryz.sizeOf119
 v127 := Tryz.zeroValue119
 t143 := Tryz.underlying170
 a143 := Tryz.isAgg170
 z143 := Tryz.sizeOf170
 v143 := Tryz.zeroValue170
 t145 := Tryz.underlying172
 a145 := Tryz.isAgg172
 z145 := Tryz.sizeOf172
 v145 := Tryz.zeroValue172
 t167 := Tryz.underlying148
 a167 := Tryz.isAgg148
 z167 := Tryz.sizeOf148
 v167 := Tryz.zeroValue148
 t168 := Tryz.underlying151
 a168 := Tryz.isAgg151
 z168 := Tryz.sizeOf151
 v168 := Tryz.zeroValue151
 t171 := Tryz.underlying143
 a171 := Tryz.isAgg143
 z171 := Tryz.sizeOf143
 v171 := Tryz.zeroValue143
 t173 := Tryz.underlying146
 a173 := Tryz.isAgg146
 z173 := Tryz.sizeOf146
 v173 := Tryz.zeroValue146
 t175 := Tryz.underlying162
 a175 := Tryz.isAgg162
 z175 := Tryz.sizeOf162
 v175 := Tryz.zeroValue162
 t210 := Tryz.underlying166
 a210 := Tryz.isAgg166
 z210 := Tryz.sizeOf166
 v210 := Tryz.zeroValue166
 t212 := Tryz.underlying156
 a212 := Tryz.isAgg156
 z212 := Tryz.sizeOf156
 v212 := Tryz.zeroValue156
 t213 := Tryz.underlying158
 a213 := Tryz.isAgg158
 z213 := Tryz.sizeOf158
 t232 := Tryz.underlying173
 a232 := Tryz.isAgg173
 z232 := Tryz.sizeOf173
 v232 := Tryz.zeroValue173
 t233 := Tryz.underlying174
 a233 := Tryz.isAgg174
 z233 := Tryz.sizeOf174
 v233 := Tryz.zeroValue174
 g15 := by kernel_rfl
 g16 := by kernel_rfl
 g17 := by kernel_rfl
 g18 := by kernel_rfl
 g19 := by kernel_rfl }
open Go.RowKit in
theorem Tryz.strconv_Atoi (s : ByteArray) (n : Int) (hl : s.size ≤ 18) (h : Lib.atoi s.data.toList = some n) (w : World) :
 Calls Tryz.prog 131 #[.string s] w fun e w' => e = .returned (.tuple #[.int .i64 n, .nilIface]) ∧ ∃ t, w' = Lib.bytesWorld w 5 t := Any.strconv_Atoi Tryz.lays172 s n hl h w
def Tryz.lays129_ren : Go.Shelf.Ren := ⟨fun | 129 => 157 | n => n, fun | 53 => 125 | 3 => 3 | 4 => 4 | 46 => 160 | 5 => 5 | 9 => 9 | n => n, fun | n => n⟩
def Tryz.lays317_ren : Go.Shelf.Ren := ⟨fun | 317 => 156 | n => n, fun | 3 => 3 | 46 => 160 | n => n, fun | n => n⟩
theorem Tryz.lays317 : Go.Proofs.Lays.n317 Tryz.prog Tryz.lays317_ren := {
 mixed := by kernel_rfl
 f317 := Tryz.func156.trans (congrArg some (by kernel_rfl))
 t3 := Tryz.underlying3
 a3 := Tryz.isAgg3
 z3 := Tryz.sizeOf3
 v3 := Tryz.zeroValue3
 t46 := Tryz.underlying160
 a46 := Tryz.isAgg160
 z46 := Tryz.sizeOf160
 v46 := Tryz.zeroValue160 }
open Go.Lib in
theorem Tryz.internal_strconv_log10Pow2 (x : Nat) (h : x ≤ 64) (w : World) :
 Calls Tryz.prog 156 #[.int .i64 x] w fun e w' => e = .returned (.int .i64 (Lib.l10 x)) ∧ w' = w := Any.internal_strconv_log10Pow2 Tryz.lays317 x h w
def Tryz.lays318_ren : Go.Shelf.Ren := ⟨fun | 318 => 158 | n => n, fun | 3 => 3 | 4 => 4 | n => n, fun | n => n⟩
theorem Tryz.lays318 : Go.Proofs.Lays.n318 Tryz.prog Tryz.lays318_ren := {
 mixed := by kernel_rfl
 f318 := Tryz.func158.trans (congrArg some (by kernel_rfl))
 t3 := Tryz.underlying3
 a3 := Tryz.isAgg3
 z3 := Tryz.sizeOf3
 v3 := Tryz.zeroValue3
 t4 := Tryz.underlying4
 a4 := Tryz.isAgg4
 z4 := Tryz.sizeOf4
 v4 := Tryz.zeroValue4 }
open Go.Lib in
theorem Tryz.internal_strconv_bool2_int (b : Bool) (w : World) :
 Calls Tryz.prog 158 #[.bool b] w fun e w' => e = .returned (.int .i64 (if b then 1 else 0)) ∧ w' = w := Any.internal_strconv_bool2_int Tryz.lays318 b w
def Tryz.lays283_ren : Go.Shelf.Ren := ⟨fun | 283 => 145 | n => n, fun | 3 => 3 | 9 => 9 | 4 => 4 | n => n, fun | n => n⟩
theorem Tryz.lays283 : Go.Proofs.Lays.n283 Tryz.prog Tryz.lays283_ren := {
 mixed := by kernel_rfl
 f283 := Tryz.func145.trans (congrArg some (by kernel_rfl))
 t3 := Tryz.underlying3
 a3 := Tryz.isAgg3
 z3 := Tryz.sizeOf3
 v3 := Tryz.zeroValue3
 t4 := Tryz.underlying4
 a4 := Tryz.isAgg4
 z4 := Tryz.sizeOf4
 v4 := Tryz.zeroValue4
 t9 := Tryz.underlying9
 a9 := Tryz.isAgg9
 z9 := Tryz.sizeOf9
 v9 := Tryz.zeroValue9 }
open Go.Lib in
theorem Tryz.internal_strconv_small (i : Nat) (h : i < 100) (w : World) :
 Calls Tryz.prog 145 #[.int .i64 i] w fun e w' => e = .returned (.string ⟨(Lib.decDigits i).toArray⟩) ∧ w' = w := Any.internal_strconv_small Tryz.lays283 i h w
def Tryz.laysM284_ren : Go.Shelf.Ren := ⟨fun | 284 => 146 | 129 => 157 | 317 => 156 | 318 => 158 | n => n, fun | 53 => 125 | 3 => 3 | 212 => 156 | 0 => 0 | 4 => 4 | 46 => 160 | 5 => 5 | 9 => 9 | n => n, fun | 17 => 1 | n => n⟩
theorem Tryz.laysM284 : Go.Proofs.LaysM.n284 Tryz.prog Tryz.laysM284_ren := {
 mixed := by kernel_rfl
 f129 := Tryz.func157.trans (congrArg some (by kernel_rfl))
 f284 := Tryz.func146.trans (congrArg some (by kernel_rfl))
 f317 := Tryz.func156.trans (congrArg some (by kernel_rfl))
 f318 := Tryz.func158.trans (congrArg some (by kernel_rfl))
 t0 := Tryz.underlying0
 a0 := Tryz.isAgg0
 z0 := Tryz.sizeOf0
 v0 := Tryz.zeroValue0
 t3 := Tryz.underlying3
 a3 := Tryz.isAgg3
 z3 := Tryz.sizeOf3
 v3 := Tryz.zeroValue3
 t4 := Tryz.underlying4
 a4 := Tryz.isAgg4
 z4 := Tryz.sizeOf4
 v4 := Tryz.zeroValue4
 t5 := Tryz.underlying5
 a5 := Tryz.isAgg5
 z5 := Tryz.sizeOf5
 v5 := Tryz.zeroValue5
 t9 := Tryz.underlying9
 a9 := Tryz.isAgg9
 z9 := Tryz.sizeOf9
 v9 := Tryz.zeroValue9
 t46 := Tryz.underlying160
 a46 := Tryz.isAgg160
 z46 := Tryz.sizeOf160
 v46 := Tryz.zeroValue160
 t53 := Tryz.underlying125
 a53 := Tryz.isAgg125
 z53 := Tryz.sizeOf125
 v53 := Tryz.zeroValue125
 t212 := Tryz.underlying156
 a212 := Tryz.isAgg156
 z212 := Tryz.sizeOf156
 v212 := Tryz.zeroValue156
 g17 := by kernel_rfl
 i0 := by kernel_rfl
 i3 := by kernel_rfl
 i4 := by kernel_rfl
 i5 := by kernel_rfl
 i9 := by kernel_rfl
 i46 := by kernel_rfl
 i53 := by kernel_rfl
 i212 := by kernel_rfl
 m17 := by kernel_rfl }
open Go.Lib in
theorem Tryz.internal_strconv_numDigits (u : Nat) (h1 : 1 ≤ u) (h2 : u < 18446744073709551616) (w : World) (htab : Lib.TabIs Tryz.prog w "internal/strconv.uint64pow10" .u64 Lib.pow10Tab) :
 Calls Tryz.prog 146 #[.int .u64 u] w fun e w' => e = .returned (.int .i64 (Lib.nDigits u)) ∧ w' = w := Any.internal_strconv_numDigits Tryz.laysM284 u h1 h2 w htab
def Tryz.lays285_ren : Go.Shelf.Ren := ⟨fun | 285 => 147 | n => n, fun | 37 => 80 | 53 => 125 | 3 => 3 | 4 => 4 | 51 => 157 | 9 => 9 | 5 => 5 | 0 => 0 | n => n, fun | n => n⟩
theorem Tryz.lays285 : Go.Proofs.Lays.n285 Tryz.prog Tryz.lays285_ren := {
 mixed := by kernel_rfl
 f285 := Tryz.func147.trans (congrArg some (by kernel_rfl))
 t0 := Tryz.underlying0
 a0 := Tryz.isAgg0
 z0 := Tryz.sizeOf0
 v0 := Tryz.zeroValue0
 t3 := Tryz.underlying3
 a3 := Tryz.isAgg3
 z3 := Tryz.sizeOf3
 v3 := Tryz.zeroValue3
 t4 := Tryz.underlying4
 a4 := Tryz.isAgg4
 z4 := Tryz.sizeOf4
 v4 := Tryz.zeroValue4
 t5 := Tryz.underlying5
 a5 := Tryz.isAgg5
 z5 := Tryz.sizeOf5
 v5 := Tryz.zeroValue5
 t9 := Tryz.underlying9
 a9 := Tryz.isAgg9
 z9 := Tryz.sizeOf9
 v9 := Tryz.zeroValue9
 t37 := Tryz.underlying80
 a37 := Tryz.isAgg80
 z37 := Tryz.sizeOf80
 v37 := Tryz.zeroValue80
 t51 := Tryz.underlying157
 a51 := Tryz.isAgg157
 z51 := Tryz.sizeOf157
 v51 := Tryz.zeroValue157
 t53 := Tryz.underlying125
 a53 := Tryz.isAgg125
 z53 := Tryz.sizeOf125
 v53 := Tryz.zeroValue125 }
open Go.RowKit Go.Sort Go.Lib in
theorem Tryz.internal_strconv_formatBase10 (blk off cap : Nat) (u : Nat) (d : Array UInt8) (w : World) (hH : Holds (fun (b : UInt8) => Value.int .u8 (b.toNat : Int)) w blk off d) (hu : u < 10 ^ d.size) (hu64 : u < 18446744073709551616) (hsz : d.size < 4611686018427387904) :
 Calls Tryz.prog 147 #[.slice (some ⟨blk, off, none⟩) d.size cap, .int .u64 u] w fun e w' =>
  e = .returned (.tuple #[]) ∧ ∃ (n v' : Nat) (dk : Array UInt8), w' = (putRow (fun (b : UInt8) => Value.int .u8 (b.toNat : Int)) w blk off dk).drewN n ∧ FmtInv d.size u 0 v' dk := Any.internal_strconv_formatBase10 Tryz.lays285 blk off cap u d w hH hu hu64 hsz
def Tryz.laysM246_ren : Go.Shelf.Ren := ⟨fun | 246 => 139 | 283 => 145 | 284 => 146 | 285 => 147 | 286 => 148 | 129 => 157 | 317 => 156 | 318 => 158 | 319 => 159 | 320 => 160 | 337 => 165 | 338 => 166 | n => n, fun | 2 => 2 | 3 => 3 | 9 => 9 | 4 => 4 | 171 => 143 | 0 => 0 | 53 => 125 | 37 => 80 | 5 => 5 | 173 => 146 | 212 => 156 | 51 => 157 | 20 => 20 | 213 => 158 | 46 => 160 | 232 => 173 | 233 => 174 | n => n, fun | 17 => 1 | 18 => 5 | 19 => 6 | n => n⟩
theorem Tryz.laysM246 : Go.Proofs.LaysM.n246 Tryz.prog Tryz.laysM246_ren := {
 mixed := by kernel_rfl
 f129 := Tryz.func157.trans (congrArg some (by kernel_rfl))
 f246 := Tryz.func139.trans (congrArg some (by kernel_rfl))
 f283 := Tryz.func145.trans (congrArg some (by kernel_rfl))
 f284 := Tryz.func146.trans (congrArg some (by kernel_rfl))
 f285 := Tryz.func147.trans (congrArg some (by kernel_rfl))
 f286 := Tryz.func148.trans (congrArg some (by kernel_rfl))
 f317 := Tryz.func156.trans (congrArg some (by kernel_rfl))
 f318 := Tryz.func158.trans (congrArg some (by kernel_rfl))
 f319 := Tryz.func159.trans (congrArg some (by kernel_rfl))
 f320 := Tryz.func160.trans (congrArg some (by kernel_rfl))
 f337 := Tryz.func165.trans (congrArg some (by kernel_rfl))
 f338 := Tryz.func166.trans (congrArg some (by kernel_rfl))
 t0 := Tryz.underlying0
 a0 := Tryz.isAgg0
 z0 := Tryz.sizeOf0
 v0 := Tryz.zeroValue0
 t2 := Tryz.underlying2
 a2 := Tryz.isAgg2
 z2 := Tryz.sizeOf2
 v2 := Tryz.zeroValue2
 t3 := Tryz.underlying3
 a3 := Tryz.isAgg3
 z3 := Tryz.sizeOf3
 v3 := Tryz.zeroValue3
 t4 := Tryz.underlying4
 a4 := Tryz.isAgg4
 z4 := Tryz.sizeOf4
 v4 := Tryz.zeroValue4
 t5 := Tryz.underlying5
 a5 := Tryz.isAgg5
 z5 := Tryz.sizeOf5
 v5 := Tryz.zeroValue5
 t9 := Tryz.underlying9
 a9 := Tryz.isAgg9
 z9 := Tryz.sizeOf9
 v9 := Tryz.zeroValue9
 t20 := Tryz.underlying20
 a20 := Tryz.isAgg20
 z20 := Tryz.sizeOf20
 v20 := Tryz.zeroValue20
 t37 := Tryz.underlying80
 a37 := Tryz.isAgg80
 z37 := Tryz.sizeOf80
 v37 := Tryz.zeroValue80
 t46 := Tryz.underlying160
 a46 := Tryz.isAgg160
 z46 := Tryz.sizeOf160
 v46 := Tryz.zeroValue160
 t51 := Tryz.underlying157
 a51 := Tryz.isAgg157
 z51 := Tryz.sizeOf157
 v51 := Tryz.zeroValue157
 t53 := Tryz.underlying125
 a53 := Tryz.isAgg125
 z53 := Tryz.sizeOf125
 v53 := Tryz.zeroValue125
 t171 := Tryz.underlying143
 a171 := Tryz.isAgg143
 z171 := Tryz.sizeOf143
 v171 := Tryz.zeroValue143
 t173 := Tryz.underlying146
 a173 := Tryz.isAgg146
 z173 := Tryz.sizeOf146
 v173 := Tryz.zeroValue146
 t212 := Tryz.underlying156
 a212 := Tryz.isAgg156
 z212 := Tryz.sizeOf156
 v212 := Tryz.zeroValue156
 t213 := Tryz.underlying158
 a213 := Tryz.isAgg158
 z213 := Tryz.sizeOf158
 t232 := Tryz.underlying173
 a232 := Tryz.isAgg173
 z232 := Tryz.sizeOf173
 v232 := Tryz.zeroValue173
 t233 := Tryz.underlying174
 a233 := Tryz.isAgg174
 z233 := Tryz.sizeOf174
 v233 := Tryz.zeroValue174
 g17 := by kernel_rfl
 g18 := by kernel_rfl
 g19 := by kernel_rfl
 i0 := by kernel_rfl
 i2 := by kernel_rfl
 i3 := by kernel_rfl
 i4 := by kernel_rfl
 i5 := by kernel_rfl
 i9 := by kernel_rfl
 i20 := by kernel_rfl
 i37 := by kernel_rfl
 i46 := by kernel_rfl
 i51 := by kernel_rfl
 i53 := by kernel_rfl
 i171 := by kernel_rfl
 i173 := by kernel_rfl
 i212 := by kernel_rfl
 i232 := by kernel_rfl
 i233 := by kernel_rfl
 m17 := by kernel_rfl
 m18 := by kernel_rfl
 m19 := by kernel_rfl }
open Go.RowKit Go.Sort Go.Lib in
theorem Tryz.internal_strconv_FormatInt_10 (n : Int) (h0 : -9223372036854775808 ≤ n) (h1 : n ≤ 9223372036854775807) (w : World) (htab : Lib.TabIs Tryz.prog w "internal/strconv.uint64pow10" .u64 Lib.pow10Tab) :
 Calls Tryz.prog 139 #[.int .i64 n, .int .i64 10] w fun e w' => e = .returned (.string ⟨(Lib.itoa n).toArray⟩) ∧ ∃ k os, w' = grow (w.drewN k) os := Any.internal_strconv_FormatInt_10 Tryz.laysM246 n h0 h1 w htab
def Tryz.lays246_ren : Go.Shelf.Ren := ⟨fun | 246 => 139 | 283 => 145 | 284 => 146 | 285 => 147 | 286 => 148 | 129 => 157 | 317 => 156 | 318 => 158 | 319 => 159 | 320 => 160 | 337 => 165 | 338 => 166 | n => n, fun | 2 => 2 | 3 => 3 | 9 => 9 | 4 => 4 | 171 => 143 | 0 => 0 | 53 => 125 | 37 => 80 | 5 => 5 | 173 => 146 | 212 => 156 | 51 => 157 | 20 => 20 | 213 => 158 | 46 => 160 | 232 => 173 | 233 => 174 | n => n, fun | 17 => 1 | 18 => 5 | 19 => 6 | n => n⟩
theorem Tryz.lays246 : Go.Proofs.Lays.n246 Tryz.prog Tryz.lays246_ren := {
 mixed := by kernel_rfl
 f129 := Tryz.func157.trans (congrArg some (by kernel_rfl))
 f246 := Tryz.func139.trans (congrArg some (by kernel_rfl))
 f283 := Tryz.func145.trans (congrArg some (by kernel_rfl))
 f284 := Tryz.func146.trans (congrArg some (by kernel_rfl))
 f285 := Tryz.func147.trans (congrArg some (by kernel_rfl))
 f286 := Tryz.func148.trans (congrArg some (by kernel_rfl))
 f317 := Tryz.func156.trans (congrArg some (by kernel_rfl))
 f318 := Tryz.func158.trans (congrArg some (by kernel_rfl))
 f319 := Tryz.func159.trans (congrArg some (by kernel_rfl))
 f320 := Tryz.func160.trans (congrArg some (by kernel_rfl))
 f337 := Tryz.func165.trans (congrArg some (by kernel_rfl))
 f338 := Tryz.func166.trans (congrArg some (by kernel_rfl))
 t0 := Tryz.underlying0
 a0 := Tryz.isAgg0
 z0 := Tryz.sizeOf0
 v0 := Tryz.zeroValue0
 t2 := Tryz.underlying2
 a2 := Tryz.isAgg2
 z2 := Tryz.sizeOf2
 v2 := Tryz.zeroValue2
 t3 := Tryz.underlying3
 a3 := Tryz.isAgg3
 z3 := Tryz.sizeOf3
 v3 := Tryz.zeroValue3
 t4 := Tryz.underlying4
 a4 := Tryz.isAgg4
 z4 := Tryz.sizeOf4
 v4 := Tryz.zeroValue4
 t5 := Tryz.underlying5
 a5 := Tryz.isAgg5
 z5 := Tryz.sizeOf5
 v5 := Tryz.zeroValue5
 t9 := Tryz.underlying9
 a9 := Tryz.isAgg9
 z9 := Tryz.sizeOf9
 v9 := Tryz.zeroValue9
 t20 := Tryz.underlying20
 a20 := Tryz.isAgg20
 z20 := Tryz.sizeOf20
 v20 := Tryz.zeroValue20
 t37 := Tryz.underlying80
 a37 := Tryz.isAgg80
 z37 := Tryz.sizeOf80
 v37 := Tryz.zeroValue80
 t46 := Tryz.underlying160
 a46 := Tryz.isAgg160
 z46 := Tryz.sizeOf160
 v46 := Tryz.zeroValue160
 t51 := Tryz.underlying157
 a51 := Tryz.isAgg157
 z51 := Tryz.sizeOf157
 v51 := Tryz.zeroValue157
 t53 := Tryz.underlying125
 a53 := Tryz.isAgg125
 z53 := Tryz.sizeOf125
 v53 := Tryz.zeroValue125
 t171 := Tryz.underlying143
 a171 := Tryz.isAgg143
 z171 := Tryz.sizeOf143
 v171 := Tryz.zeroValue143
 t173 := Tryz.underlying146
 a173 := Tryz.isAgg146
 z173 := Tryz.sizeOf146
 v173 := Tryz.zeroValue146
 t212 := Tryz.underlying156
 a212 := Tryz.isAgg156
 z212 := Tryz.sizeOf156
 v212 := Tryz.zeroValue156
 t213 := Tryz.underlying158
 a213 := Tryz.isAgg158
 z213 := Tryz.sizeOf158
 t232 := Tryz.underlying173
 a232 := Tryz.isAgg173
 z232 := Tryz.sizeOf173
 v232 := Tryz.zeroValue173
 t233 := Tryz.underlying174
 a233 := Tryz.isAgg174
 z233 := Tryz.sizeOf174
 v233 := Tryz.zeroValue174
 g17 := by kernel_rfl
 g18 := by kernel_rfl
 g19 := by kernel_rfl }
open Go.RowKit Go.Sort Go.Lib in
theorem Tryz.internal_strconv_FormatInt_10_small (i : Nat) (hi : i < 100) (w : World) :
 Calls Tryz.prog 139 #[.int .i64 i, .int .i64 10] w fun e w' => e = .returned (.string ⟨(Lib.decDigits i).toArray⟩) ∧ w' = w := Any.internal_strconv_FormatInt_10_small Tryz.lays246 i hi w
def Tryz.laysM243_ren : Go.Shelf.Ren := ⟨fun | 243 => 123 | 246 => 139 | 283 => 145 | 284 => 146 | 285 => 147 | 286 => 148 | 129 => 157 | 317 => 156 | 318 => 158 | 319 => 159 | 320 => 160 | 337 => 165 | 338 => 166 | n => n, fun | 3 => 3 | 9 => 9 | 2 => 2 | 4 => 4 | 171 => 143 | 0 => 0 | 53 => 125 | 37 => 80 | 5 => 5 | 173 => 146 | 212 => 156 | 51 => 157 | 20 => 20 | 213 => 158 | 46 => 160 | 232 => 173 | 233 => 174 | n => n, fun | 17 => 1 | 18 => 5 | 19 => 6 | n => n⟩
theorem Tryz.laysM243 : Go.Proofs.LaysM.n243 Tryz.prog Tryz.laysM243_ren := {
 mixed := by kernel_rfl
 f129 := Tryz.func157.trans (congrArg some (by kernel_rfl))
 f243 := Tryz.func123.trans (congrArg some (by kernel_rfl))
 f246 := Tryz.func139.trans (congrArg some (by kernel_rfl))
 f283 := Tryz.func145.trans (congrArg some (by kernel_rfl))
 f284 := Tryz.func146.trans (congrArg some (by kernel_rfl))
 f285 := Tryz.func147.trans (congrArg some (by kernel_rfl))
 f286 := Tryz.func148.trans (congrArg some (by kernel_rfl))
 f317 := Tryz.func156.trans (congrArg some (by kernel_rfl))
 f318 := Tryz.func158.trans (congrArg some (by kernel_rfl))
 f319 := Tryz.func159.trans (congrArg some (by kernel_rfl))
 f320 := Tryz.func160.trans (congrArg some (by kernel_rfl))
 f337 := Tryz.func165.trans (congrArg some (by kernel_rfl))
 f338 := Tryz.func166.trans (congrArg some (by kernel_rfl))
 t0 := Tryz.underlying0
 a0 := Tryz.isAgg0
 z0 := Tryz.sizeOf0
 v0 := Tryz.zeroValue0
 t2 := Tryz.underlying2
 a2 := Tryz.isAgg2
 z2 := Tryz.sizeOf2
 v2 := Tryz.zeroValue2
 t3 := Tryz.underlying3
 a3 := Tryz.isAgg3
 z3 := Tryz.sizeOf3
 v3 := Tryz.zeroValue3
 t4 := Tryz.underlying4
 a4 := Tryz.isAgg4
 z4 := Tryz.sizeOf4
 v4 := Tryz.zeroValue4
 t5 := Tryz.underlying5
 a5 := Tryz.isAgg5
 z5 := Tryz.sizeOf5
 v5 := Tryz.zeroValue5
 t9 := Tryz.underlying9
 a9 := Tryz.isAgg9
 z9 := Tryz.sizeOf9
 v9 := Tryz.zeroValue9
 t20 := Tryz.underlying20
 a20 := Tryz.isAgg20
 z20 := Tryz.sizeOf20
 v20 := Tryz.zeroValue20
 t37 := Tryz.underlying80
 a37 := Tryz.isAgg80
 z37 := Tryz.sizeOf80
 v37 := Tryz.zeroValue80
 t46 := Tryz.underlying160
 a46 := Tryz.isAgg160
 z46 := Tryz.sizeOf160
 v46 := Tryz.zeroValue160
 t51 := Tryz.underlying157
 a51 := Tryz.isAgg157
 z51 := Tryz.sizeOf157
 v51 := Tryz.zeroValue157
 t53 := Tryz.underlying125
 a53 := Tryz.isAgg125
 z53 := Tryz.sizeOf125
 v53 := Tryz.zeroValue125
 t171 := Tryz.underlying143
 a171 := Tryz.isAgg143
 z171 := Tryz.sizeOf143
 v171 := Tryz.zeroValue143
 t173 := Tryz.underlying146
 a173 := Tryz.isAgg146
 z173 := Tryz.sizeOf146
 v173 := Tryz.zeroValue146
 t212 := Tryz.underlying156
 a212 := Tryz.isAgg156
 z212 := Tryz.sizeOf156
 v212 := Tryz.zeroValue156
 t213 := Tryz.underlying158
 a213 := Tryz.isAgg158
 z213 := Tryz.sizeOf158
 t232 := Tryz.underlying173
 a232 := Tryz.isAgg173
 z232 := Tryz.sizeOf173
 v232 := Tryz.zeroValue173
 t233 := Tryz.underlying174
 a233 := Tryz.isAgg174
 z233 := Tryz.sizeOf174
 v233 := Tryz.zeroValue174
 g17 := by kernel_rfl
 g18 := by kernel_rfl
 g19 := by kernel_rfl
 i0 := by kernel_rfl
 i2 := by kernel_rfl
 i3 := by kernel_rfl
 i4 := by kernel_rfl
 i5 := by kernel_rfl
 i9 := by kernel_rfl
 i20 := by kernel_rfl
 i37 := by kernel_rfl
 i46 := by kernel_rfl
 i51 := by kernel_rfl
 i53 := by kernel_rfl
 i171 := by kernel_rfl
 i173 := by kernel_rfl
 i212 := by kernel_rfl
 i232 := by kernel_rfl
 i233 := by kernel_rfl
 m17 := by kernel_rfl
 m18 := by kernel_rfl
 m19 := by kernel_rfl }
open Go.RowKit Go.Sort Go.Lib in
theorem Tryz.internal_strconv_Itoa (n : Int) (h0 : -9223372036854775808 ≤ n) (h1 : n ≤ 9223372036854775807) (w : World) (htab : Lib.TabIs Tryz.prog w "internal/strconv.uint64pow10" .u64 Lib.pow10Tab) :
 Calls Tryz.prog 123 #[.int .i64 n] w fun e w' => e = .returned (.string ⟨(Lib.itoa n).toArray⟩) ∧ ∃ k os, w' = grow (w.drewN k) os := Any.internal_strconv_Itoa Tryz.laysM243 n h0 h1 w htab
def Tryz.lays243_ren : Go.Shelf.Ren := ⟨fun | 243 => 123 | 246 => 139 | 283 => 145 | 284 => 146 | 285 => 147 | 286 => 148 | 129 => 157 | 317 => 156 | 318 => 158 | 319 => 159 | 320 => 160 | 337 => 165 | 338 => 166 | n => n, fun | 3 => 3 | 9 => 9 | 2 => 2 | 4 => 4 | 171 => 143 | 0 => 0 | 53 => 125 | 37 => 80 | 5 => 5 | 173 => 146 | 212 => 156 | 51 => 157 | 20 => 20 | 213 => 158 | 46 => 160 | 232 => 173 | 233 => 174 | n => n, fun | 17 => 1 | 18 => 5 | 19 => 6 | n => n⟩
theorem Tryz.lays243 : Go.Proofs.Lays.n243 Tryz.prog Tryz.lays243_ren := {
 mixed := by kernel_rfl
 f129 := Tryz.func157.trans (congrArg some (by kernel_rfl))
 f243 := Tryz.func123.trans (congrArg some (by kernel_rfl))
 f246 := Tryz.func139.trans (congrArg some (by kernel_rfl))
 f283 := Tryz.func145.trans (congrArg some (by kernel_rfl))
 f284 := Tryz.func146.trans (congrArg some (by kernel_rfl))
 f285 := Tryz.func147.trans (congrArg some (by kernel_rfl))
 f286 := Tryz.func148.trans (congrArg some (by kernel_rfl))
 f317 := Tryz.func156.trans (congrArg some (by kernel_rfl))
 f318 := Tryz.func158.trans (congrArg some (by kernel_rfl))
 f319 := Tryz.func159.trans (congrArg some (by kernel_rfl))
 f320 := Tryz.func160.trans (congrArg some (by kernel_rfl))
 f337 := Tryz.func165.trans (congrArg some (by kernel_rfl))
 f338 := Tryz.func166.trans (congrArg some (by kernel_rfl))
 t0 := Tryz.underlying0
 a0 := Tryz.isAgg0
 z0 := Tryz.sizeOf0
 v0 := Tryz.zeroValue0
 t2 := Tryz.underlying2
 a2 := Tryz.isAgg2
 z2 := Tryz.sizeOf2
 v2 := Tryz.zeroValue2
 t3 := Tryz.underlying3
 a3 := Tryz.isAgg3
 z3 := Tryz.sizeOf3
 v3 := Tryz.zeroValue3
 t4 := Tryz.underlying4
 a4 := Tryz.isAgg4
 z4 := Tryz.sizeOf4
 v4 := Tryz.zeroValue4
 t5 := Tryz.underlying5
 a5 := Tryz.isAgg5
 z5 := Tryz.sizeOf5
 v5 := Tryz.zeroValue5
 t9 := Tryz.underlying9
 a9 := Tryz.isAgg9
 z9 := Tryz.sizeOf9
 v9 := Tryz.zeroValue9
 t20 := Tryz.underlying20
 a20 := Tryz.isAgg20
 z20 := Tryz.sizeOf20
 v20 := Tryz.zeroValue20
 t37 := Tryz.underlying80
 a37 := Tryz.isAgg80
 z37 := Tryz.sizeOf80
 v37 := Tryz.zeroValue80
 t46 := Tryz.underlying160
 a46 := Tryz.isAgg160
 z46 := Tryz.sizeOf160
 v46 := Tryz.zeroValue160
 t51 := Tryz.underlying157
 a51 := Tryz.isAgg157
 z51 := Tryz.sizeOf157
 v51 := Tryz.zeroValue157
 t53 := Tryz.underlying125
 a53 := Tryz.isAgg125
 z53 := Tryz.sizeOf125
 v53 := Tryz.zeroValue125
 t171 := Tryz.underlying143
 a171 := Tryz.isAgg143
 z171 := Tryz.sizeOf143
 v171 := Tryz.zeroValue143
 t173 := Tryz.underlying146
 a173 := Tryz.isAgg146
 z173 := Tryz.sizeOf146
 v173 := Tryz.zeroValue146
 t212 := Tryz.underlying156
 a212 := Tryz.isAgg156
 z212 := Tryz.sizeOf156
 v212 := Tryz.zeroValue156
 t213 := Tryz.underlying158
 a213 := Tryz.isAgg158
 z213 := Tryz.sizeOf158
 t232 := Tryz.underlying173
 a232 := Tryz.isAgg173
 z232 := Tryz.sizeOf173
 v232 := Tryz.zeroValue173
 t233 := Tryz.underlying174
 a233 := Tryz.isAgg174
 z233 := Tryz.sizeOf174
 v233 := Tryz.zeroValue174
 g17 := by kernel_rfl
 g18 := by kernel_rfl
 g19 := by kernel_rfl }
open Go.RowKit Go.Sort Go.Lib in
theorem Tryz.internal_strconv_Itoa_small (i : Nat) (hi : i < 100) (w : World) :
 Calls Tryz.prog 123 #[.int .i64 i] w fun e w' => e = .returned (.string ⟨(Lib.decDigits i).toArray⟩) ∧ w' = w := Any.internal_strconv_Itoa_small Tryz.lays243 i hi w
def Tryz.laysM171_ren : Go.Shelf.Ren := ⟨fun | 171 => 97 | 243 => 123 | 246 => 139 | 283 => 145 | 284 => 146 | 285 => 147 | 286 => 148 | 129 => 157 | 317 => 156 | 318 => 158 | 319 => 159 | 320 => 160 | 337 => 165 | 338 => 166 | n => n, fun | 3 => 3 | 9 => 9 | 2 => 2 | 4 => 4 | 171 => 143 | 0 => 0 | 53 => 125 | 37 => 80 | 5 => 5 | 173 => 146 | 212 => 156 | 51 => 157 | 20 => 20 | 213 => 158 | 46 => 160 | 232 => 173 | 233 => 174 | n => n, fun | 17 => 1 | 18 => 5 | 19 => 6 | n => n⟩
theorem Tryz.laysM171 : Go.Proofs.LaysM.n171 Tryz.prog Tryz.laysM171_ren := {
 mixed := by kernel_rfl
 f129 := Tryz.func157.trans (congrArg some (by kernel_rfl))
 f171 := Tryz.func97.trans (congrArg some (by kernel_rfl))
 f243 := Tryz.func123.trans (congrArg some (by kernel_rfl))
 f246 := Tryz.func139.trans (congrArg some (by kernel_rfl))
 f283 := Tryz.func145.trans (congrArg some (by kernel_rfl))
 f284 := Tryz.func146.trans (congrArg some (by kernel_rfl))
 f285 := Tryz.func147.trans (congrArg some (by kernel_rfl))
 f286 := Tryz.func148.trans (congrArg some (by kernel_rfl))
 f317 := Tryz.func156.trans (congrArg some (by kernel_rfl))
 f318 := Tryz.func158.trans (congrArg some (by kernel_rfl))
 f319 := Tryz.func159.trans (congrArg some (by kernel_rfl))
 f320 := Tryz.func160.trans (congrArg some (by kernel_rfl))
 f337 := Tryz.func165.trans (congrArg some (by kernel_rfl))
 f338 := Tryz.func166.trans (congrArg some (by kernel_rfl))
 t0 := Tryz.underlying0
 a0 := Tryz.isAgg0
 z0 := Tryz.sizeOf0
 v0 := Tryz.zeroValue0
 t2 := Tryz.underlying2
 a2 := Tryz.isAgg2
 z2 := Tryz.sizeOf2
 v2 := Tryz.zeroValue2
 t3 := Tryz.underlying3
 a3 := Tryz.isAgg3
 z3 := Tryz.sizeOf3
 v3 := Tryz.zeroValue3
 t4 := Tryz.underlying4
 a4 := Tryz.isAgg4
 z4 := Tryz.sizeOf4
 v4 := Tryz.zeroValue4
 t5 := Tryz.underlying5
 a5 := Tryz.isAgg5
 z5 := Tryz.sizeOf5
 v5 := Tryz.zeroValue5
 t9 := Tryz.underlying9
 a9 := Tryz.isAgg9
 z9 := Tryz.sizeOf9
 v9 := Tryz.zeroValue9
 t20 := Tryz.underlying20
 a20 := Tryz.isAgg20
 z20 := Tryz.sizeOf20
 v20 := Tryz.zeroValue20
 t37 := Tryz.underlying80
 a37 := Tryz.isAgg80
 z37 := Tryz.sizeOf80
 v37 := Tryz.zeroValue80
 t46 := Tryz.underlying160
 a46 := Tryz.isAgg160
 z46 := Tryz.sizeOf160
 v46 := Tryz.zeroValue160
 t51 := Tryz.underlying157
 a51 := Tryz.isAgg157
 z51 := Tryz.sizeOf157
 v51 := Tryz.zeroValue157
 t53 := Tryz.underlying125
 a53 := Tryz.isAgg125
 z53 := Tryz.sizeOf125
 v53 := Tryz.zeroValue125
 t171 := Tryz.underlying143
 a171 := Tryz.isAgg143
 z171 := Tryz.sizeOf143
 v171 := Tryz.zeroValue143
 t173 := Tryz.underlying146
 a173 := Tryz.isAgg146
 z173 := Tryz.sizeOf146
 v173 := Tryz.zeroValue146
 t212 := Tryz.underlying156
 a212 := Tryz.isAgg156
 z212 := Tryz.sizeOf156
 v212 := Tryz.zeroValue156
 t213 := Tryz.underlying158
 a213 := Tryz.isAgg158
 z213 := Tryz.sizeOf158
 t232 := Tryz.underlying173
 a232 := Tryz.isAgg173
 z232 := Tryz.sizeOf173
 v232 := Tryz.zeroValue173
 t233 := Tryz.underlying174
 a233 := Tryz.isAgg174
 z233 := Tryz.sizeOf174
 v233 := Tryz.zeroValue174
 g17 := by kernel_rfl
 g18 := by kernel_rfl
 g19 := by kernel_rfl
 i0 := by kernel_rfl
 i2 := by kernel_rfl
 i3 := by kernel_rfl
 i4 := by kernel_rfl
 i5 := by kernel_rfl
 i9 := by kernel_rfl
 i20 := by kernel_rfl
 i37 := by kernel_rfl
 i46 := by kernel_rfl
 i51 := by kernel_rfl
 i53 := by kernel_rfl
 i171 := by kernel_rfl
 i173 := by kernel_rfl
 i212 := by kernel_rfl
 i232 := by kernel_rfl
 i233 := by kernel_rfl
 m17 := by kernel_rfl
 m18 := by kernel_rfl
 m19 := by kernel_rfl }
open Go.RowKit Go.Sort Go.Lib in
theorem Tryz.strconv_Itoa (n : Int) (h0 : -9223372036854775808 ≤ n) (h1 : n ≤ 9223372036854775807) (w : World) (htab : Lib.TabIs Tryz.prog w "internal/strconv.uint64pow10" .u64 Lib.pow10Tab) :
 Calls Tryz.prog 97 #[.int .i64 n] w fun e w' => e = .returned (.string ⟨(Lib.itoa n).toArray⟩) ∧ ∃ k os, w' = grow (w.drewN k) os := Any.strconv_Itoa Tryz.laysM171 n h0 h1 w htab
def Tryz.lays171_ren : Go.Shelf.Ren := ⟨fun | 171 => 97 | 243 => 123 | 246 => 139 | 283 => 145 | 284 => 146 | 285 => 147 | 286 => 148 | 129 => 157 | 317 => 156 | 318 => 158 | 319 => 159 | 320 => 160 | 337 => 165 | 338 => 166 | n => n, fun | 3 => 3 | 9 => 9 | 2 => 2 | 4 => 4 | 171 => 143 | 0 => 0 | 53 => 125 | 37 => 80 | 5 => 5 | 173 => 146 | 212 => 156 | 51 => 157 | 20 => 20 | 213 => 158 | 46 => 160 | 232 => 173 | 233 => 174 | n => n, fun | 17 => 1 | 18 => 5 | 19 => 6 | n => n⟩
theorem Tryz.lays171 : Go.Proofs.Lays.n171 Tryz.prog Tryz.lays171_ren := {
 mixed := by kernel_rfl
 f129 := Tryz.func157.trans (congrArg some (by kernel_rfl))
 f171 := Tryz.func97.trans (congrArg some (by kernel_rfl))
 f243 := Tryz.func123.trans (congrArg some (by kernel_rfl))
 f246 := Tryz.func139.trans (congrArg some (by kernel_rfl))
 f283 := Tryz.func145.trans (congrArg some (by kernel_rfl))
 f284 := Tryz.func146.trans (congrArg some (by kernel_rfl))
 f285 := Tryz.func147.trans (congrArg some (by kernel_rfl))
 f286 := Tryz.func148.trans (congrArg some (by kernel_rfl))
 f317 := Tryz.func156.trans (congrArg some (by kernel_rfl))
 f318 := Tryz.func158.trans (congrArg some (by kernel_rfl))
 f319 := Tryz.func159.trans (congrArg some (by kernel_rfl))
 f320 := Tryz.func160.trans (congrArg some (by kernel_rfl))
 f337 := Tryz.func165.trans (congrArg some (by kernel_rfl))
 f338 := Tryz.func166.trans (congrArg some (by kernel_rfl))
 t0 := Tryz.underlying0
 a0 := Tryz.isAgg0
 z0 := Tryz.sizeOf0
 v0 := Tryz.zeroValue0
 t2 := Tryz.underlying2
 a2 := Tryz.isAgg2
 z2 := Tryz.sizeOf2
 v2 := Tryz.zeroValue2
 t3 := Tryz.underlying3
 a3 := Tryz.isAgg3
 z3 := Tryz.sizeOf3
 v3 := Tryz.zeroValue3
 t4 := Tryz.underlying4
 a4 := Tryz.isAgg4
 z4 := Tryz.sizeOf4
 v4 := Tryz.zeroValue4
 t5 := Tryz.underlying5
 a5 := Tryz.isAgg5
 z5 := Tryz.sizeOf5
 v5 := Tryz.zeroValue5
 t9 := Tryz.underlying9
 a9 := Tryz.isAgg9
 z9 := Tryz.sizeOf9
 v9 := Tryz.zeroValue9
 t20 := Tryz.underlying20
 a20 := Tryz.isAgg20
 z20 := Tryz.sizeOf20
 v20 := Tryz.zeroValue20
 t37 := Tryz.underlying80
 a37 := Tryz.isAgg80
 z37 := Tryz.sizeOf80
 v37 := Tryz.zeroValue80
 t46 := Tryz.underlying160
 a46 := Tryz.isAgg160
 z46 := Tryz.sizeOf160
 v46 := Tryz.zeroValue160
 t51 := Tryz.underlying157
 a51 := Tryz.isAgg157
 z51 := Tryz.sizeOf157
 v51 := Tryz.zeroValue157
 t53 := Tryz.underlying125
 a53 := Tryz.isAgg125
 z53 := Tryz.sizeOf125
 v53 := Tryz.zeroValue125
 t171 := Tryz.underlying143
 a171 := Tryz.isAgg143
 z171 := Tryz.sizeOf143
 v171 := Tryz.zeroValue143
 t173 := Tryz.underlying146
 a173 := Tryz.isAgg146
 z173 := Tryz.sizeOf146
 v173 := Tryz.zeroValue146
 t212 := Tryz.underlying156
 a212 := Tryz.isAgg156
 z212 := Tryz.sizeOf156
 v212 := Tryz.zeroValue156
 t213 := Tryz.underlying158
 a213 := Tryz.isAgg158
 z213 := Tryz.sizeOf158
 t232 := Tryz.underlying173
 a232 := Tryz.isAgg173
 z232 := Tryz.sizeOf173
 v232 := Tryz.zeroValue173
 t233 := Tryz.underlying174
 a233 := Tryz.isAgg174
 z233 := Tryz.sizeOf174
 v233 := Tryz.zeroValue174
 g17 := by kernel_rfl
 g18 := by kernel_rfl
 g19 := by kernel_rfl }
open Go.RowKit Go.Sort Go.Lib in
theorem Tryz.strconv_Itoa_small (i : Nat) (hi : i < 100) (w : World) :
 Calls Tryz.prog 97 #[.int .i64 i] w fun e w' => e = .returned (.string ⟨(Lib.decDigits i).toArray⟩) ∧ w' = w := Any.strconv_Itoa_small Tryz.lays171 i hi w
open Go.RowKit in
theorem Tryz.internal_strconv_Atoi_err (s : ByteArray) (hl0 : 1 ≤ s.size) (hl : s.size ≤ 18) (h : Lib.atoi s.data.toList = none) (w : World) :
 Calls Tryz.prog 142 #[.string s] w fun e w' => e = .returned (.tuple #[.int .i64 0, (.iface 148 (.int .i64 2))]) ∧ (w' = w ∨ ∃ t, w' = Lib.bytesWorld w 5 t) := Any.internal_strconv_Atoi_err Tryz.lays244 s hl0 hl h w
def Tryz.lays247_ren : Go.Shelf.Ren := ⟨fun | 247 => 151 | 287 => 162 | 321 => 167 | 322 => 168 | n => n, fun | 9 => 9 | 3 => 3 | 2 => 2 | 75 => 129 | 4 => 4 | 167 => 148 | 5 => 5 | 53 => 125 | 175 => 162 | 46 => 160 | 37 => 80 | 0 => 0 | 21 => 21 | 80 => 61 | n => n, fun | n => n⟩
theorem Tryz.lays247 : Go.Proofs.Lays.n247 Tryz.prog Tryz.lays247_ren := {
 mixed := by kernel_rfl
 f247 := Tryz.func151.trans (congrArg some (by kernel_rfl))
 f287 := Tryz.func162.trans (congrArg some (by kernel_rfl))
 f321 := Tryz.func167.trans (congrArg some (by kernel_rfl))
 f322 := Tryz.func168.trans (congrArg some (by kernel_rfl))
 t0 := Tryz.underlying0
 a0 := Tryz.isAgg0
 z0 := Tryz.sizeOf0
 v0 := Tryz.zeroValue0
 t2 := Tryz.underlying2
 a2 := Tryz.isAgg2
 z2 := Tryz.sizeOf2
 v2 := Tryz.zeroValue2
 t3 := Tryz.underlying3
 a3 := Tryz.isAgg3
 z3 := Tryz.sizeOf3
 v3 := Tryz.zeroValue3
 t4 := Tryz.underlying4
 a4 := Tryz.isAgg4
 z4 := Tryz.sizeOf4
 v4 := Tryz.zeroValue4
 t5 := Tryz.underlying5
 a5 := Tryz.isAgg5
 z5 := Tryz.sizeOf5
 v5 := Tryz.zeroValue5
 t9 := Tryz.underlying9
 a9 := Tryz.isAgg9
 z9 := Tryz.sizeOf9
 v9 := Tryz.zeroValue9
 t21 := Tryz.underlying21
 a21 := Tryz.isAgg21
 z21 := Tryz.sizeOf21
 v21 := Tryz.zeroValue21
 t37 := Tryz.underlying80
 a37 := Tryz.isAgg80
 z37 := Tryz.sizeOf80
 v37 := Tryz.zeroValue80
 t46 := Tryz.underlying160
 a46 := Tryz.isAgg160
 z46 := Tryz.sizeOf160
 v46 := Tryz.zeroValue160
 t53 := Tryz.underlying125
 a53 := Tryz.isAgg125
 z53 := Tryz.sizeOf125
 v53 := Tryz.zeroValue125
 t75 := Tryz.underlying129
 a75 := Tryz.isAgg129
 z75 := Tryz.sizeOf129
 v75 := Tryz.zeroValue129
 t167 := Tryz.underlying148
 a167 := Tryz.isAgg148
 z167 := Tryz.sizeOf148
 v167 := Tryz.zeroValue148
 t175 := Tryz.underlying162
 a175 := Tryz.isAgg162
 z175 := Tryz.sizeOf162
 v175 := Tryz.zeroValue162 }
open Go.RowKit in
theorem Tryz.internal_strconv_ParseInt_empty (base bits : Int) (w : World) :
 Calls Tryz.prog 151 #[.string ⟨#[]⟩, .int .i64 base, .int .i64 bits] w fun e w' => e = .returned (.tuple #[.int .i64 0, (.iface 148 (.int .i64 2))]) ∧ w' = w := Any.internal_strconv_ParseInt_empty Tryz.lays247 base bits w
open Go.RowKit in
theorem Tryz.internal_strconv_Atoi_empty (w : World) :
 Calls Tryz.prog 142 #[.string ⟨#[]⟩] w fun e w' => e = .returned (.tuple #[.int .i64 0, (.iface 148 (.int .i64 2))]) ∧ w' = w := Any.internal_strconv_Atoi_empty Tryz.lays244 w
open Go.RowKit in
theorem Tryz.internal_strconv_Atoi_fail (s : ByteArray) (hl : s.size ≤ 18) (h : Lib.atoi s.data.toList = none) (w : World) :
 Calls Tryz.prog 142 #[.string s] w fun e w' => e = .returned (.tuple #[.int .i64 0, (.iface 148 (.int .i64 2))]) ∧ (w' = w ∨ ∃ t, w' = Lib.bytesWorld w 5 t) := Any.internal_strconv_Atoi_fail Tryz.lays244 s hl h w
def Tryz.laysM316_ren : Go.Shelf.Ren := ⟨fun | 316 => 163 | n => n, fun | 9 => 9 | 3 => 3 | 4 => 4 | 37 => 80 | 0 => 0 | 127 => 119 | 5 => 5 | n => n, fun | n => n⟩
theorem Tryz.laysM316 : Go.Proofs.LaysM.n316 Tryz.prog Tryz.laysM316_ren := {
 mixed := by kernel_rfl
 f316 := Tryz.func163.trans (congrArg some (by kernel_rfl))
 t0 := Tryz.underlying0
 a0 := Tryz.isAgg0
 z0 := Tryz.sizeOf0
 v0 := Tryz.zeroValue0
 t3 := Tryz.underlying3
 a3 := Tryz.isAgg3
 z3 := Tryz.sizeOf3
 v3 := Tryz.zeroValue3
 t4 := Tryz.underlying4
 a4 := Tryz.isAgg4
 z4 := Tryz.sizeOf4
 v4 := Tryz.zeroValue4
 t9 := Tryz.underlying9
 a9 := Tryz.isAgg9
 z9 := Tryz.sizeOf9
 v9 := Tryz.zeroValue9
 t37 := Tryz.underlying80
 a37 := Tryz.isAgg80
 z37 := Tryz.sizeOf80
 v37 := Tryz.zeroValue80
 t127 := Tryz.underlying119
 a127 := Tryz.isAgg119
 z127 := Tryz.sizeOf119
 v127 := Tryz.zeroValue119
 t5 := Tryz.underlying5
 a5 := Tryz.isAgg5
 z5 := Tryz.sizeOf5
 v5 := Tryz.zeroValue5
 i0 := by kernel_rfl
 i3 := by kernel_rfl
 i4 := by kernel_rfl
 i5 := by kernel_rfl
 i9 := by kernel_rfl
 i37 := by kernel_rfl
 i127 := by kernel_rfl }
open Go.RowKit in
theorem Tryz.stringslite_Clone (s : ByteArray) (w : World) (hlim : s.size ≤ 281474976710656) :
 Calls Tryz.prog 163 #[.string s] w fun e w' => e = .returned (.string s) ∧ Below w.heap.size w w' := Any.stringslite_Clone Tryz.laysM316 s w hlim
def Tryz.laysM279_ren : Go.Shelf.Ren := ⟨fun | 279 => 152 | 316 => 163 | n => n, fun | 9 => 9 | 168 => 151 | 75 => 129 | 210 => 166 | 3 => 3 | 4 => 4 | 37 => 80 | 0 => 0 | 127 => 119 | 80 => 61 | 5 => 5 | n => n, fun | 15 => 2 | n => n⟩
theorem Tryz.laysM279 : Go.Proofs.LaysM.n279 Tryz.prog Tryz.laysM279_ren := {
 mixed := by kernel_rfl
 f279 := Tryz.func152.trans (congrArg some (by kernel_rfl))
 f316 := Tryz.func163.trans (congrArg some (by kernel_rfl))
 t0 := Tryz.underlying0
 a0 := Tryz.isAgg0
 z0 := Tryz.sizeOf0
 v0 := Tryz.zeroValue0
 t3 := Tryz.underlying3
 a3 := Tryz.isAgg3
 z3 := Tryz.sizeOf3
 v3 := Tryz.zeroValue3
 t4 := Tryz.underlying4
 a4 := Tryz.isAgg4
 z4 := Tryz.sizeOf4
 v4 := Tryz.zeroValue4
 t9 := Tryz.underlying9
 a9 := Tryz.isAgg9
 z9 := Tryz.sizeOf9
 v9 := Tryz.zeroValue9
 t37 := Tryz.underlying80
 a37 := Tryz.isAgg80
 z37 := Tryz.sizeOf80
 v37 := Tryz.zeroValue80
 t75 := Tryz.underlying129
 a75 := Tryz.isAgg129
 z75 := Tryz.sizeOf129
 v75 := Tryz.zeroValue129
 t127 := Tryz.underlying119
 a127 := Tryz.isAgg119
 z127 := Tryz.sizeOf119
 v127 := Tryz.zeroValue119
 t168 := Tryz.underlying151
 a168 := Tryz.isAgg151
 z168 := Tryz.sizeOf151
 v168 := Tryz.zeroValue151
 t210 := Tryz.underlying166
 a210 := Tryz.isAgg166
 z210 := Tryz.sizeOf166
 v210 := Tryz.zeroValue166
 g15 := by kernel_rfl
 t5 := Tryz.underlying5
 a5 := Tryz.isAgg5
 z5 := Tryz.sizeOf5
 v5 := Tryz.zeroValue5
 t80 := Tryz.underlying61
 a80 := Tryz.isAgg61
 z80 := Tryz.sizeOf61
 v80 := Tryz.zeroValue61
 i0 := by kernel_rfl
 i3 := by kernel_rfl
 i4 := by kernel_rfl
 i5 := by kernel_rfl
 i9 := by kernel_rfl
 i37 := by kernel_rfl
 i75 := by kernel_rfl
 i80 := by kernel_rfl
 i127 := by kernel_rfl
 i168 := by kernel_rfl
 i210 := by kernel_rfl
 m15 := by kernel_rfl }
open Go.RowKit in
theorem Tryz.strconv_syntaxError (fn s : ByteArray) (ev : Value) (w : World) (hlim : s.size ≤ 281474976710656) (hv : w.cell? ⟨2, 0, none⟩ = some ev) (hev : ev = .nilIface ∨ ∃ te pe, ev = .iface te pe) :
 Calls Tryz.prog 152 #[.string fn, .string s] w fun e w' => ∃ N, e = .returned (.pointer (some ⟨N, 0, none⟩)) ∧ w.heap.size ≤ N ∧ w'.heap[N]? = some (.cells #[.string fn, .string s, ev] 166 (0, 0)) ∧ Below w.heap.size w w' := Any.strconv_syntaxError Tryz.laysM279 fn s ev w hlim hv hev
def Tryz.laysC245_ren : Go.Shelf.Ren := ⟨fun | 245 => 143 | 279 => 152 | 280 => 153 | 281 => 154 | 282 => 155 | 316 => 163 | 171 => 97 | 205 => 164 | 243 => 123 | 246 => 139 | 283 => 145 | 284 => 146 | 285 => 147 | 286 => 148 | 129 => 157 | 317 => 156 | 318 => 158 | 319 => 159 | 320 => 160 | 337 => 165 | 338 => 166 | n => n, fun | 9 => 9 | 3 => 3 | 75 => 129 | 167 => 148 | 4 => 4 | 168 => 151 | 210 => 166 | 37 => 80 | 0 => 0 | 127 => 119 | 145 => 172 | 143 => 170 | 2 => 2 | 171 => 143 | 53 => 125 | 5 => 5 | 173 => 146 | 212 => 156 | 51 => 157 | 20 => 20 | 213 => 158 | 46 => 160 | 232 => 173 | 233 => 174 | 80 => 61 | n => n, fun | 15 => 2 | 16 => 3 | 17 => 1 | 18 => 5 | 19 => 6 | n => n⟩
theorem Tryz.laysC245 : Go.Proofs.LaysC.n245 Tryz.prog Tryz.laysC245_ren := {
 mixed := by kernel_rfl
 f129 := Tryz.func157.trans (congrArg some (by kernel_rfl))
 f171 := Tryz.func97.trans (congrArg some (by kernel_rfl))
 f205 := Tryz.func164.trans (congrArg some (by kernel_rfl))
 f243 := Tryz.func123.trans (congrArg some (by kernel_rfl))
 f245 := Tryz.func143.trans (congrArg some (by kernel_rfl))
 f246 := Tryz.func139.trans (congrArg some (by kernel_rfl))
 f279 := Tryz.func152.trans (congrArg some (by kernel_rfl))
 f280 := Tryz.func153.trans (congrArg some (by kernel_rfl))
 f281 := Tryz.func154.trans (congrArg some (by kernel_rfl))
 f282 := Tryz.func155.trans (congrArg some (by kernel_rfl))
 f283 := Tryz.func145.trans (congrArg some (by kernel_rfl))
 f284 := Tryz.func146.trans (congrArg some (by kernel_rfl))
 f285 := Tryz.func147.trans (congrArg some (by kernel_rfl))
 f286 := Tryz.func148.trans (congrArg some (by kernel_rfl))
 f316 := Tryz.func163.trans (congrArg some (by kernel_rfl))
 f317 := Tryz.func156.trans (congrArg some (by kernel_rfl))
 f318 := Tryz.func158.trans (congrArg some (by kernel_rfl))
 f319 := Tryz.func159.trans (congrArg some (by kernel_rfl))
 f320 := Tryz.func160.trans (congrArg some (by kernel_rfl))
 f337 := Tryz.func165.trans (congrArg some (by kernel_rfl))
 f338 := Tryz.func166.trans (congrArg some (by kernel_rfl))
 t0 := Tryz.underlying0
 a0 := Tryz.isAgg0
 z0 := Tryz.sizeOf0
 v0 := Tryz.zeroValue0
 t2 := Tryz.underlying2
 a2 := Tryz.isAgg2
 z2 := Tryz.sizeOf2
 v2 := Tryz.zeroValue2
 t3 := Tryz.underlying3
 a3 := Tryz.isAgg3
 z3 := Tryz.sizeOf3
 v3 := Tryz.zeroValue3
 t4 := Tryz.underlying4
 a4 := Tryz.isAgg4
 z4 := Tryz.sizeOf4
 v4 := Tryz.zeroValue4
 t5 := Tryz.underlying5
 a5 := Tryz.isAgg5
 z5 := Tryz.sizeOf5
 v5 := Tryz.zeroValue5
 t9 := Tryz.underlying9
 a9 := Tryz.isAgg9
 z9 := Tryz.sizeOf9
 v9 := Tryz.zeroValue9
 t20 := Tryz.underlying20
 a20 := Tryz.isAgg20
 z20 := Tryz.sizeOf20
 v20 := Tryz.zeroValue20
 t37 := Tryz.underlying80
 a37 := Tryz.isAgg80
 z37 := Tryz.sizeOf80
 v37 := Tryz.zeroValue80
 t46 := Tryz.underlying160
 a46 := Tryz.isAgg160
 z46 := Tryz.sizeOf160
 v46 := Tryz.zeroValue160
 t51 := Tryz.underlying157
 a51 := Tryz.isAgg157
 z51 := Tryz.sizeOf157
 v51 := Tryz.zeroValue157
 t53 := Tryz.underlying125
 a53 := Tryz.isAgg125
 z53 := Tryz.sizeOf125
 v53 := Tryz.zeroValue125
 t75 := Tryz.underlying129
 a75 := Tryz.isAgg129
 z75 := Tryz.sizeOf129
 v75 := Tryz.zeroValue129
 t127 := Tryz.underlying119
 a127 := Tryz.isAgg119
 z127 := Tryz.sizeOf119
 v127 := Tryz.zeroValue119
 t143 := Tryz.underlying170
 a143 := Tryz.isAgg170
 z143 := Tryz.sizeOf170
 v143 := Tryz.zeroValue170
 t145 := Tryz.underlying172
 a145 := Tryz.isAgg172
 z145 := Tryz.sizeOf172
 v145 := Tryz.zeroValue172
 t167 := Tryz.underlying148
 a167 := Tryz.isAgg148
 z167 := Tryz.sizeOf148
 v167 := Tryz.zeroValue148
 t168 := Tryz.underlying151
 a168 := Tryz.isAgg151
 z168 := Tryz.sizeOf151
 v168 := Tryz.zeroValue151
 t171 := Tryz.underlying143
 a171 := Tryz.isAgg143
 z171 := Tryz.sizeOf143
 v171 := Tryz.zeroValue143
 t173 := Tryz.underlying146
 a173 := Tryz.isAgg146
 z173 := Tryz.sizeOf146
 v173 := Tryz.zeroValue146
 t210 := Tryz.underlying166
 a210 := Tryz.isAgg166
 z210 := Tryz.sizeOf166
 v210 := Tryz.zeroValue166
 t212 := Tryz.underlying156
 a212 := Tryz.isAgg156
 z212 := Tryz.sizeOf156
 v212 := Tryz.zeroValue156
 t213 := Tryz.underlying158
 a213 := Tryz.isAgg158
 z213 := Tryz.sizeOf158
 t232 := Tryz.underlying173
 a232 := Tryz.isAgg173
 z232 := Tryz.sizeOf173
 v232 := Tryz.zeroValue173
 t233 := Tryz.underlying174
 a233 := Tryz.isAgg174
 z233 := Tryz.sizeOf174
 v233 := Tryz.zeroValue174
 g15 := by kernel_rfl
 g16 := by kernel_rfl
 g17 := by kernel_rfl
 g18 := by kernel_rfl
 g19 := by kernel_rfl
 t80 := Tryz.underlying61
 a80 := Tryz.isAgg61
 z80 := Tryz.sizeOf61
 v80 := Tryz.zeroValue61
 i0 := by kernel_rfl
 i2 := by kernel_rfl
 i3 := by kernel_rfl
 i4 := by kernel_rfl
 i5 := by kernel_rfl
 i9 := by kernel_rfl
 i20 := by kernel_rfl
 i37 := by kernel_rfl
 i46 := by kernel_rfl
 i51 := by kernel_rfl
 i53 := by kernel_rfl
 i75 := by kernel_rfl
 i80 := by kernel_rfl
 i127 := by kernel_rfl
 i143 := by kernel_rfl
 i145 := by kernel_rfl
 i167 := by kernel_rfl
 i168 := by kernel_rfl
 i171 := by kernel_rfl
 i173 := by kernel_rfl
 i210 := by kernel_rfl
 i212 := by kernel_rfl
 i232 := by kernel_rfl
 i233 := by kernel_rfl
 m15 := by kernel_rfl
 m16 := by kernel_rfl
 m17 := by kernel_rfl
 m18 := by kernel_rfl
 m19 := by kernel_rfl
 c0 := by kernel_rfl
 c2 := by kernel_rfl
 c3 := by kernel_rfl
 c4 := by kernel_rfl
 c5 := by kernel_rfl
 c9 := by kernel_rfl
 c20 := by kernel_rfl
 c37 := by kernel_rfl
 c46 := by kernel_rfl
 c51 := by kernel_rfl
 c53 := by kernel_rfl
 c75 := by kernel_rfl
 c80 := by kernel_rfl
 c127 := by kernel_rfl
 c143 := by kernel_rfl
 c145 := by kernel_rfl
 c167 := by kernel_rfl
 c168 := by kernel_rfl
 c171 := by kernel_rfl
 c173 := by kernel_rfl
 c210 := by kernel_rfl
 c212 := by kernel_rfl
 c213 := by kernel_rfl
 c232 := by kernel_rfl
 c233 := by kernel_rfl }
open Go.RowKit in
theorem Tryz.strconv_toError_syntax (fn s : ByteArray) (base bits : Int) (ev : Value) (w : World) (hlim : s.size ≤ 281474976710656) (hv : w.cell? ⟨2, 0, none⟩ = some ev) (hev : ev = .nilIface ∨ ∃ te pe, ev = .iface te pe) :
 Calls Tryz.prog 143 #[.string fn, .string s, .int .i64 base, .int .i64 bits, .iface 148 (.int .i64 2)] w fun e w' => ∃ N, e = .returned (.iface 151 (.pointer (some ⟨N, 0, none⟩))) ∧ w.heap.size ≤ N ∧ w'.heap[N]? = some (.cells #[.string fn, .string s, ev] 166 (0, 0)) ∧ Below w.heap.size w w' := Any.strconv_toError_syntax Tryz.laysC245 fn s base bits ev w hlim hv hev
def Tryz.lays321_ren : Go.Shelf.Ren := ⟨fun | 321 => 167 | n => n, fun | 5 => 5 | n => n, fun | n => n⟩
theorem Tryz.lays321 : Go.Proofs.Lays.n321 Tryz.prog Tryz.lays321_ren := {
 mixed := by kernel_rfl
 f321 := Tryz.func167.trans (congrArg some (by kernel_rfl))
 t5 := Tryz.underlying5
 a5 := Tryz.isAgg5
 z5 := Tryz.sizeOf5
 v5 := Tryz.zeroValue5 }
open Go.RowKit in
theorem Tryz.internal_strconv_lower (c : Int) (w : World) :
 Calls Tryz.prog 167 #[.int .u8 c] w fun e w' => e = .returned (.int .u8 (bits .or .u8 c 32)) ∧ w' = w := Any.internal_strconv_lower Tryz.lays321 c w
def Tryz.lays287_ren : Go.Shelf.Ren := ⟨fun | 287 => 162 | 321 => 167 | 322 => 168 | n => n, fun | 9 => 9 | 3 => 3 | 53 => 125 | 75 => 129 | 4 => 4 | 167 => 148 | 5 => 5 | 46 => 160 | 37 => 80 | 0 => 0 | 21 => 21 | 80 => 61 | n => n, fun | n => n⟩
theorem Tryz.lays287 : Go.Proofs.Lays.n287 Tryz.prog Tryz.lays287_ren := {
 mixed := by kernel_rfl
 f287 := Tryz.func162.trans (congrArg some (by kernel_rfl))
 f321 := Tryz.func167.trans (congrArg some (by kernel_rfl))
 f322 := Tryz.func168.trans (congrArg some (by kernel_rfl))
 t0 := Tryz.underlying0
 a0 := Tryz.isAgg0
 z0 := Tryz.sizeOf0
 v0 := Tryz.zeroValue0
 t3 := Tryz.underlying3
 a3 := Tryz.isAgg3
 z3 := Tryz.sizeOf3
 v3 := Tryz.zeroValue3
 t4 := Tryz.underlying4
 a4 := Tryz.isAgg4
 z4 := Tryz.sizeOf4
 v4 := Tryz.zeroValue4
 t5 := Tryz.underlying5
 a5 := Tryz.isAgg5
 z5 := Tryz.sizeOf5
 v5 := Tryz.zeroValue5
 t9 := Tryz.underlying9
 a9 := Tryz.isAgg9
 z9 := Tryz.sizeOf9
 v9 := Tryz.zeroValue9
 t21 := Tryz.underlying21
 a21 := Tryz.isAgg21
 z21 := Tryz.sizeOf21
 v21 := Tryz.zeroValue21
 t37 := Tryz.underlying80
 a37 := Tryz.isAgg80
 z37 := Tryz.sizeOf80
 v37 := Tryz.zeroValue80
 t46 := Tryz.underlying160
 a46 := Tryz.isAgg160
 z46 := Tryz.sizeOf160
 v46 := Tryz.zeroValue160
 t53 := Tryz.underlying125
 a53 := Tryz.isAgg125
 z53 := Tryz.sizeOf125
 v53 := Tryz.zeroValue125
 t75 := Tryz.underlying129
 a75 := Tryz.isAgg129
 z75 := Tryz.sizeOf129
 v75 := Tryz.zeroValue129
 t167 := Tryz.underlying148
 a167 := Tryz.isAgg148
 z167 := Tryz.sizeOf148
 v167 := Tryz.zeroValue148 }
open Go.RowKit in
theorem Tryz.internal_strconv_ParseUint_10 (t : ByteArray) (hne : t.size ≠ 0) (hmax : t.size ≤ 9223372036854775806) (w : World) :
 Calls Tryz.prog 162 #[.string t, .int .i64 10, .int .i64 0] w fun e w' => e = .returned (Lib.uintTuple 148 (Lib.parseUint10 0 t.data.toList)) ∧ w' = Lib.bytesWorld w 5 t := Any.internal_strconv_ParseUint_10 Tryz.lays287 t hne hmax w
open Go.RowKit in
theorem Tryz.internal_strconv_ParseUint_10_empty (w : World) :
 Calls Tryz.prog 162 #[.string ⟨#[]⟩, .int .i64 10, .int .i64 0] w fun e w' => e = .returned (Lib.uintTuple 148 .syntax) ∧ w' = w := Any.internal_strconv_ParseUint_10_empty Tryz.lays287 w
open Go.RowKit in
theorem Tryz.internal_strconv_ParseUint_10_any (t : ByteArray) (hmax : t.size ≤ 9223372036854775806) (w : World) :
 Calls Tryz.prog 162 #[.string t, .int .i64 10, .int .i64 0] w fun e w' => e = .returned (Lib.uintTuple 148 (Lib.parseMag t.data.toList)) ∧ (w' = w ∨ w' = Lib.bytesWorld w 5 t) := Any.internal_strconv_ParseUint_10_any Tryz.lays287 t hmax w
def Tryz.laysC247_ren : Go.Shelf.Ren := ⟨fun | 247 => 151 | 287 => 162 | 321 => 167 | 322 => 168 | n => n, fun | 9 => 9 | 3 => 3 | 2 => 2 | 75 => 129 | 4 => 4 | 167 => 148 | 5 => 5 | 53 => 125 | 175 => 162 | 46 => 160 | 37 => 80 | 0 => 0 | 21 => 21 | 80 => 61 | n => n, fun | n => n⟩
theorem Tryz.laysC247 : Go.Proofs.LaysC.n247 Tryz.prog Tryz.laysC247_ren := {
 mixed := by kernel_rfl
 f247 := Tryz.func151.trans (congrArg some (by kernel_rfl))
 f287 := Tryz.func162.trans (congrArg some (by kernel_rfl))
 f321 := Tryz.func167.trans (congrArg some (by kernel_rfl))
 f322 := Tryz.func168.trans (congrArg some (by kernel_rfl))
 t0 := Tryz.underlying0
 a0 := Tryz.isAgg0
 z0 := Tryz.sizeOf0
 v0 := Tryz.zeroValue0
 t2 := Tryz.underlying2
 a2 := Tryz.isAgg2
 z2 := Tryz.sizeOf2
 v2 := Tryz.zeroValue2
 t3 := Tryz.underlying3
 a3 := Tryz.isAgg3
 z3 := Tryz.sizeOf3
 v3 := Tryz.zeroValue3
 t4 := Tryz.underlying4
 a4 := Tryz.isAgg4
 z4 := Tryz.sizeOf4
 v4 := Tryz.zeroValue4
 t5 := Tryz.underlying5
 a5 := Tryz.isAgg5
 z5 := Tryz.sizeOf5
 v5 := Tryz.zeroValue5
 t9 := Tryz.underlying9
 a9 := Tryz.isAgg9
 z9 := Tryz.sizeOf9
 v9 := Tryz.zeroValue9
 t21 := Tryz.underlying21
 a21 := Tryz.isAgg21
 z21 := Tryz.sizeOf21
 v21 := Tryz.zeroValue21
 t37 := Tryz.underlying80
 a37 := Tryz.isAgg80
 z37 := Tryz.sizeOf80
 v37 := Tryz.zeroValue80
 t46 := Tryz.underlying160
 a46 := Tryz.isAgg160
 z46 := Tryz.sizeOf160
 v46 := Tryz.zeroValue160
 t53 := Tryz.underlying125
 a53 := Tryz.isAgg125
 z53 := Tryz.sizeOf125
 v53 := Tryz.zeroValue125
 t75 := Tryz.underlying129
 a75 := Tryz.isAgg129
 z75 := Tryz.sizeOf129
 v75 := Tryz.zeroValue129
 t167 := Tryz.underlying148
 a167 := Tryz.isAgg148
 z167 := Tryz.sizeOf148
 v167 := Tryz.zeroValue148
 t175 := Tryz.underlying162
 a175 := Tryz.isAgg162
 z175 := Tryz.sizeOf162
 v175 := Tryz.zeroValue162
 t80 := Tryz.underlying61
 a80 := Tryz.isAgg61
 z80 := Tryz.sizeOf61
 v80 := Tryz.zeroValue61
 i0 := by kernel_rfl
 i2 := by kernel_rfl
 i3 := by kernel_rfl
 i4 := by kernel_rfl
 i5 := by kernel_rfl
 i9 := by kernel_rfl
 i21 := by kernel_rfl
 i37 := by kernel_rfl
 i46 := by kernel_rfl
 i53 := by kernel_rfl
 i75 := by kernel_rfl
 i80 := by kernel_rfl
 i167 := by kernel_rfl
 i175 := by kernel_rfl
 c0 := by kernel_rfl
 c2 := by kernel_rfl
 c3 := by kernel_rfl
 c4 := by kernel_rfl
 c5 := by kernel_rfl
 c9 := by kernel_rfl
 c21 := by kernel_rfl
 c37 := by kernel_rfl
 c46 := by kernel_rfl
 c53 := by kernel_rfl
 c75 := by kernel_rfl
 c80 := by kernel_rfl
 c167 := by kernel_rfl
 c175 := by kernel_rfl }
open Go.RowKit in
theorem Tryz.internal_strconv_ParseInt_10 (s : ByteArray) (hne : s.size ≠ 0) (hmax : s.size ≤ 9223372036854775806) (w : World) :
 Calls Tryz.prog 151 #[.string s, .int .i64 10, .int .i64 0] w fun e w' => e = .returned (Lib.intTuple 148 (Lib.atoiSat s.data.toList) (Lib.atoiAll s.data.toList)) ∧ (w' = w ∨ ∃ t, w' = Lib.bytesWorld w 5 t) := Any.internal_strconv_ParseInt_10 Tryz.laysC247 s hne hmax w
def Tryz.laysC244_ren : Go.Shelf.Ren := ⟨fun | 244 => 142 | 247 => 151 | 287 => 162 | 321 => 167 | 322 => 168 | n => n, fun | 9 => 9 | 3 => 3 | 75 => 129 | 4 => 4 | 5 => 5 | 167 => 148 | 37 => 80 | 0 => 0 | 85 => 149 | 2 => 2 | 53 => 125 | 175 => 162 | 46 => 160 | 21 => 21 | 80 => 61 | n => n, fun | n => n⟩
theorem Tryz.laysC244 : Go.Proofs.LaysC.n244 Tryz.prog Tryz.laysC244_ren := {
 mixed := by kernel_rfl
 f244 := Tryz.func142.trans (congrArg some (by kernel_rfl))
 f247 := Tryz.func151.trans (congrArg some (by kernel_rfl))
 f287 := Tryz.func162.trans (congrArg some (by kernel_rfl))
 f321 := Tryz.func167.trans (congrArg some (by kernel_rfl))
 f322 := Tryz.func168.trans (congrArg some (by kernel_rfl))
 t0 := Tryz.underlying0
 a0 := Tryz.isAgg0
 z0 := Tryz.sizeOf0
 v0 := Tryz.zeroValue0
 t2 := Tryz.underlying2
 a2 := Tryz.isAgg2
 z2 := Tryz.sizeOf2
 v2 := Tryz.zeroValue2
 t3 := Tryz.underlying3
 a3 := Tryz.isAgg3
 z3 := Tryz.sizeOf3
 v3 := Tryz.zeroValue3
 t4 := Tryz.underlying4
 a4 := Tryz.isAgg4
 z4 := Tryz.sizeOf4
 v4 := Tryz.zeroValue4
 t5 := Tryz.underlying5
 a5 := Tryz.isAgg5
 z5 := Tryz.sizeOf5
 v5 := Tryz.zeroValue5
 t9 := Tryz.underlying9
 a9 := Tryz.isAgg9
 z9 := Tryz.sizeOf9
 v9 := Tryz.zeroValue9
 t21 := Tryz.underlying21
 a21 := Tryz.isAgg21
 z21 := Tryz.sizeOf21
 v21 := Tryz.zeroValue21
 t37 := Tryz.underlying80
 a37 := Tryz.isAgg80
 z37 := Tryz.sizeOf80
 v37 := Tryz.zeroValue80
 t46 := Tryz.underlying160
 a46 := Tryz.isAgg160
 z46 := Tryz.sizeOf160
 v46 := Tryz.zeroValue160
 t53 := Tryz.underlying125
 a53 := Tryz.isAgg125
 z53 := Tryz.sizeOf125
 v53 := Tryz.zeroValue125
 t75 := Tryz.underlying129
 a75 := Tryz.isAgg129
 z75 := Tryz.sizeOf129
 v75 := Tryz.zeroValue129
 t85 := Tryz.underlying149
 a85 := Tryz.isAgg149
 z85 := Tryz.sizeOf149
 v85 := Tryz.zeroValue149
 t167 := Tryz.underlying148
 a167 := Tryz.isAgg148
 z167 := Tryz.sizeOf148
 v167 := Tryz.zeroValue148
 t175 := Tryz.underlying162
 a175 := Tryz.isAgg162
 z175 := Tryz.sizeOf162
 v175 := Tryz.zeroValue162
 t80 := Tryz.underlying61
 a80 := Tryz.isAgg61
 z80 := Tryz.sizeOf61
 v80 := Tryz.zeroValue61
 i0 := by kernel_rfl
 i2 := by kernel_rfl
 i3 := by kernel_rfl
 i4 := by kernel_rfl
 i5 := by kernel_rfl
 i9 := by kernel_rfl
 i21 := by kernel_rfl
 i37 := by kernel_rfl
 i46 := by kernel_rfl
 i53 := by kernel_rfl
 i75 := by kernel_rfl
 i80 := by kernel_rfl
 i85 := by kernel_rfl
 i167 := by kernel_rfl
 i175 := by kernel_rfl
 c0 := by kernel_rfl
 c2 := by kernel_rfl
 c3 := by kernel_rfl
 c4 := by kernel_rfl
 c5 := by kernel_rfl
 c9 := by kernel_rfl
 c21 := by kernel_rfl
 c37 := by kernel_rfl
 c46 := by kernel_rfl
 c53 := by kernel_rfl
 c75 := by kernel_rfl
 c80 := by kernel_rfl
 c85 := by kernel_rfl
 c167 := by kernel_rfl
 c175 := by kernel_rfl }
open Go.RowKit in
theorem Tryz.internal_strconv_Atoi_long (s : ByteArray) (h19 : 19 ≤ s.size) (hmax : s.size ≤ 9223372036854775806) (w : World) :
 Calls Tryz.prog 142 #[.string s] w fun e w' => e = .returned (Lib.intTuple 148 (Lib.atoiSat s.data.toList) (Lib.atoiAll s.data.toList)) ∧ (w' = w ∨ ∃ t, w' = Lib.bytesWorld w 5 t) := Any.internal_strconv_Atoi_long Tryz.laysC244 s h19 hmax w
open Go.RowKit in
theorem Tryz.internal_strconv_Atoi_all (s : ByteArray) (hmax : s.size ≤ 9223372036854775806) (w : World) :
 Calls Tryz.prog 142 #[.string s] w fun e w' => e = .returned (Lib.intTuple 148 (Lib.atoiSat s.data.toList) (Lib.atoiAll s.data.toList)) ∧ (w' = w ∨ ∃ t, w' = Lib.bytesWorld w 5 t) := Any.internal_strconv_Atoi_all Tryz.laysC244 s hmax w
def Tryz.laysM280_ren : Go.Shelf.Ren := ⟨fun | 280 => 153 | 316 => 163 | n => n, fun | 9 => 9 | 168 => 151 | 75 => 129 | 210 => 166 | 3 => 3 | 4 => 4 | 37 => 80 | 0 => 0 | 127 => 119 | 80 => 61 | 5 => 5 | n => n, fun | 16 => 3 | n => n⟩
theorem Tryz.laysM280 : Go.Proofs.LaysM.n280 Tryz.prog Tryz.laysM280_ren := {
 mixed := by kernel_rfl
 f280 := Tryz.func153.trans (congrArg some (by kernel_rfl))
 f316 := Tryz.func163.trans (congrArg some (by kernel_rfl))
 t0 := Tryz.underlying0
 a0 := Tryz.isAgg0
 z0 := Tryz.sizeOf0
 v0 := Tryz.zeroValue0
 t3 := Tryz.underlying3
 a3 := Tryz.isAgg3
 z3 := Tryz.sizeOf3
 v3 := Tryz.zeroValue3
 t4 := Tryz.underlying4
 a4 := Tryz.isAgg4
 z4 := Tryz.sizeOf4
 v4 := Tryz.zeroValue4
 t9 := Tryz.underlying9
 a9 := Tryz.isAgg9
 z9 := Tryz.sizeOf9
 v9 := Tryz.zeroValue9
 t37 := Tryz.underlying80
 a37 := Tryz.isAgg80
 z37 := Tryz.sizeOf80
 v37 := Tryz.zeroValue80
 t75 := Tryz.underlying129
 a75 := Tryz.isAgg129
 z75 := Tryz.sizeOf129
 v75 := Tryz.zeroValue129
 t127 := Tryz.underlying119
 a127 := Tryz.isAgg119
 z127 := Tryz.sizeOf119
 v127 := Tryz.zeroValue119
 t168 := Tryz.underlying151
 a168 := Tryz.isAgg151
 z168 := Tryz.sizeOf151
 v168 := Tryz.zeroValue151
 t210 := Tryz.underlying166
 a210 := Tryz.isAgg166
 z210 := Tryz.sizeOf166
 v210 := Tryz.zeroValue166
 g16 := by kernel_rfl
 t5 := Tryz.underlying5
 a5 := Tryz.isAgg5
 z5 := Tryz.sizeOf5
 v5 := Tryz.zeroValue5
 t80 := Tryz.underlying61
 a80 := Tryz.isAgg61
 z80 := Tryz.sizeOf61
 v80 := Tryz.zeroValue61
 i0 := by kernel_rfl
 i3 := by kernel_rfl
 i4 := by kernel_rfl
 i5 := by kernel_rfl
 i9 := by kernel_rfl
 i37 := by kernel_rfl
 i75 := by kernel_rfl
 i80 := by kernel_rfl
 i127 := by kernel_rfl
 i168 := by kernel_rfl
 i210 := by kernel_rfl
 m16 := by kernel_rfl }
open Go.RowKit in
theorem Tryz.strconv_rangeError (fn s : ByteArray) (ev : Value) (w : World) (hlim : s.size ≤ 281474976710656) (hv : w.cell? ⟨3, 0, none⟩ = some ev) (hev : ev = .nilIface ∨ ∃ te pe, ev = .iface te pe) :
 Calls Tryz.prog 153 #[.string fn, .string s] w fun e w' => ∃ N, e = .returned (.pointer (some ⟨N, 0, none⟩)) ∧ w.heap.size ≤ N ∧ w'.heap[N]? = some (.cells #[.string fn, .string s, ev] 166 (0, 0)) ∧ Below w.heap.size w w' := Any.strconv_rangeError Tryz.laysM280 fn s ev w hlim hv hev
open Go.RowKit in
theorem Tryz.strconv_toError_range (fn s : ByteArray) (base bits : Int) (ev : Value) (w : World) (hlim : s.size ≤ 281474976710656) (hv : w.cell? ⟨3, 0, none⟩ = some ev) (hev : ev = .nilIface ∨ ∃ te pe, ev = .iface te pe) :
 Calls Tryz.prog 143 #[.string fn, .string s, .int .i64 base, .int .i64 bits, .iface 148 (.int .i64 1)] w fun e w' => ∃ N, e = .returned (.iface 151 (.pointer (some ⟨N, 0, none⟩))) ∧ w.heap.size ≤ N ∧ w'.heap[N]? = some (.cells #[.string fn, .string s, ev] 166 (0, 0)) ∧ Below w.heap.size w w' := Any.strconv_toError_range Tryz.laysC245 fn s base bits ev w hlim hv hev
def Tryz.laysC172_ren : Go.Shelf.Ren := ⟨fun | 172 => 131 | 244 => 142 | 245 => 143 | 247 => 151 | 279 => 152 | 280 => 153 | 281 => 154 | 282 => 155 | 287 => 162 | 316 => 163 | 171 => 97 | 205 => 164 | 321 => 167 | 322 => 168 | 243 => 123 | 246 => 139 | 283 => 145 | 284 => 146 | 285 => 147 | 286 => 148 | 129 => 157 | 317 => 156 | 318 => 158 | 319 => 159 | 320 => 160 | 337 => 165 | 338 => 166 | n => n, fun | 9 => 9 | 3 => 3 | 75 => 129 | 76 => 130 | 4 => 4 | 5 => 5 | 167 => 148 | 37 => 80 | 0 => 0 | 85 => 149 | 2 => 2 | 168 => 151 | 53 => 125 | 175 => 162 | 46 => 160 | 210 => 166 | 127 => 119 | 145 => 172 | 143 => 170 | 21 => 21 | 171 => 143 | 173 => 146 | 212 => 156 | 51 => 157 | 20 => 20 | 213 => 158 | 232 => 173 | 233 => 174 | 80 => 61 | n => n, fun | 15 => 2 | 16 => 3 | 17 => 1 | 18 => 5 | 19 => 6 | n => n⟩
theorem Tryz.laysC172 : Go.Proofs.LaysC.n172 Tryz.prog Tryz.laysC172_ren := {
 mixed := by kernel_rfl
 f129 := Tryz.func157.trans (congrArg some (by kernel_rfl))
 f171 := Tryz.func97.trans (congrArg some (by kernel_rfl))
 f172 := Tryz.func131.trans (congrArg some (by kernel_rfl))
 f205 := Tryz.func164.trans (congrArg some (by kernel_rfl))
 f243 := Tryz.func123.trans (congrArg some (by kernel_rfl))
 f244 := Tryz.func142.trans (congrArg some (by kernel_rfl))
 f245 := Tryz.func143.trans (congrArg some (by kernel_rfl))
 f246 := Tryz.func139.trans (congrArg some (by kernel_rfl))
 f247 := Tryz.func151.trans (congrArg some (by kernel_rfl))
 f279 := Tryz.func152.trans (congrArg some (by kernel_rfl))
 f280 := Tryz.func153.trans (congrArg some (by kernel_rfl))
 f281 := Tryz.func154.trans (congrArg some (by kernel_rfl))
 f282 := Tryz.func155.trans (congrArg some (by kernel_rfl))
 f283 := Tryz.func145.trans (congrArg some (by kernel_rfl))
 f284 := Tryz.func146.trans (congrArg some (by kernel_rfl))
 f285 := Tryz.func147.trans (congrArg some (by kernel_rfl))
 f286 := Tryz.func148.trans (congrArg some (by kernel_rfl))
 f287 := Tryz.func162.trans (congrArg some (by kernel_rfl))
 f316 := Tryz.func163.trans (congrArg some (by kernel_rfl))
 f317 := Tryz.func156.trans (congrArg some (by kernel_rfl))
 f318 := Tryz.func158.trans (congrArg some (by kernel_rfl))
 f319 := Tryz.func159.trans (congrArg some (by kernel_rfl))
 f320 := Tryz.func160.trans (congrArg some (by kernel_rfl))
 f321 := Tryz.func167.trans (congrArg some (by kernel_rfl))
 f322 := Tryz.func168.trans (congrArg some (by kernel_rfl))
 f337 := Tryz.func165.trans (congrArg some (by kernel_rfl))
 f338 := Tryz.func166.trans (congrArg some (by kernel_rfl))
 t0 := Tryz.underlying0
 a0 := Tryz.isAgg0
 z0 := Tryz.sizeOf0
 v0 := Tryz.zeroValue0
 t2 := Tryz.underlying2
 a2 := Tryz.isAgg2
 z2 := Tryz.sizeOf2
 v2 := Tryz.zeroValue2
 t3 := Tryz.underlying3
 a3 := Tryz.isAgg3
 z3 := Tryz.sizeOf3
 v3 := Tryz.zeroValue3
 t4 := Tryz.underlying4
 a4 := Tryz.isAgg4
 z4 := Tryz.sizeOf4
 v4 := Tryz.zeroValue4
 t5 := Tryz.underlying5
 a5 := Tryz.isAgg5
 z5 := Tryz.sizeOf5
 v5 := Tryz.zeroValue5
 t9 := Tryz.underlying9
 a9 := Tryz.isAgg9
 z9 := Tryz.sizeOf9
 v9 := Tryz.zeroValue9
 t20 := Tryz.underlying20
 a20 := Tryz.isAgg20
 z20 := Tryz.sizeOf20
 v20 := Tryz.zeroValue20
 t21 := Tryz.underlying21
 a21 := Tryz.isAgg21
 z21 := Tryz.sizeOf21
 v21 := Tryz.zeroValue21
 t37 := Tryz.underlying80
 a37 := Tryz.isAgg80
 z37 := Tryz.sizeOf80
 v37 := Tryz.zeroValue80
 t46 := Tryz.underlying160
 a46 := Tryz.isAgg160
 z46 := Tryz.sizeOf160
 v46 := Tryz.zeroValue160
 t51 := Tryz.underlying157
 a51 := Tryz.isAgg157
 z51 := Tryz.sizeOf157
 v51 := Tryz.zeroValue157
 t53 := Tryz.underlying125
 a53 := Tryz.isAgg125
 z53 := Tryz.sizeOf125
 v53 := Tryz.zeroValue125
 t75 := Tryz.underlying129
 a75 := Tryz.isAgg129
 z75 := Tryz.sizeOf129
 v75 := Tryz.zeroValue129
 t76 := Tryz.underlying130
 a76 := Tryz.isAgg130
 z76 := Tryz.sizeOf130
 v76 := Tryz.zeroValue130
 t85 := Tryz.underlying149
 a85 := Tryz.isAgg149
 z85 := Tryz.sizeOf149
 v85 := Tryz.zeroValue149
 t127 := Tryz.underlying119
 a127 := Tryz.isAgg119
 z127 := Tryz.sizeOf119
 v127 := Tryz.zeroValue119
 t143 := Tryz.underlying170
 a143 := Tryz.isAgg170
 z143 := Tryz.sizeOf170
 v143 := Tryz.zeroValue170
 t145 := Tryz.underlying172
 a145 := Tryz.isAgg172
 z145 := Tryz.sizeOf172
 v145 := Tryz.zeroValue172
 t167 := Tryz.underlying148
 a167 := Tryz.isAgg148
 z167 := Tryz.sizeOf148
 v167 := Tryz.zeroValue148
 t168 := Tryz.underlying151
 a168 := Tryz.isAgg151
 z168 := Tryz.sizeOf151
 v168 := Tryz.zeroValue151
 t171 := Tryz.underlying143
 a171 := Tryz.isAgg143
 z171 := Tryz.sizeOf143
 v171 := Tryz.zeroValue143
 t173 := Tryz.underlying146
 a173 := Tryz.isAgg146
 z173 := Tryz.sizeOf146
 v173 := Tryz.zeroValue146
 t175 := Tryz.underlying162
 a175 := Tryz.isAgg162
 z175 := Tryz.sizeOf162
 v175 := Tryz.zeroValue162
 t210 := Tryz.underlying166
 a210 := Tryz.isAgg166
 z210 := Tryz.sizeOf166
 v210 := Tryz.zeroValue166
 t212 := Tryz.underlying156
 a212 := Tryz.isAgg156
 z212 := Tryz.sizeOf156
 v212 := Tryz.zeroValue156
 t213 := Tryz.underlying158
 a213 := Tryz.isAgg158
 z213 := Tryz.sizeOf158
 t232 := Tryz.underlying173
 a232 := Tryz.isAgg173
 z232 := Tryz.sizeOf173
 v232 := Tryz.zeroValue173
 t233 := Tryz.underlying174
 a233 := Tryz.isAgg174
 z233 := Tryz.sizeOf174
 v233 := Tryz.zeroValue174
 g15 := by kernel_rfl
 g16 := by kernel_rfl
 g17 := by kernel_rfl
 g18 := by kernel_rfl
 g19 := by kernel_rfl
 t80 := Tryz.underlying61
 a80 := Tryz.isAgg61
 z80 := Tryz.sizeOf61
 v80 := Tryz.zeroValue61
 i0 := by kernel_rfl
 i2 := by kernel_rfl
 i3 := by kernel_rfl
 i4 := by kernel_rfl
 i5 := by kernel_rfl
 i9 := by kernel_rfl
 i20 := by kernel_rfl
 i21 := by kernel_rfl
 i37 := by kernel_rfl
 i46 := by kernel_rfl
 i51 := by kernel_rfl
 i53 := by kernel_rfl
 i75 := by kernel_rfl
 i76 := by kernel_rfl
 i80 := by kernel_rfl
 i85 := by kernel_rfl
 i127 := by kernel_rfl
 i143 := by kernel_rfl
 i145 := by kernel_rfl
 i167 := by kernel_rfl
 i168 := by kernel_rfl
 i171 := by kernel_rfl
 i173 := by kernel_rfl
 i175 := by kernel_rfl
 i210 := by kernel_rfl
 i212 := by kernel_rfl
 i232 := by kernel_rfl
 i233 := by kernel_rfl
 m15 := by kernel_rfl
 m16 := by kernel_rfl
 m17 := by kernel_rfl
 m18 := by kernel_rfl
 m19 := by kernel_rfl
 c0 := by kernel_rfl
 c2 := by kernel_rfl
 c3 := by kernel_rfl
 c4 := by kernel_rfl
 c5 := by kernel_rfl
 c9 := by kernel_rfl
 c20 := by kernel_rfl
 c21 := by kernel_rfl
 c37 := by kernel_rfl
 c46 := by kernel_rfl
 c51 := by kernel_rfl
 c53 := by kernel_rfl
 c75 := by kernel_rfl
 c76 := by kernel_rfl
 c80 := by kernel_rfl
 c85 := by kernel_rfl
 c127 := by kernel_rfl
 c143 := by kernel_rfl
 c145 := by kernel_rfl
 c167 := by kernel_rfl
 c168 := by kernel_rfl
 c171 := by kernel_rfl
 c173 := by kernel_rfl
 c175 := by kernel_rfl
 c210 := by kernel_rfl
 c212 := by kernel_rfl
 c213 := by kernel_rfl
 c232 := by kernel_rfl
 c233 := by kernel_rfl }
open Go.RowKit in
theorem Tryz.strconv_Atoi_ok (s : ByteArray) (hmax : s.size ≤ 9223372036854775806) (v : Int) (h : Lib.atoiAll s.data.toList = .ok v) (w : World) :
 Calls Tryz.prog 131 #[.string s] w fun e w' => e = .returned (.tuple #[.int .i64 v, .nilIface]) ∧ (w' = w ∨ ∃ t, w' = Lib.bytesWorld w 5 t) := Any.strconv_Atoi_ok Tryz.laysC172 s hmax v h w
open Go.RowKit in
theorem Tryz.strconv_Atoi_syntax (s : ByteArray) (hlim : s.size ≤ 281474976710656) (h : Lib.atoiAll s.data.toList = .«syntax») (ev : Value) (w : World) (hv : w.cell? ⟨2, 0, none⟩ = some ev) (hev : ev = .nilIface ∨ ∃ te pe, ev = .iface te pe) :
 Calls Tryz.prog 131 #[.string s] w fun e w' => ∃ N, e = .returned (.tuple #[.int .i64 (0), .iface 151 (.pointer (some ⟨N, 0, none⟩))]) ∧ w.heap.size ≤ N ∧ w'.heap[N]? = some (.cells #[.string ⟨#[65, 116, 111, 105]⟩, .string s, ev] 166 (0, 0)) ∧ Below w.heap.size w w' := Any.strconv_Atoi_syntax Tryz.laysC172 s hlim h ev w hv hev
open Go.RowKit in
theorem Tryz.strconv_Atoi_range (s : ByteArray) (hlim : s.size ≤ 281474976710656) (h : Lib.atoiAll s.data.toList = .range) (ev : Value) (w : World) (hv : w.cell? ⟨3, 0, none⟩ = some ev) (hev : ev = .nilIface ∨ ∃ te pe, ev = .iface te pe) :
 Calls Tryz.prog 131 #[.string s] w fun e w' => ∃ N, e = .returned (.tuple #[.int .i64 (Lib.atoiSat s.data.toList), .iface 151 (.pointer (some ⟨N, 0, none⟩))]) ∧ w.heap.size ≤ N ∧ w'.heap[N]? = some (.cells #[.string ⟨#[65, 116, 111, 105]⟩, .string s, ev] 166 (0, 0)) ∧ Below w.heap.size w w' := Any.strconv_Atoi_range Tryz.laysC172 s hlim h ev w hv hev
open Go.RowKit in
theorem Tryz.strconv_Atoi_syntax_var (s : ByteArray) (hlim : s.size ≤ 281474976710656) (h : Lib.atoiAll s.data.toList = .«syntax») (tp : TypeId) (p : Value) (w : World) (hvar : w.var? Tryz.prog "strconv.ErrSyntax" = some #[.iface tp p]) :
 Calls Tryz.prog 131 #[.string s] w fun e w' => ∃ N, e = .returned (.tuple #[.int .i64 0, .iface 151 (.pointer (some ⟨N, 0, none⟩))]) ∧ w.heap.size ≤ N ∧ w'.heap[N]? = some (.cells #[.string ⟨#[65, 116, 111, 105]⟩, .string s, .iface tp p] 166 (0, 0)) ∧ Below w.heap.size w w' := Any.strconv_Atoi_syntax_var Tryz.laysC172 s hlim h tp p w hvar
open Go.RowKit in
theorem Tryz.strconv_Atoi_range_var (s : ByteArray) (hlim : s.size ≤ 281474976710656) (h : Lib.atoiAll s.data.toList = .range) (tp : TypeId) (p : Value) (w : World) (hvar : w.var? Tryz.prog "strconv.ErrRange" = some #[.iface tp p]) :
 Calls Tryz.prog 131 #[.string s] w fun e w' => ∃ N, e = .returned (.tuple #[.int .i64 (Lib.atoiSat s.data.toList), .iface 151 (.pointer (some ⟨N, 0, none⟩))]) ∧ w.heap.size ≤ N ∧ w'.heap[N]? = some (.cells #[.string ⟨#[65, 116, 111, 105]⟩, .string s, .iface tp p] 166 (0, 0)) ∧ Below w.heap.size w w' := Any.strconv_Atoi_range_var Tryz.laysC172 s hlim h tp p w hvar
def Tryz.lays217_ren : Go.Shelf.Ren := ⟨fun | 217 => 150 | 266 => 161 | n => n, fun | 9 => 9 | 5 => 5 | 3 => 3 | n => n, fun | n => n⟩
theorem Tryz.lays217 : Go.Proofs.Lays.n217 Tryz.prog Tryz.lays217_ren := {
 mixed := by kernel_rfl
 f217 := Tryz.func150.trans (congrArg some (by kernel_rfl))
 f266 := Tryz.func161.trans (congrArg some (by kernel_rfl))
 t3 := Tryz.underlying3
 a3 := Tryz.isAgg3
 z3 := Tryz.sizeOf3
 v3 := Tryz.zeroValue3
 t5 := Tryz.underlying5
 a5 := Tryz.isAgg5
 z5 := Tryz.sizeOf5
 v5 := Tryz.zeroValue5
 t9 := Tryz.underlying9
 a9 := Tryz.isAgg9
 z9 := Tryz.sizeOf9
 v9 := Tryz.zeroValue9 }
open Go.RowKit Go.Lib in
theorem Tryz.stringslite_IndexByte (s : ByteArray) (c : Int) (w : World) :
 Calls Tryz.prog 150 #[.string s, .int .u8 c] w fun e w' => e = .returned (.int .i64 (Lib.indexByte s.data.toList c.toNat.toUInt8)) ∧ w' = w := Any.stringslite_IndexByte Tryz.lays217 s c w
def Tryz.lays206_ren : Go.Shelf.Ren := ⟨fun | 206 => 149 | n => n, fun | 9 => 9 | 4 => 4 | 3 => 3 | n => n, fun | n => n⟩
theorem Tryz.lays206 : Go.Proofs.Lays.n206 Tryz.prog Tryz.lays206_ren := {
 mixed := by kernel_rfl
 f206 := Tryz.func149.trans (congrArg some (by kernel_rfl))
 t3 := Tryz.underlying3
 a3 := Tryz.isAgg3
 z3 := Tryz.sizeOf3
 v3 := Tryz.zeroValue3
 t4 := Tryz.underlying4
 a4 := Tryz.isAgg4
 z4 := Tryz.sizeOf4
 v4 := Tryz.zeroValue4
 t9 := Tryz.underlying9
 a9 := Tryz.isAgg9
 z9 := Tryz.sizeOf9
 v9 := Tryz.zeroValue9 }
open Go.RowKit Go.Lib in
theorem Tryz.stringslite_HasPrefix (s p : ByteArray) (w : World) :
 Calls Tryz.prog 149 #[.string s, .string p] w fun e w' => e = .returned (.bool (Lib.hasPrefix s.data.toList p.data.toList)) ∧ w' = w := Any.stringslite_HasPrefix Tryz.lays206 s p w
def Tryz.lays99_ren : Go.Shelf.Ren := ⟨fun | 99 => 140 | 206 => 149 | n => n, fun | 9 => 9 | 4 => 4 | 3 => 3 | n => n, fun | n => n⟩
theorem Tryz.lays99 : Go.Proofs.Lays.n99 Tryz.prog Tryz.lays99_ren := {
 mixed := by kernel_rfl
 f99 := Tryz.func140.trans (congrArg some (by kernel_rfl))
 f206 := Tryz.func149.trans (congrArg some (by kernel_rfl))
 t3 := Tryz.underlying3
 a3 := Tryz.isAgg3
 z3 := Tryz.sizeOf3
 v3 := Tryz.zeroValue3
 t4 := Tryz.underlying4
 a4 := Tryz.isAgg4
 z4 := Tryz.sizeOf4
 v4 := Tryz.zeroValue4
 t9 := Tryz.underlying9
 a9 := Tryz.isAgg9
 z9 := Tryz.sizeOf9
 v9 := Tryz.zeroValue9 }
open Go.RowKit Go.Lib in
theorem Tryz.strings_HasPrefix (s p : ByteArray) (w : World) :
 Calls Tryz.prog 140 #[.string s, .string p] w fun e w' => e = .returned (.bool (Lib.hasPrefix s.data.toList p.data.toList)) ∧ w' = w := Any.strings_HasPrefix Tryz.lays99 s p w
end Go.Proofs
namespace Bk
open Go Go.RowKit Go.Proofs
theorem ret_int {k : IntKind} {a b : Int} (h : a = b) : Ending.returned (.int k a) = .returned (.int k b) := by rw [h]
theorem ret_bool {a b : Bool} (h : a = b) : Ending.returned (.bool a) = .returned (.bool b) := by rw [h]
theorem arith_Level_c (k : Int) (w : World) (h0 : 0 ≤ k) (h1 : k ≤ 255) : Calls Tryz.prog 80 #[.int .u8 k] w fun e w' => e = .returned (.int .i64 (level k)) ∧ w = w' := by
 go_enter Tryz.func80, Tryz.ntmps80
 go_wp2_with fail
 all_goals go_ret
 all_goals (refine ⟨ret_int ?_, rfl⟩; (try simp only [beq_iff_eq, beq_eq_false_iff_ne, ne_eq, bne_iff_ne, decide_eq_true_eq, decide_eq_false_iff_not] at *); first | (subst k; rfl) | (unfold level; (repeat' split) <;> omega))
structure Syms (w : World) : Prop where
 sym : ∀ i, i < 43 → w.cell? ⟨0, i, none⟩ = some (str (symbols.getD i []))
theorem Syms.ext {w w' : World} (h : Syms w) (x : Ext w w') : Syms w' := ⟨fun i hi => x.keep (h.sym i hi)⟩
theorem Syms.fr {S : Nat → Prop} {w w' : World} (h : Syms w) (x : Fr S w w') (hs : ∀ k, S k → 0 < k) : Syms w' := ⟨fun i hi => x.keep (fun e => by have := hs _ e; omega) (h.sym i hi)⟩
theorem symbol_out (k : Int) (h : 43 ≤ k) : symbol k = [] := by
 unfold symbol
 rw [List.getD_eq_getElem?_getD, List.getElem?_eq_none (show 43 ≤ k.toNat by omega)]
 rfl
theorem arith_Symbol_s (k : Int) (w : World) (h0 : 0 ≤ k) (h1 : k ≤ 255) (ht : Syms w) : Calls Tryz.prog 66 #[.int .u8 k] w fun e w' => e = .returned (str (symbol k)) ∧ w = w' := by
 by_cases hk : k < 43
 · have g := ht.sym k.toNat (by omega)
   have G : Hid (symbols.getD k.toNat [] = symbol k) := Lib.hid rfl; clear ht
   go_enter Tryz.func66, Tryz.ntmps66
   go_wp2_with fail
   go_ret
   rw [← G.out]
   exact ⟨by simp [go_sem], rfl⟩
 · have hn := symbol_out k (by omega)
   have HN := Lib.hid hn; clear hn ht
   go_enter Tryz.func66, Tryz.ntmps66
   go_wp2_with fail
   go_ret
   rw [HN.out]
   exact ⟨rfl, rfl⟩
end Bk
namespace Bk
open Go Go.RowKit Go.Proofs
theorem letter_c (c : UInt8) (w : World) : Calls Tryz.prog 124 #[.int .u8 c.toNat] w fun e w' => e = .returned (.bool (letter c)) ∧ w = w' := by
 go_enter Tryz.func124, Tryz.ntmps124
 go_wp2_with fail
 all_goals go_ret
 all_goals (refine ⟨ret_bool ?_, rfl⟩; unfold letter; rw [Bool.eq_iff_iff]; simp; try omega)
theorem digit_c (c : UInt8) (w : World) : Calls Tryz.prog 127 #[.int .u8 c.toNat] w fun e w' => e = .returned (.bool (digit c)) ∧ w = w' := by
 go_enter Tryz.func127, Tryz.ntmps127
 go_wp2_with fail
 all_goals go_ret
 all_goals (refine ⟨ret_bool ?_, rfl⟩; unfold digit; rw [Bool.eq_iff_iff]; simp; try omega)
theorem blank_c (c : UInt8) (w : World) : Calls Tryz.prog 128 #[.int .u8 c.toNat] w fun e w' => e = .returned (.bool (blank c)) ∧ w = w' := by
 go_enter Tryz.func128, Tryz.ntmps128
 go_wp2_with fail
 all_goals go_ret
 all_goals (refine ⟨ret_bool ?_, rfl⟩; unfold blank; rw [Bool.eq_iff_iff]; simp; try omega)
theorem notLf_c (c : UInt8) (w : World) : Calls Tryz.prog 129 #[.int .u8 c.toNat] w fun e w' => e = .returned (.bool (notLf c)) ∧ w = w' := by
 go_enter Tryz.func129, Tryz.ntmps129
 go_wp2_with fail
 all_goals go_ret
 all_goals (refine ⟨ret_bool ?_, rfl⟩; unfold notLf; rw [Bool.eq_iff_iff]; simp; try omega)
theorem wordish_c (c : UInt8) (w : World) : Calls Tryz.prog 126 #[.int .u8 c.toNat] w fun e w' => e = .returned (.bool (wordish c)) ∧ w = w' := by
 go_enter Tryz.func126, Tryz.ntmps126
 cases hl : letter c
 all_goals have HL := Lib.hid hl; clear hl
 all_goals go_wp2_with (first | (go_at_call 124; refine (letter_c c _).mono ?_; rintro e w' ⟨rfl, rfl⟩; rw [HL.out]) | (go_at_call 127; refine (digit_c c _).mono ?_; rintro e w' ⟨rfl, rfl⟩))
 all_goals go_ret
 all_goals (refine ⟨ret_bool ?_, rfl⟩; unfold wordish; rw [HL.out]; simp)
theorem span_c (f : FuncId) (p : UInt8 → Bool) (hp : ∀ (c : UInt8) (w : World), Calls Tryz.prog f #[.int .u8 c.toNat] w fun e w' => e = .returned (.bool (p c)) ∧ w = w')
 (he : ∀ args w, (callFunc f args).run Tryz.prog w = .ok (.enter f args) w) (s : List UInt8) (w : World) (hs : s.length ≤ 9223372036854775807) :
 Calls Tryz.prog 125 #[str s, .func (.func f) #[] #[]] w fun e w' => e = .returned (.int .i64 (span p s)) ∧ w = w' := by
 have HP := Lib.hid hp; clear hp
 go_enter Tryz.func125, Tryz.ntmps125
 go_wp2_with fail
 go_loop [8] (fun i => ∃ j : Nat, j ≤ s.length ∧ i = .int .i64 j ∧ Hid (span p s = j + span p (s.drop j))) (fun i => s.length - (intOf i).toNat)
 case atStart => exact ⟨0, Nat.zero_le _, rfl, Lib.hid (by simp)⟩
 case round =>
  obtain ⟨j, hj, rfl, HJ⟩ := hrel
  by_cases hlt : j < s.length
  · go_wp2_with fail
    refine (HP.out s[j] _).mono ?_; rintro e w' ⟨rfl, rfl⟩; have hd := List.drop_eq_getElem_cons hlt
    have hsp : span p (s.drop j) = if p s[j] then 1 + span p (s.drop (j + 1)) else 0 := by
     rw [hd]; unfold span; rw [List.takeWhile_cons]; split <;> simp; omega
    have HSP := Lib.hid hsp; clear hsp hd
    cases hb : p s[j]
    · have HB := Lib.hid hb; clear hb
      go_wp2_with fail
      go_ret
      refine ⟨ret_int ?_, rfl⟩
      rw [HJ.out, HSP.out, HB.out]; simp
    · have HB := Lib.hid hb; clear hb
      go_wp2_with fail
      go_round
      case rel => exact ⟨j + 1, by omega, by go_num, Lib.hid (by rw [HJ.out, HSP.out, HB.out]; simp; omega)⟩
      case measure => simp [intOf]; omega
  · go_wp2_with fail
    go_ret
    refine ⟨ret_int ?_, rfl⟩
    rw [HJ.out, List.drop_eq_nil_of_le (by omega)]; simp [span]; omega
end Bk
namespace Bk
open Go Go.RowKit Go.Proofs
theorem take2_eq (s : List UInt8) (n : Int) (hn : n.toNat = min 2 s.length) : (⟨s.toArray⟩ : ByteArray).extract 0 n.toNat = ⟨(s.take 2).toArray⟩ := by
 apply ByteArray.ext
 rw [hn]; simp only [ByteArray.data_extract]
 apply Array.ext'
 simp only [List.extract_toArray, List.extract_eq_take_drop, Nat.sub_zero, List.drop_zero]
 rcases Nat.le_total 2 s.length with h | h
 · rw [Nat.min_eq_left h]
 · rw [Nat.min_eq_right h, List.take_of_length_le h, List.take_length]
theorem indexByte_ge : ∀ (l : List UInt8) (c : UInt8), -1 ≤ Lib.indexByte l c
 | [], c => by simp [Lib.indexByte]
 | b :: l, c => by
  have := indexByte_ge l c
  unfold Lib.indexByte
  split
  · omega
  · split <;> omega
theorem indexByte_contains : ∀ (l : List UInt8) (c : UInt8), (0 ≤ Lib.indexByte l c) ↔ l.contains c = true
 | [], c => by simp [Lib.indexByte]
 | b :: l, c => by
  have ih := indexByte_contains l c; have hg := indexByte_ge l c
  unfold Lib.indexByte
  rw [List.contains_cons]
  by_cases hb : b = c
  · simp [hb]
  · have hb' : ¬ c = b := fun e => hb e.symm
    simp only [beq_iff_eq, hb, hb', if_false, Bool.or_eq_true, false_or, ← ih]
    split <;> omega
theorem sign_c (c : UInt8) (r : List UInt8) (w : World) (hs : (c :: r).length ≤ 9223372036854775807) :
 Calls Tryz.prog 130 #[str (c :: r)] w fun e w' => e = .returned (.int .i64 (signLen (c :: r))) ∧ w = w' := by
 simp only [List.length_cons] at hs; have hx := take2_eq (c :: r) (min 2 ((r.length : Int) + 1)) (by simp only [List.length_cons]; omega)
 have hsl : signLen (c :: r) = if List.isPrefixOf [60, 61, 62] (c :: r) then 3 else if pairs.contains ((c :: r).take 2) then 2 else if singles.contains c then 1 else 0 := rfl
 have HSL := Lib.hid hsl; clear hsl
 generalize (c :: r).take 2 = t at *
 cases h3 : List.isPrefixOf [60, 61, 62] (c :: r)
 · have H3 := Lib.hid h3; clear h3
   cases hp : pairs.contains t
   · have HP := Lib.hid hp
     simp only [pairs, List.contains_cons, List.contains_nil, Bool.or_eq_false_iff, Bool.or_false] at hp; obtain ⟨p0, p1, p2, p3, p4, p5, p6, p7, p8, p9⟩ := hp
     go_enter Tryz.func130, Tryz.ntmps130
     go_wp2_with (go_at_call 140; refine (Tryz.strings_HasPrefix _ _ _).mono ?_; rintro e w' ⟨rfl, rfl⟩; rw [show Lib.hasPrefix (⟨(c :: r).toArray⟩ : ByteArray).data.toList (⟨#[60, 61, 62]⟩ : ByteArray).data.toList = false from H3.out])
     refine (Tryz.strings_IndexByte _ _ _).mono ?_; rintro e w2 ⟨rfl, rfl⟩
     have e0 : (((c.toNat : Nat) : Int)).toNat.toUInt8 = c := by simp
     have e1 : ∀ h, (((((⟨(c :: r).toArray⟩ : ByteArray)[0]'h).toNat : Nat) : Int)).toNat.toUInt8 = c := fun _ => e0
     rw [e1]; have hi := indexByte_contains singles c; rw [show Lib.indexByte (⟨#[43, 45, 42, 47, 37, 38, 124, 94, 33, 61, 60, 62, 40, 41, 123, 125, 91, 93, 59, 44]⟩ : ByteArray).data.toList c = Lib.indexByte singles c from rfl]
     generalize Lib.indexByte singles c = ix at *
     cases hc : singles.contains c
     · have hlt : ix < 0 := by rw [hc] at hi; simp at hi; omega
       have HC := Lib.hid hc; clear hc hi
       simp only
       go_wp2_with fail
       go_ret
       rw [HSL.out, H3.out, HP.out, HC.out]; exact ⟨rfl, rfl⟩
     · have hge : 0 ≤ ix := hi.2 hc
       have HC := Lib.hid hc; clear hc hi
       simp only
       go_wp2_with fail
       go_ret
       rw [HSL.out, H3.out, HP.out, HC.out]; exact ⟨rfl, rfl⟩
   · go_enter Tryz.func130, Tryz.ntmps130
     go_wp2_with (go_at_call 140; refine (Tryz.strings_HasPrefix _ _ _).mono ?_; rintro e w' ⟨rfl, rfl⟩; rw [show Lib.hasPrefix (⟨(c :: r).toArray⟩ : ByteArray).data.toList (⟨#[60, 61, 62]⟩ : ByteArray).data.toList = false from H3.out])
     all_goals first | (go_ret; rw [HSL.out, H3.out, hp]; exact ⟨rfl, rfl⟩) | (exfalso; simp_all [pairs]; done)
 · have H3 := Lib.hid h3; clear h3
   go_enter Tryz.func130, Tryz.ntmps130
   go_wp2_with (go_at_call 140; refine (Tryz.strings_HasPrefix _ _ _).mono ?_; rintro e w' ⟨rfl, rfl⟩; rw [show Lib.hasPrefix (⟨(c :: r).toArray⟩ : ByteArray).data.toList (⟨#[60, 61, 62]⟩ : ByteArray).data.toList = true from H3.out])
   go_ret
   rw [HSL.out, H3.out]; exact ⟨rfl, rfl⟩
end Bk
namespace Bk
open Go Go.RowKit Go.Proofs
def kwEntries : List (List UInt8) → Nat → List MapEntry
 | [], _ => []
 | k :: r, i => { key := str k, val := .bool true, born := i } :: kwEntries r (i + 1)
def kwMap (ks : List (List UInt8)) : Obj := .map (kwEntries ks 0).toArray ks.length
theorem kwEntries_snoc (ks : List (List UInt8)) (k : List UInt8) : ∀ i, kwEntries (ks ++ [k]) i = kwEntries ks i ++ [{ key := str k, val := .bool true, born := i + ks.length }] := by
 induction ks with
 | nil => intro i; simp [kwEntries]
 | cons x r ih => intro i; simp [kwEntries, ih, Nat.add_assoc, Nat.add_comm 1]
theorem ba_beq (b : ByteArray) (x : List UInt8) : (b == (⟨x.toArray⟩ : ByteArray)) = (b.data.toList == x) := by
 show (b.data == x.toArray) = _
 rw [Bool.eq_iff_iff]; simp
 constructor
 · intro h; rw [h]
 · intro h; rw [← h]
theorem findNow_kw (b : ByteArray) (ks : List (List UInt8)) : ∀ i j, (ks.contains b.data.toList = false → Instr.findNow .string (.string b) (kwEntries ks i) j = some none) ∧
 (ks.contains b.data.toList = true → ∃ n, Instr.findNow .string (.string b) (kwEntries ks i) j = some (some (n, .bool true))) := by
 induction ks with
 | nil => intro i j; simp [kwEntries, Instr.findNow]
 | cons x r ih =>
  intro i j; simp only [kwEntries, Instr.findNow, Instr.sameNow, ba_beq, List.contains_cons]
  cases h : b.data.toList == x
  · simpa using ih (i + 1) (j + 1)
  · simp
theorem push_set (h : Array Obj) (a b : Obj) : (h.push a).setIfInBounds h.size b = h.push b := by
 apply Array.ext'
 simp
theorem underMap : Tryz.prog.underlying 134 = some (.map 9 4) := by kernel_rfl
theorem underStr : Tryz.prog.underlying 9 = some .string := by kernel_rfl
theorem run_kw_ins (w : World) (ks : List (List UInt8)) (b : ByteArray) (h : ks.contains b.data.toList = false) :
 (Instr.mapUpdate 134 (.map (some w.heap.size)) (.string b) (.bool true)).run Tryz.prog (w.alloc (kwMap ks)) = .ok () (w.alloc (kwMap (ks ++ [b.data.toList]))) := by
 have hb : (w.alloc (kwMap ks)).heap[w.heap.size]? = some (.map (kwEntries ks 0).toArray ks.length) := by show (w.heap.push (kwMap ks))[w.heap.size]? = _; simp [kwMap]
 have hf : Instr.findNow .string (.string b) (kwEntries ks 0) 0 = some none := (findNow_kw b ks 0 0).1 h; have hc : (Instr.checkKey false 10000 9 (.string b)).run Tryz.prog (w.alloc (kwMap ks)) = .ok () (w.alloc (kwMap ks)) := MapKept.run_checkKey (k := .string b) underStr (by simp [MapKept.IsKey]) false 9999
 simp [Instr.mapUpdate, run_underlying underMap, MapKept.run_getObj_map hb, hc, MapKept.run_findKey underStr hf, MapKept.run_setObj_map _ hb, Result.andThen]
 show ({ w with heap := (w.heap.push (kwMap ks)).setIfInBounds w.heap.size _ } : World) = { w with heap := w.heap.push _ }
 rw [push_set]
 unfold kwMap
 rw [kwEntries_snoc]
 simp
theorem run_kw_look (w : World) (ks : List (List UInt8)) (b : ByteArray) :
 (Instr.lookup 134 (.map (some w.heap.size)) (.string b) false).run Tryz.prog (w.alloc (kwMap ks)) = .ok (.bool (ks.contains b.data.toList)) (w.alloc (kwMap ks)) := by
 have hb : (w.alloc (kwMap ks)).heap[w.heap.size]? = some (.map (kwEntries ks 0).toArray ks.length) := by show (w.heap.push (kwMap ks))[w.heap.size]? = _; simp [kwMap]
 have hc : ∀ q, (Instr.checkKey q 10000 9 (.string b)).run Tryz.prog (w.alloc (kwMap ks)) = .ok () (w.alloc (kwMap ks)) := fun q => MapKept.run_checkKey (k := .string b) underStr (by simp [MapKept.IsKey]) q 9999
 have hz : (zeroValue 4).run Tryz.prog (w.alloc (kwMap ks)) = .ok (.bool false) (w.alloc (kwMap ks)) := by kernel_rfl
 cases hk : ks.contains b.data.toList
 · have hf := (findNow_kw b ks 0 0).1 hk
   simp [Instr.lookup, run_underlying underMap, MapKept.run_getObj_map hb, hc, MapKept.run_findKey underStr hf, hz, Result.andThen]
 · obtain ⟨n, hf⟩ := (findNow_kw b ks 0 0).2 hk
   simp [Instr.lookup, run_underlying underMap, MapKept.run_getObj_map hb, hc, MapKept.run_findKey underStr hf, Result.andThen]
theorem run_kw_make (w : World) : (Instr.makeMap 134 none).run Tryz.prog w = .ok (.map (some w.heap.size)) (w.alloc (kwMap [])) := run_makeMap _ w
theorem keyword_len (s : List UInt8) (h : keyword s = true) : 2 ≤ s.length ∧ s.length ≤ 7 := by
 have key : ∀ k ∈ keywords, 2 ≤ k.length ∧ k.length ≤ 7 := by decide
 exact key s (by simpa [keyword] using h)
set_option maxRecDepth 100000 in
theorem Keyword_c (s : List UInt8) (w : World) (hs : s.length ≤ 9223372036854775807) :
 Calls Tryz.prog 101 #[str s] w fun e w' => e = .returned (.bool (keyword s)) ∧ Ext w w' := by
 by_cases h2 : s.length < 2 ∨ 7 < s.length
 · have hk : keyword s = false := by
    cases h : keyword s
    · rfl
    · have := keyword_len s h; omega
   have HK := Lib.hid hk; clear hk
   by_cases h3 : s.length < 2
   · have d1 : decide ((s.length : Int) < 2) = true := by simp; omega
     clear h2
     go_enter Tryz.func101, Tryz.ntmps101
     go_wp2_with fail
     go_ret
     rw [HK.out]; exact ⟨rfl, Ext.refl _⟩
   · have d1 : decide ((s.length : Int) < 2) = false := by simp; omega
     have d2 : decide ((7 : Int) < s.length) = true := by simp; omega
     clear h2
     go_enter Tryz.func101, Tryz.ntmps101
     go_wp2_with fail
     go_ret
     rw [HK.out]; exact ⟨rfl, Ext.refl _⟩
 · have d1 : decide ((s.length : Int) < 2) = false := by simp; omega
   have d2 : decide ((7 : Int) < s.length) = false := by simp; omega
   have r1 := run_kw_make; have r2 := run_kw_ins w; have r3 := run_kw_look w
   go_enter Tryz.func101, Tryz.ntmps101
   go_wp2_with fail
   go_ret
   exact ⟨ret_bool (by simp [keyword, keywords]), (by refine Ext.alloc ?_ _; exact Ext.refl _)⟩
end Bk
namespace Bk
open Go Go.RowKit Go.Proofs
theorem en_digit : ∀ args w, (callFunc 127 args).run Tryz.prog w = .ok (.enter 127 args) w := enters_of Tryz.func127 (by kernel_rfl) rfl
theorem en_blank : ∀ args w, (callFunc 128 args).run Tryz.prog w = .ok (.enter 128 args) w := enters_of Tryz.func128 (by kernel_rfl) rfl
theorem en_first1 : ∀ args w, (callFunc 126 args).run Tryz.prog w = .ok (.enter 126 args) w := enters_of Tryz.func126 (by kernel_rfl) rfl
theorem en_first2 : ∀ args w, (callFunc 129 args).run Tryz.prog w = .ok (.enter 129 args) w := enters_of Tryz.func129 (by kernel_rfl) rfl
theorem first_c (c : UInt8) (r : List UInt8) (w : World) (hs : (c :: r).length ≤ 9223372036854775807) :
 Calls Tryz.prog 100 #[str (c :: r)] w fun e w' => e = .returned (.tuple #[.int .u8 (firstTok (c :: r)).1, .int .i64 (firstTok (c :: r)).2]) ∧ w = w' := by
 have hf : firstTok (c :: r) = if letter c then (1, span wordish (c :: r)) else if digit c then (2, span digit (c :: r)) else if blank c then (4, span blank (c :: r)) else if c = 35 then (5, span notLf (c :: r)) else (3, signLen (c :: r)) := rfl
 have HF := Lib.hid hf; clear hf
 have HS := Lib.hid hs; simp only [List.length_cons] at hs
 go_enter Tryz.func100, Tryz.ntmps100
 go_wp2_with fail
 refine (letter_c c _).mono ?_; rintro e w1 ⟨rfl, rfl⟩
 cases hl : letter c
 · have HL := Lib.hid hl; clear hl
   simp only
   go_wp2_with fail
   refine (digit_c c _).mono ?_; rintro e w1 ⟨rfl, rfl⟩
   cases hd : digit c
   · have HD := Lib.hid hd; clear hd
     simp only
     go_wp2_with fail
     refine (blank_c c _).mono ?_; rintro e w1 ⟨rfl, rfl⟩
     cases hb : blank c
     · have HB := Lib.hid hb; clear hb
       simp only
       by_cases h35 : c = 35
       · have H35 := Lib.hid h35
         have e35 : (({ data := (c :: r).toArray } : ByteArray)[0]'(by simp [ByteArray.size])).toNat = 35 := by show c.toNat = 35; rw [h35]; rfl
         clear h35
         go_wp2_with fail
         refine (span_c 129 notLf notLf_c en_first2 _ _ HS.out).mono ?_; rintro e w1 ⟨rfl, rfl⟩; simp only
         go_wp2_with fail
         go_ret2
         rw [HF.out, HL.out, HD.out, HB.out, if_pos H35.out]; exact ⟨rfl, rfl⟩
       · have H35 := Lib.hid h35
         have e35 : ((({ data := (c :: r).toArray } : ByteArray)[0]'(by simp [ByteArray.size])).toNat : Int) ≠ 35 := by
          show (c.toNat : Int) ≠ 35
          intro h; apply h35; apply UInt8.toNat_inj.1; show c.toNat = 35; omega
         clear h35
         go_wp2_with fail
         refine (sign_c c r _ HS.out).mono ?_; rintro e w1 ⟨rfl, rfl⟩; simp only
         go_wp2_with fail
         go_ret2
         rw [HF.out, HL.out, HD.out, HB.out, if_neg H35.out]; exact ⟨rfl, rfl⟩
     · have HB := Lib.hid hb; clear hb
       simp only
       go_wp2_with fail
       refine (span_c 128 blank blank_c en_blank _ _ HS.out).mono ?_; rintro e w1 ⟨rfl, rfl⟩; simp only
       go_wp2_with fail
       go_ret2
       rw [HF.out, HL.out, HD.out, HB.out]; exact ⟨rfl, rfl⟩
   · have HD := Lib.hid hd; clear hd
     simp only
     go_wp2_with fail
     refine (span_c 127 digit digit_c en_digit _ _ HS.out).mono ?_; rintro e w1 ⟨rfl, rfl⟩; simp only
     go_wp2_with fail
     go_ret2
     rw [HF.out, HL.out, HD.out]; exact ⟨rfl, rfl⟩
 · have HL := Lib.hid hl; clear hl
   simp only
   go_wp2_with fail
   refine (span_c 126 wordish wordish_c en_first1 _ _ HS.out).mono ?_; rintro e w1 ⟨rfl, rfl⟩; simp only
   go_wp2_with fail
   go_ret2
   rw [HF.out, HL.out]; exact ⟨rfl, rfl⟩
theorem Name_c (s : List UInt8) (w : World) (hs : s.length ≤ 9223372036854775807) :
 Calls Tryz.prog 59 #[str s] w fun e w' => e = .returned (.bool (isName s)) ∧ Ext w w' := by
 cases s with
 | nil =>
  go_enter Tryz.func59, Tryz.ntmps59
  go_wp2_with fail
  go_ret
  exact ⟨rfl, Ext.refl _⟩
 | cons c r =>
  have hn : isName (c :: r) = (decide ((c :: r).length ≤ 16) && ((firstTok (c :: r)).1 == 1) && ((firstTok (c :: r)).2 == (c :: r).length) && !keyword (c :: r)) := by simp [isName]
  have HN := Lib.hid hn; clear hn
  have HS := Lib.hid hs; simp only [List.length_cons] at hs
  by_cases h16 : 16 < (c :: r).length
  · simp only [List.length_cons] at h16
    have d1 : decide ((16 : Int) < (r.length : Int) + 1) = true := by simp; omega
    have H16 := Lib.hid h16; clear h16
    go_enter Tryz.func59, Tryz.ntmps59
    go_wp2_with fail
    go_ret
    rw [HN.out]
    exact ⟨ret_bool (by have := H16.out; simp; omega), Ext.refl _⟩
  · simp only [List.length_cons] at h16
    have d1 : decide ((16 : Int) < (r.length : Int) + 1) = false := by simp; omega
    go_enter Tryz.func59, Tryz.ntmps59
    go_wp2_with fail
    refine (first_c c r _ HS.out).mono ?_; rintro e w1 ⟨rfl, rfl⟩
    generalize firstTok (c :: r) = ft at *
    obtain ⟨k, n⟩ := ft
    by_cases hk : k = 1
    · by_cases hl : n = (c :: r).length
      · subst hk hl
        simp only [List.length_cons]
        go_wp2_with fail
        refine (Keyword_c _ _ HS.out).mono ?_; rintro e w2 ⟨rfl, hx⟩; simp only
        go_wp2_with fail
        go_ret
        rw [HN.out]
        exact ⟨ret_bool (by simp; omega), hx⟩
      · subst hk
        have dl : ((n : Int) == (r.length : Int) + 1) = false := by simp only [List.length_cons] at hl; rw [beq_eq_false_iff_ne]; omega
        have HL := Lib.hid hl; clear hl
        simp only
        go_wp2_with fail
        go_ret
        rw [HN.out]
        exact ⟨ret_bool (by have := HL.out; simp at this ⊢; simp [this]), Ext.refl _⟩
    · have dk : ((k : Int) == 1) = false := by rw [beq_eq_false_iff_ne]; omega
      have HK := Lib.hid hk; clear hk
      simp only
      go_wp2_with fail
      go_ret
      rw [HN.out]
      exact ⟨ret_bool (by have := HK.out; simp [this]), Ext.refl _⟩
end Bk
namespace Bk
open Go Go.RowKit Go.Proofs
attribute [local irreducible] Go.Calls
theorem peek_len {c : PC} {σ : PS} {w : World} (hP : PP c σ w) : (peekP c.ts σ).text.length ≤ 1000000 := by
 by_cases h : σ.err ≠ 0 ∨ σ.at_ = c.ts.length
 · rw [peek_off h]; simp [Tok.zero]
 · have hlt : σ.at_ < c.ts.length := by have : σ.at_ ≠ c.ts.length := fun e => h (Or.inr e); have := hP.at_; omega
   rw [peek_is h hlt]
   exact hP.tok _ (List.getElem_mem hlt)
def TreeR (c : PC) (w : World) (r : Nd × PS) : Ending → World → Prop := fun e w' => ∃ a k, e = .returned (r.1.val a k) ∧ r.1.sits (fun b => w.heap.size ≤ b ∧ b < w'.heap.size) w' a ∧ PP c r.2 w' ∧ Fr (· = c.pb) w w'
theorem tree_ret {c : PC} {w w' : World} {r : Nd × PS} {a : Option Addr} {k : Nat} (hs : r.1.sits (w.heap.size ≤ ·) w' a) (hP : PP c r.2 w') (X : Fr (· = c.pb) w w') : TreeR c w r (.returned (r.1.val a k)) w' :=
 ⟨a, k, rfl, sits_lt2 _ _ hs, hP, X⟩
theorem TreeR.ret {c : PC} {w : World} {r : Nd × PS} {e : Ending} {w' : World} (h : TreeR c w r e w') : ∃ v, e = .returned v := by
 obtain ⟨_, _, h, -⟩ := h
 exact ⟨_, h⟩
set_option maxRecDepth 100000 in
set_option maxHeartbeats 1000000 in
theorem name_c (c : PC) (σ : PS) (w : World) (hP : PP c σ w) :
 Calls Tryz.prog 105 #[.pointer (some ⟨c.pb, 0, none⟩)] w fun r w' => r = .returned (str (nameP c.ts c.n σ).1) ∧ PP c (nameP c.ts c.n σ).2 w' ∧ Fr (· = c.pb) w w' := by
 have X := Fr.refl (· = c.pb) w; have hl := hP.len; have hpl := peek_len hP; have hpb := hP.pbB; have hB := hP.B
 cases h : isName (peekP c.ts σ).text
 · rw [show nameP c.ts c.n σ = ([], unexpP c.ts c.n σ) from by simp [nameP, h]]
   refine calls_in Tryz.func105 Tryz.ntmps105 rfl rfl ?_
   focus
    refine cS (cA rfl rfl (cN (cM rfl rfl ?_))); refine cC (by kernel_rfl) rfl (peek_c _ _ _ (by assumption)) rfl ?_; rintro _ w2 ⟨⟨⟩, x1⟩; have z3 := x1.size; replace hP := hP.ext x1; replace X := X.ext x1; clear x1; (refine lw_alloc' [_, _, _] zOk rfl rfl ?_; intro b4 w5 n6); (refine lw_init' [_, _, _] tabOk rfl rfl rfl rfl rfl rfl n6 rfl ?_; clear n6; clear w5; intro w7 n6); have h8 := n6.blk; have x9 := n6.ext; have p10 := n6.pos; have z11 := n6.size; clear n6; replace hP := hP.ext x9; replace X := X.ext x9; clear x9; refine cT (cw_seq (cS (lw_pure (pur_fieldAddr tabOk rfl rfl rfl) rfl (lw_load_b tabOk rfl rfl rfl h8 rfl rfl ?_)))); refine cC (by kernel_rfl) rfl (Name_c _ _ (by omega)) rfl ?_; rintro _ w13 ⟨⟨⟩, x12⟩; have z14 := x12.size; replace h8 := h8.ext x12; replace hP := hP.ext x12; replace X := X.ext x12; clear x12; refine lw_pure (pur_not rfl) rfl (cT ?_); refine cw_nt rfl (by assumption) ?_; refine cS (cM rfl rfl ?_); refine cC (by kernel_rfl) rfl (unexpected_c _ _ _ (by assumption)) rfl ?_; rintro _ w17 ⟨⟨⟩, ⟨h15, f16⟩⟩; have z18 := f16.size; replace h8 := h8.fr f16 (by omega); clear hP; replace X := X.fr f16 (by omega); clear f16; refine cN (cA rfl rfl (cT (cw_ret (qw_then_ret (qw_ret1 rfl rfl ?_))))); rotate_left 1
   exact ⟨rfl, by assumption, X⟩
 · rw [show nameP c.ts c.n σ = ((peekP c.ts σ).text, nextP σ) from by simp [nameP, h]]
   obtain ⟨h2, h3⟩ := peek_in hP.at_ (Or.inl (isName_ne h)); refine calls_in Tryz.func105 Tryz.ntmps105 rfl rfl ?_
   focus
    refine cS (cA rfl rfl (cN (cM rfl rfl ?_))); refine cC (by kernel_rfl) rfl (peek_c _ _ _ (by assumption)) rfl ?_; rintro _ wa2 ⟨⟨⟩, xa1⟩; have za3 := xa1.size; replace hP := hP.ext xa1; replace X := X.ext xa1; clear xa1; (refine lw_alloc' [_, _, _] zOk rfl rfl ?_; intro ba4 wa5 na6); (refine lw_init' [_, _, _] tabOk rfl rfl rfl rfl rfl rfl na6 rfl ?_; clear na6; clear wa5; intro wa7 na6); have ha8 := na6.blk; have xa9 := na6.ext; have pa10 := na6.pos; have za11 := na6.size; clear na6; replace hP := hP.ext xa9; replace X := X.ext xa9; clear xa9; refine cT (cw_seq (cS (lw_pure (pur_fieldAddr tabOk rfl rfl rfl) rfl (lw_load_b tabOk rfl rfl rfl ha8 rfl rfl ?_)))); refine cC (by kernel_rfl) rfl (Name_c _ _ (by omega)) rfl ?_; rintro _ wa13 ⟨⟨⟩, xa12⟩; have za14 := xa12.size; replace ha8 := ha8.ext xa12; replace hP := hP.ext xa12; replace X := X.ext xa12; clear xa12; refine lw_pure (pur_not rfl) rfl (cT ?_); refine cw_nf rfl (by assumption) ?_; refine cw_skip (qw_then (cS (cM rfl rfl (lw_pure (pur_nilCheck rfl) rfl (lw_pure (pur_fieldAddr tabOk rfl rfl rfl) rfl (lw_load_b tabOk rfl rfl rfl (PP.blk hP) rfl rfl ?_)))))); refine lw_pure (pur_add rfl rfl (IntWalk.i64_in _ (by omega))) rfl ?_; refine lw_pure (pur_nilCheck rfl) rfl (lw_pure (pur_fieldAddr tabOk rfl rfl rfl) rfl ?_); refine lw_pp_at tabOk rfl rfl rfl rfl (by assumption) h3 ?_; rintro wa15 ha16 fa17; have za18 := fa17.size; replace ha8 := ha8.fr fa17 (by omega); clear hP; replace X := X.fr fa17 (by omega); clear fa17; refine cN (lw_pure (pur_fieldAddr tabOk rfl rfl rfl) rfl (lw_load_b tabOk rfl rfl rfl ha8 rfl rfl (cA rfl rfl (cT (cw_ret (qw_ret1 rfl rfl ?_))))))
    rotate_left 1
   exact ⟨rfl, by assumption, X⟩
set_option maxRecDepth 100000 in
set_option maxHeartbeats 1000000 in
theorem argument_c (c : PC) (σ : PS) (w : World) (hP : PP c σ w) :
 Calls Tryz.prog 118 #[.pointer (some ⟨c.pb, 0, none⟩)] w (TreeR c w (argP c.ts c.n σ)) := by
 have X := Fr.refl (· = c.pb) w; have hpb := hP.pbB; have hB := hP.B; refine calls_in Tryz.func118 Tryz.ntmps118 rfl rfl ?_
 focus
  refine cS ?_; (refine lw_alloc' [_, _, _, _] zOk rfl rfl ?_; intro b1 w2 n3); have h5 := n3.blk; have x6 := n3.ext; have p7 := n3.pos; have z8 := n3.size; clear n3; replace hP := hP.ext x6; replace X := X.ext x6; clear x6; refine cN (cM rfl rfl ?_); refine cC (by kernel_rfl) rfl (name_c _ _ _ (by assumption)) rfl ?_; rintro _ w11 ⟨⟨⟩, ⟨h9, f10⟩⟩; have z12 := f10.size; replace h5 := h5.fr f10 (by omega); clear hP; replace X := X.fr f10 (by omega); clear f10; refine lw_pure (pur_build' [_, _, _, _] tabOk zOk rfl rfl rfl rfl) rfl ?_; (refine lw_store' [_, _, _, _] [_, _, _, _] tabOk rfl rfl rfl rfl rfl rfl h5 rfl rfl ?_; intro w13 n14); have h17 := n14.blk; have f15 := n14.fr; have z16 := n14.size; clear n14 h5; replace h9 := h9.fr f15 (by omega); replace X := X.fr f15 (by omega); clear f15; refine cT (cw_ret (qw_retc rfl tabOk rfl rfl rfl h17 rfl ?_)); rotate_left 1
 exact tree_ret sits_nil (by assumption) X
set_option maxRecDepth 100000 in
set_option maxHeartbeats 1000000 in
theorem stackExpr_c (c : PC) (σ : PS) (kind : Int) (w : World) (hP : PP c σ w) :
 Calls Tryz.prog 132 #[.pointer (some ⟨c.pb, 0, none⟩), .int .u8 kind] w (TreeR c w (.mk kind 0 (nameP c.ts c.n (expectP c.ts c.n σ [40])).1 [], expectP c.ts c.n (nameP c.ts c.n (expectP c.ts c.n σ [40])).2 [41])) := by
 have X := Fr.refl (· = c.pb) w; have hpb := hP.pbB; have hB := hP.B; refine calls_in Tryz.func132 Tryz.ntmps132 rfl rfl ?_
 focus
  refine cS ?_; (refine lw_alloc' [_, _, _, _] zOk rfl rfl ?_; intro b1 w2 n3); have h5 := n3.blk; have x6 := n3.ext; have p7 := n3.pos; have z8 := n3.size; clear n3; replace hP := hP.ext x6; replace X := X.ext x6; clear x6; refine cN (cM rfl rfl ?_); refine cC (by kernel_rfl) rfl (expect_c _ _ _ _ (by assumption) (by decide)) rfl ?_; rintro _ w11 ⟨⟨⟩, ⟨h9, f10⟩⟩; have z12 := f10.size; replace h5 := h5.fr f10 (by omega); clear hP; replace X := X.fr f10 (by omega); clear f10; refine cN (cM rfl rfl (cM rfl rfl ?_)); refine cC (by kernel_rfl) rfl (name_c _ _ _ (by assumption)) rfl ?_; rintro _ w15 ⟨⟨⟩, ⟨h13, f14⟩⟩; have z16 := f14.size; clear h9; replace h5 := h5.fr f14 (by omega); replace X := X.fr f14 (by omega); clear f14; refine lw_pure (pur_build' [_, _, _, _] tabOk zOk rfl rfl rfl rfl) rfl ?_; (refine lw_alloc' [_, _, _, _] zOk rfl rfl ?_; intro b17 w18 n19); (refine lw_init' [_, _, _, _] tabOk rfl rfl rfl rfl rfl rfl n19 rfl ?_; clear n19; clear w18; intro w20 n19); have h21 := n19.blk; have x22 := n19.ext; have p23 := n19.pos; have z24 := n19.size; clear n19; replace h13 := h13.ext x22; replace h5 := h5.ext x22; replace X := X.ext x22; clear x22; refine cN (cM rfl rfl ?_); refine cC (by kernel_rfl) rfl (expect_c _ _ _ _ (by assumption) (by decide)) rfl ?_; rintro _ w27 ⟨⟨⟩, ⟨h25, f26⟩⟩; have z28 := f26.size; replace h21 := h21.fr f26 (by omega); clear h13; replace h5 := h5.fr f26 (by omega); replace X := X.fr f26 (by omega); clear f26; refine cN (lw_loads_b' [_, _, _, _] tabOk rfl rfl rfl h21 rfl rfl rfl ?_)
  (refine lw_store' [_, _, _, _] [_, _, _, _] tabOk rfl rfl rfl rfl rfl rfl h5 rfl rfl ?_; intro w29 n30); have h33 := n30.blk; have f31 := n30.fr; have z32 := n30.size; clear n30 h5; replace h25 := h25.fr f31 (by omega); replace h21 := h21.fr f31 (by omega); replace X := X.fr f31 (by omega); clear f31; refine cT (cw_ret (qw_retc rfl tabOk rfl rfl rfl h33 rfl ?_)); rotate_left 1
 exact tree_ret sits_nil (by assumption) X
end Bk
namespace Bk
def digitsFrom (a : Nat) (s : List UInt8) : Nat := s.foldl (fun a c => a * 10 + (c.toNat - 48)) a
theorem digitsFrom_le (s : List UInt8) : ∀ a, a ≤ digitsFrom a s := by
 induction s with
 | nil => intro a; exact Nat.le_refl _
 | cons c r ih => intro a; have := ih (a * 10 + (c.toNat - 48)); simp only [digitsFrom, List.foldl_cons] at this ⊢; omega
theorem digitsFrom_append (a : Nat) (s t : List UInt8) : digitsFrom a (s ++ t) = digitsFrom (digitsFrom a s) t := by simp [digitsFrom]
theorem digitsFrom_snoc (a : Nat) (s : List UInt8) (c : UInt8) : digitsFrom a (s ++ [c]) = digitsFrom a s * 10 + (c.toNat - 48) := by simp [digitsFrom]
end Bk
namespace Bk
open Go Go.RowKit Go.Proofs
attribute [local irreducible] Go.Calls
theorem parseUint_digits : ∀ (s : List UInt8) (a : Nat), a < 18446744073709551616 → (∀ c ∈ s, digit c = true) →
 (Lib.parseUint10 a s = .ok (digitsFrom a s) ∧ digitsFrom a s < 18446744073709551616) ∨ (Lib.parseUint10 a s = .range ∧ 18446744073709551616 ≤ digitsFrom a s)
 | [], a, ha, _ => Or.inl ⟨rfl, ha⟩
 | c :: r, a, ha, hd => by
  have hc := hd c List.mem_cons_self; simp only [digit, Bool.and_eq_true, decide_eq_true_eq] at hc
  have hr : ∀ x ∈ r, digit x = true := fun x hx => hd x (List.mem_cons_of_mem _ hx)
  have hle := digitsFrom_le r (a * 10 + (c.toNat - 48)); have he : digitsFrom a (c :: r) = digitsFrom (a * 10 + (c.toNat - 48)) r := rfl; rw [he]; simp only [Lib.parseUint10, hc, and_self, if_true]
  by_cases h1 : 1844674407370955162 ≤ a
  · rw [if_pos h1]; exact Or.inr ⟨rfl, by omega⟩
  · rw [if_neg h1]
    by_cases h2 : 18446744073709551616 ≤ a * 10 + (c.toNat - 48)
    · rw [if_pos h2]; exact Or.inr ⟨rfl, by omega⟩
    · rw [if_neg h2]
      exact parseUint_digits r _ (by omega) hr
theorem atoi_digits (s : List UInt8) (hs : s ≠ []) (hd : ∀ c ∈ s, digit c = true) :
 Lib.atoiAll s = if (digitsVal s : Int) ≤ 9223372036854775807 then .ok (digitsVal s) else .range := by
 cases s with
 | nil => exact absurd rfl hs
 | cons c r =>
  have hc := hd c List.mem_cons_self; simp only [digit, Bool.and_eq_true, decide_eq_true_eq] at hc
  have n45 : ¬ c.toNat = 45 := by omega
  have n43 : ¬ c.toNat = 43 := by omega
  have e : digitsVal (c :: r) = digitsFrom 0 (c :: r) := rfl; rw [e]
  have hm : Lib.parseMag (c :: r) = Lib.parseUint10 0 (c :: r) := by simp [Lib.parseMag]
  unfold Lib.atoiAll
  simp only [n45, n43, or_self, if_false, hm, not_false_eq_true, true_and, false_and]
  rcases parseUint_digits (c :: r) 0 (by omega) hd with ⟨h1, h2⟩ | ⟨h1, h2⟩
  · rw [h1]
    simp only
    by_cases h : 9223372036854775808 ≤ digitsFrom 0 (c :: r)
    · rw [if_pos h, if_neg (by omega)]
    · rw [if_neg h, if_pos (by omega)]
  · rw [h1, if_neg (by omega)]
theorem Ext.bytes (w : World) (e : TypeId) (s : ByteArray) : Ext w (Lib.bytesWorld w e s) := Lib.bytesWorld_below w e s
theorem Atoi_ok (s : List UInt8) (w : World) (hs : s ≠ []) (hd : ∀ c ∈ s, digit c = true) (hl : s.length ≤ 1000000) (h : (digitsVal s : Int) ≤ 9223372036854775807) :
 Calls Tryz.prog 131 #[str s] w fun e w' => e = .returned (.tuple #[.int .i64 (digitsVal s), .nilIface]) ∧ Ext w w' := by
 have ha := atoi_digits s hs hd; rw [if_pos h] at ha; refine (Tryz.strconv_Atoi_ok ⟨s.toArray⟩ (by rw [ba_size]; omega) (digitsVal s) (by simpa using ha) w).mono ?_; rintro e w' ⟨rfl, rfl | ⟨t, rfl⟩⟩
 · exact ⟨rfl, Ext.refl _⟩
 · exact ⟨rfl, Ext.bytes _ _ _⟩
theorem Atoi_range (s : List UInt8) (w : World) (hs : s ≠ []) (hd : ∀ c ∈ s, digit c = true) (hl : s.length ≤ 1000000) (h : ¬ (digitsVal s : Int) ≤ 9223372036854775807) (he : Errs w) :
 Calls Tryz.prog 131 #[str s] w fun e w' => ∃ te pe, e = .returned (.tuple #[.int .i64 9223372036854775807, .iface te pe]) ∧ Ext w w' := by
 have ha := atoi_digits s hs hd; rw [if_neg h] at ha; obtain ⟨te, pe, hv⟩ := he.ex; refine (Tryz.strconv_Atoi_range ⟨s.toArray⟩ (by rw [ba_size]; omega) (by simpa using ha) (.iface te pe) w hv (Or.inr ⟨te, pe, rfl⟩)).mono ?_; rintro e w' ⟨N, rfl, -, -, hb⟩
 have : Lib.atoiSat (⟨s.toArray⟩ : ByteArray).data.toList = 9223372036854775807 := by
  cases s with
  | nil => exact absurd rfl hs
  | cons c r =>
   have hc := hd c List.mem_cons_self; simp only [digit, Bool.and_eq_true, decide_eq_true_eq] at hc
   simp [Lib.atoiSat]; omega
 rw [this]
 exact ⟨_, _, rfl, hb⟩
theorem peek_tok {c : PC} {σ : PS} {w : World} (hP : PP c σ w) (h : (peekP c.ts σ).kind = 2) : (peekP c.ts σ).text ≠ [] ∧ ∀ x ∈ (peekP c.ts σ).text, digit x = true := by
 by_cases h' : σ.err ≠ 0 ∨ σ.at_ = c.ts.length
 · rw [peek_off h'] at h; simp [Tok.zero] at h
 · have hlt : σ.at_ < c.ts.length := by have : σ.at_ ≠ c.ts.length := fun e => h' (Or.inr e); have := hP.at_; omega
   rw [peek_is h' hlt] at h ⊢
   exact hP.num _ (List.getElem_mem hlt) h
set_option maxRecDepth 100000 in
set_option maxHeartbeats 1000000 in
theorem number_c (c : PC) (σ : PS) (least most : Int) (w : World) (hP : PP c σ w) (h0 : -1 ≤ least) :
 Calls Tryz.prog 106 #[.pointer (some ⟨c.pb, 0, none⟩), .int .i64 least, .int .i64 most] w fun r w' => r = .returned (.int .i64 (numberP c.ts c.n least most σ).1) ∧ PP c (numberP c.ts c.n least most σ).2 w' ∧ Fr (· = c.pb) w w' := by
 have X := Fr.refl (· = c.pb) w; have hl := hP.len; have hpl := peek_len hP; have hpb := hP.pbB; have hB := hP.B
 by_cases hk : (peekP c.ts σ).kind = 2
 · obtain ⟨h2, h3⟩ := peek_in hP.at_ (Or.inr (show (peekP c.ts σ).kind ≠ 0 by omega))
   obtain ⟨d1, d2⟩ := peek_tok hP hk
   by_cases hr : (digitsVal (peekP c.ts σ).text : Int) ≤ 9223372036854775807
   · by_cases hr2 : least ≤ (digitsVal (peekP c.ts σ).text : Int) ∧ (digitsVal (peekP c.ts σ).text : Int) ≤ most
     · obtain ⟨r1, r2⟩ := hr2
       rw [show numberP c.ts c.n least most σ = ((digitsVal (peekP c.ts σ).text : Int), nextP σ) from by simp [numberP, hk, hr, r1, r2]]; refine calls_in Tryz.func106 Tryz.ntmps106 rfl rfl ?_
       focus
        refine cS (cA rfl rfl (cN (cM rfl rfl ?_))); refine cC (by kernel_rfl) rfl (peek_c _ _ _ (by assumption)) rfl ?_; rintro _ w2 ⟨⟨⟩, x1⟩; have z3 := x1.size; replace hP := hP.ext x1; replace X := X.ext x1; clear x1; (refine lw_alloc' [_, _, _] zOk rfl rfl ?_; intro b4 w5 n6); (refine lw_init' [_, _, _] tabOk rfl rfl rfl rfl rfl rfl n6 rfl ?_; clear n6; clear w5; intro w7 n6); have h8 := n6.blk; have x9 := n6.ext; have p10 := n6.pos; have z11 := n6.size; clear n6; replace hP := hP.ext x9; replace X := X.ext x9; clear x9; refine cT (cw_seq (cS (lw_pure (pur_fieldAddr0 tabOk rfl rfl rfl) rfl (lw_load_b tabOk rfl rfl rfl h8 rfl rfl (lw_pure (pur_neq rfl rfl) rfl (cT ?_)))))); refine cw_no rfl (by omega) ?_; refine cw_skip (qw_then (cS (cM rfl rfl (lw_pure (pur_nilCheck rfl) rfl (lw_pure (pur_fieldAddr tabOk rfl rfl rfl) rfl (lw_load_b tabOk rfl rfl rfl (PP.blk hP) rfl rfl ?_)))))); refine lw_pure (pur_add rfl rfl (IntWalk.i64_in _ (by omega))) rfl ?_; refine lw_pure (pur_nilCheck rfl) rfl (lw_pure (pur_fieldAddr tabOk rfl rfl rfl) rfl ?_); refine lw_pp_at tabOk rfl rfl rfl rfl (by assumption) h3 ?_; rintro w12 h13 f14; have z15 := f14.size; replace h8 := h8.fr f14 (by omega); clear hP; replace X := X.fr f14 (by omega); clear f14; refine cN (lw_pure (pur_fieldAddr tabOk rfl rfl rfl) rfl (lw_load_b tabOk rfl rfl rfl h8 rfl rfl ?_)); refine cC (by kernel_rfl) rfl (Atoi_ok _ _ d1 d2 hpl hr) rfl ?_; rintro _ w17 ⟨⟨⟩, x16⟩; have z18 := x16.size; replace h13 := h13.ext x16; replace h8 := h8.ext x16
        replace X := X.ext x16; clear x16; refine cM rfl rfl (lw_pure (pur_extract rfl rfl) rfl (lw_pure (pur_extract rfl rfl) rfl (cA rfl rfl (cA rfl rfl (cT (cw_seq (cS (cM rfl rfl (lw_pure (pur_ifn0 tabOk rfl rfl) rfl (cM rfl rfl (lw_on rfl rfl rfl (rfl) ?_))))))))))); refine cM rfl rfl (lw_on rfl rfl rfl (rfl) (cM rfl rfl (lw_on rfl rfl rfl (rfl) (lw_pure (pur_lss rfl rfl) rfl (lw_pure (pur_pick_f rfl rfl rfl) rfl (cM rfl rfl ?_)))))); refine lw_on rfl rfl rfl (gd_ff (by omega)) ?_; refine cM rfl rfl ?_; refine lw_on rfl rfl rfl (gd_ff (by omega)) ?_; refine cM rfl rfl ?_; refine lw_on rfl rfl rfl (gd_ff (by omega)) ?_; refine lw_pure (pur_gtr rfl rfl) rfl ?_; refine lw_pure (pur_pick_no rfl rfl (by omega)) rfl ?_; refine cT ?_; refine cw_no rfl (by omega) ?_; refine cw_skip (qw_then (cS (cM rfl rfl (cA rfl rfl (cT (cw_ret (qw_ret1 rfl rfl ?_))))))); rotate_left 1
       exact ⟨rfl, by assumption, X⟩
     · rw [show numberP c.ts c.n least most σ = (0, failP (nextP σ) (peekP c.ts σ).pos 2) from by simp [numberP, hk, hr, hr2]]
       by_cases r1 : least ≤ (digitsVal (peekP c.ts σ).text : Int)
       · have r2 : most < (digitsVal (peekP c.ts σ).text : Int) := by omega
         refine calls_in Tryz.func106 Tryz.ntmps106 rfl rfl ?_
         focus
          refine cS (cA rfl rfl (cN (cM rfl rfl ?_))); refine cC (by kernel_rfl) rfl (peek_c _ _ _ (by assumption)) rfl ?_; rintro _ wa2 ⟨⟨⟩, xa1⟩; have za3 := xa1.size; replace hP := hP.ext xa1; replace X := X.ext xa1; clear xa1; (refine lw_alloc' [_, _, _] zOk rfl rfl ?_; intro ba4 wa5 na6); (refine lw_init' [_, _, _] tabOk rfl rfl rfl rfl rfl rfl na6 rfl ?_; clear na6; clear wa5; intro wa7 na6); have ha8 := na6.blk; have xa9 := na6.ext; have pa10 := na6.pos; have za11 := na6.size; clear na6; replace hP := hP.ext xa9; replace X := X.ext xa9; clear xa9; refine cT (cw_seq (cS (lw_pure (pur_fieldAddr0 tabOk rfl rfl rfl) rfl (lw_load_b tabOk rfl rfl rfl ha8 rfl rfl (lw_pure (pur_neq rfl rfl) rfl (cT ?_)))))); refine cw_no rfl (by omega) ?_; refine cw_skip (qw_then (cS (cM rfl rfl (lw_pure (pur_nilCheck rfl) rfl (lw_pure (pur_fieldAddr tabOk rfl rfl rfl) rfl (lw_load_b tabOk rfl rfl rfl (PP.blk hP) rfl rfl ?_)))))); refine lw_pure (pur_add rfl rfl (IntWalk.i64_in _ (by omega))) rfl ?_; refine lw_pure (pur_nilCheck rfl) rfl (lw_pure (pur_fieldAddr tabOk rfl rfl rfl) rfl ?_); refine lw_pp_at tabOk rfl rfl rfl rfl (by assumption) h3 ?_; rintro wa12 ha13 fa14; have za15 := fa14.size; replace ha8 := ha8.fr fa14 (by omega); clear hP; replace X := X.fr fa14 (by omega); clear fa14; refine cN (lw_pure (pur_fieldAddr tabOk rfl rfl rfl) rfl (lw_load_b tabOk rfl rfl rfl ha8 rfl rfl ?_)); refine cC (by kernel_rfl) rfl (Atoi_ok _ _ d1 d2 hpl hr) rfl ?_; rintro _ wa17 ⟨⟨⟩, xa16⟩; have za18 := xa16.size
          replace ha13 := ha13.ext xa16; replace ha8 := ha8.ext xa16; replace X := X.ext xa16; clear xa16; refine cM rfl rfl (lw_pure (pur_extract rfl rfl) rfl (lw_pure (pur_extract rfl rfl) rfl (cA rfl rfl (cA rfl rfl (cT (cw_seq (cS (cM rfl rfl (lw_pure (pur_ifn0 tabOk rfl rfl) rfl (cM rfl rfl (lw_on rfl rfl rfl (rfl) ?_))))))))))); refine cM rfl rfl (lw_on rfl rfl rfl (rfl) (cM rfl rfl (lw_on rfl rfl rfl (rfl) (lw_pure (pur_lss rfl rfl) rfl (lw_pure (pur_pick_f rfl rfl rfl) rfl (cM rfl rfl ?_)))))); refine lw_on rfl rfl rfl (gd_ff (by omega)) ?_; refine cM rfl rfl ?_; refine lw_on rfl rfl rfl (gd_ff (by omega)) ?_; refine cM rfl rfl ?_; refine lw_on rfl rfl rfl (gd_ff (by omega)) ?_; refine lw_pure (pur_gtr rfl rfl) rfl ?_; refine lw_pure (pur_pick_no rfl rfl (by omega)) rfl ?_; refine cT ?_; refine cw_yes rfl (by assumption) ?_; refine cS (cM rfl rfl (lw_pure (pur_fieldAddr tabOk rfl rfl rfl) rfl (lw_load_b tabOk rfl rfl rfl ha8 rfl rfl ?_))); refine cC (by kernel_rfl) rfl (fail_c _ _ _ _ _ (by assumption)) rfl ?_; rintro _ wa21 ⟨⟨⟩, ⟨ha19, fa20⟩⟩; have za22 := fa20.size; clear ha13; replace ha8 := ha8.fr fa20 (by omega); replace X := X.fr fa20 (by omega); clear fa20; refine cN (cA rfl rfl (cT (cw_ret (qw_then_ret (qw_ret1 rfl rfl ?_))))); rotate_left 1
         exact ⟨rfl, by assumption, X⟩
       · refine calls_in Tryz.func106 Tryz.ntmps106 rfl rfl ?_
         focus
          refine cS (cA rfl rfl (cN (cM rfl rfl ?_))); refine cC (by kernel_rfl) rfl (peek_c _ _ _ (by assumption)) rfl ?_; rintro _ wb2 ⟨⟨⟩, xb1⟩; have zb3 := xb1.size; replace hP := hP.ext xb1; replace X := X.ext xb1; clear xb1; (refine lw_alloc' [_, _, _] zOk rfl rfl ?_; intro bb4 wb5 nb6); (refine lw_init' [_, _, _] tabOk rfl rfl rfl rfl rfl rfl nb6 rfl ?_; clear nb6; clear wb5; intro wb7 nb6); have hb8 := nb6.blk; have xb9 := nb6.ext; have pb10 := nb6.pos; have zb11 := nb6.size; clear nb6; replace hP := hP.ext xb9; replace X := X.ext xb9; clear xb9; refine cT (cw_seq (cS (lw_pure (pur_fieldAddr0 tabOk rfl rfl rfl) rfl (lw_load_b tabOk rfl rfl rfl hb8 rfl rfl (lw_pure (pur_neq rfl rfl) rfl (cT ?_)))))); refine cw_no rfl (by omega) ?_; refine cw_skip (qw_then (cS (cM rfl rfl (lw_pure (pur_nilCheck rfl) rfl (lw_pure (pur_fieldAddr tabOk rfl rfl rfl) rfl (lw_load_b tabOk rfl rfl rfl (PP.blk hP) rfl rfl ?_)))))); refine lw_pure (pur_add rfl rfl (IntWalk.i64_in _ (by omega))) rfl ?_; refine lw_pure (pur_nilCheck rfl) rfl (lw_pure (pur_fieldAddr tabOk rfl rfl rfl) rfl ?_); refine lw_pp_at tabOk rfl rfl rfl rfl (by assumption) h3 ?_; rintro wb12 hb13 fb14; have zb15 := fb14.size; replace hb8 := hb8.fr fb14 (by omega); clear hP; replace X := X.fr fb14 (by omega); clear fb14; refine cN (lw_pure (pur_fieldAddr tabOk rfl rfl rfl) rfl (lw_load_b tabOk rfl rfl rfl hb8 rfl rfl ?_)); refine cC (by kernel_rfl) rfl (Atoi_ok _ _ d1 d2 hpl hr) rfl ?_; rintro _ wb17 ⟨⟨⟩, xb16⟩; have zb18 := xb16.size
          replace hb13 := hb13.ext xb16; replace hb8 := hb8.ext xb16; replace X := X.ext xb16; clear xb16; refine cM rfl rfl (lw_pure (pur_extract rfl rfl) rfl (lw_pure (pur_extract rfl rfl) rfl (cA rfl rfl (cA rfl rfl (cT (cw_seq (cS (cM rfl rfl (lw_pure (pur_ifn0 tabOk rfl rfl) rfl (cM rfl rfl (lw_on rfl rfl rfl (rfl) ?_))))))))))); refine cM rfl rfl (lw_on rfl rfl rfl (rfl) (cM rfl rfl (lw_on rfl rfl rfl (rfl) (lw_pure (pur_lss rfl rfl) rfl (lw_pure (pur_pick_f rfl rfl rfl) rfl (cM rfl rfl ?_)))))); refine lw_off rfl rfl rfl (gd_ft (by omega)) rfl ?_; refine lw_off rfl rfl rfl (gd_ft (by omega)) rfl ?_; refine lw_off rfl rfl rfl (gd_ft (by omega)) rfl ?_; refine lw_pure (pur_pick_yes rfl rfl (by omega)) rfl ?_; refine cT (cw_cond_t rfl (cS (cM rfl rfl (lw_pure (pur_fieldAddr tabOk rfl rfl rfl) rfl (lw_load_b tabOk rfl rfl rfl hb8 rfl rfl ?_))))); refine cC (by kernel_rfl) rfl (fail_c _ _ _ _ _ (by assumption)) rfl ?_; rintro _ wb21 ⟨⟨⟩, ⟨hb19, fb20⟩⟩; have zb22 := fb20.size; clear hb13; replace hb8 := hb8.fr fb20 (by omega); replace X := X.fr fb20 (by omega); clear fb20; refine cN (cA rfl rfl (cT (cw_ret (qw_then_ret (qw_ret1 rfl rfl ?_))))); rotate_left 1
         exact ⟨rfl, by assumption, X⟩
   · rw [show numberP c.ts c.n least most σ = (0, failP (nextP σ) (peekP c.ts σ).pos 2) from by simp [numberP, hk, hr]]
     refine calls_in Tryz.func106 Tryz.ntmps106 rfl rfl ?_
     focus
      refine cS (cA rfl rfl (cN (cM rfl rfl ?_))); refine cC (by kernel_rfl) rfl (peek_c _ _ _ (by assumption)) rfl ?_; rintro _ wc2 ⟨⟨⟩, xc1⟩; have zc3 := xc1.size; replace hP := hP.ext xc1; replace X := X.ext xc1; clear xc1; (refine lw_alloc' [_, _, _] zOk rfl rfl ?_; intro bc4 wc5 nc6); (refine lw_init' [_, _, _] tabOk rfl rfl rfl rfl rfl rfl nc6 rfl ?_; clear nc6; clear wc5; intro wc7 nc6); have hc8 := nc6.blk; have xc9 := nc6.ext; have pc10 := nc6.pos; have zc11 := nc6.size; clear nc6; replace hP := hP.ext xc9; replace X := X.ext xc9; clear xc9; refine cT (cw_seq (cS (lw_pure (pur_fieldAddr0 tabOk rfl rfl rfl) rfl (lw_load_b tabOk rfl rfl rfl hc8 rfl rfl (lw_pure (pur_neq rfl rfl) rfl (cT ?_)))))); refine cw_no rfl (by omega) ?_; refine cw_skip (qw_then (cS (cM rfl rfl (lw_pure (pur_nilCheck rfl) rfl (lw_pure (pur_fieldAddr tabOk rfl rfl rfl) rfl (lw_load_b tabOk rfl rfl rfl (PP.blk hP) rfl rfl ?_)))))); refine lw_pure (pur_add rfl rfl (IntWalk.i64_in _ (by omega))) rfl ?_; refine lw_pure (pur_nilCheck rfl) rfl (lw_pure (pur_fieldAddr tabOk rfl rfl rfl) rfl ?_); refine lw_pp_at tabOk rfl rfl rfl rfl (by assumption) h3 ?_; rintro wc12 hc13 fc14; have zc15 := fc14.size; replace hc8 := hc8.fr fc14 (by omega); clear hP; replace X := X.fr fc14 (by omega); clear fc14; refine cN (lw_pure (pur_fieldAddr tabOk rfl rfl rfl) rfl (lw_load_b tabOk rfl rfl rfl hc8 rfl rfl ?_)); refine lw_does (does_call (by kernel_rfl) rfl (Atoi_range _ _ d1 d2 hpl hr (PP.errs (by assumption))) (fun _ _ ⟨_, _, h⟩ => ⟨_, h.1⟩)) rfl ?_ (fun _ h => h)
      rintro _ wc19 ⟨tec16, ⟨pec17, ⟨⟨⟩, xc18⟩⟩⟩; have zc20 := xc18.size; replace hc13 := hc13.ext xc18; replace hc8 := hc8.ext xc18; replace X := X.ext xc18; clear xc18; refine cM rfl rfl (lw_pure (pur_extract rfl rfl) rfl (lw_pure (pur_extract rfl rfl) rfl (cA rfl rfl (cA rfl rfl (cT (cw_seq (cS (cM rfl rfl (lw_pure (pur_ifn1 tabOk rfl rfl) rfl (cM rfl rfl (lw_off rfl rfl rfl (rfl) rfl ?_))))))))))); refine lw_off rfl rfl rfl (rfl) rfl (lw_off rfl rfl rfl (rfl) rfl (lw_pure (pur_pick_t rfl rfl rfl) rfl (cM rfl rfl (lw_off rfl rfl rfl (rfl) rfl (lw_off rfl rfl rfl (rfl) rfl (lw_off rfl rfl rfl (rfl) rfl (lw_pure (pur_pick_t rfl rfl rfl) rfl (cT (cw_cond_t rfl (cS (cM rfl rfl ?_))))))))))); refine lw_pure (pur_fieldAddr tabOk rfl rfl rfl) rfl (lw_load_b tabOk rfl rfl rfl hc8 rfl rfl ?_); refine cC (by kernel_rfl) rfl (fail_c _ _ _ _ _ (by assumption)) rfl ?_; rintro _ wc23 ⟨⟨⟩, ⟨hc21, fc22⟩⟩; have zc24 := fc22.size; clear hc13; replace hc8 := hc8.fr fc22 (by omega); replace X := X.fr fc22 (by omega); clear fc22; refine cN (cA rfl rfl (cT (cw_ret (qw_then_ret (qw_ret1 rfl rfl ?_))))); rotate_left 1
     exact ⟨rfl, by assumption, X⟩
 · rw [show numberP c.ts c.n least most σ = (0, unexpP c.ts c.n σ) from by simp [numberP, hk]]
   refine calls_in Tryz.func106 Tryz.ntmps106 rfl rfl ?_
   focus
    refine cS (cA rfl rfl (cN (cM rfl rfl ?_))); refine cC (by kernel_rfl) rfl (peek_c _ _ _ (by assumption)) rfl ?_; rintro _ wd2 ⟨⟨⟩, xd1⟩; have zd3 := xd1.size; replace hP := hP.ext xd1; replace X := X.ext xd1; clear xd1; (refine lw_alloc' [_, _, _] zOk rfl rfl ?_; intro bd4 wd5 nd6); (refine lw_init' [_, _, _] tabOk rfl rfl rfl rfl rfl rfl nd6 rfl ?_; clear nd6; clear wd5; intro wd7 nd6); have hd8 := nd6.blk; have xd9 := nd6.ext; have pd10 := nd6.pos; have zd11 := nd6.size; clear nd6; replace hP := hP.ext xd9; replace X := X.ext xd9; clear xd9; refine cT (cw_seq (cS (lw_pure (pur_fieldAddr0 tabOk rfl rfl rfl) rfl (lw_load_b tabOk rfl rfl rfl hd8 rfl rfl (lw_pure (pur_neq rfl rfl) rfl (cT ?_)))))); refine cw_yes rfl (by assumption) ?_; refine cS (cM rfl rfl ?_); refine cC (by kernel_rfl) rfl (unexpected_c _ _ _ (by assumption)) rfl ?_; rintro _ wd14 ⟨⟨⟩, ⟨hd12, fd13⟩⟩; have zd15 := fd13.size; replace hd8 := hd8.fr fd13 (by omega); clear hP; replace X := X.fr fd13 (by omega); clear fd13; refine cN (cA rfl rfl (cT (cw_ret (qw_then_ret (qw_ret1 rfl rfl ?_))))); rotate_left 1
   exact ⟨rfl, by assumption, X⟩
end Bk
namespace Bk
open Go Go.RowKit Go.Proofs
attribute [local irreducible] Go.Calls
def ExprC (c : PC) (k : Nat) : Prop := ∀ (lv : Int) (σ : PS) (w : World), PP c σ w → 4 * mS c.ts σ + 4 ≤ k → 1 ≤ lv → lv ≤ 9 →
 Calls Tryz.prog 39 #[.pointer (some ⟨c.pb, 0, none⟩), .int .i64 lv] w (TreeR c w (exprP c.ts c.n k lv σ))
def UnaryC (c : PC) (k : Nat) : Prop := ∀ (σ : PS) (w : World), PP c σ w → 4 * mS c.ts σ + 3 ≤ k →
 Calls Tryz.prog 79 #[.pointer (some ⟨c.pb, 0, none⟩)] w (TreeR c w (unaryP c.ts c.n k σ))
def PrimaryC (c : PC) (k : Nat) : Prop := ∀ (σ : PS) (w : World), PP c σ w → 4 * mS c.ts σ + 2 ≤ k →
 Calls Tryz.prog 113 #[.pointer (some ⟨c.pb, 0, none⟩)] w (TreeR c w (primaryP c.ts c.n k σ))
def PlaceC (c : PC) (k : Nat) : Prop := ∀ (σ : PS) (w : World), PP c σ w → 4 * mS c.ts σ + 1 ≤ k →
 Calls Tryz.prog 117 #[.pointer (some ⟨c.pb, 0, none⟩)] w (TreeR c w (placeP c.ts c.n k σ))
structure ExprsC (c : PC) (k : Nat) : Prop where
 expr : ExprC c k
 unary : UnaryC c k
 primary : PrimaryC c k
 place : PlaceC c k
theorem mS_has {c : PC} {σ : PS} {t : List UInt8} (h : σ.at_ ≤ c.ts.length) (hh : hasP c.ts σ t = true) (ht : t ≠ []) : mS c.ts (nextP σ) + 1 = mS c.ts σ := mS_next (has_in h hh ht)
set_option maxRecDepth 100000 in
set_option maxHeartbeats 1000000 in
theorem place_w (c : PC) (k : Nat) (IH : ∀ j, j ≤ k → ExprsC c j) : PlaceC c (k + 1) := by
 intro σ w hP hk; have X := Fr.refl (· = c.pb) w; have hpb := hP.pbB; have hB := hP.B; have hn := name_le (n := c.n) hP.at_
 cases hh : hasP c.ts (nameP c.ts c.n σ).2 [91]
 · rw [show placeP c.ts c.n (k + 1) σ = (.mk 2 0 (nameP c.ts c.n σ).1 [], (nameP c.ts c.n σ).2) from by rw [placeP]; simp [hh]]
   refine calls_in Tryz.func117 Tryz.ntmps117 rfl rfl ?_
   focus
    refine cS ?_; (refine lw_alloc' [_, _, _, _] zOk rfl rfl ?_; intro b1 w2 n3); have h5 := n3.blk; have x6 := n3.ext; have p7 := n3.pos; have z8 := n3.size; clear n3; replace hP := hP.ext x6; replace X := X.ext x6; clear x6; refine cN (cM rfl rfl ?_); refine cC (by kernel_rfl) rfl (name_c _ _ _ (by assumption)) rfl ?_; rintro _ w11 ⟨⟨⟩, ⟨h9, f10⟩⟩; have z12 := f10.size; replace h5 := h5.fr f10 (by omega); clear hP; replace X := X.fr f10 (by omega); clear f10; refine cA rfl rfl (cT (cw_seq (cS (cM rfl rfl ?_)))); refine cC (by kernel_rfl) rfl (accept_f _ _ _ _ (by assumption) (by decide) (by assumption)) rfl ?_; rintro _ w15 ⟨⟨⟩, ⟨h13, f14⟩⟩; have z16 := f14.size; clear h9; replace h5 := h5.fr f14 (by omega); replace X := X.fr f14 (by omega); clear f14; refine lw_pure (pur_not rfl) rfl (cT (cw_cond_t rfl (cS (cM rfl rfl (lw_pure (pur_build' [_, _, _, _] tabOk zOk rfl rfl rfl rfl) rfl ?_))))); (refine lw_store' [_, _, _, _] [_, _, _, _] tabOk rfl rfl rfl rfl rfl rfl h5 rfl rfl ?_; intro w17 n18); have h21 := n18.blk; have f19 := n18.fr; have z20 := n18.size; clear n18 h5; replace h13 := h13.fr f19 (by omega); replace X := X.fr f19 (by omega); clear f19; refine cT (cw_ret (qw_then_ret (qw_retc rfl tabOk rfl rfl rfl h21 rfl ?_))); rotate_left 1
   exact tree_ret sits_nil (by assumption) X
 · rw [show placeP c.ts c.n (k + 1) σ = (.mk 3 0 (nameP c.ts c.n σ).1 [(exprP c.ts c.n k 1 (nextP (nameP c.ts c.n σ).2)).1], expectP c.ts c.n (exprP c.ts c.n k 1 (nextP (nameP c.ts c.n σ).2)).2 [93]) from by rw [placeP]; simp [hh]]
   have hm := mS_has hn.wf hh (by decide); have hm2 := mS_le hn
   have hf : 4 * mS c.ts (nextP (nameP c.ts c.n σ).2) + 4 ≤ k := by omega
   refine calls_in Tryz.func117 Tryz.ntmps117 rfl rfl ?_
   focus
    refine cS ?_; (refine lw_alloc' [_, _, _, _] zOk rfl rfl ?_; intro ba1 wa2 na3); have ha5 := na3.blk; have xa6 := na3.ext; have pa7 := na3.pos; have za8 := na3.size; clear na3; replace hP := hP.ext xa6; replace X := X.ext xa6; clear xa6; refine cN (cM rfl rfl ?_); refine cC (by kernel_rfl) rfl (name_c _ _ _ (by assumption)) rfl ?_; rintro _ wa11 ⟨⟨⟩, ⟨ha9, fa10⟩⟩; have za12 := fa10.size; replace ha5 := ha5.fr fa10 (by omega); clear hP; replace X := X.fr fa10 (by omega); clear fa10; refine cA rfl rfl (cT (cw_seq (cS (cM rfl rfl ?_)))); refine cC (by kernel_rfl) rfl (accept_t _ _ _ _ (by assumption) (by decide) (by assumption)) rfl ?_; rintro _ wa15 ⟨⟨⟩, ⟨ha13, fa14⟩⟩; have za16 := fa14.size; clear ha9; replace ha5 := ha5.fr fa14 (by omega); replace X := X.fr fa14 (by omega); clear fa14; refine lw_pure (pur_not rfl) rfl (cT (cw_cond_f rfl (cw_skip (qw_then (cS (cM rfl rfl ?_)))))); refine cR (by kernel_rfl) rfl ((IH k (Nat.le_refl _)).expr _ _ _ (by assumption) hf (by decide) (by decide)) (fun _ _ h => h.ret) rfl ?_; rintro _ wa22 ⟨aa17, ⟨ka18, ⟨⟨⟩, ⟨ha19, ⟨ha20, fa21⟩⟩⟩⟩⟩; have za23 := fa21.size; clear ha13; replace ha5 := ha5.fr fa21 (by omega); replace X := X.fr fa21 (by omega); clear fa21; (refine lw_alloc' [_, _, _, _] zOk rfl rfl ?_; intro ba24 wa25 na26); (refine lw_init' [_, _, _, _] tabOk rfl rfl rfl rfl rfl rfl na26 rfl ?_; clear na26; clear wa25; intro wa27 na26); have ha28 := na26.blk; have xa29 := na26.ext; have pa30 := na26.pos; have za31 := na26.size; clear na26
    replace ha19 := Nd.sits.ext ha19 xa29; replace ha20 := ha20.ext xa29; replace ha5 := ha5.ext xa29; replace X := X.ext xa29; clear xa29; refine cN (cM rfl rfl ?_); refine cC (by kernel_rfl) rfl (expect_c _ _ _ _ (by assumption) (by decide)) rfl ?_; rintro _ wa34 ⟨⟨⟩, ⟨ha32, fa33⟩⟩; have za35 := fa33.size; replace ha28 := ha28.fr fa33 (by omega); replace ha19 := Nd.sits.fr ha19 fa33 (by omega); clear ha20; replace ha5 := ha5.fr fa33 (by omega); replace X := X.fr fa33 (by omega); clear fa33; refine cN (cM rfl rfl (lw_loads_b' [_, _, _, _] tabOk rfl rfl rfl ha28 rfl rfl rfl ?_)); (refine lw_does (does_slice' [_, _, _, _] tabOk zOk rfl rfl rfl rfl rfl rfl rfl rfl rfl) rfl ?_ (fun _ h => h); rintro _ wa37 ⟨ba36, rfl, na38, ta39⟩); clear ta39; have ha40 := na38.blk; have xa41 := na38.ext; have pa42 := na38.pos; have za43 := na38.size; clear na38; replace ha32 := ha32.ext xa41; replace ha28 := ha28.ext xa41; replace ha19 := Nd.sits.ext ha19 xa41; replace ha5 := ha5.ext xa41; replace X := X.ext xa41; clear xa41; refine lw_pure (pur_build' [_, _, _, _] tabOk zOk rfl rfl rfl rfl) rfl ?_; (refine lw_store' [_, _, _, _] [_, _, _, _] tabOk rfl rfl rfl rfl rfl rfl ha5 rfl rfl ?_; intro wa44 na45); have ha48 := na45.blk; have fa46 := na45.fr; have za47 := na45.size; clear na45 ha5; replace ha40 := ha40.fr fa46 (by omega); replace ha32 := ha32.fr fa46 (by omega); replace ha28 := ha28.fr fa46 (by omega); replace ha19 := Nd.sits.fr ha19 fa46 (by omega); replace X := X.fr fa46 (by omega); clear fa46
    refine cT (cw_ret (qw_retc rfl tabOk rfl rfl rfl ha48 rfl ?_)); rotate_left 1
   exact tree_ret (sits_1 (by assumption) (by omega) (by assumption) (fun b h => by omega)) (by assumption) X
set_option maxRecDepth 100000 in
set_option maxHeartbeats 1000000 in
theorem primary_w (c : PC) (k : Nat) (IH : ∀ j, j ≤ k → ExprsC c j) : PrimaryC c (k + 1) := by
 intro σ w hP hk; have X := Fr.refl (· = c.pb) w; have hpb := hP.pbB; have hB := hP.B
 by_cases h2 : (peekP c.ts σ).kind = 2
 · rw [show primaryP c.ts c.n (k + 1) σ = (.mk 1 (numberP c.ts c.n 0 9223372036854775807 σ).1 [] [], (numberP c.ts c.n 0 9223372036854775807 σ).2) from by rw [primaryP]; simp [h2]]
   refine calls_in Tryz.func113 Tryz.ntmps113 rfl rfl ?_
   focus
    refine cS ?_; (refine lw_alloc' [_, _, _, _] zOk rfl rfl ?_; intro b1 w2 n3); have h5 := n3.blk; have x6 := n3.ext; have p7 := n3.pos; have z8 := n3.size; clear n3; replace hP := hP.ext x6; replace X := X.ext x6; clear x6; refine cT (cw_seq (cw_block (cS (cM rfl rfl ?_)))); refine cC (by kernel_rfl) rfl (peek_c _ _ _ (by assumption)) rfl ?_; rintro _ w10 ⟨⟨⟩, x9⟩; have z11 := x9.size; replace h5 := h5.ext x9; replace hP := hP.ext x9; replace X := X.ext x9; clear x9; refine lw_pure (pur_field tabOk rfl rfl rfl rfl rfl rfl) rfl (lw_pure (pur_eql rfl rfl) rfl (cA rfl rfl (cT ?_))); refine cw_yes rfl (by assumption) ?_; refine cS (cM rfl rfl ?_); refine cC (by kernel_rfl) rfl (number_c _ _ _ _ _ (by assumption) (by decide)) rfl ?_; rintro _ w14 ⟨⟨⟩, ⟨h12, f13⟩⟩; have z15 := f13.size; replace h5 := h5.fr f13 (by omega); clear hP; replace X := X.fr f13 (by omega); clear f13; refine lw_pure (pur_build' [_, _, _, _] tabOk zOk rfl rfl rfl rfl) rfl ?_; (refine lw_store' [_, _, _, _] [_, _, _, _] tabOk rfl rfl rfl rfl rfl rfl h5 rfl rfl ?_; intro w16 n17); have h20 := n17.blk; have f18 := n17.fr; have z19 := n17.size; clear n17 h5; replace h12 := h12.fr f18 (by omega); replace X := X.fr f18 (by omega); clear f18; refine cT (cw_ret (qw_block_ret (qw_then_ret (qw_retc rfl tabOk rfl rfl rfl h20 rfl ?_)))); rotate_left 1
   exact tree_ret sits_nil (by assumption) X
 cases ht : hasP c.ts σ [116, 111, 112]
 case true =>
  rw [show primaryP c.ts c.n (k + 1) σ = (.mk 4 0 (nameP c.ts c.n (expectP c.ts c.n (nextP σ) [40])).1 [], expectP c.ts c.n (nameP c.ts c.n (expectP c.ts c.n (nextP σ) [40])).2 [41]) from by rw [primaryP]; simp [h2, ht]]; refine calls_in Tryz.func113 Tryz.ntmps113 rfl rfl ?_
  focus
   refine cS ?_; (refine lw_alloc' [_, _, _, _] zOk rfl rfl ?_; intro ba1 wa2 na3); have ha5 := na3.blk; have xa6 := na3.ext; have pa7 := na3.pos; have za8 := na3.size; clear na3; replace hP := hP.ext xa6; replace X := X.ext xa6; clear xa6; refine cT (cw_seq (cw_block (cS (cM rfl rfl ?_)))); refine cC (by kernel_rfl) rfl (peek_c _ _ _ (by assumption)) rfl ?_; rintro _ wa10 ⟨⟨⟩, xa9⟩; have za11 := xa9.size; replace ha5 := ha5.ext xa9; replace hP := hP.ext xa9; replace X := X.ext xa9; clear xa9; refine lw_pure (pur_field tabOk rfl rfl rfl rfl rfl rfl) rfl (lw_pure (pur_eql rfl rfl) rfl (cA rfl rfl (cT ?_))); refine cw_no rfl (by assumption) ?_; refine cS (cM rfl rfl ?_); refine cC (by kernel_rfl) rfl (accept_t _ _ _ _ (by assumption) (by decide) (by assumption)) rfl ?_; rintro _ wa14 ⟨⟨⟩, ⟨ha12, fa13⟩⟩; have za15 := fa13.size; replace ha5 := ha5.fr fa13 (by omega); clear hP; replace X := X.fr fa13 (by omega); clear fa13; refine cA rfl rfl (cT (cw_cond_t rfl (cS (cM rfl rfl ?_)))); refine cR (by kernel_rfl) rfl (stackExpr_c _ _ _ _ (by assumption)) (fun _ _ h => h.ret) rfl ?_; rintro _ wa21 ⟨aa16, ⟨ka17, ⟨⟨⟩, ⟨ha18, ⟨ha19, fa20⟩⟩⟩⟩⟩; have za22 := fa20.size; clear ha12; replace ha5 := ha5.fr fa20 (by omega); replace X := X.fr fa20 (by omega); clear fa20; (refine lw_store' [_, _, _, _] [_, _, _, _] tabOk rfl rfl rfl rfl rfl rfl ha5 rfl rfl ?_; intro wa23 na24); have ha27 := na24.blk; have fa25 := na24.fr; have za26 := na24.size; clear na24 ha5; replace ha18 := Nd.sits.fr ha18 fa25 (by omega)
   replace ha19 := ha19.fr fa25 (by omega); replace X := X.fr fa25 (by omega); clear fa25; refine cT (cw_ret (qw_block_ret (qw_then_ret (qw_retc rfl tabOk rfl rfl rfl ha27 rfl ?_)))); rotate_left 1
  exact tree_ret sits_nil (by assumption) X
 cases hs : hasP c.ts σ [115, 105, 122, 101]
 case true =>
  rw [show primaryP c.ts c.n (k + 1) σ = (.mk 5 0 (nameP c.ts c.n (expectP c.ts c.n (nextP σ) [40])).1 [], expectP c.ts c.n (nameP c.ts c.n (expectP c.ts c.n (nextP σ) [40])).2 [41]) from by rw [primaryP]; simp [h2, ht, hs]]; refine calls_in Tryz.func113 Tryz.ntmps113 rfl rfl ?_
  focus
   refine cS ?_; (refine lw_alloc' [_, _, _, _] zOk rfl rfl ?_; intro bb1 wb2 nb3); have hb5 := nb3.blk; have xb6 := nb3.ext; have pb7 := nb3.pos; have zb8 := nb3.size; clear nb3; replace hP := hP.ext xb6; replace X := X.ext xb6; clear xb6; refine cT (cw_seq (cw_block (cS (cM rfl rfl ?_)))); refine cC (by kernel_rfl) rfl (peek_c _ _ _ (by assumption)) rfl ?_; rintro _ wb10 ⟨⟨⟩, xb9⟩; have zb11 := xb9.size; replace hb5 := hb5.ext xb9; replace hP := hP.ext xb9; replace X := X.ext xb9; clear xb9; refine lw_pure (pur_field tabOk rfl rfl rfl rfl rfl rfl) rfl (lw_pure (pur_eql rfl rfl) rfl (cA rfl rfl (cT ?_))); refine cw_no rfl (by assumption) ?_; refine cS (cM rfl rfl ?_); refine cC (by kernel_rfl) rfl (accept_f _ _ _ _ (by assumption) (by decide) (by assumption)) rfl ?_; rintro _ wb14 ⟨⟨⟩, ⟨hb12, fb13⟩⟩; have zb15 := fb13.size; replace hb5 := hb5.fr fb13 (by omega); clear hP; replace X := X.fr fb13 (by omega); clear fb13; refine cA rfl rfl (cT (cw_cond_f rfl (cS (cM rfl rfl ?_)))); refine cC (by kernel_rfl) rfl (accept_t _ _ _ _ (by assumption) (by decide) (by assumption)) rfl ?_; rintro _ wb18 ⟨⟨⟩, ⟨hb16, fb17⟩⟩; have zb19 := fb17.size; clear hb12; replace hb5 := hb5.fr fb17 (by omega); replace X := X.fr fb17 (by omega); clear fb17; refine cA rfl rfl (cT (cw_cond_t rfl (cS (cM rfl rfl ?_)))); refine cR (by kernel_rfl) rfl (stackExpr_c _ _ _ _ (by assumption)) (fun _ _ h => h.ret) rfl ?_; rintro _ wb25 ⟨ab20, ⟨kb21, ⟨⟨⟩, ⟨hb22, ⟨hb23, fb24⟩⟩⟩⟩⟩; have zb26 := fb24.size; clear hb16
   replace hb5 := hb5.fr fb24 (by omega); replace X := X.fr fb24 (by omega); clear fb24; (refine lw_store' [_, _, _, _] [_, _, _, _] tabOk rfl rfl rfl rfl rfl rfl hb5 rfl rfl ?_; intro wb27 nb28); have hb31 := nb28.blk; have fb29 := nb28.fr; have zb30 := nb28.size; clear nb28 hb5; replace hb22 := Nd.sits.fr hb22 fb29 (by omega); replace hb23 := hb23.fr fb29 (by omega); replace X := X.fr fb29 (by omega); clear fb29; refine cT (cw_ret (qw_block_ret (qw_then_ret (qw_retc rfl tabOk rfl rfl rfl hb31 rfl ?_)))); rotate_left 1
  exact tree_ret sits_nil (by assumption) X
 cases hp : hasP c.ts σ [40]
 case true =>
  rw [show primaryP c.ts c.n (k + 1) σ = ((exprP c.ts c.n k 1 (nextP σ)).1, expectP c.ts c.n (exprP c.ts c.n k 1 (nextP σ)).2 [41]) from by rw [primaryP]; simp [h2, ht, hs, hp]]; have hm := mS_has hP.at_ hp (by decide)
  have hf : 4 * mS c.ts (nextP σ) + 4 ≤ k := by omega
  refine calls_in Tryz.func113 Tryz.ntmps113 rfl rfl ?_
  focus
   refine cS ?_; (refine lw_alloc' [_, _, _, _] zOk rfl rfl ?_; intro bc1 wc2 nc3); have hc5 := nc3.blk; have xc6 := nc3.ext; have pc7 := nc3.pos; have zc8 := nc3.size; clear nc3; replace hP := hP.ext xc6; replace X := X.ext xc6; clear xc6; refine cT (cw_seq (cw_block (cS (cM rfl rfl ?_)))); refine cC (by kernel_rfl) rfl (peek_c _ _ _ (by assumption)) rfl ?_; rintro _ wc10 ⟨⟨⟩, xc9⟩; have zc11 := xc9.size; replace hc5 := hc5.ext xc9; replace hP := hP.ext xc9; replace X := X.ext xc9; clear xc9; refine lw_pure (pur_field tabOk rfl rfl rfl rfl rfl rfl) rfl (lw_pure (pur_eql rfl rfl) rfl (cA rfl rfl (cT ?_))); refine cw_no rfl (by assumption) ?_; refine cS (cM rfl rfl ?_); refine cC (by kernel_rfl) rfl (accept_f _ _ _ _ (by assumption) (by decide) (by assumption)) rfl ?_; rintro _ wc14 ⟨⟨⟩, ⟨hc12, fc13⟩⟩; have zc15 := fc13.size; replace hc5 := hc5.fr fc13 (by omega); clear hP; replace X := X.fr fc13 (by omega); clear fc13; refine cA rfl rfl (cT (cw_cond_f rfl (cS (cM rfl rfl ?_)))); refine cC (by kernel_rfl) rfl (accept_f _ _ _ _ (by assumption) (by decide) (by assumption)) rfl ?_; rintro _ wc18 ⟨⟨⟩, ⟨hc16, fc17⟩⟩; have zc19 := fc17.size; clear hc12; replace hc5 := hc5.fr fc17 (by omega); replace X := X.fr fc17 (by omega); clear fc17; refine cA rfl rfl (cT (cw_cond_f rfl (cS (cM rfl rfl ?_)))); refine cC (by kernel_rfl) rfl (accept_t _ _ _ _ (by assumption) (by decide) (by assumption)) rfl ?_; rintro _ wc22 ⟨⟨⟩, ⟨hc20, fc21⟩⟩; have zc23 := fc21.size; clear hc16; replace hc5 := hc5.fr fc21 (by omega)
   replace X := X.fr fc21 (by omega); clear fc21; refine cA rfl rfl (cT (cw_cond_t rfl (cS (cM rfl rfl ?_)))); refine cR (by kernel_rfl) rfl ((IH k (Nat.le_refl _)).expr _ _ _ (by assumption) hf (by decide) (by decide)) (fun _ _ h => h.ret) rfl ?_; rintro _ wc29 ⟨ac24, ⟨kc25, ⟨⟨⟩, ⟨hc26, ⟨hc27, fc28⟩⟩⟩⟩⟩; have zc30 := fc28.size; clear hc20; replace hc5 := hc5.fr fc28 (by omega); replace X := X.fr fc28 (by omega); clear fc28; (refine lw_alloc' [_, _, _, _] zOk rfl rfl ?_; intro bc31 wc32 nc33); (refine lw_init' [_, _, _, _] tabOk rfl rfl rfl rfl rfl rfl nc33 rfl ?_; clear nc33; clear wc32; intro wc34 nc33); have hc35 := nc33.blk; have xc36 := nc33.ext; have pc37 := nc33.pos; have zc38 := nc33.size; clear nc33; replace hc26 := Nd.sits.ext hc26 xc36; replace hc27 := hc27.ext xc36; replace hc5 := hc5.ext xc36; replace X := X.ext xc36; clear xc36; refine cN (cM rfl rfl ?_); refine cC (by kernel_rfl) rfl (expect_c _ _ _ _ (by assumption) (by decide)) rfl ?_; rintro _ wc41 ⟨⟨⟩, ⟨hc39, fc40⟩⟩; have zc42 := fc40.size; replace hc35 := hc35.fr fc40 (by omega); replace hc26 := Nd.sits.fr hc26 fc40 (by omega); clear hc27; replace hc5 := hc5.fr fc40 (by omega); replace X := X.fr fc40 (by omega); clear fc40; refine cN (lw_loads_b' [_, _, _, _] tabOk rfl rfl rfl hc35 rfl rfl rfl ?_); (refine lw_store' [_, _, _, _] [_, _, _, _] tabOk rfl rfl rfl rfl rfl rfl hc5 rfl rfl ?_; intro wc43 nc44); have hc47 := nc44.blk; have fc45 := nc44.fr; have zc46 := nc44.size; clear nc44 hc5; replace hc39 := hc39.fr fc45 (by omega)
   replace hc35 := hc35.fr fc45 (by omega); replace hc26 := Nd.sits.fr hc26 fc45 (by omega); replace X := X.fr fc45 (by omega); clear fc45; refine cT (cw_ret (qw_block_ret (qw_then_ret (qw_retc rfl tabOk rfl rfl rfl hc47 rfl ?_)))); rotate_left 1
  exact tree_ret (Nd.sits.wide (by assumption) (fun b h => by omega)) (by assumption) X
 · rw [show primaryP c.ts c.n (k + 1) σ = placeP c.ts c.n k σ from by rw [primaryP]; simp [h2, ht, hs, hp]]
   have hf : 4 * mS c.ts σ + 1 ≤ k := by omega
   refine calls_in Tryz.func113 Tryz.ntmps113 rfl rfl ?_
   focus
    refine cS ?_; (refine lw_alloc' [_, _, _, _] zOk rfl rfl ?_; intro bd1 wd2 nd3); have hd5 := nd3.blk; have xd6 := nd3.ext; have pd7 := nd3.pos; have zd8 := nd3.size; clear nd3; replace hP := hP.ext xd6; replace X := X.ext xd6; clear xd6; refine cT (cw_seq (cw_block (cS (cM rfl rfl ?_)))); refine cC (by kernel_rfl) rfl (peek_c _ _ _ (by assumption)) rfl ?_; rintro _ wd10 ⟨⟨⟩, xd9⟩; have zd11 := xd9.size; replace hd5 := hd5.ext xd9; replace hP := hP.ext xd9; replace X := X.ext xd9; clear xd9; refine lw_pure (pur_field tabOk rfl rfl rfl rfl rfl rfl) rfl (lw_pure (pur_eql rfl rfl) rfl (cA rfl rfl (cT ?_))); refine cw_no rfl (by assumption) ?_; refine cS (cM rfl rfl ?_); refine cC (by kernel_rfl) rfl (accept_f _ _ _ _ (by assumption) (by decide) (by assumption)) rfl ?_; rintro _ wd14 ⟨⟨⟩, ⟨hd12, fd13⟩⟩; have zd15 := fd13.size; replace hd5 := hd5.fr fd13 (by omega); clear hP; replace X := X.fr fd13 (by omega); clear fd13; refine cA rfl rfl (cT (cw_cond_f rfl (cS (cM rfl rfl ?_)))); refine cC (by kernel_rfl) rfl (accept_f _ _ _ _ (by assumption) (by decide) (by assumption)) rfl ?_; rintro _ wd18 ⟨⟨⟩, ⟨hd16, fd17⟩⟩; have zd19 := fd17.size; clear hd12; replace hd5 := hd5.fr fd17 (by omega); replace X := X.fr fd17 (by omega); clear fd17; refine cA rfl rfl (cT (cw_cond_f rfl (cS (cM rfl rfl ?_)))); refine cC (by kernel_rfl) rfl (accept_f _ _ _ _ (by assumption) (by decide) (by assumption)) rfl ?_; rintro _ wd22 ⟨⟨⟩, ⟨hd20, fd21⟩⟩; have zd23 := fd21.size; clear hd16; replace hd5 := hd5.fr fd21 (by omega)
    replace X := X.fr fd21 (by omega); clear fd21; refine cA rfl rfl (cT (cw_cond_f rfl (cw_skip (qw_block_norm (qw_then (cS (cM rfl rfl ?_))))))); refine cR (by kernel_rfl) rfl ((IH k (Nat.le_refl _)).place _ _ (by assumption) hf) (fun _ _ h => h.ret) rfl ?_; rintro _ wd29 ⟨ad24, ⟨kd25, ⟨⟨⟩, ⟨hd26, ⟨hd27, fd28⟩⟩⟩⟩⟩; have zd30 := fd28.size; clear hd20; replace hd5 := hd5.fr fd28 (by omega); replace X := X.fr fd28 (by omega); clear fd28; (refine lw_store' [_, _, _, _] [_, _, _, _] tabOk rfl rfl rfl rfl rfl rfl hd5 rfl rfl ?_; intro wd31 nd32); have hd35 := nd32.blk; have fd33 := nd32.fr; have zd34 := nd32.size; clear nd32 hd5; replace hd26 := Nd.sits.fr hd26 fd33 (by omega); replace hd27 := hd27.fr fd33 (by omega); replace X := X.fr fd33 (by omega); clear fd33; refine cT (cw_ret (qw_retc rfl tabOk rfl rfl rfl hd35 rfl ?_)); rotate_left 1
   exact tree_ret (Nd.sits.wide (by assumption) (fun b h => by omega)) (by assumption) X
set_option maxRecDepth 100000 in
set_option maxHeartbeats 1000000 in
theorem unary_w (c : PC) (k : Nat) (IH : ∀ j, j ≤ k → ExprsC c j) : UnaryC c (k + 1) := by
 intro σ w hP hk; have X := Fr.refl (· = c.pb) w; have hpb := hP.pbB; have hB := hP.B
 cases h1 : hasP c.ts σ [45]
 case true =>
  rw [show unaryP c.ts c.n (k + 1) σ = (.mk 6 0 [] [(unaryP c.ts c.n k (nextP σ)).1], (unaryP c.ts c.n k (nextP σ)).2) from by rw [unaryP]; simp [h1]]; have hm := mS_has hP.at_ h1 (by decide)
  have hf : 4 * mS c.ts (nextP σ) + 3 ≤ k := by omega
  refine calls_in Tryz.func79 Tryz.ntmps79 rfl rfl ?_
  focus
   refine cS ?_; (refine lw_alloc' [_, _, _, _] zOk rfl rfl ?_; intro b1 w2 n3); have h5 := n3.blk; have x6 := n3.ext; have p7 := n3.pos; have z8 := n3.size; clear n3; replace hP := hP.ext x6; replace X := X.ext x6; clear x6; refine cT (cw_seq (cw_block (cS (cM rfl rfl ?_)))); refine cC (by kernel_rfl) rfl (accept_t _ _ _ _ (by assumption) (by decide) (by assumption)) rfl ?_; rintro _ w11 ⟨⟨⟩, ⟨h9, f10⟩⟩; have z12 := f10.size; replace h5 := h5.fr f10 (by omega); clear hP; replace X := X.fr f10 (by omega); clear f10; refine cA rfl rfl (cT (cw_cond_t rfl (cS (cM rfl rfl ?_)))); refine cR (by kernel_rfl) rfl ((IH k (Nat.le_refl _)).unary _ _ (by assumption) hf) (fun _ _ h => h.ret) rfl ?_; rintro _ w18 ⟨a13, ⟨k14, ⟨⟨⟩, ⟨h15, ⟨h16, f17⟩⟩⟩⟩⟩; have z19 := f17.size; clear h9; replace h5 := h5.fr f17 (by omega); replace X := X.fr f17 (by omega); clear f17; (refine lw_does (does_slice' [_, _, _, _] tabOk zOk rfl rfl rfl rfl rfl rfl rfl rfl rfl) rfl ?_ (fun _ h => h); rintro _ w21 ⟨b20, rfl, n22, t23⟩); clear t23; have h24 := n22.blk; have x25 := n22.ext; have p26 := n22.pos; have z27 := n22.size; clear n22; replace h15 := Nd.sits.ext h15 x25; replace h16 := h16.ext x25; replace h5 := h5.ext x25; replace X := X.ext x25; clear x25; refine lw_pure (pur_build' [_, _, _, _] tabOk zOk rfl rfl rfl rfl) rfl ?_; (refine lw_store' [_, _, _, _] [_, _, _, _] tabOk rfl rfl rfl rfl rfl rfl h5 rfl rfl ?_; intro w28 n29); have h32 := n29.blk; have f30 := n29.fr; have z31 := n29.size; clear n29 h5; replace h24 := h24.fr f30 (by omega)
   replace h15 := Nd.sits.fr h15 f30 (by omega); replace h16 := h16.fr f30 (by omega); replace X := X.fr f30 (by omega); clear f30; refine cT (cw_ret (qw_block_ret (qw_then_ret (qw_retc rfl tabOk rfl rfl rfl h32 rfl ?_)))); rotate_left 1
  exact tree_ret (sits_1 (by assumption) (by omega) (by assumption) (fun b h => by omega)) (by assumption) X
 cases h2 : hasP c.ts σ [33]
 case true =>
  rw [show unaryP c.ts c.n (k + 1) σ = (.mk 7 0 [] [(unaryP c.ts c.n k (nextP σ)).1], (unaryP c.ts c.n k (nextP σ)).2) from by rw [unaryP]; simp [h1, h2]]; have hm := mS_has hP.at_ h2 (by decide)
  have hf : 4 * mS c.ts (nextP σ) + 3 ≤ k := by omega
  refine calls_in Tryz.func79 Tryz.ntmps79 rfl rfl ?_
  focus
   refine cS ?_; (refine lw_alloc' [_, _, _, _] zOk rfl rfl ?_; intro ba1 wa2 na3); have ha5 := na3.blk; have xa6 := na3.ext; have pa7 := na3.pos; have za8 := na3.size; clear na3; replace hP := hP.ext xa6; replace X := X.ext xa6; clear xa6; refine cT (cw_seq (cw_block (cS (cM rfl rfl ?_)))); refine cC (by kernel_rfl) rfl (accept_f _ _ _ _ (by assumption) (by decide) (by assumption)) rfl ?_; rintro _ wa11 ⟨⟨⟩, ⟨ha9, fa10⟩⟩; have za12 := fa10.size; replace ha5 := ha5.fr fa10 (by omega); clear hP; replace X := X.fr fa10 (by omega); clear fa10; refine cA rfl rfl (cT (cw_cond_f rfl (cS (cM rfl rfl ?_)))); refine cC (by kernel_rfl) rfl (accept_t _ _ _ _ (by assumption) (by decide) (by assumption)) rfl ?_; rintro _ wa15 ⟨⟨⟩, ⟨ha13, fa14⟩⟩; have za16 := fa14.size; clear ha9; replace ha5 := ha5.fr fa14 (by omega); replace X := X.fr fa14 (by omega); clear fa14; refine cA rfl rfl (cT (cw_cond_t rfl (cS (cM rfl rfl ?_)))); refine cR (by kernel_rfl) rfl ((IH k (Nat.le_refl _)).unary _ _ (by assumption) hf) (fun _ _ h => h.ret) rfl ?_; rintro _ wa22 ⟨aa17, ⟨ka18, ⟨⟨⟩, ⟨ha19, ⟨ha20, fa21⟩⟩⟩⟩⟩; have za23 := fa21.size; clear ha13; replace ha5 := ha5.fr fa21 (by omega); replace X := X.fr fa21 (by omega); clear fa21; (refine lw_does (does_slice' [_, _, _, _] tabOk zOk rfl rfl rfl rfl rfl rfl rfl rfl rfl) rfl ?_ (fun _ h => h); rintro _ wa25 ⟨ba24, rfl, na26, ta27⟩); clear ta27; have ha28 := na26.blk; have xa29 := na26.ext; have pa30 := na26.pos; have za31 := na26.size; clear na26; replace ha19 := Nd.sits.ext ha19 xa29
   replace ha20 := ha20.ext xa29; replace ha5 := ha5.ext xa29; replace X := X.ext xa29; clear xa29; refine lw_pure (pur_build' [_, _, _, _] tabOk zOk rfl rfl rfl rfl) rfl ?_; (refine lw_store' [_, _, _, _] [_, _, _, _] tabOk rfl rfl rfl rfl rfl rfl ha5 rfl rfl ?_; intro wa32 na33); have ha36 := na33.blk; have fa34 := na33.fr; have za35 := na33.size; clear na33 ha5; replace ha28 := ha28.fr fa34 (by omega); replace ha19 := Nd.sits.fr ha19 fa34 (by omega); replace ha20 := ha20.fr fa34 (by omega); replace X := X.fr fa34 (by omega); clear fa34; refine cT (cw_ret (qw_block_ret (qw_then_ret (qw_retc rfl tabOk rfl rfl rfl ha36 rfl ?_)))); rotate_left 1
  exact tree_ret (sits_1 (by assumption) (by omega) (by assumption) (fun b h => by omega)) (by assumption) X
 · rw [show unaryP c.ts c.n (k + 1) σ = primaryP c.ts c.n k σ from by rw [unaryP]; simp [h1, h2]]
   have hf : 4 * mS c.ts σ + 2 ≤ k := by omega
   refine calls_in Tryz.func79 Tryz.ntmps79 rfl rfl ?_
   focus
    refine cS ?_; (refine lw_alloc' [_, _, _, _] zOk rfl rfl ?_; intro bb1 wb2 nb3); have hb5 := nb3.blk; have xb6 := nb3.ext; have pb7 := nb3.pos; have zb8 := nb3.size; clear nb3; replace hP := hP.ext xb6; replace X := X.ext xb6; clear xb6; refine cT (cw_seq (cw_block (cS (cM rfl rfl ?_)))); refine cC (by kernel_rfl) rfl (accept_f _ _ _ _ (by assumption) (by decide) (by assumption)) rfl ?_; rintro _ wb11 ⟨⟨⟩, ⟨hb9, fb10⟩⟩; have zb12 := fb10.size; replace hb5 := hb5.fr fb10 (by omega); clear hP; replace X := X.fr fb10 (by omega); clear fb10; refine cA rfl rfl (cT (cw_cond_f rfl (cS (cM rfl rfl ?_)))); refine cC (by kernel_rfl) rfl (accept_f _ _ _ _ (by assumption) (by decide) (by assumption)) rfl ?_; rintro _ wb15 ⟨⟨⟩, ⟨hb13, fb14⟩⟩; have zb16 := fb14.size; clear hb9; replace hb5 := hb5.fr fb14 (by omega); replace X := X.fr fb14 (by omega); clear fb14; refine cA rfl rfl (cT (cw_cond_f rfl (cw_skip (qw_block_norm (qw_then (cS (cM rfl rfl ?_))))))); refine cR (by kernel_rfl) rfl ((IH k (Nat.le_refl _)).primary _ _ (by assumption) hf) (fun _ _ h => h.ret) rfl ?_; rintro _ wb22 ⟨ab17, ⟨kb18, ⟨⟨⟩, ⟨hb19, ⟨hb20, fb21⟩⟩⟩⟩⟩; have zb23 := fb21.size; clear hb13; replace hb5 := hb5.fr fb21 (by omega); replace X := X.fr fb21 (by omega); clear fb21; (refine lw_store' [_, _, _, _] [_, _, _, _] tabOk rfl rfl rfl rfl rfl rfl hb5 rfl rfl ?_; intro wb24 nb25); have hb28 := nb25.blk; have fb26 := nb25.fr; have zb27 := nb25.size; clear nb25 hb5; replace hb19 := Nd.sits.fr hb19 fb26 (by omega); replace hb20 := hb20.fr fb26 (by omega)
    replace X := X.fr fb26 (by omega); clear fb26; refine cT (cw_ret (qw_retc rfl tabOk rfl rfl rfl hb28 rfl ?_)); rotate_left 1
   exact tree_ret (Nd.sits.wide (by assumption) (fun b h => by omega)) (by assumption) X
end Bk
namespace Bk
open Go Go.RowKit Go.Proofs
attribute [local irreducible] Go.Calls
theorem getS_bin (t : List UInt8) : getS binMap t = (binOf t).map fun k => .int .u8 k := by
 unfold binMap binOf
 generalize hL : [(8 : Int), 9, 10, 11, 12, 13, 14, 15, 16, 17, 18, 19, 20, 21, 22, 23] = L
 clear hL
 induction L with
 | nil => rfl
 | cons k r ih =>
  simp only [List.map_cons, getS, List.find?_cons]
  by_cases h : symbol k = t
  · simp [h]
  · rw [if_neg (fun e => h e.symm), ih]; simp [h]
theorem level_bounds (k : Int) (h0 : 8 ≤ k) (h1 : k ≤ 23) : 1 ≤ level k ∧ level k ≤ 8 := by
 have : k = 8 ∨ k = 9 ∨ k = 10 ∨ k = 11 ∨ k = 12 ∨ k = 13 ∨ k = 14 ∨ k = 15 ∨ k = 16 ∨ k = 17 ∨ k = 18 ∨ k = 19 ∨ k = 20 ∨ k = 21 ∨ k = 22 ∨ k = 23 := by omega
 rcases this with rfl | rfl | rfl | rfl | rfl | rfl | rfl | rfl | rfl | rfl | rfl | rfl | rfl | rfl | rfl | rfl <;> decide
set_option maxRecDepth 100000 in
set_option maxHeartbeats 1000000 in
theorem expr_w (c : PC) (k : Nat) (IH : ∀ j, j ≤ k → ExprsC c j) : ExprC c (k + 1) := by
 intro lv σ w hP hk hl0 hl1; have X := Fr.refl (· = c.pb) w; have hpb := hP.pbB; have hB := hP.B; have hlen := hP.len; rw [show exprP c.ts c.n (k + 1) lv σ = climbP c.ts c.n k lv (unaryP c.ts c.n k σ).1 (unaryP c.ts c.n k σ).2 from by rw [exprP]]; have hu := ((expr_inv (ts := c.ts) (n := c.n) k).2.2.1 σ hP.at_).1
 have hf : 4 * mS c.ts σ + 3 ≤ k := by omega
 have hf2 : 4 * mS c.ts (unaryP c.ts c.n k σ).2 + 1 ≤ k := by have := mS_le hu; omega
 refine calls_in Tryz.func39 Tryz.ntmps39 rfl rfl ?_
 focus
  refine cS ?_; (refine lw_alloc' [_, _, _, _] zOk rfl rfl ?_; intro b1 w2 n3); have h5 := n3.blk; have x6 := n3.ext; have p7 := n3.pos; have z8 := n3.size; clear n3; replace hP := hP.ext x6; replace X := X.ext x6; clear x6; refine cN (cM rfl rfl ?_); refine cR (by kernel_rfl) rfl ((IH k (Nat.le_refl _)).unary _ _ (by assumption) hf) (fun _ _ h => h.ret) rfl ?_; rintro _ w14 ⟨a9, ⟨k10, ⟨⟨⟩, ⟨h11, ⟨h12, f13⟩⟩⟩⟩⟩; have z15 := f13.size; replace h5 := h5.fr f13 (by omega); clear hP; replace X := X.fr f13 (by omega); clear f13; (refine lw_alloc' [_, _, _, _] zOk rfl rfl ?_; intro b16 w17 n18); (refine lw_init' [_, _, _, _] tabOk rfl rfl rfl rfl rfl rfl n18 rfl ?_; clear n18; clear w17; intro w19 n18); have h20 := n18.blk; have x21 := n18.ext; have p22 := n18.pos; have z23 := n18.size; clear n18; replace h11 := Nd.sits.ext h11 x21; replace h12 := h12.ext x21; replace h5 := h5.ext x21; replace X := X.ext x21; clear x21; refine cT (cw_block ?_); rotate_left 1
 refine cw_loop (ι := Nat × Nd × Option Addr × Nat × PS) (fun _ => [(0, .pointer (some ⟨c.pb, 0, none⟩)), (1, .int .i64 lv), (4, .pointer (some ⟨b1, 0, none⟩)), (5, .pointer (some ⟨b16, 0, none⟩))])
  (fun x w' => PP c x.2.2.2.2 w' ∧ Blk w' b16 (x.2.1.cells x.2.2.1 x.2.2.2.1) ∧ x.2.1.sits (fun b => w.heap.size ≤ b ∧ b ≠ b1 ∧ b ≠ b16) w' x.2.2.1 ∧ Blk w' b1 [.int .u8 0, .int .i64 0, .string ⟨#[]⟩, .slice none 0 0] ∧ Fr (· = c.pb) w w' ∧ w19.heap.size ≤ w'.heap.size ∧
   climbP c.ts c.n k lv (unaryP c.ts c.n k σ).1 (unaryP c.ts c.n k σ).2 = climbP c.ts c.n x.1 lv x.2.1 x.2.2.2.2 ∧ 4 * mS c.ts x.2.2.2.2 + 1 ≤ x.1 ∧ x.1 ≤ k) (fun x => x.1) (k, (unaryP c.ts c.n k σ).1, a9, k10, (unaryP c.ts c.n k σ).2) (by (refine sub_cons rfl ?_; refine sub_cons rfl ?_; refine sub_cons rfl ?_; refine sub_cons rfl ?_; exact sub_nil))
  ⟨h12, h20, h11.wide (fun b h => ⟨by omega, by omega, by omega⟩), h5, X, Nat.le_refl _, rfl, hf2, Nat.le_refl _⟩ ?_
 rintro ⟨j, x, xa, xc, σ'⟩ w1 ⟨hP, h5, hs, h4, X, hz, he, hfj, hjk⟩; simp only at hP h5 hs he hfj hjk; rw [he]; clear he hu hf hf2 h20 h11; obtain ⟨j, rfl⟩ : ∃ i, j = i + 1 := ⟨j - 1, by omega⟩; have hg := getS_bin (peekP c.ts σ').text
 cases hb : binOf (peekP c.ts σ').text with
 | none =>
  rw [show climbP c.ts c.n (j + 1) lv x σ' = (x, σ') from by rw [climbP]; simp [hb]]; rw [hb] at hg; simp only [Option.map_none] at hg
  focus
   refine cw_block (cw_seq ?_); (refine cw_tdraw (fun wz => Ext w1 wz) 12 (.pure 0 (.pure 1 (.pure 2 (.pure 3 (.pure 4 (.fork 5 (.pure 6 (.pure 7 (.pure 8 (.pure 9 (.pure 10 (.pure 11 .tail)))))) .none)))))) mixed (by kernel_rfl) (panicOk_then (panicOk_block (panicOk_then (panicOk_block panicOk_body)))) ?_; intro wa1 xa2 _); have qsa3 : (fun wz => Ext w1 wz) wa1 := xa2; simp only at qsa3; have d_hP := hP; have d_h5 := h5; have d_hs := hs; have d_h4 := h4; have za4 := xa2.size; replace hP := hP.ext xa2; replace h5 := h5.ext xa2; replace hs := Nd.sits.ext hs xa2; replace h4 := h4.ext xa2; replace X := X.ext xa2; clear xa2; refine ⟨qsa3, ?_⟩; refine tw_pure rfl (pur_move rfl) rfl (tw_pure rfl (pur_nilCheck rfl) rfl (tw_pure rfl (pur_fieldAddr tabOk rfl rfl rfl) rfl (tw_pure rfl (pur_load tabOk rfl rfl rfl (fun wz hz => Blk.cell (Blk.ext (PP.blk d_hP) hz) rfl)) rfl (tw_pure rfl (pur_move rfl) rfl ?_)))); refine tw_does rfl (does_call (by kernel_rfl) rfl (peek_c _ _ _ (by assumption)) (fun _ _ h => ⟨_, h.1⟩)) rfl ?_ (fun _ h => h) tw_none; rintro _ wa6 ⟨⟨⟩, xa5⟩; have za7 := xa5.size; replace qsa3 := qsa3.ext xa5; replace hP := hP.ext xa5; replace h5 := h5.ext xa5; replace hs := Nd.sits.ext hs xa5; replace h4 := h4.ext xa5; replace X := X.ext xa5; clear xa5; refine ⟨qsa3, ?_⟩; refine tw_pure rfl (pur_field tabOk rfl rfl rfl rfl rfl rfl) rfl ?_; refine tw_pure rfl (pur_look_none tabOk rfl rfl rfl rfl rfl (fun wz hz => MapIs.ext (PP.map d_hP) hz) (by assumption)) rfl ?_; refine tw_pure rfl (pur_move rfl) rfl (tw_pure rfl (pur_extract rfl rfl) rfl (tw_pure rfl (pur_extract rfl rfl) rfl (tw_pure rfl (pur_assign rfl) rfl ?_)))
   clear d_hP d_h5 d_hs d_h4 qsa3; refine tw_tail rfl (cA rfl rfl (cT (cw_seq (cS (cM rfl rfl (lw_pure (pur_not rfl) rfl (cM rfl rfl (lw_off rfl rfl rfl (rfl) rfl (lw_off rfl rfl rfl (rfl) rfl (lw_off rfl rfl rfl (rfl) rfl (lw_off rfl rfl rfl (rfl) rfl ?_))))))))))); refine lw_pure (pur_pick_t rfl rfl rfl) rfl (cT (cw_cond_t rfl (cS (lw_loads_b' [_, _, _, _] tabOk rfl rfl rfl h5 rfl rfl rfl ?_)))); (refine lw_store' [_, _, _, _] [_, _, _, _] tabOk rfl rfl rfl rfl rfl rfl h4 rfl rfl ?_; intro wa8 na9); have ha12 := na9.blk; have fa10 := na9.fr; have za11 := na9.size; clear na9 h4; replace hP := hP.fr fa10 (by omega); replace h5 := h5.fr fa10 (by omega); replace hs := Nd.sits.fr hs fa10 (by omega); replace X := X.fr fa10 (by omega); clear fa10; refine cT (cw_ret (qw_then_ret (qw_block_ret (qw_then_ret (qw_block_ret (qw_retc rfl tabOk rfl rfl rfl ha12 rfl ?_)))))); rotate_left 1
  exact tree_ret (Nd.sits.wide hs (fun b h => h.1)) (by assumption) X
 | some op =>
  rw [hb] at hg; simp only [Option.map_some] at hg; obtain ⟨hne, o1, o2, -⟩ := binOf_ne hb; obtain ⟨hin, hin2⟩ := peek_in hP.at_ (Or.inl hne); have hm := mS_next (ts := c.ts) (σ := σ') ⟨hin, hin2⟩; have hlv := level_bounds op o1 o2
  by_cases hl : level op < lv
  · rw [show climbP c.ts c.n (j + 1) lv x σ' = (x, σ') from by rw [climbP]; simp [hb, hl]]
    focus
     refine cw_block (cw_seq ?_); (refine cw_tdraw (fun wz => Ext w1 wz) 12 (.pure 0 (.pure 1 (.pure 2 (.pure 3 (.pure 4 (.fork 5 (.pure 6 (.pure 7 (.pure 8 (.pure 9 (.pure 10 (.pure 11 .tail)))))) .none)))))) mixed (by kernel_rfl) (panicOk_then (panicOk_block (panicOk_then (panicOk_block panicOk_body)))) ?_; intro wb1 xb2 _); have qsb3 : (fun wz => Ext w1 wz) wb1 := xb2; simp only at qsb3; have d_hP := hP; have d_h5 := h5; have d_hs := hs; have d_h4 := h4; have zb4 := xb2.size; replace hP := hP.ext xb2; replace h5 := h5.ext xb2; replace hs := Nd.sits.ext hs xb2; replace h4 := h4.ext xb2; replace X := X.ext xb2; clear xb2; refine ⟨qsb3, ?_⟩; refine tw_pure rfl (pur_move rfl) rfl (tw_pure rfl (pur_nilCheck rfl) rfl (tw_pure rfl (pur_fieldAddr tabOk rfl rfl rfl) rfl (tw_pure rfl (pur_load tabOk rfl rfl rfl (fun wz hz => Blk.cell (Blk.ext (PP.blk d_hP) hz) rfl)) rfl (tw_pure rfl (pur_move rfl) rfl ?_)))); refine tw_does rfl (does_call (by kernel_rfl) rfl (peek_c _ _ _ (by assumption)) (fun _ _ h => ⟨_, h.1⟩)) rfl ?_ (fun _ h => h) tw_none; rintro _ wb6 ⟨⟨⟩, xb5⟩; have zb7 := xb5.size; replace qsb3 := qsb3.ext xb5; replace hP := hP.ext xb5; replace h5 := h5.ext xb5; replace hs := Nd.sits.ext hs xb5; replace h4 := h4.ext xb5; replace X := X.ext xb5; clear xb5; refine ⟨qsb3, ?_⟩; refine tw_pure rfl (pur_field tabOk rfl rfl rfl rfl rfl rfl) rfl ?_; refine tw_pure rfl (pur_look_some tabOk rfl rfl rfl rfl rfl (fun wz hz => MapIs.ext (PP.map d_hP) hz) (by assumption)) rfl ?_; refine tw_pure rfl (pur_move rfl) rfl (tw_pure rfl (pur_extract rfl rfl) rfl (tw_pure rfl (pur_extract rfl rfl) rfl (tw_pure rfl (pur_assign rfl) rfl ?_)))
     clear d_hP d_h5 d_hs d_h4 qsb3; refine tw_tail rfl (cA rfl rfl (cT (cw_seq (cS (cM rfl rfl (lw_pure (pur_not rfl) rfl (cM rfl rfl (lw_on rfl rfl rfl (rfl) (cM rfl rfl (lw_on rfl rfl rfl (rfl) ?_)))))))))); refine cC (by kernel_rfl) rfl (arith_Level_c _ _ (by omega) (by omega)) rfl ?_; rintro _ wb8 ⟨⟨⟩, rfl⟩; refine lw_on rfl rfl rfl (rfl) (cM rfl rfl (lw_on rfl rfl rfl (rfl) (lw_pure (pur_lss rfl rfl) rfl (lw_pure (pur_pick_f rfl rfl rfl) rfl (cT ?_))))); refine cw_yes rfl (by assumption) ?_; refine cS (lw_loads_b' [_, _, _, _] tabOk rfl rfl rfl h5 rfl rfl rfl ?_); (refine lw_store' [_, _, _, _] [_, _, _, _] tabOk rfl rfl rfl rfl rfl rfl h4 rfl rfl ?_; intro wb9 nb10); have hb13 := nb10.blk; have fb11 := nb10.fr; have zb12 := nb10.size; clear nb10 h4; replace hP := hP.fr fb11 (by omega); replace h5 := h5.fr fb11 (by omega); replace hs := Nd.sits.fr hs fb11 (by omega); replace X := X.fr fb11 (by omega); clear fb11; refine cT (cw_ret (qw_then_ret (qw_block_ret (qw_then_ret (qw_block_ret (qw_retc rfl tabOk rfl rfl rfl hb13 rfl ?_)))))); rotate_left 1
    exact tree_ret (Nd.sits.wide hs (fun b h => h.1)) (by assumption) X
  · rw [show climbP c.ts c.n (j + 1) lv x σ' = climbP c.ts c.n j lv (.mk op 0 [] [x, (exprP c.ts c.n j (level op + 1) (nextP σ')).1]) (exprP c.ts c.n j (level op + 1) (nextP σ')).2 from by rw [climbP]; simp [hb, hl]]
    have hfe : 4 * mS c.ts (nextP σ') + 4 ≤ j := by omega
    have hle := ((expr_inv (ts := c.ts) (n := c.n) j).1 (level op + 1) (nextP σ') hin2).1; have hml := mS_le hle
    focus
     refine cw_block (cw_seq ?_); (refine cw_tdraw (fun wz => Ext w1 wz) 12 (.pure 0 (.pure 1 (.pure 2 (.pure 3 (.pure 4 (.fork 5 (.pure 6 (.pure 7 (.pure 8 (.pure 9 (.pure 10 (.pure 11 .tail)))))) .none)))))) mixed (by kernel_rfl) (panicOk_then (panicOk_block (panicOk_then (panicOk_block panicOk_body)))) ?_; intro wc1 xc2 _); have qsc3 : (fun wz => Ext w1 wz) wc1 := xc2; simp only at qsc3; have d_hP := hP; have d_h5 := h5; have d_hs := hs; have d_h4 := h4; have zc4 := xc2.size; replace hP := hP.ext xc2; replace h5 := h5.ext xc2; replace hs := Nd.sits.ext hs xc2; replace h4 := h4.ext xc2; replace X := X.ext xc2; clear xc2; refine ⟨qsc3, ?_⟩; refine tw_pure rfl (pur_move rfl) rfl (tw_pure rfl (pur_nilCheck rfl) rfl (tw_pure rfl (pur_fieldAddr tabOk rfl rfl rfl) rfl (tw_pure rfl (pur_load tabOk rfl rfl rfl (fun wz hz => Blk.cell (Blk.ext (PP.blk d_hP) hz) rfl)) rfl (tw_pure rfl (pur_move rfl) rfl ?_)))); refine tw_does rfl (does_call (by kernel_rfl) rfl (peek_c _ _ _ (by assumption)) (fun _ _ h => ⟨_, h.1⟩)) rfl ?_ (fun _ h => h) tw_none; rintro _ wc6 ⟨⟨⟩, xc5⟩; have zc7 := xc5.size; replace qsc3 := qsc3.ext xc5; replace hP := hP.ext xc5; replace h5 := h5.ext xc5; replace hs := Nd.sits.ext hs xc5; replace h4 := h4.ext xc5; replace X := X.ext xc5; clear xc5; refine ⟨qsc3, ?_⟩; refine tw_pure rfl (pur_field tabOk rfl rfl rfl rfl rfl rfl) rfl ?_; refine tw_pure rfl (pur_look_some tabOk rfl rfl rfl rfl rfl (fun wz hz => MapIs.ext (PP.map d_hP) hz) (by assumption)) rfl ?_; refine tw_pure rfl (pur_move rfl) rfl (tw_pure rfl (pur_extract rfl rfl) rfl (tw_pure rfl (pur_extract rfl rfl) rfl (tw_pure rfl (pur_assign rfl) rfl ?_)))
     clear d_hP d_h5 d_hs d_h4 qsc3; refine tw_tail rfl (cA rfl rfl (cT (cw_seq (cS (cM rfl rfl (lw_pure (pur_not rfl) rfl (cM rfl rfl (lw_on rfl rfl rfl (rfl) (cM rfl rfl (lw_on rfl rfl rfl (rfl) ?_)))))))))); refine cC (by kernel_rfl) rfl (arith_Level_c _ _ (by omega) (by omega)) rfl ?_; rintro _ wc8 ⟨⟨⟩, rfl⟩; refine lw_on rfl rfl rfl (rfl) (cM rfl rfl (lw_on rfl rfl rfl (rfl) (lw_pure (pur_lss rfl rfl) rfl (lw_pure (pur_pick_f rfl rfl rfl) rfl (cT ?_))))); refine cw_no rfl (by assumption) ?_; refine cw_skip (qw_then (cS (cM rfl rfl (lw_pure (pur_nilCheck rfl) rfl (lw_pure (pur_fieldAddr tabOk rfl rfl rfl) rfl (lw_load_b tabOk rfl rfl rfl (PP.blk hP) rfl rfl ?_)))))); refine lw_pure (pur_add rfl rfl (IntWalk.i64_in _ (by omega))) rfl ?_; refine lw_pure (pur_nilCheck rfl) rfl (lw_pure (pur_fieldAddr tabOk rfl rfl rfl) rfl ?_); refine lw_pp_at tabOk rfl rfl rfl rfl (by assumption) hin2 ?_; rintro wc9 hc10 fc11; have zc12 := fc11.size; clear hP; replace h5 := h5.fr fc11 (by omega); replace hs := Nd.sits.fr hs fc11 (by omega); replace h4 := h4.fr fc11 (by omega); replace X := X.fr fc11 (by omega); clear fc11; refine cN (cM rfl rfl (cM rfl rfl ?_)); refine cC (by kernel_rfl) rfl (arith_Level_c _ _ (by omega) (by omega)) rfl ?_; rintro _ wc13 ⟨⟨⟩, rfl⟩; refine lw_pure (pur_add rfl rfl (IntWalk.i64_in _ (by omega))) rfl ?_; refine cR (by kernel_rfl) rfl ((IH j (by omega)).expr _ _ _ (by assumption) hfe (by omega) (by omega)) (fun _ _ h => h.ret) rfl ?_; rintro _ wc19 ⟨ac14, ⟨kc15, ⟨⟨⟩, ⟨hc16, ⟨hc17, fc18⟩⟩⟩⟩⟩
     have zc20 := fc18.size; clear hc10; replace h5 := h5.fr fc18 (by omega); replace hs := Nd.sits.fr hs fc18 (by omega); replace h4 := h4.fr fc18 (by omega); replace X := X.fr fc18 (by omega); clear fc18; (refine lw_alloc' [_, _, _, _] zOk rfl rfl ?_; intro bc21 wc22 nc23); (refine lw_init' [_, _, _, _] tabOk rfl rfl rfl rfl rfl rfl nc23 rfl ?_; clear nc23; clear wc22; intro wc24 nc23); have hc25 := nc23.blk; have xc26 := nc23.ext; have pc27 := nc23.pos; have zc28 := nc23.size; clear nc23; replace hc16 := Nd.sits.ext hc16 xc26; replace hc17 := hc17.ext xc26; replace h5 := h5.ext xc26; replace hs := Nd.sits.ext hs xc26; replace h4 := h4.ext xc26; replace X := X.ext xc26; clear xc26; refine cT (cw_region (cM rfl rfl (lw_loads_b' [_, _, _, _] tabOk rfl rfl rfl h5 rfl rfl rfl (lw_loads_b' [_, _, _, _] tabOk rfl rfl rfl hc25 rfl rfl rfl ?_)))); (refine lw_does (does_slice' [_, _, _, _, _, _, _, _] tabOk zOk rfl rfl rfl rfl rfl rfl rfl rfl rfl) rfl ?_ (fun _ h => h); rintro _ wc30 ⟨bc29, rfl, nc31, tc32⟩); clear tc32; have hc33 := nc31.blk; have xc34 := nc31.ext; have pc35 := nc31.pos; have zc36 := nc31.size; clear nc31; replace hc25 := hc25.ext xc34; replace hc16 := Nd.sits.ext hc16 xc34; replace hc17 := hc17.ext xc34; replace h5 := h5.ext xc34; replace hs := Nd.sits.ext hs xc34; replace h4 := h4.ext xc34; replace X := X.ext xc34; clear xc34; refine lw_pure (pur_build' [_, _, _, _] tabOk zOk rfl rfl rfl rfl) rfl ?_; (refine lw_store' [_, _, _, _] [_, _, _, _] tabOk rfl rfl rfl rfl rfl rfl h5 rfl rfl ?_; intro wc37 nc38)
     have hc41 := nc38.blk; have fc39 := nc38.fr; have zc40 := nc38.size; clear nc38 h5; replace hc33 := hc33.fr fc39 (by omega); replace hc25 := hc25.fr fc39 (by omega); replace hc16 := Nd.sits.fr hc16 fc39 (by omega); replace hc17 := hc17.fr fc39 (by omega); replace hs := Nd.sits.fr hs fc39 (by omega); replace h4 := h4.fr fc39 (by omega); replace X := X.fr fc39 (by omega); clear fc39; refine lw_nil (qw_block_norm ?_); rotate_left 1
    refine qw_round (j, .mk op 0 [] [x, (exprP c.ts c.n j (level op + 1) (nextP σ')).1], some ⟨_, 0, none⟩, 2, (exprP c.ts c.n j (level op + 1) (nextP σ')).2) (by (refine sub_cons rfl ?_; refine sub_cons rfl ?_; refine sub_cons rfl ?_; refine sub_cons rfl ?_; exact sub_nil)) ⟨by assumption, by assumption, sits_2 (by assumption) ⟨by omega, by omega, by omega⟩ hs (fun b h => h) (by assumption) (fun b h => ⟨by omega, by omega, by omega⟩), by assumption, X, by omega, rfl, by simp only; omega, by simp only; omega⟩ (by simp)
theorem exprs_c (c : PC) (k : Nat) : ExprsC c k := by
 induction k using Nat.strongRecOn with
 | _ k ih =>
  cases k with
  | zero => exact ⟨fun _ _ _ _ h => by omega, fun _ _ _ h => by omega, fun _ _ _ h => by omega, fun _ _ _ h => by omega⟩
  | succ k =>
   have IH : ∀ j, j ≤ k → ExprsC c j := fun j hj => ih j (by omega)
   exact ⟨expr_w c k IH, unary_w c k IH, primary_w c k IH, place_w c k IH⟩
end Bk
namespace Bk
open Go
section
variable (ts : List Tok) (n : Int)
def argsR : Nat → List Nd → PS → List Nd × PS
 | 0, acc, σ => (acc, σ)
 | k + 1, acc, σ =>
  if σ.err ≠ 0 then (acc, σ)
  else
   let v := argP ts n σ
   let σ1 := if acc.length = 8 then failP v.2 (posR σ) 5 else v.2
   if hasP ts σ1 [44] then argsR k (acc ++ [v.1]) (nextP σ1) else (acc ++ [v.1], σ1)
where posR (σ : PS) : Int := if ts.length ≤ σ.at_ then n else (ts.getD σ.at_ Tok.zero).pos
def callR (k : Nat) (kind : Int) (σ : PS) : Nd × PS :=
 let m := nameP ts n (nextP σ)
 let σ1 := expectP ts n m.2 [40]
 if hasP ts σ1 [41] then (.mk kind 0 m.1 [], nextP σ1)
 else
  let r := argsR ts n k [] σ1
  (.mk kind 0 m.1 r.1, expectP ts n r.2 [41])
def updateR (k : Nat) (σ : PS) : Nd × PS :=
 let p := placeR ts n k σ
 let t := (peekP ts p.2).text
 if t = [60, 61, 62] then (.mk 43 0 [] [p.1, (placeR ts n k (nextP p.2)).1], (placeR ts n k (nextP p.2)).2)
 else if t = [43, 61] ∨ t = [45, 61] ∨ t = [94, 61] then (.mk (updKind t) 0 [] [p.1, (exprR ts n k 1 (nextP p.2)).1], (exprR ts n k 1 (nextP p.2)).2)
 else (.mk 56 0 [] [p.1, (exprR ts n k 1 (expectP ts n p.2 [58, 61])).1], (exprR ts n k 1 (expectP ts n p.2 [58, 61])).2)
def stackR (k : Nat) (kind : Int) (σ : PS) : Nd × PS :=
 let p := placeR ts n k (nextP σ)
 let m := nameP ts n (expectP ts n p.2 [44])
 (.mk kind 0 m.1 [p.1], m.2)
def tapeR (k : Nat) (kind : Int) (σ : PS) : Nd × PS := (.mk kind 0 [] [(placeR ts n k (nextP σ)).1], (placeR ts n k (nextP σ)).2)
mutual
def stmtR : Nat → PS → Nd × PS
 | 0, σ => (.mk 0 0 [] [], σ)
 | k + 1, σ =>
  if (peekP ts σ).text = [112, 117, 115, 104] then stackR ts n k 44 σ else if (peekP ts σ).text = [112, 111, 112] then stackR ts n k 45 σ
  else if (peekP ts σ).text = [114, 101, 97, 100] then tapeR ts n k 46 σ else if (peekP ts σ).text = [117, 110, 114, 101, 97, 100] then tapeR ts n k 47 σ else if (peekP ts σ).text = [119, 114, 105, 116, 101] then tapeR ts n k 48 σ else if (peekP ts σ).text = [117, 110, 119, 114, 105, 116, 101] then tapeR ts n k 49 σ
  else if (peekP ts σ).text = [99, 97, 108, 108] then callR ts n k 50 σ else if (peekP ts σ).text = [117, 110, 99, 97, 108, 108] then callR ts n k 51 σ
  else if (peekP ts σ).text = [105, 102] then branchesR k 52 [101, 108, 115, 101] [102, 105] σ else if (peekP ts σ).text = [102, 114, 111, 109] then branchesR k 53 [108, 111, 111, 112] [117, 110, 116, 105, 108] σ
  else if (peekP ts σ).text = [108, 111, 99, 97, 108] then localR k σ else updateR ts n k σ
def branchesR : Nat → Int → List UInt8 → List UInt8 → PS → Nd × PS
 | 0, _, _, _, σ => (.mk 0 0 [] [], σ)
 | k + 1, kind, mid, last, σ =>
  let a := exprR ts n k 1 (nextP σ)
  let x := bodyR k a.2
  let y := bodyR k (expectP ts n x.2 mid)
  let e := exprR ts n k 1 (expectP ts n y.2 last)
  (.mk kind 0 [] [a.1, x.1, y.1, e.1], e.2)
def localR : Nat → PS → Nd × PS
 | 0, σ => (.mk 0 0 [] [], σ)
 | k + 1, σ =>
  if hasP ts (nextP σ) [115, 116, 97, 99, 107] then
   let m := nameP ts n (nextP (nextP σ))
   let x := bodyR k m.2
   (.mk 55 0 m.1 [x.1], x.2)
  else
   let m := nameP ts n (nextP σ)
   let a := exprR ts n k 1 (expectP ts n m.2 [61])
   let x := bodyR k a.2
   let e := exprR ts n k 1 (expectP ts n x.2 [100, 101, 108, 111, 99, 97, 108])
   (.mk 54 0 m.1 [a.1, x.1, e.1], e.2)
def bodyR : Nat → PS → Nd × PS
 | 0, σ => (.mk 57 0 [] [], σ)
 | k + 1, σ => let r := stmtsR k [] (expectP ts n σ [123]); (.mk 57 0 [] r.1, expectP ts n r.2 [125])
def stmtsR : Nat → List Nd → PS → List Nd × PS
 | 0, acc, σ => (acc, σ)
 | k + 1, acc, σ =>
  if σ.err = 0 ∧ σ.at_ < ts.length ∧ hasP ts σ [125] = false then stmtsR k (acc ++ [(stmtR k σ).1]) (expectP ts n (stmtR k σ).2 [59])
  else (acc, σ)
end
end
section
variable {ts : List Tok} {n : Int}
theorem arg_le {σ : PS} (h : σ.at_ ≤ ts.length) : Le ts σ (argP ts n σ).2 := name_le h
theorem args_le (k : Nat) : ∀ acc σ, σ.at_ ≤ ts.length → Le ts σ (argsP ts n k acc σ).2 := by
 induction k with
 | zero => intro acc σ h; rw [argsP]; exact Le.refl h
 | succ k ih =>
  intro acc σ h; rw [argsP]
  split
  · rename_i hh
    have h1 := next_le (has_in h hh (by decide))
    split
    · have h2 := h1.trans (fail_le (off := (peekP ts (nextP σ)).pos) (e := 5) h1.wf)
      exact (h2.trans (arg_le h2.wf)).trans (ih _ _ (arg_le h2.wf).wf)
    · exact (h1.trans (arg_le h1.wf)).trans (ih _ _ (arg_le h1.wf).wf)
  · exact Le.refl h
theorem argsR_le (k : Nat) : ∀ acc σ, σ.at_ ≤ ts.length → Le ts σ (argsR ts n k acc σ).2 := by
 induction k with
 | zero => intro acc σ h; rw [argsR]; exact Le.refl h
 | succ k ih =>
  intro acc σ h; rw [argsR]
  split
  · exact Le.refl h
  · simp only
    have h1 := arg_le (n := n) h
    have h2 : Le ts σ (if acc.length = 8 then failP (argP ts n σ).2 (argsR.posR ts n σ) 5 else (argP ts n σ).2) := by
     split
     · exact h1.trans (fail_le h1.wf _ _)
     · exact h1
    generalize (if acc.length = 8 then failP (argP ts n σ).2 (argsR.posR ts n σ) 5 else (argP ts n σ).2) = σ1 at h2 ⊢
    split
    · rename_i hh
      have h3 := h2.trans (next_le (has_in h2.wf hh (by decide)))
      exact h3.trans (ih _ _ h3.wf)
    · exact h2
end
end Bk
namespace Bk
open Go
section
variable {ts : List Tok} {n : Int}
abbrev In (ts : List Tok) (σ : PS) : Prop := σ.err = 0 ∧ σ.at_ < ts.length
theorem expr_le {k : Nat} {lv : Int} {σ : PS} (h : σ.at_ ≤ ts.length) : Le ts σ (exprP ts n k lv σ).2 := ((expr_inv k).1 lv σ h).1
theorem place_le {k : Nat} {σ : PS} (h : σ.at_ ≤ ts.length) : Le ts σ (placeP ts n k σ).2 := ((expr_inv k).2.2.2.2 σ h).1
theorem exprR_le {k : Nat} {lv : Int} {σ : PS} (h : σ.at_ ≤ ts.length) : Le ts σ (exprR ts n k lv σ).2 := (exprR_inv k).1 lv σ h
theorem placeR_le {k : Nat} {σ : PS} (h : σ.at_ ≤ ts.length) : Le ts σ (placeR ts n k σ).2 := (exprR_inv k).2.2.2 σ h
theorem stack_le {k : Nat} {kind : Int} {σ : PS} (hn : In ts σ) : Le ts σ (stackP ts n k kind σ).2 := by
 unfold stackP
 have h1 := next_le hn; have h2 := h1.trans (place_le (n := n) (k := k) h1.wf); have h3 := h2.trans (expect_le (n := n) (t := [44]) h2.wf (by decide))
 exact h3.trans (name_le h3.wf)
theorem tape_le {k : Nat} {kind : Int} {σ : PS} (hn : In ts σ) : Le ts σ (tapeP ts n k kind σ).2 := by
 unfold tapeP
 have h1 := next_le hn
 exact h1.trans (place_le (n := n) (k := k) h1.wf)
theorem call_le {k : Nat} {kind : Int} {σ : PS} (hn : In ts σ) : Le ts σ (callP ts n k kind σ).2 := by
 unfold callP
 have h1 := next_le hn; have h2 := h1.trans (name_le (n := n) h1.wf); have h3 := h2.trans (expect_le (n := n) (t := [40]) h2.wf (by decide)); simp only
 split
 · rename_i hh; exact h3.trans (next_le (has_in h3.wf hh (by decide)))
 · have h4 := h3.trans (arg_le (n := n) h3.wf)
   exact (h4.trans (args_le (n := n) k _ _ h4.wf)).trans (expect_le (args_le (n := n) k _ _ h4.wf).wf (by decide))
theorem upd_ne {t : List UInt8} (h : ¬ updKind t = 0) : t ≠ [] := by rintro rfl; exact h (by decide)
theorem update_le {k : Nat} {σ : PS} (h : σ.at_ ≤ ts.length) : Le ts σ (updateP ts n k σ).2 := by
 unfold updateP
 have h1 := place_le (n := n) (k := k) h; simp only
 split
 · rename_i hh
   have h2 := h1.trans (next_le (has_in h1.wf hh (by decide)))
   exact h2.trans (place_le h2.wf)
 · split
   · exact h1.trans (unexp_le h1.wf)
   · rename_i hh
     have h2 := h1.trans (next_le (peek_in h1.wf (Or.inl (upd_ne hh))))
     exact h2.trans (expr_le h2.wf)
theorem stmt_inv (k : Nat) : (∀ σ, σ.at_ ≤ ts.length → Le ts σ (stmtP ts n k σ).2) ∧ (∀ kind mid last σ, In ts σ → mid ≠ [] → last ≠ [] → Le ts σ (branchesP ts n k kind mid last σ).2) ∧ (∀ σ, In ts σ → Le ts σ (localP ts n k σ).2) ∧
 (∀ σ, σ.at_ ≤ ts.length → Le ts σ (blockP ts n k σ).2) ∧ (∀ acc σ, σ.at_ ≤ ts.length → Le ts σ (stmtsP ts n k acc σ).2) := by
 induction k with
 | zero =>
  refine ⟨fun σ h => ?_, fun kind mid last σ h _ _ => ?_, fun σ h => ?_, fun σ h => ?_, fun acc σ h => ?_⟩
  · rw [stmtP]; exact Le.refl h
  · rw [branchesP]; exact Le.refl (Nat.le_of_lt h.2)
  · rw [localP]; exact Le.refl (Nat.le_of_lt h.2)
  · rw [blockP]; exact Le.refl h
  · rw [stmtsP]; exact Le.refl h
 | succ k ih =>
  obtain ⟨iS, iB, iL, iK, iT⟩ := ih; refine ⟨fun σ h => ?_, fun kind mid last σ hn hmid hlast => ?_, fun σ hn => ?_, fun σ h => ?_, fun acc σ h => ?_⟩
  · rw [stmtP]
    have hin : ∀ t : List UInt8, t ≠ [] → (peekP ts σ).text = t → In ts σ := fun t ht e => peek_in h (Or.inl (by rw [e]; exact ht))
    by_cases c : (peekP ts σ).text = [112, 117, 115, 104]
    · rw [if_pos c]; exact stack_le (hin _ (by decide) c)
    rw [if_neg c]; clear c
    by_cases c : (peekP ts σ).text = [112, 111, 112]
    · rw [if_pos c]; exact stack_le (hin _ (by decide) c)
    rw [if_neg c]; clear c
    by_cases c : (peekP ts σ).text = [114, 101, 97, 100]
    · rw [if_pos c]; exact tape_le (hin _ (by decide) c)
    rw [if_neg c]; clear c
    by_cases c : (peekP ts σ).text = [117, 110, 114, 101, 97, 100]
    · rw [if_pos c]; exact tape_le (hin _ (by decide) c)
    rw [if_neg c]; clear c
    by_cases c : (peekP ts σ).text = [119, 114, 105, 116, 101]
    · rw [if_pos c]; exact tape_le (hin _ (by decide) c)
    rw [if_neg c]; clear c
    by_cases c : (peekP ts σ).text = [117, 110, 119, 114, 105, 116, 101]
    · rw [if_pos c]; exact tape_le (hin _ (by decide) c)
    rw [if_neg c]; clear c
    by_cases c : (peekP ts σ).text = [99, 97, 108, 108]
    · rw [if_pos c]; exact call_le (hin _ (by decide) c)
    rw [if_neg c]; clear c
    by_cases c : (peekP ts σ).text = [117, 110, 99, 97, 108, 108]
    · rw [if_pos c]; exact call_le (hin _ (by decide) c)
    rw [if_neg c]; clear c
    by_cases c : (peekP ts σ).text = [105, 102]
    · rw [if_pos c]; exact iB _ _ _ _ (hin _ (by decide) c) (by decide) (by decide)
    rw [if_neg c]; clear c
    by_cases c : (peekP ts σ).text = [102, 114, 111, 109]
    · rw [if_pos c]; exact iB _ _ _ _ (hin _ (by decide) c) (by decide) (by decide)
    rw [if_neg c]; clear c
    by_cases c : (peekP ts σ).text = [108, 111, 99, 97, 108]
    · rw [if_pos c]; exact iL _ (hin _ (by decide) c)
    rw [if_neg c]; clear c
    exact update_le h
  · rw [branchesP]
    have h1 := next_le hn; have h2 := h1.trans (expr_le (n := n) (k := k) (lv := 1) h1.wf); have h3 := h2.trans (iK _ h2.wf); have h4 := h3.trans (expect_le (n := n) (t := mid) h3.wf hmid); have h5 := h4.trans (iK _ h4.wf); have h6 := h5.trans (expect_le (n := n) (t := last) h5.wf hlast)
    exact h6.trans (expr_le h6.wf)
  · rw [localP]
    have h1 := next_le hn
    split
    · rename_i hh
      have h2 := h1.trans (next_le (has_in h1.wf hh (by decide))); have h3 := h2.trans (name_le (n := n) h2.wf)
      exact h3.trans (iK _ h3.wf)
    · have h2 := h1.trans (name_le (n := n) h1.wf)
      have h3 := h2.trans (expect_le (n := n) (t := [61]) h2.wf (by decide)); have h4 := h3.trans (expr_le (n := n) (k := k) (lv := 1) h3.wf); have h5 := h4.trans (iK _ h4.wf); have h6 := h5.trans (expect_le (n := n) (t := [100, 101, 108, 111, 99, 97, 108]) h5.wf (by decide))
      exact h6.trans (expr_le h6.wf)
  · rw [blockP]
    have h1 := expect_le (n := n) (t := [123]) h (by decide)
    exact h1.trans (iT [] _ h1.wf)
  · rw [stmtsP]
    split
    · exact Le.refl h
    · split
      · rename_i hh; exact next_le (has_in h hh (by decide))
      · have h1 := iS σ h
        have h2 := h1.trans (expect_le (n := n) (t := [59]) h1.wf (by decide))
        exact h2.trans (iT _ _ h2.wf)
theorem stackR_le {k : Nat} {kind : Int} {σ : PS} (hn : In ts σ) : Le ts σ (stackR ts n k kind σ).2 := by
 unfold stackR
 have h1 := next_le hn; have h2 := h1.trans (placeR_le (n := n) (k := k) h1.wf); have h3 := h2.trans (expect_le (n := n) (t := [44]) h2.wf (by decide))
 exact h3.trans (name_le h3.wf)
theorem tapeR_le {k : Nat} {kind : Int} {σ : PS} (hn : In ts σ) : Le ts σ (tapeR ts n k kind σ).2 := by
 unfold tapeR
 have h1 := next_le hn
 exact h1.trans (placeR_le (n := n) (k := k) h1.wf)
theorem callR_le {k : Nat} {kind : Int} {σ : PS} (hn : In ts σ) : Le ts σ (callR ts n k kind σ).2 := by
 unfold callR
 have h1 := next_le hn; have h2 := h1.trans (name_le (n := n) h1.wf); have h3 := h2.trans (expect_le (n := n) (t := [40]) h2.wf (by decide)); simp only
 split
 · rename_i hh; exact h3.trans (next_le (has_in h3.wf hh (by decide)))
 · have h4 := h3.trans (argsR_le (n := n) k [] _ h3.wf)
   exact h4.trans (expect_le h4.wf (by decide))
theorem updateR_le {k : Nat} {σ : PS} (h : σ.at_ ≤ ts.length) : Le ts σ (updateR ts n k σ).2 := by
 unfold updateR
 have h1 := placeR_le (n := n) (k := k) h; simp only
 split
 · rename_i hh
   have h2 := h1.trans (next_le (peek_in h1.wf (Or.inl (by rw [hh]; decide))))
   exact h2.trans (placeR_le h2.wf)
 · split
   · rename_i hh
     have h2 := h1.trans (next_le (peek_in h1.wf (Or.inl (by rcases hh with hh | hh | hh <;> (rw [hh]; decide)))))
     exact h2.trans (exprR_le h2.wf)
   · have h2 := h1.trans (expect_le (n := n) (t := [58, 61]) h1.wf (by decide))
     exact h2.trans (exprR_le h2.wf)
theorem stmtR_inv (k : Nat) : (∀ σ, σ.at_ ≤ ts.length → Le ts σ (stmtR ts n k σ).2) ∧ (∀ kind mid last σ, In ts σ → mid ≠ [] → last ≠ [] → Le ts σ (branchesR ts n k kind mid last σ).2) ∧ (∀ σ, In ts σ → Le ts σ (localR ts n k σ).2) ∧
 (∀ σ, σ.at_ ≤ ts.length → Le ts σ (bodyR ts n k σ).2) ∧ (∀ acc σ, σ.at_ ≤ ts.length → Le ts σ (stmtsR ts n k acc σ).2) := by
 induction k with
 | zero =>
  refine ⟨fun σ h => ?_, fun kind mid last σ h _ _ => ?_, fun σ h => ?_, fun σ h => ?_, fun acc σ h => ?_⟩
  · rw [stmtR]; exact Le.refl h
  · rw [branchesR]; exact Le.refl (Nat.le_of_lt h.2)
  · rw [localR]; exact Le.refl (Nat.le_of_lt h.2)
  · rw [bodyR]; exact Le.refl h
  · rw [stmtsR]; exact Le.refl h
 | succ k ih =>
  obtain ⟨iS, iB, iL, iK, iT⟩ := ih; refine ⟨fun σ h => ?_, fun kind mid last σ hn hmid hlast => ?_, fun σ hn => ?_, fun σ h => ?_, fun acc σ h => ?_⟩
  · rw [stmtR]
    have hin : ∀ t : List UInt8, t ≠ [] → (peekP ts σ).text = t → In ts σ := fun t ht e => peek_in h (Or.inl (by rw [e]; exact ht))
    by_cases c : (peekP ts σ).text = [112, 117, 115, 104]
    · rw [if_pos c]; exact stackR_le (hin _ (by decide) c)
    rw [if_neg c]; clear c
    by_cases c : (peekP ts σ).text = [112, 111, 112]
    · rw [if_pos c]; exact stackR_le (hin _ (by decide) c)
    rw [if_neg c]; clear c
    by_cases c : (peekP ts σ).text = [114, 101, 97, 100]
    · rw [if_pos c]; exact tapeR_le (hin _ (by decide) c)
    rw [if_neg c]; clear c
    by_cases c : (peekP ts σ).text = [117, 110, 114, 101, 97, 100]
    · rw [if_pos c]; exact tapeR_le (hin _ (by decide) c)
    rw [if_neg c]; clear c
    by_cases c : (peekP ts σ).text = [119, 114, 105, 116, 101]
    · rw [if_pos c]; exact tapeR_le (hin _ (by decide) c)
    rw [if_neg c]; clear c
    by_cases c : (peekP ts σ).text = [117, 110, 119, 114, 105, 116, 101]
    · rw [if_pos c]; exact tapeR_le (hin _ (by decide) c)
    rw [if_neg c]; clear c
    by_cases c : (peekP ts σ).text = [99, 97, 108, 108]
    · rw [if_pos c]; exact callR_le (hin _ (by decide) c)
    rw [if_neg c]; clear c
    by_cases c : (peekP ts σ).text = [117, 110, 99, 97, 108, 108]
    · rw [if_pos c]; exact callR_le (hin _ (by decide) c)
    rw [if_neg c]; clear c
    by_cases c : (peekP ts σ).text = [105, 102]
    · rw [if_pos c]; exact iB _ _ _ _ (hin _ (by decide) c) (by decide) (by decide)
    rw [if_neg c]; clear c
    by_cases c : (peekP ts σ).text = [102, 114, 111, 109]
    · rw [if_pos c]; exact iB _ _ _ _ (hin _ (by decide) c) (by decide) (by decide)
    rw [if_neg c]; clear c
    by_cases c : (peekP ts σ).text = [108, 111, 99, 97, 108]
    · rw [if_pos c]; exact iL _ (hin _ (by decide) c)
    rw [if_neg c]; clear c
    exact updateR_le h
  · rw [branchesR]
    have h1 := next_le hn; have h2 := h1.trans (exprR_le (n := n) (k := k) (lv := 1) h1.wf); have h3 := h2.trans (iK _ h2.wf); have h4 := h3.trans (expect_le (n := n) (t := mid) h3.wf hmid); have h5 := h4.trans (iK _ h4.wf); have h6 := h5.trans (expect_le (n := n) (t := last) h5.wf hlast)
    exact h6.trans (exprR_le h6.wf)
  · rw [localR]
    have h1 := next_le hn
    split
    · rename_i hh
      have h2 := h1.trans (next_le (has_in h1.wf hh (by decide))); have h3 := h2.trans (name_le (n := n) h2.wf)
      exact h3.trans (iK _ h3.wf)
    · have h2 := h1.trans (name_le (n := n) h1.wf)
      have h3 := h2.trans (expect_le (n := n) (t := [61]) h2.wf (by decide)); have h4 := h3.trans (exprR_le (n := n) (k := k) (lv := 1) h3.wf); have h5 := h4.trans (iK _ h4.wf); have h6 := h5.trans (expect_le (n := n) (t := [100, 101, 108, 111, 99, 97, 108]) h5.wf (by decide))
      exact h6.trans (exprR_le h6.wf)
  · rw [bodyR]
    have h1 := expect_le (n := n) (t := [123]) h (by decide); have h2 := h1.trans (iT [] _ h1.wf)
    exact h2.trans (expect_le h2.wf (by decide))
  · rw [stmtsR]
    split
    · have h1 := iS σ h
      have h2 := h1.trans (expect_le (n := n) (t := [59]) h1.wf (by decide))
      exact h2.trans (iT _ _ h2.wf)
    · exact Le.refl h
end
end Bk
namespace Bk
open Go Go.RowKit Go.Proofs
attribute [local irreducible] Go.Calls
set_option maxRecDepth 100000 in
set_option maxHeartbeats 1000000 in
theorem stackStmt_c (c : PC) (k : Nat) (kind : Int) (σ : PS) (w : World) (hP : PP c σ w) (hi : In c.ts σ) (hk : 4 * mS c.ts σ ≤ k) :
 Calls Tryz.prog 87 #[.pointer (some ⟨c.pb, 0, none⟩), .int .u8 kind] w (TreeR c w (stackP c.ts c.n k kind σ)) := by
 have X := Fr.refl (· = c.pb) w; have hpb := hP.pbB; have hB := hP.B; have hlen := hP.len; have h2 := hi.2; have hm := mS_next hi
 have hf : 4 * mS c.ts (nextP σ) + 1 ≤ k := by omega
 refine calls_in Tryz.func87 Tryz.ntmps87 rfl rfl ?_
 focus
  refine cS ?_; (refine lw_alloc' [_, _, _, _] zOk rfl rfl ?_; intro b1 w2 n3); have h5 := n3.blk; have x6 := n3.ext; have p7 := n3.pos; have z8 := n3.size; clear n3; replace hP := hP.ext x6; replace X := X.ext x6; clear x6; refine cN (cM rfl rfl (lw_pure (pur_nilCheck rfl) rfl (lw_pure (pur_fieldAddr tabOk rfl rfl rfl) rfl (lw_load_b tabOk rfl rfl rfl (PP.blk hP) rfl rfl ?_)))); refine lw_pure (pur_add rfl rfl (IntWalk.i64_in _ (by omega))) rfl ?_; refine lw_pure (pur_nilCheck rfl) rfl (lw_pure (pur_fieldAddr tabOk rfl rfl rfl) rfl ?_); refine lw_pp_at tabOk rfl rfl rfl rfl (by assumption) h2 ?_; rintro w9 h10 f11; have z12 := f11.size; replace h5 := h5.fr f11 (by omega); clear hP; replace X := X.fr f11 (by omega); clear f11; refine cN (cM rfl rfl ?_); refine cR (by kernel_rfl) rfl ((exprs_c c k).place _ _ (by assumption) hf) (fun _ _ h => h.ret) rfl ?_; rintro _ w18 ⟨a13, ⟨k14, ⟨⟨⟩, ⟨h15, ⟨h16, f17⟩⟩⟩⟩⟩; have z19 := f17.size; clear h10; replace h5 := h5.fr f17 (by omega); replace X := X.fr f17 (by omega); clear f17; (refine lw_alloc' [_, _, _, _] zOk rfl rfl ?_; intro b20 w21 n22); (refine lw_init' [_, _, _, _] tabOk rfl rfl rfl rfl rfl rfl n22 rfl ?_; clear n22; clear w21; intro w23 n22); have h24 := n22.blk; have x25 := n22.ext; have p26 := n22.pos; have z27 := n22.size; clear n22; replace h15 := Nd.sits.ext h15 x25; replace h16 := h16.ext x25; replace h5 := h5.ext x25; replace X := X.ext x25; clear x25; refine cN (cM rfl rfl ?_); refine cC (by kernel_rfl) rfl (expect_c _ _ _ _ (by assumption) (by decide)) rfl ?_
  rintro _ w30 ⟨⟨⟩, ⟨h28, f29⟩⟩; have z31 := f29.size; replace h24 := h24.fr f29 (by omega); replace h15 := Nd.sits.fr h15 f29 (by omega); clear h16; replace h5 := h5.fr f29 (by omega); replace X := X.fr f29 (by omega); clear f29; refine cT (cw_seq ?_); (refine cw_tdraw (fun wz => Fr (· = c.pb) w30 wz) 5 (.pure 0 (.pure 1 (.pure 3 (.fork 2 (.fork 4 .tail .none) (.fork 4 (.fork 2 .tail .none) .none))))) mixed (by kernel_rfl) (panicOk_then panicOk_body) ?_; intro w32 x33 _); have qs34 : (fun wz => Fr (· = c.pb) w30 wz) w32 := Fr.of_ext x33; simp only at qs34; have d_h28 := h28; have d_h24 := h24; have d_h15 := h15; have d_h5 := h5; have z35 := x33.size; replace h28 := h28.ext x33; replace h24 := h24.ext x33; replace h15 := Nd.sits.ext h15 x33; replace h5 := h5.ext x33; replace X := X.ext x33; clear x33; refine ⟨qs34, ?_⟩; refine tw_pure rfl (pur_move rfl) rfl (tw_pure rfl (pur_move rfl) rfl ?_); refine tw_pure rfl (pur_loads_blk' [_, _, _, _] tabOk rfl rfl rfl (fun wz hz => (Blk.fr d_h24 hz (by omega))) rfl rfl) rfl ?_; refine tw_does rfl (does_call (by kernel_rfl) rfl (name_c _ _ _ (by assumption)) (fun _ _ h => ⟨_, h.1⟩)) rfl ?_ (fun _ h => h) ?kr; rintro _ w38 ⟨⟨⟩, ⟨h36, f37⟩⟩; have z39 := f37.size; replace qs34 := qs34.fr f37 (by omega); clear h28; replace h24 := h24.fr f37 (by omega); replace h15 := Nd.sits.fr h15 f37 (by omega); replace h5 := h5.fr f37 (by omega); replace X := X.fr f37 (by omega); clear f37; refine ⟨qs34, ?_⟩; (refine tw_does rfl (does_slice' [_, _, _, _] tabOk zOk rfl rfl rfl rfl rfl rfl rfl rfl rfl) rfl ?_ (fun _ h => h) tw_none; rintro _ w41 ⟨b40, rfl, n42, t43⟩)
  clear t43; have h44 := n42.blk; have x45 := n42.ext; have p46 := n42.pos; have z47 := n42.size; clear n42; replace h36 := h36.ext x45; replace qs34 := qs34.ext x45; replace h24 := h24.ext x45; replace h15 := Nd.sits.ext h15 x45; replace h5 := h5.ext x45; replace X := X.ext x45; clear x45; refine ⟨qs34, ?_⟩; clear d_h28 d_h24 d_h15 d_h5 qs34; refine tw_tail rfl (lw_pure (pur_build' [_, _, _, _] tabOk zOk rfl rfl rfl rfl) rfl ?_); (refine lw_store' [_, _, _, _] [_, _, _, _] tabOk rfl rfl rfl rfl rfl rfl h5 rfl rfl ?_; intro w48 n49); have h52 := n49.blk; have f50 := n49.fr; have z51 := n49.size; clear n49 h5; replace h44 := h44.fr f50 (by omega); replace h36 := h36.fr f50 (by omega); replace h24 := h24.fr f50 (by omega); replace h15 := Nd.sits.fr h15 f50 (by omega); replace X := X.fr f50 (by omega); clear f50; refine cT (cw_ret (qw_retc rfl tabOk rfl rfl rfl h52 rfl ?_)); rotate_left 1; (refine tw_does rfl (does_slice' [_, _, _, _] tabOk zOk rfl rfl rfl rfl rfl rfl rfl rfl rfl) rfl ?_ (fun _ h => h) tw_none; rintro _ w54 ⟨b53, rfl, n55, t56⟩); clear t56; have h57 := n55.blk; have x58 := n55.ext; have p59 := n55.pos; have z60 := n55.size; clear n55; replace qs34 := qs34.ext x58; replace h28 := h28.ext x58; replace h24 := h24.ext x58; replace h15 := Nd.sits.ext h15 x58; replace h5 := h5.ext x58; replace X := X.ext x58; clear x58; refine ⟨qs34, ?_⟩; refine tw_does rfl (does_call (by kernel_rfl) rfl (name_c _ _ _ (by assumption)) (fun _ _ h => ⟨_, h.1⟩)) rfl ?_ (fun _ h => h) tw_none
  rintro _ w63 ⟨⟨⟩, ⟨h61, f62⟩⟩; have z64 := f62.size; replace h57 := h57.fr f62 (by omega); replace qs34 := qs34.fr f62 (by omega); clear h28; replace h24 := h24.fr f62 (by omega); replace h15 := Nd.sits.fr h15 f62 (by omega); replace h5 := h5.fr f62 (by omega); replace X := X.fr f62 (by omega); clear f62; refine ⟨qs34, ?_⟩; clear d_h28 d_h24 d_h15 d_h5 qs34; refine tw_tail rfl (lw_pure (pur_build' [_, _, _, _] tabOk zOk rfl rfl rfl rfl) rfl ?_); (refine lw_store' [_, _, _, _] [_, _, _, _] tabOk rfl rfl rfl rfl rfl rfl h5 rfl rfl ?_; intro w65 n66); have h69 := n66.blk; have f67 := n66.fr; have z68 := n66.size; clear n66 h5; replace h61 := h61.fr f67 (by omega); replace h57 := h57.fr f67 (by omega); replace h24 := h24.fr f67 (by omega); replace h15 := Nd.sits.fr h15 f67 (by omega); replace X := X.fr f67 (by omega); clear f67; refine cT (cw_ret (qw_retc rfl tabOk rfl rfl rfl h69 rfl ?_)); rotate_left 1
 all_goals exact tree_ret (sits_1 (by assumption) (by omega) (by assumption) (fun b h => by omega)) (by assumption) X
set_option maxRecDepth 100000 in
set_option maxHeartbeats 1000000 in
theorem tapeStmt_c (c : PC) (k : Nat) (kind : Int) (σ : PS) (w : World) (hP : PP c σ w) (hi : In c.ts σ) (hk : 4 * mS c.ts σ ≤ k) :
 Calls Tryz.prog 88 #[.pointer (some ⟨c.pb, 0, none⟩), .int .u8 kind] w (TreeR c w (tapeP c.ts c.n k kind σ)) := by
 have X := Fr.refl (· = c.pb) w; have hpb := hP.pbB; have hB := hP.B; have hlen := hP.len; have h2 := hi.2; have hm := mS_next hi
 have hf : 4 * mS c.ts (nextP σ) + 1 ≤ k := by omega
 refine calls_in Tryz.func88 Tryz.ntmps88 rfl rfl ?_
 focus
  refine cS ?_; (refine lw_alloc' [_, _, _, _] zOk rfl rfl ?_; intro b1 w2 n3); have h5 := n3.blk; have x6 := n3.ext; have p7 := n3.pos; have z8 := n3.size; clear n3; replace hP := hP.ext x6; replace X := X.ext x6; clear x6; refine cN (cM rfl rfl (lw_pure (pur_nilCheck rfl) rfl (lw_pure (pur_fieldAddr tabOk rfl rfl rfl) rfl (lw_load_b tabOk rfl rfl rfl (PP.blk hP) rfl rfl ?_)))); refine lw_pure (pur_add rfl rfl (IntWalk.i64_in _ (by omega))) rfl ?_; refine lw_pure (pur_nilCheck rfl) rfl (lw_pure (pur_fieldAddr tabOk rfl rfl rfl) rfl ?_); refine lw_pp_at tabOk rfl rfl rfl rfl (by assumption) h2 ?_; rintro w9 h10 f11; have z12 := f11.size; replace h5 := h5.fr f11 (by omega); clear hP; replace X := X.fr f11 (by omega); clear f11; refine cN (cM rfl rfl (cM rfl rfl ?_)); refine cR (by kernel_rfl) rfl ((exprs_c c k).place _ _ (by assumption) hf) (fun _ _ h => h.ret) rfl ?_; rintro _ w18 ⟨a13, ⟨k14, ⟨⟨⟩, ⟨h15, ⟨h16, f17⟩⟩⟩⟩⟩; have z19 := f17.size; clear h10; replace h5 := h5.fr f17 (by omega); replace X := X.fr f17 (by omega); clear f17; (refine lw_does (does_slice' [_, _, _, _] tabOk zOk rfl rfl rfl rfl rfl rfl rfl rfl rfl) rfl ?_ (fun _ h => h); rintro _ w21 ⟨b20, rfl, n22, t23⟩); clear t23; have h24 := n22.blk; have x25 := n22.ext; have p26 := n22.pos; have z27 := n22.size; clear n22; replace h15 := Nd.sits.ext h15 x25; replace h16 := h16.ext x25; replace h5 := h5.ext x25; replace X := X.ext x25; clear x25; refine lw_pure (pur_build' [_, _, _, _] tabOk zOk rfl rfl rfl rfl) rfl ?_
  (refine lw_store' [_, _, _, _] [_, _, _, _] tabOk rfl rfl rfl rfl rfl rfl h5 rfl rfl ?_; intro w28 n29); have h32 := n29.blk; have f30 := n29.fr; have z31 := n29.size; clear n29 h5; replace h24 := h24.fr f30 (by omega); replace h15 := Nd.sits.fr h15 f30 (by omega); replace h16 := h16.fr f30 (by omega); replace X := X.fr f30 (by omega); clear f30; refine cT (cw_ret (qw_retc rfl tabOk rfl rfl rfl h32 rfl ?_)); rotate_left 1
 all_goals exact tree_ret (sits_1 (by assumption) (by omega) (by assumption) (fun b h => by omega)) (by assumption) X
set_option maxRecDepth 100000 in
set_option maxHeartbeats 1000000 in
theorem update_c (c : PC) (k : Nat) (σ : PS) (w : World) (hP : PP c σ w) (hk : 4 * mS c.ts σ + 1 ≤ k) :
 Calls Tryz.prog 92 #[.pointer (some ⟨c.pb, 0, none⟩)] w (TreeR c w (updateP c.ts c.n k σ)) := by
 have X := Fr.refl (· = c.pb) w; have hpb := hP.pbB; have hB := hP.B; have hlen := hP.len; have hl := place_le (n := c.n) (k := k) hP.at_; have hm := mS_le hl; have hwf := hl.wf
 unfold updateP
 generalize hp : placeP c.ts c.n k σ = p at *
 have hf1 : ∀ {w' : World}, PP c σ w' → Calls Tryz.prog 117 #[.pointer (some ⟨c.pb, 0, none⟩)] w' (TreeR c w' p) := fun h => hp ▸ (exprs_c c k).place _ _ h hk
 clear hl
 by_cases hsw : (peekP c.ts p.2).text = [60, 61, 62]
 · have hh : hasP c.ts p.2 [60, 61, 62] = true := by simp [hasP, hsw]
   simp only [hh, if_true]; have hin := has_in hwf hh (by decide); have hm2 := mS_next hin; have h2 := hin.2
   have hf : 4 * mS c.ts (nextP p.2) + 1 ≤ k := by omega
   refine calls_in Tryz.func92 Tryz.ntmps92 rfl rfl ?_
   focus
    refine cS ?_; (refine lw_alloc' [_, _, _, _] zOk rfl rfl ?_; intro b1 w2 n3); have h5 := n3.blk; have x6 := n3.ext; have p7 := n3.pos; have z8 := n3.size; clear n3; replace hP := hP.ext x6; replace X := X.ext x6; clear x6; refine cN (cM rfl rfl ?_); refine cR (by kernel_rfl) rfl (hf1 (by assumption)) (fun _ _ h => h.ret) rfl ?_; rintro _ w14 ⟨a9, ⟨k10, ⟨⟨⟩, ⟨h11, ⟨h12, f13⟩⟩⟩⟩⟩; have z15 := f13.size; replace h5 := h5.fr f13 (by omega); clear hP; replace X := X.fr f13 (by omega); clear f13; (refine lw_alloc' [_, _, _, _] zOk rfl rfl ?_; intro b16 w17 n18); (refine lw_init' [_, _, _, _] tabOk rfl rfl rfl rfl rfl rfl n18 rfl ?_; clear n18; clear w17; intro w19 n18); have h20 := n18.blk; have x21 := n18.ext; have p22 := n18.pos; have z23 := n18.size; clear n18; replace h11 := Nd.sits.ext h11 x21; replace h12 := h12.ext x21; replace h5 := h5.ext x21; replace X := X.ext x21; clear x21; refine cN (cA rfl rfl (cT (cw_seq (cS (cM rfl rfl ?_))))); refine cC (by kernel_rfl) rfl (peek_c _ _ _ (by assumption)) rfl ?_; rintro _ w25 ⟨⟨⟩, x24⟩; have z26 := x24.size; replace h20 := h20.ext x24; replace h11 := Nd.sits.ext h11 x24; replace h12 := h12.ext x24; replace h5 := h5.ext x24; replace X := X.ext x24; clear x24; refine lw_pure (pur_field tabOk rfl rfl rfl rfl rfl rfl) rfl (cT (cw_block (cS (lw_pure (pur_seql rfl rfl) rfl (cA rfl rfl (cT ?_)))))); refine cw_no rfl (fun hq9 => absurd (hsw.symm.trans hq9) (by decide)) ?_; refine cS (lw_pure (pur_seql rfl rfl) rfl (cA rfl rfl (cT ?_))); refine cw_no rfl (fun hq9 => absurd (hsw.symm.trans hq9) (by decide)) ?_
    refine cS (lw_pure (pur_seql rfl rfl) rfl (cA rfl rfl (cT ?_))); refine cw_no rfl (fun hq9 => absurd (hsw.symm.trans hq9) (by decide)) ?_; refine cS (lw_pure (pur_seql rfl rfl) rfl (cA rfl rfl (cT ?_))); refine cw_no rfl (fun hq9 => absurd (hsw.symm.trans hq9) (by decide)) ?_; refine cS (lw_pure (pur_seql rfl rfl) rfl (cA rfl rfl (cT ?_))); refine cw_yes rfl (by assumption) ?_; refine cS (cM rfl rfl (lw_pure (pur_nilCheck rfl) rfl (lw_pure (pur_fieldAddr tabOk rfl rfl rfl) rfl (lw_load_b tabOk rfl rfl rfl (PP.blk h12) rfl rfl ?_)))); refine lw_pure (pur_add rfl rfl (IntWalk.i64_in _ (by omega))) rfl ?_; refine lw_pure (pur_nilCheck rfl) rfl (lw_pure (pur_fieldAddr tabOk rfl rfl rfl) rfl ?_); refine lw_pp_at tabOk rfl rfl rfl rfl (by assumption) h2 ?_; rintro w27 h28 f29; have z30 := f29.size; replace h20 := h20.fr f29 (by omega); replace h11 := Nd.sits.fr h11 f29 (by omega); clear h12; replace h5 := h5.fr f29 (by omega); replace X := X.fr f29 (by omega); clear f29; refine cN (cM rfl rfl ?_); refine cR (by kernel_rfl) rfl ((exprs_c c k).place _ _ (by assumption) hf) (fun _ _ h => h.ret) rfl ?_; rintro _ w36 ⟨a31, ⟨k32, ⟨⟨⟩, ⟨h33, ⟨h34, f35⟩⟩⟩⟩⟩; have z37 := f35.size; clear h28; replace h20 := h20.fr f35 (by omega); replace h11 := Nd.sits.fr h11 f35 (by omega); replace h5 := h5.fr f35 (by omega); replace X := X.fr f35 (by omega); clear f35; (refine lw_alloc' [_, _, _, _] zOk rfl rfl ?_; intro b38 w39 n40); (refine lw_init' [_, _, _, _] tabOk rfl rfl rfl rfl rfl rfl n40 rfl ?_; clear n40; clear w39; intro w41 n40)
    have h42 := n40.blk; have x43 := n40.ext; have p44 := n40.pos; have z45 := n40.size; clear n40; replace h33 := Nd.sits.ext h33 x43; replace h34 := h34.ext x43; replace h20 := h20.ext x43; replace h11 := Nd.sits.ext h11 x43; replace h5 := h5.ext x43; replace X := X.ext x43; clear x43; refine cN (lw_loads_b' [_, _, _, _] tabOk rfl rfl rfl h20 rfl rfl rfl (lw_loads_b' [_, _, _, _] tabOk rfl rfl rfl h42 rfl rfl rfl ?_)); (refine lw_does (does_slice' [_, _, _, _, _, _, _, _] tabOk zOk rfl rfl rfl rfl rfl rfl rfl rfl rfl) rfl ?_ (fun _ h => h); rintro _ w47 ⟨b46, rfl, n48, t49⟩); clear t49; have h50 := n48.blk; have x51 := n48.ext; have p52 := n48.pos; have z53 := n48.size; clear n48; replace h42 := h42.ext x51; replace h33 := Nd.sits.ext h33 x51; replace h34 := h34.ext x51; replace h20 := h20.ext x51; replace h11 := Nd.sits.ext h11 x51; replace h5 := h5.ext x51; replace X := X.ext x51; clear x51; refine lw_pure (pur_build' [_, _, _, _] tabOk zOk rfl rfl rfl rfl) rfl ?_; (refine lw_store' [_, _, _, _] [_, _, _, _] tabOk rfl rfl rfl rfl rfl rfl h5 rfl rfl ?_; intro w54 n55); have h58 := n55.blk; have f56 := n55.fr; have z57 := n55.size; clear n55 h5; replace h50 := h50.fr f56 (by omega); replace h42 := h42.fr f56 (by omega); replace h33 := Nd.sits.fr h33 f56 (by omega); replace h34 := h34.fr f56 (by omega); replace h20 := h20.fr f56 (by omega); replace h11 := Nd.sits.fr h11 f56 (by omega); replace X := X.fr f56 (by omega); clear f56; refine cT (cw_ret (qw_block_ret (qw_then_ret (qw_retc rfl tabOk rfl rfl rfl h58 rfl ?_))))
    rotate_left 1
   all_goals exact tree_ret (sits_2 (by assumption) (by omega) (by assumption) (fun b h => by omega) (by assumption) (fun b h => by omega)) (by assumption) X
 · have hh : hasP c.ts p.2 [60, 61, 62] = false := by simp [hasP, hsw]
   simp only [hh, Bool.false_eq_true, if_false]
   by_cases hu : updKind (peekP c.ts p.2).text = 0
   · rw [if_pos hu]
     have n1 : (peekP c.ts p.2).text ≠ [43, 61] := fun e => by rw [e] at hu; exact absurd hu (by decide)
     have n2 : (peekP c.ts p.2).text ≠ [45, 61] := fun e => by rw [e] at hu; exact absurd hu (by decide)
     have n3 : (peekP c.ts p.2).text ≠ [94, 61] := fun e => by rw [e] at hu; exact absurd hu (by decide)
     have n4 : (peekP c.ts p.2).text ≠ [58, 61] := fun e => by rw [e] at hu; exact absurd hu (by decide)
     refine calls_in Tryz.func92 Tryz.ntmps92 rfl rfl ?_
     focus
      refine cS ?_; (refine lw_alloc' [_, _, _, _] zOk rfl rfl ?_; intro ba1 wa2 na3); have ha5 := na3.blk; have xa6 := na3.ext; have pa7 := na3.pos; have za8 := na3.size; clear na3; replace hP := hP.ext xa6; replace X := X.ext xa6; clear xa6; refine cN (cM rfl rfl ?_); refine cR (by kernel_rfl) rfl (hf1 (by assumption)) (fun _ _ h => h.ret) rfl ?_; rintro _ wa14 ⟨aa9, ⟨ka10, ⟨⟨⟩, ⟨ha11, ⟨ha12, fa13⟩⟩⟩⟩⟩; have za15 := fa13.size; replace ha5 := ha5.fr fa13 (by omega); clear hP; replace X := X.fr fa13 (by omega); clear fa13; (refine lw_alloc' [_, _, _, _] zOk rfl rfl ?_; intro ba16 wa17 na18); (refine lw_init' [_, _, _, _] tabOk rfl rfl rfl rfl rfl rfl na18 rfl ?_; clear na18; clear wa17; intro wa19 na18); have ha20 := na18.blk; have xa21 := na18.ext; have pa22 := na18.pos; have za23 := na18.size; clear na18; replace ha11 := Nd.sits.ext ha11 xa21; replace ha12 := ha12.ext xa21; replace ha5 := ha5.ext xa21; replace X := X.ext xa21; clear xa21; refine cN (cA rfl rfl (cT (cw_seq (cS (cM rfl rfl ?_))))); refine cC (by kernel_rfl) rfl (peek_c _ _ _ (by assumption)) rfl ?_; rintro _ wa25 ⟨⟨⟩, xa24⟩; have za26 := xa24.size; replace ha20 := ha20.ext xa24; replace ha11 := Nd.sits.ext ha11 xa24; replace ha12 := ha12.ext xa24; replace ha5 := ha5.ext xa24; replace X := X.ext xa24; clear xa24; refine lw_pure (pur_field tabOk rfl rfl rfl rfl rfl rfl) rfl (cT (cw_block (cS (lw_pure (pur_seql rfl rfl) rfl (cA rfl rfl (cT ?_)))))); refine cw_no rfl (by assumption) ?_; refine cS (lw_pure (pur_seql rfl rfl) rfl (cA rfl rfl (cT ?_)))
      refine cw_no rfl (by assumption) ?_; refine cS (lw_pure (pur_seql rfl rfl) rfl (cA rfl rfl (cT ?_))); refine cw_no rfl (by assumption) ?_; refine cS (lw_pure (pur_seql rfl rfl) rfl (cA rfl rfl (cT ?_))); refine cw_no rfl (by assumption) ?_; refine cS (lw_pure (pur_seql rfl rfl) rfl (cA rfl rfl (cT ?_))); refine cw_no rfl (by assumption) ?_; refine cS (cM rfl rfl ?_); refine cC (by kernel_rfl) rfl (unexpected_c _ _ _ (by assumption)) rfl ?_; rintro _ wa29 ⟨⟨⟩, ⟨ha27, fa28⟩⟩; have za30 := fa28.size; replace ha20 := ha20.fr fa28 (by omega); replace ha11 := Nd.sits.fr ha11 fa28 (by omega); clear ha12; replace ha5 := ha5.fr fa28 (by omega); replace X := X.fr fa28 (by omega); clear fa28; refine cN (lw_pure (pur_build' [_, _, _, _] tabOk zOk rfl rfl rfl rfl) rfl ?_); (refine lw_store' [_, _, _, _] [_, _, _, _] tabOk rfl rfl rfl rfl rfl rfl ha5 rfl rfl ?_; intro wa31 na32); have ha35 := na32.blk; have fa33 := na32.fr; have za34 := na32.size; clear na32 ha5; replace ha27 := ha27.fr fa33 (by omega); replace ha20 := ha20.fr fa33 (by omega); replace ha11 := Nd.sits.fr ha11 fa33 (by omega); replace X := X.fr fa33 (by omega); clear fa33; refine cT (cw_ret (qw_block_ret (qw_then_ret (qw_retc rfl tabOk rfl rfl rfl ha35 rfl ?_)))); rotate_left 1
     all_goals exact tree_ret sits_nil (by assumption) X
   · rw [if_neg hu]
     have hin := peek_in hwf (Or.inl (upd_ne hu)); have hm2 := mS_next hin; have h2 := hin.2
     have hf : 4 * mS c.ts (nextP p.2) + 4 ≤ k := by omega
     have hcase : (peekP c.ts p.2).text = [43, 61] ∨ (peekP c.ts p.2).text = [45, 61] ∨ (peekP c.ts p.2).text = [94, 61] ∨ (peekP c.ts p.2).text = [58, 61] := by
      unfold updKind at hu
      by_cases e1 : (peekP c.ts p.2).text = [43, 61]
      · exact Or.inl e1
      by_cases e2 : (peekP c.ts p.2).text = [45, 61]
      · exact Or.inr (Or.inl e2)
      by_cases e3 : (peekP c.ts p.2).text = [94, 61]
      · exact Or.inr (Or.inr (Or.inl e3))
      by_cases e4 : (peekP c.ts p.2).text = [58, 61]
      · exact Or.inr (Or.inr (Or.inr e4))
      · simp [e1, e2, e3, e4] at hu
     rcases hcase with e | e | e | e
     · rw [show updKind (peekP c.ts p.2).text = 40 from by rw [e]; decide]
       refine calls_in Tryz.func92 Tryz.ntmps92 rfl rfl ?_
       focus
        refine cS ?_; (refine lw_alloc' [_, _, _, _] zOk rfl rfl ?_; intro bb1 wb2 nb3); have hb5 := nb3.blk; have xb6 := nb3.ext; have pb7 := nb3.pos; have zb8 := nb3.size; clear nb3; replace hP := hP.ext xb6; replace X := X.ext xb6; clear xb6; refine cN (cM rfl rfl ?_); refine cR (by kernel_rfl) rfl (hf1 (by assumption)) (fun _ _ h => h.ret) rfl ?_; rintro _ wb14 ⟨ab9, ⟨kb10, ⟨⟨⟩, ⟨hb11, ⟨hb12, fb13⟩⟩⟩⟩⟩; have zb15 := fb13.size; replace hb5 := hb5.fr fb13 (by omega); clear hP; replace X := X.fr fb13 (by omega); clear fb13; (refine lw_alloc' [_, _, _, _] zOk rfl rfl ?_; intro bb16 wb17 nb18); (refine lw_init' [_, _, _, _] tabOk rfl rfl rfl rfl rfl rfl nb18 rfl ?_; clear nb18; clear wb17; intro wb19 nb18); have hb20 := nb18.blk; have xb21 := nb18.ext; have pb22 := nb18.pos; have zb23 := nb18.size; clear nb18; replace hb11 := Nd.sits.ext hb11 xb21; replace hb12 := hb12.ext xb21; replace hb5 := hb5.ext xb21; replace X := X.ext xb21; clear xb21; refine cN (cA rfl rfl (cT (cw_seq (cS (cM rfl rfl ?_))))); refine cC (by kernel_rfl) rfl (peek_c _ _ _ (by assumption)) rfl ?_; rintro _ wb25 ⟨⟨⟩, xb24⟩; have zb26 := xb24.size; replace hb20 := hb20.ext xb24; replace hb11 := Nd.sits.ext hb11 xb24; replace hb12 := hb12.ext xb24; replace hb5 := hb5.ext xb24; replace X := X.ext xb24; clear xb24; refine lw_pure (pur_field tabOk rfl rfl rfl rfl rfl rfl) rfl (cT (cw_block (cS (lw_pure (pur_seql rfl rfl) rfl (cA rfl rfl (cT ?_)))))); refine cw_yes rfl (by assumption) ?_; refine cw_region (cA rfl rfl (lw_nil (qw_block_norm (qw_then (cS (cM rfl rfl (lw_pure (pur_nilCheck rfl) rfl (lw_pure (pur_fieldAddr tabOk rfl rfl rfl) rfl (lw_load_b tabOk rfl rfl rfl (PP.blk hb12) rfl rfl ?_)))))))))
        refine lw_pure (pur_add rfl rfl (IntWalk.i64_in _ (by omega))) rfl ?_; refine lw_pure (pur_nilCheck rfl) rfl (lw_pure (pur_fieldAddr tabOk rfl rfl rfl) rfl ?_); refine lw_pp_at tabOk rfl rfl rfl rfl (by assumption) h2 ?_; rintro wb27 hb28 fb29; have zb30 := fb29.size; replace hb20 := hb20.fr fb29 (by omega); replace hb11 := Nd.sits.fr hb11 fb29 (by omega); clear hb12; replace hb5 := hb5.fr fb29 (by omega); replace X := X.fr fb29 (by omega); clear fb29; refine cN (cM rfl rfl ?_); refine cR (by kernel_rfl) rfl ((exprs_c c k).expr _ _ _ (by assumption) hf (by decide) (by decide)) (fun _ _ h => h.ret) rfl ?_; rintro _ wb36 ⟨ab31, ⟨kb32, ⟨⟨⟩, ⟨hb33, ⟨hb34, fb35⟩⟩⟩⟩⟩; have zb37 := fb35.size; clear hb28; replace hb20 := hb20.fr fb35 (by omega); replace hb11 := Nd.sits.fr hb11 fb35 (by omega); replace hb5 := hb5.fr fb35 (by omega); replace X := X.fr fb35 (by omega); clear fb35; (refine lw_alloc' [_, _, _, _] zOk rfl rfl ?_; intro bb38 wb39 nb40); (refine lw_init' [_, _, _, _] tabOk rfl rfl rfl rfl rfl rfl nb40 rfl ?_; clear nb40; clear wb39; intro wb41 nb40); have hb42 := nb40.blk; have xb43 := nb40.ext; have pb44 := nb40.pos; have zb45 := nb40.size; clear nb40; replace hb33 := Nd.sits.ext hb33 xb43; replace hb34 := hb34.ext xb43; replace hb20 := hb20.ext xb43; replace hb11 := Nd.sits.ext hb11 xb43; replace hb5 := hb5.ext xb43; replace X := X.ext xb43; clear xb43; refine cN (cM rfl rfl (lw_loads_b' [_, _, _, _] tabOk rfl rfl rfl hb20 rfl rfl rfl (lw_loads_b' [_, _, _, _] tabOk rfl rfl rfl hb42 rfl rfl rfl ?_)))
        (refine lw_does (does_slice' [_, _, _, _, _, _, _, _] tabOk zOk rfl rfl rfl rfl rfl rfl rfl rfl rfl) rfl ?_ (fun _ h => h); rintro _ wb47 ⟨bb46, rfl, nb48, tb49⟩); clear tb49; have hb50 := nb48.blk; have xb51 := nb48.ext; have pb52 := nb48.pos; have zb53 := nb48.size; clear nb48; replace hb42 := hb42.ext xb51; replace hb33 := Nd.sits.ext hb33 xb51; replace hb34 := hb34.ext xb51; replace hb20 := hb20.ext xb51; replace hb11 := Nd.sits.ext hb11 xb51; replace hb5 := hb5.ext xb51; replace X := X.ext xb51; clear xb51; refine lw_pure (pur_build' [_, _, _, _] tabOk zOk rfl rfl rfl rfl) rfl ?_; (refine lw_store' [_, _, _, _] [_, _, _, _] tabOk rfl rfl rfl rfl rfl rfl hb5 rfl rfl ?_; intro wb54 nb55); have hb58 := nb55.blk; have fb56 := nb55.fr; have zb57 := nb55.size; clear nb55 hb5; replace hb50 := hb50.fr fb56 (by omega); replace hb42 := hb42.fr fb56 (by omega); replace hb33 := Nd.sits.fr hb33 fb56 (by omega); replace hb34 := hb34.fr fb56 (by omega); replace hb20 := hb20.fr fb56 (by omega); replace hb11 := Nd.sits.fr hb11 fb56 (by omega); replace X := X.fr fb56 (by omega); clear fb56; refine cT (cw_ret (qw_retc rfl tabOk rfl rfl rfl hb58 rfl ?_)); rotate_left 1
       all_goals exact tree_ret (sits_2 (by assumption) (by omega) (by assumption) (fun b h => by omega) (by assumption) (fun b h => by omega)) (by assumption) X
     · rw [show updKind (peekP c.ts p.2).text = 41 from by rw [e]; decide]
       refine calls_in Tryz.func92 Tryz.ntmps92 rfl rfl ?_
       focus
        refine cS ?_; (refine lw_alloc' [_, _, _, _] zOk rfl rfl ?_; intro bc1 wc2 nc3); have hc5 := nc3.blk; have xc6 := nc3.ext; have pc7 := nc3.pos; have zc8 := nc3.size; clear nc3; replace hP := hP.ext xc6; replace X := X.ext xc6; clear xc6; refine cN (cM rfl rfl ?_); refine cR (by kernel_rfl) rfl (hf1 (by assumption)) (fun _ _ h => h.ret) rfl ?_; rintro _ wc14 ⟨ac9, ⟨kc10, ⟨⟨⟩, ⟨hc11, ⟨hc12, fc13⟩⟩⟩⟩⟩; have zc15 := fc13.size; replace hc5 := hc5.fr fc13 (by omega); clear hP; replace X := X.fr fc13 (by omega); clear fc13; (refine lw_alloc' [_, _, _, _] zOk rfl rfl ?_; intro bc16 wc17 nc18); (refine lw_init' [_, _, _, _] tabOk rfl rfl rfl rfl rfl rfl nc18 rfl ?_; clear nc18; clear wc17; intro wc19 nc18); have hc20 := nc18.blk; have xc21 := nc18.ext; have pc22 := nc18.pos; have zc23 := nc18.size; clear nc18; replace hc11 := Nd.sits.ext hc11 xc21; replace hc12 := hc12.ext xc21; replace hc5 := hc5.ext xc21; replace X := X.ext xc21; clear xc21; refine cN (cA rfl rfl (cT (cw_seq (cS (cM rfl rfl ?_))))); refine cC (by kernel_rfl) rfl (peek_c _ _ _ (by assumption)) rfl ?_; rintro _ wc25 ⟨⟨⟩, xc24⟩; have zc26 := xc24.size; replace hc20 := hc20.ext xc24; replace hc11 := Nd.sits.ext hc11 xc24; replace hc12 := hc12.ext xc24; replace hc5 := hc5.ext xc24; replace X := X.ext xc24; clear xc24; refine lw_pure (pur_field tabOk rfl rfl rfl rfl rfl rfl) rfl (cT (cw_block (cS (lw_pure (pur_seql rfl rfl) rfl (cA rfl rfl (cT ?_)))))); refine cw_no rfl (fun hq9 => absurd (e.symm.trans hq9) (by decide)) ?_
        refine cS (lw_pure (pur_seql rfl rfl) rfl (cA rfl rfl (cT ?_))); refine cw_yes rfl (by assumption) ?_; refine cw_region (cA rfl rfl (lw_nil (qw_block_norm (qw_then (cS (cM rfl rfl (lw_pure (pur_nilCheck rfl) rfl (lw_pure (pur_fieldAddr tabOk rfl rfl rfl) rfl (lw_load_b tabOk rfl rfl rfl (PP.blk hc12) rfl rfl ?_))))))))); refine lw_pure (pur_add rfl rfl (IntWalk.i64_in _ (by omega))) rfl ?_; refine lw_pure (pur_nilCheck rfl) rfl (lw_pure (pur_fieldAddr tabOk rfl rfl rfl) rfl ?_); refine lw_pp_at tabOk rfl rfl rfl rfl (by assumption) h2 ?_; rintro wc27 hc28 fc29; have zc30 := fc29.size; replace hc20 := hc20.fr fc29 (by omega); replace hc11 := Nd.sits.fr hc11 fc29 (by omega); clear hc12; replace hc5 := hc5.fr fc29 (by omega); replace X := X.fr fc29 (by omega); clear fc29; refine cN (cM rfl rfl ?_); refine cR (by kernel_rfl) rfl ((exprs_c c k).expr _ _ _ (by assumption) hf (by decide) (by decide)) (fun _ _ h => h.ret) rfl ?_; rintro _ wc36 ⟨ac31, ⟨kc32, ⟨⟨⟩, ⟨hc33, ⟨hc34, fc35⟩⟩⟩⟩⟩; have zc37 := fc35.size; clear hc28; replace hc20 := hc20.fr fc35 (by omega); replace hc11 := Nd.sits.fr hc11 fc35 (by omega); replace hc5 := hc5.fr fc35 (by omega); replace X := X.fr fc35 (by omega); clear fc35; (refine lw_alloc' [_, _, _, _] zOk rfl rfl ?_; intro bc38 wc39 nc40); (refine lw_init' [_, _, _, _] tabOk rfl rfl rfl rfl rfl rfl nc40 rfl ?_; clear nc40; clear wc39; intro wc41 nc40); have hc42 := nc40.blk; have xc43 := nc40.ext; have pc44 := nc40.pos; have zc45 := nc40.size; clear nc40
        replace hc33 := Nd.sits.ext hc33 xc43; replace hc34 := hc34.ext xc43; replace hc20 := hc20.ext xc43; replace hc11 := Nd.sits.ext hc11 xc43; replace hc5 := hc5.ext xc43; replace X := X.ext xc43; clear xc43; refine cN (cM rfl rfl (lw_loads_b' [_, _, _, _] tabOk rfl rfl rfl hc20 rfl rfl rfl (lw_loads_b' [_, _, _, _] tabOk rfl rfl rfl hc42 rfl rfl rfl ?_))); (refine lw_does (does_slice' [_, _, _, _, _, _, _, _] tabOk zOk rfl rfl rfl rfl rfl rfl rfl rfl rfl) rfl ?_ (fun _ h => h); rintro _ wc47 ⟨bc46, rfl, nc48, tc49⟩); clear tc49; have hc50 := nc48.blk; have xc51 := nc48.ext; have pc52 := nc48.pos; have zc53 := nc48.size; clear nc48; replace hc42 := hc42.ext xc51; replace hc33 := Nd.sits.ext hc33 xc51; replace hc34 := hc34.ext xc51; replace hc20 := hc20.ext xc51; replace hc11 := Nd.sits.ext hc11 xc51; replace hc5 := hc5.ext xc51; replace X := X.ext xc51; clear xc51; refine lw_pure (pur_build' [_, _, _, _] tabOk zOk rfl rfl rfl rfl) rfl ?_; (refine lw_store' [_, _, _, _] [_, _, _, _] tabOk rfl rfl rfl rfl rfl rfl hc5 rfl rfl ?_; intro wc54 nc55); have hc58 := nc55.blk; have fc56 := nc55.fr; have zc57 := nc55.size; clear nc55 hc5; replace hc50 := hc50.fr fc56 (by omega); replace hc42 := hc42.fr fc56 (by omega); replace hc33 := Nd.sits.fr hc33 fc56 (by omega); replace hc34 := hc34.fr fc56 (by omega); replace hc20 := hc20.fr fc56 (by omega); replace hc11 := Nd.sits.fr hc11 fc56 (by omega); replace X := X.fr fc56 (by omega); clear fc56; refine cT (cw_ret (qw_retc rfl tabOk rfl rfl rfl hc58 rfl ?_))
        rotate_left 1
       all_goals exact tree_ret (sits_2 (by assumption) (by omega) (by assumption) (fun b h => by omega) (by assumption) (fun b h => by omega)) (by assumption) X
     · rw [show updKind (peekP c.ts p.2).text = 42 from by rw [e]; decide]
       refine calls_in Tryz.func92 Tryz.ntmps92 rfl rfl ?_
       focus
        refine cS ?_; (refine lw_alloc' [_, _, _, _] zOk rfl rfl ?_; intro bd1 wd2 nd3); have hd5 := nd3.blk; have xd6 := nd3.ext; have pd7 := nd3.pos; have zd8 := nd3.size; clear nd3; replace hP := hP.ext xd6; replace X := X.ext xd6; clear xd6; refine cN (cM rfl rfl ?_); refine cR (by kernel_rfl) rfl (hf1 (by assumption)) (fun _ _ h => h.ret) rfl ?_; rintro _ wd14 ⟨ad9, ⟨kd10, ⟨⟨⟩, ⟨hd11, ⟨hd12, fd13⟩⟩⟩⟩⟩; have zd15 := fd13.size; replace hd5 := hd5.fr fd13 (by omega); clear hP; replace X := X.fr fd13 (by omega); clear fd13; (refine lw_alloc' [_, _, _, _] zOk rfl rfl ?_; intro bd16 wd17 nd18); (refine lw_init' [_, _, _, _] tabOk rfl rfl rfl rfl rfl rfl nd18 rfl ?_; clear nd18; clear wd17; intro wd19 nd18); have hd20 := nd18.blk; have xd21 := nd18.ext; have pd22 := nd18.pos; have zd23 := nd18.size; clear nd18; replace hd11 := Nd.sits.ext hd11 xd21; replace hd12 := hd12.ext xd21; replace hd5 := hd5.ext xd21; replace X := X.ext xd21; clear xd21; refine cN (cA rfl rfl (cT (cw_seq (cS (cM rfl rfl ?_))))); refine cC (by kernel_rfl) rfl (peek_c _ _ _ (by assumption)) rfl ?_; rintro _ wd25 ⟨⟨⟩, xd24⟩; have zd26 := xd24.size; replace hd20 := hd20.ext xd24; replace hd11 := Nd.sits.ext hd11 xd24; replace hd12 := hd12.ext xd24; replace hd5 := hd5.ext xd24; replace X := X.ext xd24; clear xd24; refine lw_pure (pur_field tabOk rfl rfl rfl rfl rfl rfl) rfl (cT (cw_block (cS (lw_pure (pur_seql rfl rfl) rfl (cA rfl rfl (cT ?_)))))); refine cw_no rfl (fun hq9 => absurd (e.symm.trans hq9) (by decide)) ?_
        refine cS (lw_pure (pur_seql rfl rfl) rfl (cA rfl rfl (cT ?_))); refine cw_no rfl (fun hq9 => absurd (e.symm.trans hq9) (by decide)) ?_; refine cS (lw_pure (pur_seql rfl rfl) rfl (cA rfl rfl (cT ?_))); refine cw_yes rfl (by assumption) ?_; refine cw_region (cA rfl rfl (lw_nil (qw_block_norm (qw_then (cS (cM rfl rfl (lw_pure (pur_nilCheck rfl) rfl (lw_pure (pur_fieldAddr tabOk rfl rfl rfl) rfl (lw_load_b tabOk rfl rfl rfl (PP.blk hd12) rfl rfl ?_))))))))); refine lw_pure (pur_add rfl rfl (IntWalk.i64_in _ (by omega))) rfl ?_; refine lw_pure (pur_nilCheck rfl) rfl (lw_pure (pur_fieldAddr tabOk rfl rfl rfl) rfl ?_); refine lw_pp_at tabOk rfl rfl rfl rfl (by assumption) h2 ?_; rintro wd27 hd28 fd29; have zd30 := fd29.size; replace hd20 := hd20.fr fd29 (by omega); replace hd11 := Nd.sits.fr hd11 fd29 (by omega); clear hd12; replace hd5 := hd5.fr fd29 (by omega); replace X := X.fr fd29 (by omega); clear fd29; refine cN (cM rfl rfl ?_); refine cR (by kernel_rfl) rfl ((exprs_c c k).expr _ _ _ (by assumption) hf (by decide) (by decide)) (fun _ _ h => h.ret) rfl ?_; rintro _ wd36 ⟨ad31, ⟨kd32, ⟨⟨⟩, ⟨hd33, ⟨hd34, fd35⟩⟩⟩⟩⟩; have zd37 := fd35.size; clear hd28; replace hd20 := hd20.fr fd35 (by omega); replace hd11 := Nd.sits.fr hd11 fd35 (by omega); replace hd5 := hd5.fr fd35 (by omega); replace X := X.fr fd35 (by omega); clear fd35; (refine lw_alloc' [_, _, _, _] zOk rfl rfl ?_; intro bd38 wd39 nd40); (refine lw_init' [_, _, _, _] tabOk rfl rfl rfl rfl rfl rfl nd40 rfl ?_; clear nd40; clear wd39; intro wd41 nd40)
        have hd42 := nd40.blk; have xd43 := nd40.ext; have pd44 := nd40.pos; have zd45 := nd40.size; clear nd40; replace hd33 := Nd.sits.ext hd33 xd43; replace hd34 := hd34.ext xd43; replace hd20 := hd20.ext xd43; replace hd11 := Nd.sits.ext hd11 xd43; replace hd5 := hd5.ext xd43; replace X := X.ext xd43; clear xd43; refine cN (cM rfl rfl (lw_loads_b' [_, _, _, _] tabOk rfl rfl rfl hd20 rfl rfl rfl (lw_loads_b' [_, _, _, _] tabOk rfl rfl rfl hd42 rfl rfl rfl ?_))); (refine lw_does (does_slice' [_, _, _, _, _, _, _, _] tabOk zOk rfl rfl rfl rfl rfl rfl rfl rfl rfl) rfl ?_ (fun _ h => h); rintro _ wd47 ⟨bd46, rfl, nd48, td49⟩); clear td49; have hd50 := nd48.blk; have xd51 := nd48.ext; have pd52 := nd48.pos; have zd53 := nd48.size; clear nd48; replace hd42 := hd42.ext xd51; replace hd33 := Nd.sits.ext hd33 xd51; replace hd34 := hd34.ext xd51; replace hd20 := hd20.ext xd51; replace hd11 := Nd.sits.ext hd11 xd51; replace hd5 := hd5.ext xd51; replace X := X.ext xd51; clear xd51; refine lw_pure (pur_build' [_, _, _, _] tabOk zOk rfl rfl rfl rfl) rfl ?_; (refine lw_store' [_, _, _, _] [_, _, _, _] tabOk rfl rfl rfl rfl rfl rfl hd5 rfl rfl ?_; intro wd54 nd55); have hd58 := nd55.blk; have fd56 := nd55.fr; have zd57 := nd55.size; clear nd55 hd5; replace hd50 := hd50.fr fd56 (by omega); replace hd42 := hd42.fr fd56 (by omega); replace hd33 := Nd.sits.fr hd33 fd56 (by omega); replace hd34 := hd34.fr fd56 (by omega); replace hd20 := hd20.fr fd56 (by omega); replace hd11 := Nd.sits.fr hd11 fd56 (by omega)
        replace X := X.fr fd56 (by omega); clear fd56; refine cT (cw_ret (qw_retc rfl tabOk rfl rfl rfl hd58 rfl ?_)); rotate_left 1
       all_goals exact tree_ret (sits_2 (by assumption) (by omega) (by assumption) (fun b h => by omega) (by assumption) (fun b h => by omega)) (by assumption) X
     · rw [show updKind (peekP c.ts p.2).text = 56 from by rw [e]; decide]
       refine calls_in Tryz.func92 Tryz.ntmps92 rfl rfl ?_
       focus
        refine cS ?_; (refine lw_alloc' [_, _, _, _] zOk rfl rfl ?_; intro be1 we2 ne3); have he5 := ne3.blk; have xe6 := ne3.ext; have pe7 := ne3.pos; have ze8 := ne3.size; clear ne3; replace hP := hP.ext xe6; replace X := X.ext xe6; clear xe6; refine cN (cM rfl rfl ?_); refine cR (by kernel_rfl) rfl (hf1 (by assumption)) (fun _ _ h => h.ret) rfl ?_; rintro _ we14 ⟨ae9, ⟨ke10, ⟨⟨⟩, ⟨he11, ⟨he12, fe13⟩⟩⟩⟩⟩; have ze15 := fe13.size; replace he5 := he5.fr fe13 (by omega); clear hP; replace X := X.fr fe13 (by omega); clear fe13; (refine lw_alloc' [_, _, _, _] zOk rfl rfl ?_; intro be16 we17 ne18); (refine lw_init' [_, _, _, _] tabOk rfl rfl rfl rfl rfl rfl ne18 rfl ?_; clear ne18; clear we17; intro we19 ne18); have he20 := ne18.blk; have xe21 := ne18.ext; have pe22 := ne18.pos; have ze23 := ne18.size; clear ne18; replace he11 := Nd.sits.ext he11 xe21; replace he12 := he12.ext xe21; replace he5 := he5.ext xe21; replace X := X.ext xe21; clear xe21; refine cN (cA rfl rfl (cT (cw_seq (cS (cM rfl rfl ?_))))); refine cC (by kernel_rfl) rfl (peek_c _ _ _ (by assumption)) rfl ?_; rintro _ we25 ⟨⟨⟩, xe24⟩; have ze26 := xe24.size; replace he20 := he20.ext xe24; replace he11 := Nd.sits.ext he11 xe24; replace he12 := he12.ext xe24; replace he5 := he5.ext xe24; replace X := X.ext xe24; clear xe24; refine lw_pure (pur_field tabOk rfl rfl rfl rfl rfl rfl) rfl (cT (cw_block (cS (lw_pure (pur_seql rfl rfl) rfl (cA rfl rfl (cT ?_)))))); refine cw_no rfl (fun hq9 => absurd (e.symm.trans hq9) (by decide)) ?_
        refine cS (lw_pure (pur_seql rfl rfl) rfl (cA rfl rfl (cT ?_))); refine cw_no rfl (fun hq9 => absurd (e.symm.trans hq9) (by decide)) ?_; refine cS (lw_pure (pur_seql rfl rfl) rfl (cA rfl rfl (cT ?_))); refine cw_no rfl (fun hq9 => absurd (e.symm.trans hq9) (by decide)) ?_; refine cS (lw_pure (pur_seql rfl rfl) rfl (cA rfl rfl (cT ?_))); refine cw_yes rfl (by assumption) ?_; refine cw_region (cA rfl rfl (lw_nil (qw_block_norm (qw_then (cS (cM rfl rfl (lw_pure (pur_nilCheck rfl) rfl (lw_pure (pur_fieldAddr tabOk rfl rfl rfl) rfl (lw_load_b tabOk rfl rfl rfl (PP.blk he12) rfl rfl ?_))))))))); refine lw_pure (pur_add rfl rfl (IntWalk.i64_in _ (by omega))) rfl ?_; refine lw_pure (pur_nilCheck rfl) rfl (lw_pure (pur_fieldAddr tabOk rfl rfl rfl) rfl ?_); refine lw_pp_at tabOk rfl rfl rfl rfl (by assumption) h2 ?_; rintro we27 he28 fe29; have ze30 := fe29.size; replace he20 := he20.fr fe29 (by omega); replace he11 := Nd.sits.fr he11 fe29 (by omega); clear he12; replace he5 := he5.fr fe29 (by omega); replace X := X.fr fe29 (by omega); clear fe29; refine cN (cM rfl rfl ?_); refine cR (by kernel_rfl) rfl ((exprs_c c k).expr _ _ _ (by assumption) hf (by decide) (by decide)) (fun _ _ h => h.ret) rfl ?_; rintro _ we36 ⟨ae31, ⟨ke32, ⟨⟨⟩, ⟨he33, ⟨he34, fe35⟩⟩⟩⟩⟩; have ze37 := fe35.size; clear he28; replace he20 := he20.fr fe35 (by omega); replace he11 := Nd.sits.fr he11 fe35 (by omega); replace he5 := he5.fr fe35 (by omega); replace X := X.fr fe35 (by omega); clear fe35; (refine lw_alloc' [_, _, _, _] zOk rfl rfl ?_; intro be38 we39 ne40)
        (refine lw_init' [_, _, _, _] tabOk rfl rfl rfl rfl rfl rfl ne40 rfl ?_; clear ne40; clear we39; intro we41 ne40); have he42 := ne40.blk; have xe43 := ne40.ext; have pe44 := ne40.pos; have ze45 := ne40.size; clear ne40; replace he33 := Nd.sits.ext he33 xe43; replace he34 := he34.ext xe43; replace he20 := he20.ext xe43; replace he11 := Nd.sits.ext he11 xe43; replace he5 := he5.ext xe43; replace X := X.ext xe43; clear xe43; refine cN (cM rfl rfl (lw_loads_b' [_, _, _, _] tabOk rfl rfl rfl he20 rfl rfl rfl (lw_loads_b' [_, _, _, _] tabOk rfl rfl rfl he42 rfl rfl rfl ?_))); (refine lw_does (does_slice' [_, _, _, _, _, _, _, _] tabOk zOk rfl rfl rfl rfl rfl rfl rfl rfl rfl) rfl ?_ (fun _ h => h); rintro _ we47 ⟨be46, rfl, ne48, te49⟩); clear te49; have he50 := ne48.blk; have xe51 := ne48.ext; have pe52 := ne48.pos; have ze53 := ne48.size; clear ne48; replace he42 := he42.ext xe51; replace he33 := Nd.sits.ext he33 xe51; replace he34 := he34.ext xe51; replace he20 := he20.ext xe51; replace he11 := Nd.sits.ext he11 xe51; replace he5 := he5.ext xe51; replace X := X.ext xe51; clear xe51; refine lw_pure (pur_build' [_, _, _, _] tabOk zOk rfl rfl rfl rfl) rfl ?_; (refine lw_store' [_, _, _, _] [_, _, _, _] tabOk rfl rfl rfl rfl rfl rfl he5 rfl rfl ?_; intro we54 ne55); have he58 := ne55.blk; have fe56 := ne55.fr; have ze57 := ne55.size; clear ne55 he5; replace he50 := he50.fr fe56 (by omega); replace he42 := he42.fr fe56 (by omega); replace he33 := Nd.sits.fr he33 fe56 (by omega)
        replace he34 := he34.fr fe56 (by omega); replace he20 := he20.fr fe56 (by omega); replace he11 := Nd.sits.fr he11 fe56 (by omega); replace X := X.fr fe56 (by omega); clear fe56; refine cT (cw_ret (qw_retc rfl tabOk rfl rfl rfl he58 rfl ?_)); rotate_left 1
       all_goals exact tree_ret (sits_2 (by assumption) (by omega) (by assumption) (fun b h => by omega) (by assumption) (fun b h => by omega)) (by assumption) X
end Bk
namespace Bk
open Go Go.RowKit Go.Proofs
attribute [local irreducible] Go.Calls
theorem peek_len_of {c : PC} {σ : PS} {w : World} (hP : PP c σ w) (ρ : PS) : (peekP c.ts ρ).text.length ≤ 1000000 := by
 unfold peekP
 split
 · simp [Tok.zero]
 · rw [List.getD_eq_getElem?_getD]
   rcases Nat.lt_or_ge ρ.at_ c.ts.length with h | h
   · rw [List.getElem?_eq_getElem h]; exact hP.tok _ (List.getElem_mem h)
   · rw [List.getElem?_eq_none h]; simp [Tok.zero]
set_option maxRecDepth 100000 in
set_option maxHeartbeats 2000000 in
theorem callStmt_c (c : PC) (k : Nat) (kind : Int) (σ : PS) (w : World) (hP : PP c σ w) (hi : In c.ts σ) (hk : 4 * mS c.ts σ ≤ k) :
 Calls Tryz.prog 89 #[.pointer (some ⟨c.pb, 0, none⟩), .int .u8 kind] w (TreeR c w (callP c.ts c.n k kind σ)) := by
 have X := Fr.refl (· = c.pb) w; have hpb := hP.pbB; have hB := hP.B; have hlen := hP.len; have h2 := hi.2; have hm := mS_next hi; have hl1 := next_le hi; have hl2 := hl1.trans (name_le (n := c.n) hl1.wf); have hl3 := hl2.trans (expect_le (n := c.n) (t := [40]) hl2.wf (by decide))
 unfold callP
 dsimp only
 generalize hM : nameP c.ts c.n (nextP σ) = M at *
 have hname : ∀ {w' : World}, PP c (nextP σ) w' → Calls Tryz.prog 105 #[.pointer (some ⟨c.pb, 0, none⟩)] w' fun r w'' => r = .returned (str M.1) ∧ PP c M.2 w'' ∧ Fr (· = c.pb) w' w'' := fun h => hM ▸ name_c c _ _ h
 cases hh : hasP c.ts (expectP c.ts c.n M.2 [40]) [41]
 case true =>
  simp only [if_true]; refine calls_in Tryz.func89 Tryz.ntmps89 rfl rfl ?_
  focus
   refine cS ?_; (refine lw_alloc' [_, _, _, _] zOk rfl rfl ?_; intro b1 w2 n3); have h5 := n3.blk; have x6 := n3.ext; have p7 := n3.pos; have z8 := n3.size; clear n3; replace hP := hP.ext x6; replace X := X.ext x6; clear x6; refine cN (cM rfl rfl (lw_pure (pur_nilCheck rfl) rfl (lw_pure (pur_fieldAddr tabOk rfl rfl rfl) rfl (lw_load_b tabOk rfl rfl rfl (PP.blk hP) rfl rfl ?_)))); refine lw_pure (pur_add rfl rfl (IntWalk.i64_in _ (by omega))) rfl ?_; refine lw_pure (pur_nilCheck rfl) rfl (lw_pure (pur_fieldAddr tabOk rfl rfl rfl) rfl ?_); refine lw_pp_at tabOk rfl rfl rfl rfl (by assumption) h2 ?_; rintro w9 h10 f11; have z12 := f11.size; replace h5 := h5.fr f11 (by omega); clear hP; replace X := X.fr f11 (by omega); clear f11; refine cN (cM rfl rfl (cM rfl rfl ?_)); refine cC (by kernel_rfl) rfl (hname (by assumption)) rfl ?_; rintro _ w15 ⟨⟨⟩, ⟨h13, f14⟩⟩; have z16 := f14.size; clear h10; replace h5 := h5.fr f14 (by omega); replace X := X.fr f14 (by omega); clear f14; refine lw_pure (pur_build' [_, _, _, _] tabOk zOk rfl rfl rfl rfl) rfl ?_; (refine lw_alloc' [_, _, _, _] zOk rfl rfl ?_; intro b17 w18 n19); (refine lw_init' [_, _, _, _] tabOk rfl rfl rfl rfl rfl rfl n19 rfl ?_; clear n19; clear w18; intro w20 n19); have h21 := n19.blk; have x22 := n19.ext; have p23 := n19.pos; have z24 := n19.size; clear n19; replace h13 := h13.ext x22; replace h5 := h5.ext x22; replace X := X.ext x22; clear x22; refine cN (cM rfl rfl ?_); refine cC (by kernel_rfl) rfl (expect_c _ _ _ _ (by assumption) (by decide)) rfl ?_
   rintro _ w27 ⟨⟨⟩, ⟨h25, f26⟩⟩; have z28 := f26.size; replace h21 := h21.fr f26 (by omega); clear h13; replace h5 := h5.fr f26 (by omega); replace X := X.fr f26 (by omega); clear f26; refine cT (cw_seq (cS (cM rfl rfl ?_))); refine cC (by kernel_rfl) rfl (accept_t _ _ _ _ (by assumption) (by decide) (by assumption)) rfl ?_; rintro _ w31 ⟨⟨⟩, ⟨h29, f30⟩⟩; have z32 := f30.size; clear h25; replace h21 := h21.fr f30 (by omega); replace h5 := h5.fr f30 (by omega); replace X := X.fr f30 (by omega); clear f30; refine cT (cw_cond_t rfl (cS (lw_loads_b' [_, _, _, _] tabOk rfl rfl rfl h21 rfl rfl rfl ?_))); (refine lw_store' [_, _, _, _] [_, _, _, _] tabOk rfl rfl rfl rfl rfl rfl h5 rfl rfl ?_; intro w33 n34); have h37 := n34.blk; have f35 := n34.fr; have z36 := n34.size; clear n34 h5; replace h29 := h29.fr f35 (by omega); replace h21 := h21.fr f35 (by omega); replace X := X.fr f35 (by omega); clear f35; refine cT (cw_ret (qw_then_ret (qw_retc rfl tabOk rfl rfl rfl h37 rfl ?_))); rotate_left 1
  exact tree_ret sits_nil (by assumption) X
 simp only [Bool.false_eq_true, if_false]; refine calls_in Tryz.func89 Tryz.ntmps89 rfl rfl ?_
 focus
  refine cS ?_; (refine lw_alloc' [_, _, _, _] zOk rfl rfl ?_; intro ba1 wa2 na3); have ha5 := na3.blk; have xa6 := na3.ext; have pa7 := na3.pos; have za8 := na3.size; clear na3; replace hP := hP.ext xa6; replace X := X.ext xa6; clear xa6; refine cN (cM rfl rfl (lw_pure (pur_nilCheck rfl) rfl (lw_pure (pur_fieldAddr tabOk rfl rfl rfl) rfl (lw_load_b tabOk rfl rfl rfl (PP.blk hP) rfl rfl ?_)))); refine lw_pure (pur_add rfl rfl (IntWalk.i64_in _ (by omega))) rfl ?_; refine lw_pure (pur_nilCheck rfl) rfl (lw_pure (pur_fieldAddr tabOk rfl rfl rfl) rfl ?_); refine lw_pp_at tabOk rfl rfl rfl rfl (by assumption) h2 ?_; rintro wa9 ha10 fa11; have za12 := fa11.size; replace ha5 := ha5.fr fa11 (by omega); clear hP; replace X := X.fr fa11 (by omega); clear fa11; refine cN (cM rfl rfl (cM rfl rfl ?_)); refine cC (by kernel_rfl) rfl (hname (by assumption)) rfl ?_; rintro _ wa15 ⟨⟨⟩, ⟨ha13, fa14⟩⟩; have za16 := fa14.size; clear ha10; replace ha5 := ha5.fr fa14 (by omega); replace X := X.fr fa14 (by omega); clear fa14; refine lw_pure (pur_build' [_, _, _, _] tabOk zOk rfl rfl rfl rfl) rfl ?_; (refine lw_alloc' [_, _, _, _] zOk rfl rfl ?_; intro ba17 wa18 na19); (refine lw_init' [_, _, _, _] tabOk rfl rfl rfl rfl rfl rfl na19 rfl ?_; clear na19; clear wa18; intro wa20 na19); have ha21 := na19.blk; have xa22 := na19.ext; have pa23 := na19.pos; have za24 := na19.size; clear na19; replace ha13 := ha13.ext xa22; replace ha5 := ha5.ext xa22; replace X := X.ext xa22; clear xa22; refine cN (cM rfl rfl ?_)
  refine cC (by kernel_rfl) rfl (expect_c _ _ _ _ (by assumption) (by decide)) rfl ?_; rintro _ wa27 ⟨⟨⟩, ⟨ha25, fa26⟩⟩; have za28 := fa26.size; replace ha21 := ha21.fr fa26 (by omega); clear ha13; replace ha5 := ha5.fr fa26 (by omega); replace X := X.fr fa26 (by omega); clear fa26; refine cT (cw_seq (cS (cM rfl rfl ?_))); refine cC (by kernel_rfl) rfl (accept_f _ _ _ _ (by assumption) (by decide) (by assumption)) rfl ?_; rintro _ wa31 ⟨⟨⟩, ⟨ha29, fa30⟩⟩; have za32 := fa30.size; clear ha25; replace ha21 := ha21.fr fa30 (by omega); replace ha5 := ha5.fr fa30 (by omega); replace X := X.fr fa30 (by omega); clear fa30; refine cT (cw_cond_f rfl (cw_skip (qw_then (cw_seq ?_)))); (refine cw_tdraw (fun wz => Fr (· = c.pb) wa31 wz) 5 (.pure 0 (.pure 1 (.pure 2 (.fork 3 (.fork 4 .tail .none) .none)))) mixed (by kernel_rfl) (panicOk_then panicOk_body) ?_; intro wa33 xa34 _); have qsa35 : (fun wz => Fr (· = c.pb) wa31 wz) wa33 := Fr.of_ext xa34; simp only at qsa35; have d_ha29 := ha29; have d_ha21 := ha21; have d_ha5 := ha5; have za36 := xa34.size; replace ha29 := ha29.ext xa34; replace ha21 := ha21.ext xa34; replace ha5 := ha5.ext xa34; replace X := X.ext xa34; clear xa34; refine ⟨qsa35, ?_⟩; refine tw_pure rfl (pur_fieldAddr tabOk rfl rfl rfl) rfl ?_; refine tw_pure rfl (pur_load tabOk rfl rfl rfl (fun wz hz => Blk.cell (Blk.fr d_ha21 hz (by omega)) rfl)) rfl ?_; refine tw_pure rfl (pur_move rfl) rfl ?_; refine tw_does rfl (does_call (by kernel_rfl) rfl (argument_c _ _ _ (by assumption)) (fun _ _ h => h.ret)) rfl ?_ (fun _ h => h) tw_none
  rintro _ wa42 ⟨aa37, ⟨ka38, ⟨⟨⟩, ⟨ha39, ⟨ha40, fa41⟩⟩⟩⟩⟩; have za43 := fa41.size; replace qsa35 := qsa35.fr fa41 (by omega); clear ha29; replace ha21 := ha21.fr fa41 (by omega); replace ha5 := ha5.fr fa41 (by omega); replace X := X.fr fa41 (by omega); clear fa41; refine ⟨qsa35, ?_⟩; (refine tw_does rfl (does_slice' [_, _, _, _] tabOk zOk rfl rfl rfl rfl rfl rfl rfl rfl rfl) rfl ?_ (fun _ h => h) tw_none; rintro _ wa45 ⟨ba44, rfl, na46, ta47⟩); clear ta47; have ha48 := na46.blk; have xa49 := na46.ext; have pa50 := na46.pos; have za51 := na46.size; clear na46; replace ha39 := Nd.sits.ext ha39 xa49; replace ha40 := ha40.ext xa49; replace qsa35 := qsa35.ext xa49; replace ha21 := ha21.ext xa49; replace ha5 := ha5.ext xa49; replace X := X.ext xa49; clear xa49; refine ⟨qsa35, ?_⟩; clear d_ha29 d_ha21 d_ha5 qsa35; refine tw_tail rfl ?_; rotate_left 1
 refine lw_appendL (sh := ndShape) (B := ba17 + 1) tabOk zOk rfl rfl rfl rfl (by kernel_rfl) rfl rfl rfl OwnL.nil (Blk.row ha48) ⟨_, _, rfl, sits_nil⟩ (by simp) (by omega) rfl ?_; intro g cap wA hown fA; have zA := fA.size; replace ha40 := ha40.fr fA (fun k hk => by omega); replace ha21 := ha21.fr fA (by omega); replace ha5 := ha5.fr fA (by omega); replace X := X.fr fA (fun k hk => Or.inr (by omega)); clear fA ha48 ha39
 focus
  refine lw_pure (pur_fieldAddr tabOk rfl rfl rfl) rfl ?_; (refine lw_store' [_] [_, _, _, _] tabOk rfl rfl rfl rfl rfl rfl ha21 rfl rfl ?_; intro wb1 nb2); have hb5 := nb2.blk; have fb3 := nb2.fr; have zb4 := nb2.size; clear nb2 ha21; replace hown := hown.fr fb3 (by omega); replace ha40 := ha40.fr fb3 (by omega); replace ha5 := ha5.fr fb3 (by omega); replace X := X.fr fb3 (by omega); clear fb3; refine cT (cw_seq (cw_block ?_)); rotate_left 1
 generalize ha : argP c.ts c.n (expectP c.ts c.n M.2 [40]) = A at *
 have hA : Le c.ts σ A.2 := by rw [← ha]; exact hl3.trans (name_le (n := c.n) hl3.wf)
 have hl4 := mS_le hA
 have hmt : mS c.ts σ ≤ c.ts.length := by unfold mS; split <;> omega
 refine cw_loop (ι := Nat × List Nd × Nat × Nat × PS) (fun _ => [(0, .pointer (some ⟨c.pb, 0, none⟩)), (4, .pointer (some ⟨ba1, 0, none⟩)), (5, .pointer (some ⟨ba17, 0, none⟩))])
  (fun x w' => PP c x.2.2.2.2 w' ∧ Blk w' ba17 [.int .u8 kind, .int .i64 0, str M.1, .slice (some ⟨x.2.2.1, 0, none⟩) x.2.1.length x.2.2.2.1] ∧ OwnL ndShape w' (ba17 + 1) 27 (.slice (some ⟨x.2.2.1, 0, none⟩) x.2.1.length x.2.2.2.1) x.2.1 ∧
   Blk w' ba1 [.int .u8 0, .int .i64 0, .string ⟨#[]⟩, .slice none 0 0] ∧ Fr (· = c.pb) w w' ∧ wb1.heap.size ≤ w'.heap.size ∧
   argsP c.ts c.n k [A.1] A.2 = argsP c.ts c.n x.1 x.2.1 x.2.2.2.2 ∧ mS c.ts x.2.2.2.2 + 1 ≤ x.1 ∧ x.2.1.length + mS c.ts x.2.2.2.2 ≤ 1000001) (fun x => x.1) (k, [A.1], g, cap, A.2) (by (refine sub_cons rfl ?_; refine sub_cons rfl ?_; refine sub_cons rfl ?_; exact sub_nil))
  ⟨by assumption, hb5, hown, by assumption, X, Nat.le_refl _, rfl, by simp only; omega, by simp only [List.length_cons, List.length_nil]; omega⟩ ?_
 rintro ⟨j, acc, g, cap, σ'⟩ w1 ⟨hP, hbn, hown, hbr, X, hz, he, hfj, hacc⟩; simp only at hP hbn hown he hfj hacc; clear hb5 hM hname; rw [he]; obtain ⟨j, rfl⟩ : ∃ i, j = i + 1 := ⟨j - 1, by omega⟩
 cases hc : hasP c.ts σ' [44]
 case false =>
  rw [show argsP c.ts c.n (j + 1) acc σ' = (acc, σ') from by rw [argsP]; simp [hc]]
  focus
   refine cw_seq (cS (cM rfl rfl ?_)); refine cC (by kernel_rfl) rfl (accept_f _ _ _ _ (by assumption) (by decide) (by assumption)) rfl ?_; rintro _ wc3 ⟨⟨⟩, ⟨hc1, fc2⟩⟩; have zc4 := fc2.size; clear hP; replace hbn := hbn.fr fc2 (by omega); replace hown := hown.fr fc2 (by omega); replace hbr := hbr.fr fc2 (by omega); replace X := X.fr fc2 (by omega); clear fc2; refine cT (cw_cond_f rfl (cw_exit (qw_then_exit (qw_then_exit (qw_block_exit (qw_then (cS (cM rfl rfl ?_)))))))); refine cC (by kernel_rfl) rfl (expect_c _ _ _ _ (by assumption) (by decide)) rfl ?_; rintro _ wc7 ⟨⟨⟩, ⟨hc5, fc6⟩⟩; have zc8 := fc6.size; clear hc1; replace hbn := hbn.fr fc6 (by omega); replace hown := hown.fr fc6 (by omega); replace hbr := hbr.fr fc6 (by omega); replace X := X.fr fc6 (by omega); clear fc6; refine cN (lw_loads_b' [_, _, _, _] tabOk rfl rfl rfl hbn rfl rfl rfl ?_); (refine lw_store' [_, _, _, _] [_, _, _, _] tabOk rfl rfl rfl rfl rfl rfl hbr rfl rfl ?_; intro wc9 nc10); have hc13 := nc10.blk; have fc11 := nc10.fr; have zc12 := nc10.size; clear nc10 hbr; replace hc5 := hc5.fr fc11 (by omega); replace hbn := hbn.fr fc11 (by omega); replace hown := hown.fr fc11 (by omega); replace X := X.fr fc11 (by omega); clear fc11; refine cT (cw_ret (qw_retc rfl tabOk rfl rfl rfl hc13 rfl ?_)); rotate_left 1
  exact tree_ret (sits_mk (hown.sits (fun b h => by omega))) (by assumption) X
 have hin := has_in hP.at_ hc (by decide); have hmn := mS_next hin; have hnl := peek_len_of hP (nextP σ')
 by_cases h8 : acc.length = 8
 · cases hnm : isName (peekP c.ts (nextP σ')).text
   · rw [show argsP c.ts c.n (j + 1) acc σ' = argsP c.ts c.n j (acc ++ [(argP c.ts c.n (nextP σ')).1]) (argP c.ts c.n (nextP σ')).2 from by rw [argsP]; simp [hc, h8, hnm]]
     have hml := mS_le (name_le (n := c.n) (show (nextP σ').at_ ≤ c.ts.length from hin.2)); have hml2 : mS c.ts (argP c.ts c.n (nextP σ')).2 ≤ mS c.ts (nextP σ') := hml
     focus
      refine cw_seq (cS (cM rfl rfl ?_)); refine cC (by kernel_rfl) rfl (accept_t _ _ _ _ (by assumption) (by decide) (by assumption)) rfl ?_; rintro _ wd3 ⟨⟨⟩, ⟨hd1, fd2⟩⟩; have zd4 := fd2.size; clear hP; replace hbn := hbn.fr fd2 (by omega); replace hown := hown.fr fd2 (by omega); replace hbr := hbr.fr fd2 (by omega); replace X := X.fr fd2 (by omega); clear fd2; refine cT (cw_cond_t rfl (cw_skip (qw_then (cw_block (cw_seq (cS (cM rfl rfl ?_))))))); refine cC (by kernel_rfl) rfl (peek_c _ _ _ (by assumption)) rfl ?_; rintro _ wd6 ⟨⟨⟩, xd5⟩; have zd7 := xd5.size; replace hd1 := hd1.ext xd5; replace hbn := hbn.ext xd5; replace hown := hown.ext xd5; replace hbr := hbr.ext xd5; replace X := X.ext xd5; clear xd5; (refine lw_alloc' [_, _, _] zOk rfl rfl ?_; intro bd8 wd9 nd10); (refine lw_init' [_, _, _] tabOk rfl rfl rfl rfl rfl rfl nd10 rfl ?_; clear nd10; clear wd9; intro wd11 nd10); have hd12 := nd10.blk; have xd13 := nd10.ext; have pd14 := nd10.pos; have zd15 := nd10.size; clear nd10; replace hd1 := hd1.ext xd13; replace hbn := hbn.ext xd13; replace hown := hown.ext xd13; replace hbr := hbr.ext xd13; replace X := X.ext xd13; clear xd13; refine cN (lw_pure (pur_fieldAddr tabOk rfl rfl rfl) rfl (lw_load_b tabOk rfl rfl rfl hbn rfl rfl (lw_pure (pur_len_slice tabOk rfl rfl) rfl (lw_pure (pur_eql rfl rfl) rfl (cM rfl rfl ?_))))); refine lw_on rfl rfl rfl (gd_tt (by omega)) ?_; refine lw_pure (pur_fieldAddr tabOk rfl rfl rfl) rfl ?_; refine lw_on rfl rfl rfl (gd_tt (by omega)) ?_; refine lw_load_b tabOk rfl rfl rfl hd12 rfl rfl ?_
      refine lw_on rfl rfl rfl (gd_tt (by omega)) ?_; refine cC (by kernel_rfl) rfl (Name_c _ _ (by omega)) rfl ?_; rintro _ wd17 ⟨⟨⟩, xd16⟩; have zd18 := xd16.size; replace hd12 := hd12.ext xd16; replace hd1 := hd1.ext xd16; replace hbn := hbn.ext xd16; replace hown := hown.ext xd16; replace hbr := hbr.ext xd16; replace X := X.ext xd16; clear xd16; refine lw_pure (pur_pick_yes rfl rfl (by omega)) rfl ?_; refine cT ?_; refine cw_bf rfl (by assumption) ?_; refine cw_skip (qw_then ?_); (refine cw_tdraw (fun wz => Fr (· = c.pb) wd17 wz) 5 (.pure 0 (.pure 1 (.pure 2 (.fork 3 (.fork 4 .tail .none) .none)))) mixed (by kernel_rfl) (panicOk_block (panicOk_then (panicOk_block (panicOk_then panicOk_body)))) ?_; intro wd19 xd20 _); have qsd21 : (fun wz => Fr (· = c.pb) wd17 wz) wd19 := Fr.of_ext xd20; simp only at qsd21; have d_hd12 := hd12; have d_hd1 := hd1; have d_hbn := hbn; have d_hown := hown; have d_hbr := hbr; have zd22 := xd20.size; replace hd12 := hd12.ext xd20; replace hd1 := hd1.ext xd20; replace hbn := hbn.ext xd20; replace hown := hown.ext xd20; replace hbr := hbr.ext xd20; replace X := X.ext xd20; clear xd20; refine ⟨qsd21, ?_⟩; refine tw_pure rfl (pur_fieldAddr tabOk rfl rfl rfl) rfl ?_; refine tw_pure rfl (pur_load tabOk rfl rfl rfl (fun wz hz => Blk.cell (Blk.fr d_hbn hz (by omega)) rfl)) rfl ?_; refine tw_pure rfl (pur_move rfl) rfl ?_; refine tw_does rfl (does_call (by kernel_rfl) rfl (argument_c _ _ _ (by assumption)) (fun _ _ h => h.ret)) rfl ?_ (fun _ h => h) tw_none
      rintro _ wd28 ⟨ad23, ⟨kd24, ⟨⟨⟩, ⟨hd25, ⟨hd26, fd27⟩⟩⟩⟩⟩; have zd29 := fd27.size; replace qsd21 := qsd21.fr fd27 (by omega); replace hd12 := hd12.fr fd27 (by omega); clear hd1; replace hbn := hbn.fr fd27 (by omega); replace hown := hown.fr fd27 (by omega); replace hbr := hbr.fr fd27 (by omega); replace X := X.fr fd27 (by omega); clear fd27; refine ⟨qsd21, ?_⟩; (refine tw_does rfl (does_slice' [_, _, _, _] tabOk zOk rfl rfl rfl rfl rfl rfl rfl rfl rfl) rfl ?_ (fun _ h => h) tw_none; rintro _ wd31 ⟨bd30, rfl, nd32, td33⟩); clear td33; have hd34 := nd32.blk; have xd35 := nd32.ext; have pd36 := nd32.pos; have zd37 := nd32.size; clear nd32; replace hd25 := Nd.sits.ext hd25 xd35; replace hd26 := hd26.ext xd35; replace qsd21 := qsd21.ext xd35; replace hd12 := hd12.ext xd35; replace hbn := hbn.ext xd35; replace hown := hown.ext xd35; replace hbr := hbr.ext xd35; replace X := X.ext xd35; clear xd35; refine ⟨qsd21, ?_⟩; clear d_hd12 d_hd1 d_hbn d_hown d_hbr qsd21; refine tw_tail rfl ?_; refine lw_appendL (sh := ndShape) tabOk zOk rfl rfl rfl rfl (by kernel_rfl) rfl rfl rfl hown (Blk.row (by assumption)) ⟨_, _, rfl, sits_nil⟩ (by omega) (by omega) rfl ?_; rintro gd38 cap'd39 wd40 hd41 fd42; have zd43 := fd42.size; clear hd34 hd25; replace hd26 := hd26.fr fd42 (by omega); clear hd12; replace hbn := hbn.fr fd42 (by omega); clear hown; replace hbr := hbr.fr fd42 (by omega); replace X := X.fr fd42 (by omega); clear fd42; refine lw_pure (pur_fieldAddr tabOk rfl rfl rfl) rfl ?_; (refine lw_store' [_] [_, _, _, _] tabOk rfl rfl rfl rfl rfl rfl hbn rfl rfl ?_; intro wd44 nd45)
      have hd48 := nd45.blk; have fd46 := nd45.fr; have zd47 := nd45.size; clear nd45 hbn; replace hd41 := hd41.fr fd46 (by omega); replace hd26 := hd26.fr fd46 (by omega); replace hbr := hbr.fr fd46 (by omega); replace X := X.fr fd46 (by omega); clear fd46; refine lw_nil (qw_block_norm ?_); rotate_left 1
     refine qw_round (j, acc ++ [(argP c.ts c.n (nextP σ')).1], _, _, (argP c.ts c.n (nextP σ')).2) (by (refine sub_cons rfl ?_; refine sub_cons rfl ?_; refine sub_cons rfl ?_; exact sub_nil)) ⟨by assumption, by assumption, by assumption, by assumption, X, by omega, rfl, by simp only; omega, by simp only [List.length_append, List.length_cons, List.length_nil]; omega⟩ (by simp)
   · rw [show argsP c.ts c.n (j + 1) acc σ' = argsP c.ts c.n j (acc ++ [(argP c.ts c.n (failP (nextP σ') (peekP c.ts (nextP σ')).pos 5)).1]) (argP c.ts c.n (failP (nextP σ') (peekP c.ts (nextP σ')).pos 5)).2 from by rw [argsP]; simp [hc, h8, hnm]]
     have hfl := fail_le (show (nextP σ').at_ ≤ c.ts.length from hin.2) (peekP c.ts (nextP σ')).pos 5; have hml := mS_le (hfl.trans (name_le (n := c.n) hfl.wf)); have hml2 : mS c.ts (argP c.ts c.n (failP (nextP σ') (peekP c.ts (nextP σ')).pos 5)).2 ≤ mS c.ts (nextP σ') := hml
     focus
      refine cw_seq (cS (cM rfl rfl ?_)); refine cC (by kernel_rfl) rfl (accept_t _ _ _ _ (by assumption) (by decide) (by assumption)) rfl ?_; rintro _ we3 ⟨⟨⟩, ⟨he1, fe2⟩⟩; have ze4 := fe2.size; clear hP; replace hbn := hbn.fr fe2 (by omega); replace hown := hown.fr fe2 (by omega); replace hbr := hbr.fr fe2 (by omega); replace X := X.fr fe2 (by omega); clear fe2; refine cT (cw_cond_t rfl (cw_skip (qw_then (cw_block (cw_seq (cS (cM rfl rfl ?_))))))); refine cC (by kernel_rfl) rfl (peek_c _ _ _ (by assumption)) rfl ?_; rintro _ we6 ⟨⟨⟩, xe5⟩; have ze7 := xe5.size; replace he1 := he1.ext xe5; replace hbn := hbn.ext xe5; replace hown := hown.ext xe5; replace hbr := hbr.ext xe5; replace X := X.ext xe5; clear xe5; (refine lw_alloc' [_, _, _] zOk rfl rfl ?_; intro be8 we9 ne10); (refine lw_init' [_, _, _] tabOk rfl rfl rfl rfl rfl rfl ne10 rfl ?_; clear ne10; clear we9; intro we11 ne10); have he12 := ne10.blk; have xe13 := ne10.ext; have pe14 := ne10.pos; have ze15 := ne10.size; clear ne10; replace he1 := he1.ext xe13; replace hbn := hbn.ext xe13; replace hown := hown.ext xe13; replace hbr := hbr.ext xe13; replace X := X.ext xe13; clear xe13; refine cN (lw_pure (pur_fieldAddr tabOk rfl rfl rfl) rfl (lw_load_b tabOk rfl rfl rfl hbn rfl rfl (lw_pure (pur_len_slice tabOk rfl rfl) rfl (lw_pure (pur_eql rfl rfl) rfl (cM rfl rfl ?_))))); refine lw_on rfl rfl rfl (gd_tt (by omega)) ?_; refine lw_pure (pur_fieldAddr tabOk rfl rfl rfl) rfl ?_; refine lw_on rfl rfl rfl (gd_tt (by omega)) ?_; refine lw_load_b tabOk rfl rfl rfl he12 rfl rfl ?_
      refine lw_on rfl rfl rfl (gd_tt (by omega)) ?_; refine cC (by kernel_rfl) rfl (Name_c _ _ (by omega)) rfl ?_; rintro _ we17 ⟨⟨⟩, xe16⟩; have ze18 := xe16.size; replace he12 := he12.ext xe16; replace he1 := he1.ext xe16; replace hbn := hbn.ext xe16; replace hown := hown.ext xe16; replace hbr := hbr.ext xe16; replace X := X.ext xe16; clear xe16; refine lw_pure (pur_pick_yes rfl rfl (by omega)) rfl ?_; refine cT ?_; refine cw_bt rfl (by assumption) ?_; refine cw_region (cM rfl rfl (lw_pure (pur_fieldAddr tabOk rfl rfl rfl) rfl (lw_load_b tabOk rfl rfl rfl he12 rfl rfl ?_))); refine cC (by kernel_rfl) rfl (fail_c _ _ _ _ _ (by assumption)) rfl ?_; rintro _ we21 ⟨⟨⟩, ⟨he19, fe20⟩⟩; have ze22 := fe20.size; replace he12 := he12.fr fe20 (by omega); clear he1; replace hbn := hbn.fr fe20 (by omega); replace hown := hown.fr fe20 (by omega); replace hbr := hbr.fr fe20 (by omega); replace X := X.fr fe20 (by omega); clear fe20; refine cT ?_; (refine cw_tdraw (fun wz => Fr (· = c.pb) we21 wz) 5 (.pure 0 (.pure 1 (.pure 2 (.fork 3 (.fork 4 .tail .none) .none)))) mixed (by kernel_rfl) (panicOk_block (panicOk_then (panicOk_block (panicOk_then panicOk_body)))) ?_; intro we23 xe24 _); have qse25 : (fun wz => Fr (· = c.pb) we21 wz) we23 := Fr.of_ext xe24; simp only at qse25; have d_he19 := he19; have d_he12 := he12; have d_hbn := hbn; have d_hown := hown; have d_hbr := hbr; have ze26 := xe24.size; replace he19 := he19.ext xe24; replace he12 := he12.ext xe24; replace hbn := hbn.ext xe24; replace hown := hown.ext xe24
      replace hbr := hbr.ext xe24; replace X := X.ext xe24; clear xe24; refine ⟨qse25, ?_⟩; refine tw_pure rfl (pur_fieldAddr tabOk rfl rfl rfl) rfl ?_; refine tw_pure rfl (pur_load tabOk rfl rfl rfl (fun wz hz => Blk.cell (Blk.fr d_hbn hz (by omega)) rfl)) rfl ?_; refine tw_pure rfl (pur_move rfl) rfl ?_; refine tw_does rfl (does_call (by kernel_rfl) rfl (argument_c _ _ _ (by assumption)) (fun _ _ h => h.ret)) rfl ?_ (fun _ h => h) tw_none; rintro _ we32 ⟨ae27, ⟨ke28, ⟨⟨⟩, ⟨he29, ⟨he30, fe31⟩⟩⟩⟩⟩; have ze33 := fe31.size; replace qse25 := qse25.fr fe31 (by omega); clear he19; replace he12 := he12.fr fe31 (by omega); replace hbn := hbn.fr fe31 (by omega); replace hown := hown.fr fe31 (by omega); replace hbr := hbr.fr fe31 (by omega); replace X := X.fr fe31 (by omega); clear fe31; refine ⟨qse25, ?_⟩; (refine tw_does rfl (does_slice' [_, _, _, _] tabOk zOk rfl rfl rfl rfl rfl rfl rfl rfl rfl) rfl ?_ (fun _ h => h) tw_none; rintro _ we35 ⟨be34, rfl, ne36, te37⟩); clear te37; have he38 := ne36.blk; have xe39 := ne36.ext; have pe40 := ne36.pos; have ze41 := ne36.size; clear ne36; replace he29 := Nd.sits.ext he29 xe39; replace he30 := he30.ext xe39; replace qse25 := qse25.ext xe39; replace he12 := he12.ext xe39; replace hbn := hbn.ext xe39; replace hown := hown.ext xe39; replace hbr := hbr.ext xe39; replace X := X.ext xe39; clear xe39; refine ⟨qse25, ?_⟩; clear d_he19 d_he12 d_hbn d_hown d_hbr qse25; refine tw_tail rfl ?_; refine lw_appendL (sh := ndShape) tabOk zOk rfl rfl rfl rfl (by kernel_rfl) rfl rfl rfl hown (Blk.row (by assumption)) ⟨_, _, rfl, sits_nil⟩ (by omega) (by omega) rfl ?_
      rintro ge42 cap'e43 we44 he45 fe46; have ze47 := fe46.size; clear he38 he29; replace he30 := he30.fr fe46 (by omega); clear he12; replace hbn := hbn.fr fe46 (by omega); clear hown; replace hbr := hbr.fr fe46 (by omega); replace X := X.fr fe46 (by omega); clear fe46; refine lw_pure (pur_fieldAddr tabOk rfl rfl rfl) rfl ?_; (refine lw_store' [_] [_, _, _, _] tabOk rfl rfl rfl rfl rfl rfl hbn rfl rfl ?_; intro we48 ne49); have he52 := ne49.blk; have fe50 := ne49.fr; have ze51 := ne49.size; clear ne49 hbn; replace he45 := he45.fr fe50 (by omega); replace he30 := he30.fr fe50 (by omega); replace hbr := hbr.fr fe50 (by omega); replace X := X.fr fe50 (by omega); clear fe50; refine lw_nil (qw_block_norm ?_); rotate_left 1
     refine qw_round (j, acc ++ [(argP c.ts c.n (failP (nextP σ') (peekP c.ts (nextP σ')).pos 5)).1], _, _, (argP c.ts c.n (failP (nextP σ') (peekP c.ts (nextP σ')).pos 5)).2) (by (refine sub_cons rfl ?_; refine sub_cons rfl ?_; refine sub_cons rfl ?_; exact sub_nil)) ⟨by assumption, by assumption, by assumption, by assumption, X, by omega, rfl, by simp only; omega, by simp only [List.length_append, List.length_cons, List.length_nil]; omega⟩ (by simp)
 · rw [show argsP c.ts c.n (j + 1) acc σ' = argsP c.ts c.n j (acc ++ [(argP c.ts c.n (nextP σ')).1]) (argP c.ts c.n (nextP σ')).2 from by rw [argsP]; simp [hc, h8]]
   have hml := mS_le (name_le (n := c.n) (show (nextP σ').at_ ≤ c.ts.length from hin.2)); have hml2 : mS c.ts (argP c.ts c.n (nextP σ')).2 ≤ mS c.ts (nextP σ') := hml
   focus
    refine cw_seq (cS (cM rfl rfl ?_)); refine cC (by kernel_rfl) rfl (accept_t _ _ _ _ (by assumption) (by decide) (by assumption)) rfl ?_; rintro _ wf3 ⟨⟨⟩, ⟨hf1, ff2⟩⟩; have zf4 := ff2.size; clear hP; replace hbn := hbn.fr ff2 (by omega); replace hown := hown.fr ff2 (by omega); replace hbr := hbr.fr ff2 (by omega); replace X := X.fr ff2 (by omega); clear ff2; refine cT (cw_cond_t rfl (cw_skip (qw_then (cw_block (cw_seq (cS (cM rfl rfl ?_))))))); refine cC (by kernel_rfl) rfl (peek_c _ _ _ (by assumption)) rfl ?_; rintro _ wf6 ⟨⟨⟩, xf5⟩; have zf7 := xf5.size; replace hf1 := hf1.ext xf5; replace hbn := hbn.ext xf5; replace hown := hown.ext xf5; replace hbr := hbr.ext xf5; replace X := X.ext xf5; clear xf5; (refine lw_alloc' [_, _, _] zOk rfl rfl ?_; intro bf8 wf9 nf10); (refine lw_init' [_, _, _] tabOk rfl rfl rfl rfl rfl rfl nf10 rfl ?_; clear nf10; clear wf9; intro wf11 nf10); have hf12 := nf10.blk; have xf13 := nf10.ext; have pf14 := nf10.pos; have zf15 := nf10.size; clear nf10; replace hf1 := hf1.ext xf13; replace hbn := hbn.ext xf13; replace hown := hown.ext xf13; replace hbr := hbr.ext xf13; replace X := X.ext xf13; clear xf13; refine cN (lw_pure (pur_fieldAddr tabOk rfl rfl rfl) rfl (lw_load_b tabOk rfl rfl rfl hbn rfl rfl (lw_pure (pur_len_slice tabOk rfl rfl) rfl (lw_pure (pur_eql rfl rfl) rfl (cM rfl rfl ?_))))); refine lw_off rfl rfl rfl (gd_tf (by omega)) rfl ?_; refine lw_off rfl rfl rfl (gd_tf (by omega)) rfl ?_; refine lw_off rfl rfl rfl (gd_tf (by omega)) rfl ?_
    refine lw_pure (pur_pick_no rfl rfl (by omega)) rfl ?_; refine cT (cw_cond_f rfl (cw_skip (qw_then ?_))); (refine cw_tdraw (fun wz => Fr (· = c.pb) wf11 wz) 5 (.pure 0 (.pure 1 (.pure 2 (.fork 3 (.fork 4 .tail .none) .none)))) mixed (by kernel_rfl) (panicOk_block (panicOk_then (panicOk_block (panicOk_then panicOk_body)))) ?_; intro wf16 xf17 _); have qsf18 : (fun wz => Fr (· = c.pb) wf11 wz) wf16 := Fr.of_ext xf17; simp only at qsf18; have d_hf12 := hf12; have d_hf1 := hf1; have d_hbn := hbn; have d_hown := hown; have d_hbr := hbr; have zf19 := xf17.size; replace hf12 := hf12.ext xf17; replace hf1 := hf1.ext xf17; replace hbn := hbn.ext xf17; replace hown := hown.ext xf17; replace hbr := hbr.ext xf17; replace X := X.ext xf17; clear xf17; refine ⟨qsf18, ?_⟩; refine tw_pure rfl (pur_fieldAddr tabOk rfl rfl rfl) rfl ?_; refine tw_pure rfl (pur_load tabOk rfl rfl rfl (fun wz hz => Blk.cell (Blk.fr d_hbn hz (by omega)) rfl)) rfl ?_; refine tw_pure rfl (pur_move rfl) rfl ?_; refine tw_does rfl (does_call (by kernel_rfl) rfl (argument_c _ _ _ (by assumption)) (fun _ _ h => h.ret)) rfl ?_ (fun _ h => h) tw_none; rintro _ wf25 ⟨af20, ⟨kf21, ⟨⟨⟩, ⟨hf22, ⟨hf23, ff24⟩⟩⟩⟩⟩; have zf26 := ff24.size; replace qsf18 := qsf18.fr ff24 (by omega); replace hf12 := hf12.fr ff24 (by omega); clear hf1; replace hbn := hbn.fr ff24 (by omega); replace hown := hown.fr ff24 (by omega); replace hbr := hbr.fr ff24 (by omega); replace X := X.fr ff24 (by omega); clear ff24; refine ⟨qsf18, ?_⟩; (refine tw_does rfl (does_slice' [_, _, _, _] tabOk zOk rfl rfl rfl rfl rfl rfl rfl rfl rfl) rfl ?_ (fun _ h => h) tw_none; rintro _ wf28 ⟨bf27, rfl, nf29, tf30⟩)
    clear tf30; have hf31 := nf29.blk; have xf32 := nf29.ext; have pf33 := nf29.pos; have zf34 := nf29.size; clear nf29; replace hf22 := Nd.sits.ext hf22 xf32; replace hf23 := hf23.ext xf32; replace qsf18 := qsf18.ext xf32; replace hf12 := hf12.ext xf32; replace hbn := hbn.ext xf32; replace hown := hown.ext xf32; replace hbr := hbr.ext xf32; replace X := X.ext xf32; clear xf32; refine ⟨qsf18, ?_⟩; clear d_hf12 d_hf1 d_hbn d_hown d_hbr qsf18; refine tw_tail rfl ?_; refine lw_appendL (sh := ndShape) tabOk zOk rfl rfl rfl rfl (by kernel_rfl) rfl rfl rfl hown (Blk.row (by assumption)) ⟨_, _, rfl, sits_nil⟩ (by omega) (by omega) rfl ?_; rintro gf35 cap'f36 wf37 hf38 ff39; have zf40 := ff39.size; clear hf31 hf22; replace hf23 := hf23.fr ff39 (by omega); clear hf12; replace hbn := hbn.fr ff39 (by omega); clear hown; replace hbr := hbr.fr ff39 (by omega); replace X := X.fr ff39 (by omega); clear ff39; refine lw_pure (pur_fieldAddr tabOk rfl rfl rfl) rfl ?_; (refine lw_store' [_] [_, _, _, _] tabOk rfl rfl rfl rfl rfl rfl hbn rfl rfl ?_; intro wf41 nf42); have hf45 := nf42.blk; have ff43 := nf42.fr; have zf44 := nf42.size; clear nf42 hbn; replace hf38 := hf38.fr ff43 (by omega); replace hf23 := hf23.fr ff43 (by omega); replace hbr := hbr.fr ff43 (by omega); replace X := X.fr ff43 (by omega); clear ff43; refine lw_nil (qw_block_norm ?_); rotate_left 1
   refine qw_round (j, acc ++ [(argP c.ts c.n (nextP σ')).1], _, _, (argP c.ts c.n (nextP σ')).2) (by (refine sub_cons rfl ?_; refine sub_cons rfl ?_; refine sub_cons rfl ?_; exact sub_nil)) ⟨by assumption, by assumption, by assumption, by assumption, X, by omega, rfl, by simp only; omega, by simp only [List.length_append, List.length_cons, List.length_nil]; omega⟩ (by simp)
end Bk
