/- The shelf's contracts that 'FnSuperText' leans on, laid at this program by the kit's tools (in plain words). No condition. -/
import Derived.Shelf.Strings.Repeat
import Derived.Ground.Names2Prog
import Derived.Ground.SlgnProg
import Derived.Test.YtejjlklecmdpiaaProg
namespace Go.Proofs
open Go.Shelf
def Try.lays105_ren : Go.Shelf.Ren := ⟨fun | 105 => 126 | 212 => 127 | 99 => 128 | 165 => 129 | 166 => 130 | 170 => 131 | 169 => 132 | 263 => 133 | 264 => 134 | 206 => 135 | 240 => 136 | 241 => 137 | 276 => 138 | 277 => 139 | n => n, fun | 9 => 9 | 3 => 3 | 4 => 4 | 20 => 20 | 0 => 0 | 46 => 136 | 109 => 142 | 5 => 5 | 72 => 147 | 76 => 151 | 51 => 154 | 146 => 155 | 53 => 113 | 148 => 157 | 70 => 145 | 37 => 22 | 75 => 150 | 127 => 159 | 164 => 160 | 80 => 77 | n => n, fun | n => n⟩
theorem Try.lays105 : Go.Proofs.Lays.n105 Try.prog Try.lays105_ren := {
  mixed := by kernel_rfl
  f99 := Try.func128.trans (congrArg some (by kernel_rfl))
  f105 := Try.func126.trans (congrArg some (by kernel_rfl))
  f165 := Try.func129.trans (congrArg some (by kernel_rfl))
  f166 := Try.func130.trans (congrArg some (by kernel_rfl))
  f169 := Try.func132.trans (congrArg some (by kernel_rfl))
  f170 := Try.func131.trans (congrArg some (by kernel_rfl))
  f206 := Try.func135.trans (congrArg some (by kernel_rfl))
  f212 := Try.func127.trans (congrArg some (by kernel_rfl))
  f240 := Try.func136.trans (congrArg some (by kernel_rfl))
  f241 := Try.func137.trans (congrArg some (by kernel_rfl))
  f263 := Try.func133.trans (congrArg some (by kernel_rfl))
  f264 := Try.func134.trans (congrArg some (by kernel_rfl))
  f276 := Try.func138.trans (congrArg some (by kernel_rfl))
  f277 := Try.func139.trans (congrArg some (by kernel_rfl))
  t0 := Try.underlying0
  a0 := Try.isAgg0
  z0 := Try.sizeOf0
  v0 := Try.zeroValue0
  t3 := Try.underlying3
  a3 := Try.isAgg3
  z3 := Try.sizeOf3
  v3 := Try.zeroValue3
  t4 := Try.underlying4
  a4 := Try.isAgg4
  z4 := Try.sizeOf4
  v4 := Try.zeroValue4
  t5 := Try.underlying5
  a5 := Try.isAgg5
  z5 := Try.sizeOf5
  v5 := Try.zeroValue5
  t9 := Try.underlying9
  a9 := Try.isAgg9
  z9 := Try.sizeOf9
  v9 := Try.zeroValue9
  t20 := Try.underlying20
  a20 := Try.isAgg20
  z20 := Try.sizeOf20
  v20 := Try.zeroValue20
  t37 := Try.underlying22
  a37 := Try.isAgg22
  z37 := Try.sizeOf22
  v37 := Try.zeroValue22
  t46 := Try.underlying136
  a46 := Try.isAgg136
  z46 := Try.sizeOf136
  v46 := Try.zeroValue136
  t51 := Try.underlying154
  a51 := Try.isAgg154
  z51 := Try.sizeOf154
  v51 := Try.zeroValue154
  t53 := Try.underlying113
  a53 := Try.isAgg113
  z53 := Try.sizeOf113
  v53 := Try.zeroValue113
  t70 := Try.underlying145
  a70 := Try.isAgg145
  z70 := Try.sizeOf145
  v70 := Try.zeroValue145
  t72 := Try.underlying147
  a72 := Try.isAgg147
  z72 := Try.sizeOf147
  v72 := Try.zeroValue147
  t75 := Try.underlying150
  a75 := Try.isAgg150
  z75 := Try.sizeOf150
  v75 := Try.zeroValue150
  t76 := Try.underlying151
  a76 := Try.isAgg151
  z76 := Try.sizeOf151
  v76 := Try.zeroValue151
  t109 := Try.underlying142
  a109 := Try.isAgg142
  z109 := Try.sizeOf142
  v109 := Try.zeroValue142
  t127 := Try.underlying159
  a127 := Try.isAgg159
  z127 := Try.sizeOf159
  v127 := Try.zeroValue159
  t146 := Try.underlying155
  a146 := Try.isAgg155
  z146 := Try.sizeOf155
  v146 := Try.zeroValue155
  t148 := Try.underlying157
  a148 := Try.isAgg157
  z148 := Try.sizeOf157
  v148 := Try.zeroValue157
  t164 := Try.underlying160
  a164 := Try.isAgg160
  z164 := Try.sizeOf160
  v164 := Try.zeroValue160 }
theorem Try.Builder_Extra_105 : Builder.Extra Try.prog Try.lays105_ren := {
  sizeBuilder := by kernel_rfl
  liesBuilder := by kernel_rfl
  t5 := Try.underlying5
  a5 := Try.isAgg5
  z5 := Try.sizeOf5
  v5 := Try.zeroValue5
  infoByte := by kernel_rfl
  cellsByte := by kernel_rfl
  sizeByte := by kernel_rfl
  neB5 := by decide }
open Go.RowKit Go.Lib in
theorem Try.strings_Repeat (s : ByteArray) (c : Nat) (w : World) (hc : c ≤ 9223372036854775807) (hlen : s.size * c ≤ 140737488355328) :
    Calls Try.prog 126 #[.string s, .int .i64 c] w fun e w' => e = .returned (.string ⟨(Lib.repeatL s.data.toList c).toArray⟩) ∧ Below w.heap.size w w' := Any.strings_Repeat Try.lays105 Try.Builder_Extra_105 s c w hc hlen
end Go.Proofs
