import Derived.Test.YtfpdlnkkcnmebaaGreatProg
import Derived.Test.YtfpdlnkkcnmebaaGreatEng37
namespace Go.Proofs.YtfpdlnkkcnmebaaGreat
open Go Go.Eng
instance ti3:TI Tryz.prog 3 false 1 8:=⟨by kernel_rfl⟩
instance tz3:TZ Tryz.prog 3 [.int .i64 0]:=⟨by kernel_rfl⟩
instance ti4:TI Tryz.prog 4 false 1 1:=⟨by kernel_rfl⟩
instance tb4:TB Tryz.prog 4:=⟨by kernel_rfl⟩
instance tz4:TZ Tryz.prog 4 [.bool false]:=⟨by kernel_rfl⟩
instance ti5:TI Tryz.prog 5 false 1 1:=⟨by kernel_rfl⟩
instance tz5:TZ Tryz.prog 5 [.int .u8 0]:=⟨by kernel_rfl⟩
instance ti9:TI Tryz.prog 9 false 1 16:=⟨by kernel_rfl⟩
instance hXk:TS Tryz.prog 9:=⟨by kernel_rfl⟩
instance tz9:TZ Tryz.prog 9 [.string ⟨#[]⟩]:=⟨by kernel_rfl⟩
instance hXl:TI Tryz.prog 22 false 1 24:=⟨by kernel_rfl⟩
instance hXm:TE Tryz.prog 22 5:=⟨by kernel_rfl⟩
instance hXn:TI Tryz.prog 24 false 1 24:=⟨by kernel_rfl⟩
instance hXo:TE Tryz.prog 24 91:=⟨by kernel_rfl⟩
instance hXp:TI Tryz.prog 26 true 1 24:=⟨by kernel_rfl⟩
instance hTv:TF Tryz.prog 26 0 0:=⟨by kernel_rfl⟩
instance hVp:TBd Tryz.prog 26:=⟨by kernel_rfl⟩
instance hXq:TZ Tryz.prog 26 [.slice none 0 0]:=⟨by kernel_rfl⟩
instance hXr:TI Tryz.prog 28 true 2 16:=⟨by kernel_rfl⟩
instance hTw:TF Tryz.prog 28 0 0:=⟨by kernel_rfl⟩
instance hTz:TF Tryz.prog 28 1 1:=⟨by kernel_rfl⟩
instance hVq:TBd Tryz.prog 28:=⟨by kernel_rfl⟩
instance hPv:TFS Tryz.prog 28 0 0 1:=⟨by kernel_rfl⟩
instance hPw:TFS Tryz.prog 28 1 1 1:=⟨by kernel_rfl⟩
instance hXs:TZ Tryz.prog 28 [.int .i64 0,.int .i64 0]:=⟨by kernel_rfl⟩
instance hXt:TI Tryz.prog 31 false 1 24:=⟨by kernel_rfl⟩
instance hXu:TE Tryz.prog 31 51:=⟨by kernel_rfl⟩
instance hXv:TI Tryz.prog 34 false 1 24:=⟨by kernel_rfl⟩
instance hXw:TE Tryz.prog 34 9:=⟨by kernel_rfl⟩
instance hXx:TZ Tryz.prog 34 [.slice none 0 0]:=⟨by kernel_rfl⟩
instance hXy:TI Tryz.prog 35 false 1 24:=⟨by kernel_rfl⟩
instance hXz:TE Tryz.prog 35 37:=⟨by kernel_rfl⟩
instance hX3:TI Tryz.prog 37 true 3 48:=⟨by kernel_rfl⟩
instance hT2:TF Tryz.prog 37 0 0:=⟨by kernel_rfl⟩
instance hT3:TF Tryz.prog 37 1 1:=⟨by kernel_rfl⟩
instance hT4:TF Tryz.prog 37 2 2:=⟨by kernel_rfl⟩
instance hVr:TBd Tryz.prog 37:=⟨by kernel_rfl⟩
instance hPx:TFS Tryz.prog 37 0 0 1:=⟨by kernel_rfl⟩
instance hPy:TFS Tryz.prog 37 1 1 1:=⟨by kernel_rfl⟩
instance hPz:TFS Tryz.prog 37 2 2 1:=⟨by kernel_rfl⟩
instance hX4:TZ Tryz.prog 37 [.int .i64 0,.string ⟨#[]⟩,.slice none 0 0]:=⟨by kernel_rfl⟩
instance hX5:TI Tryz.prog 38 false 1 24:=⟨by kernel_rfl⟩
instance hX6:TE Tryz.prog 38 53:=⟨by kernel_rfl⟩
instance hX7:TI Tryz.prog 39 false 1 24:=⟨by kernel_rfl⟩
instance hX8:TE Tryz.prog 39 103:=⟨by kernel_rfl⟩
instance hX9:TI Tryz.prog 41 true 12 192:=⟨by kernel_rfl⟩
instance hT5:TF Tryz.prog 41 0 0:=⟨by kernel_rfl⟩
instance hT6:TF Tryz.prog 41 1 1:=⟨by kernel_rfl⟩
instance hT7:TF Tryz.prog 41 2 2:=⟨by kernel_rfl⟩
instance hT8:TF Tryz.prog 41 3 5:=⟨by kernel_rfl⟩
instance hT9:TF Tryz.prog 41 4 6:=⟨by kernel_rfl⟩
instance hUa:TF Tryz.prog 41 5 7:=⟨by kernel_rfl⟩
instance hUb:TF Tryz.prog 41 6 8:=⟨by kernel_rfl⟩
instance hUc:TF Tryz.prog 41 7 11:=⟨by kernel_rfl⟩
instance hVs:TBd Tryz.prog 41:=⟨by kernel_rfl⟩
instance hP0:TFS Tryz.prog 41 0 0 1:=⟨by kernel_rfl⟩
instance hP4:TFS Tryz.prog 41 1 1 1:=⟨by kernel_rfl⟩
instance hP5:TFS Tryz.prog 41 2 2 3:=⟨by kernel_rfl⟩
instance hP6:TFS Tryz.prog 41 3 5 1:=⟨by kernel_rfl⟩
instance hP7:TFS Tryz.prog 41 4 6 1:=⟨by kernel_rfl⟩
instance hP8:TFS Tryz.prog 41 7 11 1:=⟨by kernel_rfl⟩
instance hYa:TZ Tryz.prog 41 [.string ⟨#[]⟩,.slice none 0 0,.int .i64 0,.string ⟨#[]⟩,.slice none 0 0,.slice none 0 0,.bool false,.bool false,.int .i64 0,.string ⟨#[]⟩,.slice none 0 0,.slice none 0 0]:=⟨by kernel_rfl⟩
instance hYb:TI Tryz.prog 44 false 1 24:=⟨by kernel_rfl⟩
instance hYc:TE Tryz.prog 44 108:=⟨by kernel_rfl⟩
instance hYe:TI Tryz.prog 46 true 5 72:=⟨by kernel_rfl⟩
instance hUd:TF Tryz.prog 46 0 0:=⟨by kernel_rfl⟩
instance hUe:TF Tryz.prog 46 1 1:=⟨by kernel_rfl⟩
instance hUf:TF Tryz.prog 46 2 2:=⟨by kernel_rfl⟩
instance hUg:TF Tryz.prog 46 3 3:=⟨by kernel_rfl⟩
instance hUh:TF Tryz.prog 46 4 4:=⟨by kernel_rfl⟩
instance hVt:TBd Tryz.prog 46:=⟨by kernel_rfl⟩
instance hP9:TFS Tryz.prog 46 0 0 1:=⟨by kernel_rfl⟩
instance hQa:TFS Tryz.prog 46 1 1 1:=⟨by kernel_rfl⟩
instance hQb:TFS Tryz.prog 46 2 2 1:=⟨by kernel_rfl⟩
instance hQc:TFS Tryz.prog 46 3 3 1:=⟨by kernel_rfl⟩
instance hQd:TFS Tryz.prog 46 4 4 1:=⟨by kernel_rfl⟩
instance hYf:TZ Tryz.prog 46 [.string ⟨#[]⟩,.slice none 0 0,.bool false,.bool false,.slice none 0 0]:=⟨by kernel_rfl⟩
instance hYg:TI Tryz.prog 51 true 5 56:=⟨by kernel_rfl⟩
instance hUi:TF Tryz.prog 51 0 0:=⟨by kernel_rfl⟩
instance hUj:TF Tryz.prog 51 1 1:=⟨by kernel_rfl⟩
instance hUk:TF Tryz.prog 51 2 2:=⟨by kernel_rfl⟩
instance hUl:TF Tryz.prog 51 3 4:=⟨by kernel_rfl⟩
instance hVu:TBd Tryz.prog 51:=⟨by kernel_rfl⟩
instance hQe:TFS Tryz.prog 51 0 0 1:=⟨by kernel_rfl⟩
instance hQf:TFS Tryz.prog 51 1 1 1:=⟨by kernel_rfl⟩
instance hQg:TFS Tryz.prog 51 2 2 2:=⟨by kernel_rfl⟩
instance hQh:TFS Tryz.prog 51 3 4 1:=⟨by kernel_rfl⟩
instance hYh:TZ Tryz.prog 51 [.int .i64 0,.int .i64 0,.int .i64 0,.int .i64 0,.slice none 0 0]:=⟨by kernel_rfl⟩
instance hYi:TI Tryz.prog 53 true 4 64:=⟨by kernel_rfl⟩
instance hUm:TF Tryz.prog 53 0 0:=⟨by kernel_rfl⟩
instance hUn:TF Tryz.prog 53 1 1:=⟨by kernel_rfl⟩
instance hVv:TBd Tryz.prog 53:=⟨by kernel_rfl⟩
instance hQi:TFS Tryz.prog 53 0 0 1:=⟨by kernel_rfl⟩
instance hQj:TFS Tryz.prog 53 1 1 3:=⟨by kernel_rfl⟩
instance hYj:TZ Tryz.prog 53 [.string ⟨#[]⟩,.int .i64 0,.string ⟨#[]⟩,.slice none 0 0]:=⟨by kernel_rfl⟩
instance hYk:TI Tryz.prog 57 false 1 24:=⟨by kernel_rfl⟩
instance hYm:TE Tryz.prog 57 3:=⟨by kernel_rfl⟩
instance hYn:TI Tryz.prog 86 false 1 24:=⟨by kernel_rfl⟩
instance hYo:TE Tryz.prog 86 46:=⟨by kernel_rfl⟩
instance hYp:TI Tryz.prog 87 false 1 24:=⟨by kernel_rfl⟩
instance hYq:TE Tryz.prog 87 171:=⟨by kernel_rfl⟩
instance hYr:TI Tryz.prog 88 false 1 24:=⟨by kernel_rfl⟩
instance hYt:TE Tryz.prog 88 41:=⟨by kernel_rfl⟩
instance hYu:TI Tryz.prog 89 false 1 24:=⟨by kernel_rfl⟩
instance hYv:TE Tryz.prog 89 176:=⟨by kernel_rfl⟩
instance hYw:TI Tryz.prog 91 true 6 136:=⟨by kernel_rfl⟩
instance hUo:TF Tryz.prog 91 0 0:=⟨by kernel_rfl⟩
instance hUp:TF Tryz.prog 91 1 1:=⟨by kernel_rfl⟩
instance hUq:TF Tryz.prog 91 2 2:=⟨by kernel_rfl⟩
instance hUr:TF Tryz.prog 91 3 3:=⟨by kernel_rfl⟩
instance hUs:TF Tryz.prog 91 4 4:=⟨by kernel_rfl⟩
instance hUt:TF Tryz.prog 91 5 5:=⟨by kernel_rfl⟩
instance hVw:TBd Tryz.prog 91:=⟨by kernel_rfl⟩
instance hQk:TFS Tryz.prog 91 0 0 1:=⟨by kernel_rfl⟩
instance hQl:TFS Tryz.prog 91 1 1 1:=⟨by kernel_rfl⟩
instance hYx:TZ Tryz.prog 91 [.string ⟨#[]⟩,.slice none 0 0,.slice none 0 0,.slice none 0 0,.slice none 0 0,.slice none 0 0]:=⟨by kernel_rfl⟩
instance hYy:TI Tryz.prog 96 false 1 24:=⟨by kernel_rfl⟩
instance hYz:TE Tryz.prog 96 139:=⟨by kernel_rfl⟩
instance hY1:TI Tryz.prog 98 false 1 24:=⟨by kernel_rfl⟩
instance hY3:TE Tryz.prog 98 101:=⟨by kernel_rfl⟩
instance hY4:TI Tryz.prog 99 false 1 24:=⟨by kernel_rfl⟩
instance hY5:TE Tryz.prog 99 147:=⟨by kernel_rfl⟩
instance hVx:TI Tryz.prog 101 true 9 144:=⟨by kernel_rfl⟩
instance hQm:TF Tryz.prog 101 0 0:=⟨by kernel_rfl⟩
instance hQo:TF Tryz.prog 101 1 1:=⟨by kernel_rfl⟩
instance hQp:TF Tryz.prog 101 2 2:=⟨by kernel_rfl⟩
instance hQq:TF Tryz.prog 101 3 3:=⟨by kernel_rfl⟩
instance hQr:TF Tryz.prog 101 4 4:=⟨by kernel_rfl⟩
instance hQs:TF Tryz.prog 101 5 7:=⟨by kernel_rfl⟩
instance hQt:TF Tryz.prog 101 6 8:=⟨by kernel_rfl⟩
instance hUu:TBd Tryz.prog 101:=⟨by kernel_rfl⟩
instance hNi:TFS Tryz.prog 101 0 0 1:=⟨by kernel_rfl⟩
instance hNj:TFS Tryz.prog 101 1 1 1:=⟨by kernel_rfl⟩
instance hNk:TFS Tryz.prog 101 2 2 1:=⟨by kernel_rfl⟩
instance hNl:TFS Tryz.prog 101 3 3 1:=⟨by kernel_rfl⟩
instance hNm:TFS Tryz.prog 101 4 4 3:=⟨by kernel_rfl⟩
instance hNn:TFS Tryz.prog 101 5 7 1:=⟨by kernel_rfl⟩
instance hNo:TFS Tryz.prog 101 6 8 1:=⟨by kernel_rfl⟩
instance hVy:TZ Tryz.prog 101 [.int .i64 0,.string ⟨#[]⟩,.string ⟨#[]⟩,.int .i64 0,.int .i64 0,.string ⟨#[]⟩,.slice none 0 0,.slice none 0 0,.slice none 0 0]:=⟨by kernel_rfl⟩
instance hVz:TI Tryz.prog 103 true 11 184:=⟨by kernel_rfl⟩
instance hQu:TF Tryz.prog 103 0 0:=⟨by kernel_rfl⟩
instance hQv:TF Tryz.prog 103 1 1:=⟨by kernel_rfl⟩
instance hQw:TF Tryz.prog 103 2 2:=⟨by kernel_rfl⟩
instance hUv:TBd Tryz.prog 103:=⟨by kernel_rfl⟩
instance hNp:TFS Tryz.prog 103 0 0 1:=⟨by kernel_rfl⟩
instance hNq:TFS Tryz.prog 103 1 1 1:=⟨by kernel_rfl⟩
instance hNr:TFS Tryz.prog 103 2 2 9:=⟨by kernel_rfl⟩
instance hV0:TZ Tryz.prog 103 [.string ⟨#[]⟩,.slice none 0 0,.int .i64 0,.string ⟨#[]⟩,.string ⟨#[]⟩,.int .i64 0,.int .i64 0,.string ⟨#[]⟩,.slice none 0 0,.slice none 0 0,.slice none 0 0]:=⟨by kernel_rfl⟩
instance hV3:TI Tryz.prog 108 true 16 264:=⟨by kernel_rfl⟩
instance hQx:TF Tryz.prog 108 0 0:=⟨by kernel_rfl⟩
instance hQy:TF Tryz.prog 108 1 1:=⟨by kernel_rfl⟩
instance hQz:TF Tryz.prog 108 2 2:=⟨by kernel_rfl⟩
instance hQ0:TF Tryz.prog 108 3 5:=⟨by kernel_rfl⟩
instance hQ1:TF Tryz.prog 108 4 6:=⟨by kernel_rfl⟩
instance hQ2:TF Tryz.prog 108 5 7:=⟨by kernel_rfl⟩
instance hUw:TBd Tryz.prog 108:=⟨by kernel_rfl⟩
instance hNt:TFS Tryz.prog 108 0 0 1:=⟨by kernel_rfl⟩
instance hNu:TFS Tryz.prog 108 1 1 1:=⟨by kernel_rfl⟩
instance hNv:TFS Tryz.prog 108 2 2 3:=⟨by kernel_rfl⟩
instance hNw:TFS Tryz.prog 108 3 5 1:=⟨by kernel_rfl⟩
instance hNx:TFS Tryz.prog 108 4 6 1:=⟨by kernel_rfl⟩
instance hNy:TFS Tryz.prog 108 5 7 9:=⟨by kernel_rfl⟩
instance hV4:TZ Tryz.prog 108 [.string ⟨#[]⟩,.slice none 0 0,.int .i64 0,.string ⟨#[]⟩,.slice none 0 0,.bool false,.slice none 0 0,.int .i64 0,.string ⟨#[]⟩,.string ⟨#[]⟩,.int .i64 0,.int .i64 0,.string ⟨#[]⟩,.slice none 0 0,.slice none 0 0,.slice none 0 0]:=⟨by kernel_rfl⟩
instance hV5:TE Tryz.prog 118 192:=⟨by kernel_rfl⟩
instance hQ3:TF Tryz.prog 123 0 0:=⟨by kernel_rfl⟩
instance hQ4:TF Tryz.prog 123 1 1:=⟨by kernel_rfl⟩
instance hQ5:TF Tryz.prog 123 2 2:=⟨by kernel_rfl⟩
instance hUx:TBd Tryz.prog 123:=⟨by kernel_rfl⟩
instance hNz:TFS Tryz.prog 123 0 0 1:=⟨by kernel_rfl⟩
instance hN2:TFS Tryz.prog 123 2 2 1:=⟨by kernel_rfl⟩
instance hV6:TZ Tryz.prog 123 [.slice none 0 0,.int .i64 0,.int .i64 0]:=⟨by kernel_rfl⟩
instance hQ6:TF Tryz.prog 136 0 0:=⟨by kernel_rfl⟩
instance hQ7:TF Tryz.prog 136 1 1:=⟨by kernel_rfl⟩
instance hUy:TBd Tryz.prog 136:=⟨by kernel_rfl⟩
instance hN3:TFS Tryz.prog 136 0 0 1:=⟨by kernel_rfl⟩
instance hN4:TFS Tryz.prog 136 1 1 1:=⟨by kernel_rfl⟩
instance hV7:TZ Tryz.prog 136 [.slice none 0 0,.slice none 0 0]:=⟨by kernel_rfl⟩
instance hV8:TI Tryz.prog 139 true 6 96:=⟨by kernel_rfl⟩
instance hQ8:TF Tryz.prog 139 0 0:=⟨by kernel_rfl⟩
instance hQ9:TF Tryz.prog 139 1 4:=⟨by kernel_rfl⟩
instance hRa:TF Tryz.prog 139 2 5:=⟨by kernel_rfl⟩
instance hU0:TBd Tryz.prog 139:=⟨by kernel_rfl⟩
instance hN5:TFS Tryz.prog 139 0 0 4:=⟨by kernel_rfl⟩
instance hN6:TFS Tryz.prog 139 1 4 1:=⟨by kernel_rfl⟩
instance hN7:TFS Tryz.prog 139 2 5 1:=⟨by kernel_rfl⟩
instance hV9:TZ Tryz.prog 139 [.string ⟨#[]⟩,.int .i64 0,.string ⟨#[]⟩,.slice none 0 0,.int .i64 0,.slice none 0 0]:=⟨by kernel_rfl⟩
instance hWb:TI Tryz.prog 147 true 11 184:=⟨by kernel_rfl⟩
instance hRc:TF Tryz.prog 147 0 0:=⟨by kernel_rfl⟩
instance hRd:TF Tryz.prog 147 1 1:=⟨by kernel_rfl⟩
instance hRf:TF Tryz.prog 147 2 2:=⟨by kernel_rfl⟩
instance hU1:TBd Tryz.prog 147:=⟨by kernel_rfl⟩
instance hN8:TFS Tryz.prog 147 0 0 1:=⟨by kernel_rfl⟩
instance hN9:TFS Tryz.prog 147 1 1 1:=⟨by kernel_rfl⟩
instance hOa:TFS Tryz.prog 147 2 2 9:=⟨by kernel_rfl⟩
instance hWe:TZ Tryz.prog 147 [.string ⟨#[]⟩,.slice none 0 0,.int .i64 0,.string ⟨#[]⟩,.string ⟨#[]⟩,.int .i64 0,.int .i64 0,.string ⟨#[]⟩,.slice none 0 0,.slice none 0 0,.slice none 0 0]:=⟨by kernel_rfl⟩
instance hWg:TE Tryz.prog 150 28:=⟨by kernel_rfl⟩
instance hWi:TI Tryz.prog 169 false 1 24:=⟨by kernel_rfl⟩
instance hWk:TE Tryz.prog 169 188:=⟨by kernel_rfl⟩
instance hWl:TI Tryz.prog 171 true 3 64:=⟨by kernel_rfl⟩
instance hRg:TF Tryz.prog 171 0 0:=⟨by kernel_rfl⟩
instance hRh:TF Tryz.prog 171 1 1:=⟨by kernel_rfl⟩
instance hRi:TF Tryz.prog 171 2 2:=⟨by kernel_rfl⟩
instance hU2:TBd Tryz.prog 171:=⟨by kernel_rfl⟩
instance hOc:TFS Tryz.prog 171 0 0 1:=⟨by kernel_rfl⟩
instance hOd:TFS Tryz.prog 171 1 1 1:=⟨by kernel_rfl⟩
instance hOe:TFS Tryz.prog 171 2 2 1:=⟨by kernel_rfl⟩
instance hWm:TZ Tryz.prog 171 [.string ⟨#[]⟩,.slice none 0 0,.slice none 0 0]:=⟨by kernel_rfl⟩
instance hWn:TI Tryz.prog 174 false 1 24:=⟨by kernel_rfl⟩
instance hWo:TE Tryz.prog 174 212:=⟨by kernel_rfl⟩
instance hWp:TI Tryz.prog 176 true 16 280:=⟨by kernel_rfl⟩
instance hRm:TF Tryz.prog 176 0 0:=⟨by kernel_rfl⟩
instance hRn:TF Tryz.prog 176 1 1:=⟨by kernel_rfl⟩
instance hRo:TF Tryz.prog 176 2 2:=⟨by kernel_rfl⟩
instance hRp:TF Tryz.prog 176 3 3:=⟨by kernel_rfl⟩
instance hRq:TF Tryz.prog 176 4 4:=⟨by kernel_rfl⟩
instance hRt:TF Tryz.prog 176 5 7:=⟨by kernel_rfl⟩
instance hU3:TBd Tryz.prog 176:=⟨by kernel_rfl⟩
instance hOf:TFS Tryz.prog 176 0 0 1:=⟨by kernel_rfl⟩
instance hOg:TFS Tryz.prog 176 1 1 1:=⟨by kernel_rfl⟩
instance hOh:TFS Tryz.prog 176 2 2 1:=⟨by kernel_rfl⟩
instance hOi:TFS Tryz.prog 176 3 3 1:=⟨by kernel_rfl⟩
instance hOj:TFS Tryz.prog 176 4 4 3:=⟨by kernel_rfl⟩
instance hOk:TFS Tryz.prog 176 5 7 9:=⟨by kernel_rfl⟩
instance hWq:TZ Tryz.prog 176 [.string ⟨#[]⟩,.slice none 0 0,.slice none 0 0,.slice none 0 0,.int .i64 0,.string ⟨#[]⟩,.slice none 0 0,.int .i64 0,.string ⟨#[]⟩,.string ⟨#[]⟩,.int .i64 0,.int .i64 0,.string ⟨#[]⟩,.slice none 0 0,.slice none 0 0,.slice none 0 0]:=⟨by kernel_rfl⟩
instance hWr:TI Tryz.prog 188 true 2 40:=⟨by kernel_rfl⟩
instance hRu:TF Tryz.prog 188 0 0:=⟨by kernel_rfl⟩
instance hRw:TF Tryz.prog 188 1 1:=⟨by kernel_rfl⟩
instance hU4:TBd Tryz.prog 188:=⟨by kernel_rfl⟩
instance hOl:TFS Tryz.prog 188 0 0 1:=⟨by kernel_rfl⟩
instance hOm:TFS Tryz.prog 188 1 1 1:=⟨by kernel_rfl⟩
instance hWt:TZ Tryz.prog 188 [.string ⟨#[]⟩,.slice none 0 0]:=⟨by kernel_rfl⟩
instance hWu:TI Tryz.prog 192 true 4 64:=⟨by kernel_rfl⟩
instance hRx:TF Tryz.prog 192 0 0:=⟨by kernel_rfl⟩
instance hRz:TF Tryz.prog 192 1 1:=⟨by kernel_rfl⟩
instance hU5:TBd Tryz.prog 192:=⟨by kernel_rfl⟩
instance hOn:TFS Tryz.prog 192 0 0 1:=⟨by kernel_rfl⟩
instance hOo:TFS Tryz.prog 192 1 1 3:=⟨by kernel_rfl⟩
instance hWv:TZ Tryz.prog 192 [.string ⟨#[]⟩,.int .i64 0,.string ⟨#[]⟩,.slice none 0 0]:=⟨by kernel_rfl⟩
instance hWx:TI Tryz.prog 212 true 4 64:=⟨by kernel_rfl⟩
instance hR1:TF Tryz.prog 212 0 0:=⟨by kernel_rfl⟩
instance hR3:TF Tryz.prog 212 1 1:=⟨by kernel_rfl⟩
instance hU6:TBd Tryz.prog 212:=⟨by kernel_rfl⟩
instance hOp:TFS Tryz.prog 212 0 0 1:=⟨by kernel_rfl⟩
instance hOq:TFS Tryz.prog 212 1 1 3:=⟨by kernel_rfl⟩
instance hWy:TZ Tryz.prog 212 [.string ⟨#[]⟩,.int .i64 0,.string ⟨#[]⟩,.slice none 0 0]:=⟨by kernel_rfl⟩
instance hWz:TI Tryz.prog 221 false 1 24:=⟨by kernel_rfl⟩
instance hW4:TE Tryz.prog 221 223:=⟨by kernel_rfl⟩
instance hW5:TI Tryz.prog 223 true 2 40:=⟨by kernel_rfl⟩
instance hR4:TF Tryz.prog 223 0 0:=⟨by kernel_rfl⟩
instance hR5:TF Tryz.prog 223 1 1:=⟨by kernel_rfl⟩
instance hU7:TBd Tryz.prog 223:=⟨by kernel_rfl⟩
instance hOr:TFS Tryz.prog 223 0 0 1:=⟨by kernel_rfl⟩
instance hOs:TFS Tryz.prog 223 1 1 1:=⟨by kernel_rfl⟩
instance hW6:TZ Tryz.prog 223 [.string ⟨#[]⟩,.slice none 0 0]:=⟨by kernel_rfl⟩
instance hR6:TF Tryz.prog 230 0 0:=⟨by kernel_rfl⟩
instance hR7:TF Tryz.prog 230 1 1:=⟨by kernel_rfl⟩
instance hR8:TF Tryz.prog 230 2 2:=⟨by kernel_rfl⟩
instance hR9:TF Tryz.prog 230 3 3:=⟨by kernel_rfl⟩
instance hSa:TF Tryz.prog 230 4 4:=⟨by kernel_rfl⟩
instance hU9:TBd Tryz.prog 230:=⟨by kernel_rfl⟩
instance hOt:TFS Tryz.prog 230 0 0 1:=⟨by kernel_rfl⟩
instance hW7:TZ Tryz.prog 230 [.string ⟨#[]⟩,.int .i64 0,.int .i64 0,.int .i64 0,.bool false]:=⟨by kernel_rfl⟩
instance hY6:TP Tryz.prog 28:=by
 refine⟨?_⟩;intro w a b c d;refine⟨by kernel_rfl,?_⟩;have hund:Tryz.prog.underlying 28=some (.struct (Tryz.prog.fieldsOf 28)):=by kernel_rfl
 have hh:Tryz.prog.stoodInHeld 28=false:=by kernel_rfl
 have hf:(Tryz.prog.fieldsOf 28).toList=[{ name:= "Package",type:=3,offset:=0,embedded:=false,tag:= "",pkgPath:= "",byteOffset:=0 },{ name:= "At",type:=3,offset:=1,embedded:=false,tag:= "",pkgPath:= "",byteOffset:=8 }]:=by kernel_rfl
 have hi:Tryz.prog.underlying 3=some (.int .i64):=by kernel_rfl
 have hg:tyI Tryz.prog 3=some (false,1,8):=by kernel_rfl
 have hint:∀(d:Nat)(w:World)(a c:Int),(Op.equalIn (d+1) 3 (.int .i64 a) (.int .i64 c)).run Tryz.prog w=.ok (a==c) w:=by
  intro d w a c;simp [Op.equalIn,run_underlying hi]
 unfold Op.equal Op.maxDepth;rw [run_equalIn_struct w 9999 28 _ _ hund hh,hf];have h9:=hint 9998;rw [show 9998+1=9999 from rfl] at h9;by_cases h1:a=c<;>by_cases h2:b=d<;>simp [Op.eqFields,part,gKj hg,h9,h1,h2]
theorem hW8:Tryz.prog.follows .mixedOrders=true:=by kernel_rfl
instance:Mix Tryz.prog:=⟨hW8⟩
end Go.Proofs.YtfpdlnkkcnmebaaGreat
set_option linter.unusedVariables false
set_option linter.unusedSimpArgs false
namespace Go.Eng
open Go Go.RowKit
theorem gXt{z:Nat}(hz:0 < z):∀(vs:List Value)(k:Nat)(pre post:List Value),(∀v∈vs,v.cells.size=z)→pre.length=k*z→post.length=vs.length*z→
  Instr.fill (fun i=>some (i*z,z)) (pre++post).toArray ((vs.zipIdx k).map fun p=>(p.2,p.1))=some (pre++vs.flatMap fun v=>v.cells.toList).toArray
 | [],k,pre,post,_,_,hp=>by
   simp only [List.length_nil,Nat.zero_mul,List.length_eq_zero_iff] at hp;subst hp;simp [Instr.fill]
 | v::vs,k,pre,post,hv,h1,h2=>by
   have hvz:=hv v (by simp);have hpl:z≤post.length:=by rw [h2,List.length_cons,Nat.add_mul];omega
   simp only [List.zipIdx_cons,List.map_cons];rw [gOq (off:=k*z) (n:=z) rfl hvz (by simp only [List.size_toArray,List.length_append];omega)];have e1:(pre++post).toArray.toList.take (k*z)=pre:=by simp [←h1]
   have e2:(pre++post).toArray.toList.drop (k*z+z)=post.drop z:=by
    show(pre++post).drop (k*z+z)=_;rw [←h1,List.drop_append,List.drop_eq_nil_of_le (by omega),Nat.add_sub_cancel_left,List.nil_append]
   rw [e1,e2];have hcl:v.cells.toList.length=z:=by simpa using hvz
   have:=gXt hz vs (k+1) (pre++v.cells.toList) (post.drop z) (fun w hw=>hv w (by simp [hw])) (by simp [h1,hvz,Nat.add_mul]) (by simp [h2,Nat.add_mul])
   rw [this];simp
inductive VDs (σ:St):List Operand→List U→Prop
 | nil:VDs σ [] []
 | cons {x:Operand} {l:List Operand} {u:U} {us:List U} (h:VD σ.L (σ.ev x) u) (h2:VDs σ l us):VDs σ (x::l) (u::us)
theorem VDs.r{A:Amb}{S:Nat→Prop}{env:List Value}{a:Act}{w:World}{σ:St}{z:Nat}(hH:pQ A S σ.L env w)(hf:∀t,SVr S σ.L env w (look σ.fr t) (a.tmps.getD t undef)){l:List Operand}{us:List U}(h:VDs σ l us):(∀u∈us,u.sz=z)→
  l.length=us.length∧(∀v∈l.map a.eval,v.cells.size=z)∧Rds S w us ((l.map a.eval).flatMap fun v=>v.cells.toList):=by
 induction h with
 | nil=>intro _;exact⟨rfl,by simp,rfl⟩
 | @cons x l u us h h2 ih=>
   intro hz;obtain⟨k1,k2,k3⟩:=ih (fun u hu=>hz u (by simp [hu]));have hr:=VD.r hH h (mV.ev hf hH x);simp only [SVr] at hr;obtain⟨cs,c1,c2⟩:=hr;have hcells:(a.eval x).cells.toList=cs:=by rw [c1];exact gKk c2
   have hcl:=Rd.length _ _ c2;rw [hz u (by simp)] at hcl;refine⟨by simp [k1],?_,?_⟩
   ·intro v hv;simp only [List.map_cons,List.mem_cons] at hv;rcases hv with rfl | hv
    ·rw [←hcl,←hcells];simp
    ·exact k2 v hv
   ·simp only [List.map_cons,List.flatMap_cons,Rds];exact⟨cs,_,by rw [hcells],c2,k3⟩
section
variable {P:Program}{A:Amb}{ops:Array Oper}{K:St→Prop}{Q:Exit→St→Prop}{rest:List Oper}{σ:St}{fr:List (Nat × SV)}{L L1 L':List LO}{N i t:Nat}{sv:SV}{o:Oper}{c:Code}
variable {ty T:TypeId}{pos:String}{af:Array Edge}{x y:Operand}{g:Option (Nat × Bool)}{dst:Option Nat}{op:Op}
theorem hFa {e z bs:Nat}{gg:Bool}{zs:List Value}{a:Act}{w:World}{n:Nat}{ps:Array (Nat × Operand)}{l:List Operand}(hT:tyE P T=some e)(he:tyI P e=some (gg,z,bs))(hZ:tyZ P e=some zs)(hz:(Nat.blt 0 z && Nat.ble (n*z) 16777216 && zs.length==z)=true)
  (hn:l.length=n) (h0:0 < n) (hps:ps.toList=(l.zipIdx 0).map fun p=>(p.2,p.1)) (hv:∀v∈l.map a.eval,v.cells.size=z) :
  (execOp a.eval ⟨dst,.buildSlice T n ps,ty,pos,af,g⟩).run P w=.ok (.value (.slice (some ⟨w.heap.size,0,none⟩) n n)) (w.alloc (.cells ((l.map a.eval).flatMap fun v=>v.cells.toList).toArray e)):=by
 simp only [Bool.and_eq_true,Nat.blt_eq,beq_iff_eq] at hz;obtain⟨⟨hz0,hz1⟩,hz2⟩:=hz;have hz1:=Nat.le_of_ble_eq_true hz1;obtain⟨zv,hrz,hzc⟩:=gMp hZ w;have hzs:zv.cells.size=z:=by rw [←hz2,←hzc];simp
 have hpar:(ps.map fun p=>(p.1,a.eval p.2)).toList=((l.map a.eval).zipIdx 0).map fun p=>(p.2,p.1):=by
  rw [Array.toList_map,hps,List.zipIdx_map,List.map_map,List.map_map];rfl
 have hfill:=gXt hz0 (l.map a.eval) 0 [] ((List.range (n*z)).map (zv.cells[· % zv.cells.size]!)) hv (by simp) (by simp [hn]);simp only [List.nil_append] at hfill;have hne:¬n*z=0:=by
  have:=Nat.mul_pos h0 hz0
  omega
 have harr:(Array.range (n*z)).map (zv.cells[· % zv.cells.size]!)=((List.range (n*z)).map (zv.cells[· % zv.cells.size]!)).toArray:=by
  apply Array.ext';simp
 have h2:¬n*z > 2^24:=by omega
 simp only [execOp,Instr.buildSlice,Sem.run_bind,run_underlying (zB hT),Result.andThen_ok,run_sizeOf he,h2,if_false,hne,hrz,Sem.run_pure,harr,hpar,hfill,newRow];simp
theorem hSc {e z bs n:Nat}{gg:Bool} [TE P T e] [TI P e gg z bs] {zs:List Value} [TZ P e zs] {us:List U} {ps:Array (Nat × Operand)} {l:List Operand} (h:VO P A ops rest ⟨(t,.sl i 0)::fr,L',N⟩ K) (hps:ps.toList=(l.zipIdx 0).map fun p=>(p.2,p.1):=by rfl)
  (hy:VDs ⟨fr,L,N⟩ l us:=by(repeat(first | exact .nil | refine .cons (by((repeat(first | exact trivial | exact rfl | exact⟨_,rfl⟩ | refine And.intro ?_ ?_));first | done | fail)) ?_))) (hu:(us.all fun u=>u.sz==z)=true:=by rfl) (hn:(l.length==n && Nat.blt 0 n)=true:=by rfl)
  (hz:(Nat.blt 0 z && Nat.ble (n*z) 16777216 && zs.length==z)=true:=by rfl) (ht:Nat.blt t N=true:=by rfl) (hL':Sn (.arr e z 0 us) L i L':=by repeat constructor) :
  VO P A ops (⟨some t,.buildSlice T n ps,ty,pos,af,none⟩::rest) ⟨fr,L,N⟩ K:=by
 obtain⟨hi,hL''⟩:=hL'.spec;subst hi;subst hL'';simp only [Bool.and_eq_true,beq_iff_eq,Nat.blt_eq] at hn;have hsz:∀u∈us,u.sz=z:=by simpa using hu
 refine gCp rfl (fun S env a w hH hf hN hd=>?_) h;obtain⟨k1,k2,k3⟩:=VDs.r hH hf hy hsz;have hlen:=Rds.length _ _ k3;have hszs:U.szs us=us.length*z:=by
  have:∀(us:List U),(∀u∈us,u.sz=z)→U.szs us=us.length*z:=by
   intro us
   induction us with
   | nil=>intro _;simp [U.szs]
   | cons u us ih=>intro h;simp only [U.szs,List.length_cons,Nat.add_mul];rw [h u (by simp),ih (fun v hv=>h v (by simp [hv]))];omega
  exact this us hsz
 have hbig:us.length≤16777216:=by
  simp only [Bool.and_eq_true,Nat.blt_eq] at hz;have h1:=Nat.le_of_ble_eq_true hz.1.2;have h2:n*1≤n*z:=Nat.mul_le_mul_left n hz.1.1;omega
 have hold:∀b,b < w.heap.size→(w.alloc (.cells ((l.map a.eval).flatMap fun v=>v.cells.toList).toArray e)).heap[b]? =w.heap[b]? :=fun b hb=>heap_alloc_old w _ hb
 obtain⟨hH',C⟩:=hH.new (w':=w.alloc (.cells ((l.map a.eval).flatMap fun v=>v.cells.toList).toArray e)) (.arr e z 0 us) (.slice (some ⟨w.heap.size,0,none⟩) n n) (by simp) hold rfl rfl rfl
  (fun b hb=>by simp [LO.ft,blk] at hb;subst hb;simp)
  (fun C=>⟨by rw [yC];omega,hsz,_,⟨by rw [hlen,hszs],.inr ⟨w.heap.size,n,_,by rw [←k1,hn.1],Nat.zero_le _,heap_alloc_new w _,by omega,by simp [maxLen];omega,by simp only [List.size_toArray];rw [hlen,hszs,←k1,hn.1],by
   rw [List.take_of_length_le]
   simp only [hlen,hszs,Nat.le_refl]⟩⟩,Rds.mono C.hS C.hw _ _ k3⟩)
 refine⟨.value (.slice (some ⟨w.heap.size,0,none⟩) n n),_,hFa TE.h TI.h TZ.h hz hn.1 hn.2 hps k2,.inl ⟨_,rfl,uH hf hN hd ht hH' C ?_⟩⟩;simp only [SVr];exact⟨.slice (some ⟨w.heap.size,0,none⟩) n n,.arr e z 0 us,by rw [←hH.len];simp,by simp,Nat.le_refl _,rfl,fun _=>rfl⟩
theorem hLv{T' ty':TypeId}{k:IntKind}{m n:Int}(hx:σ.ev x=.d (.i k m):=by rfl)(hy:σ.ev y=.d (.i k n):=by rfl):QR P σ ⟨dst,.call { callee:=.builtin .max,args:=#[x,y],argTypes:=#[T,T'] },ty',pos,af,g⟩ (.d (.i k (if m < n then n else m))):=
 fun A fr' L' he _=>Quiet.pure fun S env a w hH ho=>by
  have h1:=ho x (by simp [Op.operands,Call.operands]);have h2:=ho y (by simp [Op.operands,Call.operands]);rw [he x (by simp [Op.operands,Call.operands]),hx] at h1;rw [he y (by simp [Op.operands,Call.operands]),hy] at h2;have h1:=SVr.int.1 h1;have h2:=SVr.int.1 h2;refine⟨.int k (if m < n then n else m),?_,SVr.int.2 rfl⟩;by_cases hmn:m < n<;>simp [execOp,resolve,invoke,builtin,h1,h2,Builtin.max_,Builtin.max2,hmn]
end
section
variable {P:Program}{A:Amb}{ops:Array Oper}{K:St→Prop}{Q:Exit→St→Prop}{rest:List Oper}{σ:St}{fr:List (Nat × SV)}{L L1 L' news:List LO}{N i t n:Nat}{sv:SV}{o:Oper}{c:Code}
variable {ty T:TypeId}{pos:String}{af:Array Edge}{x y:Operand}{g:Option (Nat × Bool)}{dst:Option Nat}{op:Op}{r:List (Nat × Bool)}{pf:PF}{j:Nat}
theorem gIe {f:Operand}{fi:Nat}{args:Array Operand}{at_:Array TypeId}{dargs:List SV}{es:List TypeId}{us:List U}(hspec:mJ P fi dargs es us)(h:VO P A ops rest ⟨(t,sv)::fr,L',N⟩ K)(hf:(St.mk fr L N).ev f=.fn fi []:=by rfl)
  (hargs:WCs L (args.toList.map (St.mk fr L N).ev) dargs:=by((repeat(first | exact trivial | exact rfl | exact⟨_,rfl⟩ | refine And.intro ?_ ?_));first | done | fail)) (hn:Ln L n:=by repeat constructor) (hy:OYr n es us sv news:=by((repeat constructor);first | done | fail)) (hj:Jn L news L':=by repeat constructor) (ht:Nat.blt t N=true:=by rfl) :
  VO P A ops (⟨some t,.call { callee:=.value f,args:=args,argTypes:=at_ },ty,pos,af,none⟩::rest) ⟨fr,L,N⟩ K:=gXj hf hspec hargs hn hy hj ht h
theorem gQh {f:Operand}{fi:Nat}{args:Array Operand}{at_:Array TypeId}{dargs:List SV}{es:List TypeId}{us:List U}(hspec:mJ P fi dargs es us)(h:VY P A ops K r pf ⟨(t,sv)::fr,L',N⟩)
  (hi:ops[i]? =some ⟨some t,.call { callee:=.value f,args:=args,argTypes:=at_ },ty,pos,af,none⟩:=by rfl) (hf:(St.mk fr L N).ev f=.fn fi []:=by rfl)
  (hargs:WCs L (args.toList.map (St.mk fr L N).ev) dargs:=by((repeat(first | exact trivial | exact rfl | exact⟨_,rfl⟩ | refine And.intro ?_ ?_));first | done | fail)) (hn:Ln L n:=by repeat constructor) (hy:OYr n es us sv news:=by((repeat constructor);first | done | fail)) (hj:Jn L news L':=by repeat constructor) (ht:Nat.blt t N=true:=by rfl)
  (hp:vE ops i L' pf:=by(repeat(first | exact vE.nil | (apply vE.keep;focus ((repeat constructor);done)) | (apply vE.dep;focus kernel_rfl)))) :
  VY P A ops K ((i,false)::r) pf ⟨fr,L,N⟩:=gFo hi (hAq hf hspec hargs hn hy hj ht) hp h
theorem hIp {α:Type}{en:α→U}{es:List α→List U}{z:Nat}[E:Enc α en es z](a0:α){e bs m:Nat}{gg:Bool}(hg:m≤4294967296) [TE P T e] [TI P e gg z bs] {zs:List Value} [TZ P e zs] (h:VO P A ops rest ⟨(t,.sl i 0)::fr,L',N⟩ K)
  (hx:(St.mk fr L N).ev x=.d (.i .i64 (m:Int)):=by rfl) (hy:(St.mk fr L N).ev y=.d (.i .i64 (m:Int)):=by rfl) (hzu:gV9 (en a0) zs:=by exact hLh (by repeat constructor) (by repeat constructor)) (hz:(Nat.blt 0 z && zs.length==z)=true:=by rfl) (hb:Nat.ble bs 32768=true:=by rfl)
  (ht:Nat.blt t N=true:=by rfl) (hL':Sn (.own e z 0 (es (List.replicate m a0))) L i L':=by repeat constructor) :
  VO P A ops (⟨some t,.makeSlice T x y,ty,pos,af,none⟩::rest) ⟨fr,L,N⟩ K:=by
 have hb:=Nat.le_of_ble_eq_true hb;rw [Enc.rep (es:=es)] at hL';refine hIk hx hy TE.h TI.h TZ.h hz hzu (Int.natCast_nonneg m) (Int.le_refl _) (by rw [yC];omega) ?_ ht (by rwa [Int.toNat_natCast]) h
 have:bs*m≤32768*4294967296:=Nat.mul_le_mul hb hg
 omega
theorem hIq{α:Type}{en:α→U}{es:List α→List U}{z:Nat}[E:Enc α en es z]{e bs ver e':Nat}{gg:Bool}{l:List α}(k:Nat)(hk:k < l.length) [TE P T e] [TI P e gg z bs](hx:σ.ev x=.sl j ver:=by rfl)(hL:σ.L[j]? =some (.own e' z ver (es l)):=by rfl)(hy:σ.ev y=.d (.i .i64 (k:Int)):=by rfl) :
  Quiet P A σ ⟨dst,.indexAddr T x y,ty,pos,af,g⟩ (.ep j ver z k 0):=by
 have:=gWl (P:=P) (A:=A) (dst:=dst) (ty:=ty) (pos:=pos) (af:=af) (g:=g) hx hL .own hy (TE.h:tyE P T=some e) (TI.h:tyI P e=some (gg,z,bs)) (Int.natCast_nonneg k) (by rw [Enc.len];omega)
 simpa using this
theorem hIr {α:Type}{en:α→U}{es:List α→List U}{z:Nat}[E:Enc α en es z]{e bs ver k:Nat}{gg:Bool}{l:List α}(a:α){js:List Nat}(hk:k < l.length) [TI P T gg z bs] (h:VO P A ops rest ⟨fr,L',N⟩ K) (hx:(St.mk fr L N).ev x=.ep i ver z k 0:=by rfl) (hL:L[i]? =some (.own e z ver (es l)):=by rfl)
  (hy:OV L ((St.mk fr L N).ev y) (en a) js:=by((repeat constructor);first | done | fail)) (hjs:(decide js.Nodup && !js.contains i)=true:=by decide) (hk1:KR js L L1:=by repeat constructor) (hL':St1 (.own e z ver (es (l.set k a))) i L1 L':=by repeat constructor) :
  VO P A ops (⟨none,.store T x y,ty,pos,af,none⟩::rest) ⟨fr,L,N⟩ K:=by
 rw [Enc.set (es:=es)] at hL';exact hE6 hx hL hy hjs TI.h (Enc.hz a) (by rw [Enc.len];exact hk) hk1 hL' h
theorem yF {α:Type}{en:α→U}{es:List α→List U}{z:Nat}[E:Enc α en es z](a:α){e bs:Nat}{gg:Bool} [TE P T e] [TI P e gg z bs] {zs:List Value} [TZ P e zs] {js:List Nat} (h:VO P A ops rest ⟨(t,.sl i 0)::fr,L',N⟩ K) (hy:OV L ((St.mk fr L N).ev x) (en a) js:=by((repeat constructor);first | done | fail)) (hjs:decide js.Nodup=true:=by decide)
  (hz:(Nat.blt 0 z && Nat.blt z 16777216 && zs.length==z)=true:=by rfl) (ht:Nat.blt t N=true:=by rfl) (hk1:KR js L L1:=by repeat constructor) (hL':Sn (.own e z 0 (es [a])) L1 i L':=by repeat constructor) :
  VO P A ops (⟨some t,.buildSlice T 1 #[(0,x)],ty,pos,af,none⟩::rest) ⟨fr,L,N⟩ K:=by
 have e1:es [a]=[en a]:=by rw [E.h];rfl
 rw [e1] at hL';exact gS2 hy hjs TE.h TI.h TZ.h hz (Enc.hz a) ht hk1 hL' h
theorem gG1 {α:Type}{en:α→U}{es:List α→List U}{z:Nat}[E:Enc α en es z](a:α){e bs m:Nat}{gg:Bool} [TE P T e] [TI P e gg z bs] {zs:List Value} [TZ P e zs] {js:List Nat} (h:VY P A ops K r pf ⟨(t,.sl m 0)::fr,L',N⟩) (hi:ops[i]? =some ⟨some t,.buildSlice T 1 #[(0,x)],ty,pos,af,none⟩:=by rfl) (hy:OV L ((St.mk fr L N).ev x) (en a) js:=by((repeat constructor);first | done | fail)) (hjs:decide js.Nodup=true:=by decide)
  (hz:(Nat.blt 0 z && Nat.blt z 16777216 && zs.length==z)=true:=by rfl) (ht:Nat.blt t N=true:=by rfl) (hk1:KR js L L1:=by repeat constructor) (hL':Sn (.own e z 0 (es [a])) L1 m L':=by repeat constructor)
  (hp:vE ops i L' pf:=by(repeat(first | exact vE.nil | (apply vE.keep;focus ((repeat constructor);done)) | (apply vE.dep;focus kernel_rfl)))) :
  VY P A ops K ((i,false)::r) pf ⟨fr,L,N⟩:=by
 have e1:es [a]=[en a]:=by rw [E.h];rfl
 rw [e1] at hL';exact gFo hi (hAy hy hjs TE.h TI.h TZ.h hz (Enc.hz a) ht hk1 hL') hp h
theorem hBn {e z bs m:Nat}{gg:Bool} [TE P T e] [TI P e gg z bs] (h:VY P A ops K r pf ⟨(t,.sl m 0)::fr,L',N⟩) (hi:ops[i]? =some ⟨some t,.buildSlice T 0 #[],ty,pos,af,none⟩:=by rfl) (ht:Nat.blt t N=true:=by rfl) (hL':Sn (.own e z 0 []) L m L':=by repeat constructor)
  (hp:vE ops i L' pf:=by(repeat(first | exact vE.nil | (apply vE.keep;focus ((repeat constructor);done)) | (apply vE.dep;focus kernel_rfl)))) :
  VY P A ops K ((i,false)::r) pf ⟨fr,L,N⟩:=gFo hi (hAz TE.h TI.h ht hL') hp h
theorem gH1 {α:Type}{en:α→U}{es:List α→List U}{z:Nat}[E:Enc α en es z]{l l':List α}(hg:l.length+l'.length≤4294967296){e bs ver m:Nat}{gg:Bool} [TE P T e] [TI P e gg z bs] {zs:List Value} [TZ P e zs] {js:List Nat} {T':TypeId}
  (h:VY P A ops K r pf ⟨(t,.sl m (ver+1))::fr,L',N⟩) (hi:ops[i]? =some ⟨some t,.call { callee:=.builtin .append,args:=#[x,y],argTypes:=#[T,T] },T',pos,af,none⟩:=by rfl) (hx:(St.mk fr L N).ev x=.sl m ver:=by rfl) (hL:L[m]? =some (.own e z ver (es l)):=by rfl) (hs:gWa L z ((St.mk fr L N).ev y) (es l') js:=by first | exact .own rfl | exact .nil | exact .data (Enc.all _) (vQ _) | exact .data (Enc.all _) (vR _))
  (hjs:(decide js.Nodup && !js.contains m)=true:=by decide) (hz:(Nat.blt 0 z && zs.length==z)=true:=by rfl) (hb:Nat.ble bs 32768=true:=by rfl)
  (ht:Nat.blt t N=true:=by rfl) (hk1:KR js L L1:=by repeat constructor) (hL':St1 (.own e z (ver+1) (es (l++l'))) m L1 L':=by repeat constructor)
  (hp:vE ops i L' pf:=by(repeat(first | exact vE.nil | (apply vE.keep;focus ((repeat constructor);done)) | (apply vE.dep;focus kernel_rfl)))) :
  VY P A ops K ((i,false)::r) pf ⟨fr,L,N⟩:=by
 have h1:(es l).length=l.length:=Enc.len l;have h2:(es l').length=l'.length:=Enc.len l';have hb:=Nat.le_of_ble_eq_true hb;rw [Enc.app (es:=es)] at hL';refine gFo hi (gY4 hx hL hs hjs TE.h TI.h TZ.h hz (by rw [yC];omega) ?_ ht hk1 hL') hp h;rw [h1,h2];exact Nat.le_trans (Nat.mul_le_mul hg hb) (by decide)
theorem hLw {α:Type}{en:α→U}{es:List α→List U}{z:Nat}[E:Enc α en es z]{l':List α}(hg:l'.length≤4294967296){e bs:Nat}{gg:Bool} [TE P T e] [TI P e gg z bs] {zs:List Value} [TZ P e zs] {js:List Nat} {T':TypeId}
  (h:VO P A ops rest ⟨(t,.sl i 0)::fr,L',N⟩ K) (hx:(St.mk fr L N).ev x=.nilsl:=by rfl) (hs:gWa L z ((St.mk fr L N).ev y) (es l') js:=by first | exact .own rfl | exact .nil | exact .data (Enc.all _) (vQ _) | exact .data (Enc.all _) (vR _))
  (hjs:decide js.Nodup=true:=by decide) (hz:(Nat.blt 0 z && zs.length==z)=true:=by rfl) (hb:Nat.ble bs 32768=true:=by rfl)
  (ht:Nat.blt t N=true:=by rfl) (hk1:KR js L L1:=by repeat constructor) (hL':Sn (.own e z 0 (es l')) L1 i L':=by repeat constructor) :
  VO P A ops (⟨some t,.call { callee:=.builtin .append,args:=#[x,y],argTypes:=#[T,T] },T',pos,af,none⟩::rest) ⟨fr,L,N⟩ K:=by
 have h2:(es l').length=l'.length:=Enc.len l';have hb:=Nat.le_of_ble_eq_true hb;refine gMj hx hs hjs TE.h TI.h TZ.h hz (by rw [yC];omega) ?_ ht hk1 hL' h;rw [h2];exact Nat.le_trans (Nat.mul_le_mul hg hb) (by decide)
end
end Go.Eng
