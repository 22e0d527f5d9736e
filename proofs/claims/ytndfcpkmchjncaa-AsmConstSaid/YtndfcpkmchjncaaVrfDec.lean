/-
  ferryman/ferrymanref3.Decode: all its ways, printed by a program of this repo.
-/
import Derived.Test.YtndfcpkmchjncaaBase
import Derived.Test.YtndfcpkmchjncaaHand
import Derived.Test.YtndfcpkmchjncaaVrfOf
import Derived.Test.YtndfcpkmchjncaaVrfEnc
import Derived.Test.YtndfcpkmchjncaaRfE
namespace Go.Proofs.Ytndfcpkmchjncaa
open Go.Sx
set_option linter.unusedVariables false
set_option linter.unusedSimpArgs false
set_option maxRecDepth 100000
set_option maxHeartbeats 20000000
@[reducible] def srfDec (x v : Nat) (n : Int) (t : LT) : LT := .sure [.setB0 x (.cmp .eql (.var v) (.lit n))] x false t
noncomputable def rfDecC : Ctx := ⟨tys, fns, (((((.e : Tr Sum).set 88 rfFieldS).set 71 rfSignedS).set 69 rfOfS).set 72 rfEncS)⟩
theorem rfDecC_ok : CtxT Try.prog phi rfDecC := ⟨tys_ok, fns_ok, ((((SumsT.e.set rfField_ok).set rfSigned_ok).set rfOf_ok).set rfEnc_ok), mix_ok⟩
noncomputable def rfDecR (ds : List D) : R (SV × St) := fnRun rfDecC 1000 50 43 (symArgs rfDecS.args 0) (st0 ds 1)
def rfDecT6_okD : List D := [.db true, .db true, .db false, .db false, .db false, .db false, .db false, .db true, .db true, .db false, .db false, .db false, .db false, .db false, .db true, .db true, .db false, .db false, .db false, .db false, .db false, .db true, .db true, .db false, .db false, .db false, .db true, .db true, .db false, .db false, .db true, .db true, .db false, .db true, .db true]
def rfDecT6_okE : List Ev := [.decB 133 true, .call 72 [(.lit (.int .i64 7)), (.lit (.int .i64 0)), (.ivar .i64 6), (.ivar .i64 9), (.ivar .i32 131)] 132 [(.ri .u32), .rb], .call 71 [(.ivar .u32 130), (.lit (.int .i64 13))] 131 [(.ri .i32)], .setI0 130 (.bin .or .u32 (.var 127) (.var 129)), .setI0 129 (.bin .shl .u32 (.var 128) (.lit 12)), .call 88 [(.ivar .u32 0), (.lit (.int .i64 31)), (.lit (.int .i64 1))] 128 [(.ri .u32)], .setI0 127 (.bin .or .u32 (.var 124) (.var 126)), .setI0 126 (.bin .shl .u32 (.var 125) (.lit 5)), .call 88 [(.ivar .u32 0), (.lit (.int .i64 25)), (.lit (.int .i64 6))] 125 [(.ri .u32)], .setI0 124 (.bin .or .u32 (.var 121) (.var 123)), .setI0 123 (.bin .shl .u32 (.var 122) (.lit 1)), .call 88 [(.ivar .u32 0), (.lit (.int .i64 8)), (.lit (.int .i64 4))] 122 [(.ri .u32)], .setI0 121 (.bin .shl .u32 (.var 120) (.lit 11)), .call 88 [(.ivar .u32 0), (.lit (.int .i64 7)), (.lit (.int .i64 1))] 120 [(.ri .u32)], .decB 119 true, .setB0 119 (.cmp .eql (.var 111) (.lit 66)), .decB 118 false, .setB0 118 (.cmp .eql (.var 111) (.lit 72)), .decB 117 false, .setB0 117 (.cmp .eql (.var 111) (.lit 73)), .decB 116 false, .setB0 116 (.cmp .eql (.var 111) (.lit 74)), .decB 115 false, .setB0 115 (.cmp .eql (.var 111) (.lit 85)), .call 69 [(.lit (.int .i64 7))] 111 [(.ri .u8), (.ri .u32), (.ri .u32), (.ri .u32)], .decB 110 false, .setB0 110 (.cmp .eql (.var 108) (.var 0)), .decB 109 true, .call 72 [(.lit (.int .i64 6)), (.lit (.int .i64 0)), (.ivar .i64 6), (.ivar .i64 9), (.ivar .i32 107)] 108 [(.ri .u32), .rb], .call 71 [(.ivar .u32 106), (.lit (.int .i64 13))] 107 [(.ri .i32)], .setI0 106 (.bin .or .u32 (.var 103) (.var 105)), .setI0 105 (.bin .shl .u32 (.var 104) (.lit 12)), .call 88 [(.ivar .u32 0), (.lit (.int .i64 31)), (.lit (.int .i64 1))] 104 [(.ri .u32)], .setI0 103 (.bin .or .u32 (.var 100) (.var 102)), .setI0 102 (.bin .shl .u32 (.var 101) (.lit 5)), .call 88 [(.ivar .u32 0), (.lit (.int .i64 25)), (.lit (.int .i64 6))] 101 [(.ri .u32)], .setI0 100 (.bin .or .u32 (.var 97) (.var 99)), .setI0 99 (.bin .shl .u32 (.var 98) (.lit 1)), .call 88 [(.ivar .u32 0), (.lit (.int .i64 8)), (.lit (.int .i64 4))] 98 [(.ri .u32)], .setI0 97 (.bin .shl .u32 (.var 96) (.lit 11)), .call 88 [(.ivar .u32 0), (.lit (.int .i64 7)), (.lit (.int .i64 1))] 96 [(.ri .u32)], .decB 95 true, .setB0 95 (.cmp .eql (.var 87) (.lit 66)), .decB 94 false, .setB0 94 (.cmp .eql (.var 87) (.lit 72)), .decB 93 false, .setB0 93 (.cmp .eql (.var 87) (.lit 73)), .decB 92 false, .setB0 92 (.cmp .eql (.var 87) (.lit 74)), .decB 91 false, .setB0 91 (.cmp .eql (.var 87) (.lit 85)), .call 69 [(.lit (.int .i64 6))] 87 [(.ri .u8), (.ri .u32), (.ri .u32), (.ri .u32)], .decB 86 false, .setB0 86 (.cmp .eql (.var 84) (.var 0)), .decB 85 true, .call 72 [(.lit (.int .i64 5)), (.lit (.int .i64 0)), (.ivar .i64 6), (.ivar .i64 9), (.ivar .i32 83)] 84 [(.ri .u32), .rb], .call 71 [(.ivar .u32 82), (.lit (.int .i64 13))] 83 [(.ri .i32)], .setI0 82 (.bin .or .u32 (.var 79) (.var 81)), .setI0 81 (.bin .shl .u32 (.var 80) (.lit 12)), .call 88 [(.ivar .u32 0), (.lit (.int .i64 31)), (.lit (.int .i64 1))] 80 [(.ri .u32)], .setI0 79 (.bin .or .u32 (.var 76) (.var 78)), .setI0 78 (.bin .shl .u32 (.var 77) (.lit 5)), .call 88 [(.ivar .u32 0), (.lit (.int .i64 25)), (.lit (.int .i64 6))] 77 [(.ri .u32)], .setI0 76 (.bin .or .u32 (.var 73) (.var 75)), .setI0 75 (.bin .shl .u32 (.var 74) (.lit 1)), .call 88 [(.ivar .u32 0), (.lit (.int .i64 8)), (.lit (.int .i64 4))] 74 [(.ri .u32)], .setI0 73 (.bin .shl .u32 (.var 72) (.lit 11)), .call 88 [(.ivar .u32 0), (.lit (.int .i64 7)), (.lit (.int .i64 1))] 72 [(.ri .u32)], .decB 71 true, .setB0 71 (.cmp .eql (.var 63) (.lit 66)), .decB 70 false, .setB0 70 (.cmp .eql (.var 63) (.lit 72)), .decB 69 false, .setB0 69 (.cmp .eql (.var 63) (.lit 73)), .decB 68 false, .setB0 68 (.cmp .eql (.var 63) (.lit 74)), .decB 67 false, .setB0 67 (.cmp .eql (.var 63) (.lit 85)), .call 69 [(.lit (.int .i64 5))] 63 [(.ri .u8), (.ri .u32), (.ri .u32), (.ri .u32)], .decB 62 false, .setB0 62 (.cmp .eql (.var 60) (.var 0)), .decB 61 true, .call 72 [(.lit (.int .i64 4)), (.ivar .i64 3), (.ivar .i64 6), (.lit (.int .i64 0)), (.ivar .i32 59)] 60 [(.ri .u32), .rb], .setI0 59 (.bin .shr .i32 (.var 58) (.lit 20)), .setI0 58 (.conv .i32 (.var 0)), .decB 57 true, .setB0 57 (.cmp .eql (.var 51) (.lit 73)), .decB 56 false, .setB0 56 (.cmp .eql (.var 51) (.lit 74)), .decB 55 false, .setB0 55 (.cmp .eql (.var 51) (.lit 85)), .call 69 [(.lit (.int .i64 4))] 51 [(.ri .u8), (.ri .u32), (.ri .u32), (.ri .u32)], .decB 50 false, .setB0 50 (.cmp .eql (.var 48) (.var 0)), .decB 49 true, .call 72 [(.lit (.int .i64 3)), (.ivar .i64 3), (.lit (.int .i64 0)), (.lit (.int .i64 0)), (.ivar .i32 47)] 48 [(.ri .u32), .rb], .call 71 [(.ivar .u32 46), (.lit (.int .i64 21))] 47 [(.ri .i32)], .setI0 46 (.bin .or .u32 (.var 43) (.var 45)), .setI0 45 (.bin .shl .u32 (.var 44) (.lit 20)), .call 88 [(.ivar .u32 0), (.lit (.int .i64 31)), (.lit (.int .i64 1))] 44 [(.ri .u32)], .setI0 43 (.bin .or .u32 (.var 40) (.var 42)), .setI0 42 (.bin .shl .u32 (.var 41) (.lit 1)), .call 88 [(.ivar .u32 0), (.lit (.int .i64 21)), (.lit (.int .i64 10))] 41 [(.ri .u32)], .setI0 40 (.bin .or .u32 (.var 37) (.var 39)), .setI0 39 (.bin .shl .u32 (.var 38) (.lit 11)), .call 88 [(.ivar .u32 0), (.lit (.int .i64 20)), (.lit (.int .i64 1))] 38 [(.ri .u32)], .setI0 37 (.bin .shl .u32 (.var 36) (.lit 12)), .call 88 [(.ivar .u32 0), (.lit (.int .i64 12)), (.lit (.int .i64 8))] 36 [(.ri .u32)], .decB 35 true, .setB0 35 (.cmp .eql (.var 30) (.lit 74)), .decB 34 false, .setB0 34 (.cmp .eql (.var 30) (.lit 85)), .call 69 [(.lit (.int .i64 3))] 30 [(.ri .u8), (.ri .u32), (.ri .u32), (.ri .u32)], .decB 29 false, .setB0 29 (.cmp .eql (.var 27) (.var 0)), .decB 28 true, .call 72 [(.lit (.int .i64 2)), (.ivar .i64 3), (.lit (.int .i64 0)), (.lit (.int .i64 0)), (.ivar .i32 26)] 27 [(.ri .u32), .rb], .setI0 26 (.conv .i32 (.var 25)), .setI0 25 (.bin .and .u32 (.var 0) (.lit 4294963200)), .decB 24 true, .setB0 24 (.cmp .eql (.var 20) (.lit 85)), .call 69 [(.lit (.int .i64 2))] 20 [(.ri .u8), (.ri .u32), (.ri .u32), (.ri .u32)], .decB 19 false, .setB0 19 (.cmp .eql (.var 17) (.var 0)), .decB 18 true, .call 72 [(.lit (.int .i64 1)), (.ivar .i64 3), (.lit (.int .i64 0)), (.lit (.int .i64 0)), (.ivar .i32 16)] 17 [(.ri .u32), .rb], .setI0 16 (.conv .i32 (.var 15)), .setI0 15 (.bin .and .u32 (.var 0) (.lit 4294963200)), .decB 14 true, .setB0 14 (.cmp .eql (.var 10) (.lit 85)), .call 69 [(.lit (.int .i64 1))] 10 [(.ri .u8), (.ri .u32), (.ri .u32), (.ri .u32)], .setI0 9 (.conv .i64 (.var 8)), .setI0 8 (.bin .and .u32 (.var 7) (.lit 31)), .setI0 7 (.bin .shr .u32 (.var 0) (.lit 20)), .setI0 6 (.conv .i64 (.var 5)), .setI0 5 (.bin .and .u32 (.var 4) (.lit 31)), .setI0 4 (.bin .shr .u32 (.var 0) (.lit 15)), .setI0 3 (.conv .i64 (.var 2)), .setI0 2 (.bin .and .u32 (.var 1) (.lit 31)), .setI0 1 (.bin .shr .u32 (.var 0) (.lit 7))]
def rfDecT5_okD : List D := (.db true :: .db true :: .db false :: .db false :: .db false :: .db true :: .db true :: .db false :: .db false :: .db false :: .db true :: .db true :: .db false :: .db false :: .db false :: .db true :: .db true :: .db false :: .db false :: .db false :: .db false :: .db false :: .db true :: .db true :: .db false :: .db false :: .db false :: .db false :: .db false :: .db true :: .db true :: .db false :: .db false :: .db false :: .db false :: .db false :: rfDecT6_okD)
def rfDecT5_okE : List Ev := (.decB 241 true :: .call 72 [(.lit (.int .i64 13)), (.ivar .i64 3), (.ivar .i64 6), (.lit (.int .i64 0)), (.ivar .i32 239)] 240 [(.ri .u32), .rb] :: .setI0 239 (.bin .shr .i32 (.var 238) (.lit 20)) :: .setI0 238 (.conv .i32 (.var 0)) :: .decB 237 true :: .setB0 237 (.cmp .eql (.var 231) (.lit 73)) :: .decB 236 false :: .setB0 236 (.cmp .eql (.var 231) (.lit 74)) :: .decB 235 false :: .setB0 235 (.cmp .eql (.var 231) (.lit 85)) :: .call 69 [(.lit (.int .i64 13))] 231 [(.ri .u8), (.ri .u32), (.ri .u32), (.ri .u32)] :: .decB 230 false :: .setB0 230 (.cmp .eql (.var 228) (.var 0)) :: .decB 229 true :: .call 72 [(.lit (.int .i64 12)), (.ivar .i64 3), (.ivar .i64 6), (.lit (.int .i64 0)), (.ivar .i32 227)] 228 [(.ri .u32), .rb] :: .setI0 227 (.bin .shr .i32 (.var 226) (.lit 20)) :: .setI0 226 (.conv .i32 (.var 0)) :: .decB 225 true :: .setB0 225 (.cmp .eql (.var 219) (.lit 73)) :: .decB 224 false :: .setB0 224 (.cmp .eql (.var 219) (.lit 74)) :: .decB 223 false :: .setB0 223 (.cmp .eql (.var 219) (.lit 85)) :: .call 69 [(.lit (.int .i64 12))] 219 [(.ri .u8), (.ri .u32), (.ri .u32), (.ri .u32)] :: .decB 218 false :: .setB0 218 (.cmp .eql (.var 216) (.var 0)) :: .decB 217 true :: .call 72 [(.lit (.int .i64 11)), (.ivar .i64 3), (.ivar .i64 6), (.lit (.int .i64 0)), (.ivar .i32 215)] 216 [(.ri .u32), .rb] :: .setI0 215 (.bin .shr .i32 (.var 214) (.lit 20)) :: .setI0 214 (.conv .i32 (.var 0)) :: .decB 213 true :: .setB0 213 (.cmp .eql (.var 207) (.lit 73)) :: .decB 212 false :: .setB0 212 (.cmp .eql (.var 207) (.lit 74)) :: .decB 211 false :: .setB0 211 (.cmp .eql (.var 207) (.lit 85)) :: .call 69 [(.lit (.int .i64 11))] 207 [(.ri .u8), (.ri .u32), (.ri .u32), (.ri .u32)] :: .decB 206 false :: .setB0 206 (.cmp .eql (.var 204) (.var 0)) :: .decB 205 true :: .call 72 [(.lit (.int .i64 10)), (.lit (.int .i64 0)), (.ivar .i64 6), (.ivar .i64 9), (.ivar .i32 203)] 204 [(.ri .u32), .rb] :: .call 71 [(.ivar .u32 202), (.lit (.int .i64 13))] 203 [(.ri .i32)] :: .setI0 202 (.bin .or .u32 (.var 199) (.var 201)) :: .setI0 201 (.bin .shl .u32 (.var 200) (.lit 12)) :: .call 88 [(.ivar .u32 0), (.lit (.int .i64 31)), (.lit (.int .i64 1))] 200 [(.ri .u32)] :: .setI0 199 (.bin .or .u32 (.var 196) (.var 198)) :: .setI0 198 (.bin .shl .u32 (.var 197) (.lit 5)) :: .call 88 [(.ivar .u32 0), (.lit (.int .i64 25)), (.lit (.int .i64 6))] 197 [(.ri .u32)] :: .setI0 196 (.bin .or .u32 (.var 193) (.var 195)) :: .setI0 195 (.bin .shl .u32 (.var 194) (.lit 1)) :: .call 88 [(.ivar .u32 0), (.lit (.int .i64 8)), (.lit (.int .i64 4))] 194 [(.ri .u32)] :: .setI0 193 (.bin .shl .u32 (.var 192) (.lit 11)) :: .call 88 [(.ivar .u32 0), (.lit (.int .i64 7)), (.lit (.int .i64 1))] 192 [(.ri .u32)] :: .decB 191 true :: .setB0 191 (.cmp .eql (.var 183) (.lit 66)) :: .decB 190 false :: .setB0 190 (.cmp .eql (.var 183) (.lit 72)) :: .decB 189 false :: .setB0 189 (.cmp .eql (.var 183) (.lit 73)) :: .decB 188 false :: .setB0 188 (.cmp .eql (.var 183) (.lit 74)) :: .decB 187 false :: .setB0 187 (.cmp .eql (.var 183) (.lit 85)) :: .call 69 [(.lit (.int .i64 10))] 183 [(.ri .u8), (.ri .u32), (.ri .u32), (.ri .u32)] :: .decB 182 false :: .setB0 182 (.cmp .eql (.var 180) (.var 0)) :: .decB 181 true :: .call 72 [(.lit (.int .i64 9)), (.lit (.int .i64 0)), (.ivar .i64 6), (.ivar .i64 9), (.ivar .i32 179)] 180 [(.ri .u32), .rb] :: .call 71 [(.ivar .u32 178), (.lit (.int .i64 13))] 179 [(.ri .i32)] :: .setI0 178 (.bin .or .u32 (.var 175) (.var 177)) :: .setI0 177 (.bin .shl .u32 (.var 176) (.lit 12)) :: .call 88 [(.ivar .u32 0), (.lit (.int .i64 31)), (.lit (.int .i64 1))] 176 [(.ri .u32)] :: .setI0 175 (.bin .or .u32 (.var 172) (.var 174)) :: .setI0 174 (.bin .shl .u32 (.var 173) (.lit 5)) :: .call 88 [(.ivar .u32 0), (.lit (.int .i64 25)), (.lit (.int .i64 6))] 173 [(.ri .u32)] :: .setI0 172 (.bin .or .u32 (.var 169) (.var 171)) :: .setI0 171 (.bin .shl .u32 (.var 170) (.lit 1)) :: .call 88 [(.ivar .u32 0), (.lit (.int .i64 8)), (.lit (.int .i64 4))] 170 [(.ri .u32)] :: .setI0 169 (.bin .shl .u32 (.var 168) (.lit 11)) :: .call 88 [(.ivar .u32 0), (.lit (.int .i64 7)), (.lit (.int .i64 1))] 168 [(.ri .u32)] :: .decB 167 true :: .setB0 167 (.cmp .eql (.var 159) (.lit 66)) :: .decB 166 false :: .setB0 166 (.cmp .eql (.var 159) (.lit 72)) :: .decB 165 false :: .setB0 165 (.cmp .eql (.var 159) (.lit 73)) :: .decB 164 false :: .setB0 164 (.cmp .eql (.var 159) (.lit 74)) :: .decB 163 false :: .setB0 163 (.cmp .eql (.var 159) (.lit 85)) :: .call 69 [(.lit (.int .i64 9))] 159 [(.ri .u8), (.ri .u32), (.ri .u32), (.ri .u32)] :: .decB 158 false :: .setB0 158 (.cmp .eql (.var 156) (.var 0)) :: .decB 157 true :: .call 72 [(.lit (.int .i64 8)), (.lit (.int .i64 0)), (.ivar .i64 6), (.ivar .i64 9), (.ivar .i32 155)] 156 [(.ri .u32), .rb] :: .call 71 [(.ivar .u32 154), (.lit (.int .i64 13))] 155 [(.ri .i32)] :: .setI0 154 (.bin .or .u32 (.var 151) (.var 153)) :: .setI0 153 (.bin .shl .u32 (.var 152) (.lit 12)) :: .call 88 [(.ivar .u32 0), (.lit (.int .i64 31)), (.lit (.int .i64 1))] 152 [(.ri .u32)] :: .setI0 151 (.bin .or .u32 (.var 148) (.var 150)) :: .setI0 150 (.bin .shl .u32 (.var 149) (.lit 5)) :: .call 88 [(.ivar .u32 0), (.lit (.int .i64 25)), (.lit (.int .i64 6))] 149 [(.ri .u32)] :: .setI0 148 (.bin .or .u32 (.var 145) (.var 147)) :: .setI0 147 (.bin .shl .u32 (.var 146) (.lit 1)) :: .call 88 [(.ivar .u32 0), (.lit (.int .i64 8)), (.lit (.int .i64 4))] 146 [(.ri .u32)] :: .setI0 145 (.bin .shl .u32 (.var 144) (.lit 11)) :: .call 88 [(.ivar .u32 0), (.lit (.int .i64 7)), (.lit (.int .i64 1))] 144 [(.ri .u32)] :: .decB 143 true :: .setB0 143 (.cmp .eql (.var 135) (.lit 66)) :: .decB 142 false :: .setB0 142 (.cmp .eql (.var 135) (.lit 72)) :: .decB 141 false :: .setB0 141 (.cmp .eql (.var 135) (.lit 73)) :: .decB 140 false :: .setB0 140 (.cmp .eql (.var 135) (.lit 74)) :: .decB 139 false :: .setB0 139 (.cmp .eql (.var 135) (.lit 85)) :: .call 69 [(.lit (.int .i64 8))] 135 [(.ri .u8), (.ri .u32), (.ri .u32), (.ri .u32)] :: .decB 134 false :: .setB0 134 (.cmp .eql (.var 132) (.var 0)) :: rfDecT6_okE)
def rfDecT4_okD : List D := (.db true :: .db true :: .db false :: .db false :: .db false :: .db true :: .db true :: .db false :: .db false :: .db false :: .db false :: .db false :: .db false :: .db true :: .db true :: .db false :: .db false :: .db false :: .db false :: .db false :: .db false :: .db true :: .db true :: .db false :: .db false :: .db false :: .db false :: .db false :: .db false :: .db true :: .db true :: .db false :: .db false :: .db false :: .db true :: .db true :: .db false :: .db false :: .db false :: rfDecT5_okD)
def rfDecT4_okE : List Ev := (.decB 334 true :: .call 72 [(.lit (.int .i64 19)), (.ivar .i64 3), (.ivar .i64 6), (.lit (.int .i64 0)), (.ivar .i32 332)] 333 [(.ri .u32), .rb] :: .setI0 332 (.bin .shr .i32 (.var 331) (.lit 20)) :: .setI0 331 (.conv .i32 (.var 0)) :: .decB 330 true :: .setB0 330 (.cmp .eql (.var 324) (.lit 73)) :: .decB 329 false :: .setB0 329 (.cmp .eql (.var 324) (.lit 74)) :: .decB 328 false :: .setB0 328 (.cmp .eql (.var 324) (.lit 85)) :: .call 69 [(.lit (.int .i64 19))] 324 [(.ri .u8), (.ri .u32), (.ri .u32), (.ri .u32)] :: .decB 323 false :: .setB0 323 (.cmp .eql (.var 321) (.var 0)) :: .decB 322 true :: .call 72 [(.lit (.int .i64 18)), (.lit (.int .i64 0)), (.ivar .i64 6), (.ivar .i64 9), (.ivar .i32 320)] 321 [(.ri .u32), .rb] :: .call 71 [(.ivar .u32 319), (.lit (.int .i64 12))] 320 [(.ri .i32)] :: .setI0 319 (.bin .or .u32 (.var 316) (.var 318)) :: .setI0 318 (.bin .shl .u32 (.var 317) (.lit 5)) :: .call 88 [(.ivar .u32 0), (.lit (.int .i64 25)), (.lit (.int .i64 7))] 317 [(.ri .u32)] :: .setI0 316 (.bin .shl .u32 (.var 315) (.lit 0)) :: .call 88 [(.ivar .u32 0), (.lit (.int .i64 7)), (.lit (.int .i64 5))] 315 [(.ri .u32)] :: .decB 314 true :: .setB0 314 (.cmp .eql (.var 305) (.lit 83)) :: .decB 313 false :: .setB0 313 (.cmp .eql (.var 305) (.lit 66)) :: .decB 312 false :: .setB0 312 (.cmp .eql (.var 305) (.lit 72)) :: .decB 311 false :: .setB0 311 (.cmp .eql (.var 305) (.lit 73)) :: .decB 310 false :: .setB0 310 (.cmp .eql (.var 305) (.lit 74)) :: .decB 309 false :: .setB0 309 (.cmp .eql (.var 305) (.lit 85)) :: .call 69 [(.lit (.int .i64 18))] 305 [(.ri .u8), (.ri .u32), (.ri .u32), (.ri .u32)] :: .decB 304 false :: .setB0 304 (.cmp .eql (.var 302) (.var 0)) :: .decB 303 true :: .call 72 [(.lit (.int .i64 17)), (.lit (.int .i64 0)), (.ivar .i64 6), (.ivar .i64 9), (.ivar .i32 301)] 302 [(.ri .u32), .rb] :: .call 71 [(.ivar .u32 300), (.lit (.int .i64 12))] 301 [(.ri .i32)] :: .setI0 300 (.bin .or .u32 (.var 297) (.var 299)) :: .setI0 299 (.bin .shl .u32 (.var 298) (.lit 5)) :: .call 88 [(.ivar .u32 0), (.lit (.int .i64 25)), (.lit (.int .i64 7))] 298 [(.ri .u32)] :: .setI0 297 (.bin .shl .u32 (.var 296) (.lit 0)) :: .call 88 [(.ivar .u32 0), (.lit (.int .i64 7)), (.lit (.int .i64 5))] 296 [(.ri .u32)] :: .decB 295 true :: .setB0 295 (.cmp .eql (.var 286) (.lit 83)) :: .decB 294 false :: .setB0 294 (.cmp .eql (.var 286) (.lit 66)) :: .decB 293 false :: .setB0 293 (.cmp .eql (.var 286) (.lit 72)) :: .decB 292 false :: .setB0 292 (.cmp .eql (.var 286) (.lit 73)) :: .decB 291 false :: .setB0 291 (.cmp .eql (.var 286) (.lit 74)) :: .decB 290 false :: .setB0 290 (.cmp .eql (.var 286) (.lit 85)) :: .call 69 [(.lit (.int .i64 17))] 286 [(.ri .u8), (.ri .u32), (.ri .u32), (.ri .u32)] :: .decB 285 false :: .setB0 285 (.cmp .eql (.var 283) (.var 0)) :: .decB 284 true :: .call 72 [(.lit (.int .i64 16)), (.lit (.int .i64 0)), (.ivar .i64 6), (.ivar .i64 9), (.ivar .i32 282)] 283 [(.ri .u32), .rb] :: .call 71 [(.ivar .u32 281), (.lit (.int .i64 12))] 282 [(.ri .i32)] :: .setI0 281 (.bin .or .u32 (.var 278) (.var 280)) :: .setI0 280 (.bin .shl .u32 (.var 279) (.lit 5)) :: .call 88 [(.ivar .u32 0), (.lit (.int .i64 25)), (.lit (.int .i64 7))] 279 [(.ri .u32)] :: .setI0 278 (.bin .shl .u32 (.var 277) (.lit 0)) :: .call 88 [(.ivar .u32 0), (.lit (.int .i64 7)), (.lit (.int .i64 5))] 277 [(.ri .u32)] :: .decB 276 true :: .setB0 276 (.cmp .eql (.var 267) (.lit 83)) :: .decB 275 false :: .setB0 275 (.cmp .eql (.var 267) (.lit 66)) :: .decB 274 false :: .setB0 274 (.cmp .eql (.var 267) (.lit 72)) :: .decB 273 false :: .setB0 273 (.cmp .eql (.var 267) (.lit 73)) :: .decB 272 false :: .setB0 272 (.cmp .eql (.var 267) (.lit 74)) :: .decB 271 false :: .setB0 271 (.cmp .eql (.var 267) (.lit 85)) :: .call 69 [(.lit (.int .i64 16))] 267 [(.ri .u8), (.ri .u32), (.ri .u32), (.ri .u32)] :: .decB 266 false :: .setB0 266 (.cmp .eql (.var 264) (.var 0)) :: .decB 265 true :: .call 72 [(.lit (.int .i64 15)), (.ivar .i64 3), (.ivar .i64 6), (.lit (.int .i64 0)), (.ivar .i32 263)] 264 [(.ri .u32), .rb] :: .setI0 263 (.bin .shr .i32 (.var 262) (.lit 20)) :: .setI0 262 (.conv .i32 (.var 0)) :: .decB 261 true :: .setB0 261 (.cmp .eql (.var 255) (.lit 73)) :: .decB 260 false :: .setB0 260 (.cmp .eql (.var 255) (.lit 74)) :: .decB 259 false :: .setB0 259 (.cmp .eql (.var 255) (.lit 85)) :: .call 69 [(.lit (.int .i64 15))] 255 [(.ri .u8), (.ri .u32), (.ri .u32), (.ri .u32)] :: .decB 254 false :: .setB0 254 (.cmp .eql (.var 252) (.var 0)) :: .decB 253 true :: .call 72 [(.lit (.int .i64 14)), (.ivar .i64 3), (.ivar .i64 6), (.lit (.int .i64 0)), (.ivar .i32 251)] 252 [(.ri .u32), .rb] :: .setI0 251 (.bin .shr .i32 (.var 250) (.lit 20)) :: .setI0 250 (.conv .i32 (.var 0)) :: .decB 249 true :: .setB0 249 (.cmp .eql (.var 243) (.lit 73)) :: .decB 248 false :: .setB0 248 (.cmp .eql (.var 243) (.lit 74)) :: .decB 247 false :: .setB0 247 (.cmp .eql (.var 243) (.lit 85)) :: .call 69 [(.lit (.int .i64 14))] 243 [(.ri .u8), (.ri .u32), (.ri .u32), (.ri .u32)] :: .decB 242 false :: .setB0 242 (.cmp .eql (.var 240) (.var 0)) :: rfDecT5_okE)
def rfDecT3_okD : List D := (.db true :: .db true :: .db false :: .db false :: .db false :: .db false :: .db true :: .db true :: .db false :: .db false :: .db false :: .db true :: .db true :: .db false :: .db false :: .db false :: .db true :: .db true :: .db false :: .db false :: .db false :: .db true :: .db true :: .db false :: .db false :: .db false :: .db true :: .db true :: .db false :: .db false :: .db false :: rfDecT4_okD)
def rfDecT3_okE : List Ev := (.decB 406 true :: .call 72 [(.lit (.int .i64 25)), (.ivar .i64 3), (.ivar .i64 6), (.lit (.int .i64 0)), (.ivar .i32 404)] 405 [(.ri .u32), .rb] :: .setI0 404 (.conv .i32 (.var 9)) :: .decB 403 true :: .setB0 403 (.cmp .eql (.var 396) (.lit 72)) :: .decB 402 false :: .setB0 402 (.cmp .eql (.var 396) (.lit 73)) :: .decB 401 false :: .setB0 401 (.cmp .eql (.var 396) (.lit 74)) :: .decB 400 false :: .setB0 400 (.cmp .eql (.var 396) (.lit 85)) :: .call 69 [(.lit (.int .i64 25))] 396 [(.ri .u8), (.ri .u32), (.ri .u32), (.ri .u32)] :: .decB 395 false :: .setB0 395 (.cmp .eql (.var 393) (.var 0)) :: .decB 394 true :: .call 72 [(.lit (.int .i64 24)), (.ivar .i64 3), (.ivar .i64 6), (.lit (.int .i64 0)), (.ivar .i32 392)] 393 [(.ri .u32), .rb] :: .setI0 392 (.bin .shr .i32 (.var 391) (.lit 20)) :: .setI0 391 (.conv .i32 (.var 0)) :: .decB 390 true :: .setB0 390 (.cmp .eql (.var 384) (.lit 73)) :: .decB 389 false :: .setB0 389 (.cmp .eql (.var 384) (.lit 74)) :: .decB 388 false :: .setB0 388 (.cmp .eql (.var 384) (.lit 85)) :: .call 69 [(.lit (.int .i64 24))] 384 [(.ri .u8), (.ri .u32), (.ri .u32), (.ri .u32)] :: .decB 383 false :: .setB0 383 (.cmp .eql (.var 381) (.var 0)) :: .decB 382 true :: .call 72 [(.lit (.int .i64 23)), (.ivar .i64 3), (.ivar .i64 6), (.lit (.int .i64 0)), (.ivar .i32 380)] 381 [(.ri .u32), .rb] :: .setI0 380 (.bin .shr .i32 (.var 379) (.lit 20)) :: .setI0 379 (.conv .i32 (.var 0)) :: .decB 378 true :: .setB0 378 (.cmp .eql (.var 372) (.lit 73)) :: .decB 377 false :: .setB0 377 (.cmp .eql (.var 372) (.lit 74)) :: .decB 376 false :: .setB0 376 (.cmp .eql (.var 372) (.lit 85)) :: .call 69 [(.lit (.int .i64 23))] 372 [(.ri .u8), (.ri .u32), (.ri .u32), (.ri .u32)] :: .decB 371 false :: .setB0 371 (.cmp .eql (.var 369) (.var 0)) :: .decB 370 true :: .call 72 [(.lit (.int .i64 22)), (.ivar .i64 3), (.ivar .i64 6), (.lit (.int .i64 0)), (.ivar .i32 368)] 369 [(.ri .u32), .rb] :: .setI0 368 (.bin .shr .i32 (.var 367) (.lit 20)) :: .setI0 367 (.conv .i32 (.var 0)) :: .decB 366 true :: .setB0 366 (.cmp .eql (.var 360) (.lit 73)) :: .decB 365 false :: .setB0 365 (.cmp .eql (.var 360) (.lit 74)) :: .decB 364 false :: .setB0 364 (.cmp .eql (.var 360) (.lit 85)) :: .call 69 [(.lit (.int .i64 22))] 360 [(.ri .u8), (.ri .u32), (.ri .u32), (.ri .u32)] :: .decB 359 false :: .setB0 359 (.cmp .eql (.var 357) (.var 0)) :: .decB 358 true :: .call 72 [(.lit (.int .i64 21)), (.ivar .i64 3), (.ivar .i64 6), (.lit (.int .i64 0)), (.ivar .i32 356)] 357 [(.ri .u32), .rb] :: .setI0 356 (.bin .shr .i32 (.var 355) (.lit 20)) :: .setI0 355 (.conv .i32 (.var 0)) :: .decB 354 true :: .setB0 354 (.cmp .eql (.var 348) (.lit 73)) :: .decB 353 false :: .setB0 353 (.cmp .eql (.var 348) (.lit 74)) :: .decB 352 false :: .setB0 352 (.cmp .eql (.var 348) (.lit 85)) :: .call 69 [(.lit (.int .i64 21))] 348 [(.ri .u8), (.ri .u32), (.ri .u32), (.ri .u32)] :: .decB 347 false :: .setB0 347 (.cmp .eql (.var 345) (.var 0)) :: .decB 346 true :: .call 72 [(.lit (.int .i64 20)), (.ivar .i64 3), (.ivar .i64 6), (.lit (.int .i64 0)), (.ivar .i32 344)] 345 [(.ri .u32), .rb] :: .setI0 344 (.bin .shr .i32 (.var 343) (.lit 20)) :: .setI0 343 (.conv .i32 (.var 0)) :: .decB 342 true :: .setB0 342 (.cmp .eql (.var 336) (.lit 73)) :: .decB 341 false :: .setB0 341 (.cmp .eql (.var 336) (.lit 74)) :: .decB 340 false :: .setB0 340 (.cmp .eql (.var 336) (.lit 85)) :: .call 69 [(.lit (.int .i64 20))] 336 [(.ri .u8), (.ri .u32), (.ri .u32), (.ri .u32)] :: .decB 335 false :: .setB0 335 (.cmp .eql (.var 333) (.var 0)) :: rfDecT4_okE)
def rfDecT2_okD : List D := (.db true :: .db true :: .db false :: .db false :: .db false :: .db false :: .db false :: .db false :: .db false :: .db true :: .db true :: .db false :: .db false :: .db false :: .db false :: .db false :: .db false :: .db false :: .db true :: .db true :: .db false :: .db false :: .db false :: .db false :: .db false :: .db false :: .db false :: .db true :: .db true :: .db false :: .db false :: .db false :: .db false :: .db false :: .db false :: .db false :: .db true :: .db true :: .db false :: .db false :: .db false :: .db false :: .db true :: .db true :: .db false :: .db false :: .db false :: .db false :: rfDecT3_okD)
def rfDecT2_okE : List Ev := (.decB 486 true :: .call 72 [(.lit (.int .i64 31)), (.ivar .i64 3), (.ivar .i64 6), (.ivar .i64 9), (.lit (.int .i32 0))] 485 [(.ri .u32), .rb] :: .decB 484 true :: .setB0 484 (.cmp .eql (.var 474) (.lit 82)) :: .decB 483 false :: .setB0 483 (.cmp .eql (.var 474) (.lit 83)) :: .decB 482 false :: .setB0 482 (.cmp .eql (.var 474) (.lit 66)) :: .decB 481 false :: .setB0 481 (.cmp .eql (.var 474) (.lit 72)) :: .decB 480 false :: .setB0 480 (.cmp .eql (.var 474) (.lit 73)) :: .decB 479 false :: .setB0 479 (.cmp .eql (.var 474) (.lit 74)) :: .decB 478 false :: .setB0 478 (.cmp .eql (.var 474) (.lit 85)) :: .call 69 [(.lit (.int .i64 31))] 474 [(.ri .u8), (.ri .u32), (.ri .u32), (.ri .u32)] :: .decB 473 false :: .setB0 473 (.cmp .eql (.var 471) (.var 0)) :: .decB 472 true :: .call 72 [(.lit (.int .i64 30)), (.ivar .i64 3), (.ivar .i64 6), (.ivar .i64 9), (.lit (.int .i32 0))] 471 [(.ri .u32), .rb] :: .decB 470 true :: .setB0 470 (.cmp .eql (.var 460) (.lit 82)) :: .decB 469 false :: .setB0 469 (.cmp .eql (.var 460) (.lit 83)) :: .decB 468 false :: .setB0 468 (.cmp .eql (.var 460) (.lit 66)) :: .decB 467 false :: .setB0 467 (.cmp .eql (.var 460) (.lit 72)) :: .decB 466 false :: .setB0 466 (.cmp .eql (.var 460) (.lit 73)) :: .decB 465 false :: .setB0 465 (.cmp .eql (.var 460) (.lit 74)) :: .decB 464 false :: .setB0 464 (.cmp .eql (.var 460) (.lit 85)) :: .call 69 [(.lit (.int .i64 30))] 460 [(.ri .u8), (.ri .u32), (.ri .u32), (.ri .u32)] :: .decB 459 false :: .setB0 459 (.cmp .eql (.var 457) (.var 0)) :: .decB 458 true :: .call 72 [(.lit (.int .i64 29)), (.ivar .i64 3), (.ivar .i64 6), (.ivar .i64 9), (.lit (.int .i32 0))] 457 [(.ri .u32), .rb] :: .decB 456 true :: .setB0 456 (.cmp .eql (.var 446) (.lit 82)) :: .decB 455 false :: .setB0 455 (.cmp .eql (.var 446) (.lit 83)) :: .decB 454 false :: .setB0 454 (.cmp .eql (.var 446) (.lit 66)) :: .decB 453 false :: .setB0 453 (.cmp .eql (.var 446) (.lit 72)) :: .decB 452 false :: .setB0 452 (.cmp .eql (.var 446) (.lit 73)) :: .decB 451 false :: .setB0 451 (.cmp .eql (.var 446) (.lit 74)) :: .decB 450 false :: .setB0 450 (.cmp .eql (.var 446) (.lit 85)) :: .call 69 [(.lit (.int .i64 29))] 446 [(.ri .u8), (.ri .u32), (.ri .u32), (.ri .u32)] :: .decB 445 false :: .setB0 445 (.cmp .eql (.var 443) (.var 0)) :: .decB 444 true :: .call 72 [(.lit (.int .i64 28)), (.ivar .i64 3), (.ivar .i64 6), (.ivar .i64 9), (.lit (.int .i32 0))] 443 [(.ri .u32), .rb] :: .decB 442 true :: .setB0 442 (.cmp .eql (.var 432) (.lit 82)) :: .decB 441 false :: .setB0 441 (.cmp .eql (.var 432) (.lit 83)) :: .decB 440 false :: .setB0 440 (.cmp .eql (.var 432) (.lit 66)) :: .decB 439 false :: .setB0 439 (.cmp .eql (.var 432) (.lit 72)) :: .decB 438 false :: .setB0 438 (.cmp .eql (.var 432) (.lit 73)) :: .decB 437 false :: .setB0 437 (.cmp .eql (.var 432) (.lit 74)) :: .decB 436 false :: .setB0 436 (.cmp .eql (.var 432) (.lit 85)) :: .call 69 [(.lit (.int .i64 28))] 432 [(.ri .u8), (.ri .u32), (.ri .u32), (.ri .u32)] :: .decB 431 false :: .setB0 431 (.cmp .eql (.var 429) (.var 0)) :: .decB 430 true :: .call 72 [(.lit (.int .i64 27)), (.ivar .i64 3), (.ivar .i64 6), (.lit (.int .i64 0)), (.ivar .i32 428)] 429 [(.ri .u32), .rb] :: .setI0 428 (.conv .i32 (.var 9)) :: .decB 427 true :: .setB0 427 (.cmp .eql (.var 420) (.lit 72)) :: .decB 426 false :: .setB0 426 (.cmp .eql (.var 420) (.lit 73)) :: .decB 425 false :: .setB0 425 (.cmp .eql (.var 420) (.lit 74)) :: .decB 424 false :: .setB0 424 (.cmp .eql (.var 420) (.lit 85)) :: .call 69 [(.lit (.int .i64 27))] 420 [(.ri .u8), (.ri .u32), (.ri .u32), (.ri .u32)] :: .decB 419 false :: .setB0 419 (.cmp .eql (.var 417) (.var 0)) :: .decB 418 true :: .call 72 [(.lit (.int .i64 26)), (.ivar .i64 3), (.ivar .i64 6), (.lit (.int .i64 0)), (.ivar .i32 416)] 417 [(.ri .u32), .rb] :: .setI0 416 (.conv .i32 (.var 9)) :: .decB 415 true :: .setB0 415 (.cmp .eql (.var 408) (.lit 72)) :: .decB 414 false :: .setB0 414 (.cmp .eql (.var 408) (.lit 73)) :: .decB 413 false :: .setB0 413 (.cmp .eql (.var 408) (.lit 74)) :: .decB 412 false :: .setB0 412 (.cmp .eql (.var 408) (.lit 85)) :: .call 69 [(.lit (.int .i64 26))] 408 [(.ri .u8), (.ri .u32), (.ri .u32), (.ri .u32)] :: .decB 407 false :: .setB0 407 (.cmp .eql (.var 405) (.var 0)) :: rfDecT3_okE)
def rfDecT1_okD : List D := (.db true :: .db true :: .db false :: .db false :: .db false :: .db false :: .db false :: .db false :: .db false :: .db true :: .db true :: .db false :: .db false :: .db false :: .db false :: .db false :: .db false :: .db false :: .db true :: .db true :: .db false :: .db false :: .db false :: .db false :: .db false :: .db false :: .db false :: .db true :: .db true :: .db false :: .db false :: .db false :: .db false :: .db false :: .db false :: .db false :: .db true :: .db true :: .db false :: .db false :: .db false :: .db false :: .db false :: .db false :: .db false :: .db true :: .db true :: .db false :: .db false :: .db false :: .db false :: .db false :: .db false :: .db false :: rfDecT2_okD)
def rfDecT1_okE : List Ev := (.decB 570 true :: .call 72 [(.lit (.int .i64 37)), (.ivar .i64 3), (.ivar .i64 6), (.ivar .i64 9), (.lit (.int .i32 0))] 569 [(.ri .u32), .rb] :: .decB 568 true :: .setB0 568 (.cmp .eql (.var 558) (.lit 82)) :: .decB 567 false :: .setB0 567 (.cmp .eql (.var 558) (.lit 83)) :: .decB 566 false :: .setB0 566 (.cmp .eql (.var 558) (.lit 66)) :: .decB 565 false :: .setB0 565 (.cmp .eql (.var 558) (.lit 72)) :: .decB 564 false :: .setB0 564 (.cmp .eql (.var 558) (.lit 73)) :: .decB 563 false :: .setB0 563 (.cmp .eql (.var 558) (.lit 74)) :: .decB 562 false :: .setB0 562 (.cmp .eql (.var 558) (.lit 85)) :: .call 69 [(.lit (.int .i64 37))] 558 [(.ri .u8), (.ri .u32), (.ri .u32), (.ri .u32)] :: .decB 557 false :: .setB0 557 (.cmp .eql (.var 555) (.var 0)) :: .decB 556 true :: .call 72 [(.lit (.int .i64 36)), (.ivar .i64 3), (.ivar .i64 6), (.ivar .i64 9), (.lit (.int .i32 0))] 555 [(.ri .u32), .rb] :: .decB 554 true :: .setB0 554 (.cmp .eql (.var 544) (.lit 82)) :: .decB 553 false :: .setB0 553 (.cmp .eql (.var 544) (.lit 83)) :: .decB 552 false :: .setB0 552 (.cmp .eql (.var 544) (.lit 66)) :: .decB 551 false :: .setB0 551 (.cmp .eql (.var 544) (.lit 72)) :: .decB 550 false :: .setB0 550 (.cmp .eql (.var 544) (.lit 73)) :: .decB 549 false :: .setB0 549 (.cmp .eql (.var 544) (.lit 74)) :: .decB 548 false :: .setB0 548 (.cmp .eql (.var 544) (.lit 85)) :: .call 69 [(.lit (.int .i64 36))] 544 [(.ri .u8), (.ri .u32), (.ri .u32), (.ri .u32)] :: .decB 543 false :: .setB0 543 (.cmp .eql (.var 541) (.var 0)) :: .decB 542 true :: .call 72 [(.lit (.int .i64 35)), (.ivar .i64 3), (.ivar .i64 6), (.ivar .i64 9), (.lit (.int .i32 0))] 541 [(.ri .u32), .rb] :: .decB 540 true :: .setB0 540 (.cmp .eql (.var 530) (.lit 82)) :: .decB 539 false :: .setB0 539 (.cmp .eql (.var 530) (.lit 83)) :: .decB 538 false :: .setB0 538 (.cmp .eql (.var 530) (.lit 66)) :: .decB 537 false :: .setB0 537 (.cmp .eql (.var 530) (.lit 72)) :: .decB 536 false :: .setB0 536 (.cmp .eql (.var 530) (.lit 73)) :: .decB 535 false :: .setB0 535 (.cmp .eql (.var 530) (.lit 74)) :: .decB 534 false :: .setB0 534 (.cmp .eql (.var 530) (.lit 85)) :: .call 69 [(.lit (.int .i64 35))] 530 [(.ri .u8), (.ri .u32), (.ri .u32), (.ri .u32)] :: .decB 529 false :: .setB0 529 (.cmp .eql (.var 527) (.var 0)) :: .decB 528 true :: .call 72 [(.lit (.int .i64 34)), (.ivar .i64 3), (.ivar .i64 6), (.ivar .i64 9), (.lit (.int .i32 0))] 527 [(.ri .u32), .rb] :: .decB 526 true :: .setB0 526 (.cmp .eql (.var 516) (.lit 82)) :: .decB 525 false :: .setB0 525 (.cmp .eql (.var 516) (.lit 83)) :: .decB 524 false :: .setB0 524 (.cmp .eql (.var 516) (.lit 66)) :: .decB 523 false :: .setB0 523 (.cmp .eql (.var 516) (.lit 72)) :: .decB 522 false :: .setB0 522 (.cmp .eql (.var 516) (.lit 73)) :: .decB 521 false :: .setB0 521 (.cmp .eql (.var 516) (.lit 74)) :: .decB 520 false :: .setB0 520 (.cmp .eql (.var 516) (.lit 85)) :: .call 69 [(.lit (.int .i64 34))] 516 [(.ri .u8), (.ri .u32), (.ri .u32), (.ri .u32)] :: .decB 515 false :: .setB0 515 (.cmp .eql (.var 513) (.var 0)) :: .decB 514 true :: .call 72 [(.lit (.int .i64 33)), (.ivar .i64 3), (.ivar .i64 6), (.ivar .i64 9), (.lit (.int .i32 0))] 513 [(.ri .u32), .rb] :: .decB 512 true :: .setB0 512 (.cmp .eql (.var 502) (.lit 82)) :: .decB 511 false :: .setB0 511 (.cmp .eql (.var 502) (.lit 83)) :: .decB 510 false :: .setB0 510 (.cmp .eql (.var 502) (.lit 66)) :: .decB 509 false :: .setB0 509 (.cmp .eql (.var 502) (.lit 72)) :: .decB 508 false :: .setB0 508 (.cmp .eql (.var 502) (.lit 73)) :: .decB 507 false :: .setB0 507 (.cmp .eql (.var 502) (.lit 74)) :: .decB 506 false :: .setB0 506 (.cmp .eql (.var 502) (.lit 85)) :: .call 69 [(.lit (.int .i64 33))] 502 [(.ri .u8), (.ri .u32), (.ri .u32), (.ri .u32)] :: .decB 501 false :: .setB0 501 (.cmp .eql (.var 499) (.var 0)) :: .decB 500 true :: .call 72 [(.lit (.int .i64 32)), (.ivar .i64 3), (.ivar .i64 6), (.ivar .i64 9), (.lit (.int .i32 0))] 499 [(.ri .u32), .rb] :: .decB 498 true :: .setB0 498 (.cmp .eql (.var 488) (.lit 82)) :: .decB 497 false :: .setB0 497 (.cmp .eql (.var 488) (.lit 83)) :: .decB 496 false :: .setB0 496 (.cmp .eql (.var 488) (.lit 66)) :: .decB 495 false :: .setB0 495 (.cmp .eql (.var 488) (.lit 72)) :: .decB 494 false :: .setB0 494 (.cmp .eql (.var 488) (.lit 73)) :: .decB 493 false :: .setB0 493 (.cmp .eql (.var 488) (.lit 74)) :: .decB 492 false :: .setB0 492 (.cmp .eql (.var 488) (.lit 85)) :: .call 69 [(.lit (.int .i64 32))] 488 [(.ri .u8), (.ri .u32), (.ri .u32), (.ri .u32)] :: .decB 487 false :: .setB0 487 (.cmp .eql (.var 485) (.var 0)) :: rfDecT2_okE)
def rfDecT0_okD : List D := (.db true :: .db true :: .db false :: .db false :: .db false :: .db false :: .db false :: .db false :: .db false :: .db true :: .db true :: .db false :: .db false :: .db false :: .db false :: .db false :: .db false :: .db false :: .db true :: .db true :: .db false :: .db false :: .db false :: .db false :: .db false :: .db false :: .db false :: .db true :: .db true :: .db false :: .db false :: .db false :: .db false :: .db false :: .db false :: .db false :: .db true :: .db true :: .db false :: .db false :: .db false :: .db false :: .db false :: .db false :: .db false :: .db true :: .db true :: .db false :: .db false :: .db false :: .db false :: .db false :: .db false :: .db false :: rfDecT1_okD)
def rfDecT0_okE : List Ev := (.decB 654 true :: .call 72 [(.lit (.int .i64 43)), (.ivar .i64 3), (.ivar .i64 6), (.ivar .i64 9), (.lit (.int .i32 0))] 653 [(.ri .u32), .rb] :: .decB 652 true :: .setB0 652 (.cmp .eql (.var 642) (.lit 82)) :: .decB 651 false :: .setB0 651 (.cmp .eql (.var 642) (.lit 83)) :: .decB 650 false :: .setB0 650 (.cmp .eql (.var 642) (.lit 66)) :: .decB 649 false :: .setB0 649 (.cmp .eql (.var 642) (.lit 72)) :: .decB 648 false :: .setB0 648 (.cmp .eql (.var 642) (.lit 73)) :: .decB 647 false :: .setB0 647 (.cmp .eql (.var 642) (.lit 74)) :: .decB 646 false :: .setB0 646 (.cmp .eql (.var 642) (.lit 85)) :: .call 69 [(.lit (.int .i64 43))] 642 [(.ri .u8), (.ri .u32), (.ri .u32), (.ri .u32)] :: .decB 641 false :: .setB0 641 (.cmp .eql (.var 639) (.var 0)) :: .decB 640 true :: .call 72 [(.lit (.int .i64 42)), (.ivar .i64 3), (.ivar .i64 6), (.ivar .i64 9), (.lit (.int .i32 0))] 639 [(.ri .u32), .rb] :: .decB 638 true :: .setB0 638 (.cmp .eql (.var 628) (.lit 82)) :: .decB 637 false :: .setB0 637 (.cmp .eql (.var 628) (.lit 83)) :: .decB 636 false :: .setB0 636 (.cmp .eql (.var 628) (.lit 66)) :: .decB 635 false :: .setB0 635 (.cmp .eql (.var 628) (.lit 72)) :: .decB 634 false :: .setB0 634 (.cmp .eql (.var 628) (.lit 73)) :: .decB 633 false :: .setB0 633 (.cmp .eql (.var 628) (.lit 74)) :: .decB 632 false :: .setB0 632 (.cmp .eql (.var 628) (.lit 85)) :: .call 69 [(.lit (.int .i64 42))] 628 [(.ri .u8), (.ri .u32), (.ri .u32), (.ri .u32)] :: .decB 627 false :: .setB0 627 (.cmp .eql (.var 625) (.var 0)) :: .decB 626 true :: .call 72 [(.lit (.int .i64 41)), (.ivar .i64 3), (.ivar .i64 6), (.ivar .i64 9), (.lit (.int .i32 0))] 625 [(.ri .u32), .rb] :: .decB 624 true :: .setB0 624 (.cmp .eql (.var 614) (.lit 82)) :: .decB 623 false :: .setB0 623 (.cmp .eql (.var 614) (.lit 83)) :: .decB 622 false :: .setB0 622 (.cmp .eql (.var 614) (.lit 66)) :: .decB 621 false :: .setB0 621 (.cmp .eql (.var 614) (.lit 72)) :: .decB 620 false :: .setB0 620 (.cmp .eql (.var 614) (.lit 73)) :: .decB 619 false :: .setB0 619 (.cmp .eql (.var 614) (.lit 74)) :: .decB 618 false :: .setB0 618 (.cmp .eql (.var 614) (.lit 85)) :: .call 69 [(.lit (.int .i64 41))] 614 [(.ri .u8), (.ri .u32), (.ri .u32), (.ri .u32)] :: .decB 613 false :: .setB0 613 (.cmp .eql (.var 611) (.var 0)) :: .decB 612 true :: .call 72 [(.lit (.int .i64 40)), (.ivar .i64 3), (.ivar .i64 6), (.ivar .i64 9), (.lit (.int .i32 0))] 611 [(.ri .u32), .rb] :: .decB 610 true :: .setB0 610 (.cmp .eql (.var 600) (.lit 82)) :: .decB 609 false :: .setB0 609 (.cmp .eql (.var 600) (.lit 83)) :: .decB 608 false :: .setB0 608 (.cmp .eql (.var 600) (.lit 66)) :: .decB 607 false :: .setB0 607 (.cmp .eql (.var 600) (.lit 72)) :: .decB 606 false :: .setB0 606 (.cmp .eql (.var 600) (.lit 73)) :: .decB 605 false :: .setB0 605 (.cmp .eql (.var 600) (.lit 74)) :: .decB 604 false :: .setB0 604 (.cmp .eql (.var 600) (.lit 85)) :: .call 69 [(.lit (.int .i64 40))] 600 [(.ri .u8), (.ri .u32), (.ri .u32), (.ri .u32)] :: .decB 599 false :: .setB0 599 (.cmp .eql (.var 597) (.var 0)) :: .decB 598 true :: .call 72 [(.lit (.int .i64 39)), (.ivar .i64 3), (.ivar .i64 6), (.ivar .i64 9), (.lit (.int .i32 0))] 597 [(.ri .u32), .rb] :: .decB 596 true :: .setB0 596 (.cmp .eql (.var 586) (.lit 82)) :: .decB 595 false :: .setB0 595 (.cmp .eql (.var 586) (.lit 83)) :: .decB 594 false :: .setB0 594 (.cmp .eql (.var 586) (.lit 66)) :: .decB 593 false :: .setB0 593 (.cmp .eql (.var 586) (.lit 72)) :: .decB 592 false :: .setB0 592 (.cmp .eql (.var 586) (.lit 73)) :: .decB 591 false :: .setB0 591 (.cmp .eql (.var 586) (.lit 74)) :: .decB 590 false :: .setB0 590 (.cmp .eql (.var 586) (.lit 85)) :: .call 69 [(.lit (.int .i64 39))] 586 [(.ri .u8), (.ri .u32), (.ri .u32), (.ri .u32)] :: .decB 585 false :: .setB0 585 (.cmp .eql (.var 583) (.var 0)) :: .decB 584 true :: .call 72 [(.lit (.int .i64 38)), (.ivar .i64 3), (.ivar .i64 6), (.ivar .i64 9), (.lit (.int .i32 0))] 583 [(.ri .u32), .rb] :: .decB 582 true :: .setB0 582 (.cmp .eql (.var 572) (.lit 82)) :: .decB 581 false :: .setB0 581 (.cmp .eql (.var 572) (.lit 83)) :: .decB 580 false :: .setB0 580 (.cmp .eql (.var 572) (.lit 66)) :: .decB 579 false :: .setB0 579 (.cmp .eql (.var 572) (.lit 72)) :: .decB 578 false :: .setB0 578 (.cmp .eql (.var 572) (.lit 73)) :: .decB 577 false :: .setB0 577 (.cmp .eql (.var 572) (.lit 74)) :: .decB 576 false :: .setB0 576 (.cmp .eql (.var 572) (.lit 85)) :: .call 69 [(.lit (.int .i64 38))] 572 [(.ri .u8), (.ri .u32), (.ri .u32), (.ri .u32)] :: .decB 571 false :: .setB0 571 (.cmp .eql (.var 569) (.var 0)) :: rfDecT1_okE)
noncomputable def rfDecT0 : LT :=
 (.nb [.setB0 655 (.cmp .eql (.var 653) (.var 0))] 655
 (.leaf [] (.tup [(.agg [(.lit (.int .i64 43)), (.ivar .i64 3), (.ivar .i64 6), (.ivar .i64 9), (.lit (.int .i32 0))]), (.c (.lit (.bool true)))]))
 (.sure [.call 69 [(.lit (.int .i64 44))] 656 [(.ri .u8), (.ri .u32), (.ri .u32), (.ri .u32)], .setB0 660 (.cmp .eql (.var 656) (.lit 85))] 660 false
 (srfDec 661 656 74
 (srfDec 662 656 73
 (srfDec 663 656 72
 (srfDec 664 656 66
 (srfDec 665 656 83
 (.sure [.setB0 666 (.cmp .eql (.var 656) (.lit 82))] 666 true
 (.sure [.call 72 [(.lit (.int .i64 44)), (.ivar .i64 3), (.ivar .i64 6), (.ivar .i64 9), (.lit (.int .i32 0))] 667 [(.ri .u32), .rb]] 668 true
 (.nb [.setB0 669 (.cmp .eql (.var 667) (.var 0))] 669
 (.leaf [] (.tup [(.agg [(.lit (.int .i64 44)), (.ivar .i64 3), (.ivar .i64 6), (.ivar .i64 9), (.lit (.int .i32 0))]), (.c (.lit (.bool true)))]))
 (.sure [.call 69 [(.lit (.int .i64 45))] 670 [(.ri .u8), (.ri .u32), (.ri .u32), (.ri .u32)], .setB0 674 (.cmp .eql (.var 670) (.lit 85))] 674 false
 (srfDec 675 670 74
 (srfDec 676 670 73
 (srfDec 677 670 72
 (srfDec 678 670 66
 (srfDec 679 670 83
 (.sure [.setB0 680 (.cmp .eql (.var 670) (.lit 82))] 680 true
 (.sure [.call 72 [(.lit (.int .i64 45)), (.ivar .i64 3), (.ivar .i64 6), (.ivar .i64 9), (.lit (.int .i32 0))] 681 [(.ri .u32), .rb]] 682 true
 (.nb [.setB0 683 (.cmp .eql (.var 681) (.var 0))] 683
 (.leaf [] (.tup [(.agg [(.lit (.int .i64 45)), (.ivar .i64 3), (.ivar .i64 6), (.ivar .i64 9), (.lit (.int .i32 0))]), (.c (.lit (.bool true)))]))
 (.sure [.call 69 [(.lit (.int .i64 46))] 684 [(.ri .u8), (.ri .u32), (.ri .u32), (.ri .u32)], .setB0 688 (.cmp .eql (.var 684) (.lit 85))] 688 false
 (srfDec 689 684 74
 (srfDec 690 684 73
 (srfDec 691 684 72
 (srfDec 692 684 66
 (srfDec 693 684 83
 (srfDec 694 684 82
 (.sure [.call 72 [(.lit (.int .i64 46)), (.lit (.int .i64 0)), (.lit (.int .i64 0)), (.lit (.int .i64 0)), (.lit (.int .i32 0))] 695 [(.ri .u32), .rb]] 696 true
 (.nb [.setB0 697 (.cmp .eql (.var 695) (.var 0))] 697
 (.leaf [] (.tup [(.agg [(.lit (.int .i64 46)), (.lit (.int .i64 0)), (.lit (.int .i64 0)), (.lit (.int .i64 0)), (.lit (.int .i32 0))]), (.c (.lit (.bool true)))]))
 (.sure [.call 69 [(.lit (.int .i64 47))] 698 [(.ri .u8), (.ri .u32), (.ri .u32), (.ri .u32)], .setB0 702 (.cmp .eql (.var 698) (.lit 85))] 702 false
 (srfDec 703 698 74
 (srfDec 704 698 73
 (srfDec 705 698 72
 (srfDec 706 698 66
 (srfDec 707 698 83
 (srfDec 708 698 82
 (.sure [.call 72 [(.lit (.int .i64 47)), (.lit (.int .i64 0)), (.lit (.int .i64 0)), (.lit (.int .i64 0)), (.lit (.int .i32 0))] 709 [(.ri .u32), .rb]] 710 true
 (.nb [.setB0 711 (.cmp .eql (.var 709) (.var 0))] 711
 (.leaf [] (.tup [(.agg [(.lit (.int .i64 47)), (.lit (.int .i64 0)), (.lit (.int .i64 0)), (.lit (.int .i64 0)), (.lit (.int .i32 0))]), (.c (.lit (.bool true)))]))
 (.leaf [] (.tup [(.agg [(.lit (.int .i64 0)), (.lit (.int .i64 0)), (.lit (.int .i64 0)), (.lit (.int .i64 0)), (.lit (.int .i32 0))]), (.c (.lit (.bool false)))])))))))))))))))))))))))))))))))))))))))
theorem rfDecT0_ok : LT.Ok rfDecR rfDecT0 rfDecT0_okD rfDecT0_okE :=
 (LT.ok_nb (LT.ok_leaf (by kernel_rfl))
 (LT.ok_sure (LT.ok_sure (LT.ok_sure (LT.ok_sure (LT.ok_sure (LT.ok_sure (LT.ok_sure (LT.ok_sure (LT.ok_nb (LT.ok_leaf (by kernel_rfl))
 (LT.ok_sure (LT.ok_sure (LT.ok_sure (LT.ok_sure (LT.ok_sure (LT.ok_sure (LT.ok_sure (LT.ok_sure (LT.ok_nb (LT.ok_leaf (by kernel_rfl))
 (LT.ok_sure (LT.ok_sure (LT.ok_sure (LT.ok_sure (LT.ok_sure (LT.ok_sure (LT.ok_sure (LT.ok_sure (LT.ok_nb (LT.ok_leaf (by kernel_rfl))
 (LT.ok_sure (LT.ok_sure (LT.ok_sure (LT.ok_sure (LT.ok_sure (LT.ok_sure (LT.ok_sure (LT.ok_sure (LT.ok_nb (LT.ok_leaf (by kernel_rfl))
 (LT.ok_leaf (by kernel_rfl)))))))))))))))))))))))))))))))))))))))
noncomputable def rfDecT1 : LT :=
 (.nb [.setB0 571 (.cmp .eql (.var 569) (.var 0))] 571
 (.leaf [] (.tup [(.agg [(.lit (.int .i64 37)), (.ivar .i64 3), (.ivar .i64 6), (.ivar .i64 9), (.lit (.int .i32 0))]), (.c (.lit (.bool true)))]))
 (.sure [.call 69 [(.lit (.int .i64 38))] 572 [(.ri .u8), (.ri .u32), (.ri .u32), (.ri .u32)], .setB0 576 (.cmp .eql (.var 572) (.lit 85))] 576 false
 (srfDec 577 572 74
 (srfDec 578 572 73
 (srfDec 579 572 72
 (srfDec 580 572 66
 (srfDec 581 572 83
 (.sure [.setB0 582 (.cmp .eql (.var 572) (.lit 82))] 582 true
 (.sure [.call 72 [(.lit (.int .i64 38)), (.ivar .i64 3), (.ivar .i64 6), (.ivar .i64 9), (.lit (.int .i32 0))] 583 [(.ri .u32), .rb]] 584 true
 (.nb [.setB0 585 (.cmp .eql (.var 583) (.var 0))] 585
 (.leaf [] (.tup [(.agg [(.lit (.int .i64 38)), (.ivar .i64 3), (.ivar .i64 6), (.ivar .i64 9), (.lit (.int .i32 0))]), (.c (.lit (.bool true)))]))
 (.sure [.call 69 [(.lit (.int .i64 39))] 586 [(.ri .u8), (.ri .u32), (.ri .u32), (.ri .u32)], .setB0 590 (.cmp .eql (.var 586) (.lit 85))] 590 false
 (srfDec 591 586 74
 (srfDec 592 586 73
 (srfDec 593 586 72
 (srfDec 594 586 66
 (srfDec 595 586 83
 (.sure [.setB0 596 (.cmp .eql (.var 586) (.lit 82))] 596 true
 (.sure [.call 72 [(.lit (.int .i64 39)), (.ivar .i64 3), (.ivar .i64 6), (.ivar .i64 9), (.lit (.int .i32 0))] 597 [(.ri .u32), .rb]] 598 true
 (.nb [.setB0 599 (.cmp .eql (.var 597) (.var 0))] 599
 (.leaf [] (.tup [(.agg [(.lit (.int .i64 39)), (.ivar .i64 3), (.ivar .i64 6), (.ivar .i64 9), (.lit (.int .i32 0))]), (.c (.lit (.bool true)))]))
 (.sure [.call 69 [(.lit (.int .i64 40))] 600 [(.ri .u8), (.ri .u32), (.ri .u32), (.ri .u32)], .setB0 604 (.cmp .eql (.var 600) (.lit 85))] 604 false
 (srfDec 605 600 74
 (srfDec 606 600 73
 (srfDec 607 600 72
 (srfDec 608 600 66
 (srfDec 609 600 83
 (.sure [.setB0 610 (.cmp .eql (.var 600) (.lit 82))] 610 true
 (.sure [.call 72 [(.lit (.int .i64 40)), (.ivar .i64 3), (.ivar .i64 6), (.ivar .i64 9), (.lit (.int .i32 0))] 611 [(.ri .u32), .rb]] 612 true
 (.nb [.setB0 613 (.cmp .eql (.var 611) (.var 0))] 613
 (.leaf [] (.tup [(.agg [(.lit (.int .i64 40)), (.ivar .i64 3), (.ivar .i64 6), (.ivar .i64 9), (.lit (.int .i32 0))]), (.c (.lit (.bool true)))]))
 (.sure [.call 69 [(.lit (.int .i64 41))] 614 [(.ri .u8), (.ri .u32), (.ri .u32), (.ri .u32)], .setB0 618 (.cmp .eql (.var 614) (.lit 85))] 618 false
 (srfDec 619 614 74
 (srfDec 620 614 73
 (srfDec 621 614 72
 (srfDec 622 614 66
 (srfDec 623 614 83
 (.sure [.setB0 624 (.cmp .eql (.var 614) (.lit 82))] 624 true
 (.sure [.call 72 [(.lit (.int .i64 41)), (.ivar .i64 3), (.ivar .i64 6), (.ivar .i64 9), (.lit (.int .i32 0))] 625 [(.ri .u32), .rb]] 626 true
 (.nb [.setB0 627 (.cmp .eql (.var 625) (.var 0))] 627
 (.leaf [] (.tup [(.agg [(.lit (.int .i64 41)), (.ivar .i64 3), (.ivar .i64 6), (.ivar .i64 9), (.lit (.int .i32 0))]), (.c (.lit (.bool true)))]))
 (.sure [.call 69 [(.lit (.int .i64 42))] 628 [(.ri .u8), (.ri .u32), (.ri .u32), (.ri .u32)], .setB0 632 (.cmp .eql (.var 628) (.lit 85))] 632 false
 (srfDec 633 628 74
 (srfDec 634 628 73
 (srfDec 635 628 72
 (srfDec 636 628 66
 (srfDec 637 628 83
 (.sure [.setB0 638 (.cmp .eql (.var 628) (.lit 82))] 638 true
 (.sure [.call 72 [(.lit (.int .i64 42)), (.ivar .i64 3), (.ivar .i64 6), (.ivar .i64 9), (.lit (.int .i32 0))] 639 [(.ri .u32), .rb]] 640 true
 (.nb [.setB0 641 (.cmp .eql (.var 639) (.var 0))] 641
 (.leaf [] (.tup [(.agg [(.lit (.int .i64 42)), (.ivar .i64 3), (.ivar .i64 6), (.ivar .i64 9), (.lit (.int .i32 0))]), (.c (.lit (.bool true)))]))
 (.sure [.call 69 [(.lit (.int .i64 43))] 642 [(.ri .u8), (.ri .u32), (.ri .u32), (.ri .u32)], .setB0 646 (.cmp .eql (.var 642) (.lit 85))] 646 false
 (srfDec 647 642 74
 (srfDec 648 642 73
 (srfDec 649 642 72
 (srfDec 650 642 66
 (srfDec 651 642 83
 (.sure [.setB0 652 (.cmp .eql (.var 642) (.lit 82))] 652 true
 (.sure [.call 72 [(.lit (.int .i64 43)), (.ivar .i64 3), (.ivar .i64 6), (.ivar .i64 9), (.lit (.int .i32 0))] 653 [(.ri .u32), .rb]] 654 true
 rfDecT0))))))))))))))))))))))))))))))))))))))))))))))))))))))
theorem rfDecT1_ok : LT.Ok rfDecR rfDecT1 rfDecT1_okD rfDecT1_okE :=
 (LT.ok_nb (LT.ok_leaf (by kernel_rfl))
 (LT.ok_sure (LT.ok_sure (LT.ok_sure (LT.ok_sure (LT.ok_sure (LT.ok_sure (LT.ok_sure (LT.ok_sure (LT.ok_nb (LT.ok_leaf (by kernel_rfl))
 (LT.ok_sure (LT.ok_sure (LT.ok_sure (LT.ok_sure (LT.ok_sure (LT.ok_sure (LT.ok_sure (LT.ok_sure (LT.ok_nb (LT.ok_leaf (by kernel_rfl))
 (LT.ok_sure (LT.ok_sure (LT.ok_sure (LT.ok_sure (LT.ok_sure (LT.ok_sure (LT.ok_sure (LT.ok_sure (LT.ok_nb (LT.ok_leaf (by kernel_rfl))
 (LT.ok_sure (LT.ok_sure (LT.ok_sure (LT.ok_sure (LT.ok_sure (LT.ok_sure (LT.ok_sure (LT.ok_sure (LT.ok_nb (LT.ok_leaf (by kernel_rfl))
 (LT.ok_sure (LT.ok_sure (LT.ok_sure (LT.ok_sure (LT.ok_sure (LT.ok_sure (LT.ok_sure (LT.ok_sure (LT.ok_nb (LT.ok_leaf (by kernel_rfl))
 (LT.ok_sure (LT.ok_sure (LT.ok_sure (LT.ok_sure (LT.ok_sure (LT.ok_sure (LT.ok_sure (LT.ok_sure rfDecT0_ok))))))))))))))))))))))))))))))))))))))))))))))))))))))
noncomputable def rfDecT2 : LT :=
 (.nb [.setB0 487 (.cmp .eql (.var 485) (.var 0))] 487
 (.leaf [] (.tup [(.agg [(.lit (.int .i64 31)), (.ivar .i64 3), (.ivar .i64 6), (.ivar .i64 9), (.lit (.int .i32 0))]), (.c (.lit (.bool true)))]))
 (.sure [.call 69 [(.lit (.int .i64 32))] 488 [(.ri .u8), (.ri .u32), (.ri .u32), (.ri .u32)], .setB0 492 (.cmp .eql (.var 488) (.lit 85))] 492 false
 (srfDec 493 488 74
 (srfDec 494 488 73
 (srfDec 495 488 72
 (srfDec 496 488 66
 (srfDec 497 488 83
 (.sure [.setB0 498 (.cmp .eql (.var 488) (.lit 82))] 498 true
 (.sure [.call 72 [(.lit (.int .i64 32)), (.ivar .i64 3), (.ivar .i64 6), (.ivar .i64 9), (.lit (.int .i32 0))] 499 [(.ri .u32), .rb]] 500 true
 (.nb [.setB0 501 (.cmp .eql (.var 499) (.var 0))] 501
 (.leaf [] (.tup [(.agg [(.lit (.int .i64 32)), (.ivar .i64 3), (.ivar .i64 6), (.ivar .i64 9), (.lit (.int .i32 0))]), (.c (.lit (.bool true)))]))
 (.sure [.call 69 [(.lit (.int .i64 33))] 502 [(.ri .u8), (.ri .u32), (.ri .u32), (.ri .u32)], .setB0 506 (.cmp .eql (.var 502) (.lit 85))] 506 false
 (srfDec 507 502 74
 (srfDec 508 502 73
 (srfDec 509 502 72
 (srfDec 510 502 66
 (srfDec 511 502 83
 (.sure [.setB0 512 (.cmp .eql (.var 502) (.lit 82))] 512 true
 (.sure [.call 72 [(.lit (.int .i64 33)), (.ivar .i64 3), (.ivar .i64 6), (.ivar .i64 9), (.lit (.int .i32 0))] 513 [(.ri .u32), .rb]] 514 true
 (.nb [.setB0 515 (.cmp .eql (.var 513) (.var 0))] 515
 (.leaf [] (.tup [(.agg [(.lit (.int .i64 33)), (.ivar .i64 3), (.ivar .i64 6), (.ivar .i64 9), (.lit (.int .i32 0))]), (.c (.lit (.bool true)))]))
 (.sure [.call 69 [(.lit (.int .i64 34))] 516 [(.ri .u8), (.ri .u32), (.ri .u32), (.ri .u32)], .setB0 520 (.cmp .eql (.var 516) (.lit 85))] 520 false
 (srfDec 521 516 74
 (srfDec 522 516 73
 (srfDec 523 516 72
 (srfDec 524 516 66
 (srfDec 525 516 83
 (.sure [.setB0 526 (.cmp .eql (.var 516) (.lit 82))] 526 true
 (.sure [.call 72 [(.lit (.int .i64 34)), (.ivar .i64 3), (.ivar .i64 6), (.ivar .i64 9), (.lit (.int .i32 0))] 527 [(.ri .u32), .rb]] 528 true
 (.nb [.setB0 529 (.cmp .eql (.var 527) (.var 0))] 529
 (.leaf [] (.tup [(.agg [(.lit (.int .i64 34)), (.ivar .i64 3), (.ivar .i64 6), (.ivar .i64 9), (.lit (.int .i32 0))]), (.c (.lit (.bool true)))]))
 (.sure [.call 69 [(.lit (.int .i64 35))] 530 [(.ri .u8), (.ri .u32), (.ri .u32), (.ri .u32)], .setB0 534 (.cmp .eql (.var 530) (.lit 85))] 534 false
 (srfDec 535 530 74
 (srfDec 536 530 73
 (srfDec 537 530 72
 (srfDec 538 530 66
 (srfDec 539 530 83
 (.sure [.setB0 540 (.cmp .eql (.var 530) (.lit 82))] 540 true
 (.sure [.call 72 [(.lit (.int .i64 35)), (.ivar .i64 3), (.ivar .i64 6), (.ivar .i64 9), (.lit (.int .i32 0))] 541 [(.ri .u32), .rb]] 542 true
 (.nb [.setB0 543 (.cmp .eql (.var 541) (.var 0))] 543
 (.leaf [] (.tup [(.agg [(.lit (.int .i64 35)), (.ivar .i64 3), (.ivar .i64 6), (.ivar .i64 9), (.lit (.int .i32 0))]), (.c (.lit (.bool true)))]))
 (.sure [.call 69 [(.lit (.int .i64 36))] 544 [(.ri .u8), (.ri .u32), (.ri .u32), (.ri .u32)], .setB0 548 (.cmp .eql (.var 544) (.lit 85))] 548 false
 (srfDec 549 544 74
 (srfDec 550 544 73
 (srfDec 551 544 72
 (srfDec 552 544 66
 (srfDec 553 544 83
 (.sure [.setB0 554 (.cmp .eql (.var 544) (.lit 82))] 554 true
 (.sure [.call 72 [(.lit (.int .i64 36)), (.ivar .i64 3), (.ivar .i64 6), (.ivar .i64 9), (.lit (.int .i32 0))] 555 [(.ri .u32), .rb]] 556 true
 (.nb [.setB0 557 (.cmp .eql (.var 555) (.var 0))] 557
 (.leaf [] (.tup [(.agg [(.lit (.int .i64 36)), (.ivar .i64 3), (.ivar .i64 6), (.ivar .i64 9), (.lit (.int .i32 0))]), (.c (.lit (.bool true)))]))
 (.sure [.call 69 [(.lit (.int .i64 37))] 558 [(.ri .u8), (.ri .u32), (.ri .u32), (.ri .u32)], .setB0 562 (.cmp .eql (.var 558) (.lit 85))] 562 false
 (srfDec 563 558 74
 (srfDec 564 558 73
 (srfDec 565 558 72
 (srfDec 566 558 66
 (srfDec 567 558 83
 (.sure [.setB0 568 (.cmp .eql (.var 558) (.lit 82))] 568 true
 (.sure [.call 72 [(.lit (.int .i64 37)), (.ivar .i64 3), (.ivar .i64 6), (.ivar .i64 9), (.lit (.int .i32 0))] 569 [(.ri .u32), .rb]] 570 true
 rfDecT1))))))))))))))))))))))))))))))))))))))))))))))))))))))
theorem rfDecT2_ok : LT.Ok rfDecR rfDecT2 rfDecT2_okD rfDecT2_okE :=
 (LT.ok_nb (LT.ok_leaf (by kernel_rfl))
 (LT.ok_sure (LT.ok_sure (LT.ok_sure (LT.ok_sure (LT.ok_sure (LT.ok_sure (LT.ok_sure (LT.ok_sure (LT.ok_nb (LT.ok_leaf (by kernel_rfl))
 (LT.ok_sure (LT.ok_sure (LT.ok_sure (LT.ok_sure (LT.ok_sure (LT.ok_sure (LT.ok_sure (LT.ok_sure (LT.ok_nb (LT.ok_leaf (by kernel_rfl))
 (LT.ok_sure (LT.ok_sure (LT.ok_sure (LT.ok_sure (LT.ok_sure (LT.ok_sure (LT.ok_sure (LT.ok_sure (LT.ok_nb (LT.ok_leaf (by kernel_rfl))
 (LT.ok_sure (LT.ok_sure (LT.ok_sure (LT.ok_sure (LT.ok_sure (LT.ok_sure (LT.ok_sure (LT.ok_sure (LT.ok_nb (LT.ok_leaf (by kernel_rfl))
 (LT.ok_sure (LT.ok_sure (LT.ok_sure (LT.ok_sure (LT.ok_sure (LT.ok_sure (LT.ok_sure (LT.ok_sure (LT.ok_nb (LT.ok_leaf (by kernel_rfl))
 (LT.ok_sure (LT.ok_sure (LT.ok_sure (LT.ok_sure (LT.ok_sure (LT.ok_sure (LT.ok_sure (LT.ok_sure rfDecT1_ok))))))))))))))))))))))))))))))))))))))))))))))))))))))
noncomputable def rfDecT3 : LT :=
 (.nb [.setB0 407 (.cmp .eql (.var 405) (.var 0))] 407
 (.leaf [] (.tup [(.agg [(.lit (.int .i64 25)), (.ivar .i64 3), (.ivar .i64 6), (.lit (.int .i64 0)), (.ivar .i32 404)]), (.c (.lit (.bool true)))]))
 (.sure [.call 69 [(.lit (.int .i64 26))] 408 [(.ri .u8), (.ri .u32), (.ri .u32), (.ri .u32)], .setB0 412 (.cmp .eql (.var 408) (.lit 85))] 412 false
 (srfDec 413 408 74
 (srfDec 414 408 73
 (.sure [.setB0 415 (.cmp .eql (.var 408) (.lit 72))] 415 true
 (.sure [.setI0 416 (.conv .i32 (.var 9)), .call 72 [(.lit (.int .i64 26)), (.ivar .i64 3), (.ivar .i64 6), (.lit (.int .i64 0)), (.ivar .i32 416)] 417 [(.ri .u32), .rb]] 418 true
 (.nb [.setB0 419 (.cmp .eql (.var 417) (.var 0))] 419
 (.leaf [] (.tup [(.agg [(.lit (.int .i64 26)), (.ivar .i64 3), (.ivar .i64 6), (.lit (.int .i64 0)), (.ivar .i32 416)]), (.c (.lit (.bool true)))]))
 (.sure [.call 69 [(.lit (.int .i64 27))] 420 [(.ri .u8), (.ri .u32), (.ri .u32), (.ri .u32)], .setB0 424 (.cmp .eql (.var 420) (.lit 85))] 424 false
 (srfDec 425 420 74
 (srfDec 426 420 73
 (.sure [.setB0 427 (.cmp .eql (.var 420) (.lit 72))] 427 true
 (.sure [.setI0 428 (.conv .i32 (.var 9)), .call 72 [(.lit (.int .i64 27)), (.ivar .i64 3), (.ivar .i64 6), (.lit (.int .i64 0)), (.ivar .i32 428)] 429 [(.ri .u32), .rb]] 430 true
 (.nb [.setB0 431 (.cmp .eql (.var 429) (.var 0))] 431
 (.leaf [] (.tup [(.agg [(.lit (.int .i64 27)), (.ivar .i64 3), (.ivar .i64 6), (.lit (.int .i64 0)), (.ivar .i32 428)]), (.c (.lit (.bool true)))]))
 (.sure [.call 69 [(.lit (.int .i64 28))] 432 [(.ri .u8), (.ri .u32), (.ri .u32), (.ri .u32)], .setB0 436 (.cmp .eql (.var 432) (.lit 85))] 436 false
 (srfDec 437 432 74
 (srfDec 438 432 73
 (srfDec 439 432 72
 (srfDec 440 432 66
 (srfDec 441 432 83
 (.sure [.setB0 442 (.cmp .eql (.var 432) (.lit 82))] 442 true
 (.sure [.call 72 [(.lit (.int .i64 28)), (.ivar .i64 3), (.ivar .i64 6), (.ivar .i64 9), (.lit (.int .i32 0))] 443 [(.ri .u32), .rb]] 444 true
 (.nb [.setB0 445 (.cmp .eql (.var 443) (.var 0))] 445
 (.leaf [] (.tup [(.agg [(.lit (.int .i64 28)), (.ivar .i64 3), (.ivar .i64 6), (.ivar .i64 9), (.lit (.int .i32 0))]), (.c (.lit (.bool true)))]))
 (.sure [.call 69 [(.lit (.int .i64 29))] 446 [(.ri .u8), (.ri .u32), (.ri .u32), (.ri .u32)], .setB0 450 (.cmp .eql (.var 446) (.lit 85))] 450 false
 (srfDec 451 446 74
 (srfDec 452 446 73
 (srfDec 453 446 72
 (srfDec 454 446 66
 (srfDec 455 446 83
 (.sure [.setB0 456 (.cmp .eql (.var 446) (.lit 82))] 456 true
 (.sure [.call 72 [(.lit (.int .i64 29)), (.ivar .i64 3), (.ivar .i64 6), (.ivar .i64 9), (.lit (.int .i32 0))] 457 [(.ri .u32), .rb]] 458 true
 (.nb [.setB0 459 (.cmp .eql (.var 457) (.var 0))] 459
 (.leaf [] (.tup [(.agg [(.lit (.int .i64 29)), (.ivar .i64 3), (.ivar .i64 6), (.ivar .i64 9), (.lit (.int .i32 0))]), (.c (.lit (.bool true)))]))
 (.sure [.call 69 [(.lit (.int .i64 30))] 460 [(.ri .u8), (.ri .u32), (.ri .u32), (.ri .u32)], .setB0 464 (.cmp .eql (.var 460) (.lit 85))] 464 false
 (srfDec 465 460 74
 (srfDec 466 460 73
 (srfDec 467 460 72
 (srfDec 468 460 66
 (srfDec 469 460 83
 (.sure [.setB0 470 (.cmp .eql (.var 460) (.lit 82))] 470 true
 (.sure [.call 72 [(.lit (.int .i64 30)), (.ivar .i64 3), (.ivar .i64 6), (.ivar .i64 9), (.lit (.int .i32 0))] 471 [(.ri .u32), .rb]] 472 true
 (.nb [.setB0 473 (.cmp .eql (.var 471) (.var 0))] 473
 (.leaf [] (.tup [(.agg [(.lit (.int .i64 30)), (.ivar .i64 3), (.ivar .i64 6), (.ivar .i64 9), (.lit (.int .i32 0))]), (.c (.lit (.bool true)))]))
 (.sure [.call 69 [(.lit (.int .i64 31))] 474 [(.ri .u8), (.ri .u32), (.ri .u32), (.ri .u32)], .setB0 478 (.cmp .eql (.var 474) (.lit 85))] 478 false
 (srfDec 479 474 74
 (srfDec 480 474 73
 (srfDec 481 474 72
 (srfDec 482 474 66
 (srfDec 483 474 83
 (.sure [.setB0 484 (.cmp .eql (.var 474) (.lit 82))] 484 true
 (.sure [.call 72 [(.lit (.int .i64 31)), (.ivar .i64 3), (.ivar .i64 6), (.ivar .i64 9), (.lit (.int .i32 0))] 485 [(.ri .u32), .rb]] 486 true
 rfDecT2))))))))))))))))))))))))))))))))))))))))))))))))
theorem rfDecT3_ok : LT.Ok rfDecR rfDecT3 rfDecT3_okD rfDecT3_okE :=
 (LT.ok_nb (LT.ok_leaf (by kernel_rfl))
 (LT.ok_sure (LT.ok_sure (LT.ok_sure (LT.ok_sure (LT.ok_sure (LT.ok_nb (LT.ok_leaf (by kernel_rfl))
 (LT.ok_sure (LT.ok_sure (LT.ok_sure (LT.ok_sure (LT.ok_sure (LT.ok_nb (LT.ok_leaf (by kernel_rfl))
 (LT.ok_sure (LT.ok_sure (LT.ok_sure (LT.ok_sure (LT.ok_sure (LT.ok_sure (LT.ok_sure (LT.ok_sure (LT.ok_nb (LT.ok_leaf (by kernel_rfl))
 (LT.ok_sure (LT.ok_sure (LT.ok_sure (LT.ok_sure (LT.ok_sure (LT.ok_sure (LT.ok_sure (LT.ok_sure (LT.ok_nb (LT.ok_leaf (by kernel_rfl))
 (LT.ok_sure (LT.ok_sure (LT.ok_sure (LT.ok_sure (LT.ok_sure (LT.ok_sure (LT.ok_sure (LT.ok_sure (LT.ok_nb (LT.ok_leaf (by kernel_rfl))
 (LT.ok_sure (LT.ok_sure (LT.ok_sure (LT.ok_sure (LT.ok_sure (LT.ok_sure (LT.ok_sure (LT.ok_sure rfDecT2_ok))))))))))))))))))))))))))))))))))))))))))))))))
noncomputable def rfDecT4 : LT :=
 (.nb [.setB0 335 (.cmp .eql (.var 333) (.var 0))] 335
 (.leaf [] (.tup [(.agg [(.lit (.int .i64 19)), (.ivar .i64 3), (.ivar .i64 6), (.lit (.int .i64 0)), (.ivar .i32 332)]), (.c (.lit (.bool true)))]))
 (.sure [.call 69 [(.lit (.int .i64 20))] 336 [(.ri .u8), (.ri .u32), (.ri .u32), (.ri .u32)], .setB0 340 (.cmp .eql (.var 336) (.lit 85))] 340 false
 (srfDec 341 336 74
 (.sure [.setB0 342 (.cmp .eql (.var 336) (.lit 73))] 342 true
 (.sure [.setI0 343 (.conv .i32 (.var 0)), .setI0 344 (.bin .shr .i32 (.var 343) (.lit 20)), .call 72 [(.lit (.int .i64 20)), (.ivar .i64 3), (.ivar .i64 6), (.lit (.int .i64 0)), (.ivar .i32 344)] 345 [(.ri .u32), .rb]] 346 true
 (.nb [.setB0 347 (.cmp .eql (.var 345) (.var 0))] 347
 (.leaf [] (.tup [(.agg [(.lit (.int .i64 20)), (.ivar .i64 3), (.ivar .i64 6), (.lit (.int .i64 0)), (.ivar .i32 344)]), (.c (.lit (.bool true)))]))
 (.sure [.call 69 [(.lit (.int .i64 21))] 348 [(.ri .u8), (.ri .u32), (.ri .u32), (.ri .u32)], .setB0 352 (.cmp .eql (.var 348) (.lit 85))] 352 false
 (srfDec 353 348 74
 (.sure [.setB0 354 (.cmp .eql (.var 348) (.lit 73))] 354 true
 (.sure [.setI0 355 (.conv .i32 (.var 0)), .setI0 356 (.bin .shr .i32 (.var 355) (.lit 20)), .call 72 [(.lit (.int .i64 21)), (.ivar .i64 3), (.ivar .i64 6), (.lit (.int .i64 0)), (.ivar .i32 356)] 357 [(.ri .u32), .rb]] 358 true
 (.nb [.setB0 359 (.cmp .eql (.var 357) (.var 0))] 359
 (.leaf [] (.tup [(.agg [(.lit (.int .i64 21)), (.ivar .i64 3), (.ivar .i64 6), (.lit (.int .i64 0)), (.ivar .i32 356)]), (.c (.lit (.bool true)))]))
 (.sure [.call 69 [(.lit (.int .i64 22))] 360 [(.ri .u8), (.ri .u32), (.ri .u32), (.ri .u32)], .setB0 364 (.cmp .eql (.var 360) (.lit 85))] 364 false
 (srfDec 365 360 74
 (.sure [.setB0 366 (.cmp .eql (.var 360) (.lit 73))] 366 true
 (.sure [.setI0 367 (.conv .i32 (.var 0)), .setI0 368 (.bin .shr .i32 (.var 367) (.lit 20)), .call 72 [(.lit (.int .i64 22)), (.ivar .i64 3), (.ivar .i64 6), (.lit (.int .i64 0)), (.ivar .i32 368)] 369 [(.ri .u32), .rb]] 370 true
 (.nb [.setB0 371 (.cmp .eql (.var 369) (.var 0))] 371
 (.leaf [] (.tup [(.agg [(.lit (.int .i64 22)), (.ivar .i64 3), (.ivar .i64 6), (.lit (.int .i64 0)), (.ivar .i32 368)]), (.c (.lit (.bool true)))]))
 (.sure [.call 69 [(.lit (.int .i64 23))] 372 [(.ri .u8), (.ri .u32), (.ri .u32), (.ri .u32)], .setB0 376 (.cmp .eql (.var 372) (.lit 85))] 376 false
 (srfDec 377 372 74
 (.sure [.setB0 378 (.cmp .eql (.var 372) (.lit 73))] 378 true
 (.sure [.setI0 379 (.conv .i32 (.var 0)), .setI0 380 (.bin .shr .i32 (.var 379) (.lit 20)), .call 72 [(.lit (.int .i64 23)), (.ivar .i64 3), (.ivar .i64 6), (.lit (.int .i64 0)), (.ivar .i32 380)] 381 [(.ri .u32), .rb]] 382 true
 (.nb [.setB0 383 (.cmp .eql (.var 381) (.var 0))] 383
 (.leaf [] (.tup [(.agg [(.lit (.int .i64 23)), (.ivar .i64 3), (.ivar .i64 6), (.lit (.int .i64 0)), (.ivar .i32 380)]), (.c (.lit (.bool true)))]))
 (.sure [.call 69 [(.lit (.int .i64 24))] 384 [(.ri .u8), (.ri .u32), (.ri .u32), (.ri .u32)], .setB0 388 (.cmp .eql (.var 384) (.lit 85))] 388 false
 (srfDec 389 384 74
 (.sure [.setB0 390 (.cmp .eql (.var 384) (.lit 73))] 390 true
 (.sure [.setI0 391 (.conv .i32 (.var 0)), .setI0 392 (.bin .shr .i32 (.var 391) (.lit 20)), .call 72 [(.lit (.int .i64 24)), (.ivar .i64 3), (.ivar .i64 6), (.lit (.int .i64 0)), (.ivar .i32 392)] 393 [(.ri .u32), .rb]] 394 true
 (.nb [.setB0 395 (.cmp .eql (.var 393) (.var 0))] 395
 (.leaf [] (.tup [(.agg [(.lit (.int .i64 24)), (.ivar .i64 3), (.ivar .i64 6), (.lit (.int .i64 0)), (.ivar .i32 392)]), (.c (.lit (.bool true)))]))
 (.sure [.call 69 [(.lit (.int .i64 25))] 396 [(.ri .u8), (.ri .u32), (.ri .u32), (.ri .u32)], .setB0 400 (.cmp .eql (.var 396) (.lit 85))] 400 false
 (srfDec 401 396 74
 (srfDec 402 396 73
 (.sure [.setB0 403 (.cmp .eql (.var 396) (.lit 72))] 403 true
 (.sure [.setI0 404 (.conv .i32 (.var 9)), .call 72 [(.lit (.int .i64 25)), (.ivar .i64 3), (.ivar .i64 6), (.lit (.int .i64 0)), (.ivar .i32 404)] 405 [(.ri .u32), .rb]] 406 true
 rfDecT3)))))))))))))))))))))))))))))))
theorem rfDecT4_ok : LT.Ok rfDecR rfDecT4 rfDecT4_okD rfDecT4_okE :=
 (LT.ok_nb (LT.ok_leaf (by kernel_rfl))
 (LT.ok_sure (LT.ok_sure (LT.ok_sure (LT.ok_sure (LT.ok_nb (LT.ok_leaf (by kernel_rfl))
 (LT.ok_sure (LT.ok_sure (LT.ok_sure (LT.ok_sure (LT.ok_nb (LT.ok_leaf (by kernel_rfl))
 (LT.ok_sure (LT.ok_sure (LT.ok_sure (LT.ok_sure (LT.ok_nb (LT.ok_leaf (by kernel_rfl))
 (LT.ok_sure (LT.ok_sure (LT.ok_sure (LT.ok_sure (LT.ok_nb (LT.ok_leaf (by kernel_rfl))
 (LT.ok_sure (LT.ok_sure (LT.ok_sure (LT.ok_sure (LT.ok_nb (LT.ok_leaf (by kernel_rfl))
 (LT.ok_sure (LT.ok_sure (LT.ok_sure (LT.ok_sure (LT.ok_sure rfDecT3_ok)))))))))))))))))))))))))))))))
noncomputable def rfDecT5 : LT :=
 (.nb [.setB0 242 (.cmp .eql (.var 240) (.var 0))] 242
 (.leaf [] (.tup [(.agg [(.lit (.int .i64 13)), (.ivar .i64 3), (.ivar .i64 6), (.lit (.int .i64 0)), (.ivar .i32 239)]), (.c (.lit (.bool true)))]))
 (.sure [.call 69 [(.lit (.int .i64 14))] 243 [(.ri .u8), (.ri .u32), (.ri .u32), (.ri .u32)], .setB0 247 (.cmp .eql (.var 243) (.lit 85))] 247 false
 (srfDec 248 243 74
 (.sure [.setB0 249 (.cmp .eql (.var 243) (.lit 73))] 249 true
 (.sure [.setI0 250 (.conv .i32 (.var 0)), .setI0 251 (.bin .shr .i32 (.var 250) (.lit 20)), .call 72 [(.lit (.int .i64 14)), (.ivar .i64 3), (.ivar .i64 6), (.lit (.int .i64 0)), (.ivar .i32 251)] 252 [(.ri .u32), .rb]] 253 true
 (.nb [.setB0 254 (.cmp .eql (.var 252) (.var 0))] 254
 (.leaf [] (.tup [(.agg [(.lit (.int .i64 14)), (.ivar .i64 3), (.ivar .i64 6), (.lit (.int .i64 0)), (.ivar .i32 251)]), (.c (.lit (.bool true)))]))
 (.sure [.call 69 [(.lit (.int .i64 15))] 255 [(.ri .u8), (.ri .u32), (.ri .u32), (.ri .u32)], .setB0 259 (.cmp .eql (.var 255) (.lit 85))] 259 false
 (srfDec 260 255 74
 (.sure [.setB0 261 (.cmp .eql (.var 255) (.lit 73))] 261 true
 (.sure [.setI0 262 (.conv .i32 (.var 0)), .setI0 263 (.bin .shr .i32 (.var 262) (.lit 20)), .call 72 [(.lit (.int .i64 15)), (.ivar .i64 3), (.ivar .i64 6), (.lit (.int .i64 0)), (.ivar .i32 263)] 264 [(.ri .u32), .rb]] 265 true
 (.nb [.setB0 266 (.cmp .eql (.var 264) (.var 0))] 266
 (.leaf [] (.tup [(.agg [(.lit (.int .i64 15)), (.ivar .i64 3), (.ivar .i64 6), (.lit (.int .i64 0)), (.ivar .i32 263)]), (.c (.lit (.bool true)))]))
 (.sure [.call 69 [(.lit (.int .i64 16))] 267 [(.ri .u8), (.ri .u32), (.ri .u32), (.ri .u32)], .setB0 271 (.cmp .eql (.var 267) (.lit 85))] 271 false
 (srfDec 272 267 74
 (srfDec 273 267 73
 (srfDec 274 267 72
 (srfDec 275 267 66
 (.sure [.setB0 276 (.cmp .eql (.var 267) (.lit 83))] 276 true
 (.sure [.call 88 [(.ivar .u32 0), (.lit (.int .i64 7)), (.lit (.int .i64 5))] 277 [(.ri .u32)], .setI0 278 (.bin .shl .u32 (.var 277) (.lit 0)), .call 88 [(.ivar .u32 0), (.lit (.int .i64 25)), (.lit (.int .i64 7))] 279 [(.ri .u32)], .setI0 280 (.bin .shl .u32 (.var 279) (.lit 5)), .setI0 281 (.bin .or .u32 (.var 278) (.var 280)), .call 71 [(.ivar .u32 281), (.lit (.int .i64 12))] 282 [(.ri .i32)], .call 72 [(.lit (.int .i64 16)), (.lit (.int .i64 0)), (.ivar .i64 6), (.ivar .i64 9), (.ivar .i32 282)] 283 [(.ri .u32), .rb]] 284 true
 (.nb [.setB0 285 (.cmp .eql (.var 283) (.var 0))] 285
 (.leaf [] (.tup [(.agg [(.lit (.int .i64 16)), (.lit (.int .i64 0)), (.ivar .i64 6), (.ivar .i64 9), (.ivar .i32 282)]), (.c (.lit (.bool true)))]))
 (.sure [.call 69 [(.lit (.int .i64 17))] 286 [(.ri .u8), (.ri .u32), (.ri .u32), (.ri .u32)], .setB0 290 (.cmp .eql (.var 286) (.lit 85))] 290 false
 (srfDec 291 286 74
 (srfDec 292 286 73
 (srfDec 293 286 72
 (srfDec 294 286 66
 (.sure [.setB0 295 (.cmp .eql (.var 286) (.lit 83))] 295 true
 (.sure [.call 88 [(.ivar .u32 0), (.lit (.int .i64 7)), (.lit (.int .i64 5))] 296 [(.ri .u32)], .setI0 297 (.bin .shl .u32 (.var 296) (.lit 0)), .call 88 [(.ivar .u32 0), (.lit (.int .i64 25)), (.lit (.int .i64 7))] 298 [(.ri .u32)], .setI0 299 (.bin .shl .u32 (.var 298) (.lit 5)), .setI0 300 (.bin .or .u32 (.var 297) (.var 299)), .call 71 [(.ivar .u32 300), (.lit (.int .i64 12))] 301 [(.ri .i32)], .call 72 [(.lit (.int .i64 17)), (.lit (.int .i64 0)), (.ivar .i64 6), (.ivar .i64 9), (.ivar .i32 301)] 302 [(.ri .u32), .rb]] 303 true
 (.nb [.setB0 304 (.cmp .eql (.var 302) (.var 0))] 304
 (.leaf [] (.tup [(.agg [(.lit (.int .i64 17)), (.lit (.int .i64 0)), (.ivar .i64 6), (.ivar .i64 9), (.ivar .i32 301)]), (.c (.lit (.bool true)))]))
 (.sure [.call 69 [(.lit (.int .i64 18))] 305 [(.ri .u8), (.ri .u32), (.ri .u32), (.ri .u32)], .setB0 309 (.cmp .eql (.var 305) (.lit 85))] 309 false
 (srfDec 310 305 74
 (srfDec 311 305 73
 (srfDec 312 305 72
 (srfDec 313 305 66
 (.sure [.setB0 314 (.cmp .eql (.var 305) (.lit 83))] 314 true
 (.sure [.call 88 [(.ivar .u32 0), (.lit (.int .i64 7)), (.lit (.int .i64 5))] 315 [(.ri .u32)], .setI0 316 (.bin .shl .u32 (.var 315) (.lit 0)), .call 88 [(.ivar .u32 0), (.lit (.int .i64 25)), (.lit (.int .i64 7))] 317 [(.ri .u32)], .setI0 318 (.bin .shl .u32 (.var 317) (.lit 5)), .setI0 319 (.bin .or .u32 (.var 316) (.var 318)), .call 71 [(.ivar .u32 319), (.lit (.int .i64 12))] 320 [(.ri .i32)], .call 72 [(.lit (.int .i64 18)), (.lit (.int .i64 0)), (.ivar .i64 6), (.ivar .i64 9), (.ivar .i32 320)] 321 [(.ri .u32), .rb]] 322 true
 (.nb [.setB0 323 (.cmp .eql (.var 321) (.var 0))] 323
 (.leaf [] (.tup [(.agg [(.lit (.int .i64 18)), (.lit (.int .i64 0)), (.ivar .i64 6), (.ivar .i64 9), (.ivar .i32 320)]), (.c (.lit (.bool true)))]))
 (.sure [.call 69 [(.lit (.int .i64 19))] 324 [(.ri .u8), (.ri .u32), (.ri .u32), (.ri .u32)], .setB0 328 (.cmp .eql (.var 324) (.lit 85))] 328 false
 (srfDec 329 324 74
 (.sure [.setB0 330 (.cmp .eql (.var 324) (.lit 73))] 330 true
 (.sure [.setI0 331 (.conv .i32 (.var 0)), .setI0 332 (.bin .shr .i32 (.var 331) (.lit 20)), .call 72 [(.lit (.int .i64 19)), (.ivar .i64 3), (.ivar .i64 6), (.lit (.int .i64 0)), (.ivar .i32 332)] 333 [(.ri .u32), .rb]] 334 true
 rfDecT4)))))))))))))))))))))))))))))))))))))))
theorem rfDecT5_ok : LT.Ok rfDecR rfDecT5 rfDecT5_okD rfDecT5_okE :=
 (LT.ok_nb (LT.ok_leaf (by kernel_rfl))
 (LT.ok_sure (LT.ok_sure (LT.ok_sure (LT.ok_sure (LT.ok_nb (LT.ok_leaf (by kernel_rfl))
 (LT.ok_sure (LT.ok_sure (LT.ok_sure (LT.ok_sure (LT.ok_nb (LT.ok_leaf (by kernel_rfl))
 (LT.ok_sure (LT.ok_sure (LT.ok_sure (LT.ok_sure (LT.ok_sure (LT.ok_sure (LT.ok_sure (LT.ok_nb (LT.ok_leaf (by kernel_rfl))
 (LT.ok_sure (LT.ok_sure (LT.ok_sure (LT.ok_sure (LT.ok_sure (LT.ok_sure (LT.ok_sure (LT.ok_nb (LT.ok_leaf (by kernel_rfl))
 (LT.ok_sure (LT.ok_sure (LT.ok_sure (LT.ok_sure (LT.ok_sure (LT.ok_sure (LT.ok_sure (LT.ok_nb (LT.ok_leaf (by kernel_rfl))
 (LT.ok_sure (LT.ok_sure (LT.ok_sure (LT.ok_sure rfDecT4_ok)))))))))))))))))))))))))))))))))))))))
noncomputable def rfDecT6 : LT :=
 (.nb [.setB0 134 (.cmp .eql (.var 132) (.var 0))] 134
 (.leaf [] (.tup [(.agg [(.lit (.int .i64 7)), (.lit (.int .i64 0)), (.ivar .i64 6), (.ivar .i64 9), (.ivar .i32 131)]), (.c (.lit (.bool true)))]))
 (.sure [.call 69 [(.lit (.int .i64 8))] 135 [(.ri .u8), (.ri .u32), (.ri .u32), (.ri .u32)], .setB0 139 (.cmp .eql (.var 135) (.lit 85))] 139 false
 (srfDec 140 135 74
 (srfDec 141 135 73
 (srfDec 142 135 72
 (.sure [.setB0 143 (.cmp .eql (.var 135) (.lit 66))] 143 true
 (.sure [.call 88 [(.ivar .u32 0), (.lit (.int .i64 7)), (.lit (.int .i64 1))] 144 [(.ri .u32)], .setI0 145 (.bin .shl .u32 (.var 144) (.lit 11)), .call 88 [(.ivar .u32 0), (.lit (.int .i64 8)), (.lit (.int .i64 4))] 146 [(.ri .u32)], .setI0 147 (.bin .shl .u32 (.var 146) (.lit 1)), .setI0 148 (.bin .or .u32 (.var 145) (.var 147)), .call 88 [(.ivar .u32 0), (.lit (.int .i64 25)), (.lit (.int .i64 6))] 149 [(.ri .u32)], .setI0 150 (.bin .shl .u32 (.var 149) (.lit 5)), .setI0 151 (.bin .or .u32 (.var 148) (.var 150)), .call 88 [(.ivar .u32 0), (.lit (.int .i64 31)), (.lit (.int .i64 1))] 152 [(.ri .u32)], .setI0 153 (.bin .shl .u32 (.var 152) (.lit 12)), .setI0 154 (.bin .or .u32 (.var 151) (.var 153)), .call 71 [(.ivar .u32 154), (.lit (.int .i64 13))] 155 [(.ri .i32)], .call 72 [(.lit (.int .i64 8)), (.lit (.int .i64 0)), (.ivar .i64 6), (.ivar .i64 9), (.ivar .i32 155)] 156 [(.ri .u32), .rb]] 157 true
 (.nb [.setB0 158 (.cmp .eql (.var 156) (.var 0))] 158
 (.leaf [] (.tup [(.agg [(.lit (.int .i64 8)), (.lit (.int .i64 0)), (.ivar .i64 6), (.ivar .i64 9), (.ivar .i32 155)]), (.c (.lit (.bool true)))]))
 (.sure [.call 69 [(.lit (.int .i64 9))] 159 [(.ri .u8), (.ri .u32), (.ri .u32), (.ri .u32)], .setB0 163 (.cmp .eql (.var 159) (.lit 85))] 163 false
 (srfDec 164 159 74
 (srfDec 165 159 73
 (srfDec 166 159 72
 (.sure [.setB0 167 (.cmp .eql (.var 159) (.lit 66))] 167 true
 (.sure [.call 88 [(.ivar .u32 0), (.lit (.int .i64 7)), (.lit (.int .i64 1))] 168 [(.ri .u32)], .setI0 169 (.bin .shl .u32 (.var 168) (.lit 11)), .call 88 [(.ivar .u32 0), (.lit (.int .i64 8)), (.lit (.int .i64 4))] 170 [(.ri .u32)], .setI0 171 (.bin .shl .u32 (.var 170) (.lit 1)), .setI0 172 (.bin .or .u32 (.var 169) (.var 171)), .call 88 [(.ivar .u32 0), (.lit (.int .i64 25)), (.lit (.int .i64 6))] 173 [(.ri .u32)], .setI0 174 (.bin .shl .u32 (.var 173) (.lit 5)), .setI0 175 (.bin .or .u32 (.var 172) (.var 174)), .call 88 [(.ivar .u32 0), (.lit (.int .i64 31)), (.lit (.int .i64 1))] 176 [(.ri .u32)], .setI0 177 (.bin .shl .u32 (.var 176) (.lit 12)), .setI0 178 (.bin .or .u32 (.var 175) (.var 177)), .call 71 [(.ivar .u32 178), (.lit (.int .i64 13))] 179 [(.ri .i32)], .call 72 [(.lit (.int .i64 9)), (.lit (.int .i64 0)), (.ivar .i64 6), (.ivar .i64 9), (.ivar .i32 179)] 180 [(.ri .u32), .rb]] 181 true
 (.nb [.setB0 182 (.cmp .eql (.var 180) (.var 0))] 182
 (.leaf [] (.tup [(.agg [(.lit (.int .i64 9)), (.lit (.int .i64 0)), (.ivar .i64 6), (.ivar .i64 9), (.ivar .i32 179)]), (.c (.lit (.bool true)))]))
 (.sure [.call 69 [(.lit (.int .i64 10))] 183 [(.ri .u8), (.ri .u32), (.ri .u32), (.ri .u32)], .setB0 187 (.cmp .eql (.var 183) (.lit 85))] 187 false
 (srfDec 188 183 74
 (srfDec 189 183 73
 (srfDec 190 183 72
 (.sure [.setB0 191 (.cmp .eql (.var 183) (.lit 66))] 191 true
 (.sure [.call 88 [(.ivar .u32 0), (.lit (.int .i64 7)), (.lit (.int .i64 1))] 192 [(.ri .u32)], .setI0 193 (.bin .shl .u32 (.var 192) (.lit 11)), .call 88 [(.ivar .u32 0), (.lit (.int .i64 8)), (.lit (.int .i64 4))] 194 [(.ri .u32)], .setI0 195 (.bin .shl .u32 (.var 194) (.lit 1)), .setI0 196 (.bin .or .u32 (.var 193) (.var 195)), .call 88 [(.ivar .u32 0), (.lit (.int .i64 25)), (.lit (.int .i64 6))] 197 [(.ri .u32)], .setI0 198 (.bin .shl .u32 (.var 197) (.lit 5)), .setI0 199 (.bin .or .u32 (.var 196) (.var 198)), .call 88 [(.ivar .u32 0), (.lit (.int .i64 31)), (.lit (.int .i64 1))] 200 [(.ri .u32)], .setI0 201 (.bin .shl .u32 (.var 200) (.lit 12)), .setI0 202 (.bin .or .u32 (.var 199) (.var 201)), .call 71 [(.ivar .u32 202), (.lit (.int .i64 13))] 203 [(.ri .i32)], .call 72 [(.lit (.int .i64 10)), (.lit (.int .i64 0)), (.ivar .i64 6), (.ivar .i64 9), (.ivar .i32 203)] 204 [(.ri .u32), .rb]] 205 true
 (.nb [.setB0 206 (.cmp .eql (.var 204) (.var 0))] 206
 (.leaf [] (.tup [(.agg [(.lit (.int .i64 10)), (.lit (.int .i64 0)), (.ivar .i64 6), (.ivar .i64 9), (.ivar .i32 203)]), (.c (.lit (.bool true)))]))
 (.sure [.call 69 [(.lit (.int .i64 11))] 207 [(.ri .u8), (.ri .u32), (.ri .u32), (.ri .u32)], .setB0 211 (.cmp .eql (.var 207) (.lit 85))] 211 false
 (srfDec 212 207 74
 (.sure [.setB0 213 (.cmp .eql (.var 207) (.lit 73))] 213 true
 (.sure [.setI0 214 (.conv .i32 (.var 0)), .setI0 215 (.bin .shr .i32 (.var 214) (.lit 20)), .call 72 [(.lit (.int .i64 11)), (.ivar .i64 3), (.ivar .i64 6), (.lit (.int .i64 0)), (.ivar .i32 215)] 216 [(.ri .u32), .rb]] 217 true
 (.nb [.setB0 218 (.cmp .eql (.var 216) (.var 0))] 218
 (.leaf [] (.tup [(.agg [(.lit (.int .i64 11)), (.ivar .i64 3), (.ivar .i64 6), (.lit (.int .i64 0)), (.ivar .i32 215)]), (.c (.lit (.bool true)))]))
 (.sure [.call 69 [(.lit (.int .i64 12))] 219 [(.ri .u8), (.ri .u32), (.ri .u32), (.ri .u32)], .setB0 223 (.cmp .eql (.var 219) (.lit 85))] 223 false
 (srfDec 224 219 74
 (.sure [.setB0 225 (.cmp .eql (.var 219) (.lit 73))] 225 true
 (.sure [.setI0 226 (.conv .i32 (.var 0)), .setI0 227 (.bin .shr .i32 (.var 226) (.lit 20)), .call 72 [(.lit (.int .i64 12)), (.ivar .i64 3), (.ivar .i64 6), (.lit (.int .i64 0)), (.ivar .i32 227)] 228 [(.ri .u32), .rb]] 229 true
 (.nb [.setB0 230 (.cmp .eql (.var 228) (.var 0))] 230
 (.leaf [] (.tup [(.agg [(.lit (.int .i64 12)), (.ivar .i64 3), (.ivar .i64 6), (.lit (.int .i64 0)), (.ivar .i32 227)]), (.c (.lit (.bool true)))]))
 (.sure [.call 69 [(.lit (.int .i64 13))] 231 [(.ri .u8), (.ri .u32), (.ri .u32), (.ri .u32)], .setB0 235 (.cmp .eql (.var 231) (.lit 85))] 235 false
 (srfDec 236 231 74
 (.sure [.setB0 237 (.cmp .eql (.var 231) (.lit 73))] 237 true
 (.sure [.setI0 238 (.conv .i32 (.var 0)), .setI0 239 (.bin .shr .i32 (.var 238) (.lit 20)), .call 72 [(.lit (.int .i64 13)), (.ivar .i64 3), (.ivar .i64 6), (.lit (.int .i64 0)), (.ivar .i32 239)] 240 [(.ri .u32), .rb]] 241 true
 rfDecT5))))))))))))))))))))))))))))))))))))
theorem rfDecT6_ok : LT.Ok rfDecR rfDecT6 rfDecT6_okD rfDecT6_okE :=
 (LT.ok_nb (LT.ok_leaf (by kernel_rfl))
 (LT.ok_sure (LT.ok_sure (LT.ok_sure (LT.ok_sure (LT.ok_sure (LT.ok_sure (LT.ok_nb (LT.ok_leaf (by kernel_rfl))
 (LT.ok_sure (LT.ok_sure (LT.ok_sure (LT.ok_sure (LT.ok_sure (LT.ok_sure (LT.ok_nb (LT.ok_leaf (by kernel_rfl))
 (LT.ok_sure (LT.ok_sure (LT.ok_sure (LT.ok_sure (LT.ok_sure (LT.ok_sure (LT.ok_nb (LT.ok_leaf (by kernel_rfl))
 (LT.ok_sure (LT.ok_sure (LT.ok_sure (LT.ok_sure (LT.ok_nb (LT.ok_leaf (by kernel_rfl))
 (LT.ok_sure (LT.ok_sure (LT.ok_sure (LT.ok_sure (LT.ok_nb (LT.ok_leaf (by kernel_rfl))
 (LT.ok_sure (LT.ok_sure (LT.ok_sure (LT.ok_sure rfDecT5_ok))))))))))))))))))))))))))))))))))))
noncomputable def rfDecT7 : LT :=
 (.nb [.setB0 19 (.cmp .eql (.var 17) (.var 0))] 19
 (.leaf [] (.tup [(.agg [(.lit (.int .i64 1)), (.ivar .i64 3), (.lit (.int .i64 0)), (.lit (.int .i64 0)), (.ivar .i32 16)]), (.c (.lit (.bool true)))]))
 (.sure [.call 69 [(.lit (.int .i64 2))] 20 [(.ri .u8), (.ri .u32), (.ri .u32), (.ri .u32)], .setB0 24 (.cmp .eql (.var 20) (.lit 85))] 24 true
 (.sure [.setI0 25 (.bin .and .u32 (.var 0) (.lit 4294963200)), .setI0 26 (.conv .i32 (.var 25)), .call 72 [(.lit (.int .i64 2)), (.ivar .i64 3), (.lit (.int .i64 0)), (.lit (.int .i64 0)), (.ivar .i32 26)] 27 [(.ri .u32), .rb]] 28 true
 (.nb [.setB0 29 (.cmp .eql (.var 27) (.var 0))] 29
 (.leaf [] (.tup [(.agg [(.lit (.int .i64 2)), (.ivar .i64 3), (.lit (.int .i64 0)), (.lit (.int .i64 0)), (.ivar .i32 26)]), (.c (.lit (.bool true)))]))
 (.sure [.call 69 [(.lit (.int .i64 3))] 30 [(.ri .u8), (.ri .u32), (.ri .u32), (.ri .u32)], .setB0 34 (.cmp .eql (.var 30) (.lit 85))] 34 false
 (.sure [.setB0 35 (.cmp .eql (.var 30) (.lit 74))] 35 true
 (.sure [.call 88 [(.ivar .u32 0), (.lit (.int .i64 12)), (.lit (.int .i64 8))] 36 [(.ri .u32)], .setI0 37 (.bin .shl .u32 (.var 36) (.lit 12)), .call 88 [(.ivar .u32 0), (.lit (.int .i64 20)), (.lit (.int .i64 1))] 38 [(.ri .u32)], .setI0 39 (.bin .shl .u32 (.var 38) (.lit 11)), .setI0 40 (.bin .or .u32 (.var 37) (.var 39)), .call 88 [(.ivar .u32 0), (.lit (.int .i64 21)), (.lit (.int .i64 10))] 41 [(.ri .u32)], .setI0 42 (.bin .shl .u32 (.var 41) (.lit 1)), .setI0 43 (.bin .or .u32 (.var 40) (.var 42)), .call 88 [(.ivar .u32 0), (.lit (.int .i64 31)), (.lit (.int .i64 1))] 44 [(.ri .u32)], .setI0 45 (.bin .shl .u32 (.var 44) (.lit 20)), .setI0 46 (.bin .or .u32 (.var 43) (.var 45)), .call 71 [(.ivar .u32 46), (.lit (.int .i64 21))] 47 [(.ri .i32)], .call 72 [(.lit (.int .i64 3)), (.ivar .i64 3), (.lit (.int .i64 0)), (.lit (.int .i64 0)), (.ivar .i32 47)] 48 [(.ri .u32), .rb]] 49 true
 (.nb [.setB0 50 (.cmp .eql (.var 48) (.var 0))] 50
 (.leaf [] (.tup [(.agg [(.lit (.int .i64 3)), (.ivar .i64 3), (.lit (.int .i64 0)), (.lit (.int .i64 0)), (.ivar .i32 47)]), (.c (.lit (.bool true)))]))
 (.sure [.call 69 [(.lit (.int .i64 4))] 51 [(.ri .u8), (.ri .u32), (.ri .u32), (.ri .u32)], .setB0 55 (.cmp .eql (.var 51) (.lit 85))] 55 false
 (srfDec 56 51 74
 (.sure [.setB0 57 (.cmp .eql (.var 51) (.lit 73))] 57 true
 (.sure [.setI0 58 (.conv .i32 (.var 0)), .setI0 59 (.bin .shr .i32 (.var 58) (.lit 20)), .call 72 [(.lit (.int .i64 4)), (.ivar .i64 3), (.ivar .i64 6), (.lit (.int .i64 0)), (.ivar .i32 59)] 60 [(.ri .u32), .rb]] 61 true
 (.nb [.setB0 62 (.cmp .eql (.var 60) (.var 0))] 62
 (.leaf [] (.tup [(.agg [(.lit (.int .i64 4)), (.ivar .i64 3), (.ivar .i64 6), (.lit (.int .i64 0)), (.ivar .i32 59)]), (.c (.lit (.bool true)))]))
 (.sure [.call 69 [(.lit (.int .i64 5))] 63 [(.ri .u8), (.ri .u32), (.ri .u32), (.ri .u32)], .setB0 67 (.cmp .eql (.var 63) (.lit 85))] 67 false
 (srfDec 68 63 74
 (srfDec 69 63 73
 (srfDec 70 63 72
 (.sure [.setB0 71 (.cmp .eql (.var 63) (.lit 66))] 71 true
 (.sure [.call 88 [(.ivar .u32 0), (.lit (.int .i64 7)), (.lit (.int .i64 1))] 72 [(.ri .u32)], .setI0 73 (.bin .shl .u32 (.var 72) (.lit 11)), .call 88 [(.ivar .u32 0), (.lit (.int .i64 8)), (.lit (.int .i64 4))] 74 [(.ri .u32)], .setI0 75 (.bin .shl .u32 (.var 74) (.lit 1)), .setI0 76 (.bin .or .u32 (.var 73) (.var 75)), .call 88 [(.ivar .u32 0), (.lit (.int .i64 25)), (.lit (.int .i64 6))] 77 [(.ri .u32)], .setI0 78 (.bin .shl .u32 (.var 77) (.lit 5)), .setI0 79 (.bin .or .u32 (.var 76) (.var 78)), .call 88 [(.ivar .u32 0), (.lit (.int .i64 31)), (.lit (.int .i64 1))] 80 [(.ri .u32)], .setI0 81 (.bin .shl .u32 (.var 80) (.lit 12)), .setI0 82 (.bin .or .u32 (.var 79) (.var 81)), .call 71 [(.ivar .u32 82), (.lit (.int .i64 13))] 83 [(.ri .i32)], .call 72 [(.lit (.int .i64 5)), (.lit (.int .i64 0)), (.ivar .i64 6), (.ivar .i64 9), (.ivar .i32 83)] 84 [(.ri .u32), .rb]] 85 true
 (.nb [.setB0 86 (.cmp .eql (.var 84) (.var 0))] 86
 (.leaf [] (.tup [(.agg [(.lit (.int .i64 5)), (.lit (.int .i64 0)), (.ivar .i64 6), (.ivar .i64 9), (.ivar .i32 83)]), (.c (.lit (.bool true)))]))
 (.sure [.call 69 [(.lit (.int .i64 6))] 87 [(.ri .u8), (.ri .u32), (.ri .u32), (.ri .u32)], .setB0 91 (.cmp .eql (.var 87) (.lit 85))] 91 false
 (srfDec 92 87 74
 (srfDec 93 87 73
 (srfDec 94 87 72
 (.sure [.setB0 95 (.cmp .eql (.var 87) (.lit 66))] 95 true
 (.sure [.call 88 [(.ivar .u32 0), (.lit (.int .i64 7)), (.lit (.int .i64 1))] 96 [(.ri .u32)], .setI0 97 (.bin .shl .u32 (.var 96) (.lit 11)), .call 88 [(.ivar .u32 0), (.lit (.int .i64 8)), (.lit (.int .i64 4))] 98 [(.ri .u32)], .setI0 99 (.bin .shl .u32 (.var 98) (.lit 1)), .setI0 100 (.bin .or .u32 (.var 97) (.var 99)), .call 88 [(.ivar .u32 0), (.lit (.int .i64 25)), (.lit (.int .i64 6))] 101 [(.ri .u32)], .setI0 102 (.bin .shl .u32 (.var 101) (.lit 5)), .setI0 103 (.bin .or .u32 (.var 100) (.var 102)), .call 88 [(.ivar .u32 0), (.lit (.int .i64 31)), (.lit (.int .i64 1))] 104 [(.ri .u32)], .setI0 105 (.bin .shl .u32 (.var 104) (.lit 12)), .setI0 106 (.bin .or .u32 (.var 103) (.var 105)), .call 71 [(.ivar .u32 106), (.lit (.int .i64 13))] 107 [(.ri .i32)], .call 72 [(.lit (.int .i64 6)), (.lit (.int .i64 0)), (.ivar .i64 6), (.ivar .i64 9), (.ivar .i32 107)] 108 [(.ri .u32), .rb]] 109 true
 (.nb [.setB0 110 (.cmp .eql (.var 108) (.var 0))] 110
 (.leaf [] (.tup [(.agg [(.lit (.int .i64 6)), (.lit (.int .i64 0)), (.ivar .i64 6), (.ivar .i64 9), (.ivar .i32 107)]), (.c (.lit (.bool true)))]))
 (.sure [.call 69 [(.lit (.int .i64 7))] 111 [(.ri .u8), (.ri .u32), (.ri .u32), (.ri .u32)], .setB0 115 (.cmp .eql (.var 111) (.lit 85))] 115 false
 (srfDec 116 111 74
 (srfDec 117 111 73
 (srfDec 118 111 72
 (.sure [.setB0 119 (.cmp .eql (.var 111) (.lit 66))] 119 true
 (.sure [.call 88 [(.ivar .u32 0), (.lit (.int .i64 7)), (.lit (.int .i64 1))] 120 [(.ri .u32)], .setI0 121 (.bin .shl .u32 (.var 120) (.lit 11)), .call 88 [(.ivar .u32 0), (.lit (.int .i64 8)), (.lit (.int .i64 4))] 122 [(.ri .u32)], .setI0 123 (.bin .shl .u32 (.var 122) (.lit 1)), .setI0 124 (.bin .or .u32 (.var 121) (.var 123)), .call 88 [(.ivar .u32 0), (.lit (.int .i64 25)), (.lit (.int .i64 6))] 125 [(.ri .u32)], .setI0 126 (.bin .shl .u32 (.var 125) (.lit 5)), .setI0 127 (.bin .or .u32 (.var 124) (.var 126)), .call 88 [(.ivar .u32 0), (.lit (.int .i64 31)), (.lit (.int .i64 1))] 128 [(.ri .u32)], .setI0 129 (.bin .shl .u32 (.var 128) (.lit 12)), .setI0 130 (.bin .or .u32 (.var 127) (.var 129)), .call 71 [(.ivar .u32 130), (.lit (.int .i64 13))] 131 [(.ri .i32)], .call 72 [(.lit (.int .i64 7)), (.lit (.int .i64 0)), (.ivar .i64 6), (.ivar .i64 9), (.ivar .i32 131)] 132 [(.ri .u32), .rb]] 133 true
 rfDecT6)))))))))))))))))))))))))))))))))
theorem rfDecT7_ok : LT.Ok rfDecR rfDecT7 [.db true, .db true] [.decB 18 true, .call 72 [(.lit (.int .i64 1)), (.ivar .i64 3), (.lit (.int .i64 0)), (.lit (.int .i64 0)), (.ivar .i32 16)] 17 [(.ri .u32), .rb], .setI0 16 (.conv .i32 (.var 15)), .setI0 15 (.bin .and .u32 (.var 0) (.lit 4294963200)), .decB 14 true, .setB0 14 (.cmp .eql (.var 10) (.lit 85)), .call 69 [(.lit (.int .i64 1))] 10 [(.ri .u8), (.ri .u32), (.ri .u32), (.ri .u32)], .setI0 9 (.conv .i64 (.var 8)), .setI0 8 (.bin .and .u32 (.var 7) (.lit 31)), .setI0 7 (.bin .shr .u32 (.var 0) (.lit 20)), .setI0 6 (.conv .i64 (.var 5)), .setI0 5 (.bin .and .u32 (.var 4) (.lit 31)), .setI0 4 (.bin .shr .u32 (.var 0) (.lit 15)), .setI0 3 (.conv .i64 (.var 2)), .setI0 2 (.bin .and .u32 (.var 1) (.lit 31)), .setI0 1 (.bin .shr .u32 (.var 0) (.lit 7))] :=
 (LT.ok_nb (LT.ok_leaf (by kernel_rfl))
 (LT.ok_sure (LT.ok_sure (LT.ok_nb (LT.ok_leaf (by kernel_rfl))
 (LT.ok_sure (LT.ok_sure (LT.ok_sure (LT.ok_nb (LT.ok_leaf (by kernel_rfl))
 (LT.ok_sure (LT.ok_sure (LT.ok_sure (LT.ok_sure (LT.ok_nb (LT.ok_leaf (by kernel_rfl))
 (LT.ok_sure (LT.ok_sure (LT.ok_sure (LT.ok_sure (LT.ok_sure (LT.ok_sure (LT.ok_nb (LT.ok_leaf (by kernel_rfl))
 (LT.ok_sure (LT.ok_sure (LT.ok_sure (LT.ok_sure (LT.ok_sure (LT.ok_sure (LT.ok_nb (LT.ok_leaf (by kernel_rfl))
 (LT.ok_sure (LT.ok_sure (LT.ok_sure (LT.ok_sure (LT.ok_sure (LT.ok_sure rfDecT6_ok)))))))))))))))))))))))))))))))))
noncomputable def rfDecT : LT :=
 (.sure [.setI0 1 (.bin .shr .u32 (.var 0) (.lit 7)), .setI0 2 (.bin .and .u32 (.var 1) (.lit 31)), .setI0 3 (.conv .i64 (.var 2)), .setI0 4 (.bin .shr .u32 (.var 0) (.lit 15)), .setI0 5 (.bin .and .u32 (.var 4) (.lit 31)), .setI0 6 (.conv .i64 (.var 5)), .setI0 7 (.bin .shr .u32 (.var 0) (.lit 20)), .setI0 8 (.bin .and .u32 (.var 7) (.lit 31)), .setI0 9 (.conv .i64 (.var 8)), .call 69 [(.lit (.int .i64 1))] 10 [(.ri .u8), (.ri .u32), (.ri .u32), (.ri .u32)], .setB0 14 (.cmp .eql (.var 10) (.lit 85))] 14 true
 (.sure [.setI0 15 (.bin .and .u32 (.var 0) (.lit 4294963200)), .setI0 16 (.conv .i32 (.var 15)), .call 72 [(.lit (.int .i64 1)), (.ivar .i64 3), (.lit (.int .i64 0)), (.lit (.int .i64 0)), (.ivar .i32 16)] 17 [(.ri .u32), .rb]] 18 true
 rfDecT7))
theorem rfDecT_ok : LT.Ok rfDecR rfDecT [] [] :=
 (LT.ok_sure (LT.ok_sure rfDecT7_ok))
theorem rfDec_ok : SumT Try.prog phi 43 rfDecS := treeSum (t := rfDecT) (lf := 1000) (d := 50) rfDecC_ok (fun xs w => Try.call43 xs w)
 rfDecT_ok
 (by kernel_rfl)
 (by
  intro a0 h0
  exact ⟨obl_list (m := [((icmp .eql (rfOf_0 1) 85) = true),
    ((rfEnc_1 1 (IntKind.wrap .i64 (ibin .and .u32 (ibin .shr .u32 a0 7) 31)) 0 0 (IntKind.wrap .i32 (ibin .and .u32 a0 4294963200))) = true),
    ((icmp .eql (rfOf_0 2) 85) = true),
    ((rfEnc_1 2 (IntKind.wrap .i64 (ibin .and .u32 (ibin .shr .u32 a0 7) 31)) 0 0 (IntKind.wrap .i32 (ibin .and .u32 a0 4294963200))) = true),
    ((icmp .eql (rfOf_0 3) 85) = false),
    ((icmp .eql (rfOf_0 3) 74) = true),
    ((rfEnc_1 3 (IntKind.wrap .i64 (ibin .and .u32 (ibin .shr .u32 a0 7) 31)) 0 0 (rfSigned (ibin .or .u32 (ibin .or .u32 (ibin .or .u32 (ibin .shl .u32 (rfField a0 12 8) 12) (ibin .shl .u32 (rfField a0 20 1) 11)) (ibin .shl .u32 (rfField a0 21 10) 1)) (ibin .shl .u32 (rfField a0 31 1) 20)) 21)) = true),
    ((icmp .eql (rfOf_0 4) 85) = false),
    ((icmp .eql (rfOf_0 4) 74) = false),
    ((icmp .eql (rfOf_0 4) 73) = true),
    ((rfEnc_1 4 (IntKind.wrap .i64 (ibin .and .u32 (ibin .shr .u32 a0 7) 31)) (IntKind.wrap .i64 (ibin .and .u32 (ibin .shr .u32 a0 15) 31)) 0 (ibin .shr .i32 (IntKind.wrap .i32 a0) 20)) = true),
    ((icmp .eql (rfOf_0 5) 85) = false),
    ((icmp .eql (rfOf_0 5) 74) = false),
    ((icmp .eql (rfOf_0 5) 73) = false),
    ((icmp .eql (rfOf_0 5) 72) = false),
    ((icmp .eql (rfOf_0 5) 66) = true),
    ((rfEnc_1 5 0 (IntKind.wrap .i64 (ibin .and .u32 (ibin .shr .u32 a0 15) 31)) (IntKind.wrap .i64 (ibin .and .u32 (ibin .shr .u32 a0 20) 31)) (rfSigned (ibin .or .u32 (ibin .or .u32 (ibin .or .u32 (ibin .shl .u32 (rfField a0 7 1) 11) (ibin .shl .u32 (rfField a0 8 4) 1)) (ibin .shl .u32 (rfField a0 25 6) 5)) (ibin .shl .u32 (rfField a0 31 1) 12)) 13)) = true),
    ((icmp .eql (rfOf_0 6) 85) = false),
    ((icmp .eql (rfOf_0 6) 74) = false),
    ((icmp .eql (rfOf_0 6) 73) = false),
    ((icmp .eql (rfOf_0 6) 72) = false),
    ((icmp .eql (rfOf_0 6) 66) = true),
    ((rfEnc_1 6 0 (IntKind.wrap .i64 (ibin .and .u32 (ibin .shr .u32 a0 15) 31)) (IntKind.wrap .i64 (ibin .and .u32 (ibin .shr .u32 a0 20) 31)) (rfSigned (ibin .or .u32 (ibin .or .u32 (ibin .or .u32 (ibin .shl .u32 (rfField a0 7 1) 11) (ibin .shl .u32 (rfField a0 8 4) 1)) (ibin .shl .u32 (rfField a0 25 6) 5)) (ibin .shl .u32 (rfField a0 31 1) 12)) 13)) = true),
    ((icmp .eql (rfOf_0 7) 85) = false),
    ((icmp .eql (rfOf_0 7) 74) = false),
    ((icmp .eql (rfOf_0 7) 73) = false),
    ((icmp .eql (rfOf_0 7) 72) = false),
    ((icmp .eql (rfOf_0 7) 66) = true),
    ((rfEnc_1 7 0 (IntKind.wrap .i64 (ibin .and .u32 (ibin .shr .u32 a0 15) 31)) (IntKind.wrap .i64 (ibin .and .u32 (ibin .shr .u32 a0 20) 31)) (rfSigned (ibin .or .u32 (ibin .or .u32 (ibin .or .u32 (ibin .shl .u32 (rfField a0 7 1) 11) (ibin .shl .u32 (rfField a0 8 4) 1)) (ibin .shl .u32 (rfField a0 25 6) 5)) (ibin .shl .u32 (rfField a0 31 1) 12)) 13)) = true),
    ((icmp .eql (rfOf_0 8) 85) = false),
    ((icmp .eql (rfOf_0 8) 74) = false),
    ((icmp .eql (rfOf_0 8) 73) = false),
    ((icmp .eql (rfOf_0 8) 72) = false),
    ((icmp .eql (rfOf_0 8) 66) = true),
    ((rfEnc_1 8 0 (IntKind.wrap .i64 (ibin .and .u32 (ibin .shr .u32 a0 15) 31)) (IntKind.wrap .i64 (ibin .and .u32 (ibin .shr .u32 a0 20) 31)) (rfSigned (ibin .or .u32 (ibin .or .u32 (ibin .or .u32 (ibin .shl .u32 (rfField a0 7 1) 11) (ibin .shl .u32 (rfField a0 8 4) 1)) (ibin .shl .u32 (rfField a0 25 6) 5)) (ibin .shl .u32 (rfField a0 31 1) 12)) 13)) = true),
    ((icmp .eql (rfOf_0 9) 85) = false),
    ((icmp .eql (rfOf_0 9) 74) = false),
    ((icmp .eql (rfOf_0 9) 73) = false),
    ((icmp .eql (rfOf_0 9) 72) = false),
    ((icmp .eql (rfOf_0 9) 66) = true),
    ((rfEnc_1 9 0 (IntKind.wrap .i64 (ibin .and .u32 (ibin .shr .u32 a0 15) 31)) (IntKind.wrap .i64 (ibin .and .u32 (ibin .shr .u32 a0 20) 31)) (rfSigned (ibin .or .u32 (ibin .or .u32 (ibin .or .u32 (ibin .shl .u32 (rfField a0 7 1) 11) (ibin .shl .u32 (rfField a0 8 4) 1)) (ibin .shl .u32 (rfField a0 25 6) 5)) (ibin .shl .u32 (rfField a0 31 1) 12)) 13)) = true),
    ((icmp .eql (rfOf_0 10) 85) = false),
    ((icmp .eql (rfOf_0 10) 74) = false),
    ((icmp .eql (rfOf_0 10) 73) = false),
    ((icmp .eql (rfOf_0 10) 72) = false),
    ((icmp .eql (rfOf_0 10) 66) = true),
    ((rfEnc_1 10 0 (IntKind.wrap .i64 (ibin .and .u32 (ibin .shr .u32 a0 15) 31)) (IntKind.wrap .i64 (ibin .and .u32 (ibin .shr .u32 a0 20) 31)) (rfSigned (ibin .or .u32 (ibin .or .u32 (ibin .or .u32 (ibin .shl .u32 (rfField a0 7 1) 11) (ibin .shl .u32 (rfField a0 8 4) 1)) (ibin .shl .u32 (rfField a0 25 6) 5)) (ibin .shl .u32 (rfField a0 31 1) 12)) 13)) = true),
    ((icmp .eql (rfOf_0 11) 85) = false),
    ((icmp .eql (rfOf_0 11) 74) = false),
    ((icmp .eql (rfOf_0 11) 73) = true),
    ((rfEnc_1 11 (IntKind.wrap .i64 (ibin .and .u32 (ibin .shr .u32 a0 7) 31)) (IntKind.wrap .i64 (ibin .and .u32 (ibin .shr .u32 a0 15) 31)) 0 (ibin .shr .i32 (IntKind.wrap .i32 a0) 20)) = true),
    ((icmp .eql (rfOf_0 12) 85) = false),
    ((icmp .eql (rfOf_0 12) 74) = false),
    ((icmp .eql (rfOf_0 12) 73) = true),
    ((rfEnc_1 12 (IntKind.wrap .i64 (ibin .and .u32 (ibin .shr .u32 a0 7) 31)) (IntKind.wrap .i64 (ibin .and .u32 (ibin .shr .u32 a0 15) 31)) 0 (ibin .shr .i32 (IntKind.wrap .i32 a0) 20)) = true),
    ((icmp .eql (rfOf_0 13) 85) = false),
    ((icmp .eql (rfOf_0 13) 74) = false),
    ((icmp .eql (rfOf_0 13) 73) = true),
    ((rfEnc_1 13 (IntKind.wrap .i64 (ibin .and .u32 (ibin .shr .u32 a0 7) 31)) (IntKind.wrap .i64 (ibin .and .u32 (ibin .shr .u32 a0 15) 31)) 0 (ibin .shr .i32 (IntKind.wrap .i32 a0) 20)) = true),
    ((icmp .eql (rfOf_0 14) 85) = false),
    ((icmp .eql (rfOf_0 14) 74) = false),
    ((icmp .eql (rfOf_0 14) 73) = true),
    ((rfEnc_1 14 (IntKind.wrap .i64 (ibin .and .u32 (ibin .shr .u32 a0 7) 31)) (IntKind.wrap .i64 (ibin .and .u32 (ibin .shr .u32 a0 15) 31)) 0 (ibin .shr .i32 (IntKind.wrap .i32 a0) 20)) = true),
    ((icmp .eql (rfOf_0 15) 85) = false),
    ((icmp .eql (rfOf_0 15) 74) = false),
    ((icmp .eql (rfOf_0 15) 73) = true),
    ((rfEnc_1 15 (IntKind.wrap .i64 (ibin .and .u32 (ibin .shr .u32 a0 7) 31)) (IntKind.wrap .i64 (ibin .and .u32 (ibin .shr .u32 a0 15) 31)) 0 (ibin .shr .i32 (IntKind.wrap .i32 a0) 20)) = true),
    ((icmp .eql (rfOf_0 16) 85) = false),
    ((icmp .eql (rfOf_0 16) 74) = false),
    ((icmp .eql (rfOf_0 16) 73) = false),
    ((icmp .eql (rfOf_0 16) 72) = false),
    ((icmp .eql (rfOf_0 16) 66) = false),
    ((icmp .eql (rfOf_0 16) 83) = true),
    ((rfEnc_1 16 0 (IntKind.wrap .i64 (ibin .and .u32 (ibin .shr .u32 a0 15) 31)) (IntKind.wrap .i64 (ibin .and .u32 (ibin .shr .u32 a0 20) 31)) (rfSigned (ibin .or .u32 (ibin .shl .u32 (rfField a0 7 5) 0) (ibin .shl .u32 (rfField a0 25 7) 5)) 12)) = true),
    ((icmp .eql (rfOf_0 17) 85) = false),
    ((icmp .eql (rfOf_0 17) 74) = false),
    ((icmp .eql (rfOf_0 17) 73) = false),
    ((icmp .eql (rfOf_0 17) 72) = false),
    ((icmp .eql (rfOf_0 17) 66) = false),
    ((icmp .eql (rfOf_0 17) 83) = true),
    ((rfEnc_1 17 0 (IntKind.wrap .i64 (ibin .and .u32 (ibin .shr .u32 a0 15) 31)) (IntKind.wrap .i64 (ibin .and .u32 (ibin .shr .u32 a0 20) 31)) (rfSigned (ibin .or .u32 (ibin .shl .u32 (rfField a0 7 5) 0) (ibin .shl .u32 (rfField a0 25 7) 5)) 12)) = true),
    ((icmp .eql (rfOf_0 18) 85) = false),
    ((icmp .eql (rfOf_0 18) 74) = false),
    ((icmp .eql (rfOf_0 18) 73) = false),
    ((icmp .eql (rfOf_0 18) 72) = false),
    ((icmp .eql (rfOf_0 18) 66) = false),
    ((icmp .eql (rfOf_0 18) 83) = true),
    ((rfEnc_1 18 0 (IntKind.wrap .i64 (ibin .and .u32 (ibin .shr .u32 a0 15) 31)) (IntKind.wrap .i64 (ibin .and .u32 (ibin .shr .u32 a0 20) 31)) (rfSigned (ibin .or .u32 (ibin .shl .u32 (rfField a0 7 5) 0) (ibin .shl .u32 (rfField a0 25 7) 5)) 12)) = true),
    ((icmp .eql (rfOf_0 19) 85) = false),
    ((icmp .eql (rfOf_0 19) 74) = false),
    ((icmp .eql (rfOf_0 19) 73) = true),
    ((rfEnc_1 19 (IntKind.wrap .i64 (ibin .and .u32 (ibin .shr .u32 a0 7) 31)) (IntKind.wrap .i64 (ibin .and .u32 (ibin .shr .u32 a0 15) 31)) 0 (ibin .shr .i32 (IntKind.wrap .i32 a0) 20)) = true),
    ((icmp .eql (rfOf_0 20) 85) = false),
    ((icmp .eql (rfOf_0 20) 74) = false),
    ((icmp .eql (rfOf_0 20) 73) = true),
    ((rfEnc_1 20 (IntKind.wrap .i64 (ibin .and .u32 (ibin .shr .u32 a0 7) 31)) (IntKind.wrap .i64 (ibin .and .u32 (ibin .shr .u32 a0 15) 31)) 0 (ibin .shr .i32 (IntKind.wrap .i32 a0) 20)) = true),
    ((icmp .eql (rfOf_0 21) 85) = false),
    ((icmp .eql (rfOf_0 21) 74) = false),
    ((icmp .eql (rfOf_0 21) 73) = true),
    ((rfEnc_1 21 (IntKind.wrap .i64 (ibin .and .u32 (ibin .shr .u32 a0 7) 31)) (IntKind.wrap .i64 (ibin .and .u32 (ibin .shr .u32 a0 15) 31)) 0 (ibin .shr .i32 (IntKind.wrap .i32 a0) 20)) = true),
    ((icmp .eql (rfOf_0 22) 85) = false),
    ((icmp .eql (rfOf_0 22) 74) = false),
    ((icmp .eql (rfOf_0 22) 73) = true),
    ((rfEnc_1 22 (IntKind.wrap .i64 (ibin .and .u32 (ibin .shr .u32 a0 7) 31)) (IntKind.wrap .i64 (ibin .and .u32 (ibin .shr .u32 a0 15) 31)) 0 (ibin .shr .i32 (IntKind.wrap .i32 a0) 20)) = true),
    ((icmp .eql (rfOf_0 23) 85) = false),
    ((icmp .eql (rfOf_0 23) 74) = false),
    ((icmp .eql (rfOf_0 23) 73) = true),
    ((rfEnc_1 23 (IntKind.wrap .i64 (ibin .and .u32 (ibin .shr .u32 a0 7) 31)) (IntKind.wrap .i64 (ibin .and .u32 (ibin .shr .u32 a0 15) 31)) 0 (ibin .shr .i32 (IntKind.wrap .i32 a0) 20)) = true),
    ((icmp .eql (rfOf_0 24) 85) = false),
    ((icmp .eql (rfOf_0 24) 74) = false),
    ((icmp .eql (rfOf_0 24) 73) = true),
    ((rfEnc_1 24 (IntKind.wrap .i64 (ibin .and .u32 (ibin .shr .u32 a0 7) 31)) (IntKind.wrap .i64 (ibin .and .u32 (ibin .shr .u32 a0 15) 31)) 0 (ibin .shr .i32 (IntKind.wrap .i32 a0) 20)) = true),
    ((icmp .eql (rfOf_0 25) 85) = false),
    ((icmp .eql (rfOf_0 25) 74) = false),
    ((icmp .eql (rfOf_0 25) 73) = false),
    ((icmp .eql (rfOf_0 25) 72) = true),
    ((rfEnc_1 25 (IntKind.wrap .i64 (ibin .and .u32 (ibin .shr .u32 a0 7) 31)) (IntKind.wrap .i64 (ibin .and .u32 (ibin .shr .u32 a0 15) 31)) 0 (IntKind.wrap .i32 (IntKind.wrap .i64 (ibin .and .u32 (ibin .shr .u32 a0 20) 31)))) = true),
    ((icmp .eql (rfOf_0 26) 85) = false),
    ((icmp .eql (rfOf_0 26) 74) = false),
    ((icmp .eql (rfOf_0 26) 73) = false),
    ((icmp .eql (rfOf_0 26) 72) = true),
    ((rfEnc_1 26 (IntKind.wrap .i64 (ibin .and .u32 (ibin .shr .u32 a0 7) 31)) (IntKind.wrap .i64 (ibin .and .u32 (ibin .shr .u32 a0 15) 31)) 0 (IntKind.wrap .i32 (IntKind.wrap .i64 (ibin .and .u32 (ibin .shr .u32 a0 20) 31)))) = true),
    ((icmp .eql (rfOf_0 27) 85) = false),
    ((icmp .eql (rfOf_0 27) 74) = false),
    ((icmp .eql (rfOf_0 27) 73) = false),
    ((icmp .eql (rfOf_0 27) 72) = true),
    ((rfEnc_1 27 (IntKind.wrap .i64 (ibin .and .u32 (ibin .shr .u32 a0 7) 31)) (IntKind.wrap .i64 (ibin .and .u32 (ibin .shr .u32 a0 15) 31)) 0 (IntKind.wrap .i32 (IntKind.wrap .i64 (ibin .and .u32 (ibin .shr .u32 a0 20) 31)))) = true),
    ((icmp .eql (rfOf_0 28) 85) = false),
    ((icmp .eql (rfOf_0 28) 74) = false),
    ((icmp .eql (rfOf_0 28) 73) = false),
    ((icmp .eql (rfOf_0 28) 72) = false),
    ((icmp .eql (rfOf_0 28) 66) = false),
    ((icmp .eql (rfOf_0 28) 83) = false),
    ((icmp .eql (rfOf_0 28) 82) = true),
    ((rfEnc_1 28 (IntKind.wrap .i64 (ibin .and .u32 (ibin .shr .u32 a0 7) 31)) (IntKind.wrap .i64 (ibin .and .u32 (ibin .shr .u32 a0 15) 31)) (IntKind.wrap .i64 (ibin .and .u32 (ibin .shr .u32 a0 20) 31)) 0) = true),
    ((icmp .eql (rfOf_0 29) 85) = false),
    ((icmp .eql (rfOf_0 29) 74) = false),
    ((icmp .eql (rfOf_0 29) 73) = false),
    ((icmp .eql (rfOf_0 29) 72) = false),
    ((icmp .eql (rfOf_0 29) 66) = false),
    ((icmp .eql (rfOf_0 29) 83) = false),
    ((icmp .eql (rfOf_0 29) 82) = true),
    ((rfEnc_1 29 (IntKind.wrap .i64 (ibin .and .u32 (ibin .shr .u32 a0 7) 31)) (IntKind.wrap .i64 (ibin .and .u32 (ibin .shr .u32 a0 15) 31)) (IntKind.wrap .i64 (ibin .and .u32 (ibin .shr .u32 a0 20) 31)) 0) = true),
    ((icmp .eql (rfOf_0 30) 85) = false),
    ((icmp .eql (rfOf_0 30) 74) = false),
    ((icmp .eql (rfOf_0 30) 73) = false),
    ((icmp .eql (rfOf_0 30) 72) = false),
    ((icmp .eql (rfOf_0 30) 66) = false),
    ((icmp .eql (rfOf_0 30) 83) = false),
    ((icmp .eql (rfOf_0 30) 82) = true),
    ((rfEnc_1 30 (IntKind.wrap .i64 (ibin .and .u32 (ibin .shr .u32 a0 7) 31)) (IntKind.wrap .i64 (ibin .and .u32 (ibin .shr .u32 a0 15) 31)) (IntKind.wrap .i64 (ibin .and .u32 (ibin .shr .u32 a0 20) 31)) 0) = true),
    ((icmp .eql (rfOf_0 31) 85) = false),
    ((icmp .eql (rfOf_0 31) 74) = false),
    ((icmp .eql (rfOf_0 31) 73) = false),
    ((icmp .eql (rfOf_0 31) 72) = false),
    ((icmp .eql (rfOf_0 31) 66) = false),
    ((icmp .eql (rfOf_0 31) 83) = false),
    ((icmp .eql (rfOf_0 31) 82) = true),
    ((rfEnc_1 31 (IntKind.wrap .i64 (ibin .and .u32 (ibin .shr .u32 a0 7) 31)) (IntKind.wrap .i64 (ibin .and .u32 (ibin .shr .u32 a0 15) 31)) (IntKind.wrap .i64 (ibin .and .u32 (ibin .shr .u32 a0 20) 31)) 0) = true),
    ((icmp .eql (rfOf_0 32) 85) = false),
    ((icmp .eql (rfOf_0 32) 74) = false),
    ((icmp .eql (rfOf_0 32) 73) = false),
    ((icmp .eql (rfOf_0 32) 72) = false),
    ((icmp .eql (rfOf_0 32) 66) = false),
    ((icmp .eql (rfOf_0 32) 83) = false),
    ((icmp .eql (rfOf_0 32) 82) = true),
    ((rfEnc_1 32 (IntKind.wrap .i64 (ibin .and .u32 (ibin .shr .u32 a0 7) 31)) (IntKind.wrap .i64 (ibin .and .u32 (ibin .shr .u32 a0 15) 31)) (IntKind.wrap .i64 (ibin .and .u32 (ibin .shr .u32 a0 20) 31)) 0) = true),
    ((icmp .eql (rfOf_0 33) 85) = false),
    ((icmp .eql (rfOf_0 33) 74) = false),
    ((icmp .eql (rfOf_0 33) 73) = false),
    ((icmp .eql (rfOf_0 33) 72) = false),
    ((icmp .eql (rfOf_0 33) 66) = false),
    ((icmp .eql (rfOf_0 33) 83) = false),
    ((icmp .eql (rfOf_0 33) 82) = true),
    ((rfEnc_1 33 (IntKind.wrap .i64 (ibin .and .u32 (ibin .shr .u32 a0 7) 31)) (IntKind.wrap .i64 (ibin .and .u32 (ibin .shr .u32 a0 15) 31)) (IntKind.wrap .i64 (ibin .and .u32 (ibin .shr .u32 a0 20) 31)) 0) = true),
    ((icmp .eql (rfOf_0 34) 85) = false),
    ((icmp .eql (rfOf_0 34) 74) = false),
    ((icmp .eql (rfOf_0 34) 73) = false),
    ((icmp .eql (rfOf_0 34) 72) = false),
    ((icmp .eql (rfOf_0 34) 66) = false),
    ((icmp .eql (rfOf_0 34) 83) = false),
    ((icmp .eql (rfOf_0 34) 82) = true),
    ((rfEnc_1 34 (IntKind.wrap .i64 (ibin .and .u32 (ibin .shr .u32 a0 7) 31)) (IntKind.wrap .i64 (ibin .and .u32 (ibin .shr .u32 a0 15) 31)) (IntKind.wrap .i64 (ibin .and .u32 (ibin .shr .u32 a0 20) 31)) 0) = true),
    ((icmp .eql (rfOf_0 35) 85) = false),
    ((icmp .eql (rfOf_0 35) 74) = false),
    ((icmp .eql (rfOf_0 35) 73) = false),
    ((icmp .eql (rfOf_0 35) 72) = false),
    ((icmp .eql (rfOf_0 35) 66) = false),
    ((icmp .eql (rfOf_0 35) 83) = false),
    ((icmp .eql (rfOf_0 35) 82) = true),
    ((rfEnc_1 35 (IntKind.wrap .i64 (ibin .and .u32 (ibin .shr .u32 a0 7) 31)) (IntKind.wrap .i64 (ibin .and .u32 (ibin .shr .u32 a0 15) 31)) (IntKind.wrap .i64 (ibin .and .u32 (ibin .shr .u32 a0 20) 31)) 0) = true),
    ((icmp .eql (rfOf_0 36) 85) = false),
    ((icmp .eql (rfOf_0 36) 74) = false),
    ((icmp .eql (rfOf_0 36) 73) = false),
    ((icmp .eql (rfOf_0 36) 72) = false),
    ((icmp .eql (rfOf_0 36) 66) = false),
    ((icmp .eql (rfOf_0 36) 83) = false),
    ((icmp .eql (rfOf_0 36) 82) = true),
    ((rfEnc_1 36 (IntKind.wrap .i64 (ibin .and .u32 (ibin .shr .u32 a0 7) 31)) (IntKind.wrap .i64 (ibin .and .u32 (ibin .shr .u32 a0 15) 31)) (IntKind.wrap .i64 (ibin .and .u32 (ibin .shr .u32 a0 20) 31)) 0) = true),
    ((icmp .eql (rfOf_0 37) 85) = false),
    ((icmp .eql (rfOf_0 37) 74) = false),
    ((icmp .eql (rfOf_0 37) 73) = false),
    ((icmp .eql (rfOf_0 37) 72) = false),
    ((icmp .eql (rfOf_0 37) 66) = false),
    ((icmp .eql (rfOf_0 37) 83) = false),
    ((icmp .eql (rfOf_0 37) 82) = true),
    ((rfEnc_1 37 (IntKind.wrap .i64 (ibin .and .u32 (ibin .shr .u32 a0 7) 31)) (IntKind.wrap .i64 (ibin .and .u32 (ibin .shr .u32 a0 15) 31)) (IntKind.wrap .i64 (ibin .and .u32 (ibin .shr .u32 a0 20) 31)) 0) = true),
    ((icmp .eql (rfOf_0 38) 85) = false),
    ((icmp .eql (rfOf_0 38) 74) = false),
    ((icmp .eql (rfOf_0 38) 73) = false),
    ((icmp .eql (rfOf_0 38) 72) = false),
    ((icmp .eql (rfOf_0 38) 66) = false),
    ((icmp .eql (rfOf_0 38) 83) = false),
    ((icmp .eql (rfOf_0 38) 82) = true),
    ((rfEnc_1 38 (IntKind.wrap .i64 (ibin .and .u32 (ibin .shr .u32 a0 7) 31)) (IntKind.wrap .i64 (ibin .and .u32 (ibin .shr .u32 a0 15) 31)) (IntKind.wrap .i64 (ibin .and .u32 (ibin .shr .u32 a0 20) 31)) 0) = true),
    ((icmp .eql (rfOf_0 39) 85) = false),
    ((icmp .eql (rfOf_0 39) 74) = false),
    ((icmp .eql (rfOf_0 39) 73) = false),
    ((icmp .eql (rfOf_0 39) 72) = false),
    ((icmp .eql (rfOf_0 39) 66) = false),
    ((icmp .eql (rfOf_0 39) 83) = false),
    ((icmp .eql (rfOf_0 39) 82) = true),
    ((rfEnc_1 39 (IntKind.wrap .i64 (ibin .and .u32 (ibin .shr .u32 a0 7) 31)) (IntKind.wrap .i64 (ibin .and .u32 (ibin .shr .u32 a0 15) 31)) (IntKind.wrap .i64 (ibin .and .u32 (ibin .shr .u32 a0 20) 31)) 0) = true),
    ((icmp .eql (rfOf_0 40) 85) = false),
    ((icmp .eql (rfOf_0 40) 74) = false),
    ((icmp .eql (rfOf_0 40) 73) = false),
    ((icmp .eql (rfOf_0 40) 72) = false),
    ((icmp .eql (rfOf_0 40) 66) = false),
    ((icmp .eql (rfOf_0 40) 83) = false),
    ((icmp .eql (rfOf_0 40) 82) = true),
    ((rfEnc_1 40 (IntKind.wrap .i64 (ibin .and .u32 (ibin .shr .u32 a0 7) 31)) (IntKind.wrap .i64 (ibin .and .u32 (ibin .shr .u32 a0 15) 31)) (IntKind.wrap .i64 (ibin .and .u32 (ibin .shr .u32 a0 20) 31)) 0) = true),
    ((icmp .eql (rfOf_0 41) 85) = false),
    ((icmp .eql (rfOf_0 41) 74) = false),
    ((icmp .eql (rfOf_0 41) 73) = false),
    ((icmp .eql (rfOf_0 41) 72) = false),
    ((icmp .eql (rfOf_0 41) 66) = false),
    ((icmp .eql (rfOf_0 41) 83) = false),
    ((icmp .eql (rfOf_0 41) 82) = true),
    ((rfEnc_1 41 (IntKind.wrap .i64 (ibin .and .u32 (ibin .shr .u32 a0 7) 31)) (IntKind.wrap .i64 (ibin .and .u32 (ibin .shr .u32 a0 15) 31)) (IntKind.wrap .i64 (ibin .and .u32 (ibin .shr .u32 a0 20) 31)) 0) = true),
    ((icmp .eql (rfOf_0 42) 85) = false),
    ((icmp .eql (rfOf_0 42) 74) = false),
    ((icmp .eql (rfOf_0 42) 73) = false),
    ((icmp .eql (rfOf_0 42) 72) = false),
    ((icmp .eql (rfOf_0 42) 66) = false),
    ((icmp .eql (rfOf_0 42) 83) = false),
    ((icmp .eql (rfOf_0 42) 82) = true),
    ((rfEnc_1 42 (IntKind.wrap .i64 (ibin .and .u32 (ibin .shr .u32 a0 7) 31)) (IntKind.wrap .i64 (ibin .and .u32 (ibin .shr .u32 a0 15) 31)) (IntKind.wrap .i64 (ibin .and .u32 (ibin .shr .u32 a0 20) 31)) 0) = true),
    ((icmp .eql (rfOf_0 43) 85) = false),
    ((icmp .eql (rfOf_0 43) 74) = false),
    ((icmp .eql (rfOf_0 43) 73) = false),
    ((icmp .eql (rfOf_0 43) 72) = false),
    ((icmp .eql (rfOf_0 43) 66) = false),
    ((icmp .eql (rfOf_0 43) 83) = false),
    ((icmp .eql (rfOf_0 43) 82) = true),
    ((rfEnc_1 43 (IntKind.wrap .i64 (ibin .and .u32 (ibin .shr .u32 a0 7) 31)) (IntKind.wrap .i64 (ibin .and .u32 (ibin .shr .u32 a0 15) 31)) (IntKind.wrap .i64 (ibin .and .u32 (ibin .shr .u32 a0 20) 31)) 0) = true),
    ((icmp .eql (rfOf_0 44) 85) = false),
    ((icmp .eql (rfOf_0 44) 74) = false),
    ((icmp .eql (rfOf_0 44) 73) = false),
    ((icmp .eql (rfOf_0 44) 72) = false),
    ((icmp .eql (rfOf_0 44) 66) = false),
    ((icmp .eql (rfOf_0 44) 83) = false),
    ((icmp .eql (rfOf_0 44) 82) = true),
    ((rfEnc_1 44 (IntKind.wrap .i64 (ibin .and .u32 (ibin .shr .u32 a0 7) 31)) (IntKind.wrap .i64 (ibin .and .u32 (ibin .shr .u32 a0 15) 31)) (IntKind.wrap .i64 (ibin .and .u32 (ibin .shr .u32 a0 20) 31)) 0) = true),
    ((icmp .eql (rfOf_0 45) 85) = false),
    ((icmp .eql (rfOf_0 45) 74) = false),
    ((icmp .eql (rfOf_0 45) 73) = false),
    ((icmp .eql (rfOf_0 45) 72) = false),
    ((icmp .eql (rfOf_0 45) 66) = false),
    ((icmp .eql (rfOf_0 45) 83) = false),
    ((icmp .eql (rfOf_0 45) 82) = true),
    ((rfEnc_1 45 (IntKind.wrap .i64 (ibin .and .u32 (ibin .shr .u32 a0 7) 31)) (IntKind.wrap .i64 (ibin .and .u32 (ibin .shr .u32 a0 15) 31)) (IntKind.wrap .i64 (ibin .and .u32 (ibin .shr .u32 a0 20) 31)) 0) = true),
    ((icmp .eql (rfOf_0 46) 85) = false),
    ((icmp .eql (rfOf_0 46) 74) = false),
    ((icmp .eql (rfOf_0 46) 73) = false),
    ((icmp .eql (rfOf_0 46) 72) = false),
    ((icmp .eql (rfOf_0 46) 66) = false),
    ((icmp .eql (rfOf_0 46) 83) = false),
    ((icmp .eql (rfOf_0 46) 82) = false),
    ((rfEnc_1 46 0 0 0 0) = true),
    ((icmp .eql (rfOf_0 47) 85) = false),
    ((icmp .eql (rfOf_0 47) 74) = false),
    ((icmp .eql (rfOf_0 47) 73) = false),
    ((icmp .eql (rfOf_0 47) 72) = false),
    ((icmp .eql (rfOf_0 47) 66) = false),
    ((icmp .eql (rfOf_0 47) 83) = false),
    ((icmp .eql (rfOf_0 47) 82) = false),
    ((rfEnc_1 47 0 0 0 0) = true)]) (by kernel_rfl) (by exact And.intro (by kernel_rfl) (And.intro (Eq.trans (by kernel_rfl) (tried h0 1 (by decide) (by decide))) (And.intro (by kernel_rfl) (And.intro (Eq.trans (by kernel_rfl) (tried h0 2 (by decide) (by decide))) (And.intro (by kernel_rfl) (And.intro (by kernel_rfl) (And.intro (Eq.trans (by kernel_rfl) (tried h0 3 (by decide) (by decide))) (And.intro (by kernel_rfl) (And.intro (by kernel_rfl) (And.intro (by kernel_rfl) (And.intro (Eq.trans (by kernel_rfl) (tried h0 4 (by decide) (by decide))) (And.intro (by kernel_rfl) (And.intro (by kernel_rfl) (And.intro (by kernel_rfl) (And.intro (by kernel_rfl) (And.intro (by kernel_rfl) (And.intro (Eq.trans (by kernel_rfl) (tried h0 5 (by decide) (by decide))) (And.intro (by kernel_rfl) (And.intro (by kernel_rfl) (And.intro (by kernel_rfl) (And.intro (by kernel_rfl) (And.intro (by kernel_rfl) (And.intro (Eq.trans (by kernel_rfl) (tried h0 6 (by decide) (by decide))) (And.intro (by kernel_rfl) (And.intro (by kernel_rfl) (And.intro (by kernel_rfl) (And.intro (by kernel_rfl) (And.intro (by kernel_rfl) (And.intro (Eq.trans (by kernel_rfl) (tried h0 7 (by decide) (by decide))) (And.intro (by kernel_rfl) (And.intro (by kernel_rfl) (And.intro (by kernel_rfl) (And.intro (by kernel_rfl) (And.intro (by kernel_rfl) (And.intro (Eq.trans (by kernel_rfl) (tried h0 8 (by decide) (by decide))) (And.intro (by kernel_rfl) (And.intro (by kernel_rfl) (And.intro (by kernel_rfl) (And.intro (by kernel_rfl) (And.intro (by kernel_rfl) (And.intro (Eq.trans (by kernel_rfl) (tried h0 9 (by decide) (by decide))) (And.intro (by kernel_rfl) (And.intro (by kernel_rfl) (And.intro (by kernel_rfl) (And.intro (by kernel_rfl) (And.intro (by kernel_rfl) (And.intro (Eq.trans (by kernel_rfl) (tried h0 10 (by decide) (by decide))) (And.intro (by kernel_rfl) (And.intro (by kernel_rfl) (And.intro (by kernel_rfl) (And.intro (Eq.trans (by kernel_rfl) (tried h0 11 (by decide) (by decide))) (And.intro (by kernel_rfl) (And.intro (by kernel_rfl) (And.intro (by kernel_rfl) (And.intro (Eq.trans (by kernel_rfl) (tried h0 12 (by decide) (by decide))) (And.intro (by kernel_rfl) (And.intro (by kernel_rfl) (And.intro (by kernel_rfl) (And.intro (Eq.trans (by kernel_rfl) (tried h0 13 (by decide) (by decide))) (And.intro (by kernel_rfl) (And.intro (by kernel_rfl) (And.intro (by kernel_rfl) (And.intro (Eq.trans (by kernel_rfl) (tried h0 14 (by decide) (by decide))) (And.intro (by kernel_rfl) (And.intro (by kernel_rfl) (And.intro (by kernel_rfl) (And.intro (Eq.trans (by kernel_rfl) (tried h0 15 (by decide) (by decide))) (And.intro (by kernel_rfl) (And.intro (by kernel_rfl) (And.intro (by kernel_rfl) (And.intro (by kernel_rfl) (And.intro (by kernel_rfl) (And.intro (by kernel_rfl) (And.intro (Eq.trans (by kernel_rfl) (tried h0 16 (by decide) (by decide))) (And.intro (by kernel_rfl) (And.intro (by kernel_rfl) (And.intro (by kernel_rfl) (And.intro (by kernel_rfl) (And.intro (by kernel_rfl) (And.intro (by kernel_rfl) (And.intro (Eq.trans (by kernel_rfl) (tried h0 17 (by decide) (by decide))) (And.intro (by kernel_rfl) (And.intro (by kernel_rfl) (And.intro (by kernel_rfl) (And.intro (by kernel_rfl) (And.intro (by kernel_rfl) (And.intro (by kernel_rfl) (And.intro (Eq.trans (by kernel_rfl) (tried h0 18 (by decide) (by decide))) (And.intro (by kernel_rfl) (And.intro (by kernel_rfl) (And.intro (by kernel_rfl) (And.intro (Eq.trans (by kernel_rfl) (tried h0 19 (by decide) (by decide))) (And.intro (by kernel_rfl) (And.intro (by kernel_rfl) (And.intro (by kernel_rfl) (And.intro (Eq.trans (by kernel_rfl) (tried h0 20 (by decide) (by decide))) (And.intro (by kernel_rfl) (And.intro (by kernel_rfl) (And.intro (by kernel_rfl) (And.intro (Eq.trans (by kernel_rfl) (tried h0 21 (by decide) (by decide))) (And.intro (by kernel_rfl) (And.intro (by kernel_rfl) (And.intro (by kernel_rfl) (And.intro (Eq.trans (by kernel_rfl) (tried h0 22 (by decide) (by decide))) (And.intro (by kernel_rfl) (And.intro (by kernel_rfl) (And.intro (by kernel_rfl) (And.intro (Eq.trans (by kernel_rfl) (tried h0 23 (by decide) (by decide))) (And.intro (by kernel_rfl) (And.intro (by kernel_rfl) (And.intro (by kernel_rfl) (And.intro (Eq.trans (by kernel_rfl) (tried h0 24 (by decide) (by decide))) (And.intro (by kernel_rfl) (And.intro (by kernel_rfl) (And.intro (by kernel_rfl) (And.intro (by kernel_rfl) (And.intro (Eq.trans (by kernel_rfl) (tried h0 25 (by decide) (by decide))) (And.intro (by kernel_rfl) (And.intro (by kernel_rfl) (And.intro (by kernel_rfl) (And.intro (by kernel_rfl) (And.intro (Eq.trans (by kernel_rfl) (tried h0 26 (by decide) (by decide))) (And.intro (by kernel_rfl) (And.intro (by kernel_rfl) (And.intro (by kernel_rfl) (And.intro (by kernel_rfl) (And.intro (Eq.trans (by kernel_rfl) (tried h0 27 (by decide) (by decide))) (And.intro (by kernel_rfl) (And.intro (by kernel_rfl) (And.intro (by kernel_rfl) (And.intro (by kernel_rfl) (And.intro (by kernel_rfl) (And.intro (by kernel_rfl) (And.intro (by kernel_rfl) (And.intro (Eq.trans (by kernel_rfl) (tried h0 28 (by decide) (by decide))) (And.intro (by kernel_rfl) (And.intro (by kernel_rfl) (And.intro (by kernel_rfl) (And.intro (by kernel_rfl) (And.intro (by kernel_rfl) (And.intro (by kernel_rfl) (And.intro (by kernel_rfl) (And.intro (Eq.trans (by kernel_rfl) (tried h0 29 (by decide) (by decide))) (And.intro (by kernel_rfl) (And.intro (by kernel_rfl) (And.intro (by kernel_rfl) (And.intro (by kernel_rfl) (And.intro (by kernel_rfl) (And.intro (by kernel_rfl) (And.intro (by kernel_rfl) (And.intro (Eq.trans (by kernel_rfl) (tried h0 30 (by decide) (by decide))) (And.intro (by kernel_rfl) (And.intro (by kernel_rfl) (And.intro (by kernel_rfl) (And.intro (by kernel_rfl) (And.intro (by kernel_rfl) (And.intro (by kernel_rfl) (And.intro (by kernel_rfl) (And.intro (Eq.trans (by kernel_rfl) (tried h0 31 (by decide) (by decide))) (And.intro (by kernel_rfl) (And.intro (by kernel_rfl) (And.intro (by kernel_rfl) (And.intro (by kernel_rfl) (And.intro (by kernel_rfl) (And.intro (by kernel_rfl) (And.intro (by kernel_rfl) (And.intro (Eq.trans (by kernel_rfl) (tried h0 32 (by decide) (by decide))) (And.intro (by kernel_rfl) (And.intro (by kernel_rfl) (And.intro (by kernel_rfl) (And.intro (by kernel_rfl) (And.intro (by kernel_rfl) (And.intro (by kernel_rfl) (And.intro (by kernel_rfl) (And.intro (Eq.trans (by kernel_rfl) (tried h0 33 (by decide) (by decide))) (And.intro (by kernel_rfl) (And.intro (by kernel_rfl) (And.intro (by kernel_rfl) (And.intro (by kernel_rfl) (And.intro (by kernel_rfl) (And.intro (by kernel_rfl) (And.intro (by kernel_rfl) (And.intro (Eq.trans (by kernel_rfl) (tried h0 34 (by decide) (by decide))) (And.intro (by kernel_rfl) (And.intro (by kernel_rfl) (And.intro (by kernel_rfl) (And.intro (by kernel_rfl) (And.intro (by kernel_rfl) (And.intro (by kernel_rfl) (And.intro (by kernel_rfl) (And.intro (Eq.trans (by kernel_rfl) (tried h0 35 (by decide) (by decide))) (And.intro (by kernel_rfl) (And.intro (by kernel_rfl) (And.intro (by kernel_rfl) (And.intro (by kernel_rfl) (And.intro (by kernel_rfl) (And.intro (by kernel_rfl) (And.intro (by kernel_rfl) (And.intro (Eq.trans (by kernel_rfl) (tried h0 36 (by decide) (by decide))) (And.intro (by kernel_rfl) (And.intro (by kernel_rfl) (And.intro (by kernel_rfl) (And.intro (by kernel_rfl) (And.intro (by kernel_rfl) (And.intro (by kernel_rfl) (And.intro (by kernel_rfl) (And.intro (Eq.trans (by kernel_rfl) (tried h0 37 (by decide) (by decide))) (And.intro (by kernel_rfl) (And.intro (by kernel_rfl) (And.intro (by kernel_rfl) (And.intro (by kernel_rfl) (And.intro (by kernel_rfl) (And.intro (by kernel_rfl) (And.intro (by kernel_rfl) (And.intro (Eq.trans (by kernel_rfl) (tried h0 38 (by decide) (by decide))) (And.intro (by kernel_rfl) (And.intro (by kernel_rfl) (And.intro (by kernel_rfl) (And.intro (by kernel_rfl) (And.intro (by kernel_rfl) (And.intro (by kernel_rfl) (And.intro (by kernel_rfl) (And.intro (Eq.trans (by kernel_rfl) (tried h0 39 (by decide) (by decide))) (And.intro (by kernel_rfl) (And.intro (by kernel_rfl) (And.intro (by kernel_rfl) (And.intro (by kernel_rfl) (And.intro (by kernel_rfl) (And.intro (by kernel_rfl) (And.intro (by kernel_rfl) (And.intro (Eq.trans (by kernel_rfl) (tried h0 40 (by decide) (by decide))) (And.intro (by kernel_rfl) (And.intro (by kernel_rfl) (And.intro (by kernel_rfl) (And.intro (by kernel_rfl) (And.intro (by kernel_rfl) (And.intro (by kernel_rfl) (And.intro (by kernel_rfl) (And.intro (Eq.trans (by kernel_rfl) (tried h0 41 (by decide) (by decide))) (And.intro (by kernel_rfl) (And.intro (by kernel_rfl) (And.intro (by kernel_rfl) (And.intro (by kernel_rfl) (And.intro (by kernel_rfl) (And.intro (by kernel_rfl) (And.intro (by kernel_rfl) (And.intro (Eq.trans (by kernel_rfl) (tried h0 42 (by decide) (by decide))) (And.intro (by kernel_rfl) (And.intro (by kernel_rfl) (And.intro (by kernel_rfl) (And.intro (by kernel_rfl) (And.intro (by kernel_rfl) (And.intro (by kernel_rfl) (And.intro (by kernel_rfl) (And.intro (Eq.trans (by kernel_rfl) (tried h0 43 (by decide) (by decide))) (And.intro (by kernel_rfl) (And.intro (by kernel_rfl) (And.intro (by kernel_rfl) (And.intro (by kernel_rfl) (And.intro (by kernel_rfl) (And.intro (by kernel_rfl) (And.intro (by kernel_rfl) (And.intro (Eq.trans (by kernel_rfl) (tried h0 44 (by decide) (by decide))) (And.intro (by kernel_rfl) (And.intro (by kernel_rfl) (And.intro (by kernel_rfl) (And.intro (by kernel_rfl) (And.intro (by kernel_rfl) (And.intro (by kernel_rfl) (And.intro (by kernel_rfl) (And.intro (Eq.trans (by kernel_rfl) (tried h0 45 (by decide) (by decide))) (And.intro (by kernel_rfl) (And.intro (by kernel_rfl) (And.intro (by kernel_rfl) (And.intro (by kernel_rfl) (And.intro (by kernel_rfl) (And.intro (by kernel_rfl) (And.intro (by kernel_rfl) (And.intro (Eq.trans (by kernel_rfl) (tried h0 46 (by decide) (by decide))) (And.intro (by kernel_rfl) (And.intro (by kernel_rfl) (And.intro (by kernel_rfl) (And.intro (by kernel_rfl) (And.intro (by kernel_rfl) (And.intro (by kernel_rfl) (And.intro (by kernel_rfl) (And.intro (Eq.trans (by kernel_rfl) (tried h0 47 (by decide) (by decide))) (trivial)))))))))))))))))))))))))))))))))))))))))))))))))))))))))))))))))))))))))))))))))))))))))))))))))))))))))))))))))))))))))))))))))))))))))))))))))))))))))))))))))))))))))))))))))))))))))))))))))))))))))))))))))))))))))))))))))))))))))))))))))))))))))))))))))))))))))))))))))))))))))))))))), by kernel_rfl⟩)
end Go.Proofs.Ytndfcpkmchjncaa
