/- Rules of a separation logic over the model, and what functions of the translation do; used by the texts that import this one. -/
import Derived.Test.YtpkcniedaabpoaaGreatProg
import Derived.KernelRfl
import Derived.Test.YtpkcniedaabpoaaGreatM3
set_option linter.unusedVariables false
set_option linter.unusedSimpArgs false
namespace Go.Proofs
open Go.SLA Go.Proofs.Tryz
theorem ae : prog.follows .mixedOrders = true := by kernel_rfl
instance : One prog 3 := {}
instance : Siz prog 3 1 := {}
instance : Byt prog 3 8 := {}
instance : Zer prog 3 [.int .i64 0] := {}
instance : IntT prog 3 .i64 := {}
instance : One prog 4 := {}
instance : Siz prog 4 1 := {}
instance : Zer prog 4 [.bool false] := {}
instance : BoolT prog 4 := {}
instance : One prog 5 := {}
instance : Siz prog 5 1 := {}
instance : Byt prog 5 1 := {}
instance : Zer prog 5 [.int .u8 0] := {}
instance : IntT prog 5 .u8 := {}
instance : One prog 9 := {}
instance : Siz prog 9 1 := {}
instance : Byt prog 9 16 := {}
instance : Zer prog 9 [.string ⟨#[]⟩] := {}
instance : Str prog 9 := {}
instance : Agg prog 25 4 := {}
instance : Siz prog 25 4 := {}
instance : Zer prog 25 [.int .u8 0, .int .u8 0, .int .u8 0, .int .u8 0] := {}
instance : Arr prog 25 4 5 1 := {}
instance : One prog 26 := {}
instance : Siz prog 26 1 := {}
instance : Zer prog 26 [.int .i64 0] := {}
instance : Agg prog 32 10 := {}
instance : Siz prog 32 10 := {}
instance : Zer prog 32 [.int .u8 0, .int .u8 0, .int .u8 0, .int .u8 0, .int .u8 0, .int .u8 0, .int .u8 0, .int .u8 0, .int .i64 0, .int .i64 0] := {}
instance : Fld prog 32 0 0 4 := {}
instance : Fld prog 32 1 4 4 := {}
instance : Fld prog 32 2 8 1 := {}
instance : Fld prog 32 3 9 1 := {}
instance : Pls prog 32 [(0, 4), (4, 4), (8, 1), (9, 1)] := {}
instance : Slc prog 35 39 14 := {}
instance : Agg prog 39 14 := {}
instance : Siz prog 39 14 := {}
instance : Byt prog 39 64 := {}
instance : Zer prog 39 [.int .i64 0, .bool false, .int .i64 0, .int .i64 0, .int .i64 0, .int .u8 0, .int .u8 0, .int .u8 0, .int .u8 0, .int .u8 0, .int .u8 0, .int .u8 0, .int .u8 0, .string ⟨#[]⟩] := {}
instance : Fld prog 39 0 0 1 := {}
instance : Fld prog 39 1 1 1 := {}
instance : Fld prog 39 2 2 1 := {}
instance : Fld prog 39 3 3 1 := {}
instance : Fld prog 39 4 4 1 := {}
instance : Fld prog 39 5 5 4 := {}
instance : Fld prog 39 6 9 4 := {}
instance : Fld prog 39 7 13 1 := {}
instance : Pls prog 39 [(0, 1), (1, 1), (2, 1), (3, 1), (4, 1), (5, 4), (9, 4), (13, 1)] := {}
instance : One prog 40 := {}
instance : PtrT prog 40 := {}
instance : Agg prog 46 5 := {}
instance : Siz prog 46 5 := {}
instance : Zer prog 46 [.int .i64 0, .int .i64 0, .int .i64 0, .int .i64 0, .string ⟨#[]⟩] := {}
instance : Fld prog 46 0 0 1 := {}
instance : Fld prog 46 1 1 1 := {}
instance : Fld prog 46 2 2 1 := {}
instance : Fld prog 46 3 3 1 := {}
instance : Fld prog 46 4 4 1 := {}
instance : Pls prog 46 [(0, 1), (1, 1), (2, 1), (3, 1), (4, 1)] := {}
instance : Agg prog 57 3 := {}
instance : Zer prog 57 [.int .i64 0, .int .i64 0, .int .i64 0] := {}
instance : Fld prog 57 0 0 1 := {}
instance : Fld prog 57 1 1 1 := {}
instance : Fld prog 57 2 2 1 := {}
instance : Pls prog 57 [(0, 1), (1, 1), (2, 1)] := {}
instance : One prog 58 := {}
instance : Siz prog 58 1 := {}
instance : Slc prog 58 9 1 := {}
instance : Slc prog 59 46 5 := {}
instance : PtrT prog 60 := {}
instance : One prog 63 := {}
instance : Siz prog 63 1 := {}
instance : Slc prog 63 3 1 := {}
instance : One prog 64 := {}
instance : Slc prog 64 149 3 := {}
instance : One prog 65 := {}
instance : Siz prog 65 1 := {}
instance : Slc prog 65 151 8 := {}
instance : One prog 66 := {}
instance : Siz prog 66 1 := {}
instance : Slc prog 66 153 11 := {}
instance : Agg prog 68 6 := {}
instance : Siz prog 68 6 := {}
instance : Zer prog 68 [.int .i64 0, .slice none 0 0, .int .i64 0, .slice none 0 0, .slice none 0 0, .slice none 0 0] := {}
instance : Fld prog 68 0 0 1 := {}
instance : Fld prog 68 1 1 1 := {}
instance : Fld prog 68 2 2 1 := {}
instance : Fld prog 68 3 3 1 := {}
instance : Fld prog 68 4 4 1 := {}
instance : Fld prog 68 5 5 1 := {}
instance : Pls prog 68 [(0, 1), (1, 1), (2, 1), (3, 1), (4, 1), (5, 1)] := {}
instance : Agg prog 74 4 := {}
instance : Siz prog 74 4 := {}
instance : Zer prog 74 [.int .i64 0, .string ⟨#[]⟩, .bool false, .int .i64 0] := {}
instance : Fld prog 74 0 0 1 := {}
instance : Fld prog 74 1 1 1 := {}
instance : Pls prog 74 [(0, 1), (1, 1), (2, 1), (3, 1)] := {}
instance : Agg prog 77 4 := {}
instance : Zer prog 77 [.int .i64 0, .int .i64 0, .string ⟨#[]⟩, .int .i64 0] := {}
instance : Fld prog 77 0 0 1 := {}
instance : Fld prog 77 1 1 1 := {}
instance : Fld prog 77 2 2 1 := {}
instance : Fld prog 77 3 3 1 := {}
instance : Pls prog 77 [(0, 1), (1, 1), (2, 1), (3, 1)] := {}
instance : PtrT prog 81 := {}
instance : One prog 82 := {}
instance : Siz prog 82 1 := {}
instance : Slc prog 82 5 1 := {}
instance : Zer prog 84 [.slice none 0 0, .bool false] := {}
instance : Fld prog 84 0 0 1 := {}
instance : Fld prog 84 1 1 1 := {}
instance : Pls prog 84 [(0, 1), (1, 1)] := {}
instance : One prog 93 := {}
instance : One prog 94 := {}
instance : Siz prog 94 1 := {}
instance : Slc prog 94 122 10 := {}
instance : Zer prog 96 [.map none, .slice none 0 0, .int .i64 0, .int .i64 0, .int .i64 0, .int .i64 0] := {}
instance : Fld prog 96 0 0 1 := {}
instance : Fld prog 96 1 1 1 := {}
instance : Fld prog 96 2 2 1 := {}
instance : Fld prog 96 3 3 1 := {}
instance : Fld prog 96 4 4 1 := {}
instance : Fld prog 96 5 5 1 := {}
instance : Pls prog 96 [(0, 1), (1, 1), (2, 1), (3, 1), (4, 1), (5, 1)] := {}
instance : Agg prog 102 6 := {}
instance : Siz prog 102 6 := {}
instance : Zer prog 102 [.int .u8 0, .int .u8 0, .int .u8 0, .int .u8 0, .int .u8 0, .int .u8 0] := {}
instance : Arr prog 102 6 5 1 := {}
instance : Agg prog 107 2 := {}
instance : Siz prog 107 2 := {}
instance : Zer prog 107 [.int .i64 0, .int .i64 0] := {}
instance : Fld prog 107 0 0 1 := {}
instance : Fld prog 107 1 1 1 := {}
instance : Pls prog 107 [(0, 1), (1, 1)] := {}
instance : PtrT prog 111 := {}
instance : One prog 119 := {}
instance : Agg prog 122 10 := {}
instance : Siz prog 122 10 := {}
instance : Byt prog 122 24 := {}
instance : Zer prog 122 [.int .u8 0, .int .u8 0, .int .u8 0, .int .u8 0, .int .u8 0, .int .u8 0, .int .u8 0, .int .u8 0, .int .i64 0, .int .i64 0] := {}
instance : Pls prog 122 [(0, 4), (4, 4), (8, 1), (9, 1)] := {}
instance : PtrT prog 124 := {}
instance : Zer prog 127 [.int .i64 0, .slice none 0 0] := {}
instance : Fld prog 127 0 0 1 := {}
instance : Fld prog 127 1 1 1 := {}
instance : Pls prog 127 [(0, 1), (1, 1)] := {}
instance : Agg prog 132 2 := {}
instance : Siz prog 132 2 := {}
instance : Zer prog 132 [.int .i64 0, .int .i64 0] := {}
instance : Pls prog 132 [(0, 1), (1, 1)] := {}
instance : One prog 135 := {}
instance : One prog 136 := {}
instance : Siz prog 136 1 := {}
instance : Zer prog 136 [.map none] := {}
instance : One prog 137 := {}
instance : Siz prog 137 1 := {}
instance : Slc prog 137 145 1 := {}
instance : One prog 138 := {}
instance : Siz prog 138 1 := {}
instance : PtrT prog 138 := {}
instance : Agg prog 139 2 := {}
instance : Arr prog 139 2 138 1 := {}
instance : One prog 140 := {}
instance : Siz prog 140 1 := {}
instance : Slc prog 140 343 4 := {}
instance : Zer prog 142 [.int .i64 0, .slice none 0 0, .int .i64 0, .slice none 0 0, .slice none 0 0, .slice none 0 0, .slice none 0 0, .pointer none, .pointer none, .map none, .map none, .slice none 0 0, .int .i64 0] := {}
instance : Fld prog 142 0 0 6 := {}
instance : Fld prog 142 1 6 1 := {}
instance : Fld prog 142 2 7 2 := {}
instance : Fld prog 142 3 9 1 := {}
instance : Fld prog 142 4 10 1 := {}
instance : Fld prog 142 5 11 1 := {}
instance : Fld prog 142 6 12 1 := {}
instance : Pls prog 142 [(0, 6), (6, 1), (7, 2), (9, 1), (10, 1), (11, 1), (12, 1)] := {}
instance : One prog 145 := {}
instance : Byt prog 145 8 := {}
instance : Zer prog 145 [.pointer none] := {}
instance : PtrT prog 145 := {}
instance : Agg prog 149 3 := {}
instance : Siz prog 149 3 := {}
instance : Zer prog 149 [.int .i64 0, .int .i64 0, .int .i64 0] := {}
instance : Fld prog 149 0 0 1 := {}
instance : Fld prog 149 1 1 1 := {}
instance : Fld prog 149 2 2 1 := {}
instance : Pls prog 149 [(0, 1), (1, 1), (2, 1)] := {}
instance : Agg prog 151 8 := {}
instance : Siz prog 151 8 := {}
instance : Byt prog 151 80 := {}
instance : Zer prog 151 [.int .i64 0, .int .i64 0, .int .i64 0, .int .i64 0, .bool false, .int .i64 0, .int .i64 0, .slice none 0 0] := {}
instance : Fld prog 151 0 0 1 := {}
instance : Fld prog 151 1 1 1 := {}
instance : Fld prog 151 2 2 1 := {}
instance : Fld prog 151 3 3 1 := {}
instance : Fld prog 151 4 4 1 := {}
instance : Fld prog 151 5 5 1 := {}
instance : Fld prog 151 6 6 1 := {}
instance : Fld prog 151 7 7 1 := {}
instance : Pls prog 151 [(0, 1), (1, 1), (2, 1), (3, 1), (4, 1), (5, 1), (6, 1), (7, 1)] := {}
instance : Agg prog 153 11 := {}
instance : Siz prog 153 11 := {}
instance : Byt prog 153 88 := {}
instance : Zer prog 153 [.int .i64 0, .int .i64 0, .int .i64 0, .int .i64 0, .bool false, .int .i64 0, .int .i64 0, .int .i64 0, .int .i64 0, .int .i64 0, .int .i64 0] := {}
instance : Fld prog 153 0 0 1 := {}
instance : Fld prog 153 1 1 1 := {}
instance : Fld prog 153 2 2 1 := {}
instance : Fld prog 153 3 3 1 := {}
instance : Fld prog 153 4 4 1 := {}
instance : Fld prog 153 5 5 1 := {}
instance : Fld prog 153 6 6 1 := {}
instance : Fld prog 153 7 7 1 := {}
instance : Fld prog 153 8 8 1 := {}
instance : Fld prog 153 9 9 1 := {}
instance : Fld prog 153 10 10 1 := {}
instance : Pls prog 153 [(0, 1), (1, 1), (2, 1), (3, 1), (4, 1), (5, 1), (6, 1), (7, 1), (8, 1), (9, 1), (10, 1)] := {}
instance : One prog 154 := {}
instance : Zer prog 154 [.nilFunc] := {}
instance : One prog 157 := {}
instance : Siz prog 157 1 := {}
instance : IntT prog 157 .u64 := {}
instance : IntT prog 160 .u64 := {}
instance : IntT prog 162 .u16 := {}
instance : One prog 166 := {}
instance : Siz prog 166 1 := {}
instance : PtrT prog 166 := {}
instance : Zer prog 168 [.pointer none, .slice none 0 0] := {}
instance : Fld prog 168 0 0 1 := {}
instance : Fld prog 168 1 1 1 := {}
instance : One prog 173 := {}
instance : Siz prog 173 1 := {}
instance : IntT prog 173 .u32 := {}
instance : Zer prog 176 [.string ⟨#[]⟩, .int .i64 0] := {}
instance : Fld prog 176 0 0 1 := {}
instance : Fld prog 176 1 1 1 := {}
instance : Pls prog 176 [(0, 1), (1, 1)] := {}
instance : One prog 183 := {}
instance : Siz prog 183 1 := {}
instance : Zer prog 183 [.pointer none] := {}
instance : One prog 184 := {}
instance : Zer prog 186 [.int .i64 0, .slice none 0 0, .int .i64 0, .slice none 0 0, .slice none 0 0, .slice none 0 0, .map none] := {}
instance : Fld prog 186 0 0 6 := {}
instance : Fld prog 186 1 6 1 := {}
instance : Pls prog 186 [(0, 6), (6, 1)] := {}
instance : One prog 187 := {}
instance : Siz prog 187 1 := {}
instance : Zer prog 187 [.map none] := {}
instance : One prog 188 := {}
instance : Siz prog 188 1 := {}
instance : Zer prog 188 [.nilFunc] := {}
instance : Agg prog 190 3 := {}
instance : Siz prog 190 3 := {}
instance : Zer prog 190 [.int .i64 0, .int .i64 0, .nilFunc] := {}
instance : Fld prog 190 1 1 1 := {}
instance : Fld prog 190 2 2 1 := {}
instance : Pls prog 190 [(0, 1), (1, 1), (2, 1)] := {}
instance : Slc prog 194 190 3 := {}
instance : One prog 196 := {}
instance : One prog 197 := {}
instance : One prog 198 := {}
instance : Siz prog 198 1 := {}
instance : Slc prog 198 202 1 := {}
instance : One prog 199 := {}
instance : Siz prog 199 1 := {}
instance : Slc prog 199 308 3 := {}
instance : Zer prog 201 [.int .i64 0, .slice none 0 0, .map none, .slice none 0 0, .int .i64 0, .map none] := {}
instance : Fld prog 201 0 0 1 := {}
instance : Fld prog 201 1 1 1 := {}
instance : Fld prog 201 2 2 1 := {}
instance : Fld prog 201 3 3 1 := {}
instance : Fld prog 201 4 4 1 := {}
instance : Fld prog 201 5 5 1 := {}
instance : Pls prog 201 [(0, 1), (1, 1), (2, 1), (3, 1), (4, 1), (5, 1)] := {}
instance : One prog 202 := {}
instance : Byt prog 202 8 := {}
instance : Zer prog 202 [.pointer none] := {}
instance : PtrT prog 202 := {}
instance : One prog 206 := {}
instance : PtrT prog 206 := {}
instance : Agg prog 210 4 := {}
instance : Zer prog 210 [.int .i64 0, .int .i64 0, .int .i64 0, .bool false] := {}
instance : Fld prog 210 0 0 1 := {}
instance : Fld prog 210 1 1 1 := {}
instance : Fld prog 210 2 2 1 := {}
instance : Fld prog 210 3 3 1 := {}
instance : Pls prog 210 [(0, 1), (1, 1), (2, 1), (3, 1)] := {}
instance : One prog 211 := {}
instance : PtrT prog 211 := {}
instance : Zer prog 213 [.int .i64 0, .int .i64 0, .int .i64 0, .int .i64 0, .bool false, .int .i64 0, .int .i64 0, .slice none 0 0, .pointer none, .int .i64 0] := {}
instance : Fld prog 213 0 0 8 := {}
instance : Fld prog 213 1 8 1 := {}
instance : Fld prog 213 2 9 1 := {}
instance : Pls prog 213 [(0, 8), (8, 1), (9, 1)] := {}
instance : One prog 214 := {}
instance : Siz prog 214 1 := {}
instance : PtrT prog 214 := {}
instance : One prog 215 := {}
instance : Siz prog 215 1 := {}
instance : PtrT prog 215 := {}
instance : One prog 216 := {}
instance : Siz prog 216 1 := {}
instance : PtrT prog 216 := {}
instance : Zer prog 218 [.int .i64 0, .slice none 0 0, .int .i64 0, .slice none 0 0, .slice none 0 0, .slice none 0 0, .int .i64 0, .pointer none, .pointer none, .pointer none, .map none, .int .i64 0] := {}
instance : Fld prog 218 0 0 6 := {}
instance : Fld prog 218 2 7 1 := {}
instance : Fld prog 218 3 8 1 := {}
instance : Fld prog 218 4 9 1 := {}
instance : Fld prog 218 5 10 1 := {}
instance : Fld prog 218 6 11 1 := {}
instance : Pls prog 218 [(0, 6), (6, 1), (7, 1), (8, 1), (9, 1), (10, 1), (11, 1)] := {}
instance : One prog 226 := {}
instance : Agg prog 227 6 := {}
instance : Siz prog 227 6 := {}
instance : Zer prog 227 [.nilFunc, .nilFunc, .nilFunc, .nilFunc, .nilFunc, .nilFunc] := {}
instance : Arr prog 227 6 226 1 := {}
instance : Agg prog 230 6 := {}
instance : Zer prog 230 [.int .i64 0, .int .i64 0, .string ⟨#[]⟩, .int .i64 0, .int .i64 0, .int .i64 0] := {}
instance : Fld prog 230 0 0 4 := {}
instance : Fld prog 230 1 4 1 := {}
instance : Fld prog 230 2 5 1 := {}
instance : Pls prog 230 [(0, 4), (4, 1), (5, 1)] := {}
instance : PtrT prog 235 := {}
instance : PtrT prog 236 := {}
instance : Agg prog 245 4 := {}
instance : Siz prog 245 4 := {}
instance : Zer prog 245 [.int .i64 0, .bool false, .int .i64 0, .int .i64 0] := {}
instance : Pls prog 245 [(0, 1), (1, 1), (2, 1), (3, 1)] := {}
instance : Zer prog 246 [.int .i64 0, .int .i64 0] := {}
instance : Arr prog 246 2 3 1 := {}
instance : One prog 247 := {}
instance : Siz prog 247 1 := {}
instance : Slc prog 247 379 2 := {}
instance : Arr prog 248 2 247 1 := {}
instance : Agg prog 250 4 := {}
instance : Siz prog 250 4 := {}
instance : Byt prog 250 40 := {}
instance : Zer prog 250 [.int .i64 0, .string ⟨#[]⟩, .int .i64 0, .int .i64 0] := {}
instance : Fld prog 250 0 0 1 := {}
instance : Fld prog 250 1 1 1 := {}
instance : Fld prog 250 2 2 1 := {}
instance : Fld prog 250 3 3 1 := {}
instance : Pls prog 250 [(0, 1), (1, 1), (2, 1), (3, 1)] := {}
instance : One prog 251 := {}
instance : Siz prog 251 1 := {}
instance : Slc prog 251 250 4 := {}
instance : Zer prog 253 [.slice none 0 0, .slice none 0 0, .int .i64 0, .int .i64 0, .int .i64 0, .int .i64 0, .bool false, .int .i64 0, .string ⟨#[]⟩, .int .i64 0, .int .i64 0, .slice none 0 0, .int .i64 0] := {}
instance : Fld prog 253 0 0 2 := {}
instance : Fld prog 253 3 6 1 := {}
instance : Fld prog 253 4 7 4 := {}
instance : Fld prog 253 5 11 1 := {}
instance : Fld prog 253 6 12 1 := {}
instance : Pls prog 253 [(0, 2), (2, 2), (4, 2), (6, 1), (7, 4), (11, 1), (12, 1)] := {}
instance : Zer prog 255 [.int .i64 0, .int .i64 0, .int .i64 0, .bool false, .int .i64 0, .int .i64 0, .int .i64 0, .int .i64 0] := {}
instance : Fld prog 255 0 0 4 := {}
instance : Fld prog 255 1 4 1 := {}
instance : Fld prog 255 2 5 1 := {}
instance : Fld prog 255 3 6 1 := {}
instance : Pls prog 255 [(0, 4), (4, 1), (5, 1), (6, 1), (7, 1)] := {}
instance : One prog 256 := {}
instance : One prog 258 := {}
instance : PtrT prog 258 := {}
instance : One prog 260 := {}
instance : One prog 261 := {}
instance : Siz prog 261 1 := {}
instance : Slc prog 261 299 5 := {}
instance : Zer prog 263 [.int .i64 0, .slice none 0 0, .int .i64 0, .slice none 0 0, .slice none 0 0, .slice none 0 0, .int .i64 0, .map none, .slice none 0 0, .pointer none, .int .i64 0, .int .i64 0, .map none, .int .i64 0, .slice none 0 0] := {}
instance : Fld prog 263 0 0 6 := {}
instance : Fld prog 263 1 6 1 := {}
instance : Fld prog 263 2 7 1 := {}
instance : Fld prog 263 3 8 1 := {}
instance : Fld prog 263 4 9 1 := {}
instance : Fld prog 263 5 10 1 := {}
instance : Fld prog 263 6 11 1 := {}
instance : Fld prog 263 7 12 1 := {}
instance : Fld prog 263 8 13 1 := {}
instance : Fld prog 263 9 14 1 := {}
instance : Pls prog 263 [(0, 6), (6, 1), (7, 1), (8, 1), (9, 1), (10, 1), (11, 1), (12, 1), (13, 1), (14, 1)] := {}
instance : PtrT prog 265 := {}
instance : One prog 266 := {}
instance : Siz prog 266 1 := {}
instance : PtrT prog 266 := {}
instance : One prog 267 := {}
instance : Siz prog 267 1 := {}
instance : PtrT prog 267 := {}
instance : Zer prog 269 [.int .i64 0, .int .i64 0, .int .i64 0, .int .i64 0, .bool false, .int .i64 0, .int .i64 0, .slice none 0 0, .pointer none, .pointer none, .int .i64 0, .int .i64 0] := {}
instance : Fld prog 269 0 0 8 := {}
instance : Fld prog 269 1 8 1 := {}
instance : Fld prog 269 2 9 1 := {}
instance : Fld prog 269 3 10 1 := {}
instance : Fld prog 269 4 11 1 := {}
instance : Pls prog 269 [(0, 8), (8, 1), (9, 1), (10, 1), (11, 1)] := {}
instance : One prog 275 := {}
instance : Zer prog 277 [.int .i64 0, .slice none 0 0, .int .i64 0, .slice none 0 0, .slice none 0 0, .slice none 0 0, .int .i64 0, .map none, .pointer none, .int .i64 0, .map none] := {}
instance : Fld prog 277 0 0 6 := {}
instance : Fld prog 277 1 6 1 := {}
instance : Fld prog 277 2 7 1 := {}
instance : Fld prog 277 3 8 1 := {}
instance : Fld prog 277 4 9 1 := {}
instance : Fld prog 277 5 10 1 := {}
instance : Pls prog 277 [(0, 6), (6, 1), (7, 1), (8, 1), (9, 1), (10, 1)] := {}
instance : One prog 278 := {}
instance : Siz prog 278 1 := {}
instance : PtrT prog 278 := {}
instance : One prog 279 := {}
instance : Siz prog 279 1 := {}
instance : PtrT prog 279 := {}
instance : Arr prog 280 2 279 1 := {}
instance : One prog 281 := {}
instance : Siz prog 281 1 := {}
instance : PtrT prog 281 := {}
instance : Zer prog 283 [.int .i64 0, .int .i64 0, .int .i64 0, .int .i64 0, .bool false, .int .i64 0, .int .i64 0, .slice none 0 0, .pointer none, .pointer none, .pointer none] := {}
instance : Fld prog 283 0 0 8 := {}
instance : Fld prog 283 1 8 2 := {}
instance : Fld prog 283 2 10 1 := {}
instance : Pls prog 283 [(0, 8), (8, 2), (10, 1)] := {}
instance : One prog 287 := {}
instance : Zer prog 289 [.map none] := {}
instance : Fld prog 289 0 0 1 := {}
instance : Pls prog 289 [(0, 1)] := {}
instance : One prog 291 := {}
instance : Agg prog 294 12 := {}
instance : Siz prog 294 12 := {}
instance : Zer prog 294 [.int .i64 0, .int .i64 0, .int .i64 0, .int .i64 0, .bool false, .int .i64 0, .int .i64 0, .int .i64 0, .int .i64 0, .int .i64 0, .int .i64 0, .nilIface] := {}
instance : Fld prog 294 0 0 11 := {}
instance : Fld prog 294 1 11 1 := {}
instance : Pls prog 294 [(0, 11), (11, 1)] := {}
instance : Agg prog 297 2 := {}
instance : Siz prog 297 2 := {}
instance : Zer prog 297 [.string ⟨#[]⟩, .string ⟨#[]⟩] := {}
instance : Arr prog 297 2 9 1 := {}
instance : Agg prog 299 5 := {}
instance : Siz prog 299 5 := {}
instance : Byt prog 299 56 := {}
instance : Zer prog 299 [.int .i64 0, .int .i64 0, .int .i64 0, .string ⟨#[]⟩, .string ⟨#[]⟩] := {}
instance : Fld prog 299 0 0 1 := {}
instance : Fld prog 299 1 1 1 := {}
instance : Fld prog 299 2 2 1 := {}
instance : Fld prog 299 3 3 2 := {}
instance : Pls prog 299 [(0, 1), (1, 1), (2, 1), (3, 2)] := {}
instance : Slc prog 301 305 5 := {}
instance : Agg prog 305 5 := {}
instance : Siz prog 305 5 := {}
instance : Byt prog 305 48 := {}
instance : Zer prog 305 [.int .i64 0, .int .i64 0, .string ⟨#[]⟩, .int .i64 0, .int .i64 0] := {}
instance : Fld prog 305 0 0 1 := {}
instance : Fld prog 305 2 2 1 := {}
instance : Pls prog 305 [(0, 1), (1, 1), (2, 1), (3, 1), (4, 1)] := {}
instance : Agg prog 308 3 := {}
instance : Siz prog 308 3 := {}
instance : Byt prog 308 32 := {}
instance : Zer prog 308 [.int .i64 0, .pointer none, .string ⟨#[]⟩] := {}
instance : Fld prog 308 0 0 1 := {}
instance : Fld prog 308 1 1 1 := {}
instance : Fld prog 308 2 2 1 := {}
instance : Pls prog 308 [(0, 1), (1, 1), (2, 1)] := {}
instance : Arr prog 317 256 173 1 := {}
instance : Zer prog 323 [.slice none 0 0, .int .i64 0, .int .i64 0] := {}
instance : Fld prog 323 0 0 1 := {}
instance : Fld prog 323 1 1 1 := {}
instance : Fld prog 323 2 2 1 := {}
instance : Pls prog 323 [(0, 1), (1, 1), (2, 1)] := {}
instance : Arr prog 324 4 58 1 := {}
instance : Zer prog 326 [.slice none 0 0, .slice none 0 0, .slice none 0 0, .slice none 0 0, .int .i64 0, .int .i64 0, .int .i64 0, .int .i64 0] := {}
instance : Fld prog 326 0 0 4 := {}
instance : Fld prog 326 1 4 1 := {}
instance : Fld prog 326 2 5 1 := {}
instance : Fld prog 326 3 6 1 := {}
instance : Fld prog 326 4 7 1 := {}
instance : Pls prog 326 [(0, 4), (4, 1), (5, 1), (6, 1), (7, 1)] := {}
instance : Agg prog 328 2 := {}
instance : Siz prog 328 2 := {}
instance : Zer prog 328 [.bool false, .int .i64 0] := {}
instance : Fld prog 328 1 1 1 := {}
instance : Pls prog 328 [(0, 1), (1, 1)] := {}
instance : Zer prog 330 [.int .u64 0, .bool false, .int .i64 0, .int .i64 0, .int .i64 0] := {}
instance : Fld prog 330 0 0 1 := {}
instance : Fld prog 330 1 1 2 := {}
instance : Fld prog 330 2 3 1 := {}
instance : Fld prog 330 3 4 1 := {}
instance : Pls prog 330 [(0, 1), (1, 2), (3, 1), (4, 1)] := {}
instance : Zer prog 332 [.bool false, .int .i64 0, .int .i64 0, .bool false, .int .i64 0, .int .i64 0] := {}
instance : Fld prog 332 0 0 1 := {}
instance : Fld prog 332 1 1 1 := {}
instance : Fld prog 332 3 3 1 := {}
instance : Pls prog 332 [(0, 1), (1, 1), (2, 1), (3, 1), (4, 1), (5, 1)] := {}
instance : One prog 333 := {}
instance : Siz prog 333 1 := {}
instance : Slc prog 333 425 3 := {}
instance : Zer prog 335 [.slice none 0 0, .int .i64 0, .int .i64 0, .int .i64 0, .int .i64 0, .int .i64 0] := {}
instance : Fld prog 335 0 0 1 := {}
instance : Fld prog 335 1 1 1 := {}
instance : Fld prog 335 2 2 1 := {}
instance : Fld prog 335 3 3 1 := {}
instance : Fld prog 335 4 4 1 := {}
instance : Pls prog 335 [(0, 1), (1, 1), (2, 1), (3, 1), (4, 1), (5, 1)] := {}
instance : Zer prog 338 [.string ⟨#[]⟩, .int .i64 0, .bool false] := {}
instance : Pls prog 338 [(0, 1), (1, 1), (2, 1)] := {}
instance : Zer prog 341 [.slice none 0 0, .int .i64 0, .bool false] := {}
instance : Fld prog 341 0 0 1 := {}
instance : Fld prog 341 1 1 1 := {}
instance : Fld prog 341 2 2 1 := {}
instance : Pls prog 341 [(0, 1), (1, 1), (2, 1)] := {}
instance : Agg prog 343 4 := {}
instance : Siz prog 343 4 := {}
instance : Zer prog 343 [.int .i64 0, .int .i64 0, .int .i64 0, .string ⟨#[]⟩] := {}
instance : Fld prog 343 1 1 1 := {}
instance : Fld prog 343 2 2 1 := {}
instance : Fld prog 343 3 3 1 := {}
instance : Pls prog 343 [(0, 1), (1, 1), (2, 1), (3, 1)] := {}
instance : Zer prog 348 [.int .i64 0, .int .i64 0, .int .i64 0] := {}
instance : Pls prog 348 [(0, 1), (1, 1), (2, 1)] := {}
instance : Agg prog 355 3 := {}
instance : Siz prog 355 3 := {}
instance : Zer prog 355 [.int .i64 0, .int .i64 0, .string ⟨#[]⟩] := {}
instance : Fld prog 355 0 0 1 := {}
instance : Fld prog 355 2 2 1 := {}
instance : Pls prog 355 [(0, 1), (1, 1), (2, 1)] := {}
instance : One prog 371 := {}
instance : Zer prog 373 [.int .i64 0, .int .i64 0, .int .i64 0, .int .i64 0, .string ⟨#[]⟩, .pointer none, .int .i64 0, .int .i64 0, .string ⟨#[]⟩, .int .i64 0, .bool false, .int .i64 0, .int .i64 0, .int .i64 0, .int .u8 0, .int .u8 0, .int .u8 0, .int .u8 0, .int .u8 0, .int .u8 0, .int .u8 0, .int .u8 0, .string ⟨#[]⟩, .bool false, .int .i64 0, .int .i64 0, .string ⟨#[]⟩] := {}
instance : Fld prog 373 0 0 5 := {}
instance : Fld prog 373 1 5 1 := {}
instance : Fld prog 373 2 6 1 := {}
instance : Fld prog 373 3 7 1 := {}
instance : Fld prog 373 4 8 1 := {}
instance : Fld prog 373 5 9 14 := {}
instance : Fld prog 373 6 23 1 := {}
instance : Fld prog 373 7 24 3 := {}
instance : Pls prog 373 [(0, 5), (5, 1), (6, 1), (7, 1), (8, 1), (9, 14), (23, 1), (24, 3)] := {}
instance : One prog 374 := {}
instance : Zer prog 374 [.nilFunc] := {}
instance : Agg prog 379 2 := {}
instance : Siz prog 379 2 := {}
instance : Zer prog 379 [.int .i64 0, .string ⟨#[]⟩] := {}
instance : Fld prog 379 0 0 1 := {}
instance : Fld prog 379 1 1 1 := {}
instance : Pls prog 379 [(0, 1), (1, 1)] := {}
instance : Slc prog 398 374 1 := {}
instance : Byt prog 425 24 := {}
instance : Zer prog 425 [.int .i64 0, .int .i64 0, .int .u64 0] := {}
instance : Fld prog 425 0 0 1 := {}
instance : Fld prog 425 1 1 1 := {}
instance : Fld prog 425 2 2 1 := {}
instance : Pls prog 425 [(0, 1), (1, 1), (2, 1)] := {}
instance : Slc prog 429 154 1 := {}
instance : EqT prog 25 [.int .u8, .int .u8, .int .u8, .int .u8] := ⟨by kernel_rfl, by kernel_rfl, by kernel_rfl, by kernel_rfl⟩
instance : EqT prog 74 [.int .i64, .str, .bool, .int .i64] := ⟨by kernel_rfl, by kernel_rfl, by kernel_rfl, by kernel_rfl⟩
instance : EqT prog 102 [.int .u8, .int .u8, .int .u8, .int .u8, .int .u8, .int .u8] := ⟨by kernel_rfl, by kernel_rfl, by kernel_rfl, by kernel_rfl⟩
instance : EqT prog 122 [.int .u8, .int .u8, .int .u8, .int .u8, .int .u8, .int .u8, .int .u8, .int .u8, .int .i64, .int .i64] := ⟨by kernel_rfl, by kernel_rfl, by kernel_rfl, by kernel_rfl⟩
instance : EqT prog 328 [.bool, .int .i64] := ⟨by kernel_rfl, by kernel_rfl, by kernel_rfl, by kernel_rfl⟩
instance : Fun prog 5 := {}
instance : Fun prog 6 := {}
instance : Fun prog 7 := {}
instance : Fun prog 8 := {}
instance : Fun prog 9 := {}
instance : Fun prog 10 := {}
instance : Fun prog 11 := {}
instance : Fun prog 12 := {}
instance : Fun prog 13 := {}
instance : Fun prog 14 := {}
instance : Fun prog 15 := {}
instance : Fun prog 16 := {}
instance : Fun prog 17 := {}
instance : Fun prog 18 := {}
instance : Fun prog 19 := {}
instance : Fun prog 20 := {}
instance : Fun prog 21 := {}
instance : Fun prog 22 := {}
instance : Fun prog 23 := {}
instance : Fun prog 24 := {}
instance : Fun prog 25 := {}
instance : Fun prog 26 := {}
instance : Fun prog 27 := {}
instance : Fun prog 28 := {}
instance : Fun prog 29 := {}
instance : Fun prog 30 := {}
instance : Fun prog 31 := {}
instance : Fun prog 32 := {}
instance : Fun prog 33 := {}
instance : Fun prog 34 := {}
instance : Fun prog 35 := {}
instance : Fun prog 36 := {}
instance : Fun prog 37 := {}
instance : Fun prog 38 := {}
instance : Fun prog 39 := {}
instance : Fun prog 40 := {}
instance : Fun prog 41 := {}
instance : Fun prog 42 := {}
instance : Fun prog 43 := {}
instance : Fun prog 44 := {}
instance : Fun prog 45 := {}
instance : Fun prog 46 := {}
instance : Fun prog 47 := {}
instance : Fun prog 48 := {}
instance : Fun prog 49 := {}
instance : Fun prog 50 := {}
instance : Fun prog 51 := {}
instance : Fun prog 52 := {}
instance : Fun prog 53 := {}
instance : Fun prog 54 := {}
instance : Fun prog 55 := {}
instance : Fun prog 56 := {}
instance : Fun prog 57 := {}
instance : Fun prog 58 := {}
instance : Fun prog 59 := {}
instance : Fun prog 60 := {}
instance : Fun prog 61 := {}
instance : Fun prog 62 := {}
instance : Fun prog 63 := {}
instance : Fun prog 64 := {}
instance : Fun prog 65 := {}
instance : Fun prog 66 := {}
instance : Fun prog 67 := {}
instance : Fun prog 68 := {}
instance : Fun prog 70 := {}
instance : Fun prog 71 := {}
instance : Fun prog 72 := {}
instance : Fun prog 73 := {}
instance : Fun prog 74 := {}
instance : Fun prog 75 := {}
instance : Fun prog 76 := {}
instance : Fun prog 77 := {}
instance : Fun prog 78 := {}
instance : Fun prog 79 := {}
instance : Fun prog 80 := {}
instance : Fun prog 81 := {}
instance : Fun prog 82 := {}
instance : Fun prog 83 := {}
instance : Fun prog 84 := {}
instance : Fun prog 85 := {}
instance : Fun prog 86 := {}
instance : Fun prog 87 := {}
instance : Fun prog 88 := {}
instance : Fun prog 89 := {}
instance : Fun prog 90 := {}
instance : Fun prog 91 := {}
instance : Fun prog 92 := {}
instance : Fun prog 93 := {}
instance : Fun prog 94 := {}
instance : Fun prog 95 := {}
instance : Fun prog 96 := {}
instance : Fun prog 97 := {}
instance : Fun prog 98 := {}
instance : Fun prog 99 := {}
instance : Fun prog 100 := {}
instance : Fun prog 101 := {}
instance : Fun prog 102 := {}
instance : Fun prog 103 := {}
instance : Fun prog 104 := {}
instance : Fun prog 105 := {}
instance : Fun prog 106 := {}
instance : Fun prog 108 := {}
instance : Fun prog 110 := {}
instance : Fun prog 111 := {}
instance : Fun prog 112 := {}
instance : Fun prog 113 := {}
instance : Fun prog 114 := {}
instance : Fun prog 115 := {}
instance : Fun prog 116 := {}
instance : Fun prog 117 := {}
instance : Fun prog 118 := {}
instance : Fun prog 119 := {}
instance : Fun prog 120 := {}
instance : Fun prog 121 := {}
instance : Fun prog 122 := {}
instance : Fun prog 123 := {}
instance : Fun prog 124 := {}
instance : Fun prog 125 := {}
instance : Fun prog 126 := {}
instance : Fun prog 127 := {}
instance : Fun prog 128 := {}
instance : Fun prog 129 := {}
instance : Fun prog 130 := {}
instance : Fun prog 131 := {}
instance : Fun prog 132 := {}
instance : Fun prog 133 := {}
instance : Fun prog 134 := {}
instance : Fun prog 135 := {}
instance : Fun prog 136 := {}
instance : Fun prog 137 := {}
instance : Fun prog 138 := {}
instance : Fun prog 139 := {}
instance : Fun prog 140 := {}
instance : Fun prog 141 := {}
instance : Fun prog 142 := {}
instance : Fun prog 143 := {}
instance : Fun prog 144 := {}
instance : Fun prog 146 := {}
instance : Fun prog 147 := {}
instance : Fun prog 151 := {}
instance : Fun prog 152 := {}
instance : Fun prog 153 := {}
instance : Fun prog 154 := {}
instance : Fun prog 155 := {}
instance : Fun prog 156 := {}
instance : Fun prog 157 := {}
instance : Fun prog 158 := {}
instance : Fun prog 160 := {}
instance : Fun prog 161 := {}
instance : Fun prog 162 := {}
instance : Fun prog 163 := {}
instance : Fun prog 164 := {}
instance : Fun prog 167 := {}
instance : Fun prog 168 := {}
instance : Fun prog 169 := {}
instance : Fun prog 170 := {}
instance : Fun prog 171 := {}
instance : Fun prog 172 := {}
instance : Fun prog 174 := {}
instance : Fun prog 175 := {}
instance : Fun prog 176 := {}
instance : Fun prog 178 := {}
instance : Fun prog 179 := {}
instance : Fun prog 180 := {}
instance : Fun prog 181 := {}
instance : Fun prog 182 := {}
instance : Fun prog 183 := {}
instance : Fun prog 184 := {}
instance : Fun prog 185 := {}
instance : Fun prog 186 := {}
instance : Fun prog 187 := {}
instance : Fun prog 188 := {}
instance : Fun prog 189 := {}
instance : Fun prog 190 := {}
instance : Fun prog 191 := {}
instance : Fun prog 192 := {}
instance : Fun prog 193 := {}
instance : Fun prog 194 := {}
instance : Fun prog 195 := {}
instance : Fun prog 198 := {}
instance : Fun prog 199 := {}
instance : Fun prog 200 := {}
instance : Fun prog 201 := {}
instance : Fun prog 203 := {}
instance : Fun prog 204 := {}
instance : Fun prog 205 := {}
instance : Fun prog 206 := {}
instance : Fun prog 207 := {}
instance : Fun prog 208 := {}
instance : Fun prog 209 := {}
instance : Fun prog 210 := {}
instance : Fun prog 211 := {}
instance : Fun prog 212 := {}
instance : Fun prog 213 := {}
instance : Fun prog 214 := {}
instance : Fun prog 216 := {}
instance : Fun prog 217 := {}
instance : Fun prog 218 := {}
instance : Fun prog 219 := {}
instance : Fun prog 220 := {}
instance : Fun prog 222 := {}
instance : Fun prog 228 := {}
instance : Fun prog 232 := {}
instance : Fun prog 233 := {}
instance : Fun prog 234 := {}
instance : Fun prog 235 := {}
instance : Fun prog 236 := {}
instance : Fun prog 237 := {}
instance : Fun prog 239 := {}
instance : Fun prog 240 := {}
instance : Fun prog 241 := {}
instance : Fun prog 242 := {}
instance : Fun prog 243 := {}
instance : Fun prog 250 := {}
instance : Fun prog 251 := {}
instance : Fun prog 253 := {}
instance : Fun prog 254 := {}
instance : Fun prog 255 := {}
instance : Fun prog 256 := {}
instance : Fun prog 258 := {}
instance : Fun prog 259 := {}
instance : Fun prog 260 := {}
instance : Fun prog 261 := {}
instance : Fun prog 262 := {}
instance : Fun prog 264 := {}
instance : MapZ prog 135 348 (.int .i64 0) := ⟨3, by kernel_rfl, by kernel_rfl⟩
instance : MapI prog 136 .i64 (.int .i64 0) := ⟨3, 3, by kernel_rfl, by kernel_rfl, by kernel_rfl⟩
instance : MapI prog 184 .i64 (.agg [.int .i64 0, .int .i64 0, .int .i64 0, .int .i64 0, .bool false, .int .i64 0, .int .i64 0, .slice none 0 0].toArray) := ⟨3, 151, by kernel_rfl, by kernel_rfl, by kernel_rfl⟩
instance : MapZ prog 187 245 (.int .i64 0) := ⟨3, by kernel_rfl, by kernel_rfl⟩
instance : MapI prog 196 .i64 (.pointer none) := ⟨3, 211, by kernel_rfl, by kernel_rfl, by kernel_rfl⟩
instance : MapI prog 197 .i64 (.int .i64 0) := ⟨26, 3, by kernel_rfl, by kernel_rfl, by kernel_rfl⟩
instance : MapI prog 256 .i64 (.pointer none) := ⟨3, 265, by kernel_rfl, by kernel_rfl, by kernel_rfl⟩
instance : MapI prog 260 .i64 (.agg [.int .i64 0, .int .i64 0, .int .i64 0, .string ⟨#[]⟩, .string ⟨#[]⟩].toArray) := ⟨3, 299, by kernel_rfl, by kernel_rfl, by kernel_rfl⟩
instance : MapI prog 275 .i64 (.pointer none) := ⟨3, 278, by kernel_rfl, by kernel_rfl, by kernel_rfl⟩
instance : MapI prog 287 .i64 (.agg [.int .i64 0, .int .i64 0, .int .i64 0, .int .i64 0, .bool false, .int .i64 0, .int .i64 0, .int .i64 0, .int .i64 0, .int .i64 0, .int .i64 0, .nilIface].toArray) := ⟨3, 294, by kernel_rfl, by kernel_rfl, by kernel_rfl⟩
instance : Conc prog 336 := ⟨by kernel_rfl⟩
instance : Conc prog 339 := ⟨by kernel_rfl⟩
instance : EqT prog 245 [.int .i64, .bool, .int .i64, .int .i64] := ⟨by kernel_rfl, by kernel_rfl, by kernel_rfl, by kernel_rfl⟩
instance : EqT prog 348 [.int .i64, .int .i64, .int .i64] := ⟨by kernel_rfl, by kernel_rfl, by kernel_rfl, by kernel_rfl⟩
end Go.Proofs
namespace Go.Proofs.YtpkcniedaabpoaaGreat
open Go.SLA Go.Proofs.Tryz
set_option maxRecDepth 100000
attribute [local irreducible] FSpec J K L OpV OpX QL Rd Rg bd
namespace Sp
theorem zR {a b : Int} (ha : 0 <= a /\ a <= 100000) (hb : 0 <= b /\ b <= 1000000000) : -9223372036854775808 <= a * b /\ a * b <= 9223372036854775807 := by
 have h1 := Int.mul_nonneg ha.1 hb.1
 have h2 := Int.mul_le_mul ha.2 hb.2 hb.1 (by omega)
 omega
def mn (a b : Int) : Int := if b < a then b else a
def fR (sm bg J P an lf now len ps dr : Int) : Prop := (bg = 0 /\ P = 12500 \/ bg = 1 /\ P = 25000) /\ 80 <= sm /\ sm < 280 /\ 0 <= J /\ J <= 10000 /\ 0 <= an /\ an < now /\ now <= 10000000 /\ now - an <= P + J /\ 0 <= len /\ len <= sm /\ 0 <= ps /\ ps <= 1000000 /\ 0 <= lf /\ lf <= 1000000000000 /\ 0 <= sm * (now - an) /\ sm * (now - an) <= 1000000000000 /\ 0 <= sm * (P + J) /\ sm * (P + J) <= 1000000000000 /\ 0 <= len * P /\ len * P <= mn (lf + sm * (now - an)) (sm * (P + J)) /\ mn (lf + sm * (now - an)) (sm * (P + J)) <= 1000000000000
structure Cf where
 L : Int
 S : Int
 G : Int
 n : Int
 sm : Int
 bg : Int
 P : Int
 hn : 1 + ((L.tmod 3) + 3).tmod 3 = n
 hs : 80 + ((S.tmod 200) + 200).tmod 200 = sm
 hg : ((G.tmod 2) + 2).tmod 2 = bg
 h : 80 <= sm /\ sm < 280 /\ ((bg = 0 /\ P = 12500) \/ (bg = 1 /\ P = 25000))
theorem D8 (a b : Int) (h : 0 < b) : -b < a.tmod b /\ a.tmod b < b := by
 constructor
 ·have := Int.lt_tmod_of_pos a h; omega
 ·exact Int.tmod_lt_of_pos a h
theorem Cf.tm (x : Cf) : (-3 < x.L.tmod 3 /\ x.L.tmod 3 < 3 /\ -3 < (x.L.tmod 3 + 3).tmod 3 /\ (x.L.tmod 3 + 3).tmod 3 < 3) /\ (-200 < x.S.tmod 200 /\ x.S.tmod 200 < 200 /\ -200 < (x.S.tmod 200 + 200).tmod 200 /\ (x.S.tmod 200 + 200).tmod 200 < 200) /\ (-2 < x.G.tmod 2 /\ x.G.tmod 2 < 2 /\ -2 < (x.G.tmod 2 + 2).tmod 2 /\ (x.G.tmod 2 + 2).tmod 2 < 2) := by
 have a := D8 x.L 3 (by decide); have b := D8 (x.L.tmod 3 + 3) 3 (by decide)
 have c := D8 x.S 200 (by decide); have d := D8 (x.S.tmod 200 + 200) 200 (by decide)
 have e := D8 x.G 2 (by decide); have f := D8 (x.G.tmod 2 + 2) 2 (by decide)
 exact ⟨⟨a.1, a.2, b.1, b.2⟩, ⟨c.1, c.2, d.1, d.2⟩, ⟨e.1, e.2, f.1, f.2⟩⟩
theorem IK (a b c : Int) : FSpec prog 82 #[I a, I b, I c] (emp) (fun _ : Unit => True) (fun _ => .bool (decide (b <= a /\ a <= c))) (fun _ => emp) := by
 refine en func82 r fun _ F=>aE r<|sb r<|lv (dt r r) r<|ea r ?_
 refine sO rfl rfl (fun h1 => ?_) (fun h1 => ?_) (fun _ h => by cases h; rfl)
 ·refine ea r<|cT h1 r r<|ea r<|cT h1 r r<|lv (fh r r) r<|lv (bi r h1 r) r<|an r<|jr ?_
  exact aD rfl rfl () trivial (congrArg Value.bool (by exact decide_eq_decide.2 (by omega))) (ah _)
 ·refine cJ h1 rfl rfl ?_ (fun _ h => by cases h; rfl)
  refine cJ h1 rfl rfl ?_ (fun _ h => by cases h; rfl)
  refine lv (bo r h1 r) r<|an r<|jr ?_
  exact aD rfl rfl () trivial (congrArg Value.bool (by (exact (decide_eq_false (by omega)).symm))) (ah _)
theorem Ij (p : Nat) (c1 c2 c3 c4 : Value) : FSpec prog 181 #[Pt p 0] (am p [.int .u64 0, c1, c2, c3, c4] 330) (fun _ : Unit => True) (fun _ => I 12500) (fun _ => am p [.int .u64 0, c1, c2, c3, c4] 330) := by
 refine en func181 r fun _ F=>aE r<|js<|sa r<|lv (bj r r) r<|nf r<|sk<|sb r<|fz r<|ld r r<|lv ((gC r r (by decide)).as (v' := I 12500) r) r<|an r<|jr ?_
 exact aD rfl rfl () trivial (rfl) (ah _)
theorem Ii (p : Nat) (c1 c2 c3 c4 : Value) : FSpec prog 181 #[Pt p 0] (am p [.int .u64 1, c1, c2, c3, c4] 330) (fun _ : Unit => True) (fun _ => I 25000) (fun _ => am p [.int .u64 1, c1, c2, c3, c4] 330) := by
 refine en func181 r fun _ F=>aE r<|js<|sa r<|lv (bj r r) r<|nf r<|sk<|sb r<|fz r<|ld r r<|lv ((gC r r (by decide)).as (v' := I 25000) r) r<|an r<|jr ?_
 exact aD rfl rfl () trivial (rfl) (ah _)
theorem di (a b c : Int) (h : b <= a /\ a <= c) : Kp prog 82 #[I a, I b, I c] emp Tt := by
 have := IK a b c
 rwa [decide_eq_true h] at this
theorem Hj (p : Nat) (c1 c2 c3 c4 : Value) (bg P : Int) (h : (bg = 0 /\ P = 12500) \/ (bg = 1 /\ P = 25000)) : Kp prog 181 #[Pt p 0] (am p [.int .u64 bg, c1, c2, c3, c4] 330) (I P) := by
 rcases h with ⟨rfl, rfl⟩ | ⟨rfl, rfl⟩
 ·exact Ij p c1 c2 c3 c4
 ·exact Ii p c1 c2 c3 c4
end Sp
section
variable {n : Nat}
def bn (s : ByteArray) (i : Nat) : Nat := (s.data.toList.getD i 0).toNat
theorem lX (s : ByteArray) (i : Nat) : bn s i < 256 := (s.data.toList.getD i 0).toNat_lt
def eP (s : ByteArray) : Nat -> Nat
 | 0 => 0
 | k + 1 => eP s k + bn s k * (if k % 2 = 0 then 256 else 1)
theorem pF (s : ByteArray) : ∀ k, eP s k <= 65280 * k
 | 0 => Nat.le_refl _
 | k + 1 => by
  have := pF s k
  have := lX s k
  rw [eP]
  split <;> omega
def fold (n : Nat) : Nat := if h : n <= 65535 then n else fold (n / 65536 + n % 65536)
termination_by n
decreasing_by omega
theorem uC (n : Nat) : fold n <= 65535 := by
 induction n using Nat.strongRecOn with
 | _ n ih =>
  rw [fold]
  split
  ·assumption
  ·exact ih _ (by omega)
theorem CI (h : n <= 65535) : fold n = n := by rw [fold, dif_pos h]
theorem CH (h : ¬ n <= 65535) : fold n = fold (n / 65536 + n % 65536) := by rw [fold, dif_neg h]
def gn (s : ByteArray) : Nat := 65535 - fold (eP s s.size)
theorem HB {a b : Int} (h : a = b) : Value.int .u64 a = .int .u64 b := by rw [h]
theorem Cp (v k : Nat) (h : v < 256) : IntKind.u64.wrap ((v : Int) * 2 ^ (min (8 * (1 - ((k : Int) % 2))).toNat IntKind.u64.bits)) = ((v * (if k % 2 = 0 then 256 else 1) : Nat) : Int) := by
 have hb : IntKind.u64.bits = 64 := rfl
 rw [hb]
 by_cases hk : k % 2 = 0
 ·have : (k : Int) % 2 = 0 := by omega
  rw [this, if_pos hk]
  show IntKind.u64.wrap ((v : Int) * 256) = _
  rw [Go.IntWalk.u64_in _ (by omega)]
  omega
 ·have : (k : Int) % 2 = 1 := by omega
  rw [this, if_neg hk]
  show IntKind.u64.wrap ((v : Int) * 1) = _
  rw [Go.IntWalk.u64_in _ (by omega)]
  omega
theorem Bv (m : Nat) : Value.int .u64 ((m : Int) / 2 ^ (min (Int.toNat 16) IntKind.u64.bits)) = .int .u64 ((m / 65536 : Nat) : Int) := by
 show Value.int .u64 ((m : Int) / 65536) = _
 rw [show ((m / 65536 : Nat) : Int) = (m : Int) / 65536 by omega]
theorem Gi (m : Nat) (h : m < 18446744073709551616) : Value.int .u64 (IntKind.u64.wrap (((BitVec.ofInt IntKind.u64.bits (m : Int) &&& BitVec.ofInt IntKind.u64.bits 65535).toNat : Nat) : Int)) = .int .u64 ((m % 65536 : Nat) : Int) := by
 have := lL (w := 64) (m := 16) (a := (m : Int)) (by decide) (by constructor; omega; show (m : Int) < 18446744073709551616; omega)
 have e : ((BitVec.ofInt IntKind.u64.bits (m : Int) &&& BitVec.ofInt IntKind.u64.bits 65535).toNat : Int) = (m : Int) % 65536 := this
 rw [e, Go.IntWalk.u64_in _ (by omega)]
 rw [show ((m % 65536 : Nat) : Int) = (m : Int) % 65536 by omega]
theorem Ai (m : Nat) (h : m <= 65535) : Value.int .u16 (IntKind.u16.wrap (((BitVec.ofInt IntKind.u16.bits (if IntKind.u16.signed then -1 else IntKind.u16.max) ^^^ BitVec.ofInt IntKind.u16.bits (m : Int)).toNat : Nat) : Int)) = .int .u16 ((65535 - m : Nat) : Int) := by
 show Value.int .u16 (IntKind.u16.wrap (((BitVec.ofInt 16 65535 ^^^ BitVec.ofInt 16 (m : Int)).toNat : Nat) : Int)) = _
 have e : BitVec.ofInt 16 65535 = BitVec.allOnes 16 := by decide
 have e2 : BitVec.ofInt 16 (m : Int) = BitVec.ofNat 16 m := BitVec.ofInt_natCast ..
 rw [e, e2, BitVec.allOnes_xor, BitVec.toNat_not, BitVec.toNat_ofNat, Nat.mod_eq_of_lt (by omega)]
 rw [Go.IntWalk.u16_in _ (by omega)]
theorem kp (s : ByteArray) (hs : s.size <= 281474976710656) : FSpec prog 35 #[.string s] (emp) (fun _ : Unit => True) (fun _ => I (gn s)) (fun _ => emp) := by
 have hws := pF s s.size
 refine en func35 r fun _ F=>aE r<|aE r<|js<|sa r<|lv (aX r) r<|an r<|jb ?_
 refine bX (X := Nat) (fun k => [(0, .string s), (3, .int .u64 (eP s k)), (6, I s.size), (7, I k)]) (fun k => (aa (emp) (F))) (fun k => k <= s.size) (fun k => s.size - k) (0) (Nat.zero_le _) ⟨rfl, rfl, rfl, rfl, trivial⟩ (ah _) (fun k hk => ?_)
 have hw := pF s k
 have hb1 := lX s k
 refine sr<|lv (aM r r) r<|nj ?_
 refine aG rfl (fun h1 => ?_) (fun h1 => ?_)
 ·refine sk<|js<|jb<|sb r<|nk<|jg<|ec r<|lv (gu r r (by omega)) r<|lv (bw r (Go.IntWalk.u64_in _ (by have h2 := CU s (Int.toNat k); have h3 := CV s (Int.toNat k); omega))) r<|ea r<|lv (fu r r (by omega)) r<|lv (bm r r (by omega)) r<|lv (fW r r (by omega)) r<|lv (bw r (Go.IntWalk.u64_in _ (by omega))) r<|lv ((gC r r (by omega)).as (HB (Cp (bn s k) k hb1))) r<|lv ((iN r r (Go.IntWalk.u64_in _ (by have h2 : bn s k * (if k % 2 = 0 then 256 else 1) <= 65280 := (by split <;> omega); omega))).as (v' := .int .u64 (eP s (k + 1))) r) r ?_
  refine ea r<|ln<|kb<|kt<|jg<|gE r<|ea r<|ln ?_
  exact bO (k + 1) (by omega) (by omega) ⟨rfl, rfl, rfl, rfl, trivial⟩ (ah _)
 ·have he : k = s.size := by omega
  subst he
  refine cx<|ke<|ke<|kh<|kt<|js<|jb ?_
  refine bX (X := Nat) (fun m => [(3, .int .u64 m)]) (fun m => (aa (emp) (F))) (fun m => m < 18446744073709551616 /\ fold m = fold (eP s s.size)) (fun m => m) ((eP s s.size)) ⟨by omega, rfl⟩ ⟨rfl, trivial⟩ (ah _) (fun m hm => ?_)
  obtain ⟨hm, hf⟩ := hm
  refine js<|sa r<|lv ((eW r r (by omega)).as (Bv m)) r<|lv (bs r r) r<|nk ?_
  refine aG rfl (fun h2 => ?_) (fun h2 => ?_)
  ·refine sk<|jb<|jg<|ea r<|lv ((eW r r (by omega)).as (Bv m)) r<|ea r<|lv ((fH r r).as (Gi m hm)) r<|lv ((iN r r (Go.IntWalk.u64_in _ (by omega))).as (v' := .int .u64 ((m / 65536 + m % 65536 : Nat) : Int)) r) r<|ea r<|ln<|kb ?_
   exact bO (m / 65536 + m % 65536) ⟨by omega, by rw [<- hf]; exact (CH (by omega)).symm⟩ (by omega) ⟨rfl, trivial⟩ (ah _)
  ·refine cx ?_
   refine ke<|ke<|kh<|kt<|sa r<|lv (bw r (Go.IntWalk.u16_in _ (by omega))) r<|lv ((oW r).as (Ai m (by omega))) r<|lv (bw r (Go.IntWalk.i64_in _ (by omega))) r<|an r<|jr ?_
   have hfm : fold m = m := CI (by omega)
   exact aD rfl rfl () trivial (by rw [gn, <- hf, hfm]) (ah _)
end
theorem kT (m w : Int) (hw : 0 <= w /\ w <= 9223372036854775807) (hm : -9223372036854775808 <= m /\ m <= 9223372036854775807) : FSpec prog 67 #[I m, I w] (emp) (fun _ : Unit => True) (fun _ => .bool (decide (0 <= m /\ m / 2 ^ (min w.toNat 64) = 0))) (fun _ => emp) := by
 refine en func67 r fun _ F=>aE r<|sa r<|lv (dt r r) r<|ea r ?_
 refine sO rfl rfl (fun h1 => ?_) (fun h1 => ?_) (fun _ h => by cases h; rfl)
 ·refine ea r<|cT h1 r r<|lv (bw r (Go.IntWalk.u64_in _ (by omega))) r<|cT h1 r r<|ea r<|cT h1 r r<|lv (bw r (Go.IntWalk.u64_in _ (by omega))) r<|cT h1 r r<|lv (eW r r (by omega)) r<|cT h1 r r<|lv (cv r r) r<|lv (bi r h1 r) r<|an r<|jr ?_
  exact aD rfl rfl () trivial (by congr 1; exact decide_eq_decide.2 ⟨fun h => ⟨by omega, h⟩, fun h => h.2⟩) (ah _)
 ·refine cJ h1 rfl rfl ?_ (fun _ h => by cases h; rfl)
  refine cJ h1 rfl rfl ?_ (fun _ h => by cases h; rfl)
  refine cJ h1 rfl rfl ?_ (fun _ h => by cases h; rfl)
  refine cJ h1 rfl rfl ?_ (fun _ h => by cases h; rfl)
  refine cJ h1 rfl rfl ?_ (fun _ h => by cases h; rfl)
  refine lv (bo r h1 r) r<|an r<|jr ?_
  exact aD rfl rfl () trivial (by congr 1; exact (decide_eq_false (fun h => absurd h.1 (by omega))).symm) (ah _)
section
variable {m j : Nat}
def WrP (p : Nat) (s : ByteArray) (bad : Bool) : ab := ex fun x : Option Addr × Nat => (aa (am p [.slice x.1 (ByteArray.size s) x.2, .bool bad] 84) (Ow 5 1 (.slice x.1 (ByteArray.size s) x.2) (ByteArray.size s) (bV s)))
theorem WrP.fold {p : Nat} {s : ByteArray} {bad : Bool} {F : ab} (x : Option Addr × Nat) : Ent (aa (am p [.slice x.1 (ByteArray.size s) x.2, .bool bad] 84) (aa (Ow 5 1 (.slice x.1 (ByteArray.size s) x.2) (ByteArray.size s) (bV s)) (F))) (aa (WrP p s bad) (F)) := by
 rw [<- ak]
 exact Ent.ex (f := fun x : Option Addr × Nat => (aa (am p [.slice x.1 (ByteArray.size s) x.2, .bool bad] 84) (Ow 5 1 (.slice x.1 (ByteArray.size s) x.2) (ByteArray.size s) (bV s)))) x
def be (m : Nat) : Nat -> ByteArray
 | 0 => aY []
 | c + 1 => aY [((m / 256 ^ c % 256 : Nat) : Int)] ++ be m c
theorem bu (m : Nat) : ∀ c, (be m c).size = c
 | 0 => rfl
 | c + 1 => by rw [be, ByteArray.size_append, aZ, bu m c]; simp; omega
def jE (m : Int) (w : Nat) : Prop := 0 <= m /\ m / 2 ^ (min ((w : Int)).toNat 64) = 0
instance (m : Int) (w : Nat) : Decidable (jE m w) := inferInstanceAs (Decidable (_ /\ _))
theorem CM {m : Int} {c : Nat} (h : jE m (8 * c)) (hc : c <= 4) : 0 <= m /\ m < 2 ^ (8 * c) /\ m < 4294967296 := by
 obtain ⟨h0, h1⟩ := h
 have e : (min (((8 * c : Nat) : Int)).toNat 64) = 8 * c := by rw [Int.toNat_natCast]; omega
 rw [e] at h1
 have hp : (0 : Int) < 2 ^ (8 * c) := Int.pow_pos (by decide)
 have h2 : m < 2 ^ (8 * c) := by
  rcases Int.lt_or_le m (2 ^ (8 * c)) with h | h
  ·exact h
  ·exfalso
   have := Int.ediv_pos_of_pos_of_dvd (a := 1) (b := 1) (by decide) (by decide) (by decide)
   have h3 : 1 <= m / 2 ^ (8 * c) := by
    rw [Int.le_ediv_iff_mul_le hp]; omega
   omega
 refine ⟨h0, h2, ?_⟩
 have h3 : (2 : Int) ^ (8 * c) <= 2 ^ 32 := by
  have : (2 : Nat) ^ (8 * c) <= 2 ^ 32 := Nat.pow_le_pow_right (by decide) (by omega)
  exact_mod_cast this
 have h4 : (2 : Int) ^ 32 = 4294967296 := by decide
 omega
theorem Ef {z : Int} (hj : j < 4) (hz : z = 8 * j) : U8 (IntKind.u8.wrap ((m : Int) / 2 ^ (min z.toNat IntKind.u32.bits))) = U8 ((m / 256 ^ j % 256 : Nat) : Int) := by
 have e : (min z.toNat IntKind.u32.bits) = 8 * j := by
  have : IntKind.u32.bits = 32 := rfl
  omega
 rw [e, IntKind.wrap_u8]
 have e2 : (2 : Int) ^ (8 * j) = ((256 ^ j : Nat) : Int) := by
  rw [show (256 : Nat) ^ j = 2 ^ (8 * j) from (Nat.pow_mul 2 8 j).symm, Int.natCast_pow]
  rfl
 rw [e2, <- Int.natCast_ediv]
 congr 1
theorem CX (h : 1 <= j) : be m j = aY [((m / 256 ^ (j - 1) % 256 : Nat) : Int)] ++ be m (j - 1) := by
 obtain ⟨i, rfl⟩ : ∃ i, j = i + 1 := ⟨j - 1, by omega⟩
 rfl
theorem xR (q : ByteArray) (v : Nat) (h : v < 256) : bV q ++ [U8 (v : Int)] = bV (q ++ aY [(v : Int)]) := by
 rw [dC, jp _ (by simp; omega)]
 rfl
theorem uW (q : ByteArray) (v : Int) : q.size + 1 = (q ++ aY [v]).size := by rw [ByteArray.size_append, aZ]; rfl
theorem Am (q : ByteArray) : q ++ aY [] = q := by
 show q ++ ByteArray.empty = q
 simp
theorem zq (p : Nat) (s : ByteArray) (m w : Int) : FSpec prog 65 #[Pt p 0, I m, I w] (WrP p s true) (fun _ : Unit => True) (fun _ => .tuple #[]) (fun _ => WrP p s true) := by
 refine en func65 r fun _ F=>gh fun x =>dY _ (ak _ _ _)<|js<|sa r<|lv (bj r r) r<|ea r<|go r<|ea r<|go r<|ea r<|go r<|fz r<|go r<|ld r r<|an r<|ct r<|jr<|kd ?_
 exact kZ rfl () trivial rfl (Ent.trans Ent.take (WrP.fold x))
theorem u1 (p : Nat) (s : ByteArray) (m : Int) (c : Nat) (hc : 1 <= c /\ c <= 4) (hm : -9223372036854775808 <= m /\ m <= 9223372036854775807) (h : ¬ jE m (8 * c)) : FSpec prog 65 #[Pt p 0, I m, I (8 * c : Nat)] (WrP p s false) (fun _ : Unit => True) (fun _ => .tuple #[]) (fun _ => WrP p s true) := by
 refine en func65 r fun _ F=>gh fun x =>dY _ (ak _ _ _)<|js<|sa r<|lv (bj r r) r<|ea r<|go r<|ea r<|go r<|ea r<|go r<|fz r<|go r<|ld r r<|an r<|cf r<|sk<|js<|sr<|ec r<|cy (kT m (8 * c : Nat) (by omega) hm) r fun _=>cj<|lv ((lG r).bool_t h) r<|ea r<|fz r<|so r r<|nr<|eb r<|fz r<|ld r r<|nt r<|jr<|kd ?_
 exact kZ rfl () trivial rfl (Ent.trans Ent.take (WrP.fold x))
theorem zp (p : Nat) (s : ByteArray) (m c : Nat) (hc : 1 <= c /\ c <= 4) (h : jE m (8 * c)) (hs : s.size <= 1099511627776) : FSpec prog 65 #[Pt p 0, I m, I (8 * c : Nat)] (WrP p s false) (fun _ : Unit => True) (fun _ => .tuple #[]) (fun _ => WrP p (s ++ be m c) false) := by
 have hf := CM h hc.2
 refine en func65 r fun _ F=>gh fun x =>dY _ (ak _ _ _)<|js<|sa r<|lv (bj r r) r<|ea r<|go r<|ea r<|go r<|ea r<|go r<|fz r<|go r<|ld r r<|an r<|cf r<|sk<|js<|sr<|ec r<|cy (kT m (8 * c : Nat) (by omega) (by omega)) r fun _=>cj<|lv ((lG r).bool_f (fun h1 => h1 h)) r<|ea r<|fz r<|so r r<|nr<|eb r<|fz r<|ld r r<|nf r<|sk<|sa r<|lv (bm r r (by omega)) r<|an r<|jb ?_
 refine bX (X := Nat × Int × ByteArray × (Option Addr × Nat)) (fun y => [(0, Pt p 0), (1, I m), (6, I y.2.1)]) (fun y => (aa (am p [.slice y.2.2.2.1 (ByteArray.size y.2.2.1) y.2.2.2.2, Ff] 84) (aa (Ow 5 1 (.slice y.2.2.2.1 (ByteArray.size y.2.2.1) y.2.2.2.2) (ByteArray.size y.2.2.1) (bV y.2.2.1)) (F)))) (fun y => (y.1 <= c /\ y.2.1 = ((8 * y.1 : Nat) : Int) - 8) /\ y.2.2.1 ++ be m y.1 = s ++ be m c) (fun y => y.1) ((c, ((8 * c : Nat) : Int) - 8, s, x)) ⟨⟨Nat.le_refl _, rfl⟩, rfl⟩ ⟨rfl, rfl, rfl, trivial⟩ (ah _) (fun y hy => ?_)
 obtain ⟨⟨hk, hz⟩, hy⟩ := hy
 have hsz := congrArg ByteArray.size hy
 rw [ByteArray.size_append, ByteArray.size_append, bu, bu] at hsz
 refine js<|sa r<|lv (dt r r) r<|nk ?_
 refine aG rfl (fun h1 => ?_) (fun h1 => ?_)
 ·refine sk<|js<|jb<|jg<|ec r<|fz r<|ld r r<|ea r<|lv (bw r (Go.IntWalk.u32_in _ (by omega))) r<|ea r<|lv (bw r (Go.IntWalk.u64_in _ (by omega))) r<|lv (eW r r (by omega)) r<|lv ((dX r).as (Ef (j := y.1 - 1) (by omega) (by omega))) r<|lx r (aq (m := 1) r r (by omega) (by omega) r) fun b43 _=>lx r (cO (m := 1) (B := 1) r r (Src.lit) r (by omega) r (by simp [Value.oneCell']) (by unfold maxLen; omega) (by omega) r) fun y44 _=>ea r ?_
  refine fz r<|so r r<|ln<|kb<|kt<|jg<|ea r<|lv (bm r r (by omega)) r<|ea r<|ln ?_
  have hv : (m / 256 ^ (y.1 - 1) % 256) < 256 := Nat.mod_lt _ (by decide)
  rw [xR y.2.2.1 (m / 256 ^ (y.1 - 1) % 256) hv, uW y.2.2.1 (((m / 256 ^ (y.1 - 1) % 256) : Nat) : Int)]
  exact bO ((y.1 - 1, y.2.1 - 8, y.2.2.1 ++ aY [(((m / 256 ^ (y.1 - 1) % 256) : Nat) : Int)], y44)) ⟨⟨by show y.1 - 1 <= c; omega, by show y.2.1 - 8 = _; omega⟩, by show y.2.2.1 ++ aY [(((m / 256 ^ (y.1 - 1) % 256) : Nat) : Int)] ++ be m (y.1 - 1) = _; rw [ByteArray.append_assoc, <- CX (by omega)]; exact hy⟩ (by show y.1 - 1 < y.1; omega) ⟨rfl, rfl, rfl, trivial⟩ Ent.take
 ·refine cx ?_
  refine ke<|ke<|kh ?_
  have h0 : y.1 = 0 := by omega
  rw [h0] at hy
  rw [be, Am] at hy
  rw [<- hy]
  exact eG rfl () trivial rfl (Ent.trans Ent.take (WrP.fold y.2.2.2))
end
def jK (s : ByteArray) (bad : Bool) (m : Int) (c : Nat) : ByteArray × Bool := if bad = true then (s, true) else if jE m (8 * c) then (s ++ be m.toNat c, false) else (s, true)
theorem pT (p : Nat) (s : ByteArray) (bad : Bool) (m : Int) (c : Nat) (hc : 1 <= c /\ c <= 4) (hm : -9223372036854775808 <= m /\ m <= 9223372036854775807) (hs : s.size <= 1099511627776) : FSpec prog 65 #[Pt p 0, I m, I (8 * c : Nat)] (WrP p s bad) (fun _ : Unit => True) (fun _ => .tuple #[]) (fun _ => WrP p (jK s bad m c).1 (jK s bad m c).2) := by
 unfold jK
 cases bad with
 | true =>
  rw [if_pos rfl]
  exact zq p s m _
 | false =>
  rw [if_neg (by decide)]
  by_cases h : jE m (8 * c)
  ·rw [if_pos h]
   obtain ⟨k, rfl⟩ : ∃ k : Nat, m = k := ⟨m.toNat, by have := h.1; omega⟩
   exact zp p s k c hc h hs
  ·rw [if_neg h]
   exact u1 p s m c hc hm h
theorem qB (p : Nat) (s : ByteArray) (bad : Bool) (m : Int) (hm : -9223372036854775808 <= m /\ m <= 9223372036854775807) (hs : s.size <= 1099511627776) : FSpec prog 31 #[Pt p 0, I m] (WrP p s bad) (fun _ : Unit => True) (fun _ => .tuple #[]) (fun _ => WrP p (jK s bad m 1).1 (jK s bad m 1).2) := by
 refine en func31 r fun _ F=>jg<|eb r<|cy (pT p s bad m 1 (by decide) hm hs) r fun _=>ln ?_
 exact eG rfl () trivial rfl Ent.take
theorem xY (p : Nat) (s : ByteArray) (bad : Bool) (m : Int) (hm : -9223372036854775808 <= m /\ m <= 9223372036854775807) (hs : s.size <= 1099511627776) : FSpec prog 24 #[Pt p 0, I m] (WrP p s bad) (fun _ : Unit => True) (fun _ => .tuple #[]) (fun _ => WrP p (jK s bad m 2).1 (jK s bad m 2).2) := by
 refine en func24 r fun _ F=>jg<|eb r<|cy (pT p s bad m 2 (by decide) hm hs) r fun _=>ln ?_
 exact eG rfl () trivial rfl Ent.take
theorem wm (p : Nat) (s : ByteArray) : FSpec prog 25 #[Pt p 0] (WrP p s true) (fun _ : Unit => True) (fun _ => .tuple #[.string ByteArray.empty, I 1]) (fun _ => WrP p s true) := by
 refine en func25 r fun _ F=>gh fun x =>dY _ (ak _ _ _)<|sb r<|nj<|jb<|sa r<|lv (bj r r) r<|an r<|cf r<|sb r<|fz r<|ld r r<|an r<|ct r<|sb r<|nk<|jr<|kq<|kd ?_
 exact cH rfl rfl rfl () trivial rfl (WrP.fold x)
theorem im (p : Nat) (s : ByteArray) : FSpec prog 25 #[Pt p 0] (WrP p s false) (fun _ : Unit => True) (fun _ => .tuple #[.string s, I 0]) (fun _ => WrP p s false) := by
 refine en func25 r fun _ F=>gh fun x =>dY _ (ak _ _ _)<|sb r<|nj<|jb<|sa r<|lv (bj r r) r<|an r<|cf r<|sb r<|fz r<|ld r r<|an r<|cf r<|cY<|sb r<|fz r<|ld r r<|lv (rN (s := s) r r) r<|eb r<|nk<|jr ?_
 exact cH rfl rfl rfl () trivial rfl (WrP.fold x)
def n3 (v : Int) : List Value := [I v]
def fS : Int -> List Int -> Option Int
 | n, [] => some n
 | n, x :: l => if x < 1 \/ 32 < x \/ 32 < n then none else fS (n + x) l
def kz (l : List Int) : Int := match fS 0 l with
 | some n => if n = 8 \/ n = 16 \/ n = 32 then n else 0
 | none => 0
theorem kI {l : List Int} {n x : Int} {k : Nat} (hx : l[k]? = some x) : fS n (l.drop k) = if x < 1 \/ 32 < x \/ 32 < n then none else fS (n + x) (l.drop (k + 1)) := by
 have hk : k < l.length := by
  rcases Nat.lt_or_ge k l.length with h | h
  ·exact h
  ·rw [List.getElem?_eq_none h] at hx; cases hx
 rw [List.drop_eq_getElem_cons hk]
 rw [List.getElem?_eq_getElem hk] at hx
 simp only [Option.some.injEq] at hx
 rw [hx, fS]
theorem Cc {a b : Int} (h : b = a) : I a = I b := by rw [h]
theorem ri (R0 : ab) (A : Option Addr) (c : Nat) (ws : List Int) (hR : RdS R0 n3 1 A ws) (hn : ws.length <= 9223372036854775807) (hw : ∀ v ∈ ws, -9223372036854775808 <= v /\ v <= 9223372036854775807) : FSpec prog 66 #[.slice A ws.length c] (R0) (fun _ : Unit => True) (fun _ => I (kz ws)) (fun _ => R0) := by
 refine en func66 r fun _ F=>aE r<|aE r<|js<|sa r<|ll r<|an r<|jb ?_
 refine bX (X := Nat × Int) (fun y => [(3, I y.2), (6, .slice A ws.length c), (7, I ws.length), (8, I y.1)]) (fun y => (aa (R0) (F))) (fun y => (y.1 <= ws.length /\ -64 <= y.2 /\ y.2 <= 64) /\ fS 0 ws = fS y.2 (ws.drop y.1)) (fun y => ws.length - y.1) ((0, 0)) ⟨⟨Nat.zero_le _, by decide, by decide⟩, rfl⟩ ⟨rfl, rfl, rfl, rfl, trivial⟩ (ah _) (fun y hy => ?_)
 obtain ⟨⟨hk, hb1, hb2⟩, hy⟩ := hy
 refine sr<|lv (aM r r) r<|nj ?_
 refine aG rfl (fun h1 => ?_) (fun h1 => ?_)
 ·have hkl : y.1 < ws.length := by omega
  obtain ⟨v, hv⟩ : ∃ v, ws[y.1]? = some v := ⟨_, List.getElem?_eq_getElem hkl⟩
  obtain ⟨b, o, rfl⟩ := hR.nonnil y.1 hkl
  have hd := kI (n := y.2) hv
  refine sk<|js<|jb<|sr<|lv (au r r (by omega)) r<|lv (ar r (bU (S := R0) (hR.rd b o r y.1 v 0 _ hv r))) r<|an r<|js<|sa r<|lv (aM r r) r<|ea r ?_
  refine il rfl rfl (fun h2 => ?_) (fun h2 => ?_) (fun _ h => by cases h; rfl)
  ·refine ea r<|bR h2 r r<|lv (bt r r) r<|lv (bo r h2 r) r<|ea r ?_
   refine il rfl rfl (fun h3 => ?_) (fun h3 => ?_) (fun _ h => by cases h; rfl)
   ·refine ea r<|bR h3 r r<|lv (bt r r) r<|lv (bo r h3 r) r<|nk ?_
    refine aG rfl (fun h4 => ?_) (fun h4 => ?_)
    ·refine aE r<|jr<|kd<|kq<|kd<|kd<|kq<|kd ?_
     rw [if_pos (by omega)] at hd
     exact aD rfl rfl () trivial (Cc (by rw [kz, hy, hd])) (ah _)
    ·refine sk<|jg<|eb r<|gE r<|ea r<|ln<|kb<|kt<|jg<|gE r<|ea r<|ln ?_
     rw [if_neg (by omega)] at hd
     exact bO ((y.1 + 1, y.2 + v)) ⟨⟨by show y.1 + 1 <= _; omega, by show -64 <= y.2 + v; omega, by show y.2 + v <= 64; omega⟩, by rw [hy, hd]⟩ (by show _ - (y.1 + 1) < _; omega) ⟨rfl, rfl, rfl, rfl, trivial⟩ (ah _)
   ·refine jf h3 rfl ?_
    refine lv (bi r h3 r) r<|nt r<|aE r<|jr<|kd<|kq<|kd<|kd<|kq<|kd ?_
    rw [if_pos (by omega)] at hd
    exact aD rfl rfl () trivial (Cc (by rw [kz, hy, hd])) (ah _)
  ·refine jf h2 rfl ?_
   refine lv (bi r h2 r) r<|ea r<|gk rfl<|gk rfl<|an r<|ct r<|aE r<|jr<|kd<|kq<|kd<|kd<|kq<|kd ?_
   rw [if_pos (by omega)] at hd
   exact aD rfl rfl () trivial (Cc (by rw [kz, hy, hd])) (ah _)
 ·refine cx ?_
  refine ke<|ke<|kh<|kt<|js<|aE r<|jb<|js<|sr<|lv (cv r r) r<|an r ?_
  refine aG rfl (fun h5 => ?_) (fun h5 => ?_)
  ·refine sk ?_
   refine aG rfl (fun h6 => ?_) (fun h6 => ?_)
   ·refine sb r<|nk<|jr<|kq<|kd ?_
    have he : y.1 = ws.length := by omega
    rw [he, List.drop_length] at hy
    first | (exfalso; omega) | exact aD rfl rfl () trivial (Cc (by rw [kz, hy, fS]; dsimp only; rw [if_pos (by omega)])) (ah _)
   ·refine cY<|aE r<|jr ?_
    have he : y.1 = ws.length := by omega
    rw [he, List.drop_length] at hy
    (exfalso; omega)
  ·refine sr<|lv (cv r r) r<|an r ?_
   refine aG rfl (fun h7 => ?_) (fun h7 => ?_)
   ·refine sk ?_
    refine aG rfl (fun h8 => ?_) (fun h8 => ?_)
    ·refine sb r<|nk<|jr<|kq<|kd ?_
     have he : y.1 = ws.length := by omega
     rw [he, List.drop_length] at hy
     first | (exfalso; omega) | exact aD rfl rfl () trivial (Cc (by rw [kz, hy, fS]; dsimp only; rw [if_pos (by omega)])) (ah _)
    ·refine cY<|aE r<|jr ?_
     have he : y.1 = ws.length := by omega
     rw [he, List.drop_length] at hy
     (exfalso; omega)
   ·refine jg<|lv (cv r r) r<|an r ?_
    refine aG rfl (fun h9 => ?_) (fun h9 => ?_)
    ·refine sb r<|nk<|jr<|kq<|kd ?_
     have he : y.1 = ws.length := by omega
     rw [he, List.drop_length] at hy
     first | (exfalso; omega) | exact aD rfl rfl () trivial (Cc (by rw [kz, hy, fS]; dsimp only; rw [if_pos (by omega)])) (ah _)
    ·refine cY<|aE r<|jr ?_
     have he : y.1 = ws.length := by omega
     rw [he, List.drop_length] at hy
     first | (exfalso; omega) | exact aD rfl rfl () trivial (Cc (by rw [kz, hy, fS]; dsimp only; rw [if_neg (by omega)])) (ah _)
section
variable {ws : List Int} {n w u : Nat} {v : Int}
def m3 : Nat -> List Int -> List Int -> Option Nat
 | n, w :: ws, l :: ls => if jE l w.toNat then m3 (n * 2 ^ w.toNat + l.toNat) ws ls else none
 | n, _, _ => some n
theorem u3 {ls : List Int} {k : Nat} {u : Int} (hv : ws[k]? = some v) (hu : ls[k]? = some u) : m3 n (ws.drop k) (ls.drop k) = if jE u v.toNat then m3 (n * 2 ^ v.toNat + u.toNat) (ws.drop (k + 1)) (ls.drop (k + 1)) else none := by
 have h1 : k < ws.length := by
  rcases Nat.lt_or_ge k ws.length with h | h
  ·exact h
  ·rw [List.getElem?_eq_none h] at hv; cases hv
 have h2 : k < ls.length := by
  rcases Nat.lt_or_ge k ls.length with h | h
  ·exact h
  ·rw [List.getElem?_eq_none h] at hu; cases hu
 rw [List.drop_eq_getElem_cons h1, List.drop_eq_getElem_cons h2]
 rw [List.getElem?_eq_getElem h1] at hv
 rw [List.getElem?_eq_getElem h2] at hu
 simp only [Option.some.injEq] at hv hu
 rw [hv, hu, m3]
def iQ (s : ByteArray) (bad : Bool) (ws ls : List Int) : ByteArray × Bool :=
 if bad = true then (s, true) else if kz ws = 0 \/ ws.length ≠ ls.length then (s, true) else match m3 0 ws ls with
 | none => (s, true)
 | some n => jK s false n ((kz ws).toNat / 8)
theorem lq : ∀ {l : List Int} {t a : Int}, fS t l = some a -> t <= a
 | [], t, a, h => by simp only [fS, Option.some.injEq] at h; omega
 | x :: l, t, a, h => by
  rw [fS] at h
  split at h
  ·cases h
  ·have := lq h
   omega
theorem uV (h : kz ws ≠ 0) : ∃ c : Nat, 1 <= c /\ c <= 4 /\ kz ws = ((8 * c : Nat) : Int) /\ fS 0 ws = some ((8 * c : Nat) : Int) := by
 unfold kz at *
 cases hs : fS 0 ws with
 | none => rw [hs] at h; exact absurd rfl h
 | some a =>
  rw [hs] at h
  dsimp only at h ⊢
  split at h
  ·rename_i h8
   rw [if_pos h8]
   rcases h8 with rfl | rfl | rfl
   ·exact ⟨1, by decide, by decide, rfl, rfl⟩
   ·exact ⟨2, by decide, by decide, rfl, rfl⟩
   ·exact ⟨4, by decide, by decide, rfl, rfl⟩
  ·exact absurd rfl h
theorem zX {m : Int} (h : jE m w) (hw : w <= 64) : ∃ k : Nat, m = k /\ k < 2 ^ w := by
 obtain ⟨h0, h1⟩ := h
 obtain ⟨k, rfl⟩ : ∃ k : Nat, m = k := ⟨m.toNat, by omega⟩
 refine ⟨k, rfl, ?_⟩
 rw [Int.toNat_natCast, Nat.min_eq_left hw] at h1
 have e : (2 : Int) ^ w = ((2 ^ w : Nat) : Int) := by rw [Int.natCast_pow]; rfl
 rw [e, <- Int.natCast_ediv] at h1
 have h2 : k / 2 ^ w = 0 := by omega
 rcases Nat.lt_or_ge k (2 ^ w) with h | h
 ·exact h
 ·have := Nat.div_pos h (Nat.pow_pos (by decide))
  omega
theorem EK (hv : v.toNat <= 64) (h : n * 2 ^ v.toNat < 18446744073709551616) : Value.int .u64 (IntKind.u64.wrap ((n : Int) * 2 ^ (min v.toNat IntKind.u64.bits))) = .int .u64 ((n * 2 ^ v.toNat : Nat) : Int) := by
 have e : min v.toNat IntKind.u64.bits = v.toNat := by have : IntKind.u64.bits = 64 := rfl; omega
 have e2 : (2 : Int) ^ v.toNat = ((2 ^ v.toNat : Nat) : Int) := by rw [Int.natCast_pow]; rfl
 rw [e, e2, <- Int.natCast_mul, Go.IntWalk.u64_in _ (by omega)]
theorem HM (hu : u < 2 ^ w) (h : n * 2 ^ w + u < 18446744073709551616) : Value.int .u64 (IntKind.u64.wrap (((BitVec.ofInt IntKind.u64.bits ((n * 2 ^ w : Nat) : Int) ||| BitVec.ofInt IntKind.u64.bits (u : Int)).toNat : Nat) : Int)) = .int .u64 ((n * 2 ^ w + u : Nat) : Int) := by
 show Value.int .u64 (IntKind.u64.wrap (((BitVec.ofInt 64 ((n * 2 ^ w : Nat) : Int) ||| BitVec.ofInt 64 (u : Int)).toNat : Nat) : Int)) = _
 rw [BitVec.ofInt_natCast, BitVec.ofInt_natCast, BitVec.toNat_or, BitVec.toNat_ofNat, BitVec.toNat_ofNat, Nat.mod_eq_of_lt (by omega), Nat.mod_eq_of_lt (by omega), <- Nat.shiftLeft_eq, <- Nat.shiftLeft_add_eq_or_of_lt hu, Nat.shiftLeft_eq, Go.IntWalk.u64_in _ (by omega)]
theorem HX {t : Nat} (hn : n < 2 ^ t) (hu : u < 2 ^ w) : n * 2 ^ w + u < 2 ^ (t + w) := by
 have : (n + 1) * 2 ^ w <= 2 ^ t * 2 ^ w := Nat.mul_le_mul_right _ hn
 rw [Nat.pow_add]
 rw [Nat.add_mul] at this
 omega
theorem yZ (p : Nat) (s : ByteArray) (u v : Value) : FSpec prog 32 #[Pt p 0, u, v] (WrP p s true) (fun _ : Unit => True) (fun _ => .tuple #[]) (fun _ => WrP p s true) := by
 refine en func32 r fun _ F=>gh fun x =>dY _ (ak _ _ _)<|js<|sa r<|lv (bj r r) r<|ea r<|go r<|ea r<|go r<|ea r<|go r<|fz r<|go r<|ld r r<|an r<|ct r<|jr<|kd ?_
 exact kZ rfl () trivial rfl (WrP.fold x)
theorem Bf (p : Nat) (s : ByteArray) (R0 : ab) (A B : Option Addr) (c1 c2 : Nat) (ws ls : List Int) (hR : RdS R0 n3 1 A ws) (hL : RdS R0 n3 1 B ls) (hn : ws.length <= 1000000 /\ ls.length <= 1000000) (hw : ∀ v ∈ ws, -9223372036854775808 <= v /\ v <= 9223372036854775807) (hl : ∀ v ∈ ls, -9223372036854775808 <= v /\ v <= 9223372036854775807) (hne : kz ws ≠ 0) (hlen : ws.length = ls.length) (hs : s.size <= 1099511627776) : FSpec prog 32 #[Pt p 0, .slice A ws.length c1, .slice B ls.length c2] ((aa (WrP p s false) (R0))) (fun _ : Unit => True) (fun _ => .tuple #[]) (fun _ => (aa (WrP p (iQ s false ws ls).1 (iQ s false ws ls).2) (R0))) := by
 obtain ⟨c, hc1, hc4, hcw, hcs⟩ := uV hne
 refine en func32 r fun _ F=>dY _ (ak _ _ _)<|gh fun x =>dY _ (ak _ _ _)<|js<|sa r<|lv (bj r r) r<|ea r<|go r<|ea r<|go r<|ea r<|go r<|fz r<|go r<|ld r r<|an r<|cf r<|sk<|sa r<|cy (ri R0 A c1 ws hR (by omega) hw) r fun _=>?_
 rw [hcw]
 refine an r<|js<|sb r<|bJ r<|ea r<|go r<|ea r<|go r<|ll r<|go r<|ea r<|go r<|ll r<|go r<|bJ r<|eb r<|fz r<|so r r<|nr<|eb r<|fz r<|ld r r<|nf r<|sk<|aE r<|js<|sa r<|ll r<|an r<|jb ?_
 refine bX (X := Nat × Nat × Nat) (fun y => [(0, Pt p 0), (1, .slice A ws.length c1), (6, I (8 * c : Nat)), (7, .int .u64 y.2.1), (36, .slice B ls.length c2), (37, I ls.length), (38, I y.1)]) (fun y => (aa (am p [.slice x.1 (ByteArray.size s) x.2, Ff] 84) (aa (Ow 5 1 (.slice x.1 (ByteArray.size s) x.2) (ByteArray.size s) (bV s)) (aa (R0) (F))))) (fun y => y.1 <= ls.length /\ 8 * c <= 32 /\ y.2.1 < 2 ^ y.2.2 /\ m3 0 ws ls = m3 y.2.1 (ws.drop y.1) (ls.drop y.1) /\ fS (y.2.2 : Int) (ws.drop y.1) = some ((8 * c : Nat) : Int)) (fun y => ls.length - y.1) ((0, 0, 0)) ⟨Nat.zero_le _, by omega, by decide, rfl, hcs⟩ ⟨rfl, rfl, rfl, rfl, rfl, rfl, rfl, trivial⟩ Ent.take (fun y hy => ?_)
 obtain ⟨hk, hc32, hlt, hpk, hsum⟩ := hy
 have ht := lq hsum
 refine sr<|lv (aM r r) r<|nj ?_
 refine aG rfl (fun h1 => ?_) (fun h1 => ?_)
 ·have hkl : y.1 < ls.length := by omega
  obtain ⟨v, hv⟩ : ∃ v, ws[y.1]? = some v := ⟨_, List.getElem?_eq_getElem (show y.1 < ws.length by omega)⟩
  obtain ⟨u, hu⟩ : ∃ u, ls[y.1]? = some u := ⟨_, List.getElem?_eq_getElem hkl⟩
  obtain ⟨b, o, rfl⟩ := hR.nonnil y.1 (by omega)
  obtain ⟨b2, o2, rfl⟩ := hL.nonnil y.1 hkl
  have hpd := u3 (n := y.2.1) hv hu
  have hsd := kI (n := (y.2.2 : Int)) hv
  have hwv := hw v (List.mem_of_getElem? hv)
  have hlu := hl u (List.mem_of_getElem? hu)
  have hv1 : 1 <= v /\ v <= 32 := by (rw [hsum] at hsd; split at hsd; cases hsd; omega)
  rw [if_neg (by omega), hsum] at hsd
  have htv := lq hsd.symm
  obtain ⟨w, rfl⟩ : ∃ w : Nat, v = w := ⟨v.toNat, by omega⟩
  refine sk<|js<|jb<|sa r<|lv (au r r (by omega)) r<|lv (ar r (bU (S := R0) (hL.rd b2 o2 r y.1 u 0 _ hu r))) r<|eb r<|nj<|sr<|ed r<|lv (au r r (by omega)) r<|lv (ar r (bU (S := R0) (hR.rd b o r y.1 (w : Int) 0 _ hv r))) r<|cy (kT u (w : Int) (by omega) hlu) r fun _=>cj<|lv (lG r) r<|ea r<|fz r<|so r r<|nr<|eb r<|fz r<|ld r r<|nk ?_
  refine aG rfl (fun h2 => ?_) (fun h2 => ?_)
  ·rw [decide_eq_true h2]
   refine jr<|kd<|kq<|kd<|kd<|kq<|kd ?_
   rw [if_neg (show ¬ jE u ((w : Int)).toNat from h2)] at hpd
   rw [show iQ s false ws ls = (s, true) by unfold iQ; rw [if_neg (by decide), if_neg (by omega), hpk, hpd]]
   exact kZ rfl () trivial rfl (Ent.trans (Ent.take (Q := (aa (am p [.slice x.1 (ByteArray.size s) x.2, Tt] 84) (aa (Ow 5 1 (.slice x.1 (ByteArray.size s) x.2) (ByteArray.size s) (bV s)) ((aa (R0) (F))))))) (Ent.trans (WrP.fold x) (Ent.of (ak _ _ _).symm)))
  ·have hfit : jE u w := Classical.not_not.1 h2
   obtain ⟨k, rfl, hk2⟩ := zX hfit (by omega)
   have hgr := HX hlt hk2
   have hp32 : 2 ^ (y.2.2 + w) <= 4294967296 := Nat.le_trans (Nat.pow_le_pow_right (by decide) (show y.2.2 + w <= 32 by omega)) (by decide)
   rw [show (↑w : Int).toNat = w from rfl, if_pos hfit] at hpd
   rw [decide_eq_false h2]
   refine sk<|jg<|ec r<|lv (au r r (by omega)) r<|lv (ar r (bU (S := R0) (hR.rd b o r y.1 (w : Int) 0 _ hv r))) r<|lv (bw r (Go.IntWalk.u64_in _ (by omega))) r<|lv ((gC r r (by omega)).as (EK (v := (w : Int)) (by show w <= 64; omega) (by show y.2.1 * 2 ^ w < _; omega))) r<|ea r<|lv (bw r (Go.IntWalk.u64_in _ (by omega))) r<|lv ((s9 r r).as (HM hk2 (by omega))) r<|ea r<|ln<|kb<|kt<|jg<|gE r<|ea r<|ln ?_
   exact bO ((y.1 + 1, y.2.1 * 2 ^ w + k, y.2.2 + w)) ⟨by show y.1 + 1 <= _; omega, by show 8 * c <= 32; omega, by show y.2.1 * 2 ^ w + k < 2 ^ (y.2.2 + w); exact hgr, by rw [hpk, hpd]; rfl, by rw [hsd]; rfl⟩ (by show _ - (y.1 + 1) < _; omega) ⟨rfl, rfl, rfl, rfl, rfl, rfl, rfl, trivial⟩ (by exact Ent.take)
 ·have he : y.1 = ls.length := by omega
  have hp32 : 2 ^ y.2.2 <= 4294967296 := Nat.le_trans (Nat.pow_le_pow_right (by decide) (show y.2.2 <= 32 by omega)) (by decide)
  refine fC (aa (WrP p s false) ((aa (R0) (F)))) (WrP.fold x)<|cx<|ke<|ke<|kh<|kt<|jg<|eb r<|lv (bw r (Go.IntWalk.i64_in _ (by omega))) r<|ea r<|cy (pT p s false ((y.2.1 : Nat) : Int) c (by omega) (by omega) hs) r fun _=>ln ?_
  have e0 : m3 0 ws ls = some y.2.1 := by
   rw [hpk, he, List.drop_length, <- hlen, List.drop_length]
   rfl
  have e1 : iQ s false ws ls = jK s false y.2.1 c := by
   unfold iQ
   rw [if_neg (by decide), if_neg (by omega), e0, hcw]
   show jK s false y.2.1 ((8 * c) / 8) = _
   rw [Nat.mul_div_cancel_left _ (by decide)]
  rw [e1]
  exact eG rfl () trivial rfl (Ent.trans Ent.take (Ent.of (ak _ _ _).symm))
end
theorem kl {p : Nat} {F : ab} : Ent (aa (am p [Ns, Ff] 84) (F)) (aa (WrP p (aY []) false) (F)) :=
 Ent.trans (aw (Ent.trans (Ent.of (bN _).symm) ((Ow.nil 5 1).frame F)) _) (WrP.fold (s := aY []) (none, 0))
theorem RdS.lit {S R : ab} {α : Type} {en : α -> List Value} {m b : Nat} {te : TypeId} {xs : List α} {cells : List Value} [h : Look S b cells te R] (hc : cells = xs.flatMap en) (hm : ∀ x, (en x).length = m) : RdS S en m (some (ad b 0)) xs := by
 subst hc
 refine ⟨fun _ _ => ⟨b, 0, rfl⟩, fun b' o' e i x j u hi hj => ?_⟩
 simp only [Option.some.injEq, Addr.mk.injEq] at e
 obtain ⟨rfl, rfl, _⟩ := e
 have hjm : j < m := by
  rcases Nat.lt_or_ge j (en x).length with h | h
  ·rw [<- hm x]; exact h
  ·rw [List.getElem?_eq_none h] at hj; cases hj
 refine aC (l := xs.flatMap en) ?_
 rw [Nat.zero_add, lQ hm xs i j x hi hjm, hj]
theorem n2 (x : Int) : (n3 x).length = 1 := rfl
theorem fA (p : Nat) (s t : ByteArray) (hs : s.size <= 1099511627776) (ht : t.size <= 1099511627776) : FSpec prog 27 #[Pt p 0, .string t] (WrP p s false) (fun _ : Unit => True) (fun _ => .tuple #[]) (fun _ => WrP p (s ++ t) false) := by
 refine en func27 r fun _ F=>gh fun x =>dY _ (ak _ _ _)<|sa r<|lv (fO r r) r<|ea r<|go r<|ea r<|go r<|ea r<|go r<|fz r<|go r<|ld r r<|go r<|lv (fF r) r<|an r<|ct r<|jg<|ec r<|fz r<|ld r r<|ea r<|lx r (rI r r r (by unfold maxLen; omega) (by omega) r) fun y19 _=>ea r<|fz r<|so r r<|ln ?_
 rw [<- dC, <- ByteArray.size_append]
 exact eG rfl () trivial rfl (Ent.trans Ent.take (WrP.fold y19))
theorem qc (s : ByteArray) : gn s <= 65535 := Nat.sub_le _ _
theorem nK {s : ByteArray} {m : Int} {k c : Nat} (hm : m = k) (h : k / 2 ^ (8 * c) = 0) (hc : c <= 4) : jK s false m c = (s ++ be k c, false) := by
 subst hm
 have e : jE (k : Int) (8 * c) := by
  refine ⟨by omega, ?_⟩
  rw [Int.toNat_natCast, Nat.min_eq_left (by omega)]
  have e2 : (2 : Int) ^ (8 * c) = ((2 ^ (8 * c) : Nat) : Int) := by rw [Int.natCast_pow]; rfl
  rw [e2, <- Int.natCast_ediv, h]
  rfl
 unfold jK
 rw [if_neg (by decide), if_pos e]
 rfl
theorem iB (p : Nat) (s : ByteArray) (k : Nat) (hk : k <= 65535) (hs : s.size <= 1099511627776) : FSpec prog 24 #[Pt p 0, I k] (WrP p s false) (fun _ : Unit => True) (fun _ => .tuple #[]) (fun _ => WrP p (s ++ be k 2) false) := by
 have := xY p s false k (by omega) hs
 rwa [nK rfl (by show k / 65536 = 0; omega) (by decide)] at this
theorem lJ (s : ByteArray) : aY [] ++ s = s := by
 show ByteArray.empty ++ s = s
 simp
theorem xZ (p : Nat) (s : ByteArray) (m : Int) (hk : 0 <= m /\ m <= 65535) (hs : s.size <= 1099511627776) : FSpec prog 24 #[Pt p 0, I m] (WrP p s false) (fun _ : Unit => True) (fun _ => .tuple #[]) (fun _ => WrP p (s ++ be m.toNat 2) false) := by
 obtain ⟨k, rfl⟩ : ∃ k : Nat, m = k := ⟨m.toNat, by omega⟩
 exact iB p s k (by omega) hs
theorem iU (s : ByteArray) : FSpec prog 41 #[.string s] (emp) (fun p : Nat => True) (fun p => Pt p 0) (fun p => am p [.string s, I 0] 176) := by
 refine en func41 r fun _ F=>bG<|aE r<|sa r<|lv (af r) r<|bx r fun p=>an r<|jr ?_
 exact aD rfl rfl p trivial rfl (ah _)
abbrev _root_.Go.qq53 (a : Nat) (b : ByteArray) (c : Int) := am a [.string b, I c] 176
theorem gR (p : Nat) (s : ByteArray) (e : Int) : FSpec prog 55 #[Pt p 0] (qq53 p s e) (fun _ : Unit => True) (fun _ => I e) (fun _ => am p [.string s, I e] 176) := by
 refine en func55 r fun _ F=>aE r<|js<|sa r<|lv (bj r r) r<|nf r<|sk<|sb r<|fz r<|ld r r<|an r<|jr ?_
 exact aD rfl rfl () trivial (rfl) (ah _)
theorem mI (p : Nat) (s : ByteArray) (e : Int) : FSpec prog 45 #[Pt p 0] (qq53 p s e) (fun _ : Unit => True) (fun _ => I s.size) (fun _ => am p [.string s, I e] 176) := by
 refine en func45 r fun _ F=>aE r<|js<|sa r<|lv (bj r r) r<|nf r<|sk<|sb r<|fz r<|ld r r<|lv (aX r) r<|an r<|jr ?_
 exact aD rfl rfl () trivial (rfl) (ah _)
theorem vZ (p : Nat) (s : ByteArray) (e m : Int) (he : e ≠ 0) : FSpec prog 44 #[Pt p 0, I m] (qq53 p s e) (fun _ : Unit => True) (fun _ => .string ByteArray.empty) (fun _ => am p [.string s, I e] 176) := by
 refine en func44 r fun _ F=>aE r<|js<|sa r<|cy (gR p s e) r fun _=>lv ((bs r r).bool_t he) r<|nt r<|aE r<|jr<|kd ?_
 exact aD rfl rfl () trivial (rfl) (ah _)
abbrev _root_.Go.qq46 (a : Nat) (b : ByteArray) := am a [.string b, I 0] 176
theorem vY (p : Nat) (s : ByteArray) (m : Int) (h : m < 0) : FSpec prog 44 #[Pt p 0, I m] (qq46 p s) (fun _ : Unit => True) (fun _ => .string ByteArray.empty) (fun _ => am p [.string s, I 1] 176) := by
 refine en func44 r fun _ F=>aE r<|js<|sa r<|cy (gR p s 0) r fun _=>bJ r<|nf r<|sk<|js<|jb<|sa r<|lv ((aM r r).bool_t h) r<|an r<|ct r<|sb r<|fz r<|so r r<|nr<|an r<|jr<|kq<|kd ?_
 exact aD rfl rfl () trivial (rfl) (ah _)
theorem sK (p : Nat) (s : ByteArray) (m : Int) (h : (s.size : Int) < m) : FSpec prog 44 #[Pt p 0, I m] (qq46 p s) (fun _ : Unit => True) (fun _ => .string ByteArray.empty) (fun _ => am p [.string s, I 10] 176) := by
 refine en func44 r fun _ F=>aE r<|js<|sa r<|cy (gR p s 0) r fun _=>bJ r<|nf r<|sk<|js<|jb<|sa r<|bJ r<|an r<|cf r<|sr<|ec r<|fz r<|ld r r<|lv (aX r) r<|lv ((bt r r).bool_t h) r<|an r<|ct r<|sb r<|fz r<|so r r<|nr<|an r<|jr<|kq<|kd ?_
 exact aD rfl rfl () trivial (rfl) (ah _)
theorem oq (p : Nat) (s : ByteArray) (m : Nat) (h : m <= s.size) : FSpec prog 44 #[Pt p 0, I m] (qq46 p s) (fun _ : Unit => True) (fun _ => .string (s.extract 0 m)) (fun _ => am p [.string (s.extract m s.size), I 0] 176) := by
 refine en func44 r fun _ F=>aE r<|js<|sa r<|cy (gR p s 0) r fun _=>bJ r<|nf r<|sk<|js<|jb<|sa r<|bJ r<|an r<|cf r<|sr<|ec r<|fz r<|ld r r<|lv (aX r) r<|bJ r<|an r<|cf r<|cY<|sb r<|fz r<|ld r r<|ea r<|lv ((dW r r (by omega)).as (congrArg (fun k => Value.string (s.extract 0 k)) (Int.toNat_natCast m))) r<|an r<|sr<|ec r<|fz r<|ld r r<|ea r<|lv ((gW r r (by omega)).as (congrArg (fun k => Value.string (s.extract k s.size)) (Int.toNat_natCast m))) r<|ea r<|fz r<|so r r<|nr<|eb r<|nk<|jr ?_
 exact aD rfl rfl () trivial (rfl) Ent.take
def eC (s : ByteArray) : Nat -> Nat
 | 0 => 0
 | k + 1 => eC s k * 256 + bn s k
theorem lI (s : ByteArray) : ∀ k, eC s k < 256 ^ k
 | 0 => Nat.one_pos
 | k + 1 => by
  have h1 := lI s k
  have h2 := lX s k
  rw [eC, Nat.pow_succ]
  omega
def cU (s : ByteArray) (e m : Int) : ByteArray × ByteArray × Int :=
 if e ≠ 0 then (ByteArray.empty, s, e) else if m < 0 then (ByteArray.empty, s, 1) else if (s.size : Int) < m then (ByteArray.empty, s, 10) else (s.extract 0 m.toNat, s.extract m.toNat s.size, 0)
theorem pz (p : Nat) (s : ByteArray) (e m : Int) : FSpec prog 44 #[Pt p 0, I m] (qq53 p s e) (fun _ : Unit => True) (fun _ => .string (cU s e m).1) (fun _ => am p [.string (cU s e m).2.1, I (cU s e m).2.2] 176) := by
 unfold cU
 by_cases he : e ≠ 0
 ·rw [if_pos he]
  exact vZ p s e m he
 ·have he : e = 0 := Classical.not_not.1 he
  subst he
  rw [if_neg (by decide)]
  by_cases h1 : m < 0
  ·rw [if_pos h1]
   exact vY p s m h1
  ·rw [if_neg h1]
   by_cases h2 : (s.size : Int) < m
   ·rw [if_pos h2]
    exact sK p s m h2
   ·rw [if_neg h2]
    obtain ⟨k, rfl⟩ : ∃ k : Nat, m = k := ⟨m.toNat, by omega⟩
    rw [Int.toNat_natCast]
    exact oq p s k (by omega)
theorem u9 (T : ByteArray) (k : Nat) (hk : k + 1 <= 4) : Value.int .u32 (IntKind.u32.wrap (((BitVec.ofInt IntKind.u32.bits ((eC T k * 2 ^ 8 : Nat) : Int) ||| BitVec.ofInt IntKind.u32.bits ((bn T k : Nat) : Int)).toNat : Nat) : Int)) = .int .u32 ((eC T (k + 1) : Nat) : Int) := by
 have h1 := lI T (k + 1)
 have h2 : 256 ^ (k + 1) <= 256 ^ 4 := Nat.pow_le_pow_right (by decide) hk
 have h3 : (256 : Nat) ^ 4 = 4294967296 := by decide
 have h4 := lX T k
 have h5 : eC T (k + 1) = eC T k * 2 ^ 8 + bn T k := rfl
 show Value.int .u32 (IntKind.u32.wrap (((BitVec.ofInt 32 ((eC T k * 2 ^ 8 : Nat) : Int) ||| BitVec.ofInt 32 ((bn T k : Nat) : Int)).toNat : Nat) : Int)) = _
 rw [BitVec.ofInt_natCast, BitVec.ofInt_natCast, BitVec.toNat_or, BitVec.toNat_ofNat, BitVec.toNat_ofNat, Nat.mod_eq_of_lt (by omega), Nat.mod_eq_of_lt (by omega), <- Nat.shiftLeft_eq, <- Nat.shiftLeft_add_eq_or_of_lt (by omega), Nat.shiftLeft_eq, <- h5, Go.IntWalk.u32_in _ (by omega)]
theorem xi (T : ByteArray) (k : Nat) (hk : k + 1 <= 4) : IntKind.u32.wrap (((eC T k : Nat) : Int) * 2 ^ (min (Int.toNat 8) IntKind.u32.bits)) = ((eC T k * 2 ^ 8 : Nat) : Int) := by
 have h1 := lI T (k + 1)
 have h2 : 256 ^ (k + 1) <= 256 ^ 4 := Nat.pow_le_pow_right (by decide) hk
 have h3 : (256 : Nat) ^ 4 = 4294967296 := by decide
 have h5 : eC T (k + 1) = eC T k * 2 ^ 8 + bn T k := rfl
 show IntKind.u32.wrap (((eC T k : Nat) : Int) * 256) = _
 rw [Go.IntWalk.u32_in _ (by omega)]
 omega
theorem nz (s : ByteArray) (e : Int) (c : Nat) : (cU s e c).1.size <= c := by
 unfold cU
 split
 ·exact Nat.zero_le _
 ·split
  ·exact Nat.zero_le _
  ·split
   ·exact Nat.zero_le _
   ·rw [Int.toNat_natCast, ByteArray.size_extract]
    omega
theorem iE (s : ByteArray) (c : Nat) (h : c <= s.size) : cU s 0 c = (s.extract 0 c, s.extract c s.size, 0) := by
 unfold cU
 rw [if_neg (by decide), if_neg (by omega), if_neg (by omega), Int.toNat_natCast]
theorem jN (p : Nat) (s : ByteArray) (e : Int) (c : Nat) (hc : c <= 4) : FSpec prog 77 #[Pt p 0, I (8 * c : Nat)] (qq53 p s e) (fun _ : Unit => True) (fun _ => .int .u32 (eC (cU s e (c : Int)).1 (ByteArray.size (cU s e (c : Int)).1))) (fun _ => am p [.string (cU s e (c : Int)).2.1, I (cU s e (c : Int)).2.2] 176) := by
 have hts := nz s e c
 refine en func77 r fun _ F=>aE r<|aE r<|js<|sb r<|lv ((nP r r (by omega)).as (v' := I (c : Int)) (by rw [show ((8 * c : Nat) : Int) / 8 = (c : Int) by omega])) r<|cy (pz p s e (c : Int)) r fun _=>lx r (dV r r) fun y12 _=>ll r<|an r<|jb ?_
 refine bX (X := Nat) (fun k => [(5, .int .u32 (eC (cU s e (c : Int)).1 k)), (12, Sk y12.1 0 (ByteArray.size (cU s e (c : Int)).1) y12.2), (13, I (ByteArray.size (cU s e (c : Int)).1)), (14, I k)]) (fun k => (aa (byb y12.1 (cU s e (c : Int)).1 y12.2 5) (aa (am p [.string (cU s e (c : Int)).2.1, I (cU s e (c : Int)).2.2] 176) (F)))) (fun k => k <= ByteArray.size (cU s e (c : Int)).1) (fun k => ByteArray.size (cU s e (c : Int)).1 - k) (0) (Nat.zero_le _) ⟨rfl, rfl, rfl, rfl, trivial⟩ (ah _) (fun k hk => ?_)
 have hlt := lX (cU s e (c : Int)).1 k
 refine sr<|lv (aM r r) r<|nj ?_
 refine aG rfl (fun h1 => ?_) (fun h1 => ?_)
 ·refine sk<|js<|jb<|sr<|lv (au r r (by omega)) r<|lv ((ar r (Rd.byb (s := (cU s e (c : Int)).1) (c := y12.2) (e := 5) (by omega))).as (v' := U8 ((bn (cU s e (c : Int)).1 k : Nat) : Int)) (congrArg (fun j => U8 (qr (cU s e (c : Int)).1 j)) (by omega))) r<|an r<|jg<|ea r<|lv ((gC r r (by omega)).as (congrArg (Value.int .u32) (xi (cU s e (c : Int)).1 k (by omega)))) r<|ea r<|lv (bw r (Go.IntWalk.u32_in _ (by omega))) r<|lv ((s9 r r).as (u9 (cU s e (c : Int)).1 k (by omega))) r<|ea r<|ln<|kb ?_
  refine kt<|jg<|gE r<|ea r<|ln ?_
  exact bO (k + 1) (by omega) (by omega) ⟨rfl, rfl, rfl, rfl, trivial⟩ Ent.take
 ·refine cx ?_
  refine ke<|ke<|kh<|kt<|sb r<|nk<|jr ?_
  obtain rfl : k = ByteArray.size (cU s e (c : Int)).1 := by omega
  exact aD rfl rfl () trivial (rfl) Ent.take
section
variable {a b s : ByteArray} {i c : Nat}
theorem fc (h : i < a.size) : bn (a ++ b) i = bn a i := by
 have : i < a.data.toList.length := by rw [Array.length_toList]; exact h
 unfold bn
 rw [ByteArray.data_append, Array.toList_append, List.getD_eq_getElem?_getD, List.getD_eq_getElem?_getD, List.getElem?_append_left this]
theorem gK (h : a.size <= i) : bn (a ++ b) i = bn b (i - a.size) := by
 have e : a.data.toList.length = a.size := by rw [Array.length_toList]; rfl
 have : a.data.toList.length <= i := by rw [e]; exact h
 unfold bn
 rw [ByteArray.data_append, Array.toList_append, List.getD_eq_getElem?_getD, List.getD_eq_getElem?_getD, List.getElem?_append_right this, e]
theorem xS (hs : a.size = b.size) (h : ∀ i, i < a.size -> bn a i = bn b i) : a = b := by
 have ea : a.data.toList.length = a.size := by rw [Array.length_toList]; rfl
 have eb : b.data.toList.length = b.size := by rw [Array.length_toList]; rfl
 have e : a.data.toList = b.data.toList := by
  refine List.ext_getElem (by omega) fun i h1 h2 => ?_
  have := h i (by omega)
  unfold bn at this
  rw [List.getD_eq_getElem?_getD, List.getD_eq_getElem?_getD, List.getElem?_eq_getElem h1, List.getElem?_eq_getElem h2] at this
  exact UInt8.toNat_inj.1 this
 cases a; cases b
 simp only at e
 rw [Array.toList_inj.1 e]
theorem bH (s : ByteArray) (a b : Nat) (h : b <= s.size) : (s.extract a b).size = b - a := by rw [ByteArray.size_extract]; omega
theorem cI {a b : Nat} (h : a + i < b) (hb : b <= s.size) : bn (s.extract a b) i = bn s (a + i) := by
 unfold bn
 have e : s.data.toList.length = s.size := by rw [Array.length_toList]; rfl
 rw [ByteArray.data_extract, List.getD_eq_getElem?_getD, List.getD_eq_getElem?_getD, Array.getElem?_toList, Array.getElem?_toList, Array.getElem?_extract, if_pos (by
  show i < min b s.size - a
  omega)]
theorem tD (m c : Nat) : bn (be m (c + 1)) 0 = m / 256 ^ c % 256 := by
 rw [be, fc (by rw [aZ]; exact Nat.one_pos)]
 show (UInt8.ofNat (((m / 256 ^ c % 256 : Nat) : Int)).toNat).toNat = _
 rw [Int.toNat_natCast, UInt8.toNat_ofNat', Nat.mod_eq_of_lt (Nat.mod_lt _ (by decide))]
theorem CW (m c i : Nat) : bn (be m (c + 1)) (i + 1) = bn (be m c) i := by
 rw [be, gK (by rw [aZ]; simp), aZ]
 rfl
def bE (s : ByteArray) (i : Nat) : Nat := bn s i * 256 + bn s (i + 1)
theorem uk (s : ByteArray) (i : Nat) : bE s i < 65536 := by
 have := lX s i
 have := lX s (i + 1)
 unfold bE
 omega
theorem j7 {m : Nat} (h : m <= 65535) : bE (be m 2) 0 = m := by
 unfold bE
 rw [tD, CW, tD]
 omega
theorem dj (h : i + 1 < a.size) : bE (a ++ b) i = bE a i := by unfold bE; rw [fc (by omega), fc (by omega)]
theorem i1 (h : a.size <= i) : bE (a ++ b) i = bE b (i - a.size) := by unfold bE; rw [gK h, gK (by omega), show i + 1 - a.size = i - a.size + 1 by omega]
theorem sf (n : Nat) : fold n % 65535 = n % 65535 := by
 induction n using Nat.strongRecOn with
 | _ n ih =>
  rw [fold]
  split
  ·rfl
  ·rw [ih _ (by omega)]; omega
theorem sd (n : Nat) (h : 0 < n) : 0 < fold n := by
 induction n using Nat.strongRecOn with
 | _ n ih =>
  rw [fold]
  split
  ·exact h
  ·exact ih _ (by omega) (by omega)
theorem nx {s r : ByteArray} : ∀ k, (∀ i, i < k -> bn s i = bn r i) -> eP s k = eP r k
 | 0, _ => rfl
 | k + 1, h => by rw [eP, eP, nx k (fun i hi => h i (by omega)), h k (by omega)]
theorem oP {s : ByteArray} : ∀ {k n : Nat}, k <= n -> eP s k <= eP s n
 | k, 0, h => by rw [show k = 0 by omega]; exact Nat.le_refl _
 | k, n + 1, h => by
  rcases Nat.lt_or_ge k (n + 1) with h' | h'
  ·have := oP (s := s) (k := k) (n := n) (by omega)
   rw [eP]
   omega
  ·rw [show k = n + 1 by omega]; exact Nat.le_refl _
theorem oX (r : ByteArray) (h : 2 <= r.size) : eC (r.extract 0 2) 2 = bE r 0 := by
 show (0 * 256 + bn (r.extract 0 2) 0) * 256 + bn (r.extract 0 2) 1 = _
 rw [cI (by omega) h, cI (by omega) h]
 unfold bE
 rw [Nat.add_zero]
 omega
theorem rS (s : ByteArray) (e : Int) (c : Nat) (hc : c <= 4) : eC (cU s e c).1 (cU s e c).1.size < 256 ^ c := by
 have h1 := lI (cU s e c).1 (cU s e c).1.size
 have h2 := nz s e c
 exact Nat.lt_of_lt_of_le h1 (Nat.pow_le_pow_right (by decide) h2)
def cV (c : Nat) (q : ByteArray × Int) : ByteArray × Int := ((cU q.1 q.2 c).2.1, (cU q.1 q.2 c).2.2)
theorem rT (h : c <= s.size) : cV c (s, 0) = (s.extract c s.size, 0) := by unfold cV; rw [iE s c h]
theorem ja {q : ByteArray × Int} : (cV c q).1.size <= q.1.size /\ ((cV c q).2 = 0 -> q.2 = 0 /\ (cV c q).1.size + c = q.1.size) := by
 unfold cV cU
 split
 ·exact ⟨Nat.le_refl _, fun h => absurd h (by assumption)⟩
 ·split
  ·exact ⟨Nat.le_refl _, fun h => by cases h⟩
  ·split
   ·exact ⟨Nat.le_refl _, fun h => by cases h⟩
   ·rw [Int.toNat_natCast]
    dsimp only
    rw [ByteArray.size_extract]
    exact ⟨by omega, fun _ => ⟨Classical.not_not.1 (by assumption), by omega⟩⟩
theorem sJ (p : Nat) (s : ByteArray) (e : Int) : FSpec prog 46 #[Pt p 0] (qq53 p s e) (fun _ : Unit => True) (fun _ => I (eC (cU s e (1 : Nat)).1 (ByteArray.size (cU s e (1 : Nat)).1))) (fun _ => am p [.string (cV 1 (s, e)).1, I (cV 1 (s, e)).2] 176) := by
 have hlt := rS s e 1 (by decide)
 have hpw : (256 : Nat) ^ 1 = 256 := by decide
 refine en func46 r fun _ F=>aE r<|sa r<|cy (jN p s e 1 (by decide)) r fun _=>lv (bw r (Go.IntWalk.i64_in _ (by omega))) r<|an r<|jr ?_
 exact aD rfl rfl () trivial (rfl) (ah _)
theorem iV (p : Nat) (s : ByteArray) (e : Int) : FSpec prog 43 #[Pt p 0] (qq53 p s e) (fun _ : Unit => True) (fun _ => I (eC (cU s e (2 : Nat)).1 (ByteArray.size (cU s e (2 : Nat)).1))) (fun _ => am p [.string (cV 2 (s, e)).1, I (cV 2 (s, e)).2] 176) := by
 have hlt := rS s e 2 (by decide)
 have hpw : (256 : Nat) ^ 2 = 65536 := by decide
 refine en func43 r fun _ F=>aE r<|sa r<|cy (jN p s e 2 (by decide)) r fun _=>lv (bw r (Go.IntWalk.i64_in _ (by omega))) r<|an r<|jr ?_
 exact aD rfl rfl () trivial (rfl) (ah _)
theorem vW (p : Nat) (s : ByteArray) (e : Int) : FSpec prog 56 #[Pt p 0] (qq53 p s e) (fun _ : Unit => True) (fun _ => .string (cU s e s.size).1) (fun _ => am p [.string (cU s e s.size).2.1, I (cU s e s.size).2.2] 176) := by
 refine en func56 r fun _ F=>aE r<|sb r<|cy (mI p s e) r fun _=>cy (pz p s e s.size) r fun _=>an r<|jr ?_
 exact aD rfl rfl () trivial (rfl) Ent.take
theorem qL (p : Nat) (r : ByteArray) (h : 2 <= r.size) : FSpec prog 43 #[Pt p 0] (qq46 p r) (fun _ : Unit => True) (fun _ => I (bE r 0)) (fun _ => am p [.string (r.extract 2 r.size), I 0] 176) := by
 have := iV p r 0
 have e := iE r 2 h
 have hz := bH r 0 2 h
 rw [rT h, e] at this
 rw [hz, oX r h] at this
 exact this
theorem ns (s : ByteArray) (o k : Nat) : (s.extract o s.size).extract k (s.extract o s.size).size = s.extract (o + k) s.size := by
 rw [ByteArray.extract_extract, ByteArray.size_extract]
 congr 1
 omega
theorem rf {o : Nat} (h : o + i + 2 <= s.size) : bE (s.extract o s.size) i = bE s (o + i) := by
 unfold bE
 rw [cI (by omega) (Nat.le_refl _), cI (by omega) (Nat.le_refl _), Nat.add_assoc]
theorem jw (p o : Nat) (s : ByteArray) (h : o + 2 <= s.size) : FSpec prog 43 #[Pt p 0] (am p [.string (s.extract o s.size), I 0] 176) (fun _ : Unit => True) (fun _ => I (bE s o)) (fun _ => am p [.string (s.extract (o + 2) s.size), I 0] 176) := by
 have := qL p (s.extract o s.size) (by rw [bH s _ _ (Nat.le_refl _)]; omega)
 rw [ns, rf (by omega)] at this
 exact this
theorem uN (p : Nat) (s : ByteArray) : FSpec prog 56 #[Pt p 0] (qq46 p s) (fun _ : Unit => True) (fun _ => .string s) (fun _ => am p [.string ByteArray.empty, I 0] 176) := by
 have := vW p s 0
 rw [iE s s.size (Nat.le_refl _), ByteArray.extract_same, ByteArray.extract_zero_size] at this
 exact this
end
section
variable {k : Nat}
instance : Zer prog 317 (List.replicate 256 (.int .u32 0)) := {}
def BL (c : Int) : Int := IntKind.u32.wrap (((BitVec.ofInt IntKind.u32.bits (c.fdiv (2 ^ (min (Int.toNat 1) IntKind.u32.bits))) ^^^ BitVec.ofInt IntKind.u32.bits (IntKind.u32.wrap ((BitVec.ofInt IntKind.u32.bits 3988292384 &&& BitVec.ofInt IntKind.u32.bits (IntKind.u32.wrap (0 - IntKind.u32.wrap ((BitVec.ofInt IntKind.u32.bits c &&& BitVec.ofInt IntKind.u32.bits 1).toNat : Int)))).toNat : Int))).toNat : Nat) : Int)
def lU (k : Nat) : Nat -> Int
 | 0 => (k : Int)
 | j + 1 => BL (lU k j)
def jD (k : Nat) : List Value := (List.range k).map (fun i => Value.int .u32 (lU i 8)) ++ List.replicate (256 - k) (.int .u32 0)
theorem wI (h : k <= 256) : (jD k).length = 256 := by simp [jD]; omega
theorem wH (h : k < 256) : jD (k + 1) = (jD k).take k ++ [.int .u32 (lU k 8)] ++ (jD k).drop (k + 1) := by
 unfold jD
 have h1 : ((List.range k).map (fun i => Value.int .u32 (lU i 8))).length = k := by simp
 rw [List.take_left' h1, List.range_succ, List.map_append, List.drop_append, List.drop_eq_nil_of_le (by rw [h1]; omega), h1, show k + 1 - k = 1 by omega, List.drop_replicate, show 256 - k - 1 = 256 - (k + 1) by omega]
 simp
theorem wJ {j : Nat} (h : j < 256) : (jD 256)[j]? = some (.int .u32 (lU j 8)) := by
 unfold jD
 rw [List.getElem?_append_left (by simpa using h), List.getElem?_map, List.getElem?_range h]
 rfl
def vz (c b : Int) : Nat := (BitVec.ofInt IntKind.u8.bits (IntKind.u8.wrap c) ^^^ BitVec.ofInt IntKind.u8.bits b).toNat
theorem uI (c b : Int) : vz c b < 256 := (BitVec.ofInt IntKind.u8.bits (IntKind.u8.wrap c) ^^^ BitVec.ofInt IntKind.u8.bits b).isLt
theorem CQ (c b : Int) : U8 (IntKind.u8.wrap ((BitVec.ofInt IntKind.u8.bits (IntKind.u8.wrap c) ^^^ BitVec.ofInt IntKind.u8.bits b).toNat : Int)) = U8 (vz c b : Int) := by
 have := uI c b
 rw [show ((BitVec.ofInt IntKind.u8.bits (IntKind.u8.wrap c) ^^^ BitVec.ofInt IntKind.u8.bits b).toNat : Int) = (vz c b : Int) from rfl, Go.IntWalk.u8_in _ (by omega)]
def Iy (c b : Int) : Int := IntKind.u32.wrap (((BitVec.ofInt IntKind.u32.bits (c.fdiv (2 ^ (min (Int.toNat 8) IntKind.u32.bits))) ^^^ BitVec.ofInt IntKind.u32.bits (lU (vz c b) 8)).toNat : Nat) : Int)
def kC (s : ByteArray) (c : Int) : Nat -> Int
 | 0 => c
 | k + 1 => Iy (kC s c k) (qr s k)
def sj (s : ByteArray) : Int := IntKind.u32.wrap ((BitVec.ofInt IntKind.u32.bits (if IntKind.u32.signed then -1 else IntKind.u32.max) ^^^ BitVec.ofInt IntKind.u32.bits (kC s 4294967295 s.size)).toNat : Int)
def jU (c : Int) (i : Nat) : Int := IntKind.u8.wrap (c.fdiv (2 ^ (min (Int.toNat (8 * i : Nat)) IntKind.u32.bits)))
def nC (s : ByteArray) : ByteArray := s ++ aY ((List.range 4).map (jU (sj s)))
theorem nB (s : ByteArray) : (nC s).size = s.size + 4 := by unfold nC; rw [ByteArray.size_append, aZ]; rfl
theorem wd  : FSpec prog 112 #[] (emp) (fun b : Nat => True) (fun b => Pt b 0) (fun b => am b (jD 256) 317) := by
 refine en func112 r fun _ F=>bG<|aE r<|sr<|lv (bQ (pl := []) r r) r<|bx r fun b5=>an r<|js<|aE r<|jb ?_
 refine bX (X := Nat) (fun k => [(1, Pt b5 0), (6, I (k : Int))]) (fun k => (aa (am b5 (jD k) 317) (F))) (fun k => k <= 256) (fun k => 256 - k) (0) (by omega) ⟨rfl, rfl, trivial⟩ (ah _) (fun k hk => ?_)
 refine sr<|lv (aM r r) r<|nj ?_
 refine aG rfl (fun h1 => ?_) (fun h1 => ?_)
 ·refine sk<|js<|jb<|sb r<|nr<|ea r<|lv (bw r (Go.IntWalk.u32_in _ (by omega))) r<|an r<|js<|aE r<|jb ?_
  refine bX (X := Nat) (fun j => [(1, Pt b5 0), (2, I (k : Int)), (6, I (k : Int)), (3, .int .u32 (lU k j)), (11, I (j : Int))]) (fun j => (aa (am b5 (jD k) 317) (F))) (fun j => j <= 8) (fun j => 8 - j) (0) (by omega) ⟨rfl, rfl, rfl, rfl, rfl, trivial⟩ (ah _) (fun j hj => ?_)
  refine sr<|lv (aM r r) r<|nj ?_
  refine aG rfl (fun h2 => ?_) (fun h2 => ?_)
  ·refine sk<|js<|jb<|jg<|ea r<|lv (i7 r r (by omega)) r<|ea r<|lv (fH r r) r<|lv (zK r) r<|lv (fH r r) r<|lv ((pY r r).as (v' := .int .u32 (lU k (j + 1))) r) r<|ea r<|ln<|kb<|kt<|jg ?_
   refine gE r<|ea r<|ln ?_
   exact bO (j + 1) (by omega) (by omega) ⟨rfl, rfl, rfl, rfl, rfl, trivial⟩ (ah _)
  ·have he : j = 8 := by omega
   subst he
   refine cx<|ke<|ke<|kh<|kt<|jg<|ed r<|lv (aK r r (by omega)) r<|lx r (iv (m := 1) (l := jD k) (vs := [.int .u32 (lU k 8)]) (l' := jD (k + 1)) r r r (by simp [Value.oneCell']) (by rw [wI (by omega)]; show 0 + (k : Int).toNat * 1 + 1 <= 256; omega) (by rw [show 0 + (k : Int).toNat * 1 = k by omega]; exact wH (by omega))) fun _ _=>ln<|kb<|kt<|jg<|gE r<|ea r<|ln ?_
   exact bO (k + 1) (by omega) (by omega) ⟨rfl, rfl, trivial⟩ (ah _)
 ·have he : k = 256 := by omega
  subst he
  refine cx<|ke<|ke<|kh<|kt<|sb r<|nk<|jr ?_
  exact aD rfl rfl b5 trivial rfl (ah _)
theorem A7 (b : Nat) (c : Int) (s : ByteArray) (hs : s.size <= 281474976710656) : FSpec prog 113 #[Pt b 0, .int .u32 c, .string s] (am b (jD 256) 317) (fun _ : Unit => True) (fun _ => .int .u32 (kC s c s.size)) (fun _ => am b (jD 256) 317) := by
 refine en func113 r fun _ F=>aE r<|js<|sa r<|lv ((bj r r).as (v' := Ff) r) r<|nf r<|sk<|js<|sa r<|lx r (dV r r) fun y13 _=>ll r<|an r<|jb ?_
 refine bX (X := Nat) (fun k => [(0, Pt b 0), (1, .int .u32 (kC s c k)), (13, Sk y13.1 0 s.size y13.2), (14, I s.size), (15, I (k : Int))]) (fun k => (aa (byb y13.1 s y13.2 5) (aa (am b (jD 256) 317) (F)))) (fun k => k <= s.size) (fun k => s.size - k) (0) (by omega) ⟨rfl, rfl, rfl, rfl, rfl, trivial⟩ (ah _) (fun k hk => ?_)
 have hix := uI (kC s c k) (qr s k)
 refine sr<|lv (aM r r) r<|nj ?_
 refine aG rfl (fun h1 => ?_) (fun h1 => ?_)
 ·refine sk<|js<|jb<|sr<|lv (au r r (by omega)) r<|lv ((ar r (Rd.byb (s := s) (c := y13.2) (e := 5) (by omega))).as (v' := U8 (qr s k)) (congrArg (fun j => U8 (qr s j)) (by omega))) r<|an r<|jg<|ea r<|lv (i7 r r (by omega)) r<|eb r<|lv (dX r) r<|ea r<|lv ((pY r r).as (CQ _ _)) r<|ea r<|lv (aK r r (by omega)) r ?_
  refine lv (ar r (aC (by rw [show 0 + (vz (kC s c k) (qr s k) : Int).toNat * 1 = vz (kC s c k) (qr s k) by omega]; exact wJ hix))) r<|lv ((pY r r).as (v' := .int .u32 (kC s c (k + 1))) r) r<|ea r<|ln<|kb<|kt<|jg<|gE r<|ea r<|ln ?_
  exact bO (k + 1) (by omega) (by omega) ⟨rfl, rfl, rfl, rfl, rfl, trivial⟩ (ah _)
 ·have he : k = s.size := by omega
  subst he
  refine cx<|ke<|ke<|kh<|kt<|sb r<|nk<|jr ?_
  exact aD rfl rfl () trivial rfl (Ent.trans Ent.take (ah _))
theorem yg (b : Nat) (s : ByteArray) (hs : s.size <= 281474976710656) : FSpec prog 74 #[Sk b 0 1 1] (am b [.string s] 9) (fun _ : Unit => True) (fun _ => .int .u32 (sj s)) (fun _ => am b [.string s] 9) := by
 refine en func74 r fun _ F=>aE r<|sr<|cy wd r fun b7=>eb r<|nj<|sa r<|ll r<|an r<|jb ?_
 refine bX (X := Nat) (fun k => [(3, Pt b7 0), (4, .int .u32 (if k = 0 then 4294967295 else kC s 4294967295 s.size)), (8, Sk b 0 1 1), (9, I (1 : Nat)), (10, I (k : Int))]) (fun k => (aa (am b7 (jD 256) 317) (aa (am b [.string s] 9) (F)))) (fun k => k <= 1) (fun k => 1 - k) (0) (by omega) ⟨rfl, rfl, rfl, rfl, rfl, trivial⟩ (ah _) (fun k hk => ?_)
 refine sr<|lv (aM r r) r<|nj ?_
 refine aG rfl (fun h1 => ?_) (fun h1 => ?_)
 ·have he : k = 0 := by omega
  subst he
  refine sk<|js<|jb<|sr<|lv (au r r (by omega)) r<|lv ((ar r (aC (l := [.string s]) r)).as (v' := .string s) r) r<|an r<|jg<|ec r<|cy (A7 b7 4294967295 s hs) r fun _=>ea r<|ln<|kb<|kt<|jg<|gE r<|ea r<|ln ?_
  exact bO (1) (by omega) (by omega) ⟨rfl, rfl, rfl, rfl, rfl, trivial⟩ (ah _)
 ·have he : k = 1 := by omega
  subst he
  refine cx<|ke<|ke<|kh<|kt<|sa r<|lv ((oW r).as (v' := .int .u32 (sj s)) r) r<|an r<|jr ?_
  exact aD rfl rfl () trivial rfl (Ent.trans Ent.take (ah _))
attribute [local irreducible] kC sj jD Iy BL
theorem B7 (a : Int) : 0 <= IntKind.u8.wrap a /\ IntKind.u8.wrap a < 256 := by rw [IntKind.wrap_u8]; omega
theorem tA (l r : List Int) : aY l ++ aY r = aY (l ++ r) := by
 apply ByteArray.ext
 simp [aY, ByteArray.data_append]
theorem rq (s : ByteArray) : (nC s).extract 0 (s.size : Int).toNat = s := by
 unfold nC
 rw [Int.toNat_natCast, ByteArray.extract_append_eq_left]
 rfl
theorem uX (s : ByteArray) (c : Int) (k : Nat) : (s ++ aY ((List.range k).map (jU c))) ++ aY [jU c k] = s ++ aY ((List.range (k + 1)).map (jU c)) := by
 rw [ByteArray.append_assoc, tA, List.range_succ, List.map_append]
 rfl
theorem wO (c : Int) (k : Nat) : [U8 (jU c k)] = bV (aY [jU c k]) := by
 rw [jp]
 ·rfl
 ·intro v hv
  simp only [List.mem_singleton] at hv
  subst hv
  exact B7 _
theorem iI (s : ByteArray) (c : Int) (k : Nat) : (s ++ aY ((List.range k).map (jU c))).size = s.size + k := by
 rw [ByteArray.size_append, aZ]; simp
theorem wN (s : ByteArray) (c : Int) : s ++ aY ((List.range 0).map (jU c)) = s := by
 exact ByteArray.append_empty
theorem px (s : ByteArray) (hs : s.size <= 1048576) : FSpec prog 39 #[.string s] (emp) (fun _ : Unit => True) (fun _ => .string (nC s)) (fun _ => emp) := by
 refine en func39 r fun _ F=>bG<|aE r<|sa r<|lx r (rE r (by unfold maxLen; omega) r) fun y7 _=>an r<|js<|sa r<|lx r (aq (m := 1) r r (by omega) (by omega) r) fun b9 _=>cy (yg b9 s (by omega)) r fun _=>eb r<|nk<|jb ?_
 refine bX (X := (Option Addr × Nat) × Nat) (fun z => [(3, .slice z.1.1 (s.size + z.2 : Nat) z.1.2), (4, .int .u32 (sj s)), (5, I (z.2 : Int))]) (fun z => (aa (OwnB 5 z.1 (s ++ aY ((List.range z.2).map (jU (sj s))))) (F))) (fun z => z.2 <= 4) (fun z => 4 - z.2) ((y7, 0)) (by show (0 : Nat) <= 4; omega) ⟨rfl, rfl, rfl, trivial⟩ (by rw [wN]; exact Ent.take) (fun z hk => ?_)
 refine js<|sa r<|lv (aM r r) r<|nk ?_
 refine aG rfl (fun h1 => ?_) (fun h1 => ?_)
 ·refine sk<|js<|jb<|jg<|ec r<|lv ((fW r r (by omega)).as (v' := I ((8 * z.2 : Nat) : Int)) (by rw [Int.natCast_mul]; rfl)) r<|lv ((bw r (Go.IntWalk.u64_in _ (by omega))).as (v' := .int .u64 ((8 * z.2 : Nat) : Int)) r) r<|lv (i7 r r (by omega)) r<|lv ((dX r).as (v' := U8 (jU (sj s) z.2)) r) r<|lx r (aq (m := 1) r r (by omega) (by omega) r) fun b22 _=>lx r (pX (aY [jU (sj s) z.2]) r r (iI _ _ _).symm (by rw [aZ]; rfl) (wO _ _) r (by rw [iI, aZ]; unfold maxLen; simp only [List.length_singleton]; omega) (by rw [iI, aZ]; simp only [List.length_singleton]; omega) r) fun y23 _=>ea r<|ln<|kb<|kt<|jg ?_
  refine ea r<|gE r<|ea r<|ln ?_
  exact bO ((y23, z.2 + 1)) (by show z.2 + 1 <= 4; omega) (by show 4 - (z.2 + 1) < 4 - z.2; omega) ⟨by show some (Value.slice y23.1 _ y23.2) = _; rw [ByteArray.size_append, iI, aZ]; rfl, rfl, rfl, trivial⟩ (by rw [uX]; exact Ent.take)
 ·have he : z.2 = 4 := by omega
  refine cx<|ke<|ke<|kh<|kt<|sa r<|lv (rP r (iI _ _ _).symm) r<|an r<|jr ?_
  exact aD rfl rfl () trivial (by rw [he]; rfl) (Ent.trans Ent.take (by exact ah _))
theorem AO (s : ByteArray) (hs : s.size <= 1048576) : FSpec prog 40 #[.string (nC s)] (emp) (fun _ : Unit => True) (fun _ => .tuple #[.string s, I 0]) (fun _ => emp) := by
 have hz := nB s
 refine en func40 r fun _ F=>bG<|sb r<|nr<|ea r<|lv (aX r) r<|lv ((bm r r (by omega)).as (v' := I (s.size : Int)) (by rw [hz]; congr 1; omega)) r<|an r<|js<|sa r<|bJ r<|nf r<|sk<|js<|sb r<|lv ((dW r r (by omega)).as (v' := .string s) (congrArg Value.string (rq s))) r<|cy (px s hs) r fun _=>ea r<|lv ((rK r r).bool_f (by simp)) r<|nf r<|sk<|sb r<|lv ((dW r r (by omega)).as (v' := .string s) (congrArg Value.string (rq s))) r<|eb r<|nk<|jr ?_
 exact cH rfl rfl rfl () trivial rfl (ah _)
end
instance : UpT prog 166 313 168 2 := ⟨by kernel_rfl⟩
instance : NoEsc prog 149 := ⟨⟨Tryz.f149, func149, by kernel_rfl, by kernel_rfl, by kernel_rfl, by kernel_rfl⟩⟩
instance : PtrE prog 235 5 := ⟨by kernel_rfl⟩
theorem CR (b : Nat) (v : Value) : FSpec prog 110 #[Pt b 0] (am b [Np, v] 168) (fun _ : Unit => True) (fun _ => .tuple #[]) (fun _ => am b [Pt b 0, v] 168) := by
 refine en func110 r fun _ F=>sb r<|fz r<|ld r r<|lv (bj r r) r<|nt r<|jg<|eb r<|lv (pZ r r) r<|lx r (pW r r) fun _ _=>lv (nR r r) r<|ea r<|fz r<|so r r<|ln ?_
 exact eG rfl () trivial rfl Ent.take
theorem xP (b : Nat) (v : Value) : FSpec prog 110 #[Pt b 0] (am b [Pt b 0, v] 168) (fun _ : Unit => True) (fun _ => .tuple #[]) (fun _ => am b [Pt b 0, v] 168) := by
 refine en func110 r fun _ F=>sb r<|fz r<|ld r r<|lv (bj r r) r<|nf r<|sb r<|fz r<|ld r r<|ea r<|lv (ta r r) r<|nf r<|jk ?_
 exact eG rfl () trivial rfl Ent.take
theorem xQ (b : Nat) (q : Option Addr) (v : Value) (hq : q = none \/ q = some (ad b 0)) : FSpec prog 110 #[Pt b 0] (am b [.pointer q, v] 168) (fun _ : Unit => True) (fun _ => .tuple #[]) (fun _ => am b [Pt b 0, v] 168) := by
 rcases hq with rfl | rfl
 ·exact CR b v
 ·exact xP b v
theorem D6 (b : Nat) (q : Option Addr) (A : Option Addr) (n c : Nat) : FSpec prog 72 #[Pt b 0] (am b [.pointer q, .slice A n c] 168) (fun _ : Unit => True) (fun _ => I n) (fun _ => am b [.pointer q, .slice A n c] 168) := by
 refine en func72 r fun _ F=>aE r<|sb r<|fz r<|ld r r<|ll r<|an r<|jr ?_
 exact aD rfl rfl () trivial (rfl) Ent.take
theorem D5 (b : Nat) (q : Option Addr) (u : Option Addr × Nat) (s t : ByteArray) (hq : q = none \/ q = some (ad b 0)) (h : s.size + t.size <= 1000000000) : FSpec prog 71 #[Pt b 0, .string t] ((aa (am b [.pointer q, .slice u.1 (s).size u.2] 168) (OwnZ 5 u s))) (fun u' : Option Addr × Nat => True) (fun u' => .tuple #[I t.size, .nilIface]) (fun u' => (aa (am b [Pt b 0, .slice u'.1 ((s ++ t)).size u'.2] 168) (OwnZ 5 u' (s ++ t)))) := by
 refine en func71 r fun _ F=>sb r<|nr<|ea r<|cy (xQ b q (.slice u.1 (s).size u.2) hq) r fun _=>nr<|ec r<|fz r<|ld r r<|ea r<|lx r (rH r r r r (by unfold maxLen; omega) (by omega) r) fun y14 _=>ea r<|fz r<|so r r<|nr<|ea r<|lv (aX r) r<|eb r<|nk<|jr ?_
 exact cH rfl rfl rfl y14 trivial rfl (Ent.take (Q := (aa ((aa (am b [Pt b 0, .slice y14.1 ((s ++ t)).size y14.2] 168) (OwnZ 5 y14 (s ++ t)))) (F))))
instance : NoZ prog 150 82 5 := ⟨⟨Tryz.f150, _, func150, by kernel_rfl, by kernel_rfl, by kernel_rfl, rfl, by kernel_rfl⟩⟩
section
variable {d : Option Tmp} {ty : TypeId} {pos : String} {aft : Array Edge} {g : Option (Nat × Bool)} {x : Operand} {t e : Nat} {A : Option Addr}
section
variable {prog : Program} {σ : World} {n : Nat} {E : Env} {P : ab}
theorem u5 {y : Operand} {t' c : Nat} [Slc prog t e 1] (hx : ev E x = some (.slice A 0 c)) (hy : ev E y = some (Ns)) : OpV prog σ n E P ⟨d, .call ⟨.builtin .copy, #[x, y], #[t, t']⟩, ty, pos, aft, g⟩ (I 0) := by
 unfold OpV
 exact fun _ w ha _ => by
  obtain ⟨hu, i, hi, hsz⟩ := Slc.spec (prog := prog) t e 1
  have := run_copy_none (P := prog) w t t' ty e A none 0 c 0 0 hu (by rw [hi, Option.map_some, hsz]) rfl
  simp only [execOp, resolve, List.map_toArray, List.map_cons, List.map_nil, ha.ev hx, ha.ev hy, Sem.run_bind, Sem.run_pure, Result.andThen_ok, invoke, builtin, this]
  rfl
theorem rM {m len cap : Nat} [Slc prog t e m] (hx : ev E x = some (.slice A len cap)) : OpV prog σ n E P ⟨d, .call ⟨.builtin .cap, #[x], #[t]⟩, ty, pos, aft, g⟩ (I cap) := by
 unfold OpV
 exact fun _ w ha _ => by
  obtain ⟨h1, i, h2, h3⟩ := Slc.spec (prog := prog) t e m
  simp only [execOp, resolve, List.map_toArray, List.map_cons, List.map_nil, ha.ev hx, Sem.run_bind, Sem.run_pure, Result.andThen_ok, invoke, builtin, Builtin.cap_]
  simp [ba h1, goInt]
end
theorem vn (b k : Nat) (hk : k <= 1000000) (q : Option Addr) : FSpec Tryz.prog 111 #[Pt b 0, I (k : Nat)] (am b [.pointer q, Ns] 168) (fun u : Option Addr × Nat => True) (fun u => .tuple #[]) (fun u => (aa (am b [.pointer q, .slice u.1 (ByteArray.empty).size u.2] 168) (OwnZ 5 u ByteArray.empty))) := by
 refine en Tryz.func111 r fun _ F=>js<|av (am b [.pointer q, Ns] 168) (am b [.pointer q, Ns] 168) [] ae<|pe 0 r r<|pe 1 r r<|ps 2 r (aj r)<|dv 3 r (by kernel_rfl) (ar r (aC r)) r<|ps 4 r (rM r)<|ps 5 r (fW r r (by omega))<|pe 6 r r<|ps 7 r ((aQ r r (by omega)).as (v' := I (k : Nat)) (congrArg (Value.int .i64) (by omega)))<|pe 9 r r<|pe 10 r r<|ps 11 r (aj r)<|dv 12 r (by kernel_rfl) (ar r (aC r)) r<|ps 13 r (bC r)<|pn 8 r (nO (k := k) (t := 82) (e := 5) r (by omega) r) fun m hm=>ps 14 r ((lF r r (by omega)).as (v' := Sk m.1 0 0 m.2.length) (by rw [iy]; simp))<|pe 15 r r<|dn<|kt<|sr<|ec r<|fz r<|ld r r<|lv (u5 r r) r<|nk<|jg<|ec r<|fz r<|so r r<|ln ?_
 exact eG rfl (some (ad m.1 0), m.2.length) trivial rfl (Ent.trans (Ent.take (Q := (aa (am m.1 m.2 5) (aa (am b [.pointer q, Sk m.1 0 0 m.2.length] 168) (F))))) (Ent.trans (Ent.frame (OwnZ.mk (e := 5) (s := ByteArray.empty) (Nat.zero_le _) hm.2 (Nat.le_refl _)) _) (Ent.of (by rw [ak]; exact aR _ _ _))))
theorem wh (b k : Nat) (hk : 1 <= k /\ k <= 1000000) : FSpec Tryz.prog 70 #[Pt b 0, I (k : Nat)] (am b [Np, Ns] 168) (fun u : Option Addr × Nat => True) (fun u => .tuple #[]) (fun u => (aa (am b [Pt b 0, .slice u.1 (ByteArray.empty).size u.2] 168) (OwnZ 5 u ByteArray.empty))) := by
 refine en Tryz.func70 r fun _ F=>sa r<|cy (xQ b none (Ns) (.inl r)) r fun _=>nj<|sa r<|bJ r<|nf r<|sk<|js<|dM ae<|qb r<|qz r<|ql r r<|qv (rM r) r<|qb r<|qz r<|ql r r<|qv (bC r) r<|qv ((bm r r (by decide)).as (v' := I 0) r) r<|qa r<|Cd r<|qn<|kt<|ct r<|jg<|eb r<|cy (vn b k hk.2 (some (ad b 0))) r fun u=>ln ?_
 exact eG rfl u trivial rfl Ent.take
end
section
section
variable {prog : Program} {σ : World} {n : Nat} {E : Env} {P : ab} {d : Option Tmp} {x y z : Operand} {t t' t'' ty : TypeId} {pos : String} {aft : Array Edge} {g : Option (Nat × Bool)} {k : IntKind} {a b c : Int}
theorem xh (hx : ev E x = some (.int k a)) (hy : ev E y = some (.int k b)) (hz : ev E z = some (.int k c)) : OpV prog σ n E P ⟨d, .call ⟨.builtin .min, #[x, y, z], #[t, t', t'']⟩, ty, pos, aft, g⟩ (.int k (if c < (if b < a then b else a) then c else (if b < a then b else a))) := by
 unfold OpV
 exact fun _ w ha _ => by
  simp only [execOp, resolve, List.map_toArray, List.map_cons, List.map_nil, ha.ev hx, ha.ev hy, ha.ev hz, Sem.run_bind, Sem.run_pure, Result.andThen_ok, invoke, builtin, Builtin.min_]
  simp [Builtin.min2]
end
theorem xk (m : Nat) (h : m < 4294967296) : Value.int .u64 (IntKind.u64.wrap (((BitVec.ofInt IntKind.u64.bits (m : Int) &&& BitVec.ofInt IntKind.u64.bits 4294967295).toNat : Nat) : Int)) = .int .u64 (m : Nat) := by
 have := lL (w := 64) (m := 32) (a := (m : Int)) (by decide) (by constructor; omega; show (m : Int) < 18446744073709551616; omega)
 have e : ((BitVec.ofInt IntKind.u64.bits (m : Int) &&& BitVec.ofInt IntKind.u64.bits 4294967295).toNat : Int) = (m : Int) % 4294967296 := this
 rw [e, Go.IntWalk.u64_in _ (by omega)]
 rw [show (m : Int) % 4294967296 = (m : Int) by omega]
theorem rY (m : Nat) (h : m < 4294967296) : Value.int .u64 ((m : Int) / 2 ^ (min (Int.toNat 32) IntKind.u64.bits)) = .int .u64 (0 : Nat) := by
 show Value.int .u64 ((m : Int) / 4294967296) = _
 rw [show (m : Int) / 4294967296 = ((0 : Nat) : Int) by omega]
theorem AV (k : Nat) (hk : k < 4294967296) : FSpec Tryz.prog 108 #[.int .u64 (1 : Nat), .int .u64 (k : Nat)] (emp) (fun _ : Unit => True) (fun _ => .tuple #[.int .u64 (0 : Nat), .int .u64 (k : Nat)]) (fun _ => emp) := by
 refine en Tryz.func108 r fun _ F=>sb r<|nr<|ea r<|lv ((fH r r).as (v' := .int .u64 (1 : Nat)) (xk 1 (by omega))) r<|an r<|sa r<|lv ((eW r r (by omega)).as (v' := .int .u64 (0 : Nat)) (rY 1 (by omega))) r<|an r<|sa r<|lv ((fH r r).as (xk k (by omega))) r<|an r<|sa r<|lv ((eW r r (by omega)).as (rY k (by omega))) r<|an r<|sb r<|lv ((jM r r (Go.IntWalk.u64_in _ (by omega))).as (v' := .int .u64 (k : Nat)) (congrArg (Value.int .u64) (by omega))) r<|an r<|sb r<|lv ((jM r r (Go.IntWalk.u64_in _ (by omega))).as (v' := .int .u64 (0 : Nat)) (congrArg (Value.int .u64) (by omega))) r<|ea r<|lv ((eW r r (by omega)).as (rY k (by omega))) r<|lv ((iN r r (Go.IntWalk.u64_in _ (by omega))).as (v' := .int .u64 (0 : Nat)) r) r<|an r<|sa r<|lv ((fH r r).as (xk 0 (by omega))) r<|an r<|sa r<|lv ((eW r r (by omega)).as (rY 0 (by omega))) r<|an r<|sr<|ec r<|lv ((jM r r (Go.IntWalk.u64_in _ (by omega))).as (v' := .int .u64 (0 : Nat)) r) r<|lv ((iN r r (Go.IntWalk.u64_in _ (by omega))).as (v' := .int .u64 (0 : Nat)) r) r<|an r<|sb r<|lv ((jM r r (Go.IntWalk.u64_in _ (by omega))).as (v' := .int .u64 (0 : Nat)) r) r<|ea r<|lv ((iN r r (Go.IntWalk.u64_in _ (by omega))).as (v' := .int .u64 (0 : Nat)) r) r<|ea r<|lv ((eW r r (by omega)).as (rY 0 (by omega))) r<|lv ((iN r r (Go.IntWalk.u64_in _ (by omega))).as (v' := .int .u64 (0 : Nat)) r) r<|an r<|sb r<|lv ((jM r r (Go.IntWalk.u64_in _ (by omega))).as (v' := .int .u64 (k : Nat)) (congrArg (Value.int .u64) (by omega))) r<|an r<|jr ?_
 exact cH rfl rfl rfl () trivial rfl (ah _)
theorem GX (k : Nat) (hk : k < 4294967296) : FSpec Tryz.prog 68 #[.int .u64 (1 : Nat), .int .u64 (k : Nat)] (emp) (fun _ : Unit => True) (fun _ => .tuple #[.int .u64 (0 : Nat), .int .u64 (k : Nat)]) (fun _ => emp) := by
 refine en Tryz.func68 r fun _ F=>sb r<|nj<|cf r<|sk<|sb r<|cy (AV k hk) r fun _=>cj<|ea r<|lv (ap r r) r<|lv (ap r r) r<|eb r<|nr<|ed r<|nk<|jr ?_
 exact cH rfl rfl rfl () trivial rfl Ent.take
def fL (k : Nat) : ByteArray := ⟨(List.replicate k (0 : UInt8)).toArray⟩
theorem eS (k : Nat) : (fL k).size = k := by show (List.replicate k (0 : UInt8)).toArray.size = k; simp
theorem uh (a b : Nat) : fL a ++ fL b = fL (a + b) := by
 apply ByteArray.ext
 simp [fL, ByteArray.data_append]
theorem zh (a b : Nat) (h : b <= a) : (fL a).extract 0 b = fL b := by
 rw [show a = b + (a - b) by omega, <- uh, ByteArray.extract_append_eq_left (eS b).symm]
theorem GP (e : Unit) : FSpec Tryz.prog 38 #[.string (⟨#[0]⟩ : ByteArray), I (0 : Nat)] (emp) (fun _ : Unit => True) (fun _ => .string (fL 0)) (fun _ => emp) := by
 refine en Tryz.func38 r fun _ F=>aE r<|js<|aE r<|jb<|sr<|lv ((cv r r).bool_t r) r<|an r<|ct r<|aE r<|jr<|kq<|kd ?_
 exact aD rfl rfl () trivial rfl (ah _)
theorem GO (e : Unit) : FSpec Tryz.prog 38 #[.string (⟨#[0]⟩ : ByteArray), I (1 : Nat)] (emp) (fun _ : Unit => True) (fun _ => .string (fL 1)) (fun _ => emp) := by
 refine en Tryz.func38 r fun _ F=>aE r<|js<|aE r<|jb<|sr<|bJ r<|an r<|cf r<|sr<|lv ((cv r r).bool_t r) r<|an r<|ct r<|sb r<|nk<|jr<|kq<|kd ?_
 exact aD rfl rfl () trivial rfl (ah _)
theorem Bh (b : Nat) (u : Option Addr × Nat) (s t : ByteArray) (h : s.size + t.size <= 1000000000) : FSpec Tryz.prog 71 #[Pt b 0, .string t] ((aa (am b [Pt b 0, .slice u.1 (s).size u.2] 168) (OwnF 5 u s))) (fun u' : Option Addr × Nat => True) (fun u' => .tuple #[I t.size, .nilIface]) (fun u' => (aa (am b [Pt b 0, .slice u'.1 ((s ++ t)).size u'.2] 168) (OwnF 5 u' (s ++ t)))) := by
 refine en Tryz.func71 r fun _ F=>sb r<|nr<|ea r<|cy (xP b (.slice u.1 (s).size u.2)) r fun _=>nr<|ec r<|fz r<|ld r r<|ea r<|lx r (rJ r r r r (by unfold maxLen; omega) (by omega) r) fun y14 _=>ea r<|fz r<|so r r<|nr<|ea r<|lv (aX r) r<|eb r<|nk<|jr ?_
 exact cH rfl rfl rfl y14 trivial rfl (Ent.take (Q := (aa ((aa (am b [Pt b 0, .slice y14.1 ((s ++ t)).size y14.2] 168) (OwnF 5 y14 (s ++ t)))) (F))))
theorem sS (b : Nat) (u : Option Addr × Nat) (s : ByteArray) (h0 : 0 < s.size) : FSpec Tryz.prog 73 #[Pt b 0] ((aa (am b [Pt b 0, .slice u.1 (s).size u.2] 168) (OwnF 5 u s))) (fun _ : Unit => True) (fun _ => .string s) (fun _ => (aa (am b [Pt b 0, .slice u.1 (s).size u.2] 168) (OwnF 5 u s))) := by
 refine en Tryz.func73 r fun _ F=>dY _ (ak _ _ _)<|aE r<|js<|av (am b [Pt b 0, .slice u.1 (s).size u.2] 168) (am b [Pt b 0, .slice u.1 (s).size u.2] 168) [] ae<|pe 0 r r<|pe 1 r r<|ps 2 r (aj r)<|dv 3 r (by kernel_rfl) (ar r (aC r)) r<|pe 5 r r<|pe 6 r r<|ps 7 r (aj r)<|dv 8 r (by kernel_rfl) (ar r (aC r)) r<|ps 9 r (bC r)<|pn 4 r (nN (e := 5) (u := u) r h0 r) fun _ _=>pn 10 r (lD (e := 5) (u := u) r r r h0 r) fun _ _=>pe 11 r r<|dn<|kt<|jr ?_
 exact aD rfl rfl () trivial (rfl) (Ent.trans (Ent.take (Q := (aa ((aa (am b [Pt b 0, .slice u.1 (s).size u.2] 168) (OwnF 5 u s))) (F)))) (ah _))
theorem GN (k : Nat) (hk : 2 <= k) (hk2 : k <= 64) : FSpec Tryz.prog 38 #[.string (⟨#[0]⟩ : ByteArray), I (k : Nat)] (emp) (fun _ : Unit => True) (fun _ => .string (fL k)) (fun _ => emp) := by
 refine en Tryz.func38 r fun _ F=>aE r<|js<|aE r<|jb<|sr<|bJ r<|an r<|cf r<|sr<|bJ r<|an r<|cf r<|cY<|js<|sa r<|bJ r<|nf r<|sk<|sa r<|lv ((aX r).as (v' := I (1 : Nat)) r) r<|lv ((bw r (Go.IntWalk.u64_in _ (by omega))).as (v' := .int .u64 (1 : Nat)) r) r<|ea r<|lv ((bw r (Go.IntWalk.u64_in _ (by omega))).as (v' := .int .u64 (k : Nat)) r) r<|cy (GX k (by omega)) r fun _=>ea r<|lv (ap r r) r<|lv (ap r r) r<|eb r<|nj<|sa r<|bJ r<|ea r<|go r<|ea r<|go r<|bJ r<|an r<|cf r<|sk<|sa r<|lv ((bw r (Go.IntWalk.i64_in _ (by omega))).as (v' := I (k : Nat)) r) r<|an r<|js<|sa r<|lv ((aX r).as (v' := I (1 : Nat)) r) r<|bJ r<|nf r<|sk<|js<|sa r<|lv ((gu r r (by decide)).as (v' := U8 0) r) r<|nk<|jb<|js<|sr<|bJ r<|an r<|cf r<|sr<|bJ r<|an r<|cf r<|sr ?_
 refine bJ r<|an r<|cf r<|sr<|bJ r<|an r<|cf r<|jg<|bJ r<|an r<|cf r<|cY<|sb r<|nj<|sa r<|bJ r<|nf r<|sk<|sr<|al r fun b9=>nr<|ea r<|cy (wh b9 k ⟨by omega, by omega⟩) rfl fun y108=>nr<|ea r<|cy (D5 b9 (some (ad b9 0)) y108 ByteArray.empty (⟨#[0]⟩ : ByteArray) (.inr r) (by decide)) r fun y110=>uP _ (Ent.frame (aw (yE (by decide)) _) _)<|nj<|jb ?_
 refine bX (X := (Option Addr × Nat) × Nat) (fun z => [(7, I (k : Nat)), (8, I (k : Nat)), (9, Pt b9 0)]) (fun z => (aa ((aa (am b9 [Pt b9 0, .slice z.1.1 ((fL z.2)).size z.1.2] 168) (OwnF 5 z.1 (fL z.2)))) (F))) (fun z => 1 <= z.2 /\ z.2 <= k) (fun z => k - z.2) ((y110, 1)) ⟨Nat.le_refl _, by omega⟩ ⟨rfl, rfl, rfl, trivial⟩ (by rw [show ByteArray.empty ++ (⟨#[0]⟩ : ByteArray) = fL 1 from rfl]; exact Ent.take) (fun z hz => ?_)
 obtain ⟨hz1, hz2⟩ := hz
 have hzs := eS z.2
 refine js<|sr<|cy (D6 b9 (some (ad b9 0)) z.1.1 (fL z.2).size z.1.2) r fun _=>ea r<|lv (aM r r) r<|nk ?_
 refine aG rfl (fun h1 => ?_) (fun h1 => ?_)
 ·refine sk<|jb<|sa r<|cy (D6 b9 (some (ad b9 0)) z.1.1 (fL z.2).size z.1.2) r fun _=>lv ((bm r r (by omega)).as (v' := I ((k - z.2 : Nat) : Int)) (congrArg (Value.int .i64) (by rw [hzs]; omega))) r<|cy (D6 b9 (some (ad b9 0)) z.1.1 (fL z.2).size z.1.2) r fun _=>ea r<|lv ((xh r r r).as (v' := I ((min (k - z.2) z.2 : Nat) : Int)) (congrArg (Value.int .i64) (by rw [hzs]; omega))) r<|an r<|jg<|cy (sS b9 z.1 (fL z.2) (by omega)) r fun _=>ea r<|lv ((dW r r (by rw [hzs]; omega)).as (v' := .string (fL (min (k - z.2) z.2))) (congrArg Value.string (zh _ _ (by omega)))) r<|cy (Bh b9 z.1 (fL z.2) (fL (min (k - z.2) z.2)) (by rw [hzs, eS]; omega)) r fun y123=>ln<|kb ?_
  exact bO ((y123, z.2 + min (k - z.2) z.2)) ⟨by show 1 <= z.2 + min (k - z.2) z.2; omega, by show z.2 + min (k - z.2) z.2 <= k; omega⟩ (by show k - (z.2 + min (k - z.2) z.2) < k - z.2; omega) ⟨rfl, rfl, rfl, trivial⟩ (by rw [uh]; exact Ent.take)
 ·have he : z.2 = k := by omega
  refine cx<|ke<|ke<|kh<|kt<|sr<|cy (sS b9 z.1 (fL z.2) (by omega)) r fun _=>an r<|jr ?_
  exact aD rfl rfl () trivial (by rw [he]) (by rw [bN]; exact Ent.drop)
end
theorem Iz (n : Nat) : IntKind.u8.wrap (n : Int) = ((n % 256 : Nat) : Int) := by rw [IntKind.wrap_u8]; omega
theorem IG {n : Nat} : IntKind.u8.wrap ((n : Int) / 2 ^ (min (Int.toNat 8) IntKind.i64.bits)) = ((n / 256 % 256 : Nat) : Int) := by
 show IntKind.u8.wrap ((n : Int) / 256) = _
 rw [IntKind.wrap_u8]; omega
theorem lp (n : Nat) (hn : n <= 65535) : FSpec prog 23 #[I (n : Nat)] (emp) (fun _ : Unit => True) (fun _ => .tuple #[U8 ((n / 256 % 256 : Nat) : Int), U8 ((n % 256 : Nat) : Int)]) (fun _ => emp) := by
 refine en func23 r fun _ F=>sb r<|nr<|ea r<|lv ((eW r r (by omega))) r<|lv ((dX r).as (congrArg (Value.int .u8) IG)) r<|ea r<|lv ((dX r).as (congrArg (Value.int .u8) (Iz n))) r<|eb r<|nk<|jr ?_
 exact cH rfl rfl rfl () trivial rfl (ah _)
theorem AW (n : Nat) (h : 1 <= n /\ n <= 65535) : FSpec prog 36 #[I (n : Nat)] (emp) (fun _ : Unit => True) (fun _ => .tuple #[.agg #[U8 3, U8 0, U8 0, U8 0, U8 ((n / 256 % 256 : Nat) : Int), U8 ((n % 256 : Nat) : Int)], I 0]) (fun _ => emp) := by
 refine en func36 r fun _ F=>bG<|sr<|al r fun b2=>an r<|js<|sa r<|bJ r<|ea r<|go r<|ea r<|go r<|bJ r<|an r<|cf r<|sk<|sr<|lv (bQ (pl := [(0, 1), (1, 1), (2, 1), (3, 1), (4, 1), (5, 1)]) r r) r<|al r fun b4=>so r r<|nr<|ea r<|cy (lp n (by omega)) r fun _=>cj<|ea r<|lv (ap (v := U8 ((n / 256 % 256 : Nat) : Int)) r r) r<|lv (ap (v := U8 ((n % 256 : Nat) : Int)) r r) r<|lv ((aK r r (by decide)).as (v' := Pt b4 4) r) r<|so r r<|lv ((aK r r (by decide)).as (v' := Pt b4 5) r) r<|so r r<|nr<|ls r<|so r r<|an r<|jr ?_
 exact cw rfl rfl rfl rfl () trivial rfl Ent.take
theorem yK (n : Int) (h : ¬ (1 <= n /\ n <= 65535)) : FSpec prog 36 #[I n] (emp) (fun _ : Unit => True) (fun _ => .tuple #[.agg #[U8 0, U8 0, U8 0, U8 0, U8 0, U8 0], I 1]) (fun _ => emp) := by
 refine en func36 r fun _ F=>bG<|sr<|al r fun b2=>an r<|js<|sa r<|lv (aM r r) r<|ea r ?_
 refine il rfl rfl (fun h1 => ?_) (fun h1 => ?_) (fun _ h => by cases h; rfl)
 ·refine ea r<|bR h1 r r<|lv (bt r r) r<|lv (bo r h1 r) r<|nk ?_
  refine aG rfl (fun h2 => ?_) (fun h2 => by exfalso; omega)
  refine sr<|lv (bQ (pl := [(0, 1), (1, 1), (2, 1), (3, 1), (4, 1), (5, 1)]) r r) r<|so r r<|an r<|jr<|kd ?_
  exact cw rfl rfl rfl rfl () trivial rfl Ent.take
 ·refine jf h1 rfl ?_
  refine lv (bi r h1 r) r<|nt r<|sr<|lv (bQ (pl := [(0, 1), (1, 1), (2, 1), (3, 1), (4, 1), (5, 1)]) r r) r<|so r r<|an r<|jr<|kd ?_
  exact cw rfl rfl rfl rfl () trivial rfl Ent.take
theorem yR (n : Nat) (h : 1 <= n /\ n <= 65535) : FSpec prog 6 #[I (n : Nat)] (emp) (fun _ : Unit => True) (fun _ => .tuple #[.agg #[U8 224, U8 224, U8 ((n / 256 % 256 : Nat) : Int), U8 ((n % 256 : Nat) : Int)], I 0]) (fun _ => emp) := by
 refine en func6 r fun _ F=>bG<|sr<|al r fun b2=>an r<|js<|sa r<|bJ r<|ea r<|go r<|ea r<|go r<|bJ r<|an r<|cf r<|sk<|sr<|lv (bQ (pl := [(0, 1), (1, 1), (2, 1), (3, 1)]) r r) r<|al r fun b4=>so r r<|nr<|ea r<|cy (lp n (by omega)) r fun _=>cj<|ea r<|lv (ap (v := U8 ((n / 256 % 256 : Nat) : Int)) r r) r<|lv (ap (v := U8 ((n % 256 : Nat) : Int)) r r) r<|lv ((aK r r (by decide)).as (v' := Pt b4 2) r) r<|so r r<|lv ((aK r r (by decide)).as (v' := Pt b4 3) r) r<|so r r<|nr<|ls r<|so r r<|an r<|jr ?_
 exact cw rfl rfl rfl rfl () trivial rfl Ent.take
theorem wi (n : Int) (h : ¬ (1 <= n /\ n <= 65535)) : FSpec prog 6 #[I n] (emp) (fun _ : Unit => True) (fun _ => .tuple #[.agg #[U8 0, U8 0, U8 0, U8 0], I 1]) (fun _ => emp) := by
 refine en func6 r fun _ F=>bG<|sr<|al r fun b2=>an r<|js<|sa r<|lv (aM r r) r<|ea r ?_
 refine il rfl rfl (fun h1 => ?_) (fun h1 => ?_) (fun _ h => by cases h; rfl)
 ·refine ea r<|bR h1 r r<|lv (bt r r) r<|lv (bo r h1 r) r<|nk ?_
  refine aG rfl (fun h2 => ?_) (fun h2 => by exfalso; omega)
  refine sr<|lv (bQ (pl := [(0, 1), (1, 1), (2, 1), (3, 1)]) r r) r<|so r r<|an r<|jr<|kd ?_
  exact cw rfl rfl rfl rfl () trivial rfl Ent.take
 ·refine jf h1 rfl ?_
  refine lv (bi r h1 r) r<|nt r<|sr<|lv (bQ (pl := [(0, 1), (1, 1), (2, 1), (3, 1)]) r r) r<|so r r<|an r<|jr<|kd ?_
  exact cw rfl rfl rfl rfl () trivial rfl Ent.take
theorem IF {k : Nat} (h : k <= 1) : U8 (IntKind.u8.wrap ((32 : Int) * 2 ^ (min (Int.toNat (k : Int)) IntKind.u8.bits))) = U8 ((32 * (k + 1) : Nat) : Int) := by
 rcases (show k = 0 \/ k = 1 by omega) with rfl | rfl <;> rfl
theorem vT (n k : Nat) (h : n <= 4095) (hk : k <= 1) : FSpec prog 37 #[.agg [I (n : Nat), I (k : Nat)].toArray] (emp) (fun _ : Unit => True) (fun _ => .tuple #[.agg #[U8 2, U8 0, U8 0, U8 ((n / 256 % 256 : Nat) : Int), U8 ((n % 256 : Nat) : Int), U8 ((32 * (k + 1) : Nat) : Int)], I 0]) (fun _ => emp) := by
 refine en func37 r fun _ F=>bG<|sr<|lx r (aV (l := [I (n : Nat), I (k : Nat)]) r r) fun b1 _=>al r fun b2=>an r<|js<|sr<|fz r<|ld r r<|bJ r<|ea r<|go r<|fz r<|go r<|ld r r<|go r<|bJ r<|eb r<|go r<|fz r<|go r<|ld r r<|go r<|bJ r<|eb r<|go r<|fz r<|go r<|ld r r<|go r<|bJ r<|an r<|cf r<|sk<|sr<|fz r<|ld r r<|lv (bw r (Go.IntWalk.u64_in _ (by omega))) r<|lv ((gC r r (by omega)).as (IF hk)) r<|lv (bQ (pl := [(0, 1), (1, 1), (2, 1), (3, 1), (4, 1), (5, 1)]) r r) r<|al r fun b4=>so r r<|nr<|fz r<|ld r r<|cy (lp n (by omega)) r fun _=>cj<|ea r<|lv (ap (v := U8 ((n / 256 % 256 : Nat) : Int)) r r) r<|lv (ap (v := U8 ((n % 256 : Nat) : Int)) r r) r<|lv ((aK r r (by decide)).as (v' := Pt b4 3) r) r<|so r r<|lv ((aK r r (by decide)).as (v' := Pt b4 4) r) r<|so r r<|nr<|ls r<|so r r<|an r<|jr ?_
 exact cw rfl rfl rfl rfl () trivial rfl Ent.take
theorem tT (n k : Int) (h : ¬ (0 <= n /\ n <= 4095 /\ 0 <= k /\ k <= 1)) : FSpec prog 37 #[.agg [I n, I k].toArray] (emp) (fun _ : Unit => True) (fun _ => .tuple #[.agg #[U8 0, U8 0, U8 0, U8 0, U8 0, U8 0], I 1]) (fun _ => emp) := by
 refine en func37 r fun _ F=>bG<|sr<|lx r (aV (l := [I n, I k]) r r) fun b1 _=>al r fun b2=>an r<|js<|sr<|fz r<|ld r r<|lv (aM r r) r<|ea r ?_
 refine il rfl rfl (fun h1 => ?_) (fun h1 => ?_) (fun _ h => by cases h; rfl)
 ·refine fz r<|bR h1 r r<|ld r r<|bR h1 r r<|lv (bt r r) r<|lv (bo r h1 r) r<|ea r ?_
  refine il rfl rfl (fun h2 => ?_) (fun h2 => ?_) (fun _ h => by cases h; rfl)
  ·refine fz r<|bR h2 r r<|ld r r<|bR h2 r r<|lv (aM r r) r<|lv (bo r h2 r) r<|ea r ?_
   refine il rfl rfl (fun h3 => ?_) (fun h3 => ?_) (fun _ h => by cases h; rfl)
   ·refine fz r<|bR h3 r r<|ld r r<|bR h3 r r<|lv (bt r r) r<|lv (bo r h3 r) r<|nk ?_
    refine aG rfl (fun h4 => ?_) (fun h4 => by exfalso; omega)
    refine sr<|lv (bQ (pl := [(0, 1), (1, 1), (2, 1), (3, 1), (4, 1), (5, 1)]) r r) r<|so r r<|an r<|jr<|kd ?_
    exact cw rfl rfl rfl rfl () trivial rfl Ent.take
   ·refine jf h3 rfl ?_
    refine jf h3 rfl<|lv (bi r h3 r) r<|nt r<|sr<|lv (bQ (pl := [(0, 1), (1, 1), (2, 1), (3, 1), (4, 1), (5, 1)]) r r) r<|so r r<|an r<|jr<|kd ?_
    exact cw rfl rfl rfl rfl () trivial rfl Ent.take
  ·refine jf h2 rfl ?_
   refine jf h2 rfl<|lv (bi r h2 r) r<|ea r<|gk rfl<|gk rfl<|gk rfl<|an r<|ct r<|sr<|lv (bQ (pl := [(0, 1), (1, 1), (2, 1), (3, 1), (4, 1), (5, 1)]) r r) r<|so r r<|an r<|jr<|kd ?_
   exact cw rfl rfl rfl rfl () trivial rfl Ent.take
 ·refine jf h1 rfl ?_
  refine jf h1 rfl<|lv (bi r h1 r) r<|ea r<|gk rfl<|gk rfl<|gk rfl<|eb r<|gk rfl<|gk rfl<|gk rfl<|an r<|ct r<|sr<|lv (bQ (pl := [(0, 1), (1, 1), (2, 1), (3, 1), (4, 1), (5, 1)]) r r) r<|so r r<|an r<|jr<|kd ?_
  exact cw rfl rfl rfl rfl () trivial rfl Ent.take
theorem AN (n k : Nat) (h : n <= 4095) (hk : k <= 255) : FSpec prog 5 #[I (n : Nat), I (k : Nat)] (emp) (fun _ : Unit => True) (fun _ => .tuple #[.agg #[U8 10, U8 ((n / 256 % 256 : Nat) : Int), U8 ((n % 256 : Nat) : Int), U8 ((k : Nat) : Int)], I 0]) (fun _ => emp) := by
 refine en func5 r fun _ F=>bG<|sr<|al r fun b4=>an r<|js<|sa r<|bJ r<|ea r<|go r<|ea r<|go r<|bJ r<|eb r<|go r<|ea r<|go r<|bJ r<|eb r<|go r<|ea r<|go r<|bJ r<|an r<|cf r<|sk<|sa r<|lv (bw r (Go.IntWalk.u8_in _ (by omega))) r<|lv (bQ (pl := [(0, 1), (1, 1), (2, 1), (3, 1)]) r r) r<|al r fun b6=>so r r<|nr<|ea r<|cy (lp n (by omega)) r fun _=>cj<|ea r<|lv (ap (v := U8 ((n / 256 % 256 : Nat) : Int)) r r) r<|lv (ap (v := U8 ((n % 256 : Nat) : Int)) r r) r<|lv ((aK r r (by decide)).as (v' := Pt b6 1) r) r<|so r r<|lv ((aK r r (by decide)).as (v' := Pt b6 2) r) r<|so r r<|nr<|ls r<|so r r<|an r<|jr ?_
 exact cw rfl rfl rfl rfl () trivial rfl Ent.take
theorem yB (n k : Int) (h : ¬ (0 <= n /\ n <= 4095 /\ 0 <= k /\ k <= 255)) : FSpec prog 5 #[I n, I k] (emp) (fun _ : Unit => True) (fun _ => .tuple #[.agg #[U8 0, U8 0, U8 0, U8 0], I 1]) (fun _ => emp) := by
 refine en func5 r fun _ F=>bG<|sr<|al r fun b4=>an r<|js<|sa r<|lv (aM r r) r<|ea r ?_
 refine il rfl rfl (fun h1 => ?_) (fun h1 => ?_) (fun _ h => by cases h; rfl)
 ·refine ea r<|bR h1 r r<|lv (bt r r) r<|lv (bo r h1 r) r<|ea r ?_
  refine il rfl rfl (fun h2 => ?_) (fun h2 => ?_) (fun _ h => by cases h; rfl)
  ·refine ea r<|bR h2 r r<|lv (aM r r) r<|lv (bo r h2 r) r<|ea r ?_
   refine il rfl rfl (fun h3 => ?_) (fun h3 => ?_) (fun _ h => by cases h; rfl)
   ·refine ea r<|bR h3 r r<|lv (bt r r) r<|lv (bo r h3 r) r<|nk ?_
    refine aG rfl (fun h4 => ?_) (fun h4 => by exfalso; omega)
    refine sr<|lv (bQ (pl := [(0, 1), (1, 1), (2, 1), (3, 1)]) r r) r<|so r r<|an r<|jr<|kd ?_
    exact cw rfl rfl rfl rfl () trivial rfl Ent.take
   ·refine jf h3 rfl ?_
    refine lv (bi r h3 r) r<|nt r<|sr<|lv (bQ (pl := [(0, 1), (1, 1), (2, 1), (3, 1)]) r r) r<|so r r<|an r<|jr<|kd ?_
    exact cw rfl rfl rfl rfl () trivial rfl Ent.take
  ·refine jf h2 rfl ?_
   refine lv (bi r h2 r) r<|ea r<|gk rfl<|gk rfl<|an r<|ct r<|sr<|lv (bQ (pl := [(0, 1), (1, 1), (2, 1), (3, 1)]) r r) r<|so r r<|an r<|jr<|kd ?_
   exact cw rfl rfl rfl rfl () trivial rfl Ent.take
 ·refine jf h1 rfl ?_
  refine lv (bi r h1 r) r<|ea r<|gk rfl<|gk rfl<|eb r<|gk rfl<|gk rfl<|an r<|ct r<|sr<|lv (bQ (pl := [(0, 1), (1, 1), (2, 1), (3, 1)]) r r) r<|so r r<|an r<|jr<|kd ?_
  exact cw rfl rfl rfl rfl () trivial rfl Ent.take
end Go.Proofs.YtpkcniedaabpoaaGreat
