/- What functions of the program do at the values that a run of a whole network meets, printed by a program of this project; used by the texts that import this one. -/
import Derived.Test.YtpkcniedaabpoaaGreatM3
import Derived.Test.YtpkcniedaabpoaaGreatM8
import Derived.Test.YtpkcniedaabpoaaGreatN1
import Derived.Test.YtpkcniedaabpoaaGreatN2
import Derived.Test.YtpkcniedaabpoaaGreatN3
set_option linter.unusedVariables false
set_option linter.unusedSimpArgs false
namespace Go.Proofs.YtpkcniedaabpoaaGreat
open Go.SLA
set_option maxRecDepth 100000
set_option synthInstance.maxSize 200000
set_option synthInstance.maxHeartbeats 4000000
set_option maxHeartbeats 8000000
attribute [local irreducible] J L K QL Rg FSpec OpV OpX Rd Back JU m1 m2 m3 e0 e1
theorem i405 (a c d e g h j k l : Nat) : Kp Tryz.prog 100 #[Pt a 0, I 200] (c125 a c d e g h j k l) (I 0) := by
 refine en Tryz.func100 r fun σ F=>san r<|js<|jb<|sa r<|ep false r<|an r<|cf r<|sr<|ec r<|go r<|ea r<|go r<|ec r<|nf r<|sr ?_
 refine ec r<|lf 4 r r<|bf r<|skb<|san r<|jr<|r1 r Ent.take
theorem i406 (a c d e g h j k l : Nat) : Sp Tryz.prog 101 #[Pt a 0, I 200] (c125 a c d e g h j k l) (.tuple #[]) (c127 a c d e g h j k l) := by
 refine en Tryz.func101 r fun σ F=>sr<|ec r<|fa 4 r<|so r r<|nk<|jl<|ju<|js<|sb r<|lf 3 r r<|ll r<|eb r<|gs r<|gs r<|gs r ?_
 refine gs r<|gs r<|gs r<|gs r<|gs r<|gs r<|an r<|cf r<|jx<|ke<|ke<|kh<|z0 r Ent.take
theorem i407 (a : Nat) : Kp Tryz.prog 187 #[Pt a 0, I 200] (c37 a) (I 0) := by
 refine en Tryz.func187 r fun σ F=>san r<|js<|jb<|sa r<|ep false r<|an r<|cf r<|sr<|ec r<|go r<|ea r<|go r<|ec r<|nf r<|sr ?_
 refine ec r<|lf 12 r r<|bf r<|skb<|san r<|jr<|r1 r Ent.take
theorem i408 (a : Nat) : Sp Tryz.prog 188 #[Pt a 0, I 200] (c37 a) (.tuple #[]) (c38 a) := by
 refine en Tryz.func188 r fun σ F=>sr<|ec r<|fa 12 r<|so r r<|nk<|jl<|ju<|js<|sb r<|lf 6 r r<|ea r<|gs r<|gs r<|gs r<|gs r ?_
 refine gs r<|gs r<|gs r<|an r<|cf r<|jx<|ke<|ke<|kh<|z0 r Ent.take
theorem i409 (a : Nat) : Sp Tryz.prog 163 #[Pt a 0, I 200] (c37 a) (.tuple #[Ns, I 0]) (c38 a) := by
 refine en Tryz.func163 r fun σ F=>sb r<|nj<|sb r<|cu (i407 a) r<|an r<|sb r<|nf r<|sk<|sb r<|cu (i408 a) r<|nr<|eb r<|lf 11 r r<|an r<|sb r ?_
 refine fa 11 r<|so r r<|nr<|ec r<|nk<|jr<|r2 r Ent.take
theorem i410 (a : Nat) : Kp Tryz.prog 187 #[Pt a 0, I 200] (c107 a) (I 0) := by
 refine en Tryz.func187 r fun σ F=>san r<|js<|jb<|sa r<|ep false r<|an r<|cf r<|sr<|ec r<|go r<|ea r<|go r<|ec r<|nf r<|sr ?_
 refine ec r<|lf 12 r r<|bf r<|skb<|san r<|jr<|r1 r Ent.take
theorem i411 (a c d e : Nat) : Kp Tryz.prog 213 #[Pt a 0, I 184] (c185 a c d e) (.tuple #[]) := by
 refine en Tryz.func213 r fun σ F=>san r<|jl<|ut r<|js<|jb<|sb r<|nr<|ec r<|fa 0 r<|lv (opv_ixA 0 r r r r) r<|ld r r<|an r<|sa r<|ll r<|an r ?_
 refine cf r<|jk<|ni (I 1) r<|ut r<|js<|jb<|sb r<|nr<|ec r<|fa 0 r<|lv (opv_ixA 1 r r r r) r<|ld r r<|an r<|sa r<|ll r<|an r<|cf r ?_
 refine jk<|ni (I 2) r<|uf r<|z0 r Ent.take
theorem i412 (a : Nat) : FSpec Tryz.prog 188 #[Pt a 0, I 200] (c107 a) (fun _ : Nat × Nat × Nat => True) (fun y => .tuple #[]) (fun y => (sep (c185 a y.1 y.2.1 y.2.2) (c186 y.1 y.2.1 y.2.2))) := by
 refine en Tryz.func188 r fun σ F=>sr<|ec r<|fa 12 r<|so r r<|nk<|jl<|ju<|js<|sb r<|lf 6 r r<|ea r<|go r<|ea r<|go r<|ea r ?_
 refine go r<|fa 7 r<|go r<|fa 10 r<|go r<|ld r r<|go r<|ea r<|go r<|eb r<|nt r<|sk<|jb<|js<|J_steps (emp) (cel a [Ns, Ns, I 1024, I 1024, I 0, I 0, Tt, I 10, .string e0, I 100, I 184, Ns, I 200] 253) [13] Tryz.mixed<|pe 0 r r ?_
 refine pe 1 r r<|pe 2 r r<|pf 3 11 r r<|pe 5 r r<|pe 6 r r<|pf 7 7 r r<|R_ts 4 r (by kernel_rfl) (opv_load r (Rd.look r)) r<|R_ts 8 r (by kernel_rfl) (opv_loadS r) r<|pn 9 r (opx_buildSlice1 (m := 4) r r (by decide) (by decide) r) fun b3 _=>pn 10 r (opx_apN (m := 4) (B := 40) 1 r r (Src.lit) r r r (List.all_eq_true.1 r) r r r r) fun z4 _=>pe 11 r r<|pf 12 11 r r ?_
 refine R_o 13 r r (by kernel_rfl) (opx_store r r r (List.all_eq_true.1 r)) fun _ _=>dn<|kt<|sb r<|fa 6 r<|so r r<|nk<|jg<|ec r<|fa 7 r<|lf 10 r r<|cu (i411 a z4.1 z4.2.1 z4.2.2) r<|ln<|kb<|ku<|ju ?_
 refine js<|sb r<|lf 6 r r<|ea r<|gs r<|gs r<|gs r<|gs r<|gs r<|gs r<|gs r<|an r<|cf r<|jx<|ke<|ke ?_
 refine kh ?_
 exact K_ends r (.nil) (z4.1, z4.2.1, z4.2.2) trivial r Ent.take
theorem i413 (a : Nat) : FSpec Tryz.prog 163 #[Pt a 0, I 200] (c107 a) (fun _ : Nat × Nat × Nat => True) (fun y => .tuple #[Sk y.1 y.2.1 1 y.2.2, I 0]) (fun y => (sep (c122 a) (c186 y.1 y.2.1 y.2.2))) := by
 refine en Tryz.func163 r fun σ F=>sb r<|nj<|sb r<|cu (i410 a) r<|an r<|sb r<|nf r<|sk<|sb r<|cy (i412 a) r fun y1=>nr<|eb r<|lf 11 r r<|an r<|sb r ?_
 refine fa 11 r<|so r r<|nr<|ec r<|nk<|jr ?_
 exact K_rets r (.tmp r (.tmp r (.nil))) (y1.1, y1.2.1, y1.2.2) trivial r Ent.take
theorem i414 (a c d : Nat) : Kp Tryz.prog 214 #[Sk a c 1 d, I 0, I 1, .func (.func 165) #[] #[]] (emp) (.tuple #[]) := by
 refine en Tryz.func214 r fun σ F=>J_emp<|sa r<|ib (I 1) r<|an r<|jl<|ju<|js<|sr<|ec r<|nf r<|jx<|ke<|ke<|kh<|z0 r Ent.take
theorem i415 (a c d : Nat) : Kp Tryz.prog 189 #[Sk a c 1 d, I 1, .func (.func 165) #[] #[]] (emp) (.tuple #[]) := by
 refine en Tryz.func189 r fun σ F=>J_emp<|san r<|sr<|ec r<|nj<|jl<|ju<|js<|sr<|ec r<|nf r<|jx<|ke<|ke<|kh ?_
 refine kt<|sr<|ed r<|cu (i414 a c d) r<|nk<|jl<|ju<|js<|sr<|ec r<|nf r<|jx<|ke<|ke<|kh<|z0 r Ent.take
theorem i416 (a c d : Nat) : Kp Tryz.prog 164 #[Sk a c 1 d, .func (.func 165) #[] #[]] (emp) (.tuple #[]) := by
 refine en Tryz.func164 r fun σ F=>J_emp<|jg<|eb r<|ll r<|ea r<|cu (i415 a c d) r<|ln<|z0 r Ent.take
theorem i417 (a c d e g h j k l o p q : Nat) : FSpec Tryz.prog 137 #[Pt a 0, I 200] ((sep (c125 a c d e g h j k l) (sep (c6 c d e o p q) (sep (c37 o) (sep (c107 p) (c37 q)))))) (fun _ : Nat × Nat × Nat => True) (fun y => .tuple #[Sk y.1 y.2.1 1 y.2.2, I 0]) (fun y => (sep (c127 a c d e g h j k l) (sep (c6 c d e o p q) (sep (c38 o) (sep (c122 p) (sep (c38 q) (SLA.Own 305 5 (Sk y.1 y.2.1 1 y.2.2) 1 [I 1, I 10, .string e0, I 100, I 184]))))))) := by
 refine en Tryz.func137 r fun σ F=>sb r<|nj<|sb r<|cu (i405 a c d e g h j k l) r<|an r<|sb r<|nf r<|sk<|sb r<|cu (i406 a c d e g h j k l) r<|nr<|an r<|js<|sb r<|lf 1 r r ?_
 refine ll r<|an r<|jl<|ut r<|js<|jb<|sa r<|ix d r r<|lv (opv_ldO 0 r r r) r<|eb r<|nr<|eb r<|cu (i409 o) r<|ed r<|an r<|sa r ?_
 refine ll r<|an r<|jl<|uf r<|ni (I 1) r<|ut r<|js<|jb<|sa r<|ix (d + 1) r r<|lv (opv_ldO 1 r r r) r<|eb r<|nr<|eb r<|cy (i413 p) r fun y1=>ed r ?_
 refine an r<|sa r<|ll r<|an r<|jl<|ut r<|js<|jb<|sr<|ix y1.2.1 r r<|lv (opv_ldOS 0 r r) r<|al r fun b2=>so r r<|nk<|jg<|eb r ?_
 refine lf 0 r r<|lf 1 r r<|lf 2 r r<|lf 3 r r<|lv (opv_build r) r<|lx r (opx_buildSlice1 (m := 5) r r (by decide) (by decide) r) fun b3 _=>lx r (opx_apN (m := 5) (B := 48) 1 r r (Src.lit) r r r (List.all_eq_true.1 r) r r r r) fun z4 _=>ea r<|ln<|ni (I 1) r<|uf r<|ni (I 2) r<|ut r<|js<|jb<|sa r ?_
 refine ix (d + 2) r r<|lv (opv_ldO 2 r r r) r<|eb r<|nr<|eb r<|cu (i409 q) r<|ed r<|an r<|sa r<|ll r<|an r<|jl<|uf r<|ni (I 3) r<|uf r<|kt ?_
 refine sa r<|cu (i416 z4.1 z4.2.1 z4.2.2) r<|nr<|ec r<|nk<|jr ?_
 exact K_rets r (.tmp r (.tmp r (.nil))) (z4.1, z4.2.1, z4.2.2) trivial r Ent.take
theorem i418 (a c d e g h j k l m o p q : Nat) : Kp Tryz.prog 104 #[Pt a 0, I 200] (c81 a c d e g h j k l m o p q) (I 0) := by
 refine en Tryz.func104 r fun σ F=>san r<|js<|sr<|ec r<|lf 11 r r<|an r<|cf r<|sk<|sr<|ec r<|fa 11 r<|so r r<|nr<|an r<|jr ?_
 exact r1 r Ent.take
theorem i419 (a c d e g h j k l m o p q s t u w A B C : Nat) : Sp Tryz.prog 216 #[Pt a 0, Pt c 0] ((sep (c187 c) (sep (c21 a d e g h j k l m o p q) (sep (c0 o s) (c12 s t u w A B C))))) (I 0) ((sep (c128 c s) (sep (c21 a d e g h j k l m o p q) (sep (c0 o s) (c12 s t u w A B C))))) := by
 refine en Tryz.func216 r fun σ F=>san r<|san r<|js<|sr<|ec r<|lf 8 r r<|cy aw_dec0 r fun _=>ed r<|fa 0 r<|so r r<|an r<|sb r<|nf r<|sk<|js ?_
 refine J_steps ((sep (c21 a d e g h j k l m o p q) (c0 o s))) (cel c [I 10, I 0, I 0, I 0, .string m3, Np, I 200, I 0, .string e0, I 0, Ff, I 0, I 0, I 0, U8 0, U8 0, U8 0, U8 0, U8 0, U8 0, U8 0, U8 0, Z, Ff, I 0, I 0, Z] 373) [13] Tryz.mixed<|pe 0 r r<|pe 1 r r<|pe 2 r r<|pf 3 7 r r<|pe 5 r r<|pe 6 r r<|pf 7 0 r r<|pf 8 0 r r<|pl 4 r r r<|R_ts 9 r (by kernel_rfl) (opv_load r (Rd.look r)) r<|ps 10 r (opv_lookC (v := Pt s 0) r r r)<|pe 11 r r<|pf 12 5 r r ?_
 refine R_o 13 r r (by kernel_rfl) (opx_store r r r (List.all_eq_true.1 r)) fun _ _=>dn<|kt<|js<|jb<|sb r<|lf 5 r r<|ep false r<|an r<|cf r<|js<|J_quiet Tryz.mixed (by kernel_rfl)<|qb r<|qf 0 r<|qf 1 r<|ql r r ?_
 refine qb r<|qf 5 r<|ql r r<|qa r<|qf 0 r<|qf 1 r<|ql r r<|qb r<|qo r<|qa r<|qo r<|qa r<|qo r<|qf 0 r<|qo r<|qf 2 r ?_
 refine qo r<|ql r r<|qo r<|qa r<|qo r<|qa r<|qo r<|qf 7 r<|qo r<|ql r r<|qo r<|qb r<|qa r<|qn<|kt<|cf r ?_
 refine js<|J_quiet Tryz.mixed (by kernel_rfl)<|qb r<|qf 8 r<|ql r r<|qv ((opv_lenS r).as (v' := I 64) (congrArg (fun n : Nat => Value.int .i64 n) e0_size)) r<|qb r<|qf 5 r<|ql r r<|qa r<|qf 0 r<|qf 3 r<|ql r r<|qb r<|qn<|kt ?_
 refine cf r<|skb<|san r<|jr<|r1 r Ent.take
theorem i420 : Kp Tryz.prog 253 #[I 0] (emp) (Tt) := by
 refine en Tryz.func253 r fun σ F=>J_emp<|san r<|sr<|ec r<|go r<|ea r<|go r<|ec r<|nk<|jr<|r1 r Ent.take
theorem i421 (a : Nat) : Kp Tryz.prog 255 #[Pt a 0, I 0] (c25 a) (Tt) := by
 refine en Tryz.func255 r fun σ F=>san r<|sb r<|lf 0 r r<|eb r<|gs r<|gs r<|eb r<|nk<|jr<|r1 r Ent.take
theorem i422 (a c : Nat) : Kp Tryz.prog 254 #[I 0, Sk a 0 3 3] ((sep (cel a [.func (.func 255) #[Pt c 0] #[], .func (.func 256) #[Pt c 0] #[], .func (.func 257) #[Pt c 0] #[]] 154) (c25 c))) (Tt) := by
 refine en Tryz.func254 r fun σ F=>san r<|js<|sa r<|ll r<|an r<|jl<|ut r<|js<|jb<|sr<|ix 0 r r<|ld r r<|an r<|sb r<|lx r (opx_call (first := [Pt c 0]) (captured := []) (i421 c) r r r r) fun _ _=>?_
 refine nt r<|san r<|jr<|kq<|kd<|kd<|kq<|kd<|r1 r Ent.take
theorem i423 (a : Nat) : Sp Tryz.prog 239 #[Pt a 0, I 0] (c25 a) (I 0) (c50 a) := by
 refine en Tryz.func239 r fun σ F=>san r<|js<|jb<|sa r<|ep false r<|an r<|cf r<|sa r<|cu i420 r<|bf r<|sb r<|lv (opv_makeFunc r r) r<|ea r<|lv (opv_makeFunc r r) r<|ea r ?_
 refine lv (opv_makeFunc r r) r<|lx r (opx_buildSliceL r r r (by decide) (by simp [Value.cells]) r) fun b1 _=>cu (i422 b1 a) r<|bf r<|skb<|js<|sb r<|lf 0 r r<|ea r<|gs r<|gs r<|gs r<|gs r<|gs r<|gs r<|gs r ?_
 refine an r<|cf r<|sk<|sr<|ed r<|ea r<|fa 0 r<|so r r<|ea r<|fa 1 r<|so r r<|ea r<|fa 3 r<|so r r<|nr<|an r ?_
 refine jr<|r1 r Ent.take
theorem i424 (a : Nat) : Kp Tryz.prog 259 #[Pt a 0, I 200, I 0, I 0] (c54 a) (I 0) := by
 refine en Tryz.func259 r fun σ F=>san r<|js<|jb<|sa r<|ep false r<|an r<|cf r<|sr<|ec r<|go r<|ea r<|go r<|ec r<|go r<|ea r ?_
 refine go r<|ec r<|go r<|ea r<|go r<|ec r<|go r<|ea r<|go r<|ec r<|go r<|ea r<|go r<|ec r<|nf r<|sr ?_
 refine ec r<|lf 2 r r<|bf r<|skb<|san r<|jr<|r1 r Ent.take
theorem i425 (a : Nat) : Sp Tryz.prog 260 #[Pt a 0, I 200] (c54 a) (.tuple #[]) (cel a [Ns, I 60000, I 200, I 0, I 0, I 0] 335) := by
 refine en Tryz.func260 r fun σ F=>sr<|ec r<|fa 2 r<|so r r<|nk<|jl<|ju<|js<|js<|J_quiet Tryz.mixed (by kernel_rfl)<|qb r<|qf 0 r<|ql r r<|qv (opv_lenL r) r<|qb r ?_
 refine qs r<|qs r<|qs r<|qs r<|qs r<|qs r<|qs r<|qs r<|qs r<|qs r<|qs r<|qs r<|qs r<|qs r<|qa r<|qn ?_
 refine kt<|cf r<|jx<|ke<|ke<|kh<|z0 r Ent.take
theorem i426 (a : Nat) : FSpec Tryz.prog 240 #[Pt a 0, I 200, I 0, I 0] (c54 a) (fun _ : Nat × Nat × Nat => True) (fun y => I 0) (fun y => (sep (c84 a y.1 y.2.1 y.2.2) (c90 y.1 y.2.1 y.2.2))) := by
 refine en Tryz.func240 r fun σ F=>san r<|js<|sr<|ed r<|cu (i424 a) r<|an r<|sb r<|nf r<|sk<|sb r<|cu (i425 a) r<|nj<|sr<|ec r<|cy (aw_cop0 a) r fun _=>?_
 refine an r<|jb<|sr<|ec r<|nf r<|sr<|ec r<|nf r<|sr<|ec r<|gs r<|gs r<|gs r<|bf r<|skb<|sr ?_
 refine ec r<|lf 0 r r<|ec r<|lv (opv_cv (c := .int .u64 0) r r) r<|lv ((opv_shl r r (by decide)).as (v' := .int .u64 1) r) r<|lv (opv_build r) r<|lx r (opx_buildSlice1 (m := 3) r r (by decide) (by decide) r) fun b1 _=>lx r (opx_apN (m := 3) (B := 24) 1 r r (Src.lit) r r r (List.all_eq_true.1 r) r r r r) fun z2 _=>ea r<|fa 0 r<|so r r<|nj<|J_steps (cel a [Sk z2.1 z2.2.1 1 z2.2.2, I 60000, I 200, I 0, I 0, I 0] 335) (emp) [] Tryz.mixed<|pe 0 r r<|pe 1 r r<|pe 2 r r ?_
 refine pf 3 0 r r<|pe 5 r r<|pe 6 r r<|pf 7 0 r r<|pl 4 r r r<|pl 8 r r r<|ps 9 r (opv_lenL r)<|ps 10 r (opv_ib (c := I (-255)) r r r)<|ps 11 r ((opv_max r r).as (v' := I 0) r)<|ps 12 r (opv_ct0 r r)<|pe 13 r r<|pf 14 0 r r ?_
 refine pn 15 r (opx_store r r r (List.all_eq_true.1 r)) fun _ _=>dn<|kt<|sb r<|lf 3 r r<|ib (I 1) r<|ea r<|fa 3 r<|so r r<|nr<|an r<|jr ?_
 exact K_rets r (.tmp r (.nil)) (z2.1, z2.2.1, z2.2.2) trivial r Ent.take
theorem i427 (a c d e g h j k l : Nat) : FSpec Tryz.prog 217 #[Pt a 0, Pt c 0] ((sep (c128 c d) (sep (c12 d e g h j k l) (sep (c25 j) (c54 l))))) (fun _ : Nat × Nat × Nat => True) (fun y => I 0) (fun y => (sep (c128 c d) (sep (c12 d e g h j k l) (sep (c50 j) (sep (c84 l y.1 y.2.1 y.2.2) (c90 y.1 y.2.1 y.2.2)))))) := by
 refine en Tryz.func217 r fun σ F=>san r<|js<|js<|J_steps ((sep (c128 c d) (c12 d e g h j k l))) (emp) [] Tryz.mixed<|pe 0 r r<|pe 1 r r<|pf 2 5 r r<|pe 4 r r<|pe 5 r r<|pf 6 7 r r<|pe 12 r r<|pe 13 r r<|pf 14 0 r r<|pf 15 3 r r<|pl 3 r r r ?_
 refine pe 8 r r<|pf 9 8 r r<|pl 7 r r r<|ps 10 r (opv_ixA 8 r r r r)<|pl 11 r r r<|pl 16 r r r<|pn 17 r (opx_call0 (i423 j) r r r) fun _ _=>pe 18 r r<|dn<|kt<|sb r<|nf r<|sk<|js<|J_steps ((sep (c128 c d) (c12 d e g h j k l))) (emp) [] Tryz.mixed<|pe 0 r r ?_
 refine pe 1 r r<|pf 2 5 r r<|pe 7 r r<|pe 8 r r<|pf 9 6 r r<|pe 11 r r<|pe 12 r r<|pf 13 7 r r<|pe 15 r r<|pe 16 r r<|pf 17 0 r r<|pf 18 3 r r<|pl 3 r r r<|pe 4 r r<|pf 5 10 r r<|pl 6 r r r ?_
 refine pl 10 r r r<|pl 14 r r r<|pl 19 r r r<|pn 20 r (opx_call0 (i426 l) r r r) fun y2 _=>pe 21 r r<|dn<|kt<|jr ?_
 exact K_rets r (.tmp r (.nil)) (y2.1, y2.2.1, y2.2.2) trivial r Ent.take
theorem i428 : Kp Tryz.prog 114 #[U8 0, U8 0] (emp) (I 0) := by
 refine en Tryz.func114 r fun σ F=>J_emp<|san r<|sa r<|lv (opv_cv (c := I 0) r r) r<|lv ((opv_shl r r (by decide)).as (v' := I 0) r) r<|ea r<|lv (opv_cv (c := I 0) r r) r<|lv ((opv_or r r).as (v' := I 0) r) r<|an r<|jr<|r1 r Ent.take
theorem i429 : Kp Tryz.prog 241 #[.agg k8.toArray] (emp) (.tuple #[I 0, I 0, I 0, I 0]) := by
 refine en Tryz.func241 r fun σ F=>J_emp<|sr<|bx r fun b1=>ed r<|nj<|J_quiet Tryz.mixed (by kernel_rfl)<|qv (opv_ixA 1 r r r r) r<|ql r r<|qv (opv_ixA 2 r r r r) r<|ql r r<|Q_call (i428) r r (fun _ _ => r) (fun _ _ => Ent.refl _) r<|qv (opv_ixA 3 r r r r) r<|ql r r<|qv (opv_cv (c := I 0) r r) r<|qv (opv_ixA 2 r r r r) r ?_
 refine ql r r<|qv (opv_ixA 3 r r r r) r<|ql r r<|Q_call (i428) r r (fun _ _ => r) (fun _ _ => Ent.refl _) r<|qb r<|qa r<|qn<|kt<|js<|sb r<|cu i190 r<|ec r<|al r fun b2=>so r r<|an r<|sr ?_
 refine ec r<|go r<|ls r<|go r<|ls r<|go r<|lv ((opv_eqlF r r (by simp [Shape, CK.sh]) (by simp [Shape, CK.sh])).as (v' := Tt) (congrArg Value.bool (by simp))) r<|an r<|ct r<|sr<|ed r<|eb r<|nk<|jr<|kd ?_
 exact K_rets r (.tmp r (.tmp r (.tmp r (.tmp r (.nil))))) () trivial r Ent.take
theorem i430 (a c : Nat) : Sp Tryz.prog 49 #[Pt a 0, I 200] (c34 a c) (I 0) (c98 a c) := by
 refine en Tryz.func49 r fun σ F=>san r<|js<|jb<|sa r<|ep false r<|an r<|cf r<|sr<|ec r<|nf r<|sr<|ec r<|lf 4 r r<|bf r<|skb ?_
 refine sr<|ec r<|fa 4 r<|so r r<|nj<|jl<|ju<|js<|js<|J_quiet Tryz.mixed (by kernel_rfl)<|qb r<|qf 1 r<|ql r r<|qv (opv_lenL r) r<|qb r<|qs r ?_
 refine qs r<|qs r<|qs r<|qs r<|qs r<|qs r<|qs r<|qs r<|qs r<|qs r<|qs r<|qs r<|qs r<|qs r<|qs r<|qs r ?_
 refine qs r<|qs r<|qs r<|qs r<|qa r<|qn<|kt<|cf r<|jx<|ke<|ke<|kh<|kt<|san r<|jr<|r1 r Ent.take
theorem i431 (a c : Nat) : Sp Tryz.prog 15 #[Pt a 0, I 200, .agg k23.toArray] (c34 a c) (.tuple #[.agg k23.toArray, Tt, I 0]) (c98 a c) := by
 refine en Tryz.func15 r fun σ F=>sr<|bx r fun b1=>al r fun b2=>eb r<|nj<|sb r<|cu (i430 a c) r<|an r<|sb r<|nf r<|sk<|js<|jb<|sr<|lf 2 r r ?_
 refine eb r<|go r<|fa 1 r<|go r<|ld r r<|go r<|ec r<|nt r<|sr<|ls r<|so r r<|eb r<|nk<|jr<|kq<|kd ?_
 exact K_rets r (.agg r r (.tmp r (.tmp r (.nil)))) () trivial r Ent.take
theorem i432 (a c d e g h j k l m o p q s t u v w A B C : Nat) : Sp Tryz.prog 218 #[Pt a 0, Pt c 0] ((sep (c128 c d) (sep (c12 d e g h j k l) (sep (c21 a m o p q s t u v w A B) (c34 A C))))) (I 0) ((sep (c129 c d) (sep (c12 d e g h j k l) (sep (c21 a m o p q s t u v w A B) (c98 A C))))) := by
 refine en Tryz.func218 r fun σ F=>san r<|sb r<|fa 0 r<|lf 4 r r<|cy aw_ipd r fun _=>ec r<|al r fun b1=>so r r<|an r<|js<|sb r<|nf r<|sk<|sr<|fa 5 r ?_
 refine ls r<|cu i429 r<|ed r<|ed r<|an r<|sb r<|lf 5 r r<|ea r<|fa 0 r<|lf 0 r r<|cu i192 r<|ec r<|al r fun b2=>so r r<|an r<|js ?_
 refine jb<|sr<|ec r<|go r<|ea r<|go r<|ec r<|go r<|ea r<|go r<|ea r<|go r<|ea r<|go r<|fa 5 r<|go r ?_
 refine ld r r<|go r<|ea r<|go r<|fa 0 r<|go r<|fa 1 r<|go r<|ld r r<|go r<|ec r<|go r<|fa 9 r<|go r<|ls r<|go r ?_
 refine ls r<|go r<|lv ((opv_neqF r r (by simp [Shape, CK.sh]) (by simp [Shape, CK.sh])).as (v' := Ff) (congrArg Value.bool (by simp))) r<|bf r<|sr<|lf 4 r r<|bf r<|skb<|js<|J_steps ((sep (c21 a m o p q s t u v w A B) (cel b1 k23 39))) (c128 c d) [18, 21] Tryz.mixed<|pe 0 r r<|pe 1 r r<|pe 2 r r<|pe 3 r r<|pf 4 8 r r<|pe 6 r r ?_
 refine pe 7 r r<|pf 8 6 r r<|pl 5 r r r<|ps 10 r (opv_loadS r)<|R_ts 9 r (by kernel_rfl) (opv_load r (Rd.look r)) r<|pn 11 r (opx_call0 (i431 A C) r r r) fun _ _=>pe 12 r r<|pe 13 r r<|pe 14 r r<|pe 15 r r<|pe 16 r r<|pf 17 9 r r ?_
 refine R_o 18 r r (by kernel_rfl) (opx_store r r r (List.all_eq_true.1 r)) fun _ _=>R_q 19 r (by kernel_rfl) (opv_nilCheck r) r<|R_q 20 r (by kernel_rfl) (opv_fa 23 r r) r ?_
 refine R_o 21 r r (by kernel_rfl) (opx_store r r r (List.all_eq_true.1 r)) fun _ _=>R_q 22 r (by kernel_rfl) (opv_assign r) r<|dn<|kt<|sb r<|nk<|jr<|r1 r Ent.take
theorem i433 (a c d : Nat) : Kp Tryz.prog 243 #[.agg k5.toArray, Pt a 0, Pt c 0, Pt d 0] (emp) (Ff) := by
 refine en Tryz.func243 r fun σ F=>J_emp<|sr<|bx r fun b1=>an r<|js<|J_quiet Tryz.mixed (by kernel_rfl)<|qf 4 r<|ql r r<|qb r<|qs r<|qs r<|qs r<|qs r<|qs r<|qs r ?_
 refine qs r<|qb r<|qs r<|qs r<|qs r<|qs r<|qs r<|qs r<|qs r<|qs r<|qs r<|qs r<|qs r<|qb r<|qs r<|qs r ?_
 refine qs r<|qs r<|qs r<|qb r<|qn<|kt<|jr<|r1 r Ent.take
theorem i434 (a c d e g h j k l m o p q s t u v w A B C D E : Nat) : Kp Tryz.prog 243 #[.agg k6.toArray, Pt a 0, Pt c 0, Pt d 0] ((sep (cel a [Pt e 0] 215) (sep (c21 e g h j k l m o p q s t) (sep (cel c [Pt u 0] 371) (sep (c129 u v) (sep (c12 v w A B C D E) (c178 d))))))) (Tt) := by
 refine en Tryz.func243 r fun σ F=>sr<|bx r fun b1=>an r<|js<|J_quiet Tryz.mixed (by kernel_rfl)<|qf 4 r<|ql r r<|qb r<|qo r<|qf 1 r<|qo r<|ql r r<|qo r<|ql r r<|qo r ?_
 refine qa r<|qo r<|qf 6 r<|qo r<|ql r r<|qo r<|qb r<|qa r<|qo r<|qf 5 r<|qo r<|ql r r<|qo r<|ql r r<|qo r<|qa r ?_
 refine qo r<|qf 5 r<|qo r<|ql r r<|qo r<|qa r<|qo r<|qf 0 r<|qo r<|qf 0 r<|qo r<|ql r r<|qo r<|qb r<|qa r<|qo r ?_
 refine qf 7 r<|qo r<|ql r r<|qo r<|qf 9 r<|qo r<|ql r r<|qo r<|qb r<|qa r<|qn<|kt<|jr<|r1 r Ent.take
theorem i435 (a c d e g h j k l m o p q s t u v w A B C D E : Nat) : Kp Tryz.prog 242 #[Sk a c 4 d, .func (.func 243) #[] #[Pt e 0, Pt g 0, Pt h 0]] ((sep (c2 a c d) (sep (cel e [Pt j 0] 215) (sep (c21 j k l m o p a c d q s t) (sep (cel g [Pt u 0] 371) (sep (c129 u v) (sep (c12 v w A B C D E) (c178 h)))))))) (I 1) := by
 refine en Tryz.func242 r fun σ F=>san r<|js<|sa r<|ll r<|an r<|jl<|ut r<|js<|jb<|sb r<|nr<|ec r<|ix c r r<|lv (opv_ldOS 0 r r) r<|lx r (opx_call (first := []) (captured := (k9 e g h)) (i433 e g h) r r r r) fun _ _=>?_
 refine nf r<|jk<|ni (I 1) r<|ut r<|js<|jb<|sb r<|nr<|ec r<|ix (c + 11) r r<|lv (opv_ldOS 11 r r) r<|lx r (opx_call (first := []) (captured := (k9 e g h)) (i434 e g h j k l m o p a c d q s t u v w A B C D E) r r r r) fun _ _=>nt r<|sb r<|nk<|jr<|kq ?_
 refine kd<|kd<|kq<|kd<|r1 r Ent.take
theorem i436 (a c d e g h j k l m o p q s t u v w A B : Nat) : Sp Tryz.prog 219 #[Pt a 0, Pt c 0] ((sep (c129 c d) (sep (c21 a e g h j k l m o p q s) (sep (c2 l m o) (c12 d t u v w A B))))) (I 0) ((sep (c179 c d) (sep (c21 a e g h j k l m o p q s) (sep (c2 l m o) (c12 d t u v w A B))))) := by
 refine en Tryz.func219 r fun σ F=>sr<|bx r fun b1=>bx r fun b2=>an r<|js<|sr<|ld r r<|ea r<|lf 23 r r<|an r<|cf r<|sk ?_
 refine J_cut (X := Nat) (fun x7 => [(0, Pt a 0), (1, Pt c 0), (2, Pt b1 0), (3, Pt b2 0), (4, I 0), (9, Pt c 0), (10, Pt c 0), (11, Pt c 23), (12, Tt), (13, Ff), (15, Pt c 0), (16, Pt c 0), (17, Pt c 9), (18, Pt c 14), (19, .agg k8.toArray), (20, Pt c 0), (21, Pt c 0), (22, Pt c 9), (23, Pt c 18), (24, .agg k21.toArray), (25, Pt c 0), (26, Pt c 0), (27, Pt c 9), (28, Pt c 22), (29, .string m1), (30, .tuple #[.agg k19.toArray, .string (⟨#[104, 101, 108, 108, 111]⟩), I 0]), (14, .tuple #[.agg k19.toArray, .string (⟨#[104, 101, 108, 108, 111]⟩), I 0]), (31, .agg k19.toArray), (32, .string (⟨#[104, 101, 108, 108, 111]⟩)), (33, I 0), (5, Pt x7 0), (6, .string (⟨#[104, 101, 108, 108, 111]⟩)), (7, I 0)]) (fun x7 => (sep (c129 c d) (sep (cel b1 [Pt a 0] 215) (sep (cel b2 [Pt c 0] 371) (sep (c178 x7) (sep (c21 a e g h j k l m o p q s) (sep (c2 l m o) (sep (c12 d t u v w A B) (F))))))))) (fun _ => True) ?_ (fun x7 _ => ?_)
 · refine J_steps ((sep (cel b2 [Pt c 0] 371) (c129 c d))) (emp) [] Tryz.mixed<|pl 0 r r r<|pe 1 r r<|pf 2 9 r r<|pf 3 14 r r<|ps 4 r (opv_loadS r)<|pl 5 r r r<|pe 6 r r<|pf 7 9 r r<|pf 8 18 r r<|ps 9 r (opv_loadS r)<|pl 10 r r r<|pe 11 r r<|pf 12 9 r r<|pf 13 22 r r<|pl 14 r r r ?_
   refine R_a [15, 20] (by kernel_rfl) rfl fun i hi => ?_
   simp only [List.mem_cons, List.not_mem_nil, or_false] at hi
   rcases hi with rfl | rfl
   · refine R_an r r (opx_call0 (aw_udpd) r r r) fun _ _=>pe 16 r r<|pe 17 r r<|pe 18 r r<|pe 19 r r<|pn 20 r (opx_alloc r) fun b5 _=>?_
     refine pn 21 r (opx_store r r r (List.all_eq_true.1 r)) fun _ _=>pe 22 r r<|pe 23 r r<|dn<|kc b5 r Ent.take
   · refine R_an r r (opx_alloc r) fun b6 _=>pn 15 r (opx_call0 (aw_udpd) r r r) fun _ _=>pe 16 r r<|pe 17 r r<|pe 18 r r<|pe 19 r r ?_
     refine pn 21 r (opx_store r r r (List.all_eq_true.1 r)) fun _ _=>pe 22 r r<|pe 23 r r<|dn<|kc b6 r Ent.take
 · refine js<|sb r<|nf r<|sk<|sr<|ld r r<|ea r<|fa 0 r<|lf 5 r r<|lv (opv_makeFunc r r) r<|cu (i435 l m o b1 b2 x7 a e g h j k p q s c d t u v w A B) r<|an r<|js<|jb<|sr<|ec r ?_
   refine nf r<|sa r<|lv ((opv_lenS r).as (v' := I 5) r) r<|ld r r<|ea r<|fa 0 r<|lf 5 r r<|ea r<|ix (m + 11) r r<|fa (m + 19) r<|lv (opv_ldO 19 r r r) r<|bf r<|skb<|js<|J_steps ((sep (cel b2 [Pt c 0] 371) (sep (cel b1 [Pt a 0] 215) (sep (c21 a e g h j k l m o p q s) (c2 l m o))))) (c129 c d) [18] Tryz.mixed<|pe 6 r r ?_
   refine pe 14 r r<|pl 0 r r r<|pl 1 r r r<|pe 2 r r<|pf 3 0 r r<|pf 4 5 r r<|pl 5 r r r<|ps 7 r (opv_ix (m + 11) r r r r)<|pf 8 (m + 11) r r<|ps 9 r (opv_ldO 11 r r r)<|pl 10 r r r<|pe 11 r r<|pf 12 6 r r<|R_ts 13 r (by kernel_rfl) (opv_load r (Rd.look r)) r<|ps 15 r (opv_build r)<|pe 16 r r ?_
   refine pf 17 24 r r ?_
   refine R_o 18 r r (by kernel_rfl) (opx_store r r r (List.all_eq_true.1 r)) fun _ _=>dn<|kt<|san r<|jr<|r1 r Ent.take
theorem i437 (a c d e g h j k l m o p q s t u v w A B C : Nat) : FSpec Tryz.prog 191 #[Pt a 0, Pt c 0] ((sep (c187 c) (sep (c21 a d e g h j k l m o p q) (sep (c0 o s) (sep (c12 s t u v w A B) (sep (c25 w) (sep (c54 B) (sep (c34 p C) (c2 k l m))))))))) (fun _ : Nat × Nat × Nat => True) (fun y => I 0) (fun y => (sep (c179 c s) (sep (c21 a d e g h j k l m o p q) (sep (c0 o s) (sep (c12 s t u v w A B) (sep (c50 w) (sep (c84 B y.1 y.2.1 y.2.2) (sep (c98 p C) (sep (c2 k l m) (c90 y.1 y.2.1 y.2.2)))))))))) := by
 refine en Tryz.func191 r fun σ F=>san r<|js<|sa r<|lv (opv_makeFunc r r) r<|ea r<|lv (opv_makeFunc r r) r<|ea r<|lv (opv_makeFunc r r) r<|ea r<|lv (opv_makeFunc r r) r<|lx r (opx_buildSliceL r r r (by decide) (by simp [Value.cells]) r) fun b1 _=>ll r<|an r<|jl<|ut r ?_
 refine js<|jb<|sr<|ix 0 r r<|ld r r<|an r<|sb r<|lx r (opx_call (first := [Pt a 0]) (captured := []) (i419 a c d e g h j k l m o p q s t u v w A B) r r r r) fun _ _=>an r<|sb r<|nf r<|jk<|ni (I 1) r<|ut r<|js<|jb<|sr ?_
 refine ix 1 r r<|ld r r<|an r<|sb r<|lx r (opx_call (first := [Pt a 0]) (captured := []) (i427 a c s t u v w A B) r r r r) fun y2 _=>an r<|sb r<|nf r<|jk<|ni (I 2) r<|ut r<|js<|jb<|sr<|ix 2 r r<|ld r r<|an r ?_
 refine sb r<|lx r (opx_call (first := [Pt a 0]) (captured := []) (i432 a c s t u v w A B d e g h j k l m o p q C) r r r r) fun _ _=>an r<|sb r<|nf r<|jk<|ni (I 3) r<|ut r<|js<|jb<|sr<|ix 3 r r<|ld r r<|an r<|sb r<|lx r (opx_call (first := [Pt a 0]) (captured := []) (i436 a c s d e g h j k l m o p q t u v w A B) r r r r) fun _ _=>an r ?_
 refine sb r<|nf r<|jk<|ni (I 4) r<|uf r<|kt<|san r<|jr ?_
 exact K_rets r (.tmp r (.nil)) (y2.1, y2.2.1, y2.2.2) trivial r Ent.take
theorem i438 (a c d e g h j k l m o p q s t u w A B C : Nat) : FSpec Tryz.prog 167 #[Pt a 0, I 200, I 0, .string e0] ((sep (c102 a c d e g h j k l m o p) (sep (c0 m q) (sep (c12 q s t u w A B) (sep (c25 w) (sep (c54 B) (sep (c34 o C) (sep (c2 j k l) (c3 p))))))))) (fun _ : Nat × Nat × Nat => True) (fun y => .tuple #[.agg k29.toArray, Tt, I 0]) (fun y => (sep (c21 a c d e g h j k l m o p) (sep (c0 m q) (sep (c12 q s t u w A B) (sep (c50 w) (sep (c84 B y.1 y.2.1 y.2.2) (sep (c98 o C) (sep (c2 j k l) (sep (c23 p) (c90 y.1 y.2.1 y.2.2)))))))))) := by
 refine en Tryz.func167 r fun σ F=>sr<|al r fun b1=>eb r<|nj<|jb<|sa r<|ep false r<|an r<|cf r<|sr<|ec r<|go r<|ea r<|go r<|ec r ?_
 refine go r<|ea r<|go r<|ec r<|go r<|ea r<|go r<|ec r<|nf r<|sr<|ec r<|lf 9 r r<|bf r<|skb<|sr<|ec r ?_
 refine fa 9 r<|so r r<|nr<|ec r<|lv (opv_build r) r<|bx r fun b2=>an r<|sb r<|cy (i437 a b2 c d e g h j k l m o p q s t u w A B C) r fun y3=>an r<|sb r<|lf 10 r r<|ea r<|lv (opv_lookC (v := I 0) r r r) r<|ib (I 1) r<|lx r (opx_putC r r r r) fun _ _=>?_
 refine nj<|sb r<|nf r<|sk<|js<|J_steps (c179 b2 q) (emp) [] Tryz.mixed<|pe 0 r r<|pe 1 r r<|pf 2 24 r r<|pe 4 r r<|pe 5 r r<|pf 6 23 r r<|ps 3 r (opv_loadS r)<|pl 7 r r r ?_
 refine pn 8 r (opx_store r r r (List.all_eq_true.1 r)) fun _ _=>pe 9 r r<|pe 10 r r<|dn<|kt<|jr ?_
 exact K_rets r (.agg r r (.tmp r (.tmp r (.nil)))) (y3.1, y3.2.1, y3.2.2) trivial r Ent.take
theorem i439 : Kp Tryz.prog 192 #[I 200] (emp) (I 0) := by
 refine en Tryz.func192 r fun σ F=>J_emp<|san r<|js<|sr<|ec r<|go r<|ea r<|go r<|bf r<|sk<|san r<|jr<|r1 r Ent.take
theorem i440 (a c d e : Nat) : Kp Tryz.prog 193 #[Pt a 0, I 20] ((sep (c19 a c) (c35 c d e))) (.tuple #[.agg (k24 d).toArray, I 0]) := by
 refine en Tryz.func193 r fun σ F=>sr<|al r fun b1=>an r<|js<|sa r<|ep false r<|nf r<|sk<|sb r<|lf 0 r r<|ea r<|lv (opv_lookC (v := .tuple #[.agg (k24 d).toArray, Tt]) r r r) r<|ec r<|al r fun b2=>so r r ?_
 refine an r<|js<|sb r<|nf r<|sk<|sr<|ls r<|so r r<|an r<|jr ?_
 exact K_rets r (.agg r r (.tmp r (.nil))) () trivial r Ent.take
theorem i441 (a : Nat) : FSpec Tryz.prog 296 #[Pt a 0, I 200, .string (⟨#[104, 101, 108, 108, 111]⟩)] (c94 a) (fun _ : Nat × Nat × Nat => True) (fun y => I 0) (fun y => (sep (c109 a y.1 y.2.1 y.2.2) (c66 y.1 y.2.1 y.2.2))) := by
 refine en Tryz.func296 r fun σ F=>san r<|js<|js<|J_quiet Tryz.mixed (by kernel_rfl)<|qb r<|qf 0 r<|ql r r<|qv (opv_lenL r) r<|qb r<|qf 1 r<|ql r r<|qa r<|qn<|kt<|cf r ?_
 refine sk<|sr<|ec r<|lf 0 r r<|ea r<|lx r (opx_buildSlice1 (m := 1) r r (by decide) (by decide) r) fun b1 _=>lx r (opx_apN (m := 1) (B := 16) 1 r r (Src.lit) r r r (List.all_eq_true.1 r) r r r r) fun z2 _=>ea r<|fa 0 r<|so r r<|nr<|an r<|jr ?_
 exact K_rets r (.tmp r (.nil)) (z2.1, z2.2.1, z2.2.2) trivial r Ent.take
theorem i442 (a c d e : Nat) : FSpec Tryz.prog 168 #[Pt a 0, I 200, I 20, .string (⟨#[104, 101, 108, 108, 111]⟩)] ((sep (c19 a c) (sep (c35 c d e) (c94 d)))) (fun _ : Nat × Nat × Nat => True) (fun y => I 0) (fun y => (sep (c19 a c) (sep (c35 c d e) (sep (c109 d y.1 y.2.1 y.2.2) (c66 y.1 y.2.1 y.2.2))))) := by
 refine en Tryz.func168 r fun σ F=>san r<|js<|sa r<|ep false r<|nf r<|sk<|js<|sa r<|cu i439 r<|an r<|sb r<|nf r<|sk<|sb r<|cu (i440 a c d e) r ?_
 refine ec r<|al r fun b1=>so r r<|an r<|js<|jb<|sr<|ec r<|nf r<|sa r<|lv ((opv_lenS r).as (v' := I 5) r) r<|fa 0 r<|lf 8 r r<|bf r<|skb<|sr ?_
 refine lf 11 r r<|eb r<|lx r (opx_inv (i441 d) r r (fun w => by kernel_rfl) r) fun y2 _=>an r<|jr ?_
 exact K_rets r (.tmp r (.nil)) (y2.1, y2.2.1, y2.2.2) trivial r Ent.take
theorem i443 (a c d e g h j k l m o p q s t u v w A B C D E G H M N : Nat) : FSpec Tryz.prog 138 #[Pt a 0, I 200, I 0, .string e0] ((sep (c81 a c d e g h j k l m o p q) (sep (c102 o c d e g h j k l s t u) (sep (c0 s v) (sep (c12 v w A B C D E) (sep (c25 C) (sep (c54 E) (sep (c34 t G) (sep (c2 j k l) (sep (c3 u) (sep (c19 p H) (sep (c35 H M N) (c94 M))))))))))))) (fun _ : Nat × Nat × Nat × Nat × Nat × Nat => True) (fun y => I 0) (fun y => (sep (c81 a c d e g h j k l m o p q) (sep (c21 o c d e g h j k l s t u) (sep (c0 s v) (sep (c12 v w A B C D E) (sep (c50 C) (sep (c84 E y.1 y.2.1 y.2.2.1) (sep (c98 t G) (sep (c2 j k l) (sep (c23 u) (sep (c19 p H) (sep (c35 H M N) (sep (c109 M y.2.2.2.1 y.2.2.2.2.1 y.2.2.2.2.2) (sep (c90 y.1 y.2.1 y.2.2.1) (c66 y.2.2.2.1 y.2.2.2.2.1 y.2.2.2.2.2))))))))))))))) := by
 refine en Tryz.func138 r fun σ F=>san r<|js<|jb<|sa r<|ep false r<|an r<|cf r<|sa r<|cu i379 r<|eb r<|go r<|ea r<|go r<|ec r<|go r ?_
 refine ea r<|go r<|ec r<|nf r<|skb<|js<|sb r<|cu (i418 a c d e g h j k l m o p q) r<|an r<|sb r<|nf r<|sk<|sb r<|lf 8 r r<|ec r<|cy (i438 o c d e g h j k l s t u v w A B C D E G) r fun y1=>?_
 refine ed r<|al r fun b2=>so r r<|eb r<|nj<|sr<|ec r<|go r<|ea r<|go r<|bf r<|sk<|js<|J_steps ((sep (c81 a c d e g h j k l m o p q) (cel b2 k29 355))) (emp) [] Tryz.mixed<|pe 0 r r<|pe 1 r r ?_
 refine pf 2 9 r r<|pe 4 r r<|pf 5 0 r r<|pf 7 2 r r<|pl 3 r r r<|pl 6 r r r<|pl 8 r r r<|pn 9 r (opx_call0 (i442 p H M N) r r r) fun y4 _=>pe 10 r r<|dn<|kt<|jr ?_
 exact K_rets r (.tmp r (.nil)) (y1.1, y1.2.1, y1.2.2, y4.1, y4.2.1, y4.2.2) trivial r Ent.take
theorem i444 (a c d e g h j k l : Nat) : Kp Tryz.prog 100 #[Pt a 0, I 200] (c126 a c d e g h j k l) (I 0) := by
 refine en Tryz.func100 r fun σ F=>san r<|js<|jb<|sa r<|ep false r<|an r<|cf r<|sr<|ec r<|go r<|ea r<|go r<|ec r<|nf r<|sr ?_
 refine ec r<|lf 4 r r<|bf r<|skb<|san r<|jr<|r1 r Ent.take
theorem i445 (a c d e g h j k l : Nat) : Sp Tryz.prog 101 #[Pt a 0, I 200] (c126 a c d e g h j k l) (.tuple #[]) (c130 a c d e g h j k l) := by
 refine en Tryz.func101 r fun σ F=>sr<|ec r<|fa 4 r<|so r r<|nk<|jl<|ju<|js<|sb r<|lf 3 r r<|ll r<|eb r<|gs r<|gs r<|gs r ?_
 refine gs r<|gs r<|gs r<|gs r<|gs r<|gs r<|an r<|cf r<|jx<|ke<|ke<|kh<|z0 r Ent.take
theorem i446 (a : Nat) : Kp Tryz.prog 187 #[Pt a 0, I 200] (c108 a) (I 0) := by
 refine en Tryz.func187 r fun σ F=>san r<|js<|jb<|sa r<|ep false r<|an r<|cf r<|sr<|ec r<|go r<|ea r<|go r<|ec r<|nf r<|sr ?_
 refine ec r<|lf 12 r r<|bf r<|skb<|san r<|jr<|r1 r Ent.take
theorem i447 (a c d e : Nat) : Kp Tryz.prog 213 #[Pt a 0, I 184] (c188 a c d e) (.tuple #[]) := by
 refine en Tryz.func213 r fun σ F=>san r<|jl<|ut r<|js<|jb<|sb r<|nr<|ec r<|fa 0 r<|lv (opv_ixA 0 r r r r) r<|ld r r<|an r<|sa r<|ll r<|an r ?_
 refine cf r<|jk<|ni (I 1) r<|ut r<|js<|jb<|sb r<|nr<|ec r<|fa 0 r<|lv (opv_ixA 1 r r r r) r<|ld r r<|an r<|sa r<|ll r<|an r<|cf r ?_
 refine jk<|ni (I 2) r<|uf r<|z0 r Ent.take
theorem i448 (a : Nat) : FSpec Tryz.prog 188 #[Pt a 0, I 200] (c108 a) (fun _ : Nat × Nat × Nat => True) (fun y => .tuple #[]) (fun y => (sep (c188 a y.1 y.2.1 y.2.2) (c189 y.1 y.2.1 y.2.2))) := by
 refine en Tryz.func188 r fun σ F=>sr<|ec r<|fa 12 r<|so r r<|nk<|jl<|ju<|js<|sb r<|lf 6 r r<|ea r<|go r<|ea r<|go r<|ea r ?_
 refine go r<|fa 7 r<|go r<|fa 10 r<|go r<|ld r r<|go r<|ea r<|go r<|eb r<|nt r<|sk<|jb<|js<|J_steps (emp) (cel a [Ns, Ns, I 1024, I 1024, I 0, I 0, Tt, I 10, .string e1, I 100, I 184, Ns, I 200] 253) [13] Tryz.mixed<|pe 0 r r ?_
 refine pe 1 r r<|pe 2 r r<|pf 3 11 r r<|pe 5 r r<|pe 6 r r<|pf 7 7 r r<|R_ts 4 r (by kernel_rfl) (opv_load r (Rd.look r)) r<|R_ts 8 r (by kernel_rfl) (opv_loadS r) r<|pn 9 r (opx_buildSlice1 (m := 4) r r (by decide) (by decide) r) fun b3 _=>pn 10 r (opx_apN (m := 4) (B := 40) 1 r r (Src.lit) r r r (List.all_eq_true.1 r) r r r r) fun z4 _=>pe 11 r r<|pf 12 11 r r ?_
 refine R_o 13 r r (by kernel_rfl) (opx_store r r r (List.all_eq_true.1 r)) fun _ _=>dn<|kt<|sb r<|fa 6 r<|so r r<|nk<|jg<|ec r<|fa 7 r<|lf 10 r r<|cu (i447 a z4.1 z4.2.1 z4.2.2) r<|ln<|kb<|ku<|ju ?_
 refine js<|sb r<|lf 6 r r<|ea r<|gs r<|gs r<|gs r<|gs r<|gs r<|gs r<|gs r<|an r<|cf r<|jx<|ke<|ke ?_
 refine kh ?_
 exact K_ends r (.nil) (z4.1, z4.2.1, z4.2.2) trivial r Ent.take
theorem i449 (a : Nat) : FSpec Tryz.prog 163 #[Pt a 0, I 200] (c108 a) (fun _ : Nat × Nat × Nat => True) (fun y => .tuple #[Sk y.1 y.2.1 1 y.2.2, I 0]) (fun y => (sep (c123 a) (c189 y.1 y.2.1 y.2.2))) := by
 refine en Tryz.func163 r fun σ F=>sb r<|nj<|sb r<|cu (i446 a) r<|an r<|sb r<|nf r<|sk<|sb r<|cy (i448 a) r fun y1=>nr<|eb r<|lf 11 r r<|an r<|sb r ?_
 refine fa 11 r<|so r r<|nr<|ec r<|nk<|jr ?_
 exact K_rets r (.tmp r (.tmp r (.nil))) (y1.1, y1.2.1, y1.2.2) trivial r Ent.take
theorem i450 (a c d e g h j k l o p q : Nat) : FSpec Tryz.prog 137 #[Pt a 0, I 200] ((sep (c126 a c d e g h j k l) (sep (c6 c d e o p q) (sep (c37 o) (sep (c108 p) (c37 q)))))) (fun _ : Nat × Nat × Nat => True) (fun y => .tuple #[Sk y.1 y.2.1 1 y.2.2, I 0]) (fun y => (sep (c130 a c d e g h j k l) (sep (c6 c d e o p q) (sep (c38 o) (sep (c123 p) (sep (c38 q) (SLA.Own 305 5 (Sk y.1 y.2.1 1 y.2.2) 1 [I 1, I 10, .string e1, I 100, I 184]))))))) := by
 refine en Tryz.func137 r fun σ F=>sb r<|nj<|sb r<|cu (i444 a c d e g h j k l) r<|an r<|sb r<|nf r<|sk<|sb r<|cu (i445 a c d e g h j k l) r<|nr<|an r<|js<|sb r<|lf 1 r r ?_
 refine ll r<|an r<|jl<|ut r<|js<|jb<|sa r<|ix d r r<|lv (opv_ldO 0 r r r) r<|eb r<|nr<|eb r<|cu (i409 o) r<|ed r<|an r<|sa r ?_
 refine ll r<|an r<|jl<|uf r<|ni (I 1) r<|ut r<|js<|jb<|sa r<|ix (d + 1) r r<|lv (opv_ldO 1 r r r) r<|eb r<|nr<|eb r<|cy (i449 p) r fun y1=>ed r ?_
 refine an r<|sa r<|ll r<|an r<|jl<|ut r<|js<|jb<|sr<|ix y1.2.1 r r<|lv (opv_ldOS 0 r r) r<|al r fun b2=>so r r<|nk<|jg<|eb r ?_
 refine lf 0 r r<|lf 1 r r<|lf 2 r r<|lf 3 r r<|lv (opv_build r) r<|lx r (opx_buildSlice1 (m := 5) r r (by decide) (by decide) r) fun b3 _=>lx r (opx_apN (m := 5) (B := 48) 1 r r (Src.lit) r r r (List.all_eq_true.1 r) r r r r) fun z4 _=>ea r<|ln<|ni (I 1) r<|uf r<|ni (I 2) r<|ut r<|js<|jb<|sa r ?_
 refine ix (d + 2) r r<|lv (opv_ldO 2 r r r) r<|eb r<|nr<|eb r<|cu (i409 q) r<|ed r<|an r<|sa r<|ll r<|an r<|jl<|uf r<|ni (I 3) r<|uf r<|kt ?_
 refine sa r<|cu (i416 z4.1 z4.2.1 z4.2.2) r<|nr<|ec r<|nk<|jr ?_
 exact K_rets r (.tmp r (.tmp r (.nil))) (z4.1, z4.2.1, z4.2.2) trivial r Ent.take
theorem i451 (a c d e g h j k l m o p q s t u w A B C : Nat) : Sp Tryz.prog 216 #[Pt a 0, Pt c 0] ((sep (c190 c) (sep (c21 a d e g h j k l m o p q) (sep (c0 o s) (c12 s t u w A B C))))) (I 0) ((sep (c148 c s) (sep (c21 a d e g h j k l m o p q) (sep (c0 o s) (c12 s t u w A B C))))) := by
 refine en Tryz.func216 r fun σ F=>san r<|san r<|js<|sr<|ec r<|lf 8 r r<|cy aw_dec1 r fun _=>ed r<|fa 0 r<|so r r<|an r<|sb r<|nf r<|sk<|js ?_
 refine J_steps ((sep (c21 a d e g h j k l m o p q) (c0 o s))) (cel c [I 10, I 0, I 1, I 0, .string m3, Np, I 200, I 1, .string e1, I 0, Ff, I 0, I 0, I 0, U8 0, U8 0, U8 0, U8 0, U8 0, U8 0, U8 0, U8 0, Z, Ff, I 0, I 0, Z] 373) [13] Tryz.mixed<|pe 0 r r<|pe 1 r r<|pe 2 r r<|pf 3 7 r r<|pe 5 r r<|pe 6 r r<|pf 7 0 r r<|pf 8 0 r r<|pl 4 r r r<|R_ts 9 r (by kernel_rfl) (opv_load r (Rd.look r)) r<|ps 10 r (opv_lookC (v := Pt s 0) r r r)<|pe 11 r r<|pf 12 5 r r ?_
 refine R_o 13 r r (by kernel_rfl) (opx_store r r r (List.all_eq_true.1 r)) fun _ _=>dn<|kt<|js<|jb<|sb r<|lf 5 r r<|ep false r<|an r<|cf r<|js<|J_quiet Tryz.mixed (by kernel_rfl)<|qb r<|qf 0 r<|qf 1 r<|ql r r ?_
 refine qb r<|qf 5 r<|ql r r<|qa r<|qf 0 r<|qf 1 r<|ql r r<|qb r<|qo r<|qa r<|qo r<|qa r<|qo r<|qf 0 r<|qo r<|qf 2 r ?_
 refine qo r<|ql r r<|qo r<|qa r<|qo r<|qa r<|qo r<|qf 7 r<|qo r<|ql r r<|qo r<|qb r<|qa r<|qn<|kt<|cf r ?_
 refine js<|J_quiet Tryz.mixed (by kernel_rfl)<|qb r<|qf 8 r<|ql r r<|qv ((opv_lenS r).as (v' := I 64) (congrArg (fun n : Nat => Value.int .i64 n) e1_size)) r<|qb r<|qf 5 r<|ql r r<|qa r<|qf 0 r<|qf 3 r<|ql r r<|qb r<|qn<|kt ?_
 refine cf r<|skb<|san r<|jr<|r1 r Ent.take
theorem i452 (a c d e : Nat) : Kp Tryz.prog 259 #[Pt a 0, I 200, I 1, I 0] (c84 a c d e) (I 0) := by
 refine en Tryz.func259 r fun σ F=>san r<|js<|jb<|sa r<|ep false r<|an r<|cf r<|sr<|ec r<|go r<|ea r<|go r<|ec r<|go r<|ea r ?_
 refine go r<|ec r<|go r<|ea r<|go r<|ec r<|go r<|ea r<|go r<|ec r<|go r<|ea r<|go r<|ec r<|nf r<|sr ?_
 refine ec r<|lf 2 r r<|bf r<|skb<|san r<|jr<|r1 r Ent.take
theorem i453 (a d e g : Nat) : Kp Tryz.prog 260 #[Pt a 0, I 200] ((sep (c84 a d e g) (c90 d e g))) (.tuple #[]) := by
 refine en Tryz.func260 r fun σ F=>sr<|ec r<|fa 2 r<|so r r<|nk<|jl<|ju<|js<|js<|J_quiet Tryz.mixed (by kernel_rfl)<|qb r<|qf 0 r<|ql r r<|qv (opv_lenL r) r<|qb r ?_
 refine qo r<|qa r<|qo r<|qa r<|qo r<|qa r<|qo r<|qf 0 r<|qo r<|ql r r<|qo r<|qv (opv_ix e r r r r) r<|qo r<|qf (e + 1) r<|qo r<|qv (opv_ldO 1 r r r) r ?_
 refine qo r<|qv (opv_ib (c := I 0) r r r) r<|qo r<|qa r<|qo r<|qa r<|qo r<|qf 1 r<|qo r<|ql r r<|qo r<|qb r<|qn<|kt<|cf r<|jx ?_
 refine ke<|ke<|kh<|z0 r Ent.take
theorem i454 (a c d e : Nat) : Sp Tryz.prog 240 #[Pt a 0, I 200, I 1, I 0] ((sep (c84 a c d e) (c90 c d e))) (I 21) ((sep (c110 a c d e) (c111 c d e))) := by
 refine en Tryz.func240 r fun σ F=>san r<|js<|sr<|ed r<|cu (i452 a c d e) r<|an r<|sb r<|nf r<|sk<|sb r<|cu (i453 a c d e) r<|nj<|sr<|ec r<|cy (aw_cop1 a c d e) r fun _=>?_
 refine an r<|jb<|sr<|ec r<|nt r<|sb r<|lf 4 r r<|ib (I 1) r<|ea r<|fa 4 r<|so r r<|nr<|eb r<|nk<|jr<|kq ?_
 refine kd<|r1 r Ent.take
theorem i455 (a c d e g h j k l m o p : Nat) : Sp Tryz.prog 217 #[Pt a 0, Pt c 0] ((sep (c148 c d) (sep (c12 d e g h j k l) (sep (c25 k) (sep (c84 l m o p) (c90 m o p)))))) (I 21) ((sep (c148 c d) (sep (c12 d e g h j k l) (sep (c50 k) (sep (c110 l m o p) (c111 m o p)))))) := by
 refine en Tryz.func217 r fun σ F=>san r<|js<|js<|J_steps ((sep (c148 c d) (c12 d e g h j k l))) (emp) [] Tryz.mixed<|pe 0 r r<|pe 1 r r<|pf 2 5 r r<|pe 4 r r<|pe 5 r r<|pf 6 7 r r<|pe 12 r r<|pe 13 r r<|pf 14 0 r r<|pf 15 3 r r<|pl 3 r r r ?_
 refine pe 8 r r<|pf 9 8 r r<|pl 7 r r r<|ps 10 r (opv_ixA 9 r r r r)<|pl 11 r r r<|pl 16 r r r<|pn 17 r (opx_call0 (i423 k) r r r) fun _ _=>pe 18 r r<|dn<|kt<|sb r<|nf r<|sk<|js<|J_steps ((sep (c148 c d) (c12 d e g h j k l))) (emp) [] Tryz.mixed<|pe 0 r r ?_
 refine pe 1 r r<|pf 2 5 r r<|pe 7 r r<|pe 8 r r<|pf 9 6 r r<|pe 11 r r<|pe 12 r r<|pf 13 7 r r<|pe 15 r r<|pe 16 r r<|pf 17 0 r r<|pf 18 3 r r<|pl 3 r r r<|pe 4 r r<|pf 5 10 r r<|pl 6 r r r ?_
 refine pl 10 r r r<|pl 14 r r r<|pl 19 r r r<|pn 20 r (opx_call0 (i454 l m o p) r r r) fun _ _=>pe 21 r r<|dn<|kt<|jr<|r1 r Ent.take
theorem i456 (a c d e g h j k l m o p q s t u v w A B C D E : Nat) : Sp Tryz.prog 191 #[Pt a 0, Pt c 0] ((sep (c190 c) (sep (c21 a d e g h j k l m o p q) (sep (c0 o s) (sep (c12 s t u v w A B) (sep (c25 A) (sep (c84 B C D E) (c90 C D E)))))))) (I 21) ((sep (c148 c s) (sep (c21 a d e g h j k l m o p q) (sep (c0 o s) (sep (c12 s t u v w A B) (sep (c50 A) (sep (c110 B C D E) (c111 C D E)))))))) := by
 refine en Tryz.func191 r fun σ F=>san r<|js<|sa r<|lv (opv_makeFunc r r) r<|ea r<|lv (opv_makeFunc r r) r<|ea r<|lv (opv_makeFunc r r) r<|ea r<|lv (opv_makeFunc r r) r<|lx r (opx_buildSliceL r r r (by decide) (by simp [Value.cells]) r) fun b1 _=>ll r<|an r<|jl<|ut r ?_
 refine js<|jb<|sr<|ix 0 r r<|ld r r<|an r<|sb r<|lx r (opx_call (first := [Pt a 0]) (captured := []) (i451 a c d e g h j k l m o p q s t u v w A B) r r r r) fun _ _=>an r<|sb r<|nf r<|jk<|ni (I 1) r<|ut r<|js<|jb<|sr ?_
 refine ix 1 r r<|ld r r<|an r<|sb r<|lx r (opx_call (first := [Pt a 0]) (captured := []) (i455 a c s t u v w A B C D E) r r r r) fun _ _=>an r<|sb r<|nt r<|sb r<|nk<|jr<|kq<|kd<|kd<|kq<|kd ?_
 exact r1 r Ent.take
theorem i457 (a c d e g h j k l m o p q s t u w A B C D E : Nat) : Sp Tryz.prog 167 #[Pt a 0, I 200, I 1, .string e1] ((sep (c21 a c d e g h j k l m o p) (sep (c0 m q) (sep (c12 q s t u w A B) (sep (c25 A) (sep (c84 B C D E) (sep (c90 C D E) (c23 p)))))))) (.tuple #[.agg [I 0, I 0, Z].toArray, Ff, I 21]) ((sep (c21 a c d e g h j k l m o p) (sep (c0 m q) (sep (c12 q s t u w A B) (sep (c50 A) (sep (c110 B C D E) (sep (c111 C D E) (c149 p)))))))) := by
 refine en Tryz.func167 r fun σ F=>sr<|al r fun b1=>eb r<|nj<|jb<|sa r<|ep false r<|an r<|cf r<|sr<|ec r<|go r<|ea r<|go r<|ec r ?_
 refine go r<|ea r<|go r<|ec r<|go r<|ea r<|go r<|ec r<|nf r<|sr<|ec r<|lf 9 r r<|bf r<|skb<|sr<|ec r ?_
 refine fa 9 r<|so r r<|nr<|ec r<|lv (opv_build r) r<|bx r fun b2=>an r<|sb r<|cu (i456 a b2 c d e g h j k l m o p q s t u w A B C D E) r<|an r<|sb r<|lf 10 r r<|ea r<|lv (opv_lookC (v := I 0) r r r) r<|ib (I 1) r<|lx r (opx_putC r r r r) fun _ _=>?_
 refine nj<|sb r<|nt r<|sr<|lv (opv_build r) r<|ea r<|so r r<|eb r<|nk<|jr<|kd ?_
 exact K_rets r (.agg r r (.tmp r (.tmp r (.nil)))) () trivial r Ent.take
theorem i458 (a c d e g h j k l m o p q s t u v w A B C D E G H M : Nat) : Sp Tryz.prog 138 #[Pt a 0, I 200, I 1, .string e1] ((sep (c81 a c d e g h j k l m o p q) (sep (c21 o c d e g h j k l s t u) (sep (c0 s v) (sep (c12 v w A B C D E) (sep (c25 D) (sep (c84 E G H M) (sep (c90 G H M) (c23 u))))))))) (I 21) ((sep (c81 a c d e g h j k l m o p q) (sep (c21 o c d e g h j k l s t u) (sep (c0 s v) (sep (c12 v w A B C D E) (sep (c50 D) (sep (c110 E G H M) (sep (c111 G H M) (c149 u))))))))) := by
 refine en Tryz.func138 r fun σ F=>san r<|js<|jb<|sa r<|ep false r<|an r<|cf r<|sa r<|cu i379 r<|eb r<|go r<|ea r<|go r<|ec r<|go r ?_
 refine ea r<|go r<|ec r<|nf r<|skb<|js<|sb r<|cu (i418 a c d e g h j k l m o p q) r<|an r<|sb r<|nf r<|sk<|sb r<|lf 8 r r<|ec r<|cu (i457 o c d e g h j k l s t u v w A B C D E G H M) r ?_
 refine ed r<|al r fun b1=>so r r<|eb r<|nj<|sr<|ec r<|gs r<|gs r<|an r<|ct r<|sb r<|nk<|jr<|kd<|r1 r Ent.take
theorem i459 (a c d e g h j k l m o p q s t u v w A B C D E G H M N O P R T U V W X Y A0 a0 B0 C0 d0 D0 g0 G0 h0 H0 j0 M0 N0 o0 p0 P0 q0 R0 t0 T0 u0 U0 v0 V0 w0 W0 A1 a1 B1 C1 d1 D1 g1 G1 h1 H1 j1 M1 N1 o1 p1 P1 q1 R1 t1 T1 u1 U1 v1 V1 w1 W1 A2 a2 B2 : Nat) : FSpec Tryz.prog 99 #[Pt a 0, I 200] ((sep (c13 a c d e g h j k l m o p q s t u) (sep (c17 m o p v w A) (sep (c143 v c d e g h j k l B C D E) (sep (c77 B c d e g h j k l G H M N O P) (sep (c4 H M N) (sep (c0 G R) (sep (c10 R T U V W X) (sep (c9 W Y A0 a0) (sep (c64 O B0 C0 d0) (sep (c144 w c d e g h j k l D0 g0 G0 h0) (sep (c78 D0 c d e g h j k l H0 j0 M0) (sep (c30 j0) (sep (c145 A c d e g h j k l N0 o0 p0 P0) (sep (c79 N0 c d e g h j k l q0 R0 t0) (sep (c30 R0) (sep (c125 q T0 u0 U0 v0 V0 w0 W0 A1) (sep (c6 T0 u0 U0 a1 B1 C1) (sep (c37 a1) (sep (c107 B1) (sep (c37 C1) (sep (c102 g0 c d e g h j k l d1 D1 g1) (sep (c0 d1 G1) (sep (c12 G1 h1 H1 j1 M1 N1 o1) (sep (c25 M1) (sep (c54 o1) (sep (c34 D1 p1) (sep (c2 j k l) (sep (c3 g1) (sep (c19 G0 P1) (sep (c35 P1 q1 R1) (sep (c94 q1) (sep (c126 s t1 T1 u1 U1 v1 V1 w1 W1) (sep (c6 t1 T1 u1 A2 a2 B2) (sep (c37 A2) (sep (c108 a2) (sep (c37 B2) (c25 N1)))))))))))))))))))))))))))))))))))))) (fun _ : Nat × Nat × Nat × Nat × Nat × Nat => True) (fun y => .tuple #[]) (fun y => (sep (c13 a c d e g h j k l m o p q s t u) (sep (c17 m o p v w A) (sep (c146 v c d e g h j k l B C D E) (sep (c80 B c d e g h j k l G H M N O P) (sep (c4 H M N) (sep (c0 G R) (sep (c10 R T U V W X) (sep (c9 W Y A0 a0) (sep (c65 O B0 C0 d0) (sep (c81 w c d e g h j k l D0 g0 G0 h0) (sep (c82 D0 c d e g h j k l H0 j0 M0) (sep (c31 j0) (sep (c147 A c d e g h j k l N0 o0 p0 P0) (sep (c83 N0 c d e g h j k l q0 R0 t0) (sep (c31 R0) (sep (c127 q T0 u0 U0 v0 V0 w0 W0 A1) (sep (c6 T0 u0 U0 a1 B1 C1) (sep (c38 a1) (sep (c122 B1) (sep (c38 C1) (sep (c21 g0 c d e g h j k l d1 D1 g1) (sep (c0 d1 G1) (sep (c12 G1 h1 H1 j1 M1 N1 o1) (sep (c50 M1) (sep (c110 o1 y.1 y.2.1 y.2.2.1) (sep (c98 D1 p1) (sep (c2 j k l) (sep (c149 g1) (sep (c19 G0 P1) (sep (c35 P1 q1 R1) (sep (c109 q1 y.2.2.2.1 y.2.2.2.2.1 y.2.2.2.2.2) (sep (c130 s t1 T1 u1 U1 v1 V1 w1 W1) (sep (c6 t1 T1 u1 A2 a2 B2) (sep (c38 A2) (sep (c123 a2) (sep (c38 B2) (sep (c50 N1) (sep (c111 y.1 y.2.1 y.2.2.1) (c66 y.2.2.2.1 y.2.2.2.2.1 y.2.2.2.2.2)))))))))))))))))))))))))))))))))))))))) := by
 refine en Tryz.func99 r fun σ F=>js<|san r<|jl<|ut r<|js<|jb<|sb r<|nk<|jg<|ec r<|cu (i377 a c d e g h j k l m o p q s t u) r<|ln<|ni (I 1) r<|ut r<|js ?_
 refine jb<|sb r<|nk<|jg<|ec r<|cu (i378 a c d e g h j k l m o p q s t u) r<|ln<|ni (I 2) r<|uf r<|kt<|js<|sb r<|lf 6 r r<|ll r<|an r<|jl ?_
 refine ut r<|js<|jb<|sa r<|ix o r r<|lv (opv_ldO 0 r r r) r<|eb r<|nr<|eb r<|cu (i388 v c d e g h j k l B C D E G H M N O P R T U V W X Y A0 a0 B0 C0 d0) r<|ed r<|an r<|sa r<|ll r<|an r<|jl ?_
 refine uf r<|ni (I 1) r<|ut r<|js<|jb<|sa r<|ix (o + 1) r r<|lv (opv_ldO 1 r r r) r<|eb r<|nr<|eb r<|cu (i397 w c d e g h j k l D0 g0 G0 h0 H0 j0 M0) r<|ed r<|an r<|sa r<|ll r ?_
 refine an r<|jl<|uf r<|ni (I 2) r<|ut r<|js<|jb<|sa r<|ix (o + 2) r r<|lv (opv_ldO 2 r r r) r<|eb r<|nr<|eb r<|cu (i404 A c d e g h j k l N0 o0 p0 P0 q0 R0 t0) r<|ed r<|an r ?_
 refine sa r<|ll r<|an r<|jl<|uf r<|ni (I 3) r<|uf r<|kt<|sb r<|fa 7 r<|ls r<|an r<|jl<|ut r<|js<|jb ?_
 refine sa r<|lv (opv_ixV r r r r) r<|eb r<|nr<|eb r<|cy (i417 q T0 u0 U0 v0 V0 w0 W0 A1 a1 B1 C1) r fun y1=>ed r<|an r<|sa r<|ll r<|an r<|jl<|ut r<|js<|jb<|sr ?_
 refine ix y1.2.1 r r<|lv (opv_ldOS 0 r r) r<|al r fun b2=>so r r<|nk<|J_steps ((sep (c13 a c d e g h j k l m o p q s t u) (sep (cel b2 [I 1, I 10, .string e0, I 100, I 184] 305) (c17 m o p v w A)))) (emp) [] Tryz.mixed<|pe 0 r r<|pe 1 r r<|pf 2 6 r r<|pf 4 0 r r<|pe 8 r r<|pe 9 r r<|pf 10 2 r r<|pl 3 r r r<|pl 5 r r r<|ps 6 r (opv_ix (o + 1) r r r r) ?_
 refine ps 7 r (opv_ldO 1 r r r)<|pl 11 r r r<|pn 12 r (opx_call0 (i443 w c d e g h j k l D0 g0 G0 h0 d1 D1 g1 G1 h1 H1 j1 M1 N1 o1 p1 P1 q1 R1) r r r) fun y4 _=>dn<|ni (I 1) r<|uf r<|ni (I 1) r<|ut r<|js<|jb<|sa r<|lv (opv_ixV r r r r) r<|eb r<|nr<|eb r<|cy (i450 s t1 T1 u1 U1 v1 V1 w1 W1 A2 a2 B2) r fun y5=>?_
 refine ed r<|an r<|sa r<|ll r<|an r<|jl<|ut r<|js<|jb<|sr<|ix y5.2.1 r r<|lv (opv_ldOS 0 r r) r<|al r fun b6=>so r r<|nk<|J_steps ((sep (c13 a c d e g h j k l m o p q s t u) (sep (cel b6 [I 1, I 10, .string e1, I 100, I 184] 305) (c17 m o p v w A)))) (emp) [] Tryz.mixed ?_
 refine pe 0 r r<|pe 1 r r<|pf 2 6 r r<|pf 4 0 r r<|pe 8 r r<|pe 9 r r<|pf 10 2 r r<|pl 3 r r r<|pl 5 r r r<|ps 6 r (opv_ix (o + 1) r r r r)<|ps 7 r (opv_ldO 1 r r r)<|pl 11 r r r<|pn 12 r (opx_call0 (i458 w c d e g h j k l D0 g0 G0 h0 d1 D1 g1 G1 h1 H1 j1 M1 N1 o1 y4.1 y4.2.1 y4.2.2.1) r r r) fun _ _=>dn<|ni (I 1) r<|uf r ?_
 refine ni (I 2) r<|uf r ?_
 exact K_ends r (.nil) (y4.1, y4.2.1, y4.2.2.1, y4.2.2.2.1, y4.2.2.2.2.1, y4.2.2.2.2.2) trivial r Ent.take
theorem i460 (a c d e g h j k l m o p q s t u : Nat) : Kp Tryz.prog 134 #[Pt a 0, I 250, I 0] (c13 a c d e g h j k l m o p q s t u) (.tuple #[]) := by
 refine en Tryz.func134 r fun σ F=>sr<|bx r fun b1=>bx r fun b2=>nr<|lv (opv_makeFunc r r) r<|an r<|js<|sb r<|lf 11 r r<|ll r<|an r<|jl<|uf r<|kt<|jg ?_
 refine ec r<|lf 11 r r<|ea r<|cu (i200 b2 b1) r<|ea r<|fa 11 r<|so r r<|ln<|z0 r Ent.take
theorem i461 (a c d e g h j k l m o p q s t u : Nat) : Kp Tryz.prog 134 #[Pt a 0, I 250, I 1] (c13 a c d e g h j k l m o p q s t u) (.tuple #[]) := by
 refine en Tryz.func134 r fun σ F=>sr<|bx r fun b1=>bx r fun b2=>nr<|lv (opv_makeFunc r r) r<|an r<|js<|sb r<|lf 11 r r<|ll r<|an r<|jl<|uf r<|kt<|jg ?_
 refine ec r<|lf 11 r r<|ea r<|cu (i200 b2 b1) r<|ea r<|fa 11 r<|so r r<|ln<|z0 r Ent.take
theorem i462 : Kp Tryz.prog 103 #[I 250] (emp) (Tt) := by
 refine en Tryz.func103 r fun σ F=>J_emp<|san r<|sr<|ec r<|go r<|ea r<|go r<|ec r<|nk<|jr<|r1 r Ent.take
theorem i463 (a c d e g h j k l m o p q : Nat) : Sp Tryz.prog 104 #[Pt a 0, I 250] (c146 a c d e g h j k l m o p q) (I 0) (c150 a c d e g h j k l m o p q) := by
 refine en Tryz.func104 r fun σ F=>san r<|js<|sr<|ec r<|lf 11 r r<|an r<|cf r<|sk<|sr<|ec r<|fa 11 r<|so r r<|nr<|an r<|jr ?_
 exact r1 r Ent.take
theorem i464 (a c d e g h j k l m o p q s t : Nat) : Kp Tryz.prog 185 #[Pt a 0, I 250] (c80 a c d e g h j k l m o p q s t) (I 0) := by
 refine en Tryz.func185 r fun σ F=>san r<|js<|jb<|sa r<|ep false r<|an r<|cf r<|sr<|ec r<|go r<|ea r<|go r<|ec r<|nf r<|sr ?_
 refine ec r<|lf 10 r r<|bf r<|skb<|san r<|jr<|r1 r Ent.take
theorem i465 (a c d e g h j k l m o p q s t u w A B C D E G H : Nat) : Kp Tryz.prog 205 #[Pt a 0, I 250] ((sep (c85 a c d e g h j k l m o p q s t) (sep (c4 o p q) (sep (c0 m u) (sep (c10 u w A B C D) (c9 C E G H)))))) (Np) := by
 refine en Tryz.func205 r fun σ F=>san r<|san r<|js<|sb r<|lf 8 r r<|ll r<|an r<|jl<|ut r<|js<|jb<|sr<|ix p r r<|lv (opv_ldO 0 r r r) r<|an r ?_
 refine sb r<|lf 7 r r<|ea r<|lv (opv_lookC (v := Pt u 0) r r r) r<|an r<|sb r<|lf 8 r r<|cu (i221 C E G H) r<|eb r<|gs r<|gs r<|gs r<|gs r<|eb r<|gs r<|gs r ?_
 refine gs r<|L_gU r r r<|L_gU r r r<|L_gU r r r<|L_gU r r r<|L_gU r r r<|gs r<|an r<|cf r<|jk<|ni (I 1) r<|uf r<|kt<|sb r<|nk<|jr<|r1 r Ent.take
theorem i466 (a c d e : Nat) : Kp Tryz.prog 237 #[Pt a 0, I 250] (c65 a c d e) (I 0) := by
 refine en Tryz.func237 r fun σ F=>san r<|js<|jb<|sa r<|ep false r<|an r<|cf r<|sr<|ec r<|go r<|ea r<|go r<|ec r<|nf r<|sr ?_
 refine ec r<|lf 1 r r<|bf r<|skb<|san r<|jr<|r1 r Ent.take
theorem i467 (a c d e : Nat) : Sp Tryz.prog 234 #[Pt a 0, I 250] (c65 a c d e) (.tuple #[Sk c (if d = 1 then e else e + 1 * 4) 0 0, I 0]) (c67 a c d e) := by
 refine en Tryz.func234 r fun σ F=>sr<|bx r fun b1=>eb r<|nj<|sa r<|ld r r<|cu (i466 a c d e) r<|an r<|sb r<|nf r<|sk<|sa r<|ld r r<|ea r<|fa 1 r ?_
 refine so r r<|nr<|eb r<|lf 0 r r<|lv (opv_makeFunc r r) r<|cu (i339 c d e b1) r<|an r<|js<|sb r<|nt r<|jg<|eb r<|lf 0 r r<|ll r<|an r<|sb r ?_
 refine lf 0 r r<|eb r<|lv (opv_hm0 r r r) r<|an r<|sr<|ec r<|lf 0 r r<|ea r<|lv (opv_ct0 r r) r<|ea r<|fa 0 r<|so r r<|nr<|ec r<|nk<|jr ?_
 exact r2 r Ent.take
theorem i468 (a c d e g h j k l m o p q s t u v w : Nat) : Sp Tryz.prog 207 #[Pt a 0, I 250] ((sep (c85 a c d e g h j k l m o p q s t) (c65 s u v w))) (.tuple #[]) ((sep (c85 a c d e g h j k l m o p q s t) (c67 s u v w))) := by
 refine en Tryz.func207 r fun σ F=>sb r<|lf 9 r r<|ea r<|cu (i467 s u v w) r<|ed r<|an r<|sa r<|ll r<|an r<|jl<|uf r<|z0 r Ent.take
theorem i469 (a c d e g h j k l m o p q s t u v w A B C D E G H M N : Nat) : Sp Tryz.prog 186 #[Pt a 0, I 250] ((sep (c80 a c d e g h j k l m o p q s t) (sep (c4 o p q) (sep (c0 m u) (sep (c10 u v w A B C) (sep (c9 B D E G) (c65 s H M N))))))) (.tuple #[]) ((sep (c85 a c d e g h j k l m o p q s t) (sep (c4 o p q) (sep (c0 m u) (sep (c10 u v w A B C) (sep (c9 B D E G) (c67 s H M N))))))) := by
 refine en Tryz.func186 r fun σ F=>sr<|ec r<|fa 10 r<|so r r<|nj<|sb r<|cu (i465 a c d e g h j k l m o p q s t u v w A B C D E G) r<|an r<|jl<|ju<|js<|sa r<|np false r<|nf r<|jx ?_
 refine ke<|ke<|kh<|kt<|jg<|eb r<|cu (i468 a c d e g h j k l m o p q s t H M N) r<|ln<|z0 r Ent.take
theorem i470 (a c d e g h j k l m o p q s t u v w A B C D E G H M N : Nat) : Sp Tryz.prog 162 #[Pt a 0, I 250] ((sep (c80 a c d e g h j k l m o p q s t) (sep (c4 o p q) (sep (c0 m u) (sep (c10 u v w A B C) (sep (c9 B D E G) (c65 s H M N))))))) (.tuple #[Ns, I 0]) ((sep (c85 a c d e g h j k l m o p q s t) (sep (c4 o p q) (sep (c0 m u) (sep (c10 u v w A B C) (sep (c9 B D E G) (c67 s H M N))))))) := by
 refine en Tryz.func162 r fun σ F=>sb r<|nj<|sb r<|cu (i464 a c d e g h j k l m o p q s t) r<|an r<|sb r<|nf r<|sk<|sb r<|cu (i469 a c d e g h j k l m o p q s t u v w A B C D E G H M N) r<|nr<|eb r<|lf 14 r r<|an r<|sb r ?_
 refine fa 14 r<|so r r<|nr<|ec r<|nk<|jr<|r2 r Ent.take
theorem i471 (a c d e g h j k l m o p q s t u v w A B C D E G H M N O P R T : Nat) : Sp Tryz.prog 135 #[Pt a 0, I 250] ((sep (c146 a c d e g h j k l m o p q) (sep (c80 m c d e g h j k l s t u v w A) (sep (c4 t u v) (sep (c0 s B) (sep (c10 B C D E G H) (sep (c9 G M N O) (c65 w P R T)))))))) (.tuple #[Ns, I 0]) ((sep (c150 a c d e g h j k l m o p q) (sep (c85 m c d e g h j k l s t u v w A) (sep (c4 t u v) (sep (c0 s B) (sep (c10 B C D E G H) (sep (c9 G M N O) (c67 w P R T)))))))) := by
 refine en Tryz.func135 r fun σ F=>sb r<|nj<|jb<|sa r<|ep false r<|an r<|cf r<|sa r<|cu i462 r<|bf r<|skb<|js<|sb r<|cu (i463 a c d e g h j k l m o p q) r<|an r ?_
 refine sb r<|nf r<|sk<|sb r<|lf 7 r r<|ea r<|cu (i470 m c d e g h j k l s t u v w A B C D E G H M N O P R T) r<|ed r<|nk<|jr<|r2 r Ent.take
theorem i472 (a c d e g h j k l m o p q : Nat) : Sp Tryz.prog 104 #[Pt a 0, I 250] (c81 a c d e g h j k l m o p q) (I 0) (c151 a c d e g h j k l m o p q) := by
 refine en Tryz.func104 r fun σ F=>san r<|js<|sr<|ec r<|lf 11 r r<|an r<|cf r<|sk<|sr<|ec r<|fa 11 r<|so r r<|nr<|an r<|jr ?_
 exact r1 r Ent.take
theorem i473 (a c d e g h j k l m o p : Nat) : Kp Tryz.prog 185 #[Pt a 0, I 250] (c82 a c d e g h j k l m o p) (I 0) := by
 refine en Tryz.func185 r fun σ F=>san r<|js<|jb<|sa r<|ep false r<|an r<|cf r<|sr<|ec r<|go r<|ea r<|go r<|ec r<|nf r<|sr ?_
 refine ec r<|lf 10 r r<|bf r<|skb<|san r<|jr<|r1 r Ent.take
theorem i474 (a c d e g h j k l m o p : Nat) : Kp Tryz.prog 205 #[Pt a 0, I 250] (c86 a c d e g h j k l m o p) (Np) := by
 refine en Tryz.func205 r fun σ F=>san r<|san r<|js<|sb r<|lf 8 r r<|ll r<|an r<|jl<|uf r<|kt<|sb r<|nk<|jr<|r1 r Ent.take
theorem i475 (a : Nat) : Kp Tryz.prog 237 #[Pt a 0, I 250] (c31 a) (I 0) := by
 refine en Tryz.func237 r fun σ F=>san r<|js<|jb<|sa r<|ep false r<|an r<|cf r<|sr<|ec r<|go r<|ea r<|go r<|ec r<|nf r<|sr ?_
 refine ec r<|lf 1 r r<|bf r<|skb<|san r<|jr<|r1 r Ent.take
theorem i476 (a : Nat) : Sp Tryz.prog 234 #[Pt a 0, I 250] (c31 a) (.tuple #[Ns, I 0]) (c32 a) := by
 refine en Tryz.func234 r fun σ F=>sr<|bx r fun b1=>eb r<|nj<|sa r<|ld r r<|cu (i475 a) r<|an r<|sb r<|nf r<|sk<|sa r<|ld r r<|ea r<|fa 1 r ?_
 refine so r r<|nr<|eb r<|lf 0 r r<|lv (opv_makeFunc r r) r<|cu (i185 b1) r<|an r<|js<|sb r<|nt r<|jg<|eb r<|lf 0 r r<|ll r<|an r<|sb r ?_
 refine lf 0 r r<|eb r<|lv ((opv_sliceLhm r r r (by decide)).as (v' := Ns) r) r<|an r<|sr<|ec r<|lf 0 r r<|ea r<|lv ((opv_sliceLlo r r (by decide)).as (v' := Ns) r) r<|ea r<|fa 0 r<|so r r<|nr<|ec r<|nk<|jr ?_
 exact r2 r Ent.take
theorem i477 (a c d e g h j k l m o p : Nat) : Sp Tryz.prog 207 #[Pt a 0, I 250] ((sep (c86 a c d e g h j k l m o p) (c31 o))) (.tuple #[]) ((sep (c86 a c d e g h j k l m o p) (c32 o))) := by
 refine en Tryz.func207 r fun σ F=>sb r<|lf 9 r r<|ea r<|cu (i476 o) r<|ed r<|an r<|sa r<|ll r<|an r<|jl<|uf r<|z0 r Ent.take
theorem i478 (a c d e g h j k l m o p : Nat) : Sp Tryz.prog 186 #[Pt a 0, I 250] ((sep (c82 a c d e g h j k l m o p) (c31 o))) (.tuple #[]) ((sep (c86 a c d e g h j k l m o p) (c32 o))) := by
 refine en Tryz.func186 r fun σ F=>sr<|ec r<|fa 10 r<|so r r<|nj<|sb r<|cu (i474 a c d e g h j k l m o p) r<|an r<|jl<|ju<|js<|sa r<|np false r<|nf r<|jx ?_
 refine ke<|ke<|kh<|kt<|jg<|eb r<|cu (i477 a c d e g h j k l m o p) r<|ln<|z0 r Ent.take
theorem i479 (a c d e g h j k l m o p : Nat) : Sp Tryz.prog 162 #[Pt a 0, I 250] ((sep (c82 a c d e g h j k l m o p) (c31 o))) (.tuple #[Ns, I 0]) ((sep (c86 a c d e g h j k l m o p) (c32 o))) := by
 refine en Tryz.func162 r fun σ F=>sb r<|nj<|sb r<|cu (i473 a c d e g h j k l m o p) r<|an r<|sb r<|nf r<|sk<|sb r<|cu (i478 a c d e g h j k l m o p) r<|nr<|eb r<|lf 14 r r<|an r<|sb r ?_
 refine fa 14 r<|so r r<|nr<|ec r<|nk<|jr<|r2 r Ent.take
theorem i480 (a c d e g h j k l m o p q s t u : Nat) : Sp Tryz.prog 135 #[Pt a 0, I 250] ((sep (c81 a c d e g h j k l m o p q) (sep (c82 m c d e g h j k l s t u) (c31 t)))) (.tuple #[Ns, I 0]) ((sep (c151 a c d e g h j k l m o p q) (sep (c86 m c d e g h j k l s t u) (c32 t)))) := by
 refine en Tryz.func135 r fun σ F=>sb r<|nj<|jb<|sa r<|ep false r<|an r<|cf r<|sa r<|cu i462 r<|bf r<|skb<|js<|sb r<|cu (i472 a c d e g h j k l m o p q) r<|an r ?_
 refine sb r<|nf r<|sk<|sb r<|lf 7 r r<|ea r<|cu (i479 m c d e g h j k l s t u) r<|ed r<|nk<|jr<|r2 r Ent.take
theorem i481 (a c d e g h j k l m o p q : Nat) : Sp Tryz.prog 104 #[Pt a 0, I 250] (c147 a c d e g h j k l m o p q) (I 0) (c152 a c d e g h j k l m o p q) := by
 refine en Tryz.func104 r fun σ F=>san r<|js<|sr<|ec r<|lf 11 r r<|an r<|cf r<|sk<|sr<|ec r<|fa 11 r<|so r r<|nr<|an r<|jr ?_
 exact r1 r Ent.take
theorem i482 (a c d e g h j k l m o p : Nat) : Kp Tryz.prog 185 #[Pt a 0, I 250] (c83 a c d e g h j k l m o p) (I 0) := by
 refine en Tryz.func185 r fun σ F=>san r<|js<|jb<|sa r<|ep false r<|an r<|cf r<|sr<|ec r<|go r<|ea r<|go r<|ec r<|nf r<|sr ?_
 refine ec r<|lf 10 r r<|bf r<|skb<|san r<|jr<|r1 r Ent.take
theorem i483 (a c d e g h j k l m o p : Nat) : Kp Tryz.prog 205 #[Pt a 0, I 250] (c87 a c d e g h j k l m o p) (Np) := by
 refine en Tryz.func205 r fun σ F=>san r<|san r<|js<|sb r<|lf 8 r r<|ll r<|an r<|jl<|uf r<|kt<|sb r<|nk<|jr<|r1 r Ent.take
theorem i484 (a c d e g h j k l m o p : Nat) : Sp Tryz.prog 207 #[Pt a 0, I 250] ((sep (c87 a c d e g h j k l m o p) (c31 o))) (.tuple #[]) ((sep (c87 a c d e g h j k l m o p) (c32 o))) := by
 refine en Tryz.func207 r fun σ F=>sb r<|lf 9 r r<|ea r<|cu (i476 o) r<|ed r<|an r<|sa r<|ll r<|an r<|jl<|uf r<|z0 r Ent.take
theorem i485 (a c d e g h j k l m o p : Nat) : Sp Tryz.prog 186 #[Pt a 0, I 250] ((sep (c83 a c d e g h j k l m o p) (c31 o))) (.tuple #[]) ((sep (c87 a c d e g h j k l m o p) (c32 o))) := by
 refine en Tryz.func186 r fun σ F=>sr<|ec r<|fa 10 r<|so r r<|nj<|sb r<|cu (i483 a c d e g h j k l m o p) r<|an r<|jl<|ju<|js<|sa r<|np false r<|nf r<|jx ?_
 refine ke<|ke<|kh<|kt<|jg<|eb r<|cu (i484 a c d e g h j k l m o p) r<|ln<|z0 r Ent.take
theorem i486 (a c d e g h j k l m o p : Nat) : Sp Tryz.prog 162 #[Pt a 0, I 250] ((sep (c83 a c d e g h j k l m o p) (c31 o))) (.tuple #[Ns, I 0]) ((sep (c87 a c d e g h j k l m o p) (c32 o))) := by
 refine en Tryz.func162 r fun σ F=>sb r<|nj<|sb r<|cu (i482 a c d e g h j k l m o p) r<|an r<|sb r<|nf r<|sk<|sb r<|cu (i485 a c d e g h j k l m o p) r<|nr<|eb r<|lf 14 r r<|an r<|sb r ?_
 refine fa 14 r<|so r r<|nr<|ec r<|nk<|jr<|r2 r Ent.take
theorem i487 (a c d e g h j k l m o p q s t u : Nat) : Sp Tryz.prog 135 #[Pt a 0, I 250] ((sep (c147 a c d e g h j k l m o p q) (sep (c83 m c d e g h j k l s t u) (c31 t)))) (.tuple #[Ns, I 0]) ((sep (c152 a c d e g h j k l m o p q) (sep (c87 m c d e g h j k l s t u) (c32 t)))) := by
 refine en Tryz.func135 r fun σ F=>sb r<|nj<|jb<|sa r<|ep false r<|an r<|cf r<|sa r<|cu i462 r<|bf r<|skb<|js<|sb r<|cu (i481 a c d e g h j k l m o p q) r<|an r ?_
 refine sb r<|nf r<|sk<|sb r<|lf 7 r r<|ea r<|cu (i486 m c d e g h j k l s t u) r<|ed r<|nk<|jr<|r2 r Ent.take
theorem i488 (a c d e g h j k l : Nat) : Kp Tryz.prog 100 #[Pt a 0, I 250] (c127 a c d e g h j k l) (I 0) := by
 refine en Tryz.func100 r fun σ F=>san r<|js<|jb<|sa r<|ep false r<|an r<|cf r<|sr<|ec r<|go r<|ea r<|go r<|ec r<|nf r<|sr ?_
 refine ec r<|lf 4 r r<|bf r<|skb<|san r<|jr<|r1 r Ent.take
theorem i489 (a c d e g h j k l : Nat) : Sp Tryz.prog 101 #[Pt a 0, I 250] (c127 a c d e g h j k l) (.tuple #[]) (c131 a c d e g h j k l) := by
 refine en Tryz.func101 r fun σ F=>sr<|ec r<|fa 4 r<|so r r<|nk<|jl<|ju<|js<|sb r<|lf 3 r r<|ll r<|eb r<|gs r<|gs r<|gs r ?_
 refine gs r<|gs r<|gs r<|gs r<|gs r<|gs r<|an r<|cf r<|jx<|ke<|ke<|kh<|z0 r Ent.take
theorem i490 (a : Nat) : Kp Tryz.prog 187 #[Pt a 0, I 250] (c38 a) (I 0) := by
 refine en Tryz.func187 r fun σ F=>san r<|js<|jb<|sa r<|ep false r<|an r<|cf r<|sr<|ec r<|go r<|ea r<|go r<|ec r<|nf r<|sr ?_
 refine ec r<|lf 12 r r<|bf r<|skb<|san r<|jr<|r1 r Ent.take
theorem i491 (a : Nat) : Sp Tryz.prog 188 #[Pt a 0, I 250] (c38 a) (.tuple #[]) (c39 a) := by
 refine en Tryz.func188 r fun σ F=>sr<|ec r<|fa 12 r<|so r r<|nk<|jl<|ju<|js<|sb r<|lf 6 r r<|ea r<|gs r<|gs r<|gs r<|gs r ?_
 refine gs r<|gs r<|gs r<|an r<|cf r<|jx<|ke<|ke<|kh<|z0 r Ent.take
theorem i492 (a : Nat) : Sp Tryz.prog 163 #[Pt a 0, I 250] (c38 a) (.tuple #[Ns, I 0]) (c39 a) := by
 refine en Tryz.func163 r fun σ F=>sb r<|nj<|sb r<|cu (i490 a) r<|an r<|sb r<|nf r<|sk<|sb r<|cu (i491 a) r<|nr<|eb r<|lf 11 r r<|an r<|sb r ?_
 refine fa 11 r<|so r r<|nr<|ec r<|nk<|jr<|r2 r Ent.take
theorem i493 (a : Nat) : Kp Tryz.prog 187 #[Pt a 0, I 250] (c122 a) (I 0) := by
 refine en Tryz.func187 r fun σ F=>san r<|js<|jb<|sa r<|ep false r<|an r<|cf r<|sr<|ec r<|go r<|ea r<|go r<|ec r<|nf r<|sr ?_
 refine ec r<|lf 12 r r<|bf r<|skb<|san r<|jr<|r1 r Ent.take
theorem i494 (a : Nat) : Sp Tryz.prog 188 #[Pt a 0, I 250] (c122 a) (.tuple #[]) (c112 a) := by
 refine en Tryz.func188 r fun σ F=>sr<|ec r<|fa 12 r<|so r r<|nk<|jl<|ju<|js<|sb r<|lf 6 r r<|ea r<|gs r<|gs r<|gs r<|gs r ?_
 refine gs r<|gs r<|gs r<|an r<|cf r<|jx<|ke<|ke<|kh<|z0 r Ent.take
theorem i495 (a : Nat) : Sp Tryz.prog 163 #[Pt a 0, I 250] (c122 a) (.tuple #[Ns, I 0]) (c112 a) := by
 refine en Tryz.func163 r fun σ F=>sb r<|nj<|sb r<|cu (i493 a) r<|an r<|sb r<|nf r<|sk<|sb r<|cu (i494 a) r<|nr<|eb r<|lf 11 r r<|an r<|sb r ?_
 refine fa 11 r<|so r r<|nr<|ec r<|nk<|jr<|r2 r Ent.take
theorem i496 (a c d e g h j k l m o p : Nat) : Sp Tryz.prog 137 #[Pt a 0, I 250] ((sep (c127 a c d e g h j k l) (sep (c6 c d e m o p) (sep (c38 m) (sep (c122 o) (c38 p)))))) (.tuple #[Ns, I 0]) ((sep (c131 a c d e g h j k l) (sep (c6 c d e m o p) (sep (c39 m) (sep (c112 o) (c39 p)))))) := by
 refine en Tryz.func137 r fun σ F=>sb r<|nj<|sb r<|cu (i488 a c d e g h j k l) r<|an r<|sb r<|nf r<|sk<|sb r<|cu (i489 a c d e g h j k l) r<|nr<|an r<|js<|sb r<|lf 1 r r ?_
 refine ll r<|an r<|jl<|ut r<|js<|jb<|sa r<|ix d r r<|lv (opv_ldO 0 r r r) r<|eb r<|nr<|eb r<|cu (i492 m) r<|ed r<|an r<|sa r ?_
 refine ll r<|an r<|jl<|uf r<|ni (I 1) r<|ut r<|js<|jb<|sa r<|ix (d + 1) r r<|lv (opv_ldO 1 r r r) r<|eb r<|nr<|eb r<|cu (i495 o) r<|ed r ?_
 refine an r<|sa r<|ll r<|an r<|jl<|uf r<|ni (I 2) r<|ut r<|js<|jb<|sa r<|ix (d + 2) r r<|lv (opv_ldO 2 r r r) r<|eb r<|nr<|eb r ?_
 refine cu (i492 p) r<|ed r<|an r<|sa r<|ll r<|an r<|jl<|uf r<|ni (I 3) r<|uf r<|kt<|sa r<|cu i254 r<|nr<|ec r<|nk ?_
 refine jr<|r2 r Ent.take
theorem i497 (a c d e g h j k l : Nat) : Kp Tryz.prog 100 #[Pt a 0, I 250] (c130 a c d e g h j k l) (I 0) := by
 refine en Tryz.func100 r fun σ F=>san r<|js<|jb<|sa r<|ep false r<|an r<|cf r<|sr<|ec r<|go r<|ea r<|go r<|ec r<|nf r<|sr ?_
 refine ec r<|lf 4 r r<|bf r<|skb<|san r<|jr<|r1 r Ent.take
theorem i498 (a c d e g h j k l : Nat) : Sp Tryz.prog 101 #[Pt a 0, I 250] (c130 a c d e g h j k l) (.tuple #[]) (c132 a c d e g h j k l) := by
 refine en Tryz.func101 r fun σ F=>sr<|ec r<|fa 4 r<|so r r<|nk<|jl<|ju<|js<|sb r<|lf 3 r r<|ll r<|eb r<|gs r<|gs r<|gs r ?_
 refine gs r<|gs r<|gs r<|gs r<|gs r<|gs r<|an r<|cf r<|jx<|ke<|ke<|kh<|z0 r Ent.take
theorem i499 (a : Nat) : Kp Tryz.prog 187 #[Pt a 0, I 250] (c123 a) (I 0) := by
 refine en Tryz.func187 r fun σ F=>san r<|js<|jb<|sa r<|ep false r<|an r<|cf r<|sr<|ec r<|go r<|ea r<|go r<|ec r<|nf r<|sr ?_
 refine ec r<|lf 12 r r<|bf r<|skb<|san r<|jr<|r1 r Ent.take
theorem i500 (a : Nat) : Sp Tryz.prog 188 #[Pt a 0, I 250] (c123 a) (.tuple #[]) (c113 a) := by
 refine en Tryz.func188 r fun σ F=>sr<|ec r<|fa 12 r<|so r r<|nk<|jl<|ju<|js<|sb r<|lf 6 r r<|ea r<|gs r<|gs r<|gs r<|gs r ?_
 refine gs r<|gs r<|gs r<|an r<|cf r<|jx<|ke<|ke<|kh<|z0 r Ent.take
theorem i501 (a : Nat) : Sp Tryz.prog 163 #[Pt a 0, I 250] (c123 a) (.tuple #[Ns, I 0]) (c113 a) := by
 refine en Tryz.func163 r fun σ F=>sb r<|nj<|sb r<|cu (i499 a) r<|an r<|sb r<|nf r<|sk<|sb r<|cu (i500 a) r<|nr<|eb r<|lf 11 r r<|an r<|sb r ?_
 refine fa 11 r<|so r r<|nr<|ec r<|nk<|jr<|r2 r Ent.take
theorem i502 (a c d e g h j k l m o p : Nat) : Sp Tryz.prog 137 #[Pt a 0, I 250] ((sep (c130 a c d e g h j k l) (sep (c6 c d e m o p) (sep (c38 m) (sep (c123 o) (c38 p)))))) (.tuple #[Ns, I 0]) ((sep (c132 a c d e g h j k l) (sep (c6 c d e m o p) (sep (c39 m) (sep (c113 o) (c39 p)))))) := by
 refine en Tryz.func137 r fun σ F=>sb r<|nj<|sb r<|cu (i497 a c d e g h j k l) r<|an r<|sb r<|nf r<|sk<|sb r<|cu (i498 a c d e g h j k l) r<|nr<|an r<|js<|sb r<|lf 1 r r ?_
 refine ll r<|an r<|jl<|ut r<|js<|jb<|sa r<|ix d r r<|lv (opv_ldO 0 r r r) r<|eb r<|nr<|eb r<|cu (i492 m) r<|ed r<|an r<|sa r ?_
 refine ll r<|an r<|jl<|uf r<|ni (I 1) r<|ut r<|js<|jb<|sa r<|ix (d + 1) r r<|lv (opv_ldO 1 r r r) r<|eb r<|nr<|eb r<|cu (i501 o) r<|ed r ?_
 refine an r<|sa r<|ll r<|an r<|jl<|uf r<|ni (I 2) r<|ut r<|js<|jb<|sa r<|ix (d + 2) r r<|lv (opv_ldO 2 r r r) r<|eb r<|nr<|eb r ?_
 refine cu (i492 p) r<|ed r<|an r<|sa r<|ll r<|an r<|jl<|uf r<|ni (I 3) r<|uf r<|kt<|sa r<|cu i254 r<|nr<|ec r<|nk ?_
 refine jr<|r2 r Ent.take
theorem i503 (a c d e g h j k l m o p q s t u v w A B C D E G H M N O P R T U V W X Y A0 a0 B0 C0 d0 D0 g0 G0 h0 H0 j0 M0 N0 o0 p0 P0 q0 R0 t0 T0 u0 U0 v0 V0 w0 W0 A1 a1 B1 C1 d1 D1 g1 G1 h1 H1 j1 M1 N1 o1 p1 : Nat) : Sp Tryz.prog 99 #[Pt a 0, I 250] ((sep (c13 a c d e g h j k l m o p q s t u) (sep (c17 m o p v w A) (sep (c146 v c d e g h j k l B C D E) (sep (c80 B c d e g h j k l G H M N O P) (sep (c4 H M N) (sep (c0 G R) (sep (c10 R T U V W X) (sep (c9 W Y A0 a0) (sep (c65 O B0 C0 d0) (sep (c81 w c d e g h j k l D0 g0 G0 h0) (sep (c82 D0 c d e g h j k l H0 j0 M0) (sep (c31 j0) (sep (c147 A c d e g h j k l N0 o0 p0 P0) (sep (c83 N0 c d e g h j k l q0 R0 t0) (sep (c31 R0) (sep (c127 q T0 u0 U0 v0 V0 w0 W0 A1) (sep (c6 T0 u0 U0 a1 B1 C1) (sep (c38 a1) (sep (c122 B1) (sep (c38 C1) (sep (c130 s d1 D1 g1 G1 h1 H1 j1 M1) (sep (c6 d1 D1 g1 N1 o1 p1) (sep (c38 N1) (sep (c123 o1) (c38 p1)))))))))))))))))))))))))) (.tuple #[]) ((sep (c13 a c d e g h j k l m o p q s t u) (sep (c17 m o p v w A) (sep (c150 v c d e g h j k l B C D E) (sep (c85 B c d e g h j k l G H M N O P) (sep (c4 H M N) (sep (c0 G R) (sep (c10 R T U V W X) (sep (c9 W Y A0 a0) (sep (c67 O B0 C0 d0) (sep (c151 w c d e g h j k l D0 g0 G0 h0) (sep (c86 D0 c d e g h j k l H0 j0 M0) (sep (c32 j0) (sep (c152 A c d e g h j k l N0 o0 p0 P0) (sep (c87 N0 c d e g h j k l q0 R0 t0) (sep (c32 R0) (sep (c131 q T0 u0 U0 v0 V0 w0 W0 A1) (sep (c6 T0 u0 U0 a1 B1 C1) (sep (c39 a1) (sep (c112 B1) (sep (c39 C1) (sep (c132 s d1 D1 g1 G1 h1 H1 j1 M1) (sep (c6 d1 D1 g1 N1 o1 p1) (sep (c39 N1) (sep (c113 o1) (c39 p1)))))))))))))))))))))))))) := by
 refine en Tryz.func99 r fun σ F=>js<|san r<|jl<|ut r<|js<|jb<|sb r<|nk<|jg<|ec r<|cu (i460 a c d e g h j k l m o p q s t u) r<|ln<|ni (I 1) r<|ut r<|js ?_
 refine jb<|sb r<|nk<|jg<|ec r<|cu (i461 a c d e g h j k l m o p q s t u) r<|ln<|ni (I 2) r<|uf r<|kt<|js<|sb r<|lf 6 r r<|ll r<|an r<|jl ?_
 refine ut r<|js<|jb<|sa r<|ix o r r<|lv (opv_ldO 0 r r r) r<|eb r<|nr<|eb r<|cu (i471 v c d e g h j k l B C D E G H M N O P R T U V W X Y A0 a0 B0 C0 d0) r<|ed r<|an r<|sa r<|ll r<|an r<|jl ?_
 refine uf r<|ni (I 1) r<|ut r<|js<|jb<|sa r<|ix (o + 1) r r<|lv (opv_ldO 1 r r r) r<|eb r<|nr<|eb r<|cu (i480 w c d e g h j k l D0 g0 G0 h0 H0 j0 M0) r<|ed r<|an r<|sa r<|ll r ?_
 refine an r<|jl<|uf r<|ni (I 2) r<|ut r<|js<|jb<|sa r<|ix (o + 2) r r<|lv (opv_ldO 2 r r r) r<|eb r<|nr<|eb r<|cu (i487 A c d e g h j k l N0 o0 p0 P0 q0 R0 t0) r<|ed r<|an r ?_
 refine sa r<|ll r<|an r<|jl<|uf r<|ni (I 3) r<|uf r<|kt<|sb r<|fa 7 r<|ls r<|an r<|jl<|ut r<|js<|jb ?_
 refine sa r<|lv (opv_ixV r r r r) r<|eb r<|nr<|eb r<|cu (i496 q T0 u0 U0 v0 V0 w0 W0 A1 a1 B1 C1) r<|ed r<|an r<|sa r<|ll r<|an r<|jl<|uf r<|ni (I 1) r<|ut r<|js ?_
 refine jb<|sa r<|lv (opv_ixV r r r r) r<|eb r<|nr<|eb r<|cu (i502 s d1 D1 g1 G1 h1 H1 j1 M1 N1 o1 p1) r<|ed r<|an r<|sa r<|ll r<|an r<|jl<|uf r<|ni (I 2) r<|uf r ?_
 exact z0 r Ent.take
theorem i504 (a c d e g h j k l m o p q s t u : Nat) : Kp Tryz.prog 134 #[Pt a 0, I 300, I 0] (c13 a c d e g h j k l m o p q s t u) (.tuple #[]) := by
 refine en Tryz.func134 r fun σ F=>sr<|bx r fun b1=>bx r fun b2=>nr<|lv (opv_makeFunc r r) r<|an r<|js<|sb r<|lf 11 r r<|ll r<|an r<|jl<|uf r<|kt<|jg ?_
 refine ec r<|lf 11 r r<|ea r<|cu (i200 b2 b1) r<|ea r<|fa 11 r<|so r r<|ln<|z0 r Ent.take
theorem i505 (a c d e g h j k l m o p q s t u : Nat) : Kp Tryz.prog 134 #[Pt a 0, I 300, I 1] (c13 a c d e g h j k l m o p q s t u) (.tuple #[]) := by
 refine en Tryz.func134 r fun σ F=>sr<|bx r fun b1=>bx r fun b2=>nr<|lv (opv_makeFunc r r) r<|an r<|js<|sb r<|lf 11 r r<|ll r<|an r<|jl<|uf r<|kt<|jg ?_
 refine ec r<|lf 11 r r<|ea r<|cu (i200 b2 b1) r<|ea r<|fa 11 r<|so r r<|ln<|z0 r Ent.take
theorem i506 : Kp Tryz.prog 103 #[I 300] (emp) (Tt) := by
 refine en Tryz.func103 r fun σ F=>J_emp<|san r<|sr<|ec r<|go r<|ea r<|go r<|ec r<|nk<|jr<|r1 r Ent.take
theorem i507 (a c d e g h j k l m o p q : Nat) : Sp Tryz.prog 104 #[Pt a 0, I 300] (c150 a c d e g h j k l m o p q) (I 0) (c153 a c d e g h j k l m o p q) := by
 refine en Tryz.func104 r fun σ F=>san r<|js<|sr<|ec r<|lf 11 r r<|an r<|cf r<|sk<|sr<|ec r<|fa 11 r<|so r r<|nr<|an r<|jr ?_
 exact r1 r Ent.take
theorem i508 (a c d e g h j k l m o p q s t : Nat) : Kp Tryz.prog 185 #[Pt a 0, I 300] (c85 a c d e g h j k l m o p q s t) (I 0) := by
 refine en Tryz.func185 r fun σ F=>san r<|js<|jb<|sa r<|ep false r<|an r<|cf r<|sr<|ec r<|go r<|ea r<|go r<|ec r<|nf r<|sr ?_
 refine ec r<|lf 10 r r<|bf r<|skb<|san r<|jr<|r1 r Ent.take
theorem i509 (a c d e g h j k l m o p q s t u w A B C D E G H : Nat) : Kp Tryz.prog 205 #[Pt a 0, I 300] ((sep (c99 a c d e g h j k l m o p q s t) (sep (c4 o p q) (sep (c0 m u) (sep (c10 u w A B C D) (c9 C E G H)))))) (Np) := by
 refine en Tryz.func205 r fun σ F=>san r<|san r<|js<|sb r<|lf 8 r r<|ll r<|an r<|jl<|ut r<|js<|jb<|sr<|ix p r r<|lv (opv_ldO 0 r r r) r<|an r ?_
 refine sb r<|lf 7 r r<|ea r<|lv (opv_lookC (v := Pt u 0) r r r) r<|an r<|sb r<|lf 8 r r<|cu (i221 C E G H) r<|eb r<|gs r<|gs r<|gs r<|gs r<|eb r<|gs r<|gs r ?_
 refine gs r<|L_gU r r r<|L_gU r r r<|L_gU r r r<|L_gU r r r<|L_gU r r r<|gs r<|an r<|cf r<|jk<|ni (I 1) r<|uf r<|kt<|sb r<|nk<|jr<|r1 r Ent.take
theorem i510 (a c d e : Nat) : Kp Tryz.prog 237 #[Pt a 0, I 300] (c67 a c d e) (I 0) := by
 refine en Tryz.func237 r fun σ F=>san r<|js<|jb<|sa r<|ep false r<|an r<|cf r<|sr<|ec r<|go r<|ea r<|go r<|ec r<|nf r<|sr ?_
 refine ec r<|lf 1 r r<|bf r<|skb<|san r<|jr<|r1 r Ent.take
theorem i511 (a c d e : Nat) : Sp Tryz.prog 234 #[Pt a 0, I 300] (c67 a c d e) (.tuple #[Sk c (if d = 1 then e else e + 1 * 4) 0 0, I 0]) (c114 a c d e) := by
 refine en Tryz.func234 r fun σ F=>sr<|bx r fun b1=>eb r<|nj<|sa r<|ld r r<|cu (i510 a c d e) r<|an r<|sb r<|nf r<|sk<|sa r<|ld r r<|ea r<|fa 1 r ?_
 refine so r r<|nr<|eb r<|lf 0 r r<|lv (opv_makeFunc r r) r<|cu (i339 c d e b1) r<|an r<|js<|sb r<|nt r<|jg<|eb r<|lf 0 r r<|ll r<|an r<|sb r ?_
 refine lf 0 r r<|eb r<|lv (opv_hm0 r r r) r<|an r<|sr<|ec r<|lf 0 r r<|ea r<|lv (opv_ct0 r r) r<|ea r<|fa 0 r<|so r r<|nr<|ec r<|nk<|jr ?_
 exact r2 r Ent.take
theorem i512 (a c d e g h j k l m o p q s t u v w : Nat) : Sp Tryz.prog 207 #[Pt a 0, I 300] ((sep (c99 a c d e g h j k l m o p q s t) (c67 s u v w))) (.tuple #[]) ((sep (c99 a c d e g h j k l m o p q s t) (c114 s u v w))) := by
 refine en Tryz.func207 r fun σ F=>sb r<|lf 9 r r<|ea r<|cu (i511 s u v w) r<|ed r<|an r<|sa r<|ll r<|an r<|jl<|uf r<|z0 r Ent.take
theorem i513 (a c d e g h j k l m o p q s t u v w A B C D E G H M N : Nat) : Sp Tryz.prog 186 #[Pt a 0, I 300] ((sep (c85 a c d e g h j k l m o p q s t) (sep (c4 o p q) (sep (c0 m u) (sep (c10 u v w A B C) (sep (c9 B D E G) (c67 s H M N))))))) (.tuple #[]) ((sep (c99 a c d e g h j k l m o p q s t) (sep (c4 o p q) (sep (c0 m u) (sep (c10 u v w A B C) (sep (c9 B D E G) (c114 s H M N))))))) := by
 refine en Tryz.func186 r fun σ F=>sr<|ec r<|fa 10 r<|so r r<|nj<|sb r<|cu (i509 a c d e g h j k l m o p q s t u v w A B C D E G) r<|an r<|jl<|ju<|js<|sa r<|np false r<|nf r<|jx ?_
 refine ke<|ke<|kh<|kt<|jg<|eb r<|cu (i512 a c d e g h j k l m o p q s t H M N) r<|ln<|z0 r Ent.take
theorem i514 (a c d e g h j k l m o p q s t u v w A B C D E G H M N : Nat) : Sp Tryz.prog 162 #[Pt a 0, I 300] ((sep (c85 a c d e g h j k l m o p q s t) (sep (c4 o p q) (sep (c0 m u) (sep (c10 u v w A B C) (sep (c9 B D E G) (c67 s H M N))))))) (.tuple #[Ns, I 0]) ((sep (c99 a c d e g h j k l m o p q s t) (sep (c4 o p q) (sep (c0 m u) (sep (c10 u v w A B C) (sep (c9 B D E G) (c114 s H M N))))))) := by
 refine en Tryz.func162 r fun σ F=>sb r<|nj<|sb r<|cu (i508 a c d e g h j k l m o p q s t) r<|an r<|sb r<|nf r<|sk<|sb r<|cu (i513 a c d e g h j k l m o p q s t u v w A B C D E G H M N) r<|nr<|eb r<|lf 14 r r<|an r<|sb r ?_
 refine fa 14 r<|so r r<|nr<|ec r<|nk<|jr<|r2 r Ent.take
theorem i515 (a c d e g h j k l m o p q s t u v w A B C D E G H M N O P R T : Nat) : Sp Tryz.prog 135 #[Pt a 0, I 300] ((sep (c150 a c d e g h j k l m o p q) (sep (c85 m c d e g h j k l s t u v w A) (sep (c4 t u v) (sep (c0 s B) (sep (c10 B C D E G H) (sep (c9 G M N O) (c67 w P R T)))))))) (.tuple #[Ns, I 0]) ((sep (c153 a c d e g h j k l m o p q) (sep (c99 m c d e g h j k l s t u v w A) (sep (c4 t u v) (sep (c0 s B) (sep (c10 B C D E G H) (sep (c9 G M N O) (c114 w P R T)))))))) := by
 refine en Tryz.func135 r fun σ F=>sb r<|nj<|jb<|sa r<|ep false r<|an r<|cf r<|sa r<|cu i506 r<|bf r<|skb<|js<|sb r<|cu (i507 a c d e g h j k l m o p q) r<|an r ?_
 refine sb r<|nf r<|sk<|sb r<|lf 7 r r<|ea r<|cu (i514 m c d e g h j k l s t u v w A B C D E G H M N O P R T) r<|ed r<|nk<|jr<|r2 r Ent.take
theorem i516 (a c d e g h j k l m o p q : Nat) : Sp Tryz.prog 104 #[Pt a 0, I 300] (c151 a c d e g h j k l m o p q) (I 0) (c43 a c d e g h j k l m o p q) := by
 refine en Tryz.func104 r fun σ F=>san r<|js<|sr<|ec r<|lf 11 r r<|an r<|cf r<|sk<|sr<|ec r<|fa 11 r<|so r r<|nr<|an r<|jr ?_
 exact r1 r Ent.take
theorem i517 (a c d e g h j k l m o p : Nat) : Kp Tryz.prog 185 #[Pt a 0, I 300] (c86 a c d e g h j k l m o p) (I 0) := by
 refine en Tryz.func185 r fun σ F=>san r<|js<|jb<|sa r<|ep false r<|an r<|cf r<|sr<|ec r<|go r<|ea r<|go r<|ec r<|nf r<|sr ?_
 refine ec r<|lf 10 r r<|bf r<|skb<|san r<|jr<|r1 r Ent.take
theorem i518 (a c d e g h j k l m o p : Nat) : Kp Tryz.prog 205 #[Pt a 0, I 300] (c100 a c d e g h j k l m o p) (Np) := by
 refine en Tryz.func205 r fun σ F=>san r<|san r<|js<|sb r<|lf 8 r r<|ll r<|an r<|jl<|uf r<|kt<|sb r<|nk<|jr<|r1 r Ent.take
theorem i519 (a : Nat) : Kp Tryz.prog 237 #[Pt a 0, I 300] (c32 a) (I 0) := by
 refine en Tryz.func237 r fun σ F=>san r<|js<|jb<|sa r<|ep false r<|an r<|cf r<|sr<|ec r<|go r<|ea r<|go r<|ec r<|nf r<|sr ?_
 refine ec r<|lf 1 r r<|bf r<|skb<|san r<|jr<|r1 r Ent.take
theorem i520 (a : Nat) : Sp Tryz.prog 234 #[Pt a 0, I 300] (c32 a) (.tuple #[Ns, I 0]) (c51 a) := by
 refine en Tryz.func234 r fun σ F=>sr<|bx r fun b1=>eb r<|nj<|sa r<|ld r r<|cu (i519 a) r<|an r<|sb r<|nf r<|sk<|sa r<|ld r r<|ea r<|fa 1 r ?_
 refine so r r<|nr<|eb r<|lf 0 r r<|lv (opv_makeFunc r r) r<|cu (i185 b1) r<|an r<|js<|sb r<|nt r<|jg<|eb r<|lf 0 r r<|ll r<|an r<|sb r ?_
 refine lf 0 r r<|eb r<|lv ((opv_sliceLhm r r r (by decide)).as (v' := Ns) r) r<|an r<|sr<|ec r<|lf 0 r r<|ea r<|lv ((opv_sliceLlo r r (by decide)).as (v' := Ns) r) r<|ea r<|fa 0 r<|so r r<|nr<|ec r<|nk<|jr ?_
 exact r2 r Ent.take
theorem i521 (a c d e g h j k l m o p : Nat) : Sp Tryz.prog 207 #[Pt a 0, I 300] ((sep (c100 a c d e g h j k l m o p) (c32 o))) (.tuple #[]) ((sep (c100 a c d e g h j k l m o p) (c51 o))) := by
 refine en Tryz.func207 r fun σ F=>sb r<|lf 9 r r<|ea r<|cu (i520 o) r<|ed r<|an r<|sa r<|ll r<|an r<|jl<|uf r<|z0 r Ent.take
theorem i522 (a c d e g h j k l m o p : Nat) : Sp Tryz.prog 186 #[Pt a 0, I 300] ((sep (c86 a c d e g h j k l m o p) (c32 o))) (.tuple #[]) ((sep (c100 a c d e g h j k l m o p) (c51 o))) := by
 refine en Tryz.func186 r fun σ F=>sr<|ec r<|fa 10 r<|so r r<|nj<|sb r<|cu (i518 a c d e g h j k l m o p) r<|an r<|jl<|ju<|js<|sa r<|np false r<|nf r<|jx ?_
 refine ke<|ke<|kh<|kt<|jg<|eb r<|cu (i521 a c d e g h j k l m o p) r<|ln<|z0 r Ent.take
theorem i523 (a c d e g h j k l m o p : Nat) : Sp Tryz.prog 162 #[Pt a 0, I 300] ((sep (c86 a c d e g h j k l m o p) (c32 o))) (.tuple #[Ns, I 0]) ((sep (c100 a c d e g h j k l m o p) (c51 o))) := by
 refine en Tryz.func162 r fun σ F=>sb r<|nj<|sb r<|cu (i517 a c d e g h j k l m o p) r<|an r<|sb r<|nf r<|sk<|sb r<|cu (i522 a c d e g h j k l m o p) r<|nr<|eb r<|lf 14 r r<|an r<|sb r ?_
 refine fa 14 r<|so r r<|nr<|ec r<|nk<|jr<|r2 r Ent.take
theorem i524 (a c d e g h j k l m o p q s t u : Nat) : Sp Tryz.prog 135 #[Pt a 0, I 300] ((sep (c151 a c d e g h j k l m o p q) (sep (c86 m c d e g h j k l s t u) (c32 t)))) (.tuple #[Ns, I 0]) ((sep (c43 a c d e g h j k l m o p q) (sep (c100 m c d e g h j k l s t u) (c51 t)))) := by
 refine en Tryz.func135 r fun σ F=>sb r<|nj<|jb<|sa r<|ep false r<|an r<|cf r<|sa r<|cu i506 r<|bf r<|skb<|js<|sb r<|cu (i516 a c d e g h j k l m o p q) r<|an r ?_
 refine sb r<|nf r<|sk<|sb r<|lf 7 r r<|ea r<|cu (i523 m c d e g h j k l s t u) r<|ed r<|nk<|jr<|r2 r Ent.take
theorem i525 (a c d e g h j k l m o p q : Nat) : Sp Tryz.prog 104 #[Pt a 0, I 300] (c152 a c d e g h j k l m o p q) (I 0) (c154 a c d e g h j k l m o p q) := by
 refine en Tryz.func104 r fun σ F=>san r<|js<|sr<|ec r<|lf 11 r r<|an r<|cf r<|sk<|sr<|ec r<|fa 11 r<|so r r<|nr<|an r<|jr ?_
 exact r1 r Ent.take
theorem i526 (a c d e g h j k l m o p : Nat) : Kp Tryz.prog 185 #[Pt a 0, I 300] (c87 a c d e g h j k l m o p) (I 0) := by
 refine en Tryz.func185 r fun σ F=>san r<|js<|jb<|sa r<|ep false r<|an r<|cf r<|sr<|ec r<|go r<|ea r<|go r<|ec r<|nf r<|sr ?_
 refine ec r<|lf 10 r r<|bf r<|skb<|san r<|jr<|r1 r Ent.take
theorem i527 (a c d e g h j k l m o p : Nat) : Kp Tryz.prog 205 #[Pt a 0, I 300] (c101 a c d e g h j k l m o p) (Np) := by
 refine en Tryz.func205 r fun σ F=>san r<|san r<|js<|sb r<|lf 8 r r<|ll r<|an r<|jl<|uf r<|kt<|sb r<|nk<|jr<|r1 r Ent.take
theorem i528 (a c d e g h j k l m o p : Nat) : Sp Tryz.prog 207 #[Pt a 0, I 300] ((sep (c101 a c d e g h j k l m o p) (c32 o))) (.tuple #[]) ((sep (c101 a c d e g h j k l m o p) (c51 o))) := by
 refine en Tryz.func207 r fun σ F=>sb r<|lf 9 r r<|ea r<|cu (i520 o) r<|ed r<|an r<|sa r<|ll r<|an r<|jl<|uf r<|z0 r Ent.take
theorem i529 (a c d e g h j k l m o p : Nat) : Sp Tryz.prog 186 #[Pt a 0, I 300] ((sep (c87 a c d e g h j k l m o p) (c32 o))) (.tuple #[]) ((sep (c101 a c d e g h j k l m o p) (c51 o))) := by
 refine en Tryz.func186 r fun σ F=>sr<|ec r<|fa 10 r<|so r r<|nj<|sb r<|cu (i527 a c d e g h j k l m o p) r<|an r<|jl<|ju<|js<|sa r<|np false r<|nf r<|jx ?_
 refine ke<|ke<|kh<|kt<|jg<|eb r<|cu (i528 a c d e g h j k l m o p) r<|ln<|z0 r Ent.take
theorem i530 (a c d e g h j k l m o p : Nat) : Sp Tryz.prog 162 #[Pt a 0, I 300] ((sep (c87 a c d e g h j k l m o p) (c32 o))) (.tuple #[Ns, I 0]) ((sep (c101 a c d e g h j k l m o p) (c51 o))) := by
 refine en Tryz.func162 r fun σ F=>sb r<|nj<|sb r<|cu (i526 a c d e g h j k l m o p) r<|an r<|sb r<|nf r<|sk<|sb r<|cu (i529 a c d e g h j k l m o p) r<|nr<|eb r<|lf 14 r r<|an r<|sb r ?_
 refine fa 14 r<|so r r<|nr<|ec r<|nk<|jr<|r2 r Ent.take
theorem i531 (a c d e g h j k l m o p q s t u : Nat) : Sp Tryz.prog 135 #[Pt a 0, I 300] ((sep (c152 a c d e g h j k l m o p q) (sep (c87 m c d e g h j k l s t u) (c32 t)))) (.tuple #[Ns, I 0]) ((sep (c154 a c d e g h j k l m o p q) (sep (c101 m c d e g h j k l s t u) (c51 t)))) := by
 refine en Tryz.func135 r fun σ F=>sb r<|nj<|jb<|sa r<|ep false r<|an r<|cf r<|sa r<|cu i506 r<|bf r<|skb<|js<|sb r<|cu (i525 a c d e g h j k l m o p q) r<|an r ?_
 refine sb r<|nf r<|sk<|sb r<|lf 7 r r<|ea r<|cu (i530 m c d e g h j k l s t u) r<|ed r<|nk<|jr<|r2 r Ent.take
theorem i532 (a c d e g h j k l : Nat) : Kp Tryz.prog 100 #[Pt a 0, I 300] (c131 a c d e g h j k l) (I 0) := by
 refine en Tryz.func100 r fun σ F=>san r<|js<|jb<|sa r<|ep false r<|an r<|cf r<|sr<|ec r<|go r<|ea r<|go r<|ec r<|nf r<|sr ?_
 refine ec r<|lf 4 r r<|bf r<|skb<|san r<|jr<|r1 r Ent.take
theorem i533 (a c d e g h j k l : Nat) : Sp Tryz.prog 101 #[Pt a 0, I 300] (c131 a c d e g h j k l) (.tuple #[]) (c155 a c d e g h j k l) := by
 refine en Tryz.func101 r fun σ F=>sr<|ec r<|fa 4 r<|so r r<|nk<|jl<|ju<|js<|sb r<|lf 3 r r<|ll r<|eb r<|gs r<|gs r<|gs r ?_
 refine gs r<|gs r<|gs r<|gs r<|gs r<|gs r<|an r<|cf r<|jx<|ke<|ke<|kh<|z0 r Ent.take
theorem i534 (a : Nat) : Kp Tryz.prog 187 #[Pt a 0, I 300] (c39 a) (I 0) := by
 refine en Tryz.func187 r fun σ F=>san r<|js<|jb<|sa r<|ep false r<|an r<|cf r<|sr<|ec r<|go r<|ea r<|go r<|ec r<|nf r<|sr ?_
 refine ec r<|lf 12 r r<|bf r<|skb<|san r<|jr<|r1 r Ent.take
theorem i535 (a : Nat) : Sp Tryz.prog 188 #[Pt a 0, I 300] (c39 a) (.tuple #[]) (c36 a) := by
 refine en Tryz.func188 r fun σ F=>sr<|ec r<|fa 12 r<|so r r<|nk<|jl<|ju<|js<|sb r<|lf 6 r r<|ea r<|gs r<|gs r<|gs r<|gs r ?_
 refine gs r<|gs r<|gs r<|an r<|cf r<|jx<|ke<|ke<|kh<|z0 r Ent.take
theorem i536 (a : Nat) : Sp Tryz.prog 163 #[Pt a 0, I 300] (c39 a) (.tuple #[Ns, I 0]) (c36 a) := by
 refine en Tryz.func163 r fun σ F=>sb r<|nj<|sb r<|cu (i534 a) r<|an r<|sb r<|nf r<|sk<|sb r<|cu (i535 a) r<|nr<|eb r<|lf 11 r r<|an r<|sb r ?_
 refine fa 11 r<|so r r<|nr<|ec r<|nk<|jr<|r2 r Ent.take
theorem i537 (a : Nat) : Kp Tryz.prog 187 #[Pt a 0, I 300] (c112 a) (I 0) := by
 refine en Tryz.func187 r fun σ F=>san r<|js<|jb<|sa r<|ep false r<|an r<|cf r<|sr<|ec r<|go r<|ea r<|go r<|ec r<|nf r<|sr ?_
 refine ec r<|lf 12 r r<|bf r<|skb<|san r<|jr<|r1 r Ent.take
theorem i538 (a : Nat) : Sp Tryz.prog 188 #[Pt a 0, I 300] (c112 a) (.tuple #[]) (c133 a) := by
 refine en Tryz.func188 r fun σ F=>sr<|ec r<|fa 12 r<|so r r<|nk<|jl<|ju<|js<|sb r<|lf 6 r r<|ea r<|gs r<|gs r<|gs r<|gs r ?_
 refine gs r<|gs r<|gs r<|an r<|cf r<|jx<|ke<|ke<|kh<|z0 r Ent.take
theorem i539 (a : Nat) : Sp Tryz.prog 163 #[Pt a 0, I 300] (c112 a) (.tuple #[Ns, I 0]) (c133 a) := by
 refine en Tryz.func163 r fun σ F=>sb r<|nj<|sb r<|cu (i537 a) r<|an r<|sb r<|nf r<|sk<|sb r<|cu (i538 a) r<|nr<|eb r<|lf 11 r r<|an r<|sb r ?_
 refine fa 11 r<|so r r<|nr<|ec r<|nk<|jr<|r2 r Ent.take
theorem i540 (a c d e g h j k l m o p : Nat) : Sp Tryz.prog 137 #[Pt a 0, I 300] ((sep (c131 a c d e g h j k l) (sep (c6 c d e m o p) (sep (c39 m) (sep (c112 o) (c39 p)))))) (.tuple #[Ns, I 0]) ((sep (c155 a c d e g h j k l) (sep (c6 c d e m o p) (sep (c36 m) (sep (c133 o) (c36 p)))))) := by
 refine en Tryz.func137 r fun σ F=>sb r<|nj<|sb r<|cu (i532 a c d e g h j k l) r<|an r<|sb r<|nf r<|sk<|sb r<|cu (i533 a c d e g h j k l) r<|nr<|an r<|js<|sb r<|lf 1 r r ?_
 refine ll r<|an r<|jl<|ut r<|js<|jb<|sa r<|ix d r r<|lv (opv_ldO 0 r r r) r<|eb r<|nr<|eb r<|cu (i536 m) r<|ed r<|an r<|sa r ?_
 refine ll r<|an r<|jl<|uf r<|ni (I 1) r<|ut r<|js<|jb<|sa r<|ix (d + 1) r r<|lv (opv_ldO 1 r r r) r<|eb r<|nr<|eb r<|cu (i539 o) r<|ed r ?_
 refine an r<|sa r<|ll r<|an r<|jl<|uf r<|ni (I 2) r<|ut r<|js<|jb<|sa r<|ix (d + 2) r r<|lv (opv_ldO 2 r r r) r<|eb r<|nr<|eb r ?_
 refine cu (i536 p) r<|ed r<|an r<|sa r<|ll r<|an r<|jl<|uf r<|ni (I 3) r<|uf r<|kt<|sa r<|cu i254 r<|nr<|ec r<|nk ?_
 refine jr<|r2 r Ent.take
theorem i541 (a c d e g h j k l : Nat) : Kp Tryz.prog 100 #[Pt a 0, I 300] (c132 a c d e g h j k l) (I 0) := by
 refine en Tryz.func100 r fun σ F=>san r<|js<|jb<|sa r<|ep false r<|an r<|cf r<|sr<|ec r<|go r<|ea r<|go r<|ec r<|nf r<|sr ?_
 refine ec r<|lf 4 r r<|bf r<|skb<|san r<|jr<|r1 r Ent.take
theorem i542 (a c d e g h j k l : Nat) : Sp Tryz.prog 101 #[Pt a 0, I 300] (c132 a c d e g h j k l) (.tuple #[]) (c156 a c d e g h j k l) := by
 refine en Tryz.func101 r fun σ F=>sr<|ec r<|fa 4 r<|so r r<|nk<|jl<|ju<|js<|sb r<|lf 3 r r<|ll r<|eb r<|gs r<|gs r<|gs r ?_
 refine gs r<|gs r<|gs r<|gs r<|gs r<|gs r<|an r<|cf r<|jx<|ke<|ke<|kh<|z0 r Ent.take
theorem i543 (a : Nat) : Kp Tryz.prog 187 #[Pt a 0, I 300] (c113 a) (I 0) := by
 refine en Tryz.func187 r fun σ F=>san r<|js<|jb<|sa r<|ep false r<|an r<|cf r<|sr<|ec r<|go r<|ea r<|go r<|ec r<|nf r<|sr ?_
 refine ec r<|lf 12 r r<|bf r<|skb<|san r<|jr<|r1 r Ent.take
theorem i544 (a : Nat) : Sp Tryz.prog 188 #[Pt a 0, I 300] (c113 a) (.tuple #[]) (c134 a) := by
 refine en Tryz.func188 r fun σ F=>sr<|ec r<|fa 12 r<|so r r<|nk<|jl<|ju<|js<|sb r<|lf 6 r r<|ea r<|gs r<|gs r<|gs r<|gs r ?_
 refine gs r<|gs r<|gs r<|an r<|cf r<|jx<|ke<|ke<|kh<|z0 r Ent.take
theorem i545 (a : Nat) : Sp Tryz.prog 163 #[Pt a 0, I 300] (c113 a) (.tuple #[Ns, I 0]) (c134 a) := by
 refine en Tryz.func163 r fun σ F=>sb r<|nj<|sb r<|cu (i543 a) r<|an r<|sb r<|nf r<|sk<|sb r<|cu (i544 a) r<|nr<|eb r<|lf 11 r r<|an r<|sb r ?_
 refine fa 11 r<|so r r<|nr<|ec r<|nk<|jr<|r2 r Ent.take
theorem i546 (a c d e g h j k l m o p : Nat) : Sp Tryz.prog 137 #[Pt a 0, I 300] ((sep (c132 a c d e g h j k l) (sep (c6 c d e m o p) (sep (c39 m) (sep (c113 o) (c39 p)))))) (.tuple #[Ns, I 0]) ((sep (c156 a c d e g h j k l) (sep (c6 c d e m o p) (sep (c36 m) (sep (c134 o) (c36 p)))))) := by
 refine en Tryz.func137 r fun σ F=>sb r<|nj<|sb r<|cu (i541 a c d e g h j k l) r<|an r<|sb r<|nf r<|sk<|sb r<|cu (i542 a c d e g h j k l) r<|nr<|an r<|js<|sb r<|lf 1 r r ?_
 refine ll r<|an r<|jl<|ut r<|js<|jb<|sa r<|ix d r r<|lv (opv_ldO 0 r r r) r<|eb r<|nr<|eb r<|cu (i536 m) r<|ed r<|an r<|sa r ?_
 refine ll r<|an r<|jl<|uf r<|ni (I 1) r<|ut r<|js<|jb<|sa r<|ix (d + 1) r r<|lv (opv_ldO 1 r r r) r<|eb r<|nr<|eb r<|cu (i545 o) r<|ed r ?_
 refine an r<|sa r<|ll r<|an r<|jl<|uf r<|ni (I 2) r<|ut r<|js<|jb<|sa r<|ix (d + 2) r r<|lv (opv_ldO 2 r r r) r<|eb r<|nr<|eb r ?_
 refine cu (i536 p) r<|ed r<|an r<|sa r<|ll r<|an r<|jl<|uf r<|ni (I 3) r<|uf r<|kt<|sa r<|cu i254 r<|nr<|ec r<|nk ?_
 refine jr<|r2 r Ent.take
theorem i547 (a c d e g h j k l m o p q s t u v w A B C D E G H M N O P R T U V W X Y A0 a0 B0 C0 d0 D0 g0 G0 h0 H0 j0 M0 N0 o0 p0 P0 q0 R0 t0 T0 u0 U0 v0 V0 w0 W0 A1 a1 B1 C1 d1 D1 g1 G1 h1 H1 j1 M1 N1 o1 p1 : Nat) : Sp Tryz.prog 99 #[Pt a 0, I 300] ((sep (c13 a c d e g h j k l m o p q s t u) (sep (c17 m o p v w A) (sep (c150 v c d e g h j k l B C D E) (sep (c85 B c d e g h j k l G H M N O P) (sep (c4 H M N) (sep (c0 G R) (sep (c10 R T U V W X) (sep (c9 W Y A0 a0) (sep (c67 O B0 C0 d0) (sep (c151 w c d e g h j k l D0 g0 G0 h0) (sep (c86 D0 c d e g h j k l H0 j0 M0) (sep (c32 j0) (sep (c152 A c d e g h j k l N0 o0 p0 P0) (sep (c87 N0 c d e g h j k l q0 R0 t0) (sep (c32 R0) (sep (c131 q T0 u0 U0 v0 V0 w0 W0 A1) (sep (c6 T0 u0 U0 a1 B1 C1) (sep (c39 a1) (sep (c112 B1) (sep (c39 C1) (sep (c132 s d1 D1 g1 G1 h1 H1 j1 M1) (sep (c6 d1 D1 g1 N1 o1 p1) (sep (c39 N1) (sep (c113 o1) (c39 p1)))))))))))))))))))))))))) (.tuple #[]) ((sep (c13 a c d e g h j k l m o p q s t u) (sep (c17 m o p v w A) (sep (c153 v c d e g h j k l B C D E) (sep (c99 B c d e g h j k l G H M N O P) (sep (c4 H M N) (sep (c0 G R) (sep (c10 R T U V W X) (sep (c9 W Y A0 a0) (sep (c114 O B0 C0 d0) (sep (c43 w c d e g h j k l D0 g0 G0 h0) (sep (c100 D0 c d e g h j k l H0 j0 M0) (sep (c51 j0) (sep (c154 A c d e g h j k l N0 o0 p0 P0) (sep (c101 N0 c d e g h j k l q0 R0 t0) (sep (c51 R0) (sep (c155 q T0 u0 U0 v0 V0 w0 W0 A1) (sep (c6 T0 u0 U0 a1 B1 C1) (sep (c36 a1) (sep (c133 B1) (sep (c36 C1) (sep (c156 s d1 D1 g1 G1 h1 H1 j1 M1) (sep (c6 d1 D1 g1 N1 o1 p1) (sep (c36 N1) (sep (c134 o1) (c36 p1)))))))))))))))))))))))))) := by
 refine en Tryz.func99 r fun σ F=>js<|san r<|jl<|ut r<|js<|jb<|sb r<|nk<|jg<|ec r<|cu (i504 a c d e g h j k l m o p q s t u) r<|ln<|ni (I 1) r<|ut r<|js ?_
 refine jb<|sb r<|nk<|jg<|ec r<|cu (i505 a c d e g h j k l m o p q s t u) r<|ln<|ni (I 2) r<|uf r<|kt<|js<|sb r<|lf 6 r r<|ll r<|an r<|jl ?_
 refine ut r<|js<|jb<|sa r<|ix o r r<|lv (opv_ldO 0 r r r) r<|eb r<|nr<|eb r<|cu (i515 v c d e g h j k l B C D E G H M N O P R T U V W X Y A0 a0 B0 C0 d0) r<|ed r<|an r<|sa r<|ll r<|an r<|jl ?_
 refine uf r<|ni (I 1) r<|ut r<|js<|jb<|sa r<|ix (o + 1) r r<|lv (opv_ldO 1 r r r) r<|eb r<|nr<|eb r<|cu (i524 w c d e g h j k l D0 g0 G0 h0 H0 j0 M0) r<|ed r<|an r<|sa r<|ll r ?_
 refine an r<|jl<|uf r<|ni (I 2) r<|ut r<|js<|jb<|sa r<|ix (o + 2) r r<|lv (opv_ldO 2 r r r) r<|eb r<|nr<|eb r<|cu (i531 A c d e g h j k l N0 o0 p0 P0 q0 R0 t0) r<|ed r<|an r ?_
 refine sa r<|ll r<|an r<|jl<|uf r<|ni (I 3) r<|uf r<|kt<|sb r<|fa 7 r<|ls r<|an r<|jl<|ut r<|js<|jb ?_
 refine sa r<|lv (opv_ixV r r r r) r<|eb r<|nr<|eb r<|cu (i540 q T0 u0 U0 v0 V0 w0 W0 A1 a1 B1 C1) r<|ed r<|an r<|sa r<|ll r<|an r<|jl<|uf r<|ni (I 1) r<|ut r<|js ?_
 refine jb<|sa r<|lv (opv_ixV r r r r) r<|eb r<|nr<|eb r<|cu (i546 s d1 D1 g1 G1 h1 H1 j1 M1 N1 o1 p1) r<|ed r<|an r<|sa r<|ll r<|an r<|jl<|uf r<|ni (I 2) r<|uf r ?_
 exact z0 r Ent.take
theorem i548 (a d e g h j k l m o p q s t u v w A B C D E G H M N O P R T U V W X Y A0 a0 B0 C0 d0 D0 g0 G0 h0 H0 j0 M0 N0 o0 p0 P0 q0 R0 t0 T0 u0 U0 v0 V0 w0 W0 A1 a1 B1 C1 d1 D1 g1 G1 h1 H1 j1 M1 N1 o1 p1 P1 q1 R1 t1 T1 u1 U1 v1 V1 w1 W1 A2 a2 B2 C2 d2 : Nat) : FSpec Tryz.prog 60 #[Pt a 0, I 300] ((sep (c13 a d e g h j k l m o p q s t u v) (sep (c17 o p q w A B) (sep (c45 w d e g h j k l m C D E G) (sep (c71 C d e g h j k l m H M N O P R) (sep (c4 M N O) (sep (c0 H T) (sep (c46 T U V W X Y) (sep (c48 X A0 a0 B0) (sep (c53 Y) (sep (c42 P) (sep (c26 A0 a0 B0) (sep (c3 R) (sep (c44 A d e g h j k l m C0 d0 D0 g0) (sep (c69 C0 d e g h j k l m G0 h0 H0) (sep (c15 h0) (sep (c117 B d e g h j k l m j0 M0 N0 o0) (sep (c70 j0 d e g h j k l m p0 P0 q0) (sep (c15 P0) (sep (c91 s R0 t0 T0 u0 U0) (sep (c6 R0 t0 T0 v0 V0 w0) (sep (c11 v0) (sep (c11 V0) (sep (c11 w0) (sep (c92 t W0 A1 a1 B1 C1) (sep (c6 W0 A1 a1 d1 D1 g1) (sep (c11 d1) (sep (c11 D1) (sep (c11 g1) (sep (c3 v) (sep (mapq u [.int .i64, .int .i64, .int .i64] (fun _ => none)) (sep (c0 u0 G1) (sep (c41 G1 h1 H1 j1 M1) (sep (c33 M1) (sep (c3 U0) (sep (c0 B1 N1) (sep (c41 N1 o1 p1 P1 q1) (sep (c33 q1) (sep (c3 C1) (sep (c14 h1 H1 j1) (sep (c14 o1 p1 P1) (sep (c102 d0 d e g h j k l m R1 t1 T1) (sep (c0 R1 u1) (sep (c12 u1 U1 v1 V1 w1 W1 A2) (sep (c25 w1) (sep (c54 A2) (sep (c34 t1 a2) (sep (c2 k l m) (sep (c3 T1) (sep (c19 D0 B2) (sep (c35 B2 C2 d2) (sep (c94 C2) (c25 W1))))))))))))))))))))))))))))))))))))))))))))))))))))) (fun _ : Nat × Nat × Nat × Nat × Nat × Nat × Nat × Nat × Nat × Nat × Nat × Nat × Nat × Nat × Nat => True) (fun y => I 0) (fun y => (sep (c180 a d e g h j k l m o p q s t u v) (sep (c17 o p q w A B) (sep (c153 w d e g h j k l m C D E G) (sep (c99 C d e g h j k l m H M N O P R) (sep (c4 M N O) (sep (c0 H T) (sep (c10 T U V W X Y) (sep (c9 X A0 B0 a0) (sep (c104 Y) (sep (c114 P y.1 y.2.1 y.2.2.1) (sep (c26 A0 a0 B0) (sep (c119 R) (sep (c43 A d e g h j k l m C0 d0 D0 g0) (sep (c100 C0 d e g h j k l m G0 h0 H0) (sep (c51 h0) (sep (c154 B d e g h j k l m j0 M0 N0 o0) (sep (c101 j0 d e g h j k l m p0 P0 q0) (sep (c51 P0) (sep (c155 s R0 t0 T0 u0 y.2.2.2.1 y.2.2.2.2.1 y.2.2.2.2.2.1 U0) (sep (c6 R0 t0 T0 v0 V0 w0) (sep (c36 v0) (sep (c133 V0) (sep (c36 w0) (sep (c156 t W0 A1 a1 B1 y.2.2.2.2.2.2.1 y.2.2.2.2.2.2.2.1 y.2.2.2.2.2.2.2.2.1 C1) (sep (c6 W0 A1 a1 d1 D1 g1) (sep (c36 d1) (sep (c134 D1) (sep (c36 g1) (sep (c158 v) (sep (mapq u [.int .i64, .int .i64, .int .i64] (fun _ => none)) (sep (c0 u0 G1) (sep (c20 G1 h1 H1 j1 M1) (sep (c49 M1) (sep (c23 U0) (sep (c0 B1 N1) (sep (c20 N1 o1 p1 P1 q1) (sep (c49 q1) (sep (c23 C1) (sep (c14 h1 H1 j1) (sep (c14 o1 p1 P1) (sep (c21 d0 d e g h j k l m R1 t1 T1) (sep (c0 R1 u1) (sep (c12 u1 U1 v1 V1 w1 W1 A2) (sep (c50 w1) (sep (c110 A2 y.2.2.2.2.2.2.2.2.2.1 y.2.2.2.2.2.2.2.2.2.2.1 y.2.2.2.2.2.2.2.2.2.2.2.1) (sep (c98 t1 a2) (sep (c2 k l m) (sep (c149 T1) (sep (c19 D0 B2) (sep (c35 B2 C2 d2) (sep (c109 C2 y.2.2.2.2.2.2.2.2.2.2.2.2.1 y.2.2.2.2.2.2.2.2.2.2.2.2.2.1 y.2.2.2.2.2.2.2.2.2.2.2.2.2.2) (sep (c50 W1) (sep (c24 y.1 y.2.2.1 y.2.1) (sep (c56 y.2.2.2.1 y.2.2.2.2.2.1 y.2.2.2.2.1 G1) (sep (c57 y.2.2.2.2.2.2.1 y.2.2.2.2.2.2.2.2.1 y.2.2.2.2.2.2.2.1 N1) (sep (c111 y.2.2.2.2.2.2.2.2.2.1 y.2.2.2.2.2.2.2.2.2.2.1 y.2.2.2.2.2.2.2.2.2.2.2.1) (c66 y.2.2.2.2.2.2.2.2.2.2.2.2.1 y.2.2.2.2.2.2.2.2.2.2.2.2.2.1 y.2.2.2.2.2.2.2.2.2.2.2.2.2.2)))))))))))))))))))))))))))))))))))))))))))))))))))))))))) := by
 refine en Tryz.func60 r fun σ F=>san r<|js<|jb<|sa r<|ep false r<|an r<|cf r<|sr<|ec r<|go r<|ea r<|go r<|ec r<|nf r<|sr ?_
 refine ec r<|lf 12 r r<|bf r<|skb<|js<|js<|J_quiet Tryz.mixed (by kernel_rfl)<|qb r<|qf 12 r<|ql r r<|qb r<|qf 12 r<|ql r r<|qv (opv_ib (c := I 10) r r r) r<|qv (opv_ib (c := I 0) r r r) r<|qv (opv_ib (c := I 50) r r r) r ?_
 refine qa r<|qn<|kt<|jl<|ju<|js<|sr<|ec r<|nt r<|sk<|js<|jb<|jg<|eb r<|cy (i259 a d e g h j k l m o p q s t u v w A B C D E G H M N O P R T U V W X Y A0 a0 B0 C0 d0 D0 g0 G0 h0 H0 j0 M0 N0 o0 p0 P0 q0 R0 t0 T0 u0 U0 v0 V0 w0 W0 A1 a1 B1 C1 d1 D1 g1) r fun y1=>ln ?_
 refine kb<|kt<|jg<|ea r<|ib (I 100) r<|ea r<|kr<|ju<|js<|sr<|ec r<|nt r<|sk<|js<|jb<|jg ?_
 refine eb r<|cy (i331 a d e g h j k l m o p q s t u v w A B C D E G H M N O P R T U V W X Y A0 B0 a0 y1.1 y1.2.1 y1.2.2 R0 t0 T0 u0 U0 G1 h1 H1 j1 M1 W0 A1 a1 B1 C1 N1 o1 p1 P1 q1 C0 d0 D0 g0 G0 h0 H0 j0 M0 N0 o0 p0 P0 q0 v0 V0 w0 d1 D1 g1) r fun y2=>ln<|kb<|kt<|jg<|ea r<|ib (I 150) r<|ea r<|kr<|ju<|js<|sr<|ec r<|nt r<|sk ?_
 refine js<|jb<|jg<|eb r<|cu (i376 a d e g h j k l m o p q s t u v w A B C D E G H M N O P R T U V W X Y A0 B0 a0 y1.1 y1.2.2 y1.2.1 C0 d0 D0 g0 G0 h0 H0 j0 M0 N0 o0 p0 P0 q0 R0 t0 T0 u0 y2.1 y2.2.1 y2.2.2.1 U0 v0 V0 w0 W0 A1 a1 B1 y2.2.2.2.1 y2.2.2.2.2.1 y2.2.2.2.2.2 C1 d1 D1 g1) r<|ln<|kb<|kt<|jg<|ea r<|ib (I 200) r<|ea r<|kr<|ju<|js<|sr ?_
 refine ec r<|nt r<|sk<|js<|jb<|jg<|eb r<|cy (i459 a d e g h j k l m o p q s t u v w A B C D E G H M N O P R T U V W X Y A0 B0 a0 y1.1 y1.2.2 y1.2.1 C0 d0 D0 g0 G0 h0 H0 j0 M0 N0 o0 p0 P0 q0 R0 t0 T0 u0 y2.1 y2.2.1 y2.2.2.1 U0 v0 V0 w0 R1 t1 T1 u1 U1 v1 V1 w1 W1 A2 a2 B2 C2 d2 W0 A1 a1 B1 y2.2.2.2.1 y2.2.2.2.2.1 y2.2.2.2.2.2 C1 d1 D1 g1) r fun y3=>ln<|kb<|kt<|jg<|ea r<|ib (I 250) r<|ea r<|kr ?_
 refine ju<|js<|sr<|ec r<|nt r<|sk<|js<|jb<|jg<|eb r<|cu (i503 a d e g h j k l m o p q s t u v w A B C D E G H M N O P R T U V W X Y A0 B0 a0 y1.1 y1.2.2 y1.2.1 C0 d0 D0 g0 G0 h0 H0 j0 M0 N0 o0 p0 P0 q0 R0 t0 T0 u0 y2.1 y2.2.1 y2.2.2.1 U0 v0 V0 w0 W0 A1 a1 B1 y2.2.2.2.1 y2.2.2.2.2.1 y2.2.2.2.2.2 C1 d1 D1 g1) r<|ln<|kb<|kt<|jg<|ea r ?_
 refine ib (I 300) r<|ea r<|kr<|ju<|js<|sr<|ec r<|nt r<|sk<|js<|jb<|jg<|eb r<|cu (i547 a d e g h j k l m o p q s t u v w A B C D E G H M N O P R T U V W X Y A0 B0 a0 y1.1 y1.2.2 y1.2.1 C0 d0 D0 g0 G0 h0 H0 j0 M0 N0 o0 p0 P0 q0 R0 t0 T0 u0 y2.1 y2.2.1 y2.2.2.1 U0 v0 V0 w0 W0 A1 a1 B1 y2.2.2.2.1 y2.2.2.2.2.1 y2.2.2.2.2.2 C1 d1 D1 g1) r<|ln<|kb ?_
 refine kt<|jg<|ea r<|ib (I 350) r<|ea r<|kr<|ju<|js<|sr<|ec r<|nf r<|jx<|ke<|ke<|kh<|kt ?_
 refine sr<|ec r<|fa 12 r<|so r r<|nr<|an r<|jr ?_
 exact K_rets r (.tmp r (.nil)) (y1.1, y1.2.2, y1.2.1, y2.1, y2.2.1, y2.2.2.1, y2.2.2.2.1, y2.2.2.2.2.1, y2.2.2.2.2.2, y3.1, y3.2.1, y3.2.2.1, y3.2.2.2.1, y3.2.2.2.2.1, y3.2.2.2.2.2) trivial r Ent.take
theorem i549 (a c d e g h j k l m o p q s t u v w A B C D E G H M N O P R T U V W X Y A0 a0 B0 C0 d0 D0 g0 G0 h0 H0 j0 M0 N0 o0 p0 P0 q0 R0 t0 T0 u0 U0 v0 V0 w0 W0 A1 a1 B1 C1 d1 D1 g1 G1 h1 H1 j1 M1 N1 o1 p1 P1 q1 R1 t1 T1 u1 U1 v1 V1 w1 W1 A2 a2 B2 C2 : Nat) : FSpec Tryz.prog 63 #[Pt a 0, I 300, I 1] ((sep (c13 a c d e g h j k l m o p q s t u) (sep (c17 m o p v w A) (sep (c45 v c d e g h j k l B C D E) (sep (c71 B c d e g h j k l G H M N O P) (sep (c4 H M N) (sep (c0 G R) (sep (c46 R T U V W X) (sep (c48 W Y A0 a0) (sep (c53 X) (sep (c42 O) (sep (c26 Y A0 a0) (sep (c3 P) (sep (c44 w c d e g h j k l B0 C0 d0 D0) (sep (c69 B0 c d e g h j k l g0 G0 h0) (sep (c15 G0) (sep (c117 A c d e g h j k l H0 j0 M0 N0) (sep (c70 H0 c d e g h j k l o0 p0 P0) (sep (c15 p0) (sep (c91 q q0 R0 t0 T0 u0) (sep (c6 q0 R0 t0 U0 v0 V0) (sep (c11 U0) (sep (c11 v0) (sep (c11 V0) (sep (c92 s w0 W0 A1 a1 B1) (sep (c6 w0 W0 A1 C1 d1 D1) (sep (c11 C1) (sep (c11 d1) (sep (c11 D1) (sep (c3 u) (sep (mapq t [.int .i64, .int .i64, .int .i64] (fun _ => none)) (sep (c0 T0 g1) (sep (c41 g1 G1 h1 H1 j1) (sep (c33 j1) (sep (c3 u0) (sep (c0 a1 M1) (sep (c41 M1 N1 o1 p1 P1) (sep (c33 P1) (sep (c3 B1) (sep (c14 G1 h1 H1) (sep (c14 N1 o1 p1) (sep (c102 C0 c d e g h j k l q1 R1 t1) (sep (c0 q1 T1) (sep (c12 T1 u1 U1 v1 V1 w1 W1) (sep (c25 V1) (sep (c54 W1) (sep (c34 R1 A2) (sep (c2 j k l) (sep (c3 t1) (sep (c19 d0 a2) (sep (c35 a2 B2 C2) (sep (c94 B2) (sep (c25 w1) (c1 c)))))))))))))))))))))))))))))))))))))))))))))))))))))) (fun _ : Nat × Nat × Nat × Nat × Nat × Nat × Nat × Nat × Nat × Nat × Nat × Nat × Nat × Nat × Nat => True) (fun y => .tuple #[Pt w 0, I 0]) (fun y => (sep (c180 a c d e g h j k l m o p q s t u) (sep (c17 m o p v w A) (sep (c153 v c d e g h j k l B C D E) (sep (c99 B c d e g h j k l G H M N O P) (sep (c4 H M N) (sep (c0 G R) (sep (c10 R T U V W X) (sep (c9 W Y a0 A0) (sep (c104 X) (sep (c114 O y.1 y.2.1 y.2.2.1) (sep (c26 Y A0 a0) (sep (c119 P) (sep (c43 w c d e g h j k l B0 C0 d0 D0) (sep (c100 B0 c d e g h j k l g0 G0 h0) (sep (c51 G0) (sep (c154 A c d e g h j k l H0 j0 M0 N0) (sep (c101 H0 c d e g h j k l o0 p0 P0) (sep (c51 p0) (sep (c155 q q0 R0 t0 T0 y.2.2.2.1 y.2.2.2.2.1 y.2.2.2.2.2.1 u0) (sep (c6 q0 R0 t0 U0 v0 V0) (sep (c36 U0) (sep (c133 v0) (sep (c36 V0) (sep (c156 s w0 W0 A1 a1 y.2.2.2.2.2.2.1 y.2.2.2.2.2.2.2.1 y.2.2.2.2.2.2.2.2.1 B1) (sep (c6 w0 W0 A1 C1 d1 D1) (sep (c36 C1) (sep (c134 d1) (sep (c36 D1) (sep (c158 u) (sep (mapq t [.int .i64, .int .i64, .int .i64] (fun _ => none)) (sep (c0 T0 g1) (sep (c20 g1 G1 h1 H1 j1) (sep (c49 j1) (sep (c23 u0) (sep (c0 a1 M1) (sep (c20 M1 N1 o1 p1 P1) (sep (c49 P1) (sep (c23 B1) (sep (c14 G1 h1 H1) (sep (c14 N1 o1 p1) (sep (c21 C0 c d e g h j k l q1 R1 t1) (sep (c0 q1 T1) (sep (c12 T1 u1 U1 v1 V1 w1 W1) (sep (c50 V1) (sep (c110 W1 y.2.2.2.2.2.2.2.2.2.1 y.2.2.2.2.2.2.2.2.2.2.1 y.2.2.2.2.2.2.2.2.2.2.2.1) (sep (c98 R1 A2) (sep (c2 j k l) (sep (c149 t1) (sep (c19 d0 a2) (sep (c35 a2 B2 C2) (sep (c109 B2 y.2.2.2.2.2.2.2.2.2.2.2.2.1 y.2.2.2.2.2.2.2.2.2.2.2.2.2.1 y.2.2.2.2.2.2.2.2.2.2.2.2.2.2) (sep (c50 w1) (sep (c1 c) (sep (c24 y.1 y.2.2.1 y.2.1) (sep (c56 y.2.2.2.1 y.2.2.2.2.2.1 y.2.2.2.2.1 g1) (sep (c57 y.2.2.2.2.2.2.1 y.2.2.2.2.2.2.2.2.1 y.2.2.2.2.2.2.2.1 M1) (sep (c111 y.2.2.2.2.2.2.2.2.2.1 y.2.2.2.2.2.2.2.2.2.2.1 y.2.2.2.2.2.2.2.2.2.2.2.1) (c66 y.2.2.2.2.2.2.2.2.2.2.2.2.1 y.2.2.2.2.2.2.2.2.2.2.2.2.2.1 y.2.2.2.2.2.2.2.2.2.2.2.2.2.2))))))))))))))))))))))))))))))))))))))))))))))))))))))))))) := by
 refine en Tryz.func63 r fun σ F=>sb r<|nj<|sb r<|cy (i548 a c d e g h j k l m o p q s t u v w A B C D E G H M N O P R T U V W X Y A0 a0 B0 C0 d0 D0 g0 G0 h0 H0 j0 M0 N0 o0 p0 P0 q0 R0 t0 T0 u0 U0 v0 V0 w0 W0 A1 a1 B1 C1 d1 D1 g1 G1 h1 H1 j1 M1 N1 o1 p1 P1 q1 R1 t1 T1 u1 U1 v1 V1 w1 W1 A2 a2 B2 C2) r fun y1=>an r<|sb r<|nf r<|sk<|js<|sr<|ec r<|go r<|ea r<|go r<|ea r ?_
 refine go r<|ea r<|go r<|fa 0 r<|go r<|fa 1 r<|go r<|ld r r<|go r<|ll r<|go r<|bf r<|sk<|js<|J_quiet Tryz.mixed (by kernel_rfl)<|qb r ?_
 refine qf 6 r<|ql r r<|qb r<|qf 0 r<|qf 1 r<|ql r r<|qa r<|qv (opv_ix 1 r r r r) r<|ql r r<|qv (opv_ix (o + 1) r r r r) r<|qv (opv_ldO 1 r r r) r<|qb r<|qn<|kt<|jr ?_
 exact K_rets r (.tmp r (.tmp r (.nil))) (y1.1, y1.2.1, y1.2.2.1, y1.2.2.2.1, y1.2.2.2.2.1, y1.2.2.2.2.2.1, y1.2.2.2.2.2.2.1, y1.2.2.2.2.2.2.2.1, y1.2.2.2.2.2.2.2.2.1, y1.2.2.2.2.2.2.2.2.2.1, y1.2.2.2.2.2.2.2.2.2.2.1, y1.2.2.2.2.2.2.2.2.2.2.2.1, y1.2.2.2.2.2.2.2.2.2.2.2.2.1, y1.2.2.2.2.2.2.2.2.2.2.2.2.2.1, y1.2.2.2.2.2.2.2.2.2.2.2.2.2.2) trivial r Ent.take
theorem i550 (a c d e g h j k l m o p q : Nat) : Kp Tryz.prog 104 #[Pt a 0, I 300] (c43 a c d e g h j k l m o p q) (I 0) := by
 refine en Tryz.func104 r fun σ F=>san r<|js<|sr<|ec r<|lf 11 r r<|an r<|cf r<|sk<|sr<|ec r<|fa 11 r<|so r r<|nr<|an r<|jr ?_
 exact r1 r Ent.take
theorem i551 (a c d e g h j k l m o p q : Nat) : Kp Tryz.prog 143 #[Pt a 0, I 0] ((sep (c43 a c d e g h j k l m o p q) (c47 q))) (Ff) := by
 refine en Tryz.func143 r fun σ F=>san r<|sb r<|lf 10 r r<|ea r<|lv (opv_lookC (v := .tuple #[I 0, Ff]) r r r) r<|ed r<|an r<|sb r<|nk<|jr<|r1 r Ent.take
theorem i552 (a c d e g h j k l m o p q : Nat) : Kp Tryz.prog 143 #[Pt a 0, I 1] ((sep (c43 a c d e g h j k l m o p q) (c47 q))) (Tt) := by
 refine en Tryz.func143 r fun σ F=>san r<|sb r<|lf 10 r r<|ea r<|lv (opv_lookC (v := .tuple #[I 3, Tt]) r r r) r<|ed r<|an r<|sb r<|nk<|jr<|r1 r Ent.take
theorem i553 (a d e g h j k l m o p q s : Nat) : Kp Tryz.prog 142 #[Pt a 0, I 300] ((sep (c43 a d e g h j k l m o p q s) (sep (c5 e) (c47 s)))) (.tuple #[I 1, I 1000, Tt]) := by
 refine en Tryz.func142 r fun σ F=>sr<|ec r<|nj<|sa r<|ep false r<|ea r<|go r<|ea r<|go r<|cu i506 r<|go r<|bf r<|sk<|sr<|ec r ?_
 refine fa 0 r<|lf 2 r r<|ib (I 300) r<|an r<|js<|sb r<|fa 0 r<|lf 3 r r<|ll r<|an r<|jl<|ut r<|js<|jb<|sr<|ix 0 r r ?_
 refine ls r<|al r fun b1=>so r r<|nr<|ea r<|lf 0 r r<|cu (i551 a d e g h j k l m o p q s) r<|ea r<|gs r<|gs r<|gs r<|gs r<|eb r<|gs r<|gs r<|gs r ?_
 refine gs r<|gs r<|gs r<|gs r<|an r<|cf r<|jk<|ni (I 1) r<|ut r<|js<|jb<|sr<|ix 3 r r<|ls r<|al r fun b2=>so r r<|nr ?_
 refine ea r<|lf 0 r r<|cu (i552 a d e g h j k l m o p q s) r<|ea r<|go r<|ea r<|go r<|fa 1 r<|go r<|ld r r<|go r<|ec r<|go r<|ea r<|go r<|fa 1 r ?_
 refine go r<|ld r r<|go r<|fa 2 r<|go r<|ld r r<|go r<|ib (I 1000) r<|go r<|eb r<|nt r<|js<|J_quiet Tryz.mixed (by kernel_rfl)<|qf 0 r<|ql r r<|qb r ?_
 refine qv (opv_ib (c := I 0) r r r) r<|qf 1 r<|ql r r<|qv (opv_ib (c := I 0) r r r) r<|qf 2 r<|ql r r<|qv (opv_ib (c := I 1000) r r r) r<|qb r<|qa r<|qn<|kt<|jr<|kq<|kd<|kd<|kq ?_
 refine kd ?_
 exact K_rets r (.tmp r (.tmp r (.tmp r (.nil)))) () trivial r Ent.take
end Go.Proofs.YtpkcniedaabpoaaGreat
