/- What functions of the program do at the values that a run of a whole network meets, printed by a program of this project; used by the texts that import this one. -/
import Derived.Test.YtpkcniedaabpoaaGreatM3
import Derived.Test.YtpkcniedaabpoaaGreatM8
import Derived.Test.YtpkcniedaabpoaaGreatN1
set_option linter.unusedVariables false
set_option linter.unusedSimpArgs false
namespace Go.Proofs.YtpkcniedaabpoaaGreat
open Go.SLA
set_option maxRecDepth 100000
set_option synthInstance.maxSize 200000
set_option synthInstance.maxHeartbeats 4000000
set_option maxHeartbeats 8000000
attribute [local irreducible] J L K QL Rg FSpec OpV OpX Rd Back JU m1 m2 m3 e0 e1
theorem i126 (a c d e g h j k l o : Nat) : FSpec Tryz.prog 155 #[.agg (k0 a c d e g h j k).toArray, .func (.func 158) #[] #[Pt l 0]] ((sep (c7 d e g o) (sep (cel l [I 1] 3) (cel o [I 1] 3)))) (fun _ : Nat × Nat × Nat => True) (fun y => Sk y.1 y.2.1 1 y.2.2) (fun y => (sep (c7 d e g o) (sep (cel l [I 1] 3) (sep (cel o [I 1] 3) (c4 y.1 y.2.1 y.2.2))))) := by
 refine en Tryz.func155 r fun σ F=>sr<|bx r fun b1=>an r<|san r<|js<|sr<|lf 4 r r<|ll r<|an r<|jl<|ut r<|js<|jb<|sr<|ix e r r ?_
 refine lv (opv_ldOS 0 r r) r<|al r fun b2=>so r r<|nr<|ea r<|ls r<|lx r (opx_call (first := []) (captured := [Pt l 0]) (i125 o l) r r r r) fun _ _=>nt r<|jg<|ea r<|lf 0 r r<|lx r (opx_buildSlice1 (m := 1) r r (by decide) (by decide) r) fun b3 _=>lx r (opx_apN (m := 1) (B := 8) 1 r r (Src.lit) r r r (List.all_eq_true.1 r) r r r r) fun z4 _=>ea r<|ln<|ni (I 1) r ?_
 refine uf r<|kt<|sa r<|cu (i96 z4.1 z4.2.1 z4.2.2) r<|nr<|ea r<|cu (i97 z4.1 z4.2.1 z4.2.2) r<|an r<|jr ?_
 exact K_rets r (.tmp r (.nil)) (z4.1, z4.2.1, z4.2.2) trivial r Ent.take
theorem i127 (a c d e g h j k l : Nat) : FSpec Tryz.prog 130 #[.agg (k0 a c d e g h j k).toArray, I 1] ((sep (c7 d e g l) (cel l [I 1] 3))) (fun _ : Nat × Nat × Nat => True) (fun y => Sk y.1 y.2.1 1 y.2.2) (fun y => (sep (c7 d e g l) (sep (cel l [I 1] 3) (c4 y.1 y.2.1 y.2.2)))) := by
 refine en Tryz.func130 r fun σ F=>sr<|bx r fun b1=>bx r fun b2=>an r<|sr<|ls r<|lv (opv_makeFunc r r) r<|cy (i126 a c d e g h j k b2 l) r fun y3=>an r<|jr ?_
 exact K_rets r (.tmp r (.nil)) (y3.1, y3.2.1, y3.2.2) trivial r Ent.take
theorem i128 : FSpec Tryz.prog 131 #[] (emp) (fun _ : Nat => True) (fun y => Pt y 0) (fun y => cel y [Ff, I 0, I 0, Ff, I 0, I 0] 332) := by
 refine en Tryz.func131 r fun σ F=>J_emp<|san r<|sr<|lv (opv_build r) r<|bx r fun b1=>an r<|jr ?_
 exact K_rets r (.tmp r (.nil)) b1 trivial r Ent.take
theorem i129 : FSpec Tryz.prog 132 #[I 60000] (emp) (fun _ : Nat => True) (fun y => .tuple #[Pt y 0, I 0]) (fun y => cel y [Ns, I 60000, I 0, I 0, I 0, I 0] 335) := by
 refine en Tryz.func132 r fun σ F=>J_emp<|sb r<|nj<|sr<|ec r<|go r<|ea r<|go r<|bf r<|sk<|sa r<|lv (opv_build r) r<|bx r fun b1=>eb r<|nk ?_
 refine jr ?_
 exact K_rets r (.tmp r (.tmp r (.nil))) b1 trivial r Ent.take
theorem i130 (a c d e g h j k l : Nat) : FSpec Tryz.prog 97 #[.agg (k0 a c d e g h j k).toArray, I 1] ((sep (c1 a) (sep (c5 c) (sep (c7 d e g l) (sep (cel l [I 1] 3) (c2 h j k)))))) (fun _ : Nat × Nat × Nat × Nat × Nat × Nat × Nat × Nat × Nat × Nat × Nat × Nat => True) (fun y => .tuple #[Pt y.1 0, I 0]) (fun y => (sep (c1 a) (sep (c5 c) (sep (c7 d e g l) (sep (cel l [I 1] 3) (sep (c2 h j k) (sep (mapq y.2.1 [.int .u8, .int .u8, .int .u8, .int .u8, .int .u8, .int .u8, .int .u8, .int .u8, .int .i64, .int .i64] (fun _ => none)) (sep (c34 y.2.2.1 y.2.1) (sep (c0 y.2.2.2.1 y.2.2.2.2.1) (sep (c3 y.2.2.2.2.2.1) (sep (c102 y.1 a c d e g h j k y.2.2.2.1 y.2.2.1 y.2.2.2.2.2.1) (sep (c14 y.2.2.2.2.2.2.1 y.2.2.2.2.2.2.2.1 y.2.2.2.2.2.2.2.2.1) (sep (c12 y.2.2.2.2.1 y.2.2.2.2.2.2.1 y.2.2.2.2.2.2.2.1 y.2.2.2.2.2.2.2.2.1 y.2.2.2.2.2.2.2.2.2.1 y.2.2.2.2.2.2.2.2.2.2.1 y.2.2.2.2.2.2.2.2.2.2.2) (sep (c25 y.2.2.2.2.2.2.2.2.2.1) (sep (c25 y.2.2.2.2.2.2.2.2.2.2.1) (c54 y.2.2.2.2.2.2.2.2.2.2.2)))))))))))))))) := by
 refine en Tryz.func97 r fun σ F=>sr<|bx r fun b1=>eb r<|nj<|sr<|ls r<|cu (i78 a c d e g h j k l) r<|ec r<|al r fun b2=>so r r<|an r<|sb r<|nf r<|sk<|js ?_
 refine sr<|ec r<|go r<|ea r<|go r<|fa 0 r<|go r<|ld r r<|go r<|bf r<|sk<|sr<|cy i106 r fun y3=>ed r<|an r<|js ?_
 refine sb r<|nf r<|sk<|sr<|ls r<|ea r<|lx r (opx_makeC r) fun r4 _=>ea r<|lx r (opx_makeC r) fun r5 _=>lv (opv_build r) r<|bx r fun b6=>an r<|js<|sr<|ls r<|ea r ?_
 refine cy (i127 a c d e g h j k l) r fun y7=>ll r<|an r<|jl<|ut r<|js<|jb<|sr<|ix y7.2.1 r r<|lv (opv_ldO 0 r r r) r<|an r<|sr<|ls r<|ea r<|cy (i101 a c d e g h j k l) r fun y8=>ec r ?_
 refine al r fun b9=>so r r<|an r<|sr<|ls r<|lv (opv_build r) r<|bx r fun b10=>an r<|js<|san r<|jl<|ut r<|js<|jb<|sb r<|nk ?_
 refine J_steps (emp) (emp) [] Tryz.mixed<|pe 0 r r<|pe 1 r r<|pe 3 r r<|pf 4 8 r r<|pn 2 r (opx_call0 (i128) r r r) fun y12 _=>ps 5 r (opv_ixA 8 r r r r) ?_
 refine pn 6 r (opx_store r r r (List.all_eq_true.1 r)) fun _ _=>dn<|ni (I 1) r<|ut r<|js<|jb<|sb r<|nk<|J_steps (emp) (emp) [] Tryz.mixed<|pe 0 r r<|pe 1 r r<|pe 3 r r<|pf 4 8 r r<|pn 2 r (opx_call0 (i128) r r r) fun y14 _=>ps 5 r (opv_ixA 9 r r r r) ?_
 refine pn 6 r (opx_store r r r (List.all_eq_true.1 r)) fun _ _=>dn<|ni (I 2) r<|uf r<|kt<|js<|sa r<|lf 6 r r<|cy i129 r fun y15=>ed r<|fa 10 r<|so r r<|an r<|sb r<|nf r<|sk ?_
 refine jg<|eb r<|lf 7 r r<|eb r<|lx r (opx_putC r r r r) fun _ _=>ln<|ni (I 1) r<|uf r<|kt<|sr<|ec r<|nk<|jr ?_
 exact K_rets r (.tmp r (.tmp r (.nil))) (b6, y3.2, y3.1, r4, b10, r5, y8.1, y8.2.1, y8.2.2, y12, y14, y15) trivial r Ent.take
theorem i131 : FSpec Tryz.prog 133 #[.agg k6.toArray] (emp) (fun _ : Nat => True) (fun y => .iface 339 (Pt y 0)) (fun y => cel y [Ns, I 64, Ff] 341) := by
 refine en Tryz.func133 r fun σ F=>J_emp<|sr<|bx r fun b1=>an r<|js<|sr<|lf 3 r r<|an r<|cf r<|sk<|sr<|lf 9 r r<|lv (opv_build r) r<|bx r fun b2=>lv (opv_makeIface r) r ?_
 refine an r<|jr ?_
 exact K_rets r (.tmp r (.nil)) b2 trivial r Ent.take
theorem i132 : FSpec Tryz.prog 133 #[.agg k10.toArray] (emp) (fun _ : Nat => True) (fun y => .iface 336 (Pt y 0)) (fun y => cel y [Z, I 0, Ff] 338) := by
 refine en Tryz.func133 r fun σ F=>J_emp<|sr<|bx r fun b1=>an r<|js<|sr<|lf 3 r r<|an r<|ct r<|sr<|lv (opv_build r) r<|bx r fun b2=>lv (opv_makeIface r) r<|an r<|jr ?_
 refine kd ?_
 exact K_rets r (.tmp r (.nil)) b2 trivial r Ent.take
theorem i133 (a c d e g h j k l : Nat) : FSpec Tryz.prog 98 #[.agg (k0 a c d e g h j k).toArray, I 1] ((sep (c1 a) (sep (c5 c) (sep (c7 d e g l) (sep (cel l [I 1] 3) (c2 h j k)))))) (fun _ : Nat × Nat × Nat × Nat => True) (fun y => .tuple #[Pt y.1 0, I 0]) (fun y => (sep (c1 a) (sep (c5 c) (sep (c7 d e g l) (sep (cel l [I 1] 3) (sep (c2 h j k) (sep (c35 y.2.1 y.2.2.1 y.2.2.2) (sep (c19 y.1 y.2.1) (sep (c94 y.2.2.1) (c174 y.2.2.2)))))))))) := by
 refine en Tryz.func98 r fun σ F=>sr<|bx r fun b1=>eb r<|nj<|sr<|ls r<|cu (i78 a c d e g h j k l) r<|ec r<|al r fun b2=>so r r<|an r<|sb r<|nf r<|sk<|js ?_
 refine sr<|ec r<|go r<|ea r<|go r<|fa 0 r<|go r<|ld r r<|go r<|bf r<|sk<|sr<|lx r (opx_makeC r) fun r3 _=>lv (opv_build r) r<|bx r fun b4=>an r ?_
 refine js<|sr<|lf 5 r r<|ll r<|an r<|jl<|ut r<|js<|jb<|sr<|ix j r r<|lv (opv_ldOS 0 r r) r<|al r fun b5=>so r r<|nr<|lf 1 r r ?_
 refine ec r<|gs r<|gs r<|gs r<|an r<|cf r<|jk<|ni (I 1) r<|ut r<|js<|jb<|sr<|ix (j + 11) r r<|lv (opv_ldOS 11 r r) r<|al r fun b6=>so r r<|nr ?_
 refine lf 1 r r<|ec r<|go r<|fa 4 r<|go r<|ld r r<|go r<|eb r<|nt r<|J_steps ((sep (c19 b4 r3) (c161 b6))) (emp) [] Tryz.mixed<|pe 0 r r<|pe 1 r r<|pf 2 0 r r<|pf 4 0 r r<|pl 3 r r r<|pl 5 r r r ?_
 refine ps 6 r (opv_loadS r)<|ps 7 r (opv_loadS r)<|pn 8 r (opx_call0 (i131) r r r) fun y8 _=>ps 9 r (opv_build r)<|pn 10 r (opx_putC r r r r) fun _ _=>dn<|ni (I 2) r<|ut r<|js<|jb<|sr<|ix (j + 22) r r<|lv (opv_ldOS 22 r r) r<|al r fun b9=>so r r<|nr ?_
 refine lf 1 r r<|ec r<|gs r<|gs r<|gs r<|an r<|cf r<|jk<|ni (I 3) r<|ut r<|js<|jb<|sr<|ix (j + 33) r r<|lv (opv_ldOS 33 r r) r<|al r fun b10=>so r r ?_
 refine nr<|lf 1 r r<|ec r<|go r<|fa 4 r<|go r<|ld r r<|go r<|eb r<|nt r<|J_steps ((sep (c19 b4 r3) (c172 b10))) (emp) [] Tryz.mixed<|pe 0 r r<|pe 1 r r<|pf 2 0 r r<|pf 4 0 r r<|pl 3 r r r ?_
 refine pl 5 r r r<|ps 6 r (opv_loadS r)<|ps 7 r (opv_loadS r)<|pn 8 r (opx_call0 (i132) r r r) fun y12 _=>ps 9 r (opv_build r)<|pn 10 r (opx_putC r r r r) fun _ _=>dn<|ni (I 4) r<|uf r<|kt<|sr<|ec r<|nk<|jr ?_
 exact K_rets r (.tmp r (.tmp r (.nil))) (b4, r3, y8, y12) trivial r Ent.take
theorem i134 (a c d e g h j k l : Nat) : FSpec Tryz.prog 59 #[.agg (k0 a c d e g h j k).toArray, I 1] ((sep (c1 a) (sep (c5 c) (sep (c7 d e g l) (sep (cel l [I 1] 3) (c2 h j k)))))) (fun _ : Nat × Nat × Nat × Nat × Nat × Nat × Nat × Nat × Nat × Nat × Nat × Nat × Nat × Nat × Nat × Nat × Nat × Nat × Nat × Nat × Nat × Nat => True) (fun y => .tuple #[Pt y.1 0, I 0]) (fun y => (sep (c1 a) (sep (c5 c) (sep (c7 d e g l) (sep (cel l [I 1] 3) (sep (c2 h j k) (sep (c88 y.2.1) (sep (c136 y.1 a c d e g h j k y.2.2.1 y.2.2.2.1 y.2.2.2.2.1 y.2.1) (sep (c3 y.2.2.2.2.2.1) (sep (c15 y.2.2.2.2.2.2.1) (sep (c3 y.2.2.2.2.2.2.2.1) (sep (c69 y.2.2.1 a c d e g h j k y.2.2.2.2.2.1 y.2.2.2.2.2.2.1 y.2.2.2.2.2.2.2.1) (sep (mapq y.2.2.2.2.2.2.2.2.1 [.int .u8, .int .u8, .int .u8, .int .u8, .int .u8, .int .u8, .int .u8, .int .u8, .int .i64, .int .i64] (fun _ => none)) (sep (c34 y.2.2.2.2.2.2.2.2.2.1 y.2.2.2.2.2.2.2.2.1) (sep (c0 y.2.2.2.2.2.2.2.2.2.2.1 y.2.2.2.2.2.2.2.2.2.2.2.1) (sep (c3 y.2.2.2.2.2.2.2.2.2.2.2.2.1) (sep (c102 y.2.2.2.1 a c d e g h j k y.2.2.2.2.2.2.2.2.2.2.1 y.2.2.2.2.2.2.2.2.2.1 y.2.2.2.2.2.2.2.2.2.2.2.2.1) (sep (c14 y.2.2.2.2.2.2.2.2.2.2.2.2.2.1 y.2.2.2.2.2.2.2.2.2.2.2.2.2.2.1 y.2.2.2.2.2.2.2.2.2.2.2.2.2.2.2.1) (sep (c12 y.2.2.2.2.2.2.2.2.2.2.2.1 y.2.2.2.2.2.2.2.2.2.2.2.2.2.1 y.2.2.2.2.2.2.2.2.2.2.2.2.2.2.1 y.2.2.2.2.2.2.2.2.2.2.2.2.2.2.2.1 y.2.2.2.2.2.2.2.2.2.2.2.2.2.2.2.2.1 y.2.2.2.2.2.2.2.2.2.2.2.2.2.2.2.2.2.1 y.2.2.2.2.2.2.2.2.2.2.2.2.2.2.2.2.2.2.1) (sep (c25 y.2.2.2.2.2.2.2.2.2.2.2.2.2.2.2.2.1) (sep (c25 y.2.2.2.2.2.2.2.2.2.2.2.2.2.2.2.2.2.1) (sep (c54 y.2.2.2.2.2.2.2.2.2.2.2.2.2.2.2.2.2.2.1) (sep (c35 y.2.2.2.2.2.2.2.2.2.2.2.2.2.2.2.2.2.2.2.1 y.2.2.2.2.2.2.2.2.2.2.2.2.2.2.2.2.2.2.2.2.1 y.2.2.2.2.2.2.2.2.2.2.2.2.2.2.2.2.2.2.2.2.2) (sep (c19 y.2.2.2.2.1 y.2.2.2.2.2.2.2.2.2.2.2.2.2.2.2.2.2.2.2.1) (sep (c94 y.2.2.2.2.2.2.2.2.2.2.2.2.2.2.2.2.2.2.2.2.1) (c174 y.2.2.2.2.2.2.2.2.2.2.2.2.2.2.2.2.2.2.2.2.2)))))))))))))))))))))))))) := by
 refine en Tryz.func59 r fun σ F=>sr<|bx r fun b1=>eb r<|nr<|ls r<|ea r<|lx r (opx_makeC r) fun r2 _=>lv (opv_build r) r<|bx r fun b3=>an r<|san r<|js<|sa r<|ls r<|ea r ?_
 refine cy (i124 a c d e g h j k l) r fun y4=>ed r<|fa 7 r<|so r r<|an r<|sb r<|nf r<|sk<|js<|sa r<|ls r<|ea r<|cy (i130 a c d e g h j k l) r fun y5=>ed r<|fa 8 r<|so r r ?_
 refine an r<|sb r<|nf r<|sk<|js<|sa r<|ls r<|ea r<|cy (i133 a c d e g h j k l) r fun y6=>ed r<|fa 9 r<|so r r<|an r<|sb r<|nf r<|sk ?_
 refine js<|sr<|lf 1 r r<|ll r<|an r<|jl<|ut r<|js<|jb<|sa r<|ix 0 r r<|ld r r<|eb r<|nr<|ec r<|nf r ?_
 refine jk<|ni (I 1) r<|ut r<|js<|jb<|sa r<|ix 1 r r<|ld r r<|eb r<|nr<|ec r<|nt r<|jg<|eb r<|lf 10 r r<|ea r<|lx r (opx_putC r r r r) fun _ _=>?_
 refine ln<|ni (I 2) r<|ut r<|js<|jb<|sa r<|ix 2 r r<|ld r r<|eb r<|nr<|ec r<|nf r<|jk<|ni (I 3) r<|uf r<|kt<|sr ?_
 refine ec r<|nk<|jr ?_
 exact K_rets r (.tmp r (.tmp r (.nil))) (b3, r2, y4.1, y5.1, y6.1, y4.2.1, y4.2.2.1, y4.2.2.2, y5.2.1, y5.2.2.1, y5.2.2.2.1, y5.2.2.2.2.1, y5.2.2.2.2.2.1, y5.2.2.2.2.2.2.1, y5.2.2.2.2.2.2.2.1, y5.2.2.2.2.2.2.2.2.1, y5.2.2.2.2.2.2.2.2.2.1, y5.2.2.2.2.2.2.2.2.2.2.1, y5.2.2.2.2.2.2.2.2.2.2.2, y6.2.1, y6.2.2.1, y6.2.2.2) trivial r Ent.take
theorem i135 (a c : Nat) : Kp Tryz.prog 156 #[.agg (k1 a).toArray, Pt c 0] (cel c [I 2] 3) (Ff) := by
 refine en Tryz.func156 r fun σ F=>sr<|bx r fun b1=>an r<|sr<|lf 1 r r<|ld r r<|eb r<|nk<|jr<|r1 r Ent.take
theorem i136 (a c d e g h j k l m : Nat) : Kp Tryz.prog 155 #[.agg (k0 a c d e g h j k).toArray, .func (.func 156) #[] #[Pt l 0]] ((sep (c7 d e g m) (cel l [I 2] 3))) (Ns) := by
 refine en Tryz.func155 r fun σ F=>sr<|bx r fun b1=>an r<|san r<|js<|sr<|lf 4 r r<|ll r<|an r<|jl<|ut r<|js<|jb<|sr<|ix e r r ?_
 refine lv (opv_ldOS 0 r r) r<|al r fun b2=>so r r<|nr<|ea r<|ls r<|lx r (opx_call (first := []) (captured := [Pt l 0]) (i135 m l) r r r r) fun _ _=>nf r<|jk<|ni (I 1) r<|uf r<|kt<|sa r<|cu i114 r<|nr<|ea r<|cu i115 r ?_
 refine an r<|jr<|r1 r Ent.take
theorem i137 (a c d e g h j k l : Nat) : Kp Tryz.prog 124 #[.agg (k0 a c d e g h j k).toArray, I 2] (c7 d e g l) (Ns) := by
 refine en Tryz.func124 r fun σ F=>sr<|bx r fun b1=>bx r fun b2=>an r<|sr<|ls r<|lv (opv_makeFunc r r) r<|cu (i136 a c d e g h j k b2 l) r<|an r<|jr<|r1 r Ent.take
theorem i138 (a c d e g h j k l : Nat) : FSpec Tryz.prog 96 #[.agg (k0 a c d e g h j k).toArray, I 2] ((sep (c1 a) (sep (c5 c) (sep (c7 d e g l) (sep (cel l [I 1] 3) (c2 h j k)))))) (fun _ : Nat × Nat × Nat × Nat => True) (fun y => .tuple #[Pt y.1 0, I 0]) (fun y => (sep (c1 a) (sep (c5 c) (sep (c7 d e g l) (sep (cel l [I 1] 3) (sep (c2 h j k) (sep (c3 y.2.1) (sep (c15 y.2.2.1) (sep (c3 y.2.2.2) (c70 y.1 a c d e g h j k y.2.1 y.2.2.1 y.2.2.2)))))))))) := by
 refine en Tryz.func96 r fun σ F=>sr<|bx r fun b1=>eb r<|nj<|sr<|ls r<|cu (i78 a c d e g h j k l) r<|ec r<|al r fun b2=>so r r<|an r<|sb r<|nf r<|sk<|js ?_
 refine sr<|ec r<|go r<|ea r<|go r<|fa 0 r<|go r<|ld r r<|go r<|bf r<|sk ?_
 refine J_cut (X := Nat × Nat × Nat × Nat) (fun x52 => [(0, .agg (k0 a c d e g h j k).toArray), (1, I 2), (2, Pt b1 0), (4, Np), (5, I 0), (16, .agg (k0 a c d e g h j k).toArray), (17, .tuple #[.agg [I 0, I 0].toArray, I 0]), (15, .tuple #[.agg [I 0, I 0].toArray, I 0]), (18, .agg [I 0, I 0].toArray), (19, I 0), (6, Pt b2 0), (7, I 0), (20, I 0), (21, Ff), (23, I 2), (24, Ff), (25, Ff), (26, I 2), (27, Pt b1 0), (28, I 3), (29, Ff), (30, Ff), (32, I 2), (35, I 2), (31, .agg (k0 a c d e g h j k).toArray), (34, .agg (k0 a c d e g h j k).toArray), (33, Mp x52.1), (36, Ns), (37, Pt x52.2.1 0), (38, Mp x52.2.2.1), (39, .agg [I 3, Sk a 0 3 3, I 1000, Sk c 0 3 3, Sk d e 1 g, Sk h j 4 k, I 2, Mp x52.1, Ns, Pt x52.2.1 0, I 0, I 0, Mp x52.2.2.1, I 0, Ns].toArray), (40, Pt x52.2.2.2 0), (8, Pt x52.2.2.2 0)]) (fun x52 => (sep (c40 b1 a c d e g h j k) (sep (c1 a) (sep (c5 c) (sep (cel l [I 1] 3) (sep (c2 h j k) (sep (cel b2 [I 0, I 0] 132) (sep (c3 x52.1) (sep (c7 d e g l) (sep (c15 x52.2.1) (sep (c3 x52.2.2.1) (sep (c70 x52.2.2.2 a c d e g h j k x52.1 x52.2.1 x52.2.2.1) (F))))))))))))) (fun _ => True) ?_ (fun x52 _ => ?_)
 · refine J_steps (c40 b1 a c d e g h j k) (emp) [] Tryz.mixed<|pe 1 r r<|pe 4 r r<|ps 0 r (opv_loadS r)<|ps 3 r (opv_loadS r) ?_
   refine R_a [2, 5, 7] (by kernel_rfl) rfl fun i hi => ?_
   simp only [List.mem_cons, List.not_mem_nil, or_false] at hi
   rcases hi with rfl | rfl | rfl
   · refine R_an r r (opx_makeC r) fun r11 _=>?_
     refine R_a [5, 7] (by kernel_rfl) rfl fun i hi => ?_
     simp only [List.mem_cons, List.not_mem_nil, or_false] at hi
     rcases hi with rfl | rfl
     · refine R_an r r (opx_call0 (i137 a c d e g h j k l) r r r) fun _ _=>?_
       refine R_a [6, 7] (by kernel_rfl) rfl fun i hi => ?_
       simp only [List.mem_cons, List.not_mem_nil, or_false] at hi
       rcases hi with rfl | rfl
       · refine R_an r r (opx_call0 (i100) r r r) fun y12 _=>pn 7 r (opx_makeC r) fun r13 _=>ps 8 r (opv_build r)<|pn 9 r (opx_box r r) fun b14 _=>pe 10 r r<|dn<|kc (r11, y12, r13, b14) r Ent.take
       · refine R_an r r (opx_makeC r) fun r15 _=>pn 6 r (opx_call0 (i100) r r r) fun y16 _=>ps 8 r (opv_build r)<|pn 9 r (opx_box r r) fun b17 _=>pe 10 r r<|dn<|kc (r11, y16, r15, b17) r Ent.take
     · refine R_an r r (opx_makeC r) fun r18 _=>pn 5 r (opx_call0 (i137 a c d e g h j k l) r r r) fun _ _=>pn 6 r (opx_call0 (i100) r r r) fun y19 _=>ps 8 r (opv_build r)<|pn 9 r (opx_box r r) fun b20 _=>pe 10 r r<|dn<|kc (r11, y19, r18, b20) r Ent.take
   · refine R_an r r (opx_call0 (i137 a c d e g h j k l) r r r) fun _ _=>?_
     refine R_a [2, 6, 7] (by kernel_rfl) rfl fun i hi => ?_
     simp only [List.mem_cons, List.not_mem_nil, or_false] at hi
     rcases hi with rfl | rfl | rfl
     · refine R_an r r (opx_makeC r) fun r21 _=>?_
       refine R_a [6, 7] (by kernel_rfl) rfl fun i hi => ?_
       simp only [List.mem_cons, List.not_mem_nil, or_false] at hi
       rcases hi with rfl | rfl
       · refine R_an r r (opx_call0 (i100) r r r) fun y22 _=>pn 7 r (opx_makeC r) fun r23 _=>ps 8 r (opv_build r)<|pn 9 r (opx_box r r) fun b24 _=>pe 10 r r<|dn<|kc (r21, y22, r23, b24) r Ent.take
       · refine R_an r r (opx_makeC r) fun r25 _=>pn 6 r (opx_call0 (i100) r r r) fun y26 _=>ps 8 r (opv_build r)<|pn 9 r (opx_box r r) fun b27 _=>pe 10 r r<|dn<|kc (r21, y26, r25, b27) r Ent.take
     · refine R_an r r (opx_call0 (i100) r r r) fun y28 _=>?_
       refine R_a [2, 7] (by kernel_rfl) rfl fun i hi => ?_
       simp only [List.mem_cons, List.not_mem_nil, or_false] at hi
       rcases hi with rfl | rfl
       · refine R_an r r (opx_makeC r) fun r29 _=>pn 7 r (opx_makeC r) fun r30 _=>ps 8 r (opv_build r)<|pn 9 r (opx_box r r) fun b31 _=>pe 10 r r<|dn<|kc (r29, y28, r30, b31) r Ent.take
       · refine R_an r r (opx_makeC r) fun r32 _=>pn 2 r (opx_makeC r) fun r33 _=>ps 8 r (opv_build r)<|pn 9 r (opx_box r r) fun b34 _=>pe 10 r r<|dn<|kc (r33, y28, r32, b34) r Ent.take
     · refine R_an r r (opx_makeC r) fun r35 _=>?_
       refine R_a [2, 6] (by kernel_rfl) rfl fun i hi => ?_
       simp only [List.mem_cons, List.not_mem_nil, or_false] at hi
       rcases hi with rfl | rfl
       · refine R_an r r (opx_makeC r) fun r36 _=>pn 6 r (opx_call0 (i100) r r r) fun y37 _=>ps 8 r (opv_build r)<|pn 9 r (opx_box r r) fun b38 _=>pe 10 r r<|dn<|kc (r36, y37, r35, b38) r Ent.take
       · refine R_an r r (opx_call0 (i100) r r r) fun y39 _=>pn 2 r (opx_makeC r) fun r40 _=>ps 8 r (opv_build r)<|pn 9 r (opx_box r r) fun b41 _=>pe 10 r r<|dn<|kc (r40, y39, r35, b41) r Ent.take
   · refine R_an r r (opx_makeC r) fun r42 _=>?_
     refine R_a [2, 5] (by kernel_rfl) rfl fun i hi => ?_
     simp only [List.mem_cons, List.not_mem_nil, or_false] at hi
     rcases hi with rfl | rfl
     · refine R_an r r (opx_makeC r) fun r43 _=>pn 5 r (opx_call0 (i137 a c d e g h j k l) r r r) fun _ _=>pn 6 r (opx_call0 (i100) r r r) fun y44 _=>ps 8 r (opv_build r)<|pn 9 r (opx_box r r) fun b45 _=>pe 10 r r<|dn<|kc (r43, y44, r42, b45) r Ent.take
     · refine R_an r r (opx_call0 (i137 a c d e g h j k l) r r r) fun _ _=>?_
       refine R_a [2, 6] (by kernel_rfl) rfl fun i hi => ?_
       simp only [List.mem_cons, List.not_mem_nil, or_false] at hi
       rcases hi with rfl | rfl
       · refine R_an r r (opx_makeC r) fun r46 _=>pn 6 r (opx_call0 (i100) r r r) fun y47 _=>ps 8 r (opv_build r)<|pn 9 r (opx_box r r) fun b48 _=>pe 10 r r<|dn<|kc (r46, y47, r42, b48) r Ent.take
       · refine R_an r r (opx_call0 (i100) r r r) fun y49 _=>pn 2 r (opx_makeC r) fun r50 _=>ps 8 r (opv_build r)<|pn 9 r (opx_box r r) fun b51 _=>pe 10 r r<|dn<|kc (r50, y49, r42, b51) r Ent.take
 · refine js<|sb r<|lf 8 r r<|ll r<|an r<|jl<|uf r<|kt<|sr<|ec r<|nk<|jr ?_
   exact K_rets r (.tmp r (.tmp r (.nil))) (x52.2.2.2, x52.1, x52.2.1, x52.2.2.1) trivial r Ent.take
theorem i139 (a : Nat) : Kp Tryz.prog 180 #[Sk a 0 1 1, I 2] (cel a [I 1] 3) (I (-1)) := by
 refine en Tryz.func180 r fun σ F=>san r<|js<|sa r<|ll r<|an r<|jl<|ut r<|js<|jb<|sb r<|nr<|ec r<|ix 0 r r<|ld r r<|an r ?_
 refine cf r<|jk<|ni (I 1) r<|uf r<|kt<|san r<|jr<|r1 r Ent.take
theorem i140 (a : Nat) : Kp Tryz.prog 152 #[Sk a 0 1 1, I 2] (cel a [I 1] 3) (Ff) := by
 refine en Tryz.func152 r fun σ F=>san r<|sb r<|cu (i139 a) r<|eb r<|nk<|jr<|r1 r Ent.take
theorem i141 (a c : Nat) : Kp Tryz.prog 158 #[.agg (k1 a).toArray, Pt c 0] ((sep (cel c [I 2] 3) (cel a [I 1] 3))) (Ff) := by
 refine en Tryz.func158 r fun σ F=>sr<|bx r fun b1=>an r<|sr<|lf 7 r r<|ld r r<|cu (i140 a) r<|an r<|jr<|r1 r Ent.take
theorem i142 (a c d e g h j k l m : Nat) : Kp Tryz.prog 155 #[.agg (k0 a c d e g h j k).toArray, .func (.func 158) #[] #[Pt l 0]] ((sep (c7 d e g m) (sep (cel l [I 2] 3) (cel m [I 1] 3)))) (Ns) := by
 refine en Tryz.func155 r fun σ F=>sr<|bx r fun b1=>an r<|san r<|js<|sr<|lf 4 r r<|ll r<|an r<|jl<|ut r<|js<|jb<|sr<|ix e r r ?_
 refine lv (opv_ldOS 0 r r) r<|al r fun b2=>so r r<|nr<|ea r<|ls r<|lx r (opx_call (first := []) (captured := [Pt l 0]) (i141 m l) r r r r) fun _ _=>nf r<|jk<|ni (I 1) r<|uf r<|kt<|sa r<|cu i114 r<|nr<|ea r<|cu i115 r ?_
 refine an r<|jr<|r1 r Ent.take
theorem i143 (a c d e g h j k l : Nat) : Kp Tryz.prog 130 #[.agg (k0 a c d e g h j k).toArray, I 2] ((sep (c7 d e g l) (cel l [I 1] 3))) (Ns) := by
 refine en Tryz.func130 r fun σ F=>sr<|bx r fun b1=>bx r fun b2=>an r<|sr<|ls r<|lv (opv_makeFunc r r) r<|cu (i142 a c d e g h j k b2 l) r<|an r<|jr<|r1 r Ent.take
theorem i144 (a c d e g h j k l : Nat) : FSpec Tryz.prog 97 #[.agg (k0 a c d e g h j k).toArray, I 2] ((sep (c1 a) (sep (c5 c) (sep (c7 d e g l) (sep (cel l [I 1] 3) (c2 h j k)))))) (fun _ : Nat × Nat × Nat × Nat × Nat => True) (fun y => .tuple #[Pt y.1 0, I 0]) (fun y => (sep (c1 a) (sep (c5 c) (sep (c7 d e g l) (sep (cel l [I 1] 3) (sep (c2 h j k) (sep (mapq y.2.1 [.int .u8, .int .u8, .int .u8, .int .u8, .int .u8, .int .u8, .int .u8, .int .u8, .int .i64, .int .i64] (fun _ => none)) (sep (c34 y.2.2.1 y.2.1) (sep (c3 y.2.2.2.1) (sep (c3 y.2.2.2.2) (c175 y.1 a c d e g h j k y.2.2.2.1 y.2.2.1 y.2.2.2.2))))))))))) := by
 refine en Tryz.func97 r fun σ F=>sr<|bx r fun b1=>eb r<|nj<|sr<|ls r<|cu (i78 a c d e g h j k l) r<|ec r<|al r fun b2=>so r r<|an r<|sb r<|nf r<|sk<|js ?_
 refine sr<|ec r<|go r<|ea r<|go r<|fa 0 r<|go r<|ld r r<|go r<|bf r<|sk<|sr<|cy i106 r fun y3=>ed r<|an r<|js ?_
 refine sb r<|nf r<|sk<|sr<|ls r<|ea r<|lx r (opx_makeC r) fun r4 _=>ea r<|lx r (opx_makeC r) fun r5 _=>lv (opv_build r) r<|bx r fun b6=>an r<|js<|sr<|ls r<|ea r ?_
 refine cu (i143 a c d e g h j k l) r<|ll r<|an r<|jl<|uf r<|kt<|sr<|ec r<|nk<|jr ?_
 exact K_rets r (.tmp r (.tmp r (.nil))) (b6, y3.2, y3.1, r4, r5) trivial r Ent.take
theorem i145 (a c d e g h j k l : Nat) : FSpec Tryz.prog 98 #[.agg (k0 a c d e g h j k).toArray, I 2] ((sep (c1 a) (sep (c5 c) (sep (c7 d e g l) (sep (cel l [I 1] 3) (c2 h j k)))))) (fun _ : Nat × Nat => True) (fun y => .tuple #[Pt y.1 0, I 0]) (fun y => (sep (c1 a) (sep (c5 c) (sep (c7 d e g l) (sep (cel l [I 1] 3) (sep (c2 h j k) (sep (c3 y.2) (c19 y.1 y.2)))))))) := by
 refine en Tryz.func98 r fun σ F=>sr<|bx r fun b1=>eb r<|nj<|sr<|ls r<|cu (i78 a c d e g h j k l) r<|ec r<|al r fun b2=>so r r<|an r<|sb r<|nf r<|sk<|js ?_
 refine sr<|ec r<|go r<|ea r<|go r<|fa 0 r<|go r<|ld r r<|go r<|bf r<|sk<|sr<|lx r (opx_makeC r) fun r3 _=>lv (opv_build r) r<|bx r fun b4=>an r ?_
 refine js<|sr<|lf 5 r r<|ll r<|an r<|jl<|ut r<|js<|jb<|sr<|ix j r r<|lv (opv_ldOS 0 r r) r<|al r fun b5=>so r r<|nr<|lf 1 r r ?_
 refine ec r<|gs r<|gs r<|gs r<|an r<|cf r<|jk<|ni (I 1) r<|ut r<|js<|jb<|sr<|ix (j + 11) r r<|lv (opv_ldOS 11 r r) r<|al r fun b6=>so r r<|nr ?_
 refine lf 1 r r<|ec r<|gs r<|gs r<|gs r<|an r<|cf r<|jk<|ni (I 2) r<|ut r<|js<|jb<|sr<|ix (j + 22) r r<|lv (opv_ldOS 22 r r) r<|al r fun b7=>so r r ?_
 refine nr<|lf 1 r r<|ec r<|gs r<|gs r<|gs r<|an r<|cf r<|jk<|ni (I 3) r<|ut r<|js<|jb<|sr<|ix (j + 33) r r<|lv (opv_ldOS 33 r r) r<|al r fun b8=>?_
 refine so r r<|nr<|lf 1 r r<|ec r<|gs r<|gs r<|gs r<|an r<|cf r<|jk<|ni (I 4) r<|uf r<|kt<|sr<|ec r<|nk<|jr ?_
 exact K_rets r (.tmp r (.tmp r (.nil))) (b4, r3) trivial r Ent.take
theorem i146 (a c d e g h j k l : Nat) : FSpec Tryz.prog 59 #[.agg (k0 a c d e g h j k).toArray, I 2] ((sep (c1 a) (sep (c5 c) (sep (c7 d e g l) (sep (cel l [I 1] 3) (c2 h j k)))))) (fun _ : Nat × Nat × Nat × Nat × Nat × Nat × Nat × Nat × Nat × Nat × Nat × Nat × Nat => True) (fun y => .tuple #[Pt y.1 0, I 0]) (fun y => (sep (c1 a) (sep (c5 c) (sep (c7 d e g l) (sep (cel l [I 1] 3) (sep (c2 h j k) (sep (c183 y.2.1) (sep (c117 y.1 a c d e g h j k y.2.2.1 y.2.2.2.1 y.2.2.2.2.1 y.2.1) (sep (c3 y.2.2.2.2.2.1) (sep (c15 y.2.2.2.2.2.2.1) (sep (c3 y.2.2.2.2.2.2.2.1) (sep (c70 y.2.2.1 a c d e g h j k y.2.2.2.2.2.1 y.2.2.2.2.2.2.1 y.2.2.2.2.2.2.2.1) (sep (mapq y.2.2.2.2.2.2.2.2.1 [.int .u8, .int .u8, .int .u8, .int .u8, .int .u8, .int .u8, .int .u8, .int .u8, .int .i64, .int .i64] (fun _ => none)) (sep (c34 y.2.2.2.2.2.2.2.2.2.1 y.2.2.2.2.2.2.2.2.1) (sep (c3 y.2.2.2.2.2.2.2.2.2.2.1) (sep (c3 y.2.2.2.2.2.2.2.2.2.2.2.1) (sep (c175 y.2.2.2.1 a c d e g h j k y.2.2.2.2.2.2.2.2.2.2.1 y.2.2.2.2.2.2.2.2.2.1 y.2.2.2.2.2.2.2.2.2.2.2.1) (sep (c3 y.2.2.2.2.2.2.2.2.2.2.2.2) (c19 y.2.2.2.2.1 y.2.2.2.2.2.2.2.2.2.2.2.2))))))))))))))))))) := by
 refine en Tryz.func59 r fun σ F=>sr<|bx r fun b1=>eb r<|nr<|ls r<|ea r<|lx r (opx_makeC r) fun r2 _=>lv (opv_build r) r<|bx r fun b3=>an r<|san r<|js<|sa r<|ls r<|ea r ?_
 refine cy (i138 a c d e g h j k l) r fun y4=>ed r<|fa 7 r<|so r r<|an r<|sb r<|nf r<|sk<|js<|sa r<|ls r<|ea r<|cy (i144 a c d e g h j k l) r fun y5=>ed r<|fa 8 r<|so r r ?_
 refine an r<|sb r<|nf r<|sk<|js<|sa r<|ls r<|ea r<|cy (i145 a c d e g h j k l) r fun y6=>ed r<|fa 9 r<|so r r<|an r<|sb r<|nf r<|sk ?_
 refine js<|sr<|lf 1 r r<|ll r<|an r<|jl<|ut r<|js<|jb<|sa r<|ix 0 r r<|ld r r<|eb r<|nr<|ec r<|nf r ?_
 refine jk<|ni (I 1) r<|ut r<|js<|jb<|sa r<|ix 1 r r<|ld r r<|eb r<|nr<|ec r<|nf r<|jk<|ni (I 2) r<|ut r<|js<|jb<|sa r ?_
 refine ix 2 r r<|ld r r<|eb r<|nr<|ec r<|nt r<|jg<|eb r<|lf 10 r r<|ea r<|lx r (opx_putC r r r r) fun _ _=>ln<|ni (I 3) r<|uf r<|kt<|sr ?_
 refine ec r<|nk<|jr ?_
 exact K_rets r (.tmp r (.tmp r (.nil))) (b3, r2, y4.1, y5.1, y6.1, y4.2.1, y4.2.2.1, y4.2.2.2, y5.2.1, y5.2.2.1, y5.2.2.2.1, y5.2.2.2.2, y6.2) trivial r Ent.take
theorem i147 (a c d e g h j k l : Nat) : FSpec Tryz.prog 17 #[.agg (k0 a c d e g h j k).toArray] ((sep (c1 a) (sep (c5 c) (sep (c7 d e g l) (sep (cel l [I 1] 3) (c2 h j k)))))) (fun _ : Nat × Nat × Nat × Nat × Nat × Nat × Nat × Nat × Nat × Nat × Nat × Nat × Nat × Nat × Nat × Nat × Nat × Nat × Nat × Nat × Nat × Nat × Nat × Nat × Nat × Nat × Nat × Nat × Nat × Nat × Nat × Nat × Nat × Nat × Nat × Nat × Nat × Nat × Nat × Nat × Nat × Nat × Nat × Nat × Nat × Nat × Nat × Nat × Nat × Nat × Nat × Nat × Nat × Nat × Nat × Nat × Nat × Nat × Nat × Nat × Nat × Nat × Nat × Nat × Nat × Nat × Nat × Nat × Nat × Nat × Nat × Nat × Nat × Nat × Nat × Nat × Nat × Nat × Nat × Nat × Nat × Nat × Nat × Nat × Nat × Nat × Nat × Nat × Nat × Nat × Nat => True) (fun y => .tuple #[Pt y.1 0, I 0]) (fun y => (sep (c1 a) (sep (c5 c) (sep (c7 d e g l) (sep (cel l [I 1] 3) (sep (c2 h j k) (sep (mapq y.2.1 [.int .i64, .int .i64, .int .i64] (fun _ => none)) (sep (c3 y.2.2.1) (sep (c157 y.1 a c d e g h j k y.2.2.2.1 y.2.2.2.2.1 y.2.2.2.2.2.1 y.2.2.2.2.2.2.1 y.2.2.2.2.2.2.2.1 y.2.1 y.2.2.1) (sep (c0 y.2.2.2.2.2.2.2.2.1 y.2.2.2.2.2.2.2.2.2.1) (sep (c3 y.2.2.2.2.2.2.2.2.2.2.1) (sep (c91 y.2.2.2.2.2.2.1 y.2.2.2.2.2.2.2.2.2.2.2.1 y.2.2.2.2.2.2.2.2.2.2.2.2.1 y.2.2.2.2.2.2.2.2.2.2.2.2.2.1 y.2.2.2.2.2.2.2.2.1 y.2.2.2.2.2.2.2.2.2.2.1) (sep (c11 y.2.2.2.2.2.2.2.2.2.2.2.2.2.2.1) (sep (c11 y.2.2.2.2.2.2.2.2.2.2.2.2.2.2.2.1) (sep (c11 y.2.2.2.2.2.2.2.2.2.2.2.2.2.2.2.2.1) (sep (c6 y.2.2.2.2.2.2.2.2.2.2.2.1 y.2.2.2.2.2.2.2.2.2.2.2.2.1 y.2.2.2.2.2.2.2.2.2.2.2.2.2.1 y.2.2.2.2.2.2.2.2.2.2.2.2.2.2.1 y.2.2.2.2.2.2.2.2.2.2.2.2.2.2.2.1 y.2.2.2.2.2.2.2.2.2.2.2.2.2.2.2.2.1) (sep (c14 y.2.2.2.2.2.2.2.2.2.2.2.2.2.2.2.2.2.1 y.2.2.2.2.2.2.2.2.2.2.2.2.2.2.2.2.2.2.1 y.2.2.2.2.2.2.2.2.2.2.2.2.2.2.2.2.2.2.2.1) (sep (c33 y.2.2.2.2.2.2.2.2.2.2.2.2.2.2.2.2.2.2.2.2.1) (sep (c41 y.2.2.2.2.2.2.2.2.2.1 y.2.2.2.2.2.2.2.2.2.2.2.2.2.2.2.2.2.1 y.2.2.2.2.2.2.2.2.2.2.2.2.2.2.2.2.2.2.1 y.2.2.2.2.2.2.2.2.2.2.2.2.2.2.2.2.2.2.2.1 y.2.2.2.2.2.2.2.2.2.2.2.2.2.2.2.2.2.2.2.2.1) (sep (c0 y.2.2.2.2.2.2.2.2.2.2.2.2.2.2.2.2.2.2.2.2.2.1 y.2.2.2.2.2.2.2.2.2.2.2.2.2.2.2.2.2.2.2.2.2.2.1) (sep (c3 y.2.2.2.2.2.2.2.2.2.2.2.2.2.2.2.2.2.2.2.2.2.2.2.1) (sep (c92 y.2.2.2.2.2.2.2.1 y.2.2.2.2.2.2.2.2.2.2.2.2.2.2.2.2.2.2.2.2.2.2.2.2.1 y.2.2.2.2.2.2.2.2.2.2.2.2.2.2.2.2.2.2.2.2.2.2.2.2.2.1 y.2.2.2.2.2.2.2.2.2.2.2.2.2.2.2.2.2.2.2.2.2.2.2.2.2.2.1 y.2.2.2.2.2.2.2.2.2.2.2.2.2.2.2.2.2.2.2.2.2.1 y.2.2.2.2.2.2.2.2.2.2.2.2.2.2.2.2.2.2.2.2.2.2.2.1) (sep (c11 y.2.2.2.2.2.2.2.2.2.2.2.2.2.2.2.2.2.2.2.2.2.2.2.2.2.2.2.1) (sep (c11 y.2.2.2.2.2.2.2.2.2.2.2.2.2.2.2.2.2.2.2.2.2.2.2.2.2.2.2.2.1) (sep (c11 y.2.2.2.2.2.2.2.2.2.2.2.2.2.2.2.2.2.2.2.2.2.2.2.2.2.2.2.2.2.1) (sep (c6 y.2.2.2.2.2.2.2.2.2.2.2.2.2.2.2.2.2.2.2.2.2.2.2.2.1 y.2.2.2.2.2.2.2.2.2.2.2.2.2.2.2.2.2.2.2.2.2.2.2.2.2.1 y.2.2.2.2.2.2.2.2.2.2.2.2.2.2.2.2.2.2.2.2.2.2.2.2.2.2.1 y.2.2.2.2.2.2.2.2.2.2.2.2.2.2.2.2.2.2.2.2.2.2.2.2.2.2.2.1 y.2.2.2.2.2.2.2.2.2.2.2.2.2.2.2.2.2.2.2.2.2.2.2.2.2.2.2.2.1 y.2.2.2.2.2.2.2.2.2.2.2.2.2.2.2.2.2.2.2.2.2.2.2.2.2.2.2.2.2.1) (sep (c14 y.2.2.2.2.2.2.2.2.2.2.2.2.2.2.2.2.2.2.2.2.2.2.2.2.2.2.2.2.2.2.1 y.2.2.2.2.2.2.2.2.2.2.2.2.2.2.2.2.2.2.2.2.2.2.2.2.2.2.2.2.2.2.2.1 y.2.2.2.2.2.2.2.2.2.2.2.2.2.2.2.2.2.2.2.2.2.2.2.2.2.2.2.2.2.2.2.2.1) (sep (c33 y.2.2.2.2.2.2.2.2.2.2.2.2.2.2.2.2.2.2.2.2.2.2.2.2.2.2.2.2.2.2.2.2.2.1) (sep (c41 y.2.2.2.2.2.2.2.2.2.2.2.2.2.2.2.2.2.2.2.2.2.2.1 y.2.2.2.2.2.2.2.2.2.2.2.2.2.2.2.2.2.2.2.2.2.2.2.2.2.2.2.2.2.2.1 y.2.2.2.2.2.2.2.2.2.2.2.2.2.2.2.2.2.2.2.2.2.2.2.2.2.2.2.2.2.2.2.1 y.2.2.2.2.2.2.2.2.2.2.2.2.2.2.2.2.2.2.2.2.2.2.2.2.2.2.2.2.2.2.2.2.1 y.2.2.2.2.2.2.2.2.2.2.2.2.2.2.2.2.2.2.2.2.2.2.2.2.2.2.2.2.2.2.2.2.2.1) (sep (c23 y.2.2.2.2.2.2.2.2.2.2.2.2.2.2.2.2.2.2.2.2.2.2.2.2.2.2.2.2.2.2.2.2.2.2.1) (sep (c135 y.2.2.2.2.2.2.2.2.2.2.2.2.2.2.2.2.2.2.2.2.2.2.2.2.2.2.2.2.2.2.2.2.2.2.2.1 a c d e g h j k y.2.2.2.2.2.2.2.2.2.2.2.2.2.2.2.2.2.2.2.2.2.2.2.2.2.2.2.2.2.2.2.2.2.2.2.2.1 y.2.2.2.2.2.2.2.2.2.2.2.2.2.2.2.2.2.2.2.2.2.2.2.2.2.2.2.2.2.2.2.2.2.2.2.2.2.1 y.2.2.2.2.2.2.2.2.2.2.2.2.2.2.2.2.2.2.2.2.2.2.2.2.2.2.2.2.2.2.2.2.2.2.2.2.2.2.1 y.2.2.2.2.2.2.2.2.2.2.2.2.2.2.2.2.2.2.2.2.2.2.2.2.2.2.2.2.2.2.2.2.2.2.1) (sep (c0 y.2.2.2.2.2.2.2.2.2.2.2.2.2.2.2.2.2.2.2.2.2.2.2.2.2.2.2.2.2.2.2.2.2.2.2.2.2.2.2.1 y.2.2.2.2.2.2.2.2.2.2.2.2.2.2.2.2.2.2.2.2.2.2.2.2.2.2.2.2.2.2.2.2.2.2.2.2.2.2.2.2.1) (sep (c4 y.2.2.2.2.2.2.2.2.2.2.2.2.2.2.2.2.2.2.2.2.2.2.2.2.2.2.2.2.2.2.2.2.2.2.2.2.2.2.2.2.2.1 y.2.2.2.2.2.2.2.2.2.2.2.2.2.2.2.2.2.2.2.2.2.2.2.2.2.2.2.2.2.2.2.2.2.2.2.2.2.2.2.2.2.2.1 y.2.2.2.2.2.2.2.2.2.2.2.2.2.2.2.2.2.2.2.2.2.2.2.2.2.2.2.2.2.2.2.2.2.2.2.2.2.2.2.2.2.2.2.1) (sep (c15 y.2.2.2.2.2.2.2.2.2.2.2.2.2.2.2.2.2.2.2.2.2.2.2.2.2.2.2.2.2.2.2.2.2.2.2.2.2.2.2.2.2.2.2.2.1) (sep (c3 y.2.2.2.2.2.2.2.2.2.2.2.2.2.2.2.2.2.2.2.2.2.2.2.2.2.2.2.2.2.2.2.2.2.2.2.2.2.2.2.2.2.2.2.2.2.1) (sep (c93 y.2.2.2.2.2.2.2.2.2.2.2.2.2.2.2.2.2.2.2.2.2.2.2.2.2.2.2.2.2.2.2.2.2.2.2.2.1 a c d e g h j k y.2.2.2.2.2.2.2.2.2.2.2.2.2.2.2.2.2.2.2.2.2.2.2.2.2.2.2.2.2.2.2.2.2.2.2.2.2.2.2.1 y.2.2.2.2.2.2.2.2.2.2.2.2.2.2.2.2.2.2.2.2.2.2.2.2.2.2.2.2.2.2.2.2.2.2.2.2.2.2.2.2.2.1 y.2.2.2.2.2.2.2.2.2.2.2.2.2.2.2.2.2.2.2.2.2.2.2.2.2.2.2.2.2.2.2.2.2.2.2.2.2.2.2.2.2.2.1 y.2.2.2.2.2.2.2.2.2.2.2.2.2.2.2.2.2.2.2.2.2.2.2.2.2.2.2.2.2.2.2.2.2.2.2.2.2.2.2.2.2.2.2.1 y.2.2.2.2.2.2.2.2.2.2.2.2.2.2.2.2.2.2.2.2.2.2.2.2.2.2.2.2.2.2.2.2.2.2.2.2.2.2.2.2.2.2.2.2.1 y.2.2.2.2.2.2.2.2.2.2.2.2.2.2.2.2.2.2.2.2.2.2.2.2.2.2.2.2.2.2.2.2.2.2.2.2.2.2.2.2.2.2.2.2.2.1) (sep (c14 y.2.2.2.2.2.2.2.2.2.2.2.2.2.2.2.2.2.2.2.2.2.2.2.2.2.2.2.2.2.2.2.2.2.2.2.2.2.2.2.2.2.2.2.2.2.2.1 y.2.2.2.2.2.2.2.2.2.2.2.2.2.2.2.2.2.2.2.2.2.2.2.2.2.2.2.2.2.2.2.2.2.2.2.2.2.2.2.2.2.2.2.2.2.2.2.1 y.2.2.2.2.2.2.2.2.2.2.2.2.2.2.2.2.2.2.2.2.2.2.2.2.2.2.2.2.2.2.2.2.2.2.2.2.2.2.2.2.2.2.2.2.2.2.2.2.1) (sep (c68 y.2.2.2.2.2.2.2.2.2.2.2.2.2.2.2.2.2.2.2.2.2.2.2.2.2.2.2.2.2.2.2.2.2.2.2.2.2.2.2.2.1 y.2.2.2.2.2.2.2.2.2.2.2.2.2.2.2.2.2.2.2.2.2.2.2.2.2.2.2.2.2.2.2.2.2.2.2.2.2.2.2.2.2.2.2.2.2.2.1 y.2.2.2.2.2.2.2.2.2.2.2.2.2.2.2.2.2.2.2.2.2.2.2.2.2.2.2.2.2.2.2.2.2.2.2.2.2.2.2.2.2.2.2.2.2.2.2.1 y.2.2.2.2.2.2.2.2.2.2.2.2.2.2.2.2.2.2.2.2.2.2.2.2.2.2.2.2.2.2.2.2.2.2.2.2.2.2.2.2.2.2.2.2.2.2.2.2.1 y.2.2.2.2.2.2.2.2.2.2.2.2.2.2.2.2.2.2.2.2.2.2.2.2.2.2.2.2.2.2.2.2.2.2.2.2.2.2.2.2.2.2.2.2.2.2.2.2.2.1 y.2.2.2.2.2.2.2.2.2.2.2.2.2.2.2.2.2.2.2.2.2.2.2.2.2.2.2.2.2.2.2.2.2.2.2.2.2.2.2.2.2.2.2.2.2.2.2.2.2.2.1) (sep (c60 y.2.2.2.2.2.2.2.2.2.2.2.2.2.2.2.2.2.2.2.2.2.2.2.2.2.2.2.2.2.2.2.2.2.2.2.2.2.2.2.2.2.2.2.2.2.2.2.2.2.1) (sep (c53 y.2.2.2.2.2.2.2.2.2.2.2.2.2.2.2.2.2.2.2.2.2.2.2.2.2.2.2.2.2.2.2.2.2.2.2.2.2.2.2.2.2.2.2.2.2.2.2.2.2.2.1) (sep (mapq y.2.2.2.2.2.2.2.2.2.2.2.2.2.2.2.2.2.2.2.2.2.2.2.2.2.2.2.2.2.2.2.2.2.2.2.2.2.2.2.2.2.2.2.2.2.2.2.2.2.2.2.1 [.int .u8, .int .u8, .int .u8, .int .u8, .int .u8, .int .u8, .int .u8, .int .u8, .int .i64, .int .i64] (fun _ => none)) (sep (c34 y.2.2.2.2.2.2.2.2.2.2.2.2.2.2.2.2.2.2.2.2.2.2.2.2.2.2.2.2.2.2.2.2.2.2.2.2.2.2.2.2.2.2.2.2.2.2.2.2.2.2.2.2.1 y.2.2.2.2.2.2.2.2.2.2.2.2.2.2.2.2.2.2.2.2.2.2.2.2.2.2.2.2.2.2.2.2.2.2.2.2.2.2.2.2.2.2.2.2.2.2.2.2.2.2.2.1) (sep (c3 y.2.2.2.2.2.2.2.2.2.2.2.2.2.2.2.2.2.2.2.2.2.2.2.2.2.2.2.2.2.2.2.2.2.2.2.2.2.2.2.2.2.2.2.2.2.2.2.2.2.2.2.2.2.1) (sep (c3 y.2.2.2.2.2.2.2.2.2.2.2.2.2.2.2.2.2.2.2.2.2.2.2.2.2.2.2.2.2.2.2.2.2.2.2.2.2.2.2.2.2.2.2.2.2.2.2.2.2.2.2.2.2.2.1) (sep (c173 y.2.2.2.2.2.2.2.2.2.2.2.2.2.2.2.2.2.2.2.2.2.2.2.2.2.2.2.2.2.2.2.2.2.2.2.2.2.1 a c d e g h j k y.2.2.2.2.2.2.2.2.2.2.2.2.2.2.2.2.2.2.2.2.2.2.2.2.2.2.2.2.2.2.2.2.2.2.2.2.2.2.2.2.2.2.2.2.2.2.2.2.2.2.2.2.2.1 y.2.2.2.2.2.2.2.2.2.2.2.2.2.2.2.2.2.2.2.2.2.2.2.2.2.2.2.2.2.2.2.2.2.2.2.2.2.2.2.2.2.2.2.2.2.2.2.2.2.2.2.2.1 y.2.2.2.2.2.2.2.2.2.2.2.2.2.2.2.2.2.2.2.2.2.2.2.2.2.2.2.2.2.2.2.2.2.2.2.2.2.2.2.2.2.2.2.2.2.2.2.2.2.2.2.2.2.2.1) (sep (c3 y.2.2.2.2.2.2.2.2.2.2.2.2.2.2.2.2.2.2.2.2.2.2.2.2.2.2.2.2.2.2.2.2.2.2.2.2.2.2.2.2.2.2.2.2.2.2.2.2.2.2.2.2.2.2.2.1) (sep (c19 y.2.2.2.2.2.2.2.2.2.2.2.2.2.2.2.2.2.2.2.2.2.2.2.2.2.2.2.2.2.2.2.2.2.2.2.2.2.2.1 y.2.2.2.2.2.2.2.2.2.2.2.2.2.2.2.2.2.2.2.2.2.2.2.2.2.2.2.2.2.2.2.2.2.2.2.2.2.2.2.2.2.2.2.2.2.2.2.2.2.2.2.2.2.2.2.1) (sep (c88 y.2.2.2.2.2.2.2.2.2.2.2.2.2.2.2.2.2.2.2.2.2.2.2.2.2.2.2.2.2.2.2.2.2.2.2.2.2.2.2.2.2.2.2.2.2.2.2.2.2.2.2.2.2.2.2.2.1) (sep (c136 y.2.2.2.2.2.2.2.2.2.2.2.2.2.2.2.2.2.2.2.2.2.2.2.2.2.2.2.2.2.2.2.2.2.2.2.2.2.2.2.2.2.2.2.2.2.2.2.2.2.2.2.2.2.2.2.2.2.1 a c d e g h j k y.2.2.2.2.2.2.2.2.2.2.2.2.2.2.2.2.2.2.2.2.2.2.2.2.2.2.2.2.2.2.2.2.2.2.2.2.2.2.2.2.2.2.2.2.2.2.2.2.2.2.2.2.2.2.2.2.2.2.1 y.2.2.2.2.2.2.2.2.2.2.2.2.2.2.2.2.2.2.2.2.2.2.2.2.2.2.2.2.2.2.2.2.2.2.2.2.2.2.2.2.2.2.2.2.2.2.2.2.2.2.2.2.2.2.2.2.2.2.2.1 y.2.2.2.2.2.2.2.2.2.2.2.2.2.2.2.2.2.2.2.2.2.2.2.2.2.2.2.2.2.2.2.2.2.2.2.2.2.2.2.2.2.2.2.2.2.2.2.2.2.2.2.2.2.2.2.2.2.2.2.2.1 y.2.2.2.2.2.2.2.2.2.2.2.2.2.2.2.2.2.2.2.2.2.2.2.2.2.2.2.2.2.2.2.2.2.2.2.2.2.2.2.2.2.2.2.2.2.2.2.2.2.2.2.2.2.2.2.2.1) (sep (c3 y.2.2.2.2.2.2.2.2.2.2.2.2.2.2.2.2.2.2.2.2.2.2.2.2.2.2.2.2.2.2.2.2.2.2.2.2.2.2.2.2.2.2.2.2.2.2.2.2.2.2.2.2.2.2.2.2.2.2.2.2.2.1) (sep (c15 y.2.2.2.2.2.2.2.2.2.2.2.2.2.2.2.2.2.2.2.2.2.2.2.2.2.2.2.2.2.2.2.2.2.2.2.2.2.2.2.2.2.2.2.2.2.2.2.2.2.2.2.2.2.2.2.2.2.2.2.2.2.2.1) (sep (c3 y.2.2.2.2.2.2.2.2.2.2.2.2.2.2.2.2.2.2.2.2.2.2.2.2.2.2.2.2.2.2.2.2.2.2.2.2.2.2.2.2.2.2.2.2.2.2.2.2.2.2.2.2.2.2.2.2.2.2.2.2.2.2.2.1) (sep (c69 y.2.2.2.2.2.2.2.2.2.2.2.2.2.2.2.2.2.2.2.2.2.2.2.2.2.2.2.2.2.2.2.2.2.2.2.2.2.2.2.2.2.2.2.2.2.2.2.2.2.2.2.2.2.2.2.2.2.2.1 a c d e g h j k y.2.2.2.2.2.2.2.2.2.2.2.2.2.2.2.2.2.2.2.2.2.2.2.2.2.2.2.2.2.2.2.2.2.2.2.2.2.2.2.2.2.2.2.2.2.2.2.2.2.2.2.2.2.2.2.2.2.2.2.2.2.1 y.2.2.2.2.2.2.2.2.2.2.2.2.2.2.2.2.2.2.2.2.2.2.2.2.2.2.2.2.2.2.2.2.2.2.2.2.2.2.2.2.2.2.2.2.2.2.2.2.2.2.2.2.2.2.2.2.2.2.2.2.2.2.1 y.2.2.2.2.2.2.2.2.2.2.2.2.2.2.2.2.2.2.2.2.2.2.2.2.2.2.2.2.2.2.2.2.2.2.2.2.2.2.2.2.2.2.2.2.2.2.2.2.2.2.2.2.2.2.2.2.2.2.2.2.2.2.2.1) (sep (mapq y.2.2.2.2.2.2.2.2.2.2.2.2.2.2.2.2.2.2.2.2.2.2.2.2.2.2.2.2.2.2.2.2.2.2.2.2.2.2.2.2.2.2.2.2.2.2.2.2.2.2.2.2.2.2.2.2.2.2.2.2.2.2.2.2.1 [.int .u8, .int .u8, .int .u8, .int .u8, .int .u8, .int .u8, .int .u8, .int .u8, .int .i64, .int .i64] (fun _ => none)) (sep (c34 y.2.2.2.2.2.2.2.2.2.2.2.2.2.2.2.2.2.2.2.2.2.2.2.2.2.2.2.2.2.2.2.2.2.2.2.2.2.2.2.2.2.2.2.2.2.2.2.2.2.2.2.2.2.2.2.2.2.2.2.2.2.2.2.2.2.1 y.2.2.2.2.2.2.2.2.2.2.2.2.2.2.2.2.2.2.2.2.2.2.2.2.2.2.2.2.2.2.2.2.2.2.2.2.2.2.2.2.2.2.2.2.2.2.2.2.2.2.2.2.2.2.2.2.2.2.2.2.2.2.2.2.1) (sep (c0 y.2.2.2.2.2.2.2.2.2.2.2.2.2.2.2.2.2.2.2.2.2.2.2.2.2.2.2.2.2.2.2.2.2.2.2.2.2.2.2.2.2.2.2.2.2.2.2.2.2.2.2.2.2.2.2.2.2.2.2.2.2.2.2.2.2.2.1 y.2.2.2.2.2.2.2.2.2.2.2.2.2.2.2.2.2.2.2.2.2.2.2.2.2.2.2.2.2.2.2.2.2.2.2.2.2.2.2.2.2.2.2.2.2.2.2.2.2.2.2.2.2.2.2.2.2.2.2.2.2.2.2.2.2.2.2.1) (sep (c3 y.2.2.2.2.2.2.2.2.2.2.2.2.2.2.2.2.2.2.2.2.2.2.2.2.2.2.2.2.2.2.2.2.2.2.2.2.2.2.2.2.2.2.2.2.2.2.2.2.2.2.2.2.2.2.2.2.2.2.2.2.2.2.2.2.2.2.2.2.1) (sep (c102 y.2.2.2.2.2.2.2.2.2.2.2.2.2.2.2.2.2.2.2.2.2.2.2.2.2.2.2.2.2.2.2.2.2.2.2.2.2.2.2.2.2.2.2.2.2.2.2.2.2.2.2.2.2.2.2.2.2.2.2.1 a c d e g h j k y.2.2.2.2.2.2.2.2.2.2.2.2.2.2.2.2.2.2.2.2.2.2.2.2.2.2.2.2.2.2.2.2.2.2.2.2.2.2.2.2.2.2.2.2.2.2.2.2.2.2.2.2.2.2.2.2.2.2.2.2.2.2.2.2.2.2.1 y.2.2.2.2.2.2.2.2.2.2.2.2.2.2.2.2.2.2.2.2.2.2.2.2.2.2.2.2.2.2.2.2.2.2.2.2.2.2.2.2.2.2.2.2.2.2.2.2.2.2.2.2.2.2.2.2.2.2.2.2.2.2.2.2.2.1 y.2.2.2.2.2.2.2.2.2.2.2.2.2.2.2.2.2.2.2.2.2.2.2.2.2.2.2.2.2.2.2.2.2.2.2.2.2.2.2.2.2.2.2.2.2.2.2.2.2.2.2.2.2.2.2.2.2.2.2.2.2.2.2.2.2.2.2.2.1) (sep (c14 y.2.2.2.2.2.2.2.2.2.2.2.2.2.2.2.2.2.2.2.2.2.2.2.2.2.2.2.2.2.2.2.2.2.2.2.2.2.2.2.2.2.2.2.2.2.2.2.2.2.2.2.2.2.2.2.2.2.2.2.2.2.2.2.2.2.2.2.2.2.1 y.2.2.2.2.2.2.2.2.2.2.2.2.2.2.2.2.2.2.2.2.2.2.2.2.2.2.2.2.2.2.2.2.2.2.2.2.2.2.2.2.2.2.2.2.2.2.2.2.2.2.2.2.2.2.2.2.2.2.2.2.2.2.2.2.2.2.2.2.2.2.1 y.2.2.2.2.2.2.2.2.2.2.2.2.2.2.2.2.2.2.2.2.2.2.2.2.2.2.2.2.2.2.2.2.2.2.2.2.2.2.2.2.2.2.2.2.2.2.2.2.2.2.2.2.2.2.2.2.2.2.2.2.2.2.2.2.2.2.2.2.2.2.2.1) (sep (c12 y.2.2.2.2.2.2.2.2.2.2.2.2.2.2.2.2.2.2.2.2.2.2.2.2.2.2.2.2.2.2.2.2.2.2.2.2.2.2.2.2.2.2.2.2.2.2.2.2.2.2.2.2.2.2.2.2.2.2.2.2.2.2.2.2.2.2.2.1 y.2.2.2.2.2.2.2.2.2.2.2.2.2.2.2.2.2.2.2.2.2.2.2.2.2.2.2.2.2.2.2.2.2.2.2.2.2.2.2.2.2.2.2.2.2.2.2.2.2.2.2.2.2.2.2.2.2.2.2.2.2.2.2.2.2.2.2.2.2.1 y.2.2.2.2.2.2.2.2.2.2.2.2.2.2.2.2.2.2.2.2.2.2.2.2.2.2.2.2.2.2.2.2.2.2.2.2.2.2.2.2.2.2.2.2.2.2.2.2.2.2.2.2.2.2.2.2.2.2.2.2.2.2.2.2.2.2.2.2.2.2.1 y.2.2.2.2.2.2.2.2.2.2.2.2.2.2.2.2.2.2.2.2.2.2.2.2.2.2.2.2.2.2.2.2.2.2.2.2.2.2.2.2.2.2.2.2.2.2.2.2.2.2.2.2.2.2.2.2.2.2.2.2.2.2.2.2.2.2.2.2.2.2.2.1 y.2.2.2.2.2.2.2.2.2.2.2.2.2.2.2.2.2.2.2.2.2.2.2.2.2.2.2.2.2.2.2.2.2.2.2.2.2.2.2.2.2.2.2.2.2.2.2.2.2.2.2.2.2.2.2.2.2.2.2.2.2.2.2.2.2.2.2.2.2.2.2.2.1 y.2.2.2.2.2.2.2.2.2.2.2.2.2.2.2.2.2.2.2.2.2.2.2.2.2.2.2.2.2.2.2.2.2.2.2.2.2.2.2.2.2.2.2.2.2.2.2.2.2.2.2.2.2.2.2.2.2.2.2.2.2.2.2.2.2.2.2.2.2.2.2.2.2.1 y.2.2.2.2.2.2.2.2.2.2.2.2.2.2.2.2.2.2.2.2.2.2.2.2.2.2.2.2.2.2.2.2.2.2.2.2.2.2.2.2.2.2.2.2.2.2.2.2.2.2.2.2.2.2.2.2.2.2.2.2.2.2.2.2.2.2.2.2.2.2.2.2.2.2.1) (sep (c25 y.2.2.2.2.2.2.2.2.2.2.2.2.2.2.2.2.2.2.2.2.2.2.2.2.2.2.2.2.2.2.2.2.2.2.2.2.2.2.2.2.2.2.2.2.2.2.2.2.2.2.2.2.2.2.2.2.2.2.2.2.2.2.2.2.2.2.2.2.2.2.2.2.1) (sep (c25 y.2.2.2.2.2.2.2.2.2.2.2.2.2.2.2.2.2.2.2.2.2.2.2.2.2.2.2.2.2.2.2.2.2.2.2.2.2.2.2.2.2.2.2.2.2.2.2.2.2.2.2.2.2.2.2.2.2.2.2.2.2.2.2.2.2.2.2.2.2.2.2.2.2.1) (sep (c54 y.2.2.2.2.2.2.2.2.2.2.2.2.2.2.2.2.2.2.2.2.2.2.2.2.2.2.2.2.2.2.2.2.2.2.2.2.2.2.2.2.2.2.2.2.2.2.2.2.2.2.2.2.2.2.2.2.2.2.2.2.2.2.2.2.2.2.2.2.2.2.2.2.2.2.1) (sep (c35 y.2.2.2.2.2.2.2.2.2.2.2.2.2.2.2.2.2.2.2.2.2.2.2.2.2.2.2.2.2.2.2.2.2.2.2.2.2.2.2.2.2.2.2.2.2.2.2.2.2.2.2.2.2.2.2.2.2.2.2.2.2.2.2.2.2.2.2.2.2.2.2.2.2.2.2.1 y.2.2.2.2.2.2.2.2.2.2.2.2.2.2.2.2.2.2.2.2.2.2.2.2.2.2.2.2.2.2.2.2.2.2.2.2.2.2.2.2.2.2.2.2.2.2.2.2.2.2.2.2.2.2.2.2.2.2.2.2.2.2.2.2.2.2.2.2.2.2.2.2.2.2.2.2.1 y.2.2.2.2.2.2.2.2.2.2.2.2.2.2.2.2.2.2.2.2.2.2.2.2.2.2.2.2.2.2.2.2.2.2.2.2.2.2.2.2.2.2.2.2.2.2.2.2.2.2.2.2.2.2.2.2.2.2.2.2.2.2.2.2.2.2.2.2.2.2.2.2.2.2.2.2.2.1) (sep (c19 y.2.2.2.2.2.2.2.2.2.2.2.2.2.2.2.2.2.2.2.2.2.2.2.2.2.2.2.2.2.2.2.2.2.2.2.2.2.2.2.2.2.2.2.2.2.2.2.2.2.2.2.2.2.2.2.2.2.2.2.2.1 y.2.2.2.2.2.2.2.2.2.2.2.2.2.2.2.2.2.2.2.2.2.2.2.2.2.2.2.2.2.2.2.2.2.2.2.2.2.2.2.2.2.2.2.2.2.2.2.2.2.2.2.2.2.2.2.2.2.2.2.2.2.2.2.2.2.2.2.2.2.2.2.2.2.2.2.1) (sep (c94 y.2.2.2.2.2.2.2.2.2.2.2.2.2.2.2.2.2.2.2.2.2.2.2.2.2.2.2.2.2.2.2.2.2.2.2.2.2.2.2.2.2.2.2.2.2.2.2.2.2.2.2.2.2.2.2.2.2.2.2.2.2.2.2.2.2.2.2.2.2.2.2.2.2.2.2.2.1) (sep (c174 y.2.2.2.2.2.2.2.2.2.2.2.2.2.2.2.2.2.2.2.2.2.2.2.2.2.2.2.2.2.2.2.2.2.2.2.2.2.2.2.2.2.2.2.2.2.2.2.2.2.2.2.2.2.2.2.2.2.2.2.2.2.2.2.2.2.2.2.2.2.2.2.2.2.2.2.2.2.1) (sep (c183 y.2.2.2.2.2.2.2.2.2.2.2.2.2.2.2.2.2.2.2.2.2.2.2.2.2.2.2.2.2.2.2.2.2.2.2.2.2.2.2.2.2.2.2.2.2.2.2.2.2.2.2.2.2.2.2.2.2.2.2.2.2.2.2.2.2.2.2.2.2.2.2.2.2.2.2.2.2.2.1) (sep (c117 y.2.2.2.2.2.2.2.2.2.2.2.2.2.2.2.2.2.2.2.2.2.2.2.2.2.2.2.2.2.2.2.2.2.2.2.2.2.2.2.2.2.2.2.2.2.2.2.2.2.2.2.2.2.2.2.2.2.2.2.2.2.2.2.2.2.2.2.2.2.2.2.2.2.2.2.2.2.2.2.1 a c d e g h j k y.2.2.2.2.2.2.2.2.2.2.2.2.2.2.2.2.2.2.2.2.2.2.2.2.2.2.2.2.2.2.2.2.2.2.2.2.2.2.2.2.2.2.2.2.2.2.2.2.2.2.2.2.2.2.2.2.2.2.2.2.2.2.2.2.2.2.2.2.2.2.2.2.2.2.2.2.2.2.2.2.1 y.2.2.2.2.2.2.2.2.2.2.2.2.2.2.2.2.2.2.2.2.2.2.2.2.2.2.2.2.2.2.2.2.2.2.2.2.2.2.2.2.2.2.2.2.2.2.2.2.2.2.2.2.2.2.2.2.2.2.2.2.2.2.2.2.2.2.2.2.2.2.2.2.2.2.2.2.2.2.2.2.2.1 y.2.2.2.2.2.2.2.2.2.2.2.2.2.2.2.2.2.2.2.2.2.2.2.2.2.2.2.2.2.2.2.2.2.2.2.2.2.2.2.2.2.2.2.2.2.2.2.2.2.2.2.2.2.2.2.2.2.2.2.2.2.2.2.2.2.2.2.2.2.2.2.2.2.2.2.2.2.2.2.2.2.2.1 y.2.2.2.2.2.2.2.2.2.2.2.2.2.2.2.2.2.2.2.2.2.2.2.2.2.2.2.2.2.2.2.2.2.2.2.2.2.2.2.2.2.2.2.2.2.2.2.2.2.2.2.2.2.2.2.2.2.2.2.2.2.2.2.2.2.2.2.2.2.2.2.2.2.2.2.2.2.2.1) (sep (c3 y.2.2.2.2.2.2.2.2.2.2.2.2.2.2.2.2.2.2.2.2.2.2.2.2.2.2.2.2.2.2.2.2.2.2.2.2.2.2.2.2.2.2.2.2.2.2.2.2.2.2.2.2.2.2.2.2.2.2.2.2.2.2.2.2.2.2.2.2.2.2.2.2.2.2.2.2.2.2.2.2.2.2.2.1) (sep (c15 y.2.2.2.2.2.2.2.2.2.2.2.2.2.2.2.2.2.2.2.2.2.2.2.2.2.2.2.2.2.2.2.2.2.2.2.2.2.2.2.2.2.2.2.2.2.2.2.2.2.2.2.2.2.2.2.2.2.2.2.2.2.2.2.2.2.2.2.2.2.2.2.2.2.2.2.2.2.2.2.2.2.2.2.2.1) (sep (c3 y.2.2.2.2.2.2.2.2.2.2.2.2.2.2.2.2.2.2.2.2.2.2.2.2.2.2.2.2.2.2.2.2.2.2.2.2.2.2.2.2.2.2.2.2.2.2.2.2.2.2.2.2.2.2.2.2.2.2.2.2.2.2.2.2.2.2.2.2.2.2.2.2.2.2.2.2.2.2.2.2.2.2.2.2.2.1) (sep (c70 y.2.2.2.2.2.2.2.2.2.2.2.2.2.2.2.2.2.2.2.2.2.2.2.2.2.2.2.2.2.2.2.2.2.2.2.2.2.2.2.2.2.2.2.2.2.2.2.2.2.2.2.2.2.2.2.2.2.2.2.2.2.2.2.2.2.2.2.2.2.2.2.2.2.2.2.2.2.2.2.2.1 a c d e g h j k y.2.2.2.2.2.2.2.2.2.2.2.2.2.2.2.2.2.2.2.2.2.2.2.2.2.2.2.2.2.2.2.2.2.2.2.2.2.2.2.2.2.2.2.2.2.2.2.2.2.2.2.2.2.2.2.2.2.2.2.2.2.2.2.2.2.2.2.2.2.2.2.2.2.2.2.2.2.2.2.2.2.2.2.1 y.2.2.2.2.2.2.2.2.2.2.2.2.2.2.2.2.2.2.2.2.2.2.2.2.2.2.2.2.2.2.2.2.2.2.2.2.2.2.2.2.2.2.2.2.2.2.2.2.2.2.2.2.2.2.2.2.2.2.2.2.2.2.2.2.2.2.2.2.2.2.2.2.2.2.2.2.2.2.2.2.2.2.2.2.1 y.2.2.2.2.2.2.2.2.2.2.2.2.2.2.2.2.2.2.2.2.2.2.2.2.2.2.2.2.2.2.2.2.2.2.2.2.2.2.2.2.2.2.2.2.2.2.2.2.2.2.2.2.2.2.2.2.2.2.2.2.2.2.2.2.2.2.2.2.2.2.2.2.2.2.2.2.2.2.2.2.2.2.2.2.2.1) (sep (mapq y.2.2.2.2.2.2.2.2.2.2.2.2.2.2.2.2.2.2.2.2.2.2.2.2.2.2.2.2.2.2.2.2.2.2.2.2.2.2.2.2.2.2.2.2.2.2.2.2.2.2.2.2.2.2.2.2.2.2.2.2.2.2.2.2.2.2.2.2.2.2.2.2.2.2.2.2.2.2.2.2.2.2.2.2.2.2.1 [.int .u8, .int .u8, .int .u8, .int .u8, .int .u8, .int .u8, .int .u8, .int .u8, .int .i64, .int .i64] (fun _ => none)) (sep (c34 y.2.2.2.2.2.2.2.2.2.2.2.2.2.2.2.2.2.2.2.2.2.2.2.2.2.2.2.2.2.2.2.2.2.2.2.2.2.2.2.2.2.2.2.2.2.2.2.2.2.2.2.2.2.2.2.2.2.2.2.2.2.2.2.2.2.2.2.2.2.2.2.2.2.2.2.2.2.2.2.2.2.2.2.2.2.2.2.1 y.2.2.2.2.2.2.2.2.2.2.2.2.2.2.2.2.2.2.2.2.2.2.2.2.2.2.2.2.2.2.2.2.2.2.2.2.2.2.2.2.2.2.2.2.2.2.2.2.2.2.2.2.2.2.2.2.2.2.2.2.2.2.2.2.2.2.2.2.2.2.2.2.2.2.2.2.2.2.2.2.2.2.2.2.2.2.1) (sep (c3 y.2.2.2.2.2.2.2.2.2.2.2.2.2.2.2.2.2.2.2.2.2.2.2.2.2.2.2.2.2.2.2.2.2.2.2.2.2.2.2.2.2.2.2.2.2.2.2.2.2.2.2.2.2.2.2.2.2.2.2.2.2.2.2.2.2.2.2.2.2.2.2.2.2.2.2.2.2.2.2.2.2.2.2.2.2.2.2.2.1) (sep (c3 y.2.2.2.2.2.2.2.2.2.2.2.2.2.2.2.2.2.2.2.2.2.2.2.2.2.2.2.2.2.2.2.2.2.2.2.2.2.2.2.2.2.2.2.2.2.2.2.2.2.2.2.2.2.2.2.2.2.2.2.2.2.2.2.2.2.2.2.2.2.2.2.2.2.2.2.2.2.2.2.2.2.2.2.2.2.2.2.2.2.1) (sep (c175 y.2.2.2.2.2.2.2.2.2.2.2.2.2.2.2.2.2.2.2.2.2.2.2.2.2.2.2.2.2.2.2.2.2.2.2.2.2.2.2.2.2.2.2.2.2.2.2.2.2.2.2.2.2.2.2.2.2.2.2.2.2.2.2.2.2.2.2.2.2.2.2.2.2.2.2.2.2.2.2.2.2.1 a c d e g h j k y.2.2.2.2.2.2.2.2.2.2.2.2.2.2.2.2.2.2.2.2.2.2.2.2.2.2.2.2.2.2.2.2.2.2.2.2.2.2.2.2.2.2.2.2.2.2.2.2.2.2.2.2.2.2.2.2.2.2.2.2.2.2.2.2.2.2.2.2.2.2.2.2.2.2.2.2.2.2.2.2.2.2.2.2.2.2.2.2.1 y.2.2.2.2.2.2.2.2.2.2.2.2.2.2.2.2.2.2.2.2.2.2.2.2.2.2.2.2.2.2.2.2.2.2.2.2.2.2.2.2.2.2.2.2.2.2.2.2.2.2.2.2.2.2.2.2.2.2.2.2.2.2.2.2.2.2.2.2.2.2.2.2.2.2.2.2.2.2.2.2.2.2.2.2.2.2.2.1 y.2.2.2.2.2.2.2.2.2.2.2.2.2.2.2.2.2.2.2.2.2.2.2.2.2.2.2.2.2.2.2.2.2.2.2.2.2.2.2.2.2.2.2.2.2.2.2.2.2.2.2.2.2.2.2.2.2.2.2.2.2.2.2.2.2.2.2.2.2.2.2.2.2.2.2.2.2.2.2.2.2.2.2.2.2.2.2.2.2.1) (sep (c3 y.2.2.2.2.2.2.2.2.2.2.2.2.2.2.2.2.2.2.2.2.2.2.2.2.2.2.2.2.2.2.2.2.2.2.2.2.2.2.2.2.2.2.2.2.2.2.2.2.2.2.2.2.2.2.2.2.2.2.2.2.2.2.2.2.2.2.2.2.2.2.2.2.2.2.2.2.2.2.2.2.2.2.2.2.2.2.2.2.2.2) (sep (c19 y.2.2.2.2.2.2.2.2.2.2.2.2.2.2.2.2.2.2.2.2.2.2.2.2.2.2.2.2.2.2.2.2.2.2.2.2.2.2.2.2.2.2.2.2.2.2.2.2.2.2.2.2.2.2.2.2.2.2.2.2.2.2.2.2.2.2.2.2.2.2.2.2.2.2.2.2.2.2.2.2.2.2.1 y.2.2.2.2.2.2.2.2.2.2.2.2.2.2.2.2.2.2.2.2.2.2.2.2.2.2.2.2.2.2.2.2.2.2.2.2.2.2.2.2.2.2.2.2.2.2.2.2.2.2.2.2.2.2.2.2.2.2.2.2.2.2.2.2.2.2.2.2.2.2.2.2.2.2.2.2.2.2.2.2.2.2.2.2.2.2.2.2.2.2) (c17 y.2.2.2.1 y.2.2.2.2.1 y.2.2.2.2.2.1 y.2.2.2.2.2.2.2.2.2.2.2.2.2.2.2.2.2.2.2.2.2.2.2.2.2.2.2.2.2.2.2.2.2.2.2.1 y.2.2.2.2.2.2.2.2.2.2.2.2.2.2.2.2.2.2.2.2.2.2.2.2.2.2.2.2.2.2.2.2.2.2.2.2.2.2.2.2.2.2.2.2.2.2.2.2.2.2.2.2.2.2.2.2.2.1 y.2.2.2.2.2.2.2.2.2.2.2.2.2.2.2.2.2.2.2.2.2.2.2.2.2.2.2.2.2.2.2.2.2.2.2.2.2.2.2.2.2.2.2.2.2.2.2.2.2.2.2.2.2.2.2.2.2.2.2.2.2.2.2.2.2.2.2.2.2.2.2.2.2.2.2.2.2.2.2.1))))))))))))))))))))))))))))))))))))))))))))))))))))))))))))))))))))))))))))))))) := by
 refine en Tryz.func17 r fun σ F=>sr<|bx r fun b1=>eb r<|nj<|sr<|ls r<|cu (i78 a c d e g h j k l) r<|ec r<|al r fun b2=>so r r<|an r<|sb r<|nf r<|sk<|sr ?_
 refine ls r<|lx r (opx_makeMapq [.int .i64, .int .i64, .int .i64] r) fun r3 _=>lx r (opx_makeC r) fun r4 _=>lv (opv_build r) r<|bx r fun b5=>an r<|js<|san r<|jl<|ut r<|js<|jb<|sb r<|nr<|ls r<|ea r ?_
 refine cy (i89 a c d e g h j k l) r fun y6=>ed r<|an r<|js<|sb r<|nf r<|sk<|jg<|ed r<|fa 7 r<|lv (opv_ixA 7 r r r r) r<|so r r<|ln<|ni (I 1) r<|ut r<|js ?_
 refine jb<|sb r<|nr<|ls r<|ea r<|cy (i90 a c d e g h j k l) r fun y7=>ed r<|an r<|js<|sb r<|nf r<|sk<|jg<|ed r<|fa 7 r<|lv (opv_ixA 8 r r r r) r ?_
 refine so r r<|ln<|ni (I 2) r<|uf r<|kt<|js<|sr<|lf 0 r r<|an r<|jl<|ut r<|js<|jb<|sb r<|nr<|ls r ?_
 refine ea r<|cy (i120 a c d e g h j k l) r fun y8=>ed r<|an r<|js<|sb r<|nf r<|sk<|jg<|ec r<|lf 6 r r<|ea r<|lx r (opx_buildSlice1 (m := 1) r r (by decide) (by decide) r) fun b9 _=>lx r (opx_apN (m := 1) (B := 8) 1 r r (Src.lit) r r r (List.all_eq_true.1 r) r r r r) fun z10 _=>ea r<|fa 6 r ?_
 refine so r r<|ln<|ni (I 1) r<|ut r<|js<|jb<|sb r<|nr<|ls r<|ea r<|cy (i134 a c d e g h j k l) r fun y11=>ed r<|an r<|js<|sb r<|nf r ?_
 refine sk<|jg<|ec r<|lf 6 r r<|ea r<|lx r (opx_buildSlice1 (m := 1) r r (by decide) (by decide) r) fun b12 _=>lx r (opx_ap (m := 1) (B := 8) 2 r r (Src.lit) r r r (List.all_eq_true.1 r) r r r r) fun z13 _=>ea r<|fa 6 r<|so r r<|ln<|ni (I 2) r<|ut r<|js<|jb<|sb r ?_
 refine nr<|ls r<|ea r<|cy (i146 a c d e g h j k l) r fun y14=>ed r<|an r<|js<|sb r<|nf r<|sk<|jg<|ec r<|lf 6 r r<|ea r<|lx r (opx_buildSlice1 (m := 1) r r (by decide) (by decide) r) fun b15 _=>lx r (opx_ap (m := 1) (B := 8) 3 r r (Src.lit) r r r (List.all_eq_true.1 r) r r r r) fun z16 _=>?_
 refine ea r<|fa 6 r<|so r r<|ln<|ni (I 3) r<|uf r<|kt<|sr<|ec r<|nk<|jr ?_
 exact K_rets r (.tmp r (.tmp r (.nil))) (b5, r3, r4, z16.1, z16.2.1, z16.2.2, y6.1, y7.1, y6.2.1, y6.2.2.1, y6.2.2.2.1, y6.2.2.2.2.1, y6.2.2.2.2.2.1, y6.2.2.2.2.2.2.1, y6.2.2.2.2.2.2.2.1, y6.2.2.2.2.2.2.2.2.1, y6.2.2.2.2.2.2.2.2.2.1, y6.2.2.2.2.2.2.2.2.2.2.1, y6.2.2.2.2.2.2.2.2.2.2.2.1, y6.2.2.2.2.2.2.2.2.2.2.2.2.1, y6.2.2.2.2.2.2.2.2.2.2.2.2.2, y7.2.1, y7.2.2.1, y7.2.2.2.1, y7.2.2.2.2.1, y7.2.2.2.2.2.1, y7.2.2.2.2.2.2.1, y7.2.2.2.2.2.2.2.1, y7.2.2.2.2.2.2.2.2.1, y7.2.2.2.2.2.2.2.2.2.1, y7.2.2.2.2.2.2.2.2.2.2.1, y7.2.2.2.2.2.2.2.2.2.2.2.1, y7.2.2.2.2.2.2.2.2.2.2.2.2.1, y7.2.2.2.2.2.2.2.2.2.2.2.2.2, y8.2.1, y8.1, y8.2.2.1, y8.2.2.2.1, y8.2.2.2.2.1, y8.2.2.2.2.2.1, y8.2.2.2.2.2.2.1, y8.2.2.2.2.2.2.2.1, y8.2.2.2.2.2.2.2.2.1, y8.2.2.2.2.2.2.2.2.2.1, y8.2.2.2.2.2.2.2.2.2.2.1, y8.2.2.2.2.2.2.2.2.2.2.2.1, y8.2.2.2.2.2.2.2.2.2.2.2.2.1, y8.2.2.2.2.2.2.2.2.2.2.2.2.2.1, y8.2.2.2.2.2.2.2.2.2.2.2.2.2.2.1, y8.2.2.2.2.2.2.2.2.2.2.2.2.2.2.2.1, y8.2.2.2.2.2.2.2.2.2.2.2.2.2.2.2.2.1, y8.2.2.2.2.2.2.2.2.2.2.2.2.2.2.2.2.2.1, y8.2.2.2.2.2.2.2.2.2.2.2.2.2.2.2.2.2.2.1, y8.2.2.2.2.2.2.2.2.2.2.2.2.2.2.2.2.2.2.2.1, y8.2.2.2.2.2.2.2.2.2.2.2.2.2.2.2.2.2.2.2.2.1, y8.2.2.2.2.2.2.2.2.2.2.2.2.2.2.2.2.2.2.2.2.2, y11.2.1, y11.1, y11.2.2.1, y11.2.2.2.1, y11.2.2.2.2.1, y11.2.2.2.2.2.1, y11.2.2.2.2.2.2.1, y11.2.2.2.2.2.2.2.1, y11.2.2.2.2.2.2.2.2.1, y11.2.2.2.2.2.2.2.2.2.1, y11.2.2.2.2.2.2.2.2.2.2.1, y11.2.2.2.2.2.2.2.2.2.2.2.1, y11.2.2.2.2.2.2.2.2.2.2.2.2.1, y11.2.2.2.2.2.2.2.2.2.2.2.2.2.1, y11.2.2.2.2.2.2.2.2.2.2.2.2.2.2.1, y11.2.2.2.2.2.2.2.2.2.2.2.2.2.2.2.1, y11.2.2.2.2.2.2.2.2.2.2.2.2.2.2.2.2.1, y11.2.2.2.2.2.2.2.2.2.2.2.2.2.2.2.2.2.1, y11.2.2.2.2.2.2.2.2.2.2.2.2.2.2.2.2.2.2.1, y11.2.2.2.2.2.2.2.2.2.2.2.2.2.2.2.2.2.2.2.1, y11.2.2.2.2.2.2.2.2.2.2.2.2.2.2.2.2.2.2.2.2.1, y11.2.2.2.2.2.2.2.2.2.2.2.2.2.2.2.2.2.2.2.2.2, y14.2.1, y14.1, y14.2.2.1, y14.2.2.2.1, y14.2.2.2.2.1, y14.2.2.2.2.2.1, y14.2.2.2.2.2.2.1, y14.2.2.2.2.2.2.2.1, y14.2.2.2.2.2.2.2.2.1, y14.2.2.2.2.2.2.2.2.2.1, y14.2.2.2.2.2.2.2.2.2.2.1, y14.2.2.2.2.2.2.2.2.2.2.2.1, y14.2.2.2.2.2.2.2.2.2.2.2.2) trivial r Ent.take
theorem i148 (a d e g h j k l m o p q s t u v : Nat) : Sp Tryz.prog 60 #[Pt a 0, I 1] (c157 a d e g h j k l m o p q s t u v) (I 0) (c89 a d e g h j k l m o p q s t u v) := by
 refine en Tryz.func60 r fun σ F=>san r<|js<|jb<|sa r<|ep false r<|an r<|cf r<|sr<|ec r<|go r<|ea r<|go r<|ec r<|nf r<|sr ?_
 refine ec r<|lf 12 r r<|bf r<|skb<|js<|js<|J_quiet Tryz.mixed (by kernel_rfl)<|qb r<|qf 12 r<|ql r r<|qb r<|qf 12 r<|ql r r<|qv (opv_ib (c := I 0) r r r) r<|qv (opv_ib (c := I 0) r r r) r<|qv (opv_ib (c := I 50) r r r) r ?_
 refine qa r<|qn<|kt<|jl<|ju<|js<|sr<|ec r<|nf r<|jx<|ke<|ke<|kh<|kt<|sr<|ec r ?_
 refine fa 12 r<|so r r<|nr<|an r<|jr<|r1 r Ent.take
theorem i149 (a c d e g h j k l m o p q s t u v w A : Nat) : Sp Tryz.prog 63 #[Pt a 0, I 1, I 0] ((sep (c157 a c d e g h j k l m o p q s t u) (sep (c1 c) (c17 m o p v w A)))) (.tuple #[Pt v 0, I 0]) ((sep (c89 a c d e g h j k l m o p q s t u) (sep (c1 c) (c17 m o p v w A)))) := by
 refine en Tryz.func63 r fun σ F=>sb r<|nj<|sb r<|cu (i148 a c d e g h j k l m o p q s t u) r<|an r<|sb r<|nf r<|sk<|js<|sr<|ec r<|go r<|ea r<|go r<|ea r ?_
 refine go r<|ea r<|go r<|fa 0 r<|go r<|fa 1 r<|go r<|ld r r<|go r<|ll r<|go r<|bf r<|sk<|js<|J_quiet Tryz.mixed (by kernel_rfl)<|qb r ?_
 refine qf 6 r<|ql r r<|qb r<|qf 0 r<|qf 1 r<|ql r r<|qa r<|qv (opv_ix 0 r r r r) r<|ql r r<|qv (opv_ix o r r r r) r<|qv (opv_ldO 0 r r r) r<|qb r<|qn<|kt<|jr<|r2 r Ent.take
theorem i150 : Kp Tryz.prog 103 #[I 1] (emp) (Tt) := by
 refine en Tryz.func103 r fun σ F=>J_emp<|san r<|sr<|ec r<|go r<|ea r<|go r<|ec r<|nk<|jr<|r1 r Ent.take
theorem i151 (a c d e g h j k l m o p q : Nat) : Sp Tryz.prog 104 #[Pt a 0, I 1] (c135 a c d e g h j k l m o p q) (I 0) (c55 a c d e g h j k l m o p q) := by
 refine en Tryz.func104 r fun σ F=>san r<|js<|sr<|ec r<|lf 11 r r<|an r<|cf r<|sk<|sr<|ec r<|fa 11 r<|so r r<|nr<|an r<|jr ?_
 exact r1 r Ent.take
theorem i152 (a c d e g h j k l m o p q : Nat) : Kp Tryz.prog 143 #[Pt a 0, I 0] ((sep (c55 a c d e g h j k l m o p q) (c23 q))) (Tt) := by
 refine en Tryz.func143 r fun σ F=>san r<|sb r<|lf 10 r r<|ea r<|lv (opv_lookC (v := .tuple #[I 1, Tt]) r r r) r<|ed r<|an r<|sb r<|nk<|jr<|r1 r Ent.take
theorem i153 (a d e g h j k l m o p q s : Nat) : Kp Tryz.prog 142 #[Pt a 0, I 1] ((sep (c55 a d e g h j k l m o p q s) (sep (c5 e) (c23 s)))) (.tuple #[I 0, I 1000, Tt]) := by
 refine en Tryz.func142 r fun σ F=>sr<|ec r<|nj<|sa r<|ep false r<|ea r<|go r<|ea r<|go r<|cu i150 r<|go r<|bf r<|sk<|sr<|ec r ?_
 refine fa 0 r<|lf 2 r r<|ib (I 1) r<|an r<|js<|sb r<|fa 0 r<|lf 3 r r<|ll r<|an r<|jl<|ut r<|js<|jb<|sr<|ix 0 r r ?_
 refine ls r<|al r fun b1=>so r r<|nr<|ea r<|lf 0 r r<|cu (i152 a d e g h j k l m o p q s) r<|ea r<|go r<|ea r<|go r<|fa 1 r<|go r<|ld r r<|go r<|ec r ?_
 refine go r<|ea r<|go r<|fa 1 r<|go r<|ld r r<|go r<|fa 2 r<|go r<|ld r r<|go r<|ib (I 1000) r<|go r<|eb r<|nt r<|js ?_
 refine J_quiet Tryz.mixed (by kernel_rfl)<|qf 0 r<|ql r r<|qb r<|qv (opv_ib (c := I 0) r r r) r<|qf 1 r<|ql r r<|qv (opv_ib (c := I 0) r r r) r<|qf 2 r<|ql r r<|qv (opv_ib (c := I 1000) r r r) r<|qb r<|qa r<|qn<|kt<|jr ?_
 refine kq<|kd<|kd<|kq<|kd ?_
 exact K_rets r (.tmp r (.tmp r (.tmp r (.nil)))) () trivial r Ent.take
theorem i154 (a c d e g h j k l m o p q : Nat) : Kp Tryz.prog 105 #[Pt a 0, I 1, I 0] ((sep (c55 a c d e g h j k l m o p q) (sep (c5 d) (c23 q)))) (I 0) := by
 refine en Tryz.func105 r fun σ F=>san r<|sb r<|cu (i153 a c d e g h j k l m o p q) r<|ed r<|ec r<|nj<|jb<|sb r<|cu (i152 a c d e g h j k l m o p q) r<|bf r<|sr<|ec r<|go r<|ea r<|go r ?_
 refine ea r<|go r<|ec r<|nf r<|sb r<|lf 10 r r<|ea r<|lv (opv_lookC (v := I 1) r r r) r<|bf r<|skb<|san r<|jr<|r1 r Ent.take
theorem i155 : Kp Tryz.prog 106 #[] (emp) (.agg [.nilFunc, .func (.func 144) #[] #[], .func (.func 145) #[] #[], .func (.func 146) #[] #[], .func (.func 147) #[] #[], .func (.func 148) #[] #[]].toArray) := by
 refine en Tryz.func106 r fun σ F=>J_emp<|sr<|al r fun b1=>nr<|lv (opv_buildA (pl := [(0, 1), (1, 1), (2, 1), (3, 1), (4, 1), (5, 1)]) r r) r<|so r r<|nk<|jr ?_
 exact K_rets r (.agg r r (.nil)) () trivial r Ent.take
theorem i156 (a c d e g h j k l m o p q : Nat) : Sp Tryz.prog 179 #[Pt a 0, I 0, I 3] ((sep (c55 a c d e g h j k l m o p q) (c23 q))) (.tuple #[]) ((sep (c55 a c d e g h j k l m o p q) (c52 q))) := by
 refine en Tryz.func179 r fun σ F=>sb r<|lf 10 r r<|eb r<|lx r (opx_setC r r r r r) fun _ _=>nr<|bf r<|jk<|z0 r Ent.take
theorem i157 (a c d e g h j k l m o p q : Nat) : Sp Tryz.prog 147 #[Pt a 0, .agg [I 4, I 0, Z, I 3, I 1, I 0].toArray] ((sep (c55 a c d e g h j k l m o p q) (c23 q))) (.agg [I 0, Z, Ff, I 0].toArray) ((sep (c55 a c d e g h j k l m o p q) (c52 q))) := by
 refine en Tryz.func147 r fun σ F=>sr<|bx r fun b1=>al r fun b2=>nj<|J_quiet Tryz.mixed (by kernel_rfl)<|qb r<|qf 10 r<|ql r r<|qf 5 r<|ql r r<|qv (opv_lookC (v := I 1) r r r) r<|qa r<|qn<|kt<|js ?_
 refine jb<|sr<|fa 0 r<|lf 3 r r<|eb r<|go r<|fa 0 r<|go r<|fa 3 r<|go r<|ld r r<|go r<|ec r<|nf r<|sr<|fa 0 r ?_
 refine lf 3 r r<|eb r<|go r<|ea r<|go r<|ec r<|go r<|fa 0 r<|go r<|fa 3 r<|go r<|ld r r<|go r<|ea r<|go r<|ea r ?_
 refine gs r<|gs r<|go r<|ec r<|nf r<|skb<|sa r<|lf 5 r r<|fa 0 r<|lf 3 r r<|cu (i156 a c d e g h j k l m o p q) r<|nr<|lv (opv_build r) r<|so r r<|nk<|jr ?_
 exact K_rets r (.agg r r (.nil)) () trivial r Ent.take
theorem i158 (a c d e g h j k l m o p q : Nat) : Sp Tryz.prog 64 #[Pt a 0, I 1, I 0, .agg [I 4, I 0, Z, I 3].toArray] ((sep (c135 a c d e g h j k l m o p q) (sep (c5 d) (c23 q)))) (.agg [I 0, Z, Ff, I 0].toArray) ((sep (c55 a c d e g h j k l m o p q) (sep (c5 d) (c52 q)))) := by
 refine en Tryz.func64 r fun σ F=>sr<|bx r fun b1=>al r fun b2=>nj<|jb<|sa r<|ep false r<|an r<|cf r<|sa r<|cu i150 r<|eb r<|go r<|fa 0 r<|go r ?_
 refine ld r r<|go r<|ec r<|go r<|fa 0 r<|go r<|ld r r<|go r<|ec r<|nf r<|skb<|js<|sb r<|cu (i151 a c d e g h j k l m o p q) r<|an r<|sb r ?_
 refine nf r<|sk<|js<|sr<|ec r<|cu (i154 a c d e g h j k l m o p q) r<|an r<|sb r<|nf r<|sk<|js<|J_steps (cel b1 [I 4, I 0, Z, I 3] 77) (emp) [] Tryz.mixed<|pf 1 0 r r<|pe 4 r r<|pe 6 r r<|pe 7 r r ?_
 refine pl 2 r r r<|ps 5 r (opv_loadS r)<|ps 8 r (opv_build r)<|pn 0 r (opx_call0 (i155) r r r) fun _ _=>ps 3 r (opv_ixV r r r r)<|pn 9 r (opx_call (first := []) (captured := []) (i157 a c d e g h j k l m o p q) r r r r) fun _ _=>?_
 refine pn 10 r (opx_store r r r (List.all_eq_true.1 r)) fun _ _=>dn<|kt<|jr ?_
 exact K_rets r (.agg r r (.nil)) () trivial r Ent.take
theorem i159 (a c d e g h j k l m o p q s t u v w A B C D E : Nat) : Sp Tryz.prog 22 #[Pt a 0, I 1, I 0, .agg [I 4, I 0, Z, I 3].toArray] ((sep (c157 a c d e g h j k l m o p q s t u) (sep (c1 c) (sep (c17 m o p v w A) (sep (c135 v c d e g h j k l B C D E) (sep (c5 d) (c23 E))))))) (.agg [I 0, Z, Ff, I 0].toArray) ((sep (c89 a c d e g h j k l m o p q s t u) (sep (c1 c) (sep (c17 m o p v w A) (sep (c55 v c d e g h j k l B C D E) (sep (c5 d) (c52 E))))))) := by
 refine en Tryz.func22 r fun σ F=>sr<|bx r fun b1=>al r fun b2=>nr<|ec r<|cu (i149 a c d e g h j k l m o p q s t u v w A) r<|ed r<|an r<|js<|sb r<|nf r<|sk<|sr<|ec r<|ls r ?_
 refine cu (i158 v c d e g h j k l B C D E) r<|so r r<|nk<|jr ?_
 exact K_rets r (.agg r r (.nil)) () trivial r Ent.take
theorem i160 (a d e g h j k l m o p q s t u v : Nat) : Kp Tryz.prog 60 #[Pt a 0, I 1] (c89 a d e g h j k l m o p q s t u v) (I 0) := by
 refine en Tryz.func60 r fun σ F=>san r<|js<|jb<|sa r<|ep false r<|an r<|cf r<|sr<|ec r<|go r<|ea r<|go r<|ec r<|nf r<|sr ?_
 refine ec r<|lf 12 r r<|bf r<|skb<|js<|js<|J_quiet Tryz.mixed (by kernel_rfl)<|qb r<|qf 12 r<|ql r r<|qb r<|qf 12 r<|ql r r<|qv (opv_ib (c := I 1) r r r) r<|qv (opv_ib (c := I 0) r r r) r<|qv (opv_ib (c := I 50) r r r) r ?_
 refine qa r<|qn<|kt<|jl<|ju<|js<|sr<|ec r<|nf r<|jx<|ke<|ke<|kh<|kt<|sr<|ec r ?_
 refine fa 12 r<|so r r<|nr<|an r<|jr<|r1 r Ent.take
theorem i161 (a c d e g h j k l m o p q s t u v w A : Nat) : Kp Tryz.prog 63 #[Pt a 0, I 1, I 1] ((sep (c89 a c d e g h j k l m o p q s t u) (sep (c1 c) (c17 m o p v w A)))) (.tuple #[Pt w 0, I 0]) := by
 refine en Tryz.func63 r fun σ F=>sb r<|nj<|sb r<|cu (i160 a c d e g h j k l m o p q s t u) r<|an r<|sb r<|nf r<|sk<|js<|sr<|ec r<|go r<|ea r<|go r<|ea r ?_
 refine go r<|ea r<|go r<|fa 0 r<|go r<|fa 1 r<|go r<|ld r r<|go r<|ll r<|go r<|bf r<|sk<|js<|J_quiet Tryz.mixed (by kernel_rfl)<|qb r ?_
 refine qf 6 r<|ql r r<|qb r<|qf 0 r<|qf 1 r<|ql r r<|qa r<|qv (opv_ix 1 r r r r) r<|ql r r<|qv (opv_ix (o + 1) r r r r) r<|qv (opv_ldO 1 r r r) r<|qb r<|qn<|kt<|jr<|r2 r Ent.take
theorem i162 (a c d e g h j k l m o p q : Nat) : Sp Tryz.prog 104 #[Pt a 0, I 1] (c136 a c d e g h j k l m o p q) (I 0) (c44 a c d e g h j k l m o p q) := by
 refine en Tryz.func104 r fun σ F=>san r<|js<|sr<|ec r<|lf 11 r r<|an r<|cf r<|sk<|sr<|ec r<|fa 11 r<|so r r<|nr<|an r<|jr ?_
 exact r1 r Ent.take
theorem i163 (a c d e g h j k l m o p q : Nat) : Kp Tryz.prog 143 #[Pt a 0, I 0] ((sep (c44 a c d e g h j k l m o p q) (c88 q))) (Ff) := by
 refine en Tryz.func143 r fun σ F=>san r<|sb r<|lf 10 r r<|ea r<|lv (opv_lookC (v := .tuple #[I 0, Ff]) r r r) r<|ed r<|an r<|sb r<|nk<|jr<|r1 r Ent.take
theorem i164 (a c d e g h j k l m o p q : Nat) : Kp Tryz.prog 143 #[Pt a 0, I 1] ((sep (c44 a c d e g h j k l m o p q) (c88 q))) (Tt) := by
 refine en Tryz.func143 r fun σ F=>san r<|sb r<|lf 10 r r<|ea r<|lv (opv_lookC (v := .tuple #[I 1, Tt]) r r r) r<|ed r<|an r<|sb r<|nk<|jr<|r1 r Ent.take
theorem i165 (a d e g h j k l m o p q s : Nat) : Kp Tryz.prog 142 #[Pt a 0, I 1] ((sep (c44 a d e g h j k l m o p q s) (sep (c5 e) (c88 s)))) (.tuple #[I 1, I 1000, Tt]) := by
 refine en Tryz.func142 r fun σ F=>sr<|ec r<|nj<|sa r<|ep false r<|ea r<|go r<|ea r<|go r<|cu i150 r<|go r<|bf r<|sk<|sr<|ec r ?_
 refine fa 0 r<|lf 2 r r<|ib (I 1) r<|an r<|js<|sb r<|fa 0 r<|lf 3 r r<|ll r<|an r<|jl<|ut r<|js<|jb<|sr<|ix 0 r r ?_
 refine ls r<|al r fun b1=>so r r<|nr<|ea r<|lf 0 r r<|cu (i163 a d e g h j k l m o p q s) r<|ea r<|gs r<|gs r<|gs r<|gs r<|eb r<|gs r<|gs r<|gs r ?_
 refine gs r<|gs r<|gs r<|gs r<|an r<|cf r<|jk<|ni (I 1) r<|ut r<|js<|jb<|sr<|ix 3 r r<|ls r<|al r fun b2=>so r r<|nr ?_
 refine ea r<|lf 0 r r<|cu (i164 a d e g h j k l m o p q s) r<|ea r<|go r<|ea r<|go r<|fa 1 r<|go r<|ld r r<|go r<|ec r<|go r<|ea r<|go r<|fa 1 r ?_
 refine go r<|ld r r<|go r<|fa 2 r<|go r<|ld r r<|go r<|ib (I 1000) r<|go r<|eb r<|nt r<|js<|J_quiet Tryz.mixed (by kernel_rfl)<|qf 0 r<|ql r r<|qb r ?_
 refine qv (opv_ib (c := I 0) r r r) r<|qf 1 r<|ql r r<|qv (opv_ib (c := I 0) r r r) r<|qf 2 r<|ql r r<|qv (opv_ib (c := I 1000) r r r) r<|qb r<|qa r<|qn<|kt<|jr<|kq<|kd<|kd<|kq ?_
 refine kd ?_
 exact K_rets r (.tmp r (.tmp r (.tmp r (.nil)))) () trivial r Ent.take
theorem i166 (a c d e g h j k l m o p q : Nat) : Kp Tryz.prog 105 #[Pt a 0, I 1, I 1] ((sep (c44 a c d e g h j k l m o p q) (sep (c5 d) (c88 q)))) (I 0) := by
 refine en Tryz.func105 r fun σ F=>san r<|sb r<|cu (i165 a c d e g h j k l m o p q) r<|ed r<|ec r<|nj<|jb<|sb r<|cu (i164 a c d e g h j k l m o p q) r<|bf r<|sr<|ec r<|go r<|ea r<|go r ?_
 refine ea r<|go r<|ec r<|nf r<|sb r<|lf 10 r r<|ea r<|lv (opv_lookC (v := I 1) r r r) r<|bf r<|skb<|san r<|jr<|r1 r Ent.take
theorem i167 (a c d e g h j k l m o p q : Nat) : Sp Tryz.prog 179 #[Pt a 0, I 1, I 3] ((sep (c44 a c d e g h j k l m o p q) (c88 q))) (.tuple #[]) ((sep (c44 a c d e g h j k l m o p q) (c47 q))) := by
 refine en Tryz.func179 r fun σ F=>sb r<|lf 10 r r<|eb r<|lx r (opx_setC r r r r r) fun _ _=>nr<|bf r<|jk<|z0 r Ent.take
theorem i168 (a c d e g h j k l m o p q : Nat) : Sp Tryz.prog 147 #[Pt a 0, .agg [I 4, I 0, Z, I 3, I 1, I 1].toArray] ((sep (c44 a c d e g h j k l m o p q) (c88 q))) (.agg [I 0, Z, Ff, I 0].toArray) ((sep (c44 a c d e g h j k l m o p q) (c47 q))) := by
 refine en Tryz.func147 r fun σ F=>sr<|bx r fun b1=>al r fun b2=>nj<|J_quiet Tryz.mixed (by kernel_rfl)<|qb r<|qf 10 r<|ql r r<|qf 5 r<|ql r r<|qv (opv_lookC (v := I 1) r r r) r<|qa r<|qn<|kt<|js ?_
 refine jb<|sr<|fa 0 r<|lf 3 r r<|eb r<|go r<|fa 0 r<|go r<|fa 3 r<|go r<|ld r r<|go r<|ec r<|nf r<|sr<|fa 0 r ?_
 refine lf 3 r r<|eb r<|go r<|ea r<|go r<|ec r<|go r<|fa 0 r<|go r<|fa 3 r<|go r<|ld r r<|go r<|ea r<|go r<|ea r ?_
 refine gs r<|gs r<|go r<|ec r<|nf r<|skb<|sa r<|lf 5 r r<|fa 0 r<|lf 3 r r<|cu (i167 a c d e g h j k l m o p q) r<|nr<|lv (opv_build r) r<|so r r<|nk<|jr ?_
 exact K_rets r (.agg r r (.nil)) () trivial r Ent.take
theorem i169 (a c d e g h j k l m o p q : Nat) : Sp Tryz.prog 64 #[Pt a 0, I 1, I 1, .agg [I 4, I 0, Z, I 3].toArray] ((sep (c136 a c d e g h j k l m o p q) (sep (c5 d) (c88 q)))) (.agg [I 0, Z, Ff, I 0].toArray) ((sep (c44 a c d e g h j k l m o p q) (sep (c5 d) (c47 q)))) := by
 refine en Tryz.func64 r fun σ F=>sr<|bx r fun b1=>al r fun b2=>nj<|jb<|sa r<|ep false r<|an r<|cf r<|sa r<|cu i150 r<|eb r<|go r<|fa 0 r<|go r ?_
 refine ld r r<|go r<|ec r<|go r<|fa 0 r<|go r<|ld r r<|go r<|ec r<|nf r<|skb<|js<|sb r<|cu (i162 a c d e g h j k l m o p q) r<|an r<|sb r ?_
 refine nf r<|sk<|js<|sr<|ec r<|cu (i166 a c d e g h j k l m o p q) r<|an r<|sb r<|nf r<|sk<|js<|J_steps (cel b1 [I 4, I 0, Z, I 3] 77) (emp) [] Tryz.mixed<|pf 1 0 r r<|pe 4 r r<|pe 6 r r<|pe 7 r r ?_
 refine pl 2 r r r<|ps 5 r (opv_loadS r)<|ps 8 r (opv_build r)<|pn 0 r (opx_call0 (i155) r r r) fun _ _=>ps 3 r (opv_ixV r r r r)<|pn 9 r (opx_call (first := []) (captured := []) (i168 a c d e g h j k l m o p q) r r r r) fun _ _=>?_
 refine pn 10 r (opx_store r r r (List.all_eq_true.1 r)) fun _ _=>dn<|kt<|jr ?_
 exact K_rets r (.agg r r (.nil)) () trivial r Ent.take
theorem i170 (a c d e g h j k l m o p q s t u v w A B C D E : Nat) : Sp Tryz.prog 22 #[Pt a 0, I 1, I 1, .agg [I 4, I 0, Z, I 3].toArray] ((sep (c89 a c d e g h j k l m o p q s t u) (sep (c1 c) (sep (c17 m o p v w A) (sep (c136 w c d e g h j k l B C D E) (sep (c5 d) (c88 E))))))) (.agg [I 0, Z, Ff, I 0].toArray) ((sep (c89 a c d e g h j k l m o p q s t u) (sep (c1 c) (sep (c17 m o p v w A) (sep (c44 w c d e g h j k l B C D E) (sep (c5 d) (c47 E))))))) := by
 refine en Tryz.func22 r fun σ F=>sr<|bx r fun b1=>al r fun b2=>nr<|ec r<|cu (i161 a c d e g h j k l m o p q s t u v w A) r<|ed r<|an r<|js<|sb r<|nf r<|sk<|sr<|ec r<|ls r ?_
 refine cu (i169 w c d e g h j k l B C D E) r<|so r r<|nk<|jr ?_
 exact K_rets r (.agg r r (.nil)) () trivial r Ent.take
theorem i171 (a c d e g h j k l m o p q s t u v w A B C D E G H M N : Nat) : Sp Tryz.prog 19 #[Pt a 0, I 1] ((sep (c157 a c d e g h j k l m o p q s t u) (sep (c1 c) (sep (c17 m o p v w A) (sep (c135 v c d e g h j k l B C D E) (sep (c5 d) (sep (c23 E) (sep (c136 w c d e g h j k l G H M N) (c88 N))))))))) (.tuple #[]) ((sep (c89 a c d e g h j k l m o p q s t u) (sep (c1 c) (sep (c17 m o p v w A) (sep (c55 v c d e g h j k l B C D E) (sep (c5 d) (sep (c52 E) (sep (c44 w c d e g h j k l G H M N) (c47 N))))))))) := by
 refine en Tryz.func19 r fun σ F=>sb r<|lv (opv_build r) r<|cu (i159 a c d e g h j k l m o p q s t u v w A B C D E) r<|nk<|jg<|eb r<|lv (opv_build r) r<|cu (i170 a c d e g h j k l m o p q s t u v w A G H M N) r<|ln<|z0 r Ent.take
theorem i172 (a d e g h j k l m o p q s t u v : Nat) : Sp Tryz.prog 60 #[Pt a 0, I 10] (c89 a d e g h j k l m o p q s t u v) (I 0) (c13 a d e g h j k l m o p q s t u v) := by
 refine en Tryz.func60 r fun σ F=>san r<|js<|jb<|sa r<|ep false r<|an r<|cf r<|sr<|ec r<|go r<|ea r<|go r<|ec r<|nf r<|sr ?_
 refine ec r<|lf 12 r r<|bf r<|skb<|js<|js<|J_quiet Tryz.mixed (by kernel_rfl)<|qb r<|qf 12 r<|ql r r<|qb r<|qf 12 r<|ql r r<|qv (opv_ib (c := I 1) r r r) r<|qv (opv_ib (c := I 0) r r r) r<|qv (opv_ib (c := I 50) r r r) r ?_
 refine qa r<|qn<|kt<|jl<|ju<|js<|sr<|ec r<|nf r<|jx<|ke<|ke<|kh<|kt<|sr<|ec r ?_
 refine fa 12 r<|so r r<|nr<|an r<|jr<|r1 r Ent.take
theorem i173 (a c d e g h j k l m o p q s t u v w A : Nat) : Sp Tryz.prog 63 #[Pt a 0, I 10, I 0] ((sep (c89 a c d e g h j k l m o p q s t u) (sep (c1 c) (c17 m o p v w A)))) (.tuple #[Pt v 0, I 0]) ((sep (c13 a c d e g h j k l m o p q s t u) (sep (c1 c) (c17 m o p v w A)))) := by
 refine en Tryz.func63 r fun σ F=>sb r<|nj<|sb r<|cu (i172 a c d e g h j k l m o p q s t u) r<|an r<|sb r<|nf r<|sk<|js<|sr<|ec r<|go r<|ea r<|go r<|ea r ?_
 refine go r<|ea r<|go r<|fa 0 r<|go r<|fa 1 r<|go r<|ld r r<|go r<|ll r<|go r<|bf r<|sk<|js<|J_quiet Tryz.mixed (by kernel_rfl)<|qb r ?_
 refine qf 6 r<|ql r r<|qb r<|qf 0 r<|qf 1 r<|ql r r<|qa r<|qv (opv_ix 0 r r r r) r<|ql r r<|qv (opv_ix o r r r r) r<|qv (opv_ldO 0 r r r) r<|qb r<|qn<|kt<|jr<|r2 r Ent.take
theorem i174 : Kp Tryz.prog 103 #[I 10] (emp) (Tt) := by
 refine en Tryz.func103 r fun σ F=>J_emp<|san r<|sr<|ec r<|go r<|ea r<|go r<|ec r<|nk<|jr<|r1 r Ent.take
theorem i175 (a c d e g h j k l m o p q : Nat) : Sp Tryz.prog 104 #[Pt a 0, I 10] (c55 a c d e g h j k l m o p q) (I 0) (c45 a c d e g h j k l m o p q) := by
 refine en Tryz.func104 r fun σ F=>san r<|js<|sr<|ec r<|lf 11 r r<|an r<|cf r<|sk<|sr<|ec r<|fa 11 r<|so r r<|nr<|an r<|jr ?_
 exact r1 r Ent.take
theorem i176 (a c d e g h j k l m o p q : Nat) : Kp Tryz.prog 143 #[Pt a 0, I 0] ((sep (c45 a c d e g h j k l m o p q) (c52 q))) (Tt) := by
 refine en Tryz.func143 r fun σ F=>san r<|sb r<|lf 10 r r<|ea r<|lv (opv_lookC (v := .tuple #[I 3, Tt]) r r r) r<|ed r<|an r<|sb r<|nk<|jr<|r1 r Ent.take
theorem i177 (a d e g h j k l m o p q s : Nat) : Kp Tryz.prog 142 #[Pt a 0, I 10] ((sep (c45 a d e g h j k l m o p q s) (sep (c5 e) (c52 s)))) (.tuple #[I 0, I 1000, Tt]) := by
 refine en Tryz.func142 r fun σ F=>sr<|ec r<|nj<|sa r<|ep false r<|ea r<|go r<|ea r<|go r<|cu i174 r<|go r<|bf r<|sk<|sr<|ec r ?_
 refine fa 0 r<|lf 2 r r<|ib (I 10) r<|an r<|js<|sb r<|fa 0 r<|lf 3 r r<|ll r<|an r<|jl<|ut r<|js<|jb<|sr<|ix 0 r r ?_
 refine ls r<|al r fun b1=>so r r<|nr<|ea r<|lf 0 r r<|cu (i176 a d e g h j k l m o p q s) r<|ea r<|go r<|ea r<|go r<|fa 1 r<|go r<|ld r r<|go r<|ec r ?_
 refine go r<|ea r<|go r<|fa 1 r<|go r<|ld r r<|go r<|fa 2 r<|go r<|ld r r<|go r<|ib (I 1000) r<|go r<|eb r<|nt r<|js ?_
 refine J_quiet Tryz.mixed (by kernel_rfl)<|qf 0 r<|ql r r<|qb r<|qv (opv_ib (c := I 0) r r r) r<|qf 1 r<|ql r r<|qv (opv_ib (c := I 0) r r r) r<|qf 2 r<|ql r r<|qv (opv_ib (c := I 1000) r r r) r<|qb r<|qa r<|qn<|kt<|jr ?_
 refine kq<|kd<|kd<|kq<|kd ?_
 exact K_rets r (.tmp r (.tmp r (.tmp r (.nil)))) () trivial r Ent.take
theorem i178 (a c d e g h j k l m o p q : Nat) : Kp Tryz.prog 105 #[Pt a 0, I 10, I 0] ((sep (c45 a c d e g h j k l m o p q) (sep (c5 d) (c52 q)))) (I 0) := by
 refine en Tryz.func105 r fun σ F=>san r<|sb r<|cu (i177 a c d e g h j k l m o p q) r<|ed r<|ec r<|nj<|jb<|sb r<|cu (i176 a c d e g h j k l m o p q) r<|bf r<|sr<|ec r<|go r<|ea r<|go r ?_
 refine ea r<|go r<|ec r<|nf r<|sb r<|lf 10 r r<|ea r<|lv (opv_lookC (v := I 3) r r r) r<|bf r<|skb<|san r<|jr<|r1 r Ent.take
theorem i179 (a c d e g h j k : Nat) : Kp Tryz.prog 198 #[.agg (k0 a c d e g h j k).toArray, I 10] (c2 h j k) (.tuple #[.agg k5.toArray, Tt]) := by
 refine en Tryz.func198 r fun σ F=>sr<|bx r fun b1=>al r fun b2=>an r<|js<|sr<|lf 5 r r<|ll r<|an r<|jl<|ut r<|js<|jb<|sr<|ix j r r ?_
 refine lv (opv_ldOS 0 r r) r<|al r fun b3=>so r r<|nr<|lf 0 r r<|eb r<|nt r<|sr<|ls r<|so r r<|an r<|jr<|kq<|kd<|kd<|kq ?_
 refine kd ?_
 exact K_rets r (.agg r r (.tmp r (.nil))) () trivial r Ent.take
theorem i180 (a c d e g h j k l m o p q : Nat) : Kp Tryz.prog 175 #[Pt a 0, .agg k13.toArray, Tt] ((sep (c45 a c d e g h j k l m o p q) (sep (c2 j k l) (c52 q)))) (I 0) := by
 refine en Tryz.func175 r fun σ F=>sr<|bx r fun b1=>an r ?_
 refine J_cut (X := Nat) (fun x6 => [(0, Pt a 0), (1, .agg k13.toArray), (2, Tt), (4, Pt b1 0), (6, I 0), (10, Pt a 0), (11, Pt a 0), (12, Pt a 0), (14, Pt b1 0), (15, Pt b1 1), (13, .agg (k0 c d e g h j k l).toArray), (16, I 10), (17, .tuple #[.agg k5.toArray, Tt]), (9, .tuple #[.agg k5.toArray, Tt]), (18, .agg k5.toArray), (19, Tt), (7, Pt x6 0), (8, Tt)]) (fun x6 => (sep (c45 a c d e g h j k l m o p q) (sep (c176 b1) (sep (c2 j k l) (sep (c124 x6) (sep (c52 q) (F))))))) (fun _ => True) ?_ (fun x6 _ => ?_)
 · refine J_steps ((sep (c45 a c d e g h j k l m o p q) (c176 b1))) (emp) [] Tryz.mixed<|pe 0 r r<|pe 1 r r<|pf 2 0 r r<|pf 4 0 r r<|pf 5 1 r r<|ps 3 r (opv_loadS r)<|pl 6 r r r ?_
   refine R_a [7, 11] (by kernel_rfl) rfl fun i hi => ?_
   simp only [List.mem_cons, List.not_mem_nil, or_false] at hi
   rcases hi with rfl | rfl
   · refine R_an r r (opx_call0 (i179 c d e g h j k l) r r r) fun _ _=>pe 8 r r<|pe 9 r r<|pe 10 r r<|pn 11 r (opx_alloc r) fun b4 _=>?_
     refine pn 12 r (opx_store r r r (List.all_eq_true.1 r)) fun _ _=>pe 13 r r<|dn<|kc b4 r Ent.take
   · refine R_an r r (opx_alloc r) fun b5 _=>pn 7 r (opx_call0 (i179 c d e g h j k l) r r r) fun _ _=>pe 8 r r<|pe 9 r r<|pe 10 r r ?_
     refine pn 12 r (opx_store r r r (List.all_eq_true.1 r)) fun _ _=>pe 13 r r<|dn<|kc b5 r Ent.take
 · refine js<|jb<|js<|J_quiet Tryz.mixed (by kernel_rfl)<|qb r<|qf 10 r<|ql r r<|qf 5 r<|ql r r<|qv (opv_lookC (v := I 3) r r r) r<|qb r<|qn<|kt<|cf r<|sr<|ec r ?_
   refine go r<|fa 2 r<|go r<|ld r r<|go r<|fa 5 r<|go r<|ld r r<|go r<|ec r<|nf r<|sr<|lf 4 r r<|ea r<|lv (opv_nB (r := false) r r r) r<|an r ?_
   refine cf r<|skb<|san r<|jr<|r1 r Ent.take
theorem i181 (a c d e g h j k l m o p q s t : Nat) : Kp Tryz.prog 185 #[Pt a 0, I 10] (c93 a c d e g h j k l m o p q s t) (I 0) := by
 refine en Tryz.func185 r fun σ F=>san r<|js<|jb<|sa r<|ep false r<|an r<|cf r<|sr<|ec r<|go r<|ea r<|go r<|ec r<|nf r<|sr ?_
 refine ec r<|lf 10 r r<|bf r<|skb<|san r<|jr<|r1 r Ent.take
theorem i182 (a : Nat) : Kp Tryz.prog 200 #[Pt a 0] (c60 a) (I 0) := by
 refine en Tryz.func200 r fun σ F=>san r<|js<|sa r<|ep false r<|nf r<|sk<|sb r<|lf 7 r r<|an r<|jr<|r1 r Ent.take
theorem i183 (a c d e g h j k l m o p q s t u w A B C D : Nat) : Kp Tryz.prog 205 #[Pt a 0, I 10] ((sep (c103 a c d e g h j k l m o p q s t) (sep (c4 o p q) (sep (c0 m u) (sep (c68 u w A B C D) (c60 C)))))) (Np) := by
 refine en Tryz.func205 r fun σ F=>san r<|san r<|js<|sb r<|lf 8 r r<|ll r<|an r<|jl<|ut r<|js<|jb<|sr<|ix p r r<|lv (opv_ldO 0 r r r) r<|an r ?_
 refine sb r<|lf 7 r r<|ea r<|lv (opv_lookC (v := Pt u 0) r r r) r<|an r<|sb r<|lf 8 r r<|cu (i182 C) r<|eb r<|gs r<|gs r<|gs r<|gs r<|eb r<|gs r<|gs r ?_
 refine gs r<|L_gU r r r<|L_gU r r r<|L_gU r r r<|L_gU r r r<|L_gU r r r<|gs r<|an r<|cf r<|jk<|ni (I 1) r<|uf r<|kt<|sb r<|nk<|jr<|r1 r Ent.take
theorem i184 (a : Nat) : Kp Tryz.prog 237 #[Pt a 0, I 10] (c15 a) (I 0) := by
 refine en Tryz.func237 r fun σ F=>san r<|js<|jb<|sa r<|ep false r<|an r<|cf r<|sr<|ec r<|go r<|ea r<|go r<|ec r<|nf r<|sr ?_
 refine ec r<|lf 1 r r<|bf r<|skb<|san r<|jr<|r1 r Ent.take
theorem i185 (a : Nat) : Kp Tryz.prog 250 #[Ns, .func (.func 251) #[] #[Pt a 0]] (emp) (I (-1)) := by
 refine en Tryz.func250 r fun σ F=>J_emp<|san r<|js<|sa r<|ll r<|an r<|jl<|uf r<|kt<|san r<|jr<|r1 r Ent.take
theorem i186 (a : Nat) : Sp Tryz.prog 234 #[Pt a 0, I 10] (c15 a) (.tuple #[Ns, I 0]) (c42 a) := by
 refine en Tryz.func234 r fun σ F=>sr<|bx r fun b1=>eb r<|nj<|sa r<|ld r r<|cu (i184 a) r<|an r<|sb r<|nf r<|sk<|sa r<|ld r r<|ea r<|fa 1 r ?_
 refine so r r<|nr<|eb r<|lf 0 r r<|lv (opv_makeFunc r r) r<|cu (i185 b1) r<|an r<|js<|sb r<|nt r<|jg<|eb r<|lf 0 r r<|ll r<|an r<|sb r ?_
 refine lf 0 r r<|eb r<|lv ((opv_sliceLhm r r r (by decide)).as (v' := Ns) r) r<|an r<|sr<|ec r<|lf 0 r r<|ea r<|lv ((opv_sliceLlo r r (by decide)).as (v' := Ns) r) r<|ea r<|fa 0 r<|so r r<|nr<|ec r<|nk<|jr ?_
 exact r2 r Ent.take
theorem i187 (a c d e g h j k l m o p q s t : Nat) : Sp Tryz.prog 207 #[Pt a 0, I 10] ((sep (c103 a c d e g h j k l m o p q s t) (c15 s))) (.tuple #[]) ((sep (c103 a c d e g h j k l m o p q s t) (c42 s))) := by
 refine en Tryz.func207 r fun σ F=>sb r<|lf 9 r r<|ea r<|cu (i186 s) r<|ed r<|an r<|sa r<|ll r<|an r<|jl<|uf r<|z0 r Ent.take
theorem i188 (a c d e g h j k l m o p q s t u v w A B C : Nat) : Sp Tryz.prog 186 #[Pt a 0, I 10] ((sep (c93 a c d e g h j k l m o p q s t) (sep (c4 o p q) (sep (c0 m u) (sep (c68 u v w A B C) (sep (c60 B) (c15 s))))))) (.tuple #[]) ((sep (c103 a c d e g h j k l m o p q s t) (sep (c4 o p q) (sep (c0 m u) (sep (c68 u v w A B C) (sep (c60 B) (c42 s))))))) := by
 refine en Tryz.func186 r fun σ F=>sr<|ec r<|fa 10 r<|so r r<|nj<|sb r<|cu (i183 a c d e g h j k l m o p q s t u v w A B C) r<|an r<|jl<|ju<|js<|sa r<|np false r<|nf r<|jx ?_
 refine ke<|ke<|kh<|kt<|jg<|eb r<|cu (i187 a c d e g h j k l m o p q s t) r<|ln<|z0 r Ent.take
theorem i189 : Kp Tryz.prog 23 #[I 0] (emp) (.tuple #[U8 0, U8 0]) := by
 refine en Tryz.func23 r fun σ F=>J_emp<|sb r<|nr<|ea r<|lv ((opv_shr r r (by decide)).as (v' := I 0) r) r<|lv (opv_cv (c := U8 0) r r) r<|ea r<|lv (opv_cv (c := U8 0) r r) r<|eb r<|nk<|jr<|r2 r Ent.take
theorem i190 : Kp Tryz.prog 5 #[I 0, I 0] (emp) (.tuple #[.agg k8.toArray, I 0]) := by
 refine en Tryz.func5 r fun σ F=>J_emp<|sr<|al r fun b1=>an r<|js<|sr<|ec r<|go r<|ea r<|go r<|ec r<|go r<|ea r<|go r<|ec r ?_
 refine go r<|ea r<|go r<|bf r<|sk<|sa r<|lv (opv_cv (c := U8 0) r r) r<|lv (opv_buildA (pl := [(0, 1), (1, 1), (2, 1), (3, 1)]) r r) r<|al r fun b2=>so r r<|nr<|ea r<|cu i189 r<|ec r<|lv (opv_ixA 1 r r r r) r<|so r r ?_
 refine lv (opv_ixA 2 r r r r) r<|so r r<|nr<|ls r<|so r r<|an r<|jr ?_
 exact K_rets r (.agg r r (.tmp r (.nil))) () trivial r Ent.take
theorem i191 : Kp Tryz.prog 23 #[I 10] (emp) (.tuple #[U8 0, U8 10]) := by
 refine en Tryz.func23 r fun σ F=>J_emp<|sb r<|nr<|ea r<|lv ((opv_shr r r (by decide)).as (v' := I 0) r) r<|lv (opv_cv (c := U8 0) r r) r<|ea r<|lv (opv_cv (c := U8 10) r r) r<|eb r<|nk<|jr<|r2 r Ent.take
theorem i192 : Kp Tryz.prog 6 #[I 10] (emp) (.tuple #[.agg k21.toArray, I 0]) := by
 refine en Tryz.func6 r fun σ F=>J_emp<|sr<|al r fun b1=>an r<|js<|sr<|ec r<|go r<|ea r<|go r<|bf r<|sk<|sr<|lv (opv_buildA (pl := [(0, 1), (1, 1), (2, 1), (3, 1)]) r r) r<|al r fun b2=>?_
 refine so r r<|nr<|ea r<|cu i191 r<|ec r<|lv (opv_ixA 2 r r r r) r<|so r r<|lv (opv_ixA 3 r r r r) r<|so r r<|nr<|ls r<|so r r<|an r<|jr ?_
 exact K_rets r (.agg r r (.tmp r (.nil))) () trivial r Ent.take
theorem i193 (a c d e g h j k l o p q s t u : Nat) : FSpec Tryz.prog 199 #[Pt a 0, .agg k5.toArray, .string (⟨#[104, 101, 108, 108, 111]⟩), I 80] (c103 a c d e g h j k l o p q s t u) (fun _ : Nat × Nat × Nat => True) (fun y => .tuple #[Sk y.1 y.2.1 1 y.2.2, I 0]) (fun y => (sep (c103 a c d e g h j k l o p q s t u) (c26 y.1 y.2.1 y.2.2))) := by
 refine en Tryz.func199 r fun σ F=>sr<|bx r fun b1=>eb r<|nk ?_
 refine J_cut (X := Nat) (fun x6 => [(0, Pt a 0), (1, .agg k5.toArray), (2, .string (⟨#[104, 101, 108, 108, 111]⟩)), (3, I 80), (5, Pt b1 0), (8, Ns), (9, I 0), (21, Pt a 0), (22, Pt a 0), (23, Pt a 6), (25, Pt b1 2), (24, I 0), (26, I 0), (27, .tuple #[.agg k8.toArray, I 0]), (20, .tuple #[.agg k8.toArray, I 0]), (28, .agg k8.toArray), (29, I 0), (10, Pt x6 0), (11, I 0)]) (fun x6 => (sep (c103 a c d e g h j k l o p q s t u) (sep (c124 b1) (sep (cel x6 k8 25) (F))))) (fun _ => True) ?_ (fun x6 _ => ?_)
 · refine J_steps ((sep (c103 a c d e g h j k l o p q s t u) (c124 b1))) (emp) [] Tryz.mixed<|pe 0 r r<|pe 1 r r<|pf 2 6 r r<|pf 4 2 r r<|pl 3 r r r<|pl 5 r r r ?_
   refine R_a [6, 10] (by kernel_rfl) rfl fun i hi => ?_
   simp only [List.mem_cons, List.not_mem_nil, or_false] at hi
   rcases hi with rfl | rfl
   · refine R_an r r (opx_call0 (i190) r r r) fun _ _=>pe 7 r r<|pe 8 r r<|pe 9 r r<|pn 10 r (opx_alloc r) fun b4 _=>?_
     refine pn 11 r (opx_store r r r (List.all_eq_true.1 r)) fun _ _=>pe 12 r r<|dn<|kc b4 r Ent.take
   · refine R_an r r (opx_alloc r) fun b5 _=>pn 6 r (opx_call0 (i190) r r r) fun _ _=>pe 7 r r<|pe 8 r r<|pe 9 r r ?_
     refine pn 11 r (opx_store r r r (List.all_eq_true.1 r)) fun _ _=>pe 12 r r<|dn<|kc b5 r Ent.take
 · refine js<|sb r<|nf r<|sk<|sr<|lf 5 r r<|cu i192 r<|ec r<|al r fun b7=>so r r<|an r<|js<|sb r<|nf r<|sk<|sr ?_
   refine ls r<|ls r<|lf 7 r r<|lf 7 r r<|lv (opv_build r) r<|ea r<|cy aw_udp r fun _=>ed r<|an r<|js<|sb r<|nf r<|sk<|js<|J_steps ((sep (c103 a c d e g h j k l o p q s t u) (sep (cel x6 k8 25) (cel b7 k21 25)))) (emp) [] Tryz.mixed<|pe 0 r r ?_
   refine pe 1 r r<|pf 2 11 r r<|pe 6 r r<|pe 8 r r<|pl 3 r r r<|ps 4 r (opv_loadS r)<|ps 5 r (opv_loadS r)<|ps 7 r (opv_build r)<|pn 9 r (opx_call0 (aw_split) r r r) fun y9 _=>pe 10 r r<|pe 11 r r<|pe 12 r r<|pe 13 r r<|pe 14 r r<|dn<|kt ?_
   refine js<|sb r<|nf r<|sk<|san r<|js<|sa r<|ll r<|an r<|jl<|ut r<|js<|jb<|sr<|ix y9.2.1 r r<|lv (opv_ldOS 0 r r) r ?_
   refine al r fun b10=>so r r<|nr<|ls r<|cy aw_ip r fun _=>ed r<|an r<|js<|sb r<|nf r<|sk<|jg<|eb r<|lx r (opx_buildSlice1 (m := 1) r r (by decide) (by decide) r) fun b11 _=>lx r (opx_apN (m := 1) (B := 16) 1 r r (Src.lit) r r r (List.all_eq_true.1 r) r r r r) fun z12 _=>ea r ?_
   refine ln<|ni (I 1) r<|uf r<|kt<|sr<|ec r<|nk<|jr ?_
   exact K_rets r (.tmp r (.tmp r (.nil))) (z12.1, z12.2.1, z12.2.2) trivial r Ent.take
theorem i194 (a d e g : Nat) : FSpec Tryz.prog 201 #[Pt a 0, I 0, Sk d e 1 g] ((sep (c60 a) (c26 d e g))) (fun _ : Nat × Nat × Nat => True) (fun y => I 0) (fun y => (sep (c48 a y.1 y.2.1 y.2.2) (sep (c26 d e g) (c26 y.1 y.2.1 y.2.2)))) := by
 refine en Tryz.func201 r fun σ F=>san r<|js<|jb<|sa r<|ep false r<|an r<|cf r<|sr<|ec r<|go r<|ea r<|go r<|ea r<|go r<|ea r ?_
 refine go r<|fa 4 r<|go r<|ld r r<|go r<|ec r<|nf r<|js<|J_quiet Tryz.mixed (by kernel_rfl)<|qa r<|qv (opv_lenL r) r<|qb r<|qf 5 r<|ql r r<|qb r<|qa r ?_
 refine qf 0 r<|qv (opv_ixA 0 r r r r) r<|ql r r<|qv (opv_lenL r) r<|qv (opv_ib (c := I 1024) r r r) r<|qb r<|qn<|kt<|cf r<|skb<|js<|J_steps (emp) (c60 a) [13] Tryz.mixed<|pe 0 r r<|pe 1 r r<|pe 2 r r<|pe 3 r r ?_
 refine pe 4 r r<|pf 5 0 r r<|ps 6 r (opv_ixA 0 r r r r)<|pe 8 r r<|pe 10 r r<|pf 11 0 r r<|R_ts 7 r (by kernel_rfl) (opv_load r (Rd.look r)) r<|pn 9 r (opx_apN (m := 1) (B := 16) 1 r r (Src.O) r r r (List.all_eq_true.1 r) r r r r) fun z2 _=>ps 12 r (opv_ixA 0 r r r r) ?_
 refine R_o 13 r r (by kernel_rfl) (opx_store r r r (List.all_eq_true.1 r)) fun _ _=>dn<|kt<|sb r<|lf 7 r r<|ea r<|ll r<|ib (I 1) r<|ea r<|fa 7 r<|so r r<|nr<|an r<|jr ?_
 exact K_rets r (.tmp r (.nil)) (z2.1, z2.2.1, z2.2.2) trivial r Ent.take
theorem i195 (a c d e g h j k l m o p q s t u w A B C D : Nat) : FSpec Tryz.prog 176 #[Pt a 0, I 10, I 10, .string (⟨#[104, 101, 108, 108, 111]⟩)] ((sep (c93 a c d e g h j k l m o p q s t) (sep (c2 j k l) (sep (c4 o p q) (sep (c0 m u) (sep (c68 u w A B C D) (sep (c60 C) (c15 s)))))))) (fun _ : Nat × Nat × Nat => True) (fun y => I 0) (fun y => (sep (c71 a c d e g h j k l m o p q s t) (sep (c2 j k l) (sep (c4 o p q) (sep (c0 m u) (sep (c46 u w A B C D) (sep (c48 C y.1 y.2.1 y.2.2) (sep (c42 s) (c26 y.1 y.2.1 y.2.2))))))))) := by
 refine en Tryz.func176 r fun σ F=>san r<|js<|sb r<|cu (i181 a c d e g h j k l m o p q s t) r<|an r<|sb r<|nf r<|sk<|sb r<|fa 0 r<|ls r<|ea r<|cu (i179 c d e g h j k l) r<|ec r<|al r fun b1=>?_
 refine so r r<|an r<|js<|jb<|js<|J_quiet Tryz.mixed (by kernel_rfl)<|qb r<|qa r<|qo r<|qf 4 r<|qo r<|ql r r<|qo r<|qb r<|qa r<|qo r ?_
 refine qf 1 r<|qo r<|ql r r<|qo r<|qa r<|qo r<|qa r<|qo r<|qf 6 r<|qo r<|ql r r<|qo r<|qb r<|qa r<|qn<|kt ?_
 refine cf r<|sa r<|lv ((opv_lenS r).as (v' := I 5) r) r<|lf 8 r r<|bf r<|skb<|sb r<|cu (i188 a c d e g h j k l m o p q s t u w A B C D) r<|nj<|J_quiet Tryz.mixed (by kernel_rfl)<|qb r<|qf 7 r<|ql r r<|qf 5 r<|ql r r<|qv (opv_lookC (v := Pt u 0) r r r) r ?_
 refine qa r<|qn<|kt<|js<|J_steps ((sep (c124 b1) (c68 u w A B C D))) (emp) [] Tryz.mixed<|pe 0 r r<|pe 2 r r<|pe 3 r r<|pe 4 r r<|pf 5 0 r r<|pf 6 3 r r<|ps 1 r (opv_loadS r)<|pl 7 r r r<|pn 8 r (opx_call0 (i193 a c d e g h j k l m o p q s t) r r r) fun y3 _=>pe 9 r r<|pe 10 r r ?_
 refine pe 11 r r<|pe 12 r r<|pe 13 r r<|dn<|kt<|js<|sb r<|nf r<|sk<|sb r<|lf 8 r r<|cu (i182 C) r<|an r<|js<|js<|J_steps ((sep (c68 u w A B C D) (c124 b1))) (emp) [] Tryz.mixed ?_
 refine pe 0 r r<|pe 1 r r<|pf 2 8 r r<|pf 4 6 r r<|pe 6 r r<|pl 3 r r r<|pl 5 r r r<|pn 7 r (opx_call0 (i194 C y3.1 y3.2.1 y3.2.2) r r r) fun y5 _=>pe 8 r r<|dn<|kt<|sb r<|nf r<|sk<|js<|sb r ?_
 refine nt r<|jg<|ec r<|fa 11 r<|so r r<|nr<|ec r<|lf 11 r r<|ib (I 1) r<|lv ((opv_and r r).as (v' := I 1) r) r<|ea r<|fa 11 r<|so r r<|nr<|an r<|jr ?_
 exact K_rets r (.tmp r (.nil)) (y5.1, y5.2.1, y5.2.2) trivial r Ent.take
theorem i196 (a c d e g h j k l m o p q s t u v w A B C D E G H : Nat) : FSpec Tryz.prog 144 #[Pt a 0, .agg k13.toArray] ((sep (c45 a c d e g h j k l m o p q) (sep (c2 j k l) (sep (c52 q) (sep (c93 m c d e g h j k l s t u v w A) (sep (c4 t u v) (sep (c0 s B) (sep (c68 B C D E G H) (sep (c60 G) (c15 w)))))))))) (fun _ : Nat × Nat × Nat => True) (fun y => .agg [I 0, Z, Ff, I 0].toArray) (fun y => (sep (c45 a c d e g h j k l m o p q) (sep (c2 j k l) (sep (c52 q) (sep (c71 m c d e g h j k l s t u v w A) (sep (c4 t u v) (sep (c0 s B) (sep (c46 B C D E G H) (sep (c48 G y.1 y.2.1 y.2.2) (sep (c42 w) (c26 y.1 y.2.1 y.2.2))))))))))) := by
 refine en Tryz.func144 r fun σ F=>sr<|bx r fun b1=>al r fun b2=>nj<|sa r<|ls r<|cu (i180 a c d e g h j k l m o p q) r<|an r<|sb r<|nf r<|sk<|js<|J_steps ((sep (c45 a c d e g h j k l m o p q) (c176 b1))) (emp) [] Tryz.mixed<|pe 0 r r<|pe 1 r r ?_
 refine pf 2 7 r r<|pf 4 4 r r<|pf 6 0 r r<|pf 7 1 r r<|pf 9 0 r r<|pf 10 2 r r<|pl 3 r r r<|pl 5 r r r<|pl 8 r r r<|pl 11 r r r<|pn 12 r (opx_call0 (i195 m c d e g h j k l s t u v w A B C D E G H) r r r) fun y4 _=>ps 13 r (opv_build r) ?_
 refine pn 14 r (opx_store r r r (List.all_eq_true.1 r)) fun _ _=>dn<|kt<|jr ?_
 exact K_rets r (.agg r r (.nil)) (y4.1, y4.2.1, y4.2.2) trivial r Ent.take
theorem i197 (a c d e g h j k l m o p q s t u v w A B C D E G H : Nat) : FSpec Tryz.prog 64 #[Pt a 0, I 10, I 0, .agg k22.toArray] ((sep (c55 a c d e g h j k l m o p q) (sep (c5 d) (sep (c52 q) (sep (c2 j k l) (sep (c93 m c d e g h j k l s t u v w A) (sep (c4 t u v) (sep (c0 s B) (sep (c68 B C D E G H) (sep (c60 G) (c15 w))))))))))) (fun _ : Nat × Nat × Nat => True) (fun y => .agg [I 0, Z, Ff, I 0].toArray) (fun y => (sep (c45 a c d e g h j k l m o p q) (sep (c5 d) (sep (c52 q) (sep (c2 j k l) (sep (c71 m c d e g h j k l s t u v w A) (sep (c4 t u v) (sep (c0 s B) (sep (c46 B C D E G H) (sep (c48 G y.1 y.2.1 y.2.2) (sep (c42 w) (c26 y.1 y.2.1 y.2.2)))))))))))) := by
 refine en Tryz.func64 r fun σ F=>sr<|bx r fun b1=>al r fun b2=>nj<|jb<|sa r<|ep false r<|an r<|cf r<|sa r<|cu i174 r<|eb r<|go r<|fa 0 r<|go r ?_
 refine ld r r<|go r<|ec r<|go r<|fa 0 r<|go r<|ld r r<|go r<|ec r<|nf r<|skb<|js<|sb r<|cu (i175 a c d e g h j k l m o p q) r<|an r<|sb r ?_
 refine nf r<|sk<|js<|sr<|ec r<|cu (i178 a c d e g h j k l m o p q) r<|an r<|sb r<|nf r<|sk<|js<|J_steps (cel b1 k22 77) (emp) [] Tryz.mixed<|pf 1 0 r r<|pe 4 r r<|pe 6 r r<|pe 7 r r ?_
 refine pl 2 r r r<|ps 5 r (opv_loadS r)<|ps 8 r (opv_build r)<|pn 0 r (opx_call0 (i155) r r r) fun _ _=>ps 3 r (opv_ixV r r r r)<|pn 9 r (opx_call (first := []) (captured := []) (i196 a c d e g h j k l m o p q s t u v w A B C D E G H) r r r r) fun y4 _=>?_
 refine pn 10 r (opx_store r r r (List.all_eq_true.1 r)) fun _ _=>dn<|kt<|jr ?_
 exact K_rets r (.agg r r (.nil)) (y4.1, y4.2.1, y4.2.2) trivial r Ent.take
theorem i198 (a c d e g h j k l m o p q s t u v w A B C D E G H M N O P R T U V W X : Nat) : FSpec Tryz.prog 22 #[Pt a 0, I 10, I 0, .agg k22.toArray] ((sep (c89 a c d e g h j k l m o p q s t u) (sep (c1 c) (sep (c17 m o p v w A) (sep (c55 v c d e g h j k l B C D E) (sep (c5 d) (sep (c52 E) (sep (c2 j k l) (sep (c93 B c d e g h j k l G H M N O P) (sep (c4 H M N) (sep (c0 G R) (sep (c68 R T U V W X) (sep (c60 W) (c15 O)))))))))))))) (fun _ : Nat × Nat × Nat => True) (fun y => .agg [I 0, Z, Ff, I 0].toArray) (fun y => (sep (c13 a c d e g h j k l m o p q s t u) (sep (c1 c) (sep (c17 m o p v w A) (sep (c45 v c d e g h j k l B C D E) (sep (c5 d) (sep (c52 E) (sep (c2 j k l) (sep (c71 B c d e g h j k l G H M N O P) (sep (c4 H M N) (sep (c0 G R) (sep (c46 R T U V W X) (sep (c48 W y.1 y.2.1 y.2.2) (sep (c42 O) (c26 y.1 y.2.1 y.2.2))))))))))))))) := by
 refine en Tryz.func22 r fun σ F=>sr<|bx r fun b1=>al r fun b2=>nr<|ec r<|cu (i173 a c d e g h j k l m o p q s t u v w A) r<|ed r<|an r<|js<|sb r<|nf r<|sk<|sr<|ec r<|ls r ?_
 refine cy (i197 v c d e g h j k l B C D E G H M N O P R T U V W X) r fun y3=>so r r<|nk<|jr ?_
 exact K_rets r (.agg r r (.nil)) (y3.1, y3.2.1, y3.2.2) trivial r Ent.take
theorem i199 (a c : Nat) : Kp Tryz.prog 184 #[Ns, .func (.func 159) #[] #[Pt a 0, Pt c 0]] (emp) (I (-1)) := by
 refine en Tryz.func184 r fun σ F=>J_emp<|san r<|js<|sa r<|ll r<|an r<|jl<|uf r<|kt<|san r<|jr<|r1 r Ent.take
theorem i200 (a c : Nat) : Kp Tryz.prog 161 #[Ns, .func (.func 159) #[] #[Pt a 0, Pt c 0]] (emp) (Ns) := by
 refine en Tryz.func161 r fun σ F=>J_emp<|san r<|sb r<|cu (i199 a c) r<|an r<|js<|sb r<|nt r<|sb r<|nk<|jr<|kd<|r1 r Ent.take
theorem i201 (a c d e g h j k l m o p q s t u : Nat) : Kp Tryz.prog 134 #[Pt a 0, I 50, I 0] (c13 a c d e g h j k l m o p q s t u) (.tuple #[]) := by
 refine en Tryz.func134 r fun σ F=>sr<|bx r fun b1=>bx r fun b2=>nr<|lv (opv_makeFunc r r) r<|an r<|js<|sb r<|lf 11 r r<|ll r<|an r<|jl<|uf r<|kt<|jg ?_
 refine ec r<|lf 11 r r<|ea r<|cu (i200 b2 b1) r<|ea r<|fa 11 r<|so r r<|ln<|z0 r Ent.take
theorem i202 (a c d e g h j k l m o p q s t u : Nat) : Kp Tryz.prog 134 #[Pt a 0, I 50, I 1] (c13 a c d e g h j k l m o p q s t u) (.tuple #[]) := by
 refine en Tryz.func134 r fun σ F=>sr<|bx r fun b1=>bx r fun b2=>nr<|lv (opv_makeFunc r r) r<|an r<|js<|sb r<|lf 11 r r<|ll r<|an r<|jl<|uf r<|kt<|jg ?_
 refine ec r<|lf 11 r r<|ea r<|cu (i200 b2 b1) r<|ea r<|fa 11 r<|so r r<|ln<|z0 r Ent.take
theorem i203 : Kp Tryz.prog 103 #[I 50] (emp) (Tt) := by
 refine en Tryz.func103 r fun σ F=>J_emp<|san r<|sr<|ec r<|go r<|ea r<|go r<|ec r<|nk<|jr<|r1 r Ent.take
theorem i204 (a c d e g h j k l m o p q : Nat) : Sp Tryz.prog 104 #[Pt a 0, I 50] (c45 a c d e g h j k l m o p q) (I 0) (c137 a c d e g h j k l m o p q) := by
 refine en Tryz.func104 r fun σ F=>san r<|js<|sr<|ec r<|lf 11 r r<|an r<|cf r<|sk<|sr<|ec r<|fa 11 r<|so r r<|nr<|an r<|jr ?_
 exact r1 r Ent.take
theorem i205 (a c d e g h j k l m o p q s t : Nat) : Kp Tryz.prog 185 #[Pt a 0, I 50] (c71 a c d e g h j k l m o p q s t) (I 0) := by
 refine en Tryz.func185 r fun σ F=>san r<|js<|jb<|sa r<|ep false r<|an r<|cf r<|sr<|ec r<|go r<|ea r<|go r<|ec r<|nf r<|sr ?_
 refine ec r<|lf 10 r r<|bf r<|skb<|san r<|jr<|r1 r Ent.take
theorem i206 (a c d e : Nat) : Kp Tryz.prog 200 #[Pt a 0] (c48 a c d e) (I 1) := by
 refine en Tryz.func200 r fun σ F=>san r<|js<|sa r<|ep false r<|nf r<|sk<|sb r<|lf 7 r r<|an r<|jr<|r1 r Ent.take
theorem i207 (a : Nat) : Kp Tryz.prog 233 #[Pt a 0, I 10] (c53 a) (I 10) := by
 refine en Tryz.func233 r fun σ F=>san r<|js<|jb<|sa r<|ep false r<|an r<|cf r<|sb r<|fa 1 r<|ls r<|lv (opv_build r) r<|lv ((opv_eqlF r r (by simp [Shape, CK.sh]) (by simp [Shape, CK.sh])).as (v' := Tt) (congrArg Value.bool (by simp))) r<|an r<|ct r<|sb r ?_
 refine nk<|jr<|kq<|kd<|r1 r Ent.take
theorem i208 (a c d e g h : Nat) : Kp Tryz.prog 206 #[Pt a 0] ((sep (c46 a c d e g h) (c53 h))) (I 10) := by
 refine en Tryz.func206 r fun σ F=>san r<|js<|J_quiet Tryz.mixed (by kernel_rfl)<|qb r<|qf 9 r<|ql r r<|qb r<|qf 11 r<|ql r r<|Q_call (i207 h) r r (fun _ _ => r) (fun _ _ => Ent.refl _) r<|qa r<|qn<|kt<|jr<|r1 r Ent.take
theorem i209 (a c d e g h j k l m o p q s t u w A B C D E G H : Nat) : Kp Tryz.prog 205 #[Pt a 0, I 50] ((sep (c118 a c d e g h j k l m o p q s t) (sep (c4 o p q) (sep (c0 m u) (sep (c46 u w A B C D) (sep (c48 C E G H) (c53 D))))))) (Pt u 0) := by
 refine en Tryz.func205 r fun σ F=>san r<|san r<|js<|sb r<|lf 8 r r<|ll r<|an r<|jl<|ut r<|js<|jb<|sr<|ix p r r<|lv (opv_ldO 0 r r r) r<|an r ?_
 refine sb r<|lf 7 r r<|ea r<|lv (opv_lookC (v := Pt u 0) r r r) r<|an r<|sb r<|lf 8 r r<|cu (i206 C E G H) r<|eb r<|go r<|ea r<|go r<|cu (i208 u w A B C D) r<|go r<|ea r<|go r ?_
 refine ec r<|go r<|ea r<|go r<|ep true r<|go r<|ea r<|gs r<|gs r<|gs r<|gs r<|gs r<|go r<|eb r<|nt r<|jg ?_
 refine eb r<|ln<|ni (I 1) r<|uf r<|kt<|sb r<|nk<|jr<|r1 r Ent.take
theorem i210 (a : Nat) : Kp Tryz.prog 237 #[Pt a 0, I 10] (c42 a) (I 0) := by
 refine en Tryz.func237 r fun σ F=>san r<|js<|jb<|sa r<|ep false r<|an r<|cf r<|sr<|ec r<|go r<|ea r<|go r<|ec r<|nf r<|sr ?_
 refine ec r<|lf 1 r r<|bf r<|skb<|san r<|jr<|r1 r Ent.take
theorem i211 (a : Nat) : Kp Tryz.prog 234 #[Pt a 0, I 10] (c42 a) (.tuple #[Ns, I 0]) := by
 refine en Tryz.func234 r fun σ F=>sr<|bx r fun b1=>eb r<|nj<|sa r<|ld r r<|cu (i210 a) r<|an r<|sb r<|nf r<|sk<|sa r<|ld r r<|ea r<|fa 1 r ?_
 refine so r r<|nr<|eb r<|lf 0 r r<|lv (opv_makeFunc r r) r<|cu (i185 b1) r<|an r<|js<|sb r<|nt r<|jg<|eb r<|lf 0 r r<|ll r<|an r<|sb r ?_
 refine lf 0 r r<|eb r<|lv ((opv_sliceLhm r r r (by decide)).as (v' := Ns) r) r<|an r<|sr<|ec r<|lf 0 r r<|ea r<|lv ((opv_sliceLlo r r (by decide)).as (v' := Ns) r) r<|ea r<|fa 0 r<|so r r<|nr<|ec r<|nk<|jr ?_
 exact r2 r Ent.take
theorem i212 (a c d e g h j k l m o p q s t : Nat) : Kp Tryz.prog 207 #[Pt a 0, I 10] ((sep (c118 a c d e g h j k l m o p q s t) (c42 s))) (.tuple #[]) := by
 refine en Tryz.func207 r fun σ F=>sb r<|lf 9 r r<|ea r<|cu (i211 s) r<|ed r<|an r<|sa r<|ll r<|an r<|jl<|uf r<|z0 r Ent.take
theorem i213 (a c d e : Nat) : Kp Tryz.prog 235 #[Pt a 0] (c48 a c d e) (I 0) := by
 refine en Tryz.func235 r fun σ F=>san r<|sb r<|lf 6 r r<|an r<|js<|jl<|ju<|js<|sr<|ec r<|fa 0 r<|lv (opv_ixA 0 r r r r) r<|ld r r<|ll r<|an r ?_
 refine cf r<|jx<|ke<|ke<|kh<|kt<|sb r<|nk<|jr<|r1 r Ent.take
theorem i214 (a c d e : Nat) : Sp Tryz.prog 208 #[Pt a 0] ((sep (c48 a c d e) (c26 c d e))) (.tuple #[I 0, .string m2, I 0]) ((sep (c9 a c e d) (c26 c d e))) := by
 refine en Tryz.func208 r fun σ F=>sr<|ec r<|nj<|jb<|sa r<|ep false r<|an r<|cf r<|sb r<|lf 7 r r<|bf r<|skb<|sa r<|cu (i213 a c d e) r<|an r ?_
 refine sr<|ec r<|fa 0 r<|lv (opv_ixA 0 r r r r) r<|ld r r<|ix d r r<|lv (opv_ldO 0 r r r) r<|an r<|js<|J_steps (emp) (c48 a c d e) [12] Tryz.mixed<|pe 0 r r<|pe 1 r r<|pe 2 r r<|pe 3 r r<|pe 4 r r<|pf 5 0 r r ?_
 refine ps 6 r (opv_ixA 0 r r r r)<|pe 9 r r<|pf 10 0 r r<|R_ts 7 r (by kernel_rfl) (opv_load r (Rd.look r)) r<|ps 8 r (opv_ct r r r 1 0 r r)<|ps 11 r (opv_ixA 0 r r r r) ?_
 refine R_o 12 r r (by kernel_rfl) (opx_store r r r (List.all_eq_true.1 r)) fun _ _=>dn<|kt<|sb r<|ib (I 1) r<|eb r<|lf 4 r r<|ib (I 1) r<|ea r<|fa 6 r<|so r r<|nr<|eb r<|lf 7 r r<|ib (I 0) r<|ea r ?_
 refine fa 7 r<|so r r<|nr<|ed r<|an r<|jr ?_
 exact K_rets r (.tmp r (.tmp r (.tmp r (.nil)))) () trivial r Ent.take
theorem i215 : Kp Tryz.prog 236 #[I 10] (emp) (Tt) := by
 refine en Tryz.func236 r fun σ F=>J_emp<|san r<|sr<|ec r<|go r<|ea r<|go r<|ec r<|nk<|jr<|r1 r Ent.take
theorem i216 (a : Nat) : Sp Tryz.prog 209 #[Pt a 0, I 10] (c53 a) (I 0) (c104 a) := by
 refine en Tryz.func209 r fun σ F=>san r<|js<|jb<|sa r<|ep false r<|an r<|cf r<|sa r<|cu i215 r<|bf r<|sr<|ec r<|lf 3 r r<|bf r<|sb r ?_
 refine cu (i207 a) r<|ec r<|nf r<|skb<|sr<|ec r<|lv (opv_build r) r<|eb r<|fa 1 r<|so r r<|ea r<|fa 3 r<|so r r<|nr<|eb r<|lf 4 r r ?_
 refine ib (I 1) r<|ea r<|fa 4 r<|so r r<|nr<|an r<|jr<|r1 r Ent.take
theorem i217 (a c d e g h j k l m o p q s t u v w A B C : Nat) : Kp Tryz.prog 210 #[Pt a 0, Pt c 0, .string m2] ((sep (c46 c d e g h j) (c118 a k l m o p q s t u v w A B C))) (.agg [.string e0, .string e1].toArray) := by
 refine en Tryz.func210 r fun σ F=>sr<|al r fun b1=>nr<|al r fun b2=>nj<|san r<|jl<|ut r<|js<|jb<|sb r<|nk<|J_steps ((sep (c46 c d e g h j) (c118 a k l m o p q s t u v w A B C))) (emp) [] Tryz.mixed<|pe 0 r r<|pe 1 r r ?_
 refine pe 2 r r<|pf 3 0 r r<|pf 4 0 r r<|pe 6 r r<|pe 7 r r<|pf 8 6 r r<|pe 10 r r<|pe 11 r r<|pe 12 r r<|pf 13 10 r r<|pe 15 r r<|pl 5 r r r<|pl 9 r r r<|pl 14 r r r<|ps 16 r (opv_build r)<|pn 17 r (opx_call0 (aw_eth0) r r r) fun _ _=>?_
 refine pe 18 r r<|pe 19 r r<|pe 20 r r<|ps 21 r (opv_ixA 0 r r r r) ?_
 refine pn 22 r (opx_store r r r (List.all_eq_true.1 r)) fun _ _=>dn<|ni (I 1) r<|ut r<|js<|jb<|sb r<|nk<|J_steps ((sep (c46 c d e g h j) (c118 a k l m o p q s t u v w A B C))) (emp) [] Tryz.mixed<|pe 0 r r<|pe 1 r r<|pe 2 r r<|pf 3 0 r r<|pf 4 0 r r<|pe 6 r r<|pe 7 r r ?_
 refine pf 8 6 r r<|pe 10 r r<|pe 11 r r<|pe 12 r r<|pf 13 10 r r<|pe 15 r r<|pl 5 r r r<|pl 9 r r r<|pl 14 r r r<|ps 16 r (opv_build r)<|pn 17 r (opx_call0 (aw_eth1) r r r) fun _ _=>pe 18 r r<|pe 19 r r<|pe 20 r r<|ps 21 r (opv_ixA 1 r r r r) ?_
 refine pn 22 r (opx_store r r r (List.all_eq_true.1 r)) fun _ _=>dn<|ni (I 2) r<|uf r<|kt<|sr<|ls r<|so r r<|nk<|jr ?_
 exact K_rets r (.agg r r (.nil)) () trivial r Ent.take
theorem i218 : Kp Tryz.prog 220 #[I 64] (emp) (I 84) := by
 refine en Tryz.func220 r fun σ F=>J_emp<|san r<|sa r<|ib (I 84) r<|an r<|jr<|r1 r Ent.take
theorem i219 (a : Nat) : FSpec Tryz.prog 211 #[Pt a 0, I 10, I 0, .string e0] (c42 a) (fun _ : Nat × Nat × Nat => True) (fun y => I 0) (fun y => (sep (c163 a y.1 y.2.1 y.2.2) (c24 y.1 y.2.1 y.2.2))) := by
 refine en Tryz.func211 r fun σ F=>san r<|sb r<|cu (i210 a) r<|an r<|js<|jb<|sr<|ec r<|nf r<|sa r<|lv ((opv_lenS r).as (v' := I 64) (congrArg (fun n : Nat => Value.int .i64 n) e0_size)) r<|bf r<|sb r<|lf 0 r r<|ll r ?_
 refine bf r<|skb<|sr<|ed r<|ea r<|lf 2 r r<|lv ((opv_max r r).as (v' := I 10) r) r<|lv (opv_build r) r<|al r fun b1=>so r r<|nj<|J_steps (emp) (cel b1 [I 0, .string e0, I 10, I 0] 250) [7] Tryz.mixed<|pf 0 2 r r<|pe 2 r r<|ps 3 r ((opv_lenS r).as (v' := I 64) (congrArg (fun n : Nat => Value.int .i64 n) e0_size))<|R_ts 1 r (by kernel_rfl) (opv_load r (Rd.look r)) r ?_
 refine pn 4 r (opx_call0 (i218) r r r) fun _ _=>ps 5 r (opv_ib (c := I 94) r r r)<|pf 6 3 r r ?_
 refine R_o 7 r r (by kernel_rfl) (opx_store r r r (List.all_eq_true.1 r)) fun _ _=>dn<|kt<|js<|J_steps (c164 b1) (c42 a) [15, 21] Tryz.mixed<|pe 0 r r<|pe 1 r r<|pe 2 r r<|pe 3 r r<|pe 4 r r<|pf 5 0 r r<|pe 10 r r<|pf 11 3 r r<|ps 7 r (opv_loadS r)<|pl 12 r r r<|R_ts 6 r (by kernel_rfl) (opv_load r (Rd.look r)) r ?_
 refine pn 8 r (opx_buildSlice1 (m := 4) r r (by decide) (by decide) r) fun b4 _=>pn 9 r (opx_apN (m := 4) (B := 40) 1 r r (Src.lit) r r r (List.all_eq_true.1 r) r r r r) fun z5 _=>pe 13 r r<|pf 14 0 r r ?_
 refine R_o 15 r r (by kernel_rfl) (opx_store r r r (List.all_eq_true.1 r)) fun _ _=>R_q 16 r (by kernel_rfl) (opv_nilCheck r) r<|R_q 17 r (by kernel_rfl) (opv_fa 1 r r) r ?_
 refine R_o 18 r r (by kernel_rfl) (opx_store r r r (List.all_eq_true.1 r)) fun _ _=>R_q 19 r (by kernel_rfl) (opv_nilCheck r) r<|R_q 20 r (by kernel_rfl) (opv_fa 2 r r) r ?_
 refine R_o 21 r r (by kernel_rfl) (opx_store r r r (List.all_eq_true.1 r)) fun _ _=>dn<|kt<|san r<|jr ?_
 exact K_rets r (.tmp r (.nil)) (z5.1, z5.2.1, z5.2.2) trivial r Ent.take
theorem i220 : Kp Tryz.prog 212 #[I 0] (emp) (I 1) := by
 refine en Tryz.func212 r fun σ F=>J_emp<|san r<|js<|sr<|ec r<|go r<|ea r<|go r<|bf r<|sk<|sa r<|ib (I 1) r<|an r<|jr<|r1 r Ent.take
theorem i221 (a c d e : Nat) : Kp Tryz.prog 200 #[Pt a 0] (c9 a c d e) (I 0) := by
 refine en Tryz.func200 r fun σ F=>san r<|js<|sa r<|ep false r<|nf r<|sk<|sb r<|lf 7 r r<|an r<|jr<|r1 r Ent.take
theorem i222 (a c d e g h j k l m o p q s t u w A B C D E G H : Nat) : Kp Tryz.prog 205 #[Pt a 0, I 50] ((sep (c72 a c d e g h j k l m o p q s t) (sep (c4 o p q) (sep (c0 m u) (sep (c10 u w A B C D) (c9 C E G H)))))) (Np) := by
 refine en Tryz.func205 r fun σ F=>san r<|san r<|js<|sb r<|lf 8 r r<|ll r<|an r<|jl<|ut r<|js<|jb<|sr<|ix p r r<|lv (opv_ldO 0 r r r) r<|an r ?_
 refine sb r<|lf 7 r r<|ea r<|lv (opv_lookC (v := Pt u 0) r r r) r<|an r<|sb r<|lf 8 r r<|cu (i221 C E G H) r<|eb r<|gs r<|gs r<|gs r<|gs r<|eb r<|gs r<|gs r ?_
 refine gs r<|L_gU r r r<|L_gU r r r<|L_gU r r r<|L_gU r r r<|L_gU r r r<|gs r<|an r<|cf r<|jk<|ni (I 1) r<|uf r<|kt<|sb r<|nk<|jr<|r1 r Ent.take
theorem i223 (a c d e : Nat) : Kp Tryz.prog 237 #[Pt a 0, I 50] (c163 a c d e) (I 0) := by
 refine en Tryz.func237 r fun σ F=>san r<|js<|jb<|sa r<|ep false r<|an r<|cf r<|sr<|ec r<|go r<|ea r<|go r<|ec r<|nf r<|sr ?_
 refine ec r<|lf 1 r r<|bf r<|skb<|san r<|jr<|r1 r Ent.take
theorem i224 (a : Nat) : Kp Tryz.prog 251 #[.agg k14.toArray, Pt a 0] (cel a [I 50] 3) (Tt) := by
 refine en Tryz.func251 r fun σ F=>sr<|bx r fun b1=>an r<|sr<|lf 3 r r<|ld r r<|eb r<|nk<|jr<|r1 r Ent.take
theorem i225 (a c d e : Nat) : Kp Tryz.prog 250 #[Sk a c 1 d, .func (.func 251) #[] #[Pt e 0]] ((sep (c24 a c d) (cel e [I 50] 3))) (I 0) := by
 refine en Tryz.func250 r fun σ F=>san r<|js<|sa r<|ll r<|an r<|jl<|ut r<|js<|jb<|sb r<|nr<|ec r<|ix c r r<|lv (opv_ldOS 0 r r) r<|lx r (opx_call (first := []) (captured := [Pt e 0]) (i224 e) r r r r) fun _ _=>?_
 refine nt r<|sb r<|nk<|jr<|kq<|kd<|kd<|kq<|kd<|r1 r Ent.take
theorem i226 (a c d e : Nat) : Sp Tryz.prog 234 #[Pt a 0, I 50] ((sep (c163 a c d e) (c24 c d e))) (.tuple #[Sk c d 0 0, I 0]) ((sep (c61 a c d e) (c24 c d e))) := by
 refine en Tryz.func234 r fun σ F=>sr<|bx r fun b1=>eb r<|nj<|sa r<|ld r r<|cu (i223 a c d e) r<|an r<|sb r<|nf r<|sk<|sa r<|ld r r<|ea r<|fa 1 r ?_
 refine so r r<|nr<|eb r<|lf 0 r r<|lv (opv_makeFunc r r) r<|cu (i225 c d e b1) r<|an r<|js<|sb r<|nf r<|sk<|sb r<|lf 0 r r<|eb r<|lv (opv_hm0 r r r) r<|an r ?_
 refine sr<|ec r<|lf 0 r r<|ea r<|lv (opv_ct0 r r) r<|ea r<|fa 0 r<|so r r<|nr<|ec r<|nk<|jr<|r2 r Ent.take
theorem i227 (a c d e g h j k l m o p q s t u v w : Nat) : Sp Tryz.prog 207 #[Pt a 0, I 50] ((sep (c72 a c d e g h j k l m o p q s t) (sep (c163 s u v w) (c24 u v w)))) (.tuple #[]) ((sep (c72 a c d e g h j k l m o p q s t) (sep (c61 s u v w) (c24 u v w)))) := by
 refine en Tryz.func207 r fun σ F=>sb r<|lf 9 r r<|ea r<|cu (i226 s u v w) r<|ed r<|an r<|sa r<|ll r<|an r<|jl<|uf r<|z0 r Ent.take
end Go.Proofs.YtpkcniedaabpoaaGreat
