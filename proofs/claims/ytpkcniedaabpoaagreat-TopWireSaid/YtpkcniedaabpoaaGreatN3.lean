/- What functions of the program do at the values that a run of a whole network meets, printed by a program of this project; used by the texts that import this one. -/
import Derived.Test.YtpkcniedaabpoaaGreatM3
import Derived.Test.YtpkcniedaabpoaaGreatM8
import Derived.Test.YtpkcniedaabpoaaGreatN1
import Derived.Test.YtpkcniedaabpoaaGreatN2
set_option linter.unusedVariables false
set_option linter.unusedSimpArgs false
namespace Go.Proofs.YtpkcniedaabpoaaGreat
open Go.SLA
set_option maxRecDepth 100000
set_option synthInstance.maxSize 200000
set_option synthInstance.maxHeartbeats 4000000
set_option maxHeartbeats 8000000
attribute [local irreducible] J L K QL Rg FSpec OpV OpX Rd Back JU m1 m2 m3 e0 e1
theorem i228 (a c d e g h j k l m o p q s t u v w A B C D E G : Nat) : FSpec Tryz.prog 186 #[Pt a 0, I 50] ((sep (c71 a c d e g h j k l m o p q s t) (sep (c4 o p q) (sep (c0 m u) (sep (c46 u v w A B C) (sep (c48 B D E G) (sep (c53 C) (sep (c42 s) (sep (c26 D E G) (c3 t)))))))))) (fun _ : Nat × Nat × Nat => True) (fun y => .tuple #[]) (fun y => (sep (c72 a c d e g h j k l m o p q s t) (sep (c4 o p q) (sep (c0 m u) (sep (c10 u v w A B C) (sep (c9 B D G E) (sep (c104 C) (sep (c61 s y.1 y.2.1 y.2.2) (sep (c26 D E G) (sep (c95 t) (c24 y.1 y.2.1 y.2.2))))))))))) := by
 refine en Tryz.func186 r fun σ F=>sr<|ec r<|fa 10 r<|so r r<|nj<|sb r<|cu (i209 a c d e g h j k l m o p q s t u v w A B C D E G) r<|an r<|jl<|ju<|js<|sa r<|np true r<|nt r<|sk ?_
 refine js<|jb<|sa r<|cu (i208 u v w A B C) r<|an r<|sb r<|cu (i212 a c d e g h j k l m o p q s t) r<|nr<|eb r<|lf 8 r r<|cu (i214 B D E G) r<|ed r<|ec r<|nr<|eb r<|lf 9 r r ?_
 refine ea r<|cu (i216 C) r<|nk ?_
 refine J_cut (X := Nat) (fun x5 => [(0, Pt a 0), (1, I 50), (10, Pt a 0), (11, I 50), (12, Pt a 0), (13, Pt a 10), (14, Pt a 0), (15, I 50), (16, Pt u 0), (4, Pt u 0), (17, Pt u 0), (18, Tt), (22, Pt u 0), (23, I 10), (5, I 10), (24, Pt a 0), (25, I 10), (28, Pt u 0), (29, Pt u 0), (30, Pt u 8), (31, Pt B 0), (32, .tuple #[I 0, .string m2, I 0]), (27, .tuple #[I 0, .string m2, I 0]), (33, I 0), (34, .string m2), (35, I 0), (7, .string m2), (36, Pt u 0), (37, Pt u 0), (38, Pt u 9), (39, Pt C 0), (40, I 10), (42, Pt u 0), (43, Pt u 0), (44, Pt u 0), (45, Pt u 0), (47, Pt a 0), (48, Pt u 0), (49, .string m2), (46, I 10), (50, .agg [.string e0, .string e1].toArray), (51, .agg k15.toArray), (9, Pt x5 0)]) (fun x5 => (sep (c4 o p q) (sep (c0 m u) (sep (c42 s) (sep (c9 B D G E) (sep (c26 D E G) (sep (c104 C) (sep (c46 u v w A B C) (sep (c118 a c d e g h j k l m o p q s t) (sep (c177 x5) (sep (c3 t) (F)))))))))))) (fun _ => True) ?_ (fun x5 _ => ?_)
 · refine J_steps (c46 u v w A B C) (emp) [] Tryz.mixed<|pe 0 r r<|pe 1 r r<|pf 2 0 r r<|pf 3 0 r r<|pe 5 r r<|pe 6 r r<|pe 7 r r<|pl 4 r r r ?_
   refine R_a [8, 10] (by kernel_rfl) rfl fun i hi => ?_
   simp only [List.mem_cons, List.not_mem_nil, or_false] at hi
   rcases hi with rfl | rfl
   · refine R_an r r (opx_call0 (i217 a u v w A B C c d e g h j k l m o p q s t) r r r) fun _ _=>ps 9 r (opv_build r)<|pn 10 r (opx_alloc r) fun b3 _=>?_
     refine pn 11 r (opx_store r r r (List.all_eq_true.1 r)) fun _ _=>dn<|kc b3 r Ent.take
   · refine R_an r r (opx_alloc r) fun b4 _=>pn 8 r (opx_call0 (i217 a u v w A B C c d e g h j k l m o p q s t) r r r) fun _ _=>ps 9 r (opv_build r) ?_
     refine pn 11 r (opx_store r r r (List.all_eq_true.1 r)) fun _ _=>dn<|kc b4 r Ent.take
 · refine js<|J_steps ((sep (c118 a c d e g h j k l m o p q s t) (c177 x5))) (emp) [] Tryz.mixed<|pe 0 r r<|pe 1 r r<|pf 2 9 r r<|pe 4 r r<|pe 5 r r<|pe 6 r r<|pf 7 13 r r<|pf 9 3 r r<|ps 10 r (opv_ixA 3 r r r r)<|pl 3 r r r<|pl 8 r r r<|pl 11 r r r<|pn 12 r (opx_call0 (i219 s) r r r) fun y7 _=>dn ?_
   refine kt<|js<|J_steps ((sep (c118 a c d e g h j k l m o p q s t) (c177 x5))) (emp) [] Tryz.mixed<|pe 0 r r<|pe 1 r r<|pf 2 12 r r<|pe 4 r r<|pe 5 r r<|pf 6 13 r r<|pl 3 r r r<|pl 7 r r r<|ps 8 r (opv_loadS r)<|pn 9 r (opx_putC r r r r) fun _ _=>dn<|kt<|sb r ?_
   refine lf 13 r r<|ib (I 1) r<|ea r<|fa 13 r<|so r r<|nk<|jg<|ed r<|lf 10 r r<|cu i220 r<|eb r<|fa 10 r<|so r r<|ea r<|fa 11 r<|so r r ?_
   refine ln<|kb<|kt<|jg<|eb r<|cu (i222 a c d e g h j k l m o p q s t u v w A B C D G E) r<|ea r<|kr<|ju<|js<|sa r<|np false r<|nf r<|jx<|ke<|ke ?_
   refine kh<|kt<|jg<|eb r<|cu (i227 a c d e g h j k l m o p q s t y7.1 y7.2.1 y7.2.2) r<|ln ?_
   exact K_ends r (.nil) (y7.1, y7.2.1, y7.2.2) trivial r Ent.take
theorem i229 (a c d e g h j k l m o p q s t u v w A B C D E G : Nat) : FSpec Tryz.prog 162 #[Pt a 0, I 50] ((sep (c71 a c d e g h j k l m o p q s t) (sep (c4 o p q) (sep (c0 m u) (sep (c46 u v w A B C) (sep (c48 B D E G) (sep (c53 C) (sep (c42 s) (sep (c26 D E G) (c3 t)))))))))) (fun _ : Nat × Nat × Nat => True) (fun y => .tuple #[Ns, I 0]) (fun y => (sep (c72 a c d e g h j k l m o p q s t) (sep (c4 o p q) (sep (c0 m u) (sep (c10 u v w A B C) (sep (c9 B D G E) (sep (c104 C) (sep (c61 s y.1 y.2.1 y.2.2) (sep (c26 D E G) (sep (c95 t) (c24 y.1 y.2.1 y.2.2))))))))))) := by
 refine en Tryz.func162 r fun σ F=>sb r<|nj<|sb r<|cu (i205 a c d e g h j k l m o p q s t) r<|an r<|sb r<|nf r<|sk<|sb r<|cy (i228 a c d e g h j k l m o p q s t u v w A B C D E G) r fun y1=>nr<|eb r<|lf 14 r r<|an r<|sb r ?_
 refine fa 14 r<|so r r<|nr<|ec r<|nk<|jr ?_
 exact K_rets r (.tmp r (.tmp r (.nil))) (y1.1, y1.2.1, y1.2.2) trivial r Ent.take
theorem i230 (a c d e g h j k l m o p q s t u v w A B C D E G H M N O : Nat) : FSpec Tryz.prog 135 #[Pt a 0, I 50] ((sep (c45 a c d e g h j k l m o p q) (sep (c71 m c d e g h j k l s t u v w A) (sep (c4 t u v) (sep (c0 s B) (sep (c46 B C D E G H) (sep (c48 G M N O) (sep (c53 H) (sep (c42 w) (sep (c26 M N O) (c3 A))))))))))) (fun _ : Nat × Nat × Nat => True) (fun y => .tuple #[Ns, I 0]) (fun y => (sep (c137 a c d e g h j k l m o p q) (sep (c72 m c d e g h j k l s t u v w A) (sep (c4 t u v) (sep (c0 s B) (sep (c10 B C D E G H) (sep (c9 G M O N) (sep (c104 H) (sep (c61 w y.1 y.2.1 y.2.2) (sep (c26 M N O) (sep (c95 A) (c24 y.1 y.2.1 y.2.2)))))))))))) := by
 refine en Tryz.func135 r fun σ F=>sb r<|nj<|jb<|sa r<|ep false r<|an r<|cf r<|sa r<|cu i203 r<|bf r<|skb<|js<|sb r<|cu (i204 a c d e g h j k l m o p q) r<|an r ?_
 refine sb r<|nf r<|sk<|sb r<|lf 7 r r<|ea r<|cy (i229 m c d e g h j k l s t u v w A B C D E G H M N O) r fun y1=>ed r<|nk<|jr ?_
 exact K_rets r (.tmp r (.tmp r (.nil))) (y1.1, y1.2.1, y1.2.2) trivial r Ent.take
theorem i231 (a c d e g h j k l m o p q : Nat) : Sp Tryz.prog 104 #[Pt a 0, I 50] (c44 a c d e g h j k l m o p q) (I 0) (c138 a c d e g h j k l m o p q) := by
 refine en Tryz.func104 r fun σ F=>san r<|js<|sr<|ec r<|lf 11 r r<|an r<|cf r<|sk<|sr<|ec r<|fa 11 r<|so r r<|nr<|an r<|jr ?_
 exact r1 r Ent.take
theorem i232 (a c d e g h j k l m o p : Nat) : Kp Tryz.prog 185 #[Pt a 0, I 50] (c69 a c d e g h j k l m o p) (I 0) := by
 refine en Tryz.func185 r fun σ F=>san r<|js<|jb<|sa r<|ep false r<|an r<|cf r<|sr<|ec r<|go r<|ea r<|go r<|ec r<|nf r<|sr ?_
 refine ec r<|lf 10 r r<|bf r<|skb<|san r<|jr<|r1 r Ent.take
theorem i233 (a c d e g h j k l m o p : Nat) : Kp Tryz.prog 205 #[Pt a 0, I 50] (c73 a c d e g h j k l m o p) (Np) := by
 refine en Tryz.func205 r fun σ F=>san r<|san r<|js<|sb r<|lf 8 r r<|ll r<|an r<|jl<|uf r<|kt<|sb r<|nk<|jr<|r1 r Ent.take
theorem i234 (a : Nat) : Kp Tryz.prog 237 #[Pt a 0, I 50] (c15 a) (I 0) := by
 refine en Tryz.func237 r fun σ F=>san r<|js<|jb<|sa r<|ep false r<|an r<|cf r<|sr<|ec r<|go r<|ea r<|go r<|ec r<|nf r<|sr ?_
 refine ec r<|lf 1 r r<|bf r<|skb<|san r<|jr<|r1 r Ent.take
theorem i235 (a : Nat) : Sp Tryz.prog 234 #[Pt a 0, I 50] (c15 a) (.tuple #[Ns, I 0]) (c27 a) := by
 refine en Tryz.func234 r fun σ F=>sr<|bx r fun b1=>eb r<|nj<|sa r<|ld r r<|cu (i234 a) r<|an r<|sb r<|nf r<|sk<|sa r<|ld r r<|ea r<|fa 1 r ?_
 refine so r r<|nr<|eb r<|lf 0 r r<|lv (opv_makeFunc r r) r<|cu (i185 b1) r<|an r<|js<|sb r<|nt r<|jg<|eb r<|lf 0 r r<|ll r<|an r<|sb r ?_
 refine lf 0 r r<|eb r<|lv ((opv_sliceLhm r r r (by decide)).as (v' := Ns) r) r<|an r<|sr<|ec r<|lf 0 r r<|ea r<|lv ((opv_sliceLlo r r (by decide)).as (v' := Ns) r) r<|ea r<|fa 0 r<|so r r<|nr<|ec r<|nk<|jr ?_
 exact r2 r Ent.take
theorem i236 (a c d e g h j k l m o p : Nat) : Sp Tryz.prog 207 #[Pt a 0, I 50] ((sep (c73 a c d e g h j k l m o p) (c15 o))) (.tuple #[]) ((sep (c73 a c d e g h j k l m o p) (c27 o))) := by
 refine en Tryz.func207 r fun σ F=>sb r<|lf 9 r r<|ea r<|cu (i235 o) r<|ed r<|an r<|sa r<|ll r<|an r<|jl<|uf r<|z0 r Ent.take
theorem i237 (a c d e g h j k l m o p : Nat) : Sp Tryz.prog 186 #[Pt a 0, I 50] ((sep (c69 a c d e g h j k l m o p) (c15 o))) (.tuple #[]) ((sep (c73 a c d e g h j k l m o p) (c27 o))) := by
 refine en Tryz.func186 r fun σ F=>sr<|ec r<|fa 10 r<|so r r<|nj<|sb r<|cu (i233 a c d e g h j k l m o p) r<|an r<|jl<|ju<|js<|sa r<|np false r<|nf r<|jx ?_
 refine ke<|ke<|kh<|kt<|jg<|eb r<|cu (i236 a c d e g h j k l m o p) r<|ln<|z0 r Ent.take
theorem i238 (a c d e g h j k l m o p : Nat) : Sp Tryz.prog 162 #[Pt a 0, I 50] ((sep (c69 a c d e g h j k l m o p) (c15 o))) (.tuple #[Ns, I 0]) ((sep (c73 a c d e g h j k l m o p) (c27 o))) := by
 refine en Tryz.func162 r fun σ F=>sb r<|nj<|sb r<|cu (i232 a c d e g h j k l m o p) r<|an r<|sb r<|nf r<|sk<|sb r<|cu (i237 a c d e g h j k l m o p) r<|nr<|eb r<|lf 14 r r<|an r<|sb r ?_
 refine fa 14 r<|so r r<|nr<|ec r<|nk<|jr<|r2 r Ent.take
theorem i239 (a c d e g h j k l m o p q s t u : Nat) : Sp Tryz.prog 135 #[Pt a 0, I 50] ((sep (c44 a c d e g h j k l m o p q) (sep (c69 m c d e g h j k l s t u) (c15 t)))) (.tuple #[Ns, I 0]) ((sep (c138 a c d e g h j k l m o p q) (sep (c73 m c d e g h j k l s t u) (c27 t)))) := by
 refine en Tryz.func135 r fun σ F=>sb r<|nj<|jb<|sa r<|ep false r<|an r<|cf r<|sa r<|cu i203 r<|bf r<|skb<|js<|sb r<|cu (i231 a c d e g h j k l m o p q) r<|an r ?_
 refine sb r<|nf r<|sk<|sb r<|lf 7 r r<|ea r<|cu (i238 m c d e g h j k l s t u) r<|ed r<|nk<|jr<|r2 r Ent.take
theorem i240 (a c d e g h j k l m o p q : Nat) : Sp Tryz.prog 104 #[Pt a 0, I 50] (c117 a c d e g h j k l m o p q) (I 0) (c139 a c d e g h j k l m o p q) := by
 refine en Tryz.func104 r fun σ F=>san r<|js<|sr<|ec r<|lf 11 r r<|an r<|cf r<|sk<|sr<|ec r<|fa 11 r<|so r r<|nr<|an r<|jr ?_
 exact r1 r Ent.take
theorem i241 (a c d e g h j k l m o p : Nat) : Kp Tryz.prog 185 #[Pt a 0, I 50] (c70 a c d e g h j k l m o p) (I 0) := by
 refine en Tryz.func185 r fun σ F=>san r<|js<|jb<|sa r<|ep false r<|an r<|cf r<|sr<|ec r<|go r<|ea r<|go r<|ec r<|nf r<|sr ?_
 refine ec r<|lf 10 r r<|bf r<|skb<|san r<|jr<|r1 r Ent.take
theorem i242 (a c d e g h j k l m o p : Nat) : Kp Tryz.prog 205 #[Pt a 0, I 50] (c74 a c d e g h j k l m o p) (Np) := by
 refine en Tryz.func205 r fun σ F=>san r<|san r<|js<|sb r<|lf 8 r r<|ll r<|an r<|jl<|uf r<|kt<|sb r<|nk<|jr<|r1 r Ent.take
theorem i243 (a c d e g h j k l m o p : Nat) : Sp Tryz.prog 207 #[Pt a 0, I 50] ((sep (c74 a c d e g h j k l m o p) (c15 o))) (.tuple #[]) ((sep (c74 a c d e g h j k l m o p) (c27 o))) := by
 refine en Tryz.func207 r fun σ F=>sb r<|lf 9 r r<|ea r<|cu (i235 o) r<|ed r<|an r<|sa r<|ll r<|an r<|jl<|uf r<|z0 r Ent.take
theorem i244 (a c d e g h j k l m o p : Nat) : Sp Tryz.prog 186 #[Pt a 0, I 50] ((sep (c70 a c d e g h j k l m o p) (c15 o))) (.tuple #[]) ((sep (c74 a c d e g h j k l m o p) (c27 o))) := by
 refine en Tryz.func186 r fun σ F=>sr<|ec r<|fa 10 r<|so r r<|nj<|sb r<|cu (i242 a c d e g h j k l m o p) r<|an r<|jl<|ju<|js<|sa r<|np false r<|nf r<|jx ?_
 refine ke<|ke<|kh<|kt<|jg<|eb r<|cu (i243 a c d e g h j k l m o p) r<|ln<|z0 r Ent.take
theorem i245 (a c d e g h j k l m o p : Nat) : Sp Tryz.prog 162 #[Pt a 0, I 50] ((sep (c70 a c d e g h j k l m o p) (c15 o))) (.tuple #[Ns, I 0]) ((sep (c74 a c d e g h j k l m o p) (c27 o))) := by
 refine en Tryz.func162 r fun σ F=>sb r<|nj<|sb r<|cu (i241 a c d e g h j k l m o p) r<|an r<|sb r<|nf r<|sk<|sb r<|cu (i244 a c d e g h j k l m o p) r<|nr<|eb r<|lf 14 r r<|an r<|sb r ?_
 refine fa 14 r<|so r r<|nr<|ec r<|nk<|jr<|r2 r Ent.take
theorem i246 (a c d e g h j k l m o p q s t u : Nat) : Sp Tryz.prog 135 #[Pt a 0, I 50] ((sep (c117 a c d e g h j k l m o p q) (sep (c70 m c d e g h j k l s t u) (c15 t)))) (.tuple #[Ns, I 0]) ((sep (c139 a c d e g h j k l m o p q) (sep (c74 m c d e g h j k l s t u) (c27 t)))) := by
 refine en Tryz.func135 r fun σ F=>sb r<|nj<|jb<|sa r<|ep false r<|an r<|cf r<|sa r<|cu i203 r<|bf r<|skb<|js<|sb r<|cu (i240 a c d e g h j k l m o p q) r<|an r ?_
 refine sb r<|nf r<|sk<|sb r<|lf 7 r r<|ea r<|cu (i245 m c d e g h j k l s t u) r<|ed r<|nk<|jr<|r2 r Ent.take
theorem i247 (a c d e g h : Nat) : Kp Tryz.prog 100 #[Pt a 0, I 50] (c91 a c d e g h) (I 0) := by
 refine en Tryz.func100 r fun σ F=>san r<|js<|jb<|sa r<|ep false r<|an r<|cf r<|sr<|ec r<|go r<|ea r<|go r<|ec r<|nf r<|sr ?_
 refine ec r<|lf 4 r r<|bf r<|skb<|san r<|jr<|r1 r Ent.take
theorem i248 (a c d e g h : Nat) : Sp Tryz.prog 101 #[Pt a 0, I 50] (c91 a c d e g h) (.tuple #[]) (c105 a c d e g h) := by
 refine en Tryz.func101 r fun σ F=>sr<|ec r<|fa 4 r<|so r r<|nk<|jl<|ju<|js<|sb r<|lf 3 r r<|ll r<|eb r<|gs r<|gs r<|gs r ?_
 refine gs r<|gs r<|gs r<|gs r<|gs r<|gs r<|an r<|cf r<|jx<|ke<|ke<|kh<|z0 r Ent.take
theorem i249 (a : Nat) : Kp Tryz.prog 187 #[Pt a 0, I 50] (c11 a) (I 0) := by
 refine en Tryz.func187 r fun σ F=>san r<|js<|jb<|sa r<|ep false r<|an r<|cf r<|sr<|ec r<|go r<|ea r<|go r<|ec r<|nf r<|sr ?_
 refine ec r<|lf 12 r r<|bf r<|skb<|san r<|jr<|r1 r Ent.take
theorem i250 (a : Nat) : Sp Tryz.prog 188 #[Pt a 0, I 50] (c11 a) (.tuple #[]) (c16 a) := by
 refine en Tryz.func188 r fun σ F=>sr<|ec r<|fa 12 r<|so r r<|nk<|jl<|ju<|js<|sb r<|lf 6 r r<|ea r<|gs r<|gs r<|gs r<|gs r ?_
 refine gs r<|gs r<|gs r<|an r<|cf r<|jx<|ke<|ke<|kh<|z0 r Ent.take
theorem i251 (a : Nat) : Sp Tryz.prog 163 #[Pt a 0, I 50] (c11 a) (.tuple #[Ns, I 0]) (c16 a) := by
 refine en Tryz.func163 r fun σ F=>sb r<|nj<|sb r<|cu (i249 a) r<|an r<|sb r<|nf r<|sk<|sb r<|cu (i250 a) r<|nr<|eb r<|lf 11 r r<|an r<|sb r ?_
 refine fa 11 r<|so r r<|nr<|ec r<|nk<|jr<|r2 r Ent.take
theorem i252 : Kp Tryz.prog 214 #[Ns, I 0, I 0, .func (.func 165) #[] #[]] (emp) (.tuple #[]) := by
 refine en Tryz.func214 r fun σ F=>J_emp<|sa r<|ib (I 1) r<|an r<|jl<|ju<|js<|sr<|ec r<|nf r<|jx<|ke<|ke<|kh<|z0 r Ent.take
theorem i253 : Kp Tryz.prog 189 #[Ns, I 0, .func (.func 165) #[] #[]] (emp) (.tuple #[]) := by
 refine en Tryz.func189 r fun σ F=>J_emp<|san r<|sr<|ec r<|nj<|jl<|ju<|js<|sr<|ec r<|nf r<|jx<|ke<|ke<|kh ?_
 refine kt<|sr<|ed r<|cu i252 r<|nk<|jl<|ju<|js<|sr<|ec r<|nf r<|jx<|ke<|ke<|kh<|z0 r Ent.take
theorem i254 : Kp Tryz.prog 164 #[Ns, .func (.func 165) #[] #[]] (emp) (.tuple #[]) := by
 refine en Tryz.func164 r fun σ F=>J_emp<|jg<|eb r<|ll r<|ea r<|cu i253 r<|ln<|z0 r Ent.take
theorem i255 (a c d e g h j k l : Nat) : Sp Tryz.prog 137 #[Pt a 0, I 50] ((sep (c91 a c d e g h) (sep (c6 c d e j k l) (sep (c11 j) (sep (c11 k) (c11 l)))))) (.tuple #[Ns, I 0]) ((sep (c105 a c d e g h) (sep (c6 c d e j k l) (sep (c16 j) (sep (c16 k) (c16 l)))))) := by
 refine en Tryz.func137 r fun σ F=>sb r<|nj<|sb r<|cu (i247 a c d e g h) r<|an r<|sb r<|nf r<|sk<|sb r<|cu (i248 a c d e g h) r<|nr<|an r<|js<|sb r<|lf 1 r r ?_
 refine ll r<|an r<|jl<|ut r<|js<|jb<|sa r<|ix d r r<|lv (opv_ldO 0 r r r) r<|eb r<|nr<|eb r<|cu (i251 j) r<|ed r<|an r<|sa r ?_
 refine ll r<|an r<|jl<|uf r<|ni (I 1) r<|ut r<|js<|jb<|sa r<|ix (d + 1) r r<|lv (opv_ldO 1 r r r) r<|eb r<|nr<|eb r<|cu (i251 k) r<|ed r ?_
 refine an r<|sa r<|ll r<|an r<|jl<|uf r<|ni (I 2) r<|ut r<|js<|jb<|sa r<|ix (d + 2) r r<|lv (opv_ldO 2 r r r) r<|eb r<|nr<|eb r ?_
 refine cu (i251 l) r<|ed r<|an r<|sa r<|ll r<|an r<|jl<|uf r<|ni (I 3) r<|uf r<|kt<|sa r<|cu i254 r<|nr<|ec r<|nk ?_
 refine jr<|r2 r Ent.take
theorem i256 (a c d e g h : Nat) : Kp Tryz.prog 100 #[Pt a 0, I 50] (c92 a c d e g h) (I 0) := by
 refine en Tryz.func100 r fun σ F=>san r<|js<|jb<|sa r<|ep false r<|an r<|cf r<|sr<|ec r<|go r<|ea r<|go r<|ec r<|nf r<|sr ?_
 refine ec r<|lf 4 r r<|bf r<|skb<|san r<|jr<|r1 r Ent.take
theorem i257 (a c d e g h : Nat) : Sp Tryz.prog 101 #[Pt a 0, I 50] (c92 a c d e g h) (.tuple #[]) (c106 a c d e g h) := by
 refine en Tryz.func101 r fun σ F=>sr<|ec r<|fa 4 r<|so r r<|nk<|jl<|ju<|js<|sb r<|lf 3 r r<|ll r<|eb r<|gs r<|gs r<|gs r ?_
 refine gs r<|gs r<|gs r<|gs r<|gs r<|gs r<|an r<|cf r<|jx<|ke<|ke<|kh<|z0 r Ent.take
theorem i258 (a c d e g h j k l : Nat) : Sp Tryz.prog 137 #[Pt a 0, I 50] ((sep (c92 a c d e g h) (sep (c6 c d e j k l) (sep (c11 j) (sep (c11 k) (c11 l)))))) (.tuple #[Ns, I 0]) ((sep (c106 a c d e g h) (sep (c6 c d e j k l) (sep (c16 j) (sep (c16 k) (c16 l)))))) := by
 refine en Tryz.func137 r fun σ F=>sb r<|nj<|sb r<|cu (i256 a c d e g h) r<|an r<|sb r<|nf r<|sk<|sb r<|cu (i257 a c d e g h) r<|nr<|an r<|js<|sb r<|lf 1 r r ?_
 refine ll r<|an r<|jl<|ut r<|js<|jb<|sa r<|ix d r r<|lv (opv_ldO 0 r r r) r<|eb r<|nr<|eb r<|cu (i251 j) r<|ed r<|an r<|sa r ?_
 refine ll r<|an r<|jl<|uf r<|ni (I 1) r<|ut r<|js<|jb<|sa r<|ix (d + 1) r r<|lv (opv_ldO 1 r r r) r<|eb r<|nr<|eb r<|cu (i251 k) r<|ed r ?_
 refine an r<|sa r<|ll r<|an r<|jl<|uf r<|ni (I 2) r<|ut r<|js<|jb<|sa r<|ix (d + 2) r r<|lv (opv_ldO 2 r r r) r<|eb r<|nr<|eb r ?_
 refine cu (i251 l) r<|ed r<|an r<|sa r<|ll r<|an r<|jl<|uf r<|ni (I 3) r<|uf r<|kt<|sa r<|cu i254 r<|nr<|ec r<|nk ?_
 refine jr<|r2 r Ent.take
theorem i259 (a c d e g h j k l m o p q s t u v w A B C D E G H M N O P R T U V W X Y A0 a0 B0 C0 d0 D0 g0 G0 h0 H0 j0 M0 N0 o0 p0 P0 q0 R0 t0 T0 u0 U0 v0 V0 w0 W0 A1 a1 B1 C1 d1 D1 : Nat) : FSpec Tryz.prog 99 #[Pt a 0, I 50] ((sep (c13 a c d e g h j k l m o p q s t u) (sep (c17 m o p v w A) (sep (c45 v c d e g h j k l B C D E) (sep (c71 B c d e g h j k l G H M N O P) (sep (c4 H M N) (sep (c0 G R) (sep (c46 R T U V W X) (sep (c48 W Y A0 a0) (sep (c53 X) (sep (c42 O) (sep (c26 Y A0 a0) (sep (c3 P) (sep (c44 w c d e g h j k l B0 C0 d0 D0) (sep (c69 B0 c d e g h j k l g0 G0 h0) (sep (c15 G0) (sep (c117 A c d e g h j k l H0 j0 M0 N0) (sep (c70 H0 c d e g h j k l o0 p0 P0) (sep (c15 p0) (sep (c91 q q0 R0 t0 T0 u0) (sep (c6 q0 R0 t0 U0 v0 V0) (sep (c11 U0) (sep (c11 v0) (sep (c11 V0) (sep (c92 s w0 W0 A1 a1 B1) (sep (c6 w0 W0 A1 C1 d1 D1) (sep (c11 C1) (sep (c11 d1) (c11 D1))))))))))))))))))))))))))))) (fun _ : Nat × Nat × Nat => True) (fun y => .tuple #[]) (fun y => (sep (c13 a c d e g h j k l m o p q s t u) (sep (c17 m o p v w A) (sep (c137 v c d e g h j k l B C D E) (sep (c72 B c d e g h j k l G H M N O P) (sep (c4 H M N) (sep (c0 G R) (sep (c10 R T U V W X) (sep (c9 W Y a0 A0) (sep (c104 X) (sep (c61 O y.1 y.2.1 y.2.2) (sep (c26 Y A0 a0) (sep (c95 P) (sep (c138 w c d e g h j k l B0 C0 d0 D0) (sep (c73 B0 c d e g h j k l g0 G0 h0) (sep (c27 G0) (sep (c139 A c d e g h j k l H0 j0 M0 N0) (sep (c74 H0 c d e g h j k l o0 p0 P0) (sep (c27 p0) (sep (c105 q q0 R0 t0 T0 u0) (sep (c6 q0 R0 t0 U0 v0 V0) (sep (c16 U0) (sep (c16 v0) (sep (c16 V0) (sep (c106 s w0 W0 A1 a1 B1) (sep (c6 w0 W0 A1 C1 d1 D1) (sep (c16 C1) (sep (c16 d1) (sep (c16 D1) (c24 y.1 y.2.1 y.2.2)))))))))))))))))))))))))))))) := by
 refine en Tryz.func99 r fun σ F=>js<|san r<|jl<|ut r<|js<|jb<|sb r<|nk<|jg<|ec r<|cu (i201 a c d e g h j k l m o p q s t u) r<|ln<|ni (I 1) r<|ut r<|js ?_
 refine jb<|sb r<|nk<|jg<|ec r<|cu (i202 a c d e g h j k l m o p q s t u) r<|ln<|ni (I 2) r<|uf r<|kt<|js<|sb r<|lf 6 r r<|ll r<|an r<|jl ?_
 refine ut r<|js<|jb<|sa r<|ix o r r<|lv (opv_ldO 0 r r r) r<|eb r<|nr<|eb r<|cy (i230 v c d e g h j k l B C D E G H M N O P R T U V W X Y A0 a0) r fun y1=>ed r<|an r<|sa r<|ll r<|an r<|jl ?_
 refine uf r<|ni (I 1) r<|ut r<|js<|jb<|sa r<|ix (o + 1) r r<|lv (opv_ldO 1 r r r) r<|eb r<|nr<|eb r<|cu (i239 w c d e g h j k l B0 C0 d0 D0 g0 G0 h0) r<|ed r<|an r<|sa r<|ll r ?_
 refine an r<|jl<|uf r<|ni (I 2) r<|ut r<|js<|jb<|sa r<|ix (o + 2) r r<|lv (opv_ldO 2 r r r) r<|eb r<|nr<|eb r<|cu (i246 A c d e g h j k l H0 j0 M0 N0 o0 p0 P0) r<|ed r<|an r ?_
 refine sa r<|ll r<|an r<|jl<|uf r<|ni (I 3) r<|uf r<|kt<|sb r<|fa 7 r<|ls r<|an r<|jl<|ut r<|js<|jb ?_
 refine sa r<|lv (opv_ixV r r r r) r<|eb r<|nr<|eb r<|cu (i255 q q0 R0 t0 T0 u0 U0 v0 V0) r<|ed r<|an r<|sa r<|ll r<|an r<|jl<|uf r<|ni (I 1) r<|ut r<|js ?_
 refine jb<|sa r<|lv (opv_ixV r r r r) r<|eb r<|nr<|eb r<|cu (i258 s w0 W0 A1 a1 B1 C1 d1 D1) r<|ed r<|an r<|sa r<|ll r<|an r<|jl<|uf r<|ni (I 2) r<|uf r ?_
 exact K_ends r (.nil) (y1.1, y1.2.1, y1.2.2) trivial r Ent.take
theorem i260 (a c d e g h j k l m o p q s t u : Nat) : Kp Tryz.prog 134 #[Pt a 0, I 100, I 0] (c13 a c d e g h j k l m o p q s t u) (.tuple #[]) := by
 refine en Tryz.func134 r fun σ F=>sr<|bx r fun b1=>bx r fun b2=>nr<|lv (opv_makeFunc r r) r<|an r<|js<|sb r<|lf 11 r r<|ll r<|an r<|jl<|uf r<|kt<|jg ?_
 refine ec r<|lf 11 r r<|ea r<|cu (i200 b2 b1) r<|ea r<|fa 11 r<|so r r<|ln<|z0 r Ent.take
theorem i261 (a c d e g h j k l m o p q s t u : Nat) : Kp Tryz.prog 134 #[Pt a 0, I 100, I 1] (c13 a c d e g h j k l m o p q s t u) (.tuple #[]) := by
 refine en Tryz.func134 r fun σ F=>sr<|bx r fun b1=>bx r fun b2=>nr<|lv (opv_makeFunc r r) r<|an r<|js<|sb r<|lf 11 r r<|ll r<|an r<|jl<|uf r<|kt<|jg ?_
 refine ec r<|lf 11 r r<|ea r<|cu (i200 b2 b1) r<|ea r<|fa 11 r<|so r r<|ln<|z0 r Ent.take
theorem i262 : Kp Tryz.prog 103 #[I 100] (emp) (Tt) := by
 refine en Tryz.func103 r fun σ F=>J_emp<|san r<|sr<|ec r<|go r<|ea r<|go r<|ec r<|nk<|jr<|r1 r Ent.take
theorem i263 (a c d e g h j k l m o p q : Nat) : Sp Tryz.prog 104 #[Pt a 0, I 100] (c137 a c d e g h j k l m o p q) (I 0) (c140 a c d e g h j k l m o p q) := by
 refine en Tryz.func104 r fun σ F=>san r<|js<|sr<|ec r<|lf 11 r r<|an r<|cf r<|sk<|sr<|ec r<|fa 11 r<|so r r<|nr<|an r<|jr ?_
 exact r1 r Ent.take
theorem i264 (a c d e g h j k l m o p q s t : Nat) : Kp Tryz.prog 185 #[Pt a 0, I 100] (c72 a c d e g h j k l m o p q s t) (I 0) := by
 refine en Tryz.func185 r fun σ F=>san r<|js<|jb<|sa r<|ep false r<|an r<|cf r<|sr<|ec r<|go r<|ea r<|go r<|ec r<|nf r<|sr ?_
 refine ec r<|lf 10 r r<|bf r<|skb<|san r<|jr<|r1 r Ent.take
theorem i265 (a c d e g h j k l m o p q s t u w A B C D E G H : Nat) : Kp Tryz.prog 205 #[Pt a 0, I 100] ((sep (c62 a c d e g h j k l m o p q s t) (sep (c4 o p q) (sep (c0 m u) (sep (c10 u w A B C D) (c9 C E G H)))))) (Np) := by
 refine en Tryz.func205 r fun σ F=>san r<|san r<|js<|sb r<|lf 8 r r<|ll r<|an r<|jl<|ut r<|js<|jb<|sr<|ix p r r<|lv (opv_ldO 0 r r r) r<|an r ?_
 refine sb r<|lf 7 r r<|ea r<|lv (opv_lookC (v := Pt u 0) r r r) r<|an r<|sb r<|lf 8 r r<|cu (i221 C E G H) r<|eb r<|gs r<|gs r<|gs r<|gs r<|eb r<|gs r<|gs r ?_
 refine gs r<|L_gU r r r<|L_gU r r r<|L_gU r r r<|L_gU r r r<|L_gU r r r<|gs r<|an r<|cf r<|jk<|ni (I 1) r<|uf r<|kt<|sb r<|nk<|jr<|r1 r Ent.take
theorem i266 (a c d e : Nat) : Kp Tryz.prog 237 #[Pt a 0, I 100] (c61 a c d e) (I 0) := by
 refine en Tryz.func237 r fun σ F=>san r<|js<|jb<|sa r<|ep false r<|an r<|cf r<|sr<|ec r<|go r<|ea r<|go r<|ec r<|nf r<|sr ?_
 refine ec r<|lf 1 r r<|bf r<|skb<|san r<|jr<|r1 r Ent.take
theorem i267 (a : Nat) : Kp Tryz.prog 251 #[.agg k14.toArray, Pt a 0] (cel a [I 100] 3) (Ff) := by
 refine en Tryz.func251 r fun σ F=>sr<|bx r fun b1=>an r<|sr<|lf 3 r r<|ld r r<|eb r<|nk<|jr<|r1 r Ent.take
theorem i268 (a c d e : Nat) : Kp Tryz.prog 250 #[Sk a c 1 d, .func (.func 251) #[] #[Pt e 0]] ((sep (c24 a c d) (cel e [I 100] 3))) (I (-1)) := by
 refine en Tryz.func250 r fun σ F=>san r<|js<|sa r<|ll r<|an r<|jl<|ut r<|js<|jb<|sb r<|nr<|ec r<|ix c r r<|lv (opv_ldOS 0 r r) r<|lx r (opx_call (first := []) (captured := [Pt e 0]) (i267 e) r r r r) fun _ _=>?_
 refine nf r<|jk<|ni (I 1) r<|uf r<|kt<|san r<|jr<|r1 r Ent.take
theorem i269 (a c d e : Nat) : Sp Tryz.prog 234 #[Pt a 0, I 100] ((sep (c61 a c d e) (c24 c d e))) (.tuple #[Sk c d 1 1, I 0]) ((sep (c63 a c e d) (c24 c d e))) := by
 refine en Tryz.func234 r fun σ F=>sr<|bx r fun b1=>eb r<|nj<|sa r<|ld r r<|cu (i266 a c d e) r<|an r<|sb r<|nf r<|sk<|sa r<|ld r r<|ea r<|fa 1 r ?_
 refine so r r<|nr<|eb r<|lf 0 r r<|lv (opv_makeFunc r r) r<|cu (i268 c d e b1) r<|an r<|js<|sb r<|nt r<|jg<|eb r<|lf 0 r r<|ll r<|an r<|sb r ?_
 refine lf 0 r r<|eb r<|lv (opv_hm 1 1 r r r r r r) r<|an r<|sr<|ec r<|lf 0 r r<|ea r<|lv (opv_ct r r r 1 0 r r) r<|ea r<|fa 0 r<|so r r<|nr<|ec r<|nk<|jr ?_
 exact r2 r Ent.take
theorem i270 (a c d e g h j k l o p q s t u w A C : Nat) : FSpec Tryz.prog 207 #[Pt a 0, I 100] ((sep (c62 a c d e g h j k l o p q s t u) (sep (c61 t w A C) (sep (c24 w A C) (c95 u))))) (fun _ : Nat × Nat × Nat => True) (fun y => .tuple #[]) (fun y => (sep (cel a [I 3, Sk c 0 3 3, I 1000, Sk d 0 3 3, Sk e g 1 h, Sk j k 4 l, I 0, Mp o, Sk p q 1 s, Pt t 0, I 100, I 1, Mp u, I 1, Sk y.1 y.2.1 1 y.2.2] 263) (sep (c63 t w C A) (sep (c24 w A C) (sep (c119 u) (c165 y.1 y.2.1 y.2.2)))))) := by
 refine en Tryz.func207 r fun σ F=>sb r<|lf 9 r r<|ea r<|cu (i269 t w A C) r<|ed r<|an r<|sa r<|ll r<|an r<|jl<|ut r<|js<|jb<|sr<|ix A r r ?_
 refine lv (opv_ldOS 0 r r) r<|al r fun b1=>so r r<|nj<|J_steps ((sep (c62 a c d e g h j k l o p q s t u) (sep (c164 b1) (c95 u)))) (emp) [] Tryz.mixed<|pe 0 r r<|pe 1 r r<|pf 2 12 r r<|pf 4 0 r r<|pl 3 r r r<|pl 5 r r r<|ps 6 r (opv_lookC (v := .agg k15.toArray) r r r)<|pn 7 r (opx_alloc r) fun b3 _=>?_
 refine pn 8 r (opx_store r r r (List.all_eq_true.1 r)) fun _ _=>dn<|kt<|js<|J_steps ((sep (c62 a c d e g h j k l o p q s t u) (c164 b1))) (emp) [] Tryz.mixed<|pe 0 r r<|pe 1 r r<|pf 2 12 r r<|pf 4 0 r r<|pl 3 r r r<|pl 5 r r r<|pn 6 r (opx_delC r r r r) fun _ _=>dn<|kt<|js<|J_steps (c164 b1) (emp) [] Tryz.mixed ?_
 refine pf 0 2 r r<|pf 2 3 r r<|pl 1 r r r<|pf 4 1 r r<|pl 3 r r r ?_
 refine pn 5 r (opx_store r r r (List.all_eq_true.1 r)) fun _ _=>pf 6 2 r r ?_
 refine pn 7 r (opx_store r r r (List.all_eq_true.1 r)) fun _ _=>dn<|kt<|J_steps (cel b3 k16 299) (c62 a c d e g h j k l o p q s t u) [10] Tryz.mixed<|pe 0 r r<|pe 1 r r<|pe 2 r r<|pf 3 14 r r<|ps 5 r (opv_loadS r)<|R_ts 4 r (by kernel_rfl) (opv_load r (Rd.look r)) r<|pn 6 r (opx_buildSlice1 (m := 5) r r (by decide) (by decide) r) fun b6 _=>pn 7 r (opx_apN (m := 5) (B := 56) 1 r r (Src.lit) r r r (List.all_eq_true.1 r) r r r r) fun z7 _=>pe 8 r r<|pf 9 14 r r ?_
 refine R_o 10 r r (by kernel_rfl) (opx_store r r r (List.all_eq_true.1 r)) fun _ _=>dn<|ni (I 1) r<|uf r ?_
 exact K_ends r (.nil) (z7.1, z7.2.1, z7.2.2) trivial r Ent.take
theorem i271 (a c d e g h j k l m o p q s t u v w A B C D E G H M N : Nat) : FSpec Tryz.prog 186 #[Pt a 0, I 100] ((sep (c72 a c d e g h j k l m o p q s t) (sep (c4 o p q) (sep (c0 m u) (sep (c10 u v w A B C) (sep (c9 B D E G) (sep (c61 s H M N) (sep (c24 H M N) (c95 t))))))))) (fun _ : Nat × Nat × Nat => True) (fun y => .tuple #[]) (fun y => (sep (cel a [I 3, Sk c 0 3 3, I 1000, Sk d 0 3 3, Sk e g 1 h, Sk j k 4 l, I 0, Mp m, Sk o p 1 q, Pt s 0, I 100, I 1, Mp t, I 1, Sk y.1 y.2.1 1 y.2.2] 263) (sep (c4 o p q) (sep (c0 m u) (sep (c10 u v w A B C) (sep (c9 B D E G) (sep (c63 s H N M) (sep (c24 H M N) (sep (c119 t) (c165 y.1 y.2.1 y.2.2)))))))))) := by
 refine en Tryz.func186 r fun σ F=>sr<|ec r<|fa 10 r<|so r r<|nj<|sb r<|cu (i265 a c d e g h j k l m o p q s t u v w A B C D E G) r<|an r<|jl<|ju<|js<|sa r<|np false r<|nf r<|jx ?_
 refine ke<|ke<|kh<|kt<|jg<|eb r<|cy (i270 a c d e g h j k l m o p q s t H M N) r fun y1=>ln ?_
 exact K_ends r (.nil) (y1.1, y1.2.1, y1.2.2) trivial r Ent.take
theorem i272 (a c d e g h j k l m o p q s t u v w A B C D E G H M N : Nat) : FSpec Tryz.prog 162 #[Pt a 0, I 100] ((sep (c72 a c d e g h j k l m o p q s t) (sep (c4 o p q) (sep (c0 m u) (sep (c10 u v w A B C) (sep (c9 B D E G) (sep (c61 s H M N) (sep (c24 H M N) (c95 t))))))))) (fun _ : Nat × Nat × Nat => True) (fun y => .tuple #[Sk y.1 y.2.1 1 y.2.2, I 0]) (fun y => (sep (c62 a c d e g h j k l m o p q s t) (sep (c4 o p q) (sep (c0 m u) (sep (c10 u v w A B C) (sep (c9 B D E G) (sep (c63 s H N M) (sep (c24 H M N) (sep (c119 t) (c165 y.1 y.2.1 y.2.2)))))))))) := by
 refine en Tryz.func162 r fun σ F=>sb r<|nj<|sb r<|cu (i264 a c d e g h j k l m o p q s t) r<|an r<|sb r<|nf r<|sk<|sb r<|cy (i271 a c d e g h j k l m o p q s t u v w A B C D E G H M N) r fun y1=>nr<|eb r<|lf 14 r r<|an r<|sb r ?_
 refine fa 14 r<|so r r<|nr<|ec r<|nk<|jr ?_
 exact K_rets r (.tmp r (.tmp r (.nil))) (y1.1, y1.2.1, y1.2.2) trivial r Ent.take
theorem i273 (a c d e g h j k l m o p q s t u v w A B C D E G H M N O P R T : Nat) : FSpec Tryz.prog 135 #[Pt a 0, I 100] ((sep (c137 a c d e g h j k l m o p q) (sep (c72 m c d e g h j k l s t u v w A) (sep (c4 t u v) (sep (c0 s B) (sep (c10 B C D E G H) (sep (c9 G M N O) (sep (c61 w P R T) (sep (c24 P R T) (c95 A)))))))))) (fun _ : Nat × Nat × Nat => True) (fun y => .tuple #[Sk y.1 y.2.1 1 y.2.2, I 0]) (fun y => (sep (c140 a c d e g h j k l m o p q) (sep (c62 m c d e g h j k l s t u v w A) (sep (c4 t u v) (sep (c0 s B) (sep (c10 B C D E G H) (sep (c9 G M N O) (sep (c63 w P T R) (sep (c24 P R T) (sep (c119 A) (c165 y.1 y.2.1 y.2.2))))))))))) := by
 refine en Tryz.func135 r fun σ F=>sb r<|nj<|jb<|sa r<|ep false r<|an r<|cf r<|sa r<|cu i262 r<|bf r<|skb<|js<|sb r<|cu (i263 a c d e g h j k l m o p q) r<|an r ?_
 refine sb r<|nf r<|sk<|sb r<|lf 7 r r<|ea r<|cy (i272 m c d e g h j k l s t u v w A B C D E G H M N O P R T) r fun y1=>ed r<|nk<|jr ?_
 exact K_rets r (.tmp r (.tmp r (.nil))) (y1.1, y1.2.1, y1.2.2) trivial r Ent.take
theorem i274 (a c d e g h : Nat) : Kp Tryz.prog 100 #[Pt a 0, I 100] (c105 a c d e g h) (I 0) := by
 refine en Tryz.func100 r fun σ F=>san r<|js<|jb<|sa r<|ep false r<|an r<|cf r<|sr<|ec r<|go r<|ea r<|go r<|ec r<|nf r<|sr ?_
 refine ec r<|lf 4 r r<|bf r<|skb<|san r<|jr<|r1 r Ent.take
theorem i275 (a c d e g h : Nat) : Sp Tryz.prog 101 #[Pt a 0, I 100] (c105 a c d e g h) (.tuple #[]) (c166 a c d e g h) := by
 refine en Tryz.func101 r fun σ F=>sr<|ec r<|fa 4 r<|so r r<|nk<|jl<|ju<|js<|sb r<|lf 3 r r<|ll r<|eb r<|gs r<|gs r<|gs r ?_
 refine gs r<|gs r<|gs r<|gs r<|gs r<|gs r<|an r<|cf r<|jx<|ke<|ke<|kh<|z0 r Ent.take
theorem i276 (a : Nat) : Kp Tryz.prog 170 #[Pt a 0, I 100] (c33 a) (I 1048000) := by
 refine en Tryz.func170 r fun σ F=>san r<|js<|jb<|sa r<|ep false r<|an r<|cf r<|sr<|ec r<|lf 4 r r<|bf r<|skb<|js<|J_quiet Tryz.mixed (by kernel_rfl)<|qb r ?_
 refine qf 5 r<|ql r r<|qb r<|qf 0 r<|qf 0 r<|ql r r<|qb r<|qa r<|qf 4 r<|ql r r<|qv (opv_ib (c := I 100) r r r) r<|qb r<|qf 0 r<|qv (opv_loadS r) r<|Q_call (i87) r r (fun _ _ => r) (fun _ _ => Ent.refl _) r<|qv ((opv_min r r).as (v' := I 100) r) r ?_
 refine qv (opv_ib (c := I 8000) r r r) r<|qv (opv_ib (c := I 1056000) r r r) r<|qb r<|qf 0 r<|qf 0 r<|ql r r<|qb r<|qf 0 r<|qv (opv_loadS r) r<|Q_call (i87) r r (fun _ _ => r) (fun _ _ => Ent.refl _) r<|qv (opv_ib (c := I 1048000) r r r) r<|qv ((opv_min r r).as (v' := I 1048000) r) r<|qa r<|qn<|kt<|jr ?_
 exact r1 r Ent.take
theorem i277 (a : Nat) : Kp Tryz.prog 171 #[Pt a 0, I 64] (c184 a) (I 800000) := by
 refine en Tryz.func171 r fun σ F=>san r<|js<|sb r<|fa 0 r<|lf 3 r r<|nf r<|sk<|sr<|ec r<|fa 0 r<|ls r<|cu i86 r<|ib (I 800000) r<|an r<|jr ?_
 exact r1 r Ent.take
theorem i278 (a : Nat) : Sp Tryz.prog 140 #[Pt a 0, I 100, I 64] (c33 a) (I 0) (c49 a) := by
 refine en Tryz.func140 r fun σ F=>san r<|js<|jb<|sa r<|ep false r<|an r<|cf r<|sr<|ec r<|go r<|ea r<|go r<|ec r<|go r<|ea r ?_
 refine go r<|ec r<|nf r<|sr<|ec r<|lf 4 r r<|bf r<|skb<|sr<|ed r<|cu (i276 a) r<|eb r<|fa 5 r<|so r r<|ea r<|fa 4 r ?_
 refine so r r<|nr<|an r<|js<|jb<|sr<|ec r<|fa 0 r<|lf 0 r r<|bf r<|js<|J_quiet Tryz.mixed (by kernel_rfl)<|qb r<|Q_call (i277 a) r r (fun _ _ => r) (fun _ _ => Ent.refl _) r<|qb r<|qf 5 r ?_
 refine ql r r<|qb r<|qn<|kt<|cf r<|skb<|js<|sb r<|nf r<|sk<|js<|J_steps (emp) (c184 a) [10] Tryz.mixed<|pe 0 r r<|pe 1 r r<|pf 2 5 r r<|pe 4 r r ?_
 refine pe 5 r r<|R_ts 3 r (by kernel_rfl) (opv_load r (Rd.look r)) r<|pn 6 r (opx_call0 (i277 a) r r r) fun _ _=>ps 7 r (opv_ib (c := I 248000) r r r)<|pe 8 r r<|pf 9 5 r r ?_
 refine R_o 10 r r (by kernel_rfl) (opx_store r r r (List.all_eq_true.1 r)) fun _ _=>dn<|kt<|sb r<|lf 6 r r<|ib (I 1) r<|ea r<|fa 6 r<|so r r<|nr<|an r<|jr<|r1 r Ent.take
theorem i279 : Kp Tryz.prog 172 #[Ns, I 101, .func (.func 173) #[] #[]] (emp) (.tuple #[I 0, Ff]) := by
 refine en Tryz.func172 r fun σ F=>J_emp<|sb r<|nr<|ea r<|ll r<|an r<|sr<|ec r<|nj<|jl<|ju<|js<|sr<|ec r<|nf r ?_
 refine jx<|ke<|ke<|kh<|kt<|sr<|ed r<|ea r<|gs r<|gs r<|gs r<|gs r<|gs r<|gs r<|gs r<|gs r ?_
 refine ec r<|nk<|jr<|r2 r Ent.take
theorem i280 (a c : Nat) : FSpec Tryz.prog 174 #[Ns, I 0, Sk a 0 1 1] (c167 a c) (fun _ : Nat × Nat × Nat => True) (fun y => Sk y.1 y.2.1 1 y.2.2) (fun y => (sep (c167 a c) (c56 y.1 y.2.1 y.2.2 c))) := by
 refine en Tryz.func174 r fun σ F=>san r<|sb r<|lv ((opv_sliceLlo r r (by decide)).as (v' := Ns) r) r<|nr<|ea r<|ll r<|an r<|js<|sb r<|nf r<|sk<|sa r<|ll r<|an r<|js ?_
 refine sr<|ec r<|nt r<|sb r<|lx r (opx_apN (m := 3) (B := 32) 1 r r (Src.lit) r r r (List.all_eq_true.1 r) r r r r) fun z1 _=>an r<|jr<|kd ?_
 exact K_rets r (.tmp r (.nil)) (z1.1, z1.2.1, z1.2.2) trivial r Ent.take
theorem i281 (a d e g h j k : Nat) : FSpec Tryz.prog 141 #[Pt a 0, .agg (k17 d).toArray] (c166 a e g h j k) (fun _ : Nat × Nat × Nat => True) (fun y => .tuple #[]) (fun y => (sep (c120 a e g h j y.1 y.2.1 y.2.2 k) (c56 y.1 y.2.1 y.2.2 d))) := by
 refine en Tryz.func141 r fun σ F=>sr<|bx r fun b1=>nj<|J_quiet Tryz.mixed (by kernel_rfl)<|qb r<|qf 3 r<|ql r r<|qf 0 r<|ql r r<|qv (opv_ib (c := I 101) r r r) r<|Q_call (i279) r r (fun _ _ => r) (fun _ _ => Ent.refl _) r<|qb r<|qb r<|qa r<|qn ?_
 refine kt<|J_steps (c167 b1 d) (c166 a e g h j k) [11] Tryz.mixed<|pe 0 r r<|pe 1 r r<|pe 2 r r<|pf 3 3 r r<|pe 5 r r<|ps 6 r (opv_loadS r)<|R_ts 4 r (by kernel_rfl) (opv_load r (Rd.look r)) r<|pn 7 r (opx_buildSlice1 (m := 3) r r (by decide) (by decide) r) fun b4 _=>pn 8 r (opx_call0 (i280 b4 d) r r r) fun y5 _=>pe 9 r r<|pf 10 3 r r ?_
 refine R_o 11 r r (by kernel_rfl) (opx_store r r r (List.all_eq_true.1 r)) fun _ _=>dn ?_
 exact K_ends r (.nil) (y5.1, y5.2.1, y5.2.2) trivial r Ent.take
theorem i282 (a c d e g h j k l m o : Nat) : FSpec Tryz.prog 102 #[Pt a 0, I 100, I 0, .string e0, I 0] ((sep (c166 a c d e g h) (sep (c0 g j) (sep (c41 j k l m o) (c33 o))))) (fun _ : Nat × Nat × Nat => True) (fun y => I 0) (fun y => (sep (c120 a c d e g y.1 y.2.1 y.2.2 h) (sep (c0 g j) (sep (c20 j k l m o) (sep (c49 o) (c56 y.1 y.2.1 y.2.2 j)))))) := by
 refine en Tryz.func102 r fun σ F=>san r<|sa r<|cy aw_dec0 r fun _=>ec r<|al r fun b1=>so r r<|an r<|js<|sb r<|nf r<|sk<|js<|J_quiet Tryz.mixed (by kernel_rfl)<|qb r<|qf 2 r ?_
 refine ql r r<|qf 0 r<|ql r r<|qv (opv_lookC (v := Pt j 0) r r r) r<|qa r<|qn<|kt<|js<|jb<|js<|J_quiet Tryz.mixed (by kernel_rfl)<|qf 1 r<|ql r r<|qb r<|qa r<|qo r ?_
 refine qf 2 r<|qo r<|ql r r<|qo r<|qa r<|qo r<|qa r<|qo r<|qf 0 r<|qo r<|ql r r<|qo r<|qb r<|qa r<|qn<|kt ?_
 refine cf r<|sa r<|ep false r<|ea r<|go r<|ea r<|go r<|ea r<|go r<|fa 0 r<|go r<|fa 1 r<|go r<|ld r r<|go r<|ea r ?_
 refine go r<|ec r<|nf r<|sa r<|lv ((opv_lenS r).as (v' := I 64) (congrArg (fun n : Nat => Value.int .i64 n) e0_size)) r<|eb r<|fa 0 r<|lf 3 r r<|bf r<|skb<|js<|sb r<|lf 8 r r<|eb r<|lv ((opv_lenS r).as (v' := I 64) (congrArg (fun n : Nat => Value.int .i64 n) e0_size)) r<|cu (i278 o) r ?_
 refine an r<|sb r<|nf r<|sk<|sr<|ec r<|lf 9 r r<|eb r<|ib (I 100) r<|lv ((opv_max r r).as (v' := I 100) r) r<|ea r<|fa 9 r<|so r r<|nr<|ec r<|lf 9 r r ?_
 refine eb r<|lv (opv_build r) r<|cy (i281 a j c d e g h) r fun y2=>nr<|an r<|jr ?_
 exact K_rets r (.tmp r (.nil)) (y2.1, y2.2.1, y2.2.2) trivial r Ent.take
theorem i283 (a c d e g h j k l m o : Nat) : FSpec Tryz.prog 62 #[Pt a 0, I 100, I 0, .string e0, I 0] ((sep (c105 a c d e g h) (sep (c0 g j) (sep (c41 j k l m o) (sep (c33 o) (c3 h)))))) (fun _ : Nat × Nat × Nat => True) (fun y => I 0) (fun y => (sep (c120 a c d e g y.1 y.2.1 y.2.2 h) (sep (c0 g j) (sep (c20 j k l m o) (sep (c49 o) (sep (c23 h) (c56 y.1 y.2.1 y.2.2 j))))))) := by
 refine en Tryz.func62 r fun σ F=>san r<|sb r<|cu (i274 a c d e g h) r<|an r<|js<|jb<|sr<|ec r<|nf r<|sr<|ec r<|go r<|ea r<|go r<|ec r ?_
 refine go r<|ea r<|go r<|ea r<|go r<|ea r<|go r<|fa 1 r<|go r<|ld r r<|go r<|ll r<|go r<|ec r<|go r<|ea r ?_
 refine go r<|ec r<|go r<|ea r<|go r<|ec r<|nf r<|sr<|ec r<|nf r<|skb<|sb r<|cu (i275 a c d e g h) r<|nr<|ed r<|ea r ?_
 refine cy (i282 a c d e g h j k l m o) r fun y1=>an r<|sb r<|lf 5 r r<|ea r<|lv (opv_lookC (v := I 0) r r r) r<|ib (I 1) r<|lx r (opx_putC r r r r) fun _ _=>nr<|eb r<|nk<|jr ?_
 exact K_rets r (.tmp r (.nil)) (y1.1, y1.2.1, y1.2.2) trivial r Ent.take
theorem i284 (a c d e g h j k l m o p q s t u v w A B C D E G H M : Nat) : FSpec Tryz.prog 160 #[Pt a 0, I 100, .agg [I 0, I 0, I 0, .string e0].toArray] ((sep (c13 a c d e g h j k l m o p q s t u) (sep (c105 q v w A B C) (sep (c0 B D) (sep (c41 D E G H M) (sep (c33 M) (c3 C))))))) (fun _ : Nat × Nat × Nat => True) (fun y => .tuple #[]) (fun y => (sep (c13 a c d e g h j k l m o p q s t u) (sep (c120 q v w A B y.1 y.2.1 y.2.2 C) (sep (c0 B D) (sep (c20 D E G H M) (sep (c49 M) (sep (c23 C) (c56 y.1 y.2.1 y.2.2 D)))))))) := by
 refine en Tryz.func160 r fun σ F=>sr<|bx r fun b1=>nk<|J_steps ((sep (cel b1 [I 0, I 0, I 0, .string e0] 343) (c13 a c d e g h j k l m o p q s t u))) (emp) [] Tryz.mixed<|pe 0 r r<|pf 1 2 r r<|pe 3 r r<|pf 4 7 r r<|pe 7 r r<|pf 8 1 r r<|pf 10 3 r r<|pl 2 r r r<|ps 5 r (opv_ixA 7 r r r r)<|pl 6 r r r<|pl 9 r r r ?_
 refine pl 11 r r r<|pn 12 r (opx_call0 (i283 q v w A B C D E G H M) r r r) fun y3 _=>dn ?_
 exact K_ends r (.nil) (y3.1, y3.2.1, y3.2.2) trivial r Ent.take
theorem i285 (a c d e g h : Nat) : Kp Tryz.prog 100 #[Pt a 0, I 100] (c106 a c d e g h) (I 0) := by
 refine en Tryz.func100 r fun σ F=>san r<|js<|jb<|sa r<|ep false r<|an r<|cf r<|sr<|ec r<|go r<|ea r<|go r<|ec r<|nf r<|sr ?_
 refine ec r<|lf 4 r r<|bf r<|skb<|san r<|jr<|r1 r Ent.take
theorem i286 (a c d e g h : Nat) : Sp Tryz.prog 101 #[Pt a 0, I 100] (c106 a c d e g h) (.tuple #[]) (c168 a c d e g h) := by
 refine en Tryz.func101 r fun σ F=>sr<|ec r<|fa 4 r<|so r r<|nk<|jl<|ju<|js<|sb r<|lf 3 r r<|ll r<|eb r<|gs r<|gs r<|gs r ?_
 refine gs r<|gs r<|gs r<|gs r<|gs r<|gs r<|an r<|cf r<|jx<|ke<|ke<|kh<|z0 r Ent.take
theorem i287 (a c : Nat) : FSpec Tryz.prog 174 #[Ns, I 0, Sk a 0 1 1] (c169 a c) (fun _ : Nat × Nat × Nat => True) (fun y => Sk y.1 y.2.1 1 y.2.2) (fun y => (sep (c169 a c) (c57 y.1 y.2.1 y.2.2 c))) := by
 refine en Tryz.func174 r fun σ F=>san r<|sb r<|lv ((opv_sliceLlo r r (by decide)).as (v' := Ns) r) r<|nr<|ea r<|ll r<|an r<|js<|sb r<|nf r<|sk<|sa r<|ll r<|an r<|js ?_
 refine sr<|ec r<|nt r<|sb r<|lx r (opx_apN (m := 3) (B := 32) 1 r r (Src.lit) r r r (List.all_eq_true.1 r) r r r r) fun z1 _=>an r<|jr<|kd ?_
 exact K_rets r (.tmp r (.nil)) (z1.1, z1.2.1, z1.2.2) trivial r Ent.take
theorem i288 (a d e g h j k : Nat) : FSpec Tryz.prog 141 #[Pt a 0, .agg (k18 d).toArray] (c168 a e g h j k) (fun _ : Nat × Nat × Nat => True) (fun y => .tuple #[]) (fun y => (sep (c121 a e g h j y.1 y.2.1 y.2.2 k) (c57 y.1 y.2.1 y.2.2 d))) := by
 refine en Tryz.func141 r fun σ F=>sr<|bx r fun b1=>nj<|J_quiet Tryz.mixed (by kernel_rfl)<|qb r<|qf 3 r<|ql r r<|qf 0 r<|ql r r<|qv (opv_ib (c := I 101) r r r) r<|Q_call (i279) r r (fun _ _ => r) (fun _ _ => Ent.refl _) r<|qb r<|qb r<|qa r<|qn ?_
 refine kt<|J_steps (c169 b1 d) (c168 a e g h j k) [11] Tryz.mixed<|pe 0 r r<|pe 1 r r<|pe 2 r r<|pf 3 3 r r<|pe 5 r r<|ps 6 r (opv_loadS r)<|R_ts 4 r (by kernel_rfl) (opv_load r (Rd.look r)) r<|pn 7 r (opx_buildSlice1 (m := 3) r r (by decide) (by decide) r) fun b4 _=>pn 8 r (opx_call0 (i287 b4 d) r r r) fun y5 _=>pe 9 r r<|pf 10 3 r r ?_
 refine R_o 11 r r (by kernel_rfl) (opx_store r r r (List.all_eq_true.1 r)) fun _ _=>dn ?_
 exact K_ends r (.nil) (y5.1, y5.2.1, y5.2.2) trivial r Ent.take
theorem i289 (a c d e g h j k l m o : Nat) : FSpec Tryz.prog 102 #[Pt a 0, I 100, I 0, .string e1, I 0] ((sep (c168 a c d e g h) (sep (c0 g j) (sep (c41 j k l m o) (c33 o))))) (fun _ : Nat × Nat × Nat => True) (fun y => I 0) (fun y => (sep (c121 a c d e g y.1 y.2.1 y.2.2 h) (sep (c0 g j) (sep (c20 j k l m o) (sep (c49 o) (c57 y.1 y.2.1 y.2.2 j)))))) := by
 refine en Tryz.func102 r fun σ F=>san r<|sa r<|cy aw_dec1 r fun _=>ec r<|al r fun b1=>so r r<|an r<|js<|sb r<|nf r<|sk<|js<|J_quiet Tryz.mixed (by kernel_rfl)<|qb r<|qf 2 r ?_
 refine ql r r<|qf 0 r<|ql r r<|qv (opv_lookC (v := Pt j 0) r r r) r<|qa r<|qn<|kt<|js<|jb<|js<|J_quiet Tryz.mixed (by kernel_rfl)<|qf 1 r<|ql r r<|qb r<|qa r<|qo r ?_
 refine qf 2 r<|qo r<|ql r r<|qo r<|qa r<|qo r<|qa r<|qo r<|qf 0 r<|qo r<|ql r r<|qo r<|qb r<|qa r<|qn<|kt ?_
 refine cf r<|sa r<|ep false r<|ea r<|go r<|ea r<|go r<|ea r<|go r<|fa 0 r<|go r<|fa 1 r<|go r<|ld r r<|go r<|ea r ?_
 refine go r<|ec r<|nf r<|sa r<|lv ((opv_lenS r).as (v' := I 64) (congrArg (fun n : Nat => Value.int .i64 n) e1_size)) r<|eb r<|fa 0 r<|lf 3 r r<|bf r<|skb<|js<|sb r<|lf 8 r r<|eb r<|lv ((opv_lenS r).as (v' := I 64) (congrArg (fun n : Nat => Value.int .i64 n) e1_size)) r<|cu (i278 o) r ?_
 refine an r<|sb r<|nf r<|sk<|sr<|ec r<|lf 9 r r<|eb r<|ib (I 100) r<|lv ((opv_max r r).as (v' := I 100) r) r<|ea r<|fa 9 r<|so r r<|nr<|ec r<|lf 9 r r ?_
 refine eb r<|lv (opv_build r) r<|cy (i288 a j c d e g h) r fun y2=>nr<|an r<|jr ?_
 exact K_rets r (.tmp r (.nil)) (y2.1, y2.2.1, y2.2.2) trivial r Ent.take
theorem i290 (a c d e g h j k l m o : Nat) : FSpec Tryz.prog 62 #[Pt a 0, I 100, I 0, .string e1, I 0] ((sep (c106 a c d e g h) (sep (c0 g j) (sep (c41 j k l m o) (sep (c33 o) (c3 h)))))) (fun _ : Nat × Nat × Nat => True) (fun y => I 0) (fun y => (sep (c121 a c d e g y.1 y.2.1 y.2.2 h) (sep (c0 g j) (sep (c20 j k l m o) (sep (c49 o) (sep (c23 h) (c57 y.1 y.2.1 y.2.2 j))))))) := by
 refine en Tryz.func62 r fun σ F=>san r<|sb r<|cu (i285 a c d e g h) r<|an r<|js<|jb<|sr<|ec r<|nf r<|sr<|ec r<|go r<|ea r<|go r<|ec r ?_
 refine go r<|ea r<|go r<|ea r<|go r<|ea r<|go r<|fa 1 r<|go r<|ld r r<|go r<|ll r<|go r<|ec r<|go r<|ea r ?_
 refine go r<|ec r<|go r<|ea r<|go r<|ec r<|nf r<|sr<|ec r<|nf r<|skb<|sb r<|cu (i286 a c d e g h) r<|nr<|ed r<|ea r ?_
 refine cy (i289 a c d e g h j k l m o) r fun y1=>an r<|sb r<|lf 5 r r<|ea r<|lv (opv_lookC (v := I 0) r r r) r<|ib (I 1) r<|lx r (opx_putC r r r r) fun _ _=>nr<|eb r<|nk<|jr ?_
 exact K_rets r (.tmp r (.nil)) (y1.1, y1.2.1, y1.2.2) trivial r Ent.take
theorem i291 (a c d e g h j k l m o p q s t u v w A B C D E G H M : Nat) : FSpec Tryz.prog 160 #[Pt a 0, I 100, .agg [I 0, I 0, I 1, .string e1].toArray] ((sep (c13 a c d e g h j k l m o p q s t u) (sep (c106 s v w A B C) (sep (c0 B D) (sep (c41 D E G H M) (sep (c33 M) (c3 C))))))) (fun _ : Nat × Nat × Nat => True) (fun y => .tuple #[]) (fun y => (sep (c13 a c d e g h j k l m o p q s t u) (sep (c121 s v w A B y.1 y.2.1 y.2.2 C) (sep (c0 B D) (sep (c20 D E G H M) (sep (c49 M) (sep (c23 C) (c57 y.1 y.2.1 y.2.2 D)))))))) := by
 refine en Tryz.func160 r fun σ F=>sr<|bx r fun b1=>nk<|J_steps ((sep (cel b1 [I 0, I 0, I 1, .string e1] 343) (c13 a c d e g h j k l m o p q s t u))) (emp) [] Tryz.mixed<|pe 0 r r<|pf 1 2 r r<|pe 3 r r<|pf 4 7 r r<|pe 7 r r<|pf 8 1 r r<|pf 10 3 r r<|pl 2 r r r<|ps 5 r (opv_ixA 8 r r r r)<|pl 6 r r r<|pl 9 r r r ?_
 refine pl 11 r r r<|pn 12 r (opx_call0 (i290 s v w A B C D E G H M) r r r) fun y3 _=>dn ?_
 exact K_ends r (.nil) (y3.1, y3.2.1, y3.2.2) trivial r Ent.take
theorem i292 (a d e g h j k l m o p q s t u w A B C D E G H M N O P R T U V W X Y A0 a0 : Nat) : FSpec Tryz.prog 136 #[Pt a 0, I 100, I 0, .agg k16.toArray] ((sep (c13 a d e g h j k l m o p q s t u w) (sep (c3 w) (sep (mapq u [.int .i64, .int .i64, .int .i64] (fun _ => none)) (sep (c105 s A B C D E) (sep (c0 D G) (sep (c41 G H M N O) (sep (c33 O) (sep (c3 E) (sep (c106 t P R T U V) (sep (c0 U W) (sep (c41 W X Y A0 a0) (sep (c33 a0) (c3 V)))))))))))))) (fun _ : Nat × Nat × Nat × Nat × Nat × Nat => True) (fun y => .tuple #[]) (fun y => (sep (c13 a d e g h j k l m o p q s t u w) (sep (c158 w) (sep (mapq u [.int .i64, .int .i64, .int .i64] (fun _ => none)) (sep (c120 s A B C D y.1 y.2.1 y.2.2.1 E) (sep (c0 D G) (sep (c20 G H M N O) (sep (c49 O) (sep (c23 E) (sep (c121 t P R T U y.2.2.2.1 y.2.2.2.2.1 y.2.2.2.2.2 V) (sep (c0 U W) (sep (c20 W X Y A0 a0) (sep (c49 a0) (sep (c23 V) (sep (c56 y.1 y.2.1 y.2.2.1 G) (c57 y.2.2.2.1 y.2.2.2.2.1 y.2.2.2.2.2 W)))))))))))))))) := by
 refine en Tryz.func136 r fun σ F=>sr<|bx r fun b1=>nj<|sr<|fa 3 r<|ls r<|an r<|jl<|ut r<|js<|jb<|sa r<|lv (opv_ixV r r r r) r<|eb r<|nr ?_
 refine ec r<|lv (opv_build r) r<|al r fun b2=>so r r<|nj<|J_quiet Tryz.mixed (by kernel_rfl)<|qb r<|qf 9 r<|ql r r<|qf 0 r<|ql r r<|qb r<|qf 10 r<|ql r r<|qf 0 r<|ql r r ?_
 refine qv (opv_lookC (v := I 0) r r r) r<|qa r<|qv (opv_build r) r<|qv (opv_lookQ (v := I 0) r r (by simp [Shape, CK.sh]) none (by simp [mput]) r) r<|qa r<|qn<|kt<|jb<|sr<|ec r<|nt r<|jg<|eb r<|ls r<|cy (i284 a d e g h j k l m o p q s t u w A B C D E G H M N O) r fun y3=>ln ?_
 refine kb<|ni (I 1) r<|ut r<|js<|jb<|sa r<|lv (opv_ixV r r r r) r<|eb r<|nr<|ec r<|lv (opv_build r) r<|al r fun b4=>so r r<|nj<|J_quiet Tryz.mixed (by kernel_rfl)<|qb r ?_
 refine qf 9 r<|ql r r<|qf 0 r<|ql r r<|qb r<|qf 10 r<|ql r r<|qf 0 r<|ql r r<|qv (opv_lookC (v := I 0) r r r) r<|qa r<|qv (opv_build r) r<|qv (opv_lookQ (v := I 0) r r (by simp [Shape, CK.sh]) none (by simp [mput]) r) r<|qa r<|qn<|kt ?_
 refine jb<|sr<|ec r<|nt r<|jg<|eb r<|ls r<|cy (i291 a d e g h j k l m o p q s t u w P R T U V W X Y A0 a0) r fun y5=>ln<|kb<|ni (I 2) r<|uf r<|kt<|J_steps ((sep (c13 a d e g h j k l m o p q s t u w) (cel b1 k16 299))) (c3 w) [8] Tryz.mixed<|pe 0 r r<|pe 1 r r ?_
 refine pf 2 10 r r<|pf 4 0 r r<|pl 3 r r r<|pl 5 r r r<|R_ts 6 r (by kernel_rfl) (opv_lookC (v := I 0) r r r) r<|ps 7 r (opv_ib (c := I 1) r r r)<|R_o 8 r r (by kernel_rfl) (opx_putC r r r r) fun _ _=>dn ?_
 exact K_ends r (.nil) (y3.1, y3.2.1, y3.2.2, y5.1, y5.2.1, y5.2.2) trivial r Ent.take
theorem i293 (a c d e g h j k l m o p q : Nat) : Sp Tryz.prog 104 #[Pt a 0, I 100] (c138 a c d e g h j k l m o p q) (I 0) (c141 a c d e g h j k l m o p q) := by
 refine en Tryz.func104 r fun σ F=>san r<|js<|sr<|ec r<|lf 11 r r<|an r<|cf r<|sk<|sr<|ec r<|fa 11 r<|so r r<|nr<|an r<|jr ?_
 exact r1 r Ent.take
theorem i294 (a c d e g h j k l m o p : Nat) : Kp Tryz.prog 185 #[Pt a 0, I 100] (c73 a c d e g h j k l m o p) (I 0) := by
 refine en Tryz.func185 r fun σ F=>san r<|js<|jb<|sa r<|ep false r<|an r<|cf r<|sr<|ec r<|go r<|ea r<|go r<|ec r<|nf r<|sr ?_
 refine ec r<|lf 10 r r<|bf r<|skb<|san r<|jr<|r1 r Ent.take
theorem i295 (a c d e g h j k l m o p : Nat) : Kp Tryz.prog 205 #[Pt a 0, I 100] (c75 a c d e g h j k l m o p) (Np) := by
 refine en Tryz.func205 r fun σ F=>san r<|san r<|js<|sb r<|lf 8 r r<|ll r<|an r<|jl<|uf r<|kt<|sb r<|nk<|jr<|r1 r Ent.take
theorem i296 (a : Nat) : Kp Tryz.prog 237 #[Pt a 0, I 100] (c27 a) (I 0) := by
 refine en Tryz.func237 r fun σ F=>san r<|js<|jb<|sa r<|ep false r<|an r<|cf r<|sr<|ec r<|go r<|ea r<|go r<|ec r<|nf r<|sr ?_
 refine ec r<|lf 1 r r<|bf r<|skb<|san r<|jr<|r1 r Ent.take
theorem i297 (a : Nat) : Sp Tryz.prog 234 #[Pt a 0, I 100] (c27 a) (.tuple #[Ns, I 0]) (c28 a) := by
 refine en Tryz.func234 r fun σ F=>sr<|bx r fun b1=>eb r<|nj<|sa r<|ld r r<|cu (i296 a) r<|an r<|sb r<|nf r<|sk<|sa r<|ld r r<|ea r<|fa 1 r ?_
 refine so r r<|nr<|eb r<|lf 0 r r<|lv (opv_makeFunc r r) r<|cu (i185 b1) r<|an r<|js<|sb r<|nt r<|jg<|eb r<|lf 0 r r<|ll r<|an r<|sb r ?_
 refine lf 0 r r<|eb r<|lv ((opv_sliceLhm r r r (by decide)).as (v' := Ns) r) r<|an r<|sr<|ec r<|lf 0 r r<|ea r<|lv ((opv_sliceLlo r r (by decide)).as (v' := Ns) r) r<|ea r<|fa 0 r<|so r r<|nr<|ec r<|nk<|jr ?_
 exact r2 r Ent.take
theorem i298 (a c d e g h j k l m o p : Nat) : Sp Tryz.prog 207 #[Pt a 0, I 100] ((sep (c75 a c d e g h j k l m o p) (c27 o))) (.tuple #[]) ((sep (c75 a c d e g h j k l m o p) (c28 o))) := by
 refine en Tryz.func207 r fun σ F=>sb r<|lf 9 r r<|ea r<|cu (i297 o) r<|ed r<|an r<|sa r<|ll r<|an r<|jl<|uf r<|z0 r Ent.take
theorem i299 (a c d e g h j k l m o p : Nat) : Sp Tryz.prog 186 #[Pt a 0, I 100] ((sep (c73 a c d e g h j k l m o p) (c27 o))) (.tuple #[]) ((sep (c75 a c d e g h j k l m o p) (c28 o))) := by
 refine en Tryz.func186 r fun σ F=>sr<|ec r<|fa 10 r<|so r r<|nj<|sb r<|cu (i295 a c d e g h j k l m o p) r<|an r<|jl<|ju<|js<|sa r<|np false r<|nf r<|jx ?_
 refine ke<|ke<|kh<|kt<|jg<|eb r<|cu (i298 a c d e g h j k l m o p) r<|ln<|z0 r Ent.take
theorem i300 (a c d e g h j k l m o p : Nat) : Sp Tryz.prog 162 #[Pt a 0, I 100] ((sep (c73 a c d e g h j k l m o p) (c27 o))) (.tuple #[Ns, I 0]) ((sep (c75 a c d e g h j k l m o p) (c28 o))) := by
 refine en Tryz.func162 r fun σ F=>sb r<|nj<|sb r<|cu (i294 a c d e g h j k l m o p) r<|an r<|sb r<|nf r<|sk<|sb r<|cu (i299 a c d e g h j k l m o p) r<|nr<|eb r<|lf 14 r r<|an r<|sb r ?_
 refine fa 14 r<|so r r<|nr<|ec r<|nk<|jr<|r2 r Ent.take
theorem i301 (a c d e g h j k l m o p q s t u : Nat) : Sp Tryz.prog 135 #[Pt a 0, I 100] ((sep (c138 a c d e g h j k l m o p q) (sep (c73 m c d e g h j k l s t u) (c27 t)))) (.tuple #[Ns, I 0]) ((sep (c141 a c d e g h j k l m o p q) (sep (c75 m c d e g h j k l s t u) (c28 t)))) := by
 refine en Tryz.func135 r fun σ F=>sb r<|nj<|jb<|sa r<|ep false r<|an r<|cf r<|sa r<|cu i262 r<|bf r<|skb<|js<|sb r<|cu (i293 a c d e g h j k l m o p q) r<|an r ?_
 refine sb r<|nf r<|sk<|sb r<|lf 7 r r<|ea r<|cu (i300 m c d e g h j k l s t u) r<|ed r<|nk<|jr<|r2 r Ent.take
theorem i302 (a c d e g h j k l m o p q : Nat) : Sp Tryz.prog 104 #[Pt a 0, I 100] (c139 a c d e g h j k l m o p q) (I 0) (c142 a c d e g h j k l m o p q) := by
 refine en Tryz.func104 r fun σ F=>san r<|js<|sr<|ec r<|lf 11 r r<|an r<|cf r<|sk<|sr<|ec r<|fa 11 r<|so r r<|nr<|an r<|jr ?_
 exact r1 r Ent.take
theorem i303 (a c d e g h j k l m o p : Nat) : Kp Tryz.prog 185 #[Pt a 0, I 100] (c74 a c d e g h j k l m o p) (I 0) := by
 refine en Tryz.func185 r fun σ F=>san r<|js<|jb<|sa r<|ep false r<|an r<|cf r<|sr<|ec r<|go r<|ea r<|go r<|ec r<|nf r<|sr ?_
 refine ec r<|lf 10 r r<|bf r<|skb<|san r<|jr<|r1 r Ent.take
theorem i304 (a c d e g h j k l m o p : Nat) : Kp Tryz.prog 205 #[Pt a 0, I 100] (c76 a c d e g h j k l m o p) (Np) := by
 refine en Tryz.func205 r fun σ F=>san r<|san r<|js<|sb r<|lf 8 r r<|ll r<|an r<|jl<|uf r<|kt<|sb r<|nk<|jr<|r1 r Ent.take
theorem i305 (a c d e g h j k l m o p : Nat) : Sp Tryz.prog 207 #[Pt a 0, I 100] ((sep (c76 a c d e g h j k l m o p) (c27 o))) (.tuple #[]) ((sep (c76 a c d e g h j k l m o p) (c28 o))) := by
 refine en Tryz.func207 r fun σ F=>sb r<|lf 9 r r<|ea r<|cu (i297 o) r<|ed r<|an r<|sa r<|ll r<|an r<|jl<|uf r<|z0 r Ent.take
theorem i306 (a c d e g h j k l m o p : Nat) : Sp Tryz.prog 186 #[Pt a 0, I 100] ((sep (c74 a c d e g h j k l m o p) (c27 o))) (.tuple #[]) ((sep (c76 a c d e g h j k l m o p) (c28 o))) := by
 refine en Tryz.func186 r fun σ F=>sr<|ec r<|fa 10 r<|so r r<|nj<|sb r<|cu (i304 a c d e g h j k l m o p) r<|an r<|jl<|ju<|js<|sa r<|np false r<|nf r<|jx ?_
 refine ke<|ke<|kh<|kt<|jg<|eb r<|cu (i305 a c d e g h j k l m o p) r<|ln<|z0 r Ent.take
theorem i307 (a c d e g h j k l m o p : Nat) : Sp Tryz.prog 162 #[Pt a 0, I 100] ((sep (c74 a c d e g h j k l m o p) (c27 o))) (.tuple #[Ns, I 0]) ((sep (c76 a c d e g h j k l m o p) (c28 o))) := by
 refine en Tryz.func162 r fun σ F=>sb r<|nj<|sb r<|cu (i303 a c d e g h j k l m o p) r<|an r<|sb r<|nf r<|sk<|sb r<|cu (i306 a c d e g h j k l m o p) r<|nr<|eb r<|lf 14 r r<|an r<|sb r ?_
 refine fa 14 r<|so r r<|nr<|ec r<|nk<|jr<|r2 r Ent.take
theorem i308 (a c d e g h j k l m o p q s t u : Nat) : Sp Tryz.prog 135 #[Pt a 0, I 100] ((sep (c139 a c d e g h j k l m o p q) (sep (c74 m c d e g h j k l s t u) (c27 t)))) (.tuple #[Ns, I 0]) ((sep (c142 a c d e g h j k l m o p q) (sep (c76 m c d e g h j k l s t u) (c28 t)))) := by
 refine en Tryz.func135 r fun σ F=>sb r<|nj<|jb<|sa r<|ep false r<|an r<|cf r<|sa r<|cu i262 r<|bf r<|skb<|js<|sb r<|cu (i302 a c d e g h j k l m o p q) r<|an r ?_
 refine sb r<|nf r<|sk<|sb r<|lf 7 r r<|ea r<|cu (i307 m c d e g h j k l s t u) r<|ed r<|nk<|jr<|r2 r Ent.take
theorem i309 (a c d e g h j k l : Nat) : Kp Tryz.prog 100 #[Pt a 0, I 100] (c120 a c d e g h j k l) (I 0) := by
 refine en Tryz.func100 r fun σ F=>san r<|js<|jb<|sa r<|ep false r<|an r<|cf r<|sr<|ec r<|go r<|ea r<|go r<|ec r<|nf r<|sr ?_
 refine ec r<|lf 4 r r<|bf r<|skb<|san r<|jr<|r1 r Ent.take
theorem i310 (a : Nat) : Kp Tryz.prog 187 #[Pt a 0, I 100] (c16 a) (I 0) := by
 refine en Tryz.func187 r fun σ F=>san r<|js<|jb<|sa r<|ep false r<|an r<|cf r<|sr<|ec r<|go r<|ea r<|go r<|ec r<|nf r<|sr ?_
 refine ec r<|lf 12 r r<|bf r<|skb<|san r<|jr<|r1 r Ent.take
theorem i311 (a : Nat) : Sp Tryz.prog 188 #[Pt a 0, I 100] (c16 a) (.tuple #[]) (c29 a) := by
 refine en Tryz.func188 r fun σ F=>sr<|ec r<|fa 12 r<|so r r<|nk<|jl<|ju<|js<|sb r<|lf 6 r r<|ea r<|gs r<|gs r<|gs r<|gs r ?_
 refine gs r<|gs r<|gs r<|an r<|cf r<|jx<|ke<|ke<|kh<|z0 r Ent.take
theorem i312 : Kp Tryz.prog 194 #[Ff] (emp) (I 1) := by
 refine en Tryz.func194 r fun σ F=>J_emp<|san r<|js<|san r<|cf r<|sk<|san r<|jr<|r1 r Ent.take
theorem i313 (a : Nat) : Sp Tryz.prog 195 #[Pt a 0, I 100, .agg [I 10, .string e0].toArray] (c29 a) (.tuple #[]) (c58 a) := by
 refine en Tryz.func195 r fun σ F=>sr<|bx r fun b1=>nr<|eb r<|fa 6 r<|so r r<|nk<|J_steps (cel b1 [I 10, .string e0] 379) (emp) [] Tryz.mixed<|pe 0 r r<|pf 1 0 r r<|pf 3 1 r r<|pe 5 r r<|pe 6 r r<|pf 7 1 r r<|pl 2 r r r ?_
 refine pl 4 r r r<|pl 8 r r r<|ps 9 r ((opv_lenS r).as (v' := I 64) (congrArg (fun n : Nat => Value.int .i64 n) e0_size))<|pn 10 r (opx_call0 (i218) r r r) fun _ _=>ps 11 r (opv_ib (c := I 184) r r r)<|ps 12 r (opv_build r)<|pe 13 r r<|pf 14 7 r r ?_
 refine pn 15 r (opx_store r r r (List.all_eq_true.1 r)) fun _ _=>dn<|z0 r Ent.take
theorem i314 (a : Nat) : Sp Tryz.prog 169 #[Pt a 0, I 100, Ff, I 10, .string e0] (c16 a) (I 0) (c58 a) := by
 refine en Tryz.func169 r fun σ F=>san r<|sb r<|cu (i310 a) r<|an r<|js<|jb<|sr<|ec r<|nf r<|sa r<|lv ((opv_lenS r).as (v' := I 64) (congrArg (fun n : Nat => Value.int .i64 n) e0_size)) r<|bf r<|skb<|sb r<|cu (i311 a) r ?_
 refine nr<|eb r<|lv (opv_build r) r<|ea r<|cu i312 r<|al r fun b1=>so r r<|an r<|js<|jb<|sb r<|lf 6 r r<|eb r<|nt r<|jg<|eb r ?_
 refine ls r<|cu (i313 a) r<|ln<|kb<|kt<|san r<|jr<|r1 r Ent.take
theorem i315 (a c d e g h j k l m o p q s t u v : Nat) : Sp Tryz.prog 139 #[Pt a 0, .agg (k17 c).toArray] ((sep (c20 c d e g h) (sep (c14 d e g) (sep (c96 a j k l m o p q s) (sep (c6 j k l t u v) (c16 u)))))) (.tuple #[]) ((sep (c20 c d e g h) (sep (c14 d e g) (sep (c96 a j k l m o p q s) (sep (c6 j k l t u v) (c58 u)))))) := by
 refine en Tryz.func139 r fun σ F=>sr<|bx r fun b1=>nr<|lf 1 r r<|ea r<|fa 0 r<|lf 7 r r<|ll r<|an r<|jl<|ut r<|js<|jb<|sr<|ix e r r ?_
 refine lv (opv_ldO 0 r r r) r<|an r<|js<|J_steps ((sep (c96 a j k l m o p q s) (sep (c6 j k l t u v) (sep (c167 b1 c) (c20 c d e g h))))) (emp) [] Tryz.mixed<|pe 0 r r<|pe 1 r r<|pf 2 1 r r<|pe 4 r r<|pf 7 0 r r<|pf 9 1 r r<|pf 15 1 r r<|pf 21 2 r r<|pl 3 r r r<|ps 5 r (opv_ix (k + 1) r r r r)<|ps 6 r (opv_ldO 1 r r r)<|pl 8 r r r ?_
 refine pl 10 r r r<|pe 11 r r<|pf 12 0 r r<|pf 13 4 r r<|pl 14 r r r<|pl 16 r r r<|pe 17 r r<|pf 18 0 r r<|pf 19 0 r r<|pl 20 r r r<|pl 22 r r r<|pn 23 r (opx_call0 (i314 u) r r r) fun _ _=>pe 24 r r<|dn<|kt<|cf r ?_
 refine jk<|ni (I 1) r<|uf r<|z0 r Ent.take
theorem i316 (a c d e g h j k l m o p q s t u v : Nat) : Sp Tryz.prog 101 #[Pt a 0, I 100] ((sep (c120 a c d e g h j k l) (sep (c56 h j k m) (sep (c20 m o p q s) (sep (c14 o p q) (sep (c6 c d e t u v) (c16 u))))))) (.tuple #[]) ((sep (c96 a c d e g h k j l) (sep (c56 h j k m) (sep (c20 m o p q s) (sep (c14 o p q) (sep (c6 c d e t u v) (c58 u))))))) := by
 refine en Tryz.func101 r fun σ F=>sr<|ec r<|fa 4 r<|so r r<|nk<|jl<|ju<|js<|sb r<|lf 3 r r<|ll r<|eb r<|go r<|ea r<|go r ?_
 refine ea r<|go r<|fa 3 r<|go r<|ld r r<|go r<|ix j r r<|go r<|fa j r<|go r<|lv (opv_ldO 0 r r r) r<|go r<|ea r<|go r<|eb r<|nt r ?_
 refine sk<|jb<|sb r<|lf 3 r r<|ix j r r<|lv (opv_ldOS 0 r r) r<|al r fun b1=>so r r<|nr<|ec r<|lf 3 r r<|lv (opv_ct r r r 1 0 r r) r<|ea r<|fa 3 r<|so r r<|nk ?_
 refine jg<|ea r<|ls r<|cu (i315 a m o p q s c d e g h k j l t u v) r<|ln<|kb<|ku<|ju<|js<|sb r<|lf 3 r r<|ll r<|eb r<|gs r<|gs r<|gs r ?_
 refine gs r<|gs r<|gs r<|gs r<|gs r<|gs r<|an r<|cf r<|jx<|ke<|ke<|kh<|z0 r Ent.take
theorem i317 (a : Nat) : Sp Tryz.prog 163 #[Pt a 0, I 100] (c16 a) (.tuple #[Ns, I 0]) (c29 a) := by
 refine en Tryz.func163 r fun σ F=>sb r<|nj<|sb r<|cu (i310 a) r<|an r<|sb r<|nf r<|sk<|sb r<|cu (i311 a) r<|nr<|eb r<|lf 11 r r<|an r<|sb r ?_
 refine fa 11 r<|so r r<|nr<|ec r<|nk<|jr<|r2 r Ent.take
theorem i318 (a : Nat) : Kp Tryz.prog 187 #[Pt a 0, I 100] (c58 a) (I 0) := by
 refine en Tryz.func187 r fun σ F=>san r<|js<|jb<|sa r<|ep false r<|an r<|cf r<|sr<|ec r<|go r<|ea r<|go r<|ec r<|nf r<|sr ?_
 refine ec r<|lf 12 r r<|bf r<|skb<|san r<|jr<|r1 r Ent.take
theorem i319 (a : Nat) : Kp Tryz.prog 188 #[Pt a 0, I 100] (c58 a) (.tuple #[]) := by
 refine en Tryz.func188 r fun σ F=>sr<|ec r<|fa 12 r<|so r r<|nk<|jl<|ju<|js<|sb r<|lf 6 r r<|ea r<|go r<|ea r<|go r<|ea r ?_
 refine go r<|fa 7 r<|go r<|fa 10 r<|go r<|ld r r<|go r<|ea r<|go r<|bf r<|jx<|ke<|ke<|kh<|z0 r Ent.take
theorem i320 (a : Nat) : Kp Tryz.prog 163 #[Pt a 0, I 100] (c58 a) (.tuple #[Ns, I 0]) := by
 refine en Tryz.func163 r fun σ F=>sb r<|nj<|sb r<|cu (i318 a) r<|an r<|sb r<|nf r<|sk<|sb r<|cu (i319 a) r<|nr<|eb r<|lf 11 r r<|an r<|sb r ?_
 refine fa 11 r<|so r r<|nr<|ec r<|nk<|jr<|r2 r Ent.take
theorem i321 (a c d e g h j k l m o p q s t u v : Nat) : Sp Tryz.prog 137 #[Pt a 0, I 100] ((sep (c120 a c d e g h j k l) (sep (c56 h j k m) (sep (c20 m o p q s) (sep (c14 o p q) (sep (c6 c d e t u v) (sep (c16 u) (sep (c16 t) (c16 v))))))))) (.tuple #[Ns, I 0]) ((sep (c96 a c d e g h k j l) (sep (c56 h j k m) (sep (c20 m o p q s) (sep (c14 o p q) (sep (c6 c d e t u v) (sep (c58 u) (sep (c29 t) (c29 v))))))))) := by
 refine en Tryz.func137 r fun σ F=>sb r<|nj<|sb r<|cu (i309 a c d e g h j k l) r<|an r<|sb r<|nf r<|sk<|sb r<|cu (i316 a c d e g h j k l m o p q s t u v) r<|nr<|an r<|js<|sb r<|lf 1 r r ?_
 refine ll r<|an r<|jl<|ut r<|js<|jb<|sa r<|ix d r r<|lv (opv_ldO 0 r r r) r<|eb r<|nr<|eb r<|cu (i317 t) r<|ed r<|an r<|sa r ?_
 refine ll r<|an r<|jl<|uf r<|ni (I 1) r<|ut r<|js<|jb<|sa r<|ix (d + 1) r r<|lv (opv_ldO 1 r r r) r<|eb r<|nr<|eb r<|cu (i320 u) r<|ed r ?_
 refine an r<|sa r<|ll r<|an r<|jl<|uf r<|ni (I 2) r<|ut r<|js<|jb<|sa r<|ix (d + 2) r r<|lv (opv_ldO 2 r r r) r<|eb r<|nr<|eb r ?_
 refine cu (i317 v) r<|ed r<|an r<|sa r<|ll r<|an r<|jl<|uf r<|ni (I 3) r<|uf r<|kt<|sa r<|cu i254 r<|nr<|ec r<|nk ?_
 refine jr<|r2 r Ent.take
theorem i322 (a c d e g h j k l : Nat) : Kp Tryz.prog 100 #[Pt a 0, I 100] (c121 a c d e g h j k l) (I 0) := by
 refine en Tryz.func100 r fun σ F=>san r<|js<|jb<|sa r<|ep false r<|an r<|cf r<|sr<|ec r<|go r<|ea r<|go r<|ec r<|nf r<|sr ?_
 refine ec r<|lf 4 r r<|bf r<|skb<|san r<|jr<|r1 r Ent.take
theorem i323 (a : Nat) : Sp Tryz.prog 195 #[Pt a 0, I 100, .agg [I 10, .string e1].toArray] (c29 a) (.tuple #[]) (c59 a) := by
 refine en Tryz.func195 r fun σ F=>sr<|bx r fun b1=>nr<|eb r<|fa 6 r<|so r r<|nk<|J_steps (cel b1 [I 10, .string e1] 379) (emp) [] Tryz.mixed<|pe 0 r r<|pf 1 0 r r<|pf 3 1 r r<|pe 5 r r<|pe 6 r r<|pf 7 1 r r<|pl 2 r r r ?_
 refine pl 4 r r r<|pl 8 r r r<|ps 9 r ((opv_lenS r).as (v' := I 64) (congrArg (fun n : Nat => Value.int .i64 n) e1_size))<|pn 10 r (opx_call0 (i218) r r r) fun _ _=>ps 11 r (opv_ib (c := I 184) r r r)<|ps 12 r (opv_build r)<|pe 13 r r<|pf 14 7 r r ?_
 refine pn 15 r (opx_store r r r (List.all_eq_true.1 r)) fun _ _=>dn<|z0 r Ent.take
theorem i324 (a : Nat) : Sp Tryz.prog 169 #[Pt a 0, I 100, Ff, I 10, .string e1] (c16 a) (I 0) (c59 a) := by
 refine en Tryz.func169 r fun σ F=>san r<|sb r<|cu (i310 a) r<|an r<|js<|jb<|sr<|ec r<|nf r<|sa r<|lv ((opv_lenS r).as (v' := I 64) (congrArg (fun n : Nat => Value.int .i64 n) e1_size)) r<|bf r<|skb<|sb r<|cu (i311 a) r ?_
 refine nr<|eb r<|lv (opv_build r) r<|ea r<|cu i312 r<|al r fun b1=>so r r<|an r<|js<|jb<|sb r<|lf 6 r r<|eb r<|nt r<|jg<|eb r ?_
 refine ls r<|cu (i323 a) r<|ln<|kb<|kt<|san r<|jr<|r1 r Ent.take
theorem i325 (a c d e g h j k l m o p q s t u v : Nat) : Sp Tryz.prog 139 #[Pt a 0, .agg (k18 c).toArray] ((sep (c20 c d e g h) (sep (c14 d e g) (sep (c97 a j k l m o p q s) (sep (c6 j k l t u v) (c16 u)))))) (.tuple #[]) ((sep (c20 c d e g h) (sep (c14 d e g) (sep (c97 a j k l m o p q s) (sep (c6 j k l t u v) (c59 u)))))) := by
 refine en Tryz.func139 r fun σ F=>sr<|bx r fun b1=>nr<|lf 1 r r<|ea r<|fa 0 r<|lf 7 r r<|ll r<|an r<|jl<|ut r<|js<|jb<|sr<|ix e r r ?_
 refine lv (opv_ldO 0 r r r) r<|an r<|js<|J_steps ((sep (c97 a j k l m o p q s) (sep (c6 j k l t u v) (sep (c169 b1 c) (c20 c d e g h))))) (emp) [] Tryz.mixed<|pe 0 r r<|pe 1 r r<|pf 2 1 r r<|pe 4 r r<|pf 7 0 r r<|pf 9 1 r r<|pf 15 1 r r<|pf 21 2 r r<|pl 3 r r r<|ps 5 r (opv_ix (k + 1) r r r r)<|ps 6 r (opv_ldO 1 r r r)<|pl 8 r r r ?_
 refine pl 10 r r r<|pe 11 r r<|pf 12 0 r r<|pf 13 4 r r<|pl 14 r r r<|pl 16 r r r<|pe 17 r r<|pf 18 0 r r<|pf 19 0 r r<|pl 20 r r r<|pl 22 r r r<|pn 23 r (opx_call0 (i324 u) r r r) fun _ _=>pe 24 r r<|dn<|kt<|cf r ?_
 refine jk<|ni (I 1) r<|uf r<|z0 r Ent.take
theorem i326 (a c d e g h j k l m o p q s t u v : Nat) : Sp Tryz.prog 101 #[Pt a 0, I 100] ((sep (c121 a c d e g h j k l) (sep (c57 h j k m) (sep (c20 m o p q s) (sep (c14 o p q) (sep (c6 c d e t u v) (c16 u))))))) (.tuple #[]) ((sep (c97 a c d e g h k j l) (sep (c57 h j k m) (sep (c20 m o p q s) (sep (c14 o p q) (sep (c6 c d e t u v) (c59 u))))))) := by
 refine en Tryz.func101 r fun σ F=>sr<|ec r<|fa 4 r<|so r r<|nk<|jl<|ju<|js<|sb r<|lf 3 r r<|ll r<|eb r<|go r<|ea r<|go r ?_
 refine ea r<|go r<|fa 3 r<|go r<|ld r r<|go r<|ix j r r<|go r<|fa j r<|go r<|lv (opv_ldO 0 r r r) r<|go r<|ea r<|go r<|eb r<|nt r ?_
 refine sk<|jb<|sb r<|lf 3 r r<|ix j r r<|lv (opv_ldOS 0 r r) r<|al r fun b1=>so r r<|nr<|ec r<|lf 3 r r<|lv (opv_ct r r r 1 0 r r) r<|ea r<|fa 3 r<|so r r<|nk ?_
 refine jg<|ea r<|ls r<|cu (i325 a m o p q s c d e g h k j l t u v) r<|ln<|kb<|ku<|ju<|js<|sb r<|lf 3 r r<|ll r<|eb r<|gs r<|gs r<|gs r ?_
 refine gs r<|gs r<|gs r<|gs r<|gs r<|gs r<|an r<|cf r<|jx<|ke<|ke<|kh<|z0 r Ent.take
theorem i327 (a : Nat) : Kp Tryz.prog 187 #[Pt a 0, I 100] (c59 a) (I 0) := by
 refine en Tryz.func187 r fun σ F=>san r<|js<|jb<|sa r<|ep false r<|an r<|cf r<|sr<|ec r<|go r<|ea r<|go r<|ec r<|nf r<|sr ?_
 refine ec r<|lf 12 r r<|bf r<|skb<|san r<|jr<|r1 r Ent.take
theorem i328 (a : Nat) : Kp Tryz.prog 188 #[Pt a 0, I 100] (c59 a) (.tuple #[]) := by
 refine en Tryz.func188 r fun σ F=>sr<|ec r<|fa 12 r<|so r r<|nk<|jl<|ju<|js<|sb r<|lf 6 r r<|ea r<|go r<|ea r<|go r<|ea r ?_
 refine go r<|fa 7 r<|go r<|fa 10 r<|go r<|ld r r<|go r<|ea r<|go r<|bf r<|jx<|ke<|ke<|kh<|z0 r Ent.take
theorem i329 (a : Nat) : Kp Tryz.prog 163 #[Pt a 0, I 100] (c59 a) (.tuple #[Ns, I 0]) := by
 refine en Tryz.func163 r fun σ F=>sb r<|nj<|sb r<|cu (i327 a) r<|an r<|sb r<|nf r<|sk<|sb r<|cu (i328 a) r<|nr<|eb r<|lf 11 r r<|an r<|sb r ?_
 refine fa 11 r<|so r r<|nr<|ec r<|nk<|jr<|r2 r Ent.take
theorem i330 (a c d e g h j k l m o p q s t u v : Nat) : Sp Tryz.prog 137 #[Pt a 0, I 100] ((sep (c121 a c d e g h j k l) (sep (c57 h j k m) (sep (c20 m o p q s) (sep (c14 o p q) (sep (c6 c d e t u v) (sep (c16 u) (sep (c16 t) (c16 v))))))))) (.tuple #[Ns, I 0]) ((sep (c97 a c d e g h k j l) (sep (c57 h j k m) (sep (c20 m o p q s) (sep (c14 o p q) (sep (c6 c d e t u v) (sep (c59 u) (sep (c29 t) (c29 v))))))))) := by
 refine en Tryz.func137 r fun σ F=>sb r<|nj<|sb r<|cu (i322 a c d e g h j k l) r<|an r<|sb r<|nf r<|sk<|sb r<|cu (i326 a c d e g h j k l m o p q s t u v) r<|nr<|an r<|js<|sb r<|lf 1 r r ?_
 refine ll r<|an r<|jl<|ut r<|js<|jb<|sa r<|ix d r r<|lv (opv_ldO 0 r r r) r<|eb r<|nr<|eb r<|cu (i317 t) r<|ed r<|an r<|sa r ?_
 refine ll r<|an r<|jl<|uf r<|ni (I 1) r<|ut r<|js<|jb<|sa r<|ix (d + 1) r r<|lv (opv_ldO 1 r r r) r<|eb r<|nr<|eb r<|cu (i329 u) r<|ed r ?_
 refine an r<|sa r<|ll r<|an r<|jl<|uf r<|ni (I 2) r<|ut r<|js<|jb<|sa r<|ix (d + 2) r r<|lv (opv_ldO 2 r r r) r<|eb r<|nr<|eb r ?_
 refine cu (i317 v) r<|ed r<|an r<|sa r<|ll r<|an r<|jl<|uf r<|ni (I 3) r<|uf r<|kt<|sa r<|cu i254 r<|nr<|ec r<|nk ?_
 refine jr<|r2 r Ent.take
theorem i331 (a c d e g h j k l m o p q s t u v w A B C D E G H M N O P R T U V W X Y A0 a0 B0 C0 d0 D0 g0 G0 h0 H0 j0 M0 N0 o0 p0 P0 q0 R0 t0 T0 u0 U0 v0 V0 w0 W0 A1 a1 B1 C1 d1 D1 g1 G1 h1 H1 j1 M1 N1 o1 p1 P1 q1 R1 t1 : Nat) : FSpec Tryz.prog 99 #[Pt a 0, I 100] ((sep (c13 a c d e g h j k l m o p q s t u) (sep (c17 m o p v w A) (sep (c137 v c d e g h j k l B C D E) (sep (c72 B c d e g h j k l G H M N O P) (sep (c4 H M N) (sep (c0 G R) (sep (c10 R T U V W X) (sep (c9 W Y A0 a0) (sep (c61 O B0 C0 d0) (sep (c24 B0 C0 d0) (sep (c95 P) (sep (c3 u) (sep (mapq t [.int .i64, .int .i64, .int .i64] (fun _ => none)) (sep (c105 q D0 g0 G0 h0 H0) (sep (c0 h0 j0) (sep (c41 j0 M0 N0 o0 p0) (sep (c33 p0) (sep (c3 H0) (sep (c106 s P0 q0 R0 t0 T0) (sep (c0 t0 u0) (sep (c41 u0 U0 v0 V0 w0) (sep (c33 w0) (sep (c3 T0) (sep (c138 w c d e g h j k l W0 A1 a1 B1) (sep (c73 W0 c d e g h j k l C1 d1 D1) (sep (c27 d1) (sep (c139 A c d e g h j k l g1 G1 h1 H1) (sep (c74 g1 c d e g h j k l j1 M1 N1) (sep (c27 M1) (sep (c14 M0 N0 o0) (sep (c6 D0 g0 G0 o1 p1 P1) (sep (c16 p1) (sep (c16 o1) (sep (c16 P1) (sep (c14 U0 v0 V0) (sep (c6 P0 q0 R0 q1 R1 t1) (sep (c16 R1) (sep (c16 q1) (c16 t1)))))))))))))))))))))))))))))))))))))))) (fun _ : Nat × Nat × Nat × Nat × Nat × Nat => True) (fun y => .tuple #[]) (fun y => (sep (c13 a c d e g h j k l m o p q s t u) (sep (c17 m o p v w A) (sep (c140 v c d e g h j k l B C D E) (sep (c62 B c d e g h j k l G H M N O P) (sep (c4 H M N) (sep (c0 G R) (sep (c10 R T U V W X) (sep (c9 W Y A0 a0) (sep (c63 O B0 d0 C0) (sep (c24 B0 C0 d0) (sep (c119 P) (sep (c158 u) (sep (mapq t [.int .i64, .int .i64, .int .i64] (fun _ => none)) (sep (c96 q D0 g0 G0 h0 y.1 y.2.1 y.2.2.1 H0) (sep (c0 h0 j0) (sep (c20 j0 M0 N0 o0 p0) (sep (c49 p0) (sep (c23 H0) (sep (c97 s P0 q0 R0 t0 y.2.2.2.1 y.2.2.2.2.1 y.2.2.2.2.2 T0) (sep (c0 t0 u0) (sep (c20 u0 U0 v0 V0 w0) (sep (c49 w0) (sep (c23 T0) (sep (c141 w c d e g h j k l W0 A1 a1 B1) (sep (c75 W0 c d e g h j k l C1 d1 D1) (sep (c28 d1) (sep (c142 A c d e g h j k l g1 G1 h1 H1) (sep (c76 g1 c d e g h j k l j1 M1 N1) (sep (c28 M1) (sep (c14 M0 N0 o0) (sep (c6 D0 g0 G0 o1 p1 P1) (sep (c58 p1) (sep (c29 o1) (sep (c29 P1) (sep (c14 U0 v0 V0) (sep (c6 P0 q0 R0 q1 R1 t1) (sep (c59 R1) (sep (c29 q1) (sep (c29 t1) (sep (c56 y.1 y.2.2.1 y.2.1 j0) (c57 y.2.2.2.1 y.2.2.2.2.2 y.2.2.2.2.1 u0)))))))))))))))))))))))))))))))))))))))))) := by
 refine en Tryz.func99 r fun σ F=>js<|san r<|jl<|ut r<|js<|jb<|sb r<|nk<|jg<|ec r<|cu (i260 a c d e g h j k l m o p q s t u) r<|ln<|ni (I 1) r<|ut r<|js ?_
 refine jb<|sb r<|nk<|jg<|ec r<|cu (i261 a c d e g h j k l m o p q s t u) r<|ln<|ni (I 2) r<|uf r<|kt<|js<|sb r<|lf 6 r r<|ll r<|an r<|jl ?_
 refine ut r<|js<|jb<|sa r<|ix o r r<|lv (opv_ldO 0 r r r) r<|eb r<|nr<|eb r<|cy (i273 v c d e g h j k l B C D E G H M N O P R T U V W X Y A0 a0 B0 C0 d0) r fun y1=>ed r<|an r<|sa r<|ll r<|an r<|jl ?_
 refine ut r<|js<|jb<|sr<|ix y1.2.1 r r<|lv (opv_ldOS 0 r r) r<|al r fun b2=>so r r<|nk<|jg<|ec r<|ls r<|cy (i292 a c d e g h j k l m o p q s t u D0 g0 G0 h0 H0 j0 M0 N0 o0 p0 P0 q0 R0 t0 T0 u0 U0 v0 V0 w0) r fun y3=>ln<|ni (I 1) r<|uf r ?_
 refine ni (I 1) r<|ut r<|js<|jb<|sa r<|ix (o + 1) r r<|lv (opv_ldO 1 r r r) r<|eb r<|nr<|eb r<|cu (i301 w c d e g h j k l W0 A1 a1 B1 C1 d1 D1) r<|ed r<|an r<|sa r<|ll r<|an r ?_
 refine jl<|uf r<|ni (I 2) r<|ut r<|js<|jb<|sa r<|ix (o + 2) r r<|lv (opv_ldO 2 r r r) r<|eb r<|nr<|eb r<|cu (i308 A c d e g h j k l g1 G1 h1 H1 j1 M1 N1) r<|ed r<|an r<|sa r ?_
 refine ll r<|an r<|jl<|uf r<|ni (I 3) r<|uf r<|kt<|sb r<|fa 7 r<|ls r<|an r<|jl<|ut r<|js<|jb<|sa r ?_
 refine lv (opv_ixV r r r r) r<|eb r<|nr<|eb r<|cu (i321 q D0 g0 G0 h0 y3.1 y3.2.1 y3.2.2.1 H0 j0 M0 N0 o0 p0 o1 p1 P1) r<|ed r<|an r<|sa r<|ll r<|an r<|jl<|uf r<|ni (I 1) r<|ut r<|js<|jb ?_
 refine sa r<|lv (opv_ixV r r r r) r<|eb r<|nr<|eb r<|cu (i330 s P0 q0 R0 t0 y3.2.2.2.1 y3.2.2.2.2.1 y3.2.2.2.2.2 T0 u0 U0 v0 V0 w0 q1 R1 t1) r<|ed r<|an r<|sa r<|ll r<|an r<|jl<|uf r<|ni (I 2) r<|uf r ?_
 exact K_ends r (.nil) (y3.1, y3.2.2.1, y3.2.1, y3.2.2.2.1, y3.2.2.2.2.2, y3.2.2.2.2.1) trivial r Ent.take
theorem i332 (a c d e g h j k l m o p q s t u : Nat) : Kp Tryz.prog 134 #[Pt a 0, I 150, I 0] (c13 a c d e g h j k l m o p q s t u) (.tuple #[]) := by
 refine en Tryz.func134 r fun σ F=>sr<|bx r fun b1=>bx r fun b2=>nr<|lv (opv_makeFunc r r) r<|an r<|js<|sb r<|lf 11 r r<|ll r<|an r<|jl<|uf r<|kt<|jg ?_
 refine ec r<|lf 11 r r<|ea r<|cu (i200 b2 b1) r<|ea r<|fa 11 r<|so r r<|ln<|z0 r Ent.take
theorem i333 (a c d e g h j k l m o p q s t u : Nat) : Kp Tryz.prog 134 #[Pt a 0, I 150, I 1] (c13 a c d e g h j k l m o p q s t u) (.tuple #[]) := by
 refine en Tryz.func134 r fun σ F=>sr<|bx r fun b1=>bx r fun b2=>nr<|lv (opv_makeFunc r r) r<|an r<|js<|sb r<|lf 11 r r<|ll r<|an r<|jl<|uf r<|kt<|jg ?_
 refine ec r<|lf 11 r r<|ea r<|cu (i200 b2 b1) r<|ea r<|fa 11 r<|so r r<|ln<|z0 r Ent.take
theorem i334 : Kp Tryz.prog 103 #[I 150] (emp) (Tt) := by
 refine en Tryz.func103 r fun σ F=>J_emp<|san r<|sr<|ec r<|go r<|ea r<|go r<|ec r<|nk<|jr<|r1 r Ent.take
theorem i335 (a c d e g h j k l m o p q : Nat) : Sp Tryz.prog 104 #[Pt a 0, I 150] (c140 a c d e g h j k l m o p q) (I 0) (c143 a c d e g h j k l m o p q) := by
 refine en Tryz.func104 r fun σ F=>san r<|js<|sr<|ec r<|lf 11 r r<|an r<|cf r<|sk<|sr<|ec r<|fa 11 r<|so r r<|nr<|an r<|jr ?_
 exact r1 r Ent.take
theorem i336 (a c d e g h j k l m o p q s t : Nat) : Kp Tryz.prog 185 #[Pt a 0, I 150] (c62 a c d e g h j k l m o p q s t) (I 0) := by
 refine en Tryz.func185 r fun σ F=>san r<|js<|jb<|sa r<|ep false r<|an r<|cf r<|sr<|ec r<|go r<|ea r<|go r<|ec r<|nf r<|sr ?_
 refine ec r<|lf 10 r r<|bf r<|skb<|san r<|jr<|r1 r Ent.take
theorem i337 (a c d e g h j k l m o p q s t u w A B C D E G H : Nat) : Kp Tryz.prog 205 #[Pt a 0, I 150] ((sep (c77 a c d e g h j k l m o p q s t) (sep (c4 o p q) (sep (c0 m u) (sep (c10 u w A B C D) (c9 C E G H)))))) (Np) := by
 refine en Tryz.func205 r fun σ F=>san r<|san r<|js<|sb r<|lf 8 r r<|ll r<|an r<|jl<|ut r<|js<|jb<|sr<|ix p r r<|lv (opv_ldO 0 r r r) r<|an r ?_
 refine sb r<|lf 7 r r<|ea r<|lv (opv_lookC (v := Pt u 0) r r r) r<|an r<|sb r<|lf 8 r r<|cu (i221 C E G H) r<|eb r<|gs r<|gs r<|gs r<|gs r<|eb r<|gs r<|gs r ?_
 refine gs r<|L_gU r r r<|L_gU r r r<|L_gU r r r<|L_gU r r r<|L_gU r r r<|gs r<|an r<|cf r<|jk<|ni (I 1) r<|uf r<|kt<|sb r<|nk<|jr<|r1 r Ent.take
theorem i338 (a c d e : Nat) : Kp Tryz.prog 237 #[Pt a 0, I 150] (c63 a c d e) (I 0) := by
 refine en Tryz.func237 r fun σ F=>san r<|js<|jb<|sa r<|ep false r<|an r<|cf r<|sr<|ec r<|go r<|ea r<|go r<|ec r<|nf r<|sr ?_
 refine ec r<|lf 1 r r<|bf r<|skb<|san r<|jr<|r1 r Ent.take
theorem i339 (a c d e : Nat) : Kp Tryz.prog 250 #[Sk a (if c = 1 then d else d + 1 * 4) 0 (c - 1), .func (.func 251) #[] #[Pt e 0]] (emp) (I (-1)) := by
 refine en Tryz.func250 r fun σ F=>J_emp<|san r<|js<|sa r<|ll r<|an r<|jl<|uf r<|kt<|san r<|jr<|r1 r Ent.take
theorem i340 (a c d e : Nat) : Sp Tryz.prog 234 #[Pt a 0, I 150] (c63 a c d e) (.tuple #[Sk c (if d = 1 then e else e + 1 * 4) 0 0, I 0]) (c64 a c d e) := by
 refine en Tryz.func234 r fun σ F=>sr<|bx r fun b1=>eb r<|nj<|sa r<|ld r r<|cu (i338 a c d e) r<|an r<|sb r<|nf r<|sk<|sa r<|ld r r<|ea r<|fa 1 r ?_
 refine so r r<|nr<|eb r<|lf 0 r r<|lv (opv_makeFunc r r) r<|cu (i339 c d e b1) r<|an r<|js<|sb r<|nt r<|jg<|eb r<|lf 0 r r<|ll r<|an r<|sb r ?_
 refine lf 0 r r<|eb r<|lv (opv_hm0 r r r) r<|an r<|sr<|ec r<|lf 0 r r<|ea r<|lv (opv_ct0 r r) r<|ea r<|fa 0 r<|so r r<|nr<|ec r<|nk<|jr ?_
 exact r2 r Ent.take
theorem i341 (a c d e g h j k l m o p q s t u v w : Nat) : Sp Tryz.prog 207 #[Pt a 0, I 150] ((sep (c77 a c d e g h j k l m o p q s t) (c63 s u v w))) (.tuple #[]) ((sep (c77 a c d e g h j k l m o p q s t) (c64 s u v w))) := by
 refine en Tryz.func207 r fun σ F=>sb r<|lf 9 r r<|ea r<|cu (i340 s u v w) r<|ed r<|an r<|sa r<|ll r<|an r<|jl<|uf r<|z0 r Ent.take
theorem i342 (a c d e g h j k l m o p q s t u v w A B C D E G H M N : Nat) : Sp Tryz.prog 186 #[Pt a 0, I 150] ((sep (c62 a c d e g h j k l m o p q s t) (sep (c4 o p q) (sep (c0 m u) (sep (c10 u v w A B C) (sep (c9 B D E G) (c63 s H M N))))))) (.tuple #[]) ((sep (c77 a c d e g h j k l m o p q s t) (sep (c4 o p q) (sep (c0 m u) (sep (c10 u v w A B C) (sep (c9 B D E G) (c64 s H M N))))))) := by
 refine en Tryz.func186 r fun σ F=>sr<|ec r<|fa 10 r<|so r r<|nj<|sb r<|cu (i337 a c d e g h j k l m o p q s t u v w A B C D E G) r<|an r<|jl<|ju<|js<|sa r<|np false r<|nf r<|jx ?_
 refine ke<|ke<|kh<|kt<|jg<|eb r<|cu (i341 a c d e g h j k l m o p q s t H M N) r<|ln<|z0 r Ent.take
theorem i343 (a c d e g h j k l m o p q s t u v w A B C D E G H M N : Nat) : Sp Tryz.prog 162 #[Pt a 0, I 150] ((sep (c62 a c d e g h j k l m o p q s t) (sep (c4 o p q) (sep (c0 m u) (sep (c10 u v w A B C) (sep (c9 B D E G) (c63 s H M N))))))) (.tuple #[Ns, I 0]) ((sep (c77 a c d e g h j k l m o p q s t) (sep (c4 o p q) (sep (c0 m u) (sep (c10 u v w A B C) (sep (c9 B D E G) (c64 s H M N))))))) := by
 refine en Tryz.func162 r fun σ F=>sb r<|nj<|sb r<|cu (i336 a c d e g h j k l m o p q s t) r<|an r<|sb r<|nf r<|sk<|sb r<|cu (i342 a c d e g h j k l m o p q s t u v w A B C D E G H M N) r<|nr<|eb r<|lf 14 r r<|an r<|sb r ?_
 refine fa 14 r<|so r r<|nr<|ec r<|nk<|jr<|r2 r Ent.take
theorem i344 (a c d e g h j k l m o p q s t u v w A B C D E G H M N O P R T : Nat) : Sp Tryz.prog 135 #[Pt a 0, I 150] ((sep (c140 a c d e g h j k l m o p q) (sep (c62 m c d e g h j k l s t u v w A) (sep (c4 t u v) (sep (c0 s B) (sep (c10 B C D E G H) (sep (c9 G M N O) (c63 w P R T)))))))) (.tuple #[Ns, I 0]) ((sep (c143 a c d e g h j k l m o p q) (sep (c77 m c d e g h j k l s t u v w A) (sep (c4 t u v) (sep (c0 s B) (sep (c10 B C D E G H) (sep (c9 G M N O) (c64 w P R T)))))))) := by
 refine en Tryz.func135 r fun σ F=>sb r<|nj<|jb<|sa r<|ep false r<|an r<|cf r<|sa r<|cu i334 r<|bf r<|skb<|js<|sb r<|cu (i335 a c d e g h j k l m o p q) r<|an r ?_
 refine sb r<|nf r<|sk<|sb r<|lf 7 r r<|ea r<|cu (i343 m c d e g h j k l s t u v w A B C D E G H M N O P R T) r<|ed r<|nk<|jr<|r2 r Ent.take
theorem i345 (a c d e g h j k l m o p q : Nat) : Sp Tryz.prog 104 #[Pt a 0, I 150] (c141 a c d e g h j k l m o p q) (I 0) (c144 a c d e g h j k l m o p q) := by
 refine en Tryz.func104 r fun σ F=>san r<|js<|sr<|ec r<|lf 11 r r<|an r<|cf r<|sk<|sr<|ec r<|fa 11 r<|so r r<|nr<|an r<|jr ?_
 exact r1 r Ent.take
theorem i346 (a c d e g h j k l m o p : Nat) : Kp Tryz.prog 185 #[Pt a 0, I 150] (c75 a c d e g h j k l m o p) (I 0) := by
 refine en Tryz.func185 r fun σ F=>san r<|js<|jb<|sa r<|ep false r<|an r<|cf r<|sr<|ec r<|go r<|ea r<|go r<|ec r<|nf r<|sr ?_
 refine ec r<|lf 10 r r<|bf r<|skb<|san r<|jr<|r1 r Ent.take
theorem i347 (a c d e g h j k l m o p : Nat) : Kp Tryz.prog 205 #[Pt a 0, I 150] (c78 a c d e g h j k l m o p) (Np) := by
 refine en Tryz.func205 r fun σ F=>san r<|san r<|js<|sb r<|lf 8 r r<|ll r<|an r<|jl<|uf r<|kt<|sb r<|nk<|jr<|r1 r Ent.take
theorem i348 (a : Nat) : Kp Tryz.prog 237 #[Pt a 0, I 150] (c28 a) (I 0) := by
 refine en Tryz.func237 r fun σ F=>san r<|js<|jb<|sa r<|ep false r<|an r<|cf r<|sr<|ec r<|go r<|ea r<|go r<|ec r<|nf r<|sr ?_
 refine ec r<|lf 1 r r<|bf r<|skb<|san r<|jr<|r1 r Ent.take
theorem i349 (a : Nat) : Sp Tryz.prog 234 #[Pt a 0, I 150] (c28 a) (.tuple #[Ns, I 0]) (c30 a) := by
 refine en Tryz.func234 r fun σ F=>sr<|bx r fun b1=>eb r<|nj<|sa r<|ld r r<|cu (i348 a) r<|an r<|sb r<|nf r<|sk<|sa r<|ld r r<|ea r<|fa 1 r ?_
 refine so r r<|nr<|eb r<|lf 0 r r<|lv (opv_makeFunc r r) r<|cu (i185 b1) r<|an r<|js<|sb r<|nt r<|jg<|eb r<|lf 0 r r<|ll r<|an r<|sb r ?_
 refine lf 0 r r<|eb r<|lv ((opv_sliceLhm r r r (by decide)).as (v' := Ns) r) r<|an r<|sr<|ec r<|lf 0 r r<|ea r<|lv ((opv_sliceLlo r r (by decide)).as (v' := Ns) r) r<|ea r<|fa 0 r<|so r r<|nr<|ec r<|nk<|jr ?_
 exact r2 r Ent.take
theorem i350 (a c d e g h j k l m o p : Nat) : Sp Tryz.prog 207 #[Pt a 0, I 150] ((sep (c78 a c d e g h j k l m o p) (c28 o))) (.tuple #[]) ((sep (c78 a c d e g h j k l m o p) (c30 o))) := by
 refine en Tryz.func207 r fun σ F=>sb r<|lf 9 r r<|ea r<|cu (i349 o) r<|ed r<|an r<|sa r<|ll r<|an r<|jl<|uf r<|z0 r Ent.take
theorem i351 (a c d e g h j k l m o p : Nat) : Sp Tryz.prog 186 #[Pt a 0, I 150] ((sep (c75 a c d e g h j k l m o p) (c28 o))) (.tuple #[]) ((sep (c78 a c d e g h j k l m o p) (c30 o))) := by
 refine en Tryz.func186 r fun σ F=>sr<|ec r<|fa 10 r<|so r r<|nj<|sb r<|cu (i347 a c d e g h j k l m o p) r<|an r<|jl<|ju<|js<|sa r<|np false r<|nf r<|jx ?_
 refine ke<|ke<|kh<|kt<|jg<|eb r<|cu (i350 a c d e g h j k l m o p) r<|ln<|z0 r Ent.take
theorem i352 (a c d e g h j k l m o p : Nat) : Sp Tryz.prog 162 #[Pt a 0, I 150] ((sep (c75 a c d e g h j k l m o p) (c28 o))) (.tuple #[Ns, I 0]) ((sep (c78 a c d e g h j k l m o p) (c30 o))) := by
 refine en Tryz.func162 r fun σ F=>sb r<|nj<|sb r<|cu (i346 a c d e g h j k l m o p) r<|an r<|sb r<|nf r<|sk<|sb r<|cu (i351 a c d e g h j k l m o p) r<|nr<|eb r<|lf 14 r r<|an r<|sb r ?_
 refine fa 14 r<|so r r<|nr<|ec r<|nk<|jr<|r2 r Ent.take
theorem i353 (a c d e g h j k l m o p q s t u : Nat) : Sp Tryz.prog 135 #[Pt a 0, I 150] ((sep (c141 a c d e g h j k l m o p q) (sep (c75 m c d e g h j k l s t u) (c28 t)))) (.tuple #[Ns, I 0]) ((sep (c144 a c d e g h j k l m o p q) (sep (c78 m c d e g h j k l s t u) (c30 t)))) := by
 refine en Tryz.func135 r fun σ F=>sb r<|nj<|jb<|sa r<|ep false r<|an r<|cf r<|sa r<|cu i334 r<|bf r<|skb<|js<|sb r<|cu (i345 a c d e g h j k l m o p q) r<|an r ?_
 refine sb r<|nf r<|sk<|sb r<|lf 7 r r<|ea r<|cu (i352 m c d e g h j k l s t u) r<|ed r<|nk<|jr<|r2 r Ent.take
theorem i354 (a c d e g h j k l m o p q : Nat) : Sp Tryz.prog 104 #[Pt a 0, I 150] (c142 a c d e g h j k l m o p q) (I 0) (c145 a c d e g h j k l m o p q) := by
 refine en Tryz.func104 r fun σ F=>san r<|js<|sr<|ec r<|lf 11 r r<|an r<|cf r<|sk<|sr<|ec r<|fa 11 r<|so r r<|nr<|an r<|jr ?_
 exact r1 r Ent.take
theorem i355 (a c d e g h j k l m o p : Nat) : Kp Tryz.prog 185 #[Pt a 0, I 150] (c76 a c d e g h j k l m o p) (I 0) := by
 refine en Tryz.func185 r fun σ F=>san r<|js<|jb<|sa r<|ep false r<|an r<|cf r<|sr<|ec r<|go r<|ea r<|go r<|ec r<|nf r<|sr ?_
 refine ec r<|lf 10 r r<|bf r<|skb<|san r<|jr<|r1 r Ent.take
theorem i356 (a c d e g h j k l m o p : Nat) : Kp Tryz.prog 205 #[Pt a 0, I 150] (c79 a c d e g h j k l m o p) (Np) := by
 refine en Tryz.func205 r fun σ F=>san r<|san r<|js<|sb r<|lf 8 r r<|ll r<|an r<|jl<|uf r<|kt<|sb r<|nk<|jr<|r1 r Ent.take
theorem i357 (a c d e g h j k l m o p : Nat) : Sp Tryz.prog 207 #[Pt a 0, I 150] ((sep (c79 a c d e g h j k l m o p) (c28 o))) (.tuple #[]) ((sep (c79 a c d e g h j k l m o p) (c30 o))) := by
 refine en Tryz.func207 r fun σ F=>sb r<|lf 9 r r<|ea r<|cu (i349 o) r<|ed r<|an r<|sa r<|ll r<|an r<|jl<|uf r<|z0 r Ent.take
theorem i358 (a c d e g h j k l m o p : Nat) : Sp Tryz.prog 186 #[Pt a 0, I 150] ((sep (c76 a c d e g h j k l m o p) (c28 o))) (.tuple #[]) ((sep (c79 a c d e g h j k l m o p) (c30 o))) := by
 refine en Tryz.func186 r fun σ F=>sr<|ec r<|fa 10 r<|so r r<|nj<|sb r<|cu (i356 a c d e g h j k l m o p) r<|an r<|jl<|ju<|js<|sa r<|np false r<|nf r<|jx ?_
 refine ke<|ke<|kh<|kt<|jg<|eb r<|cu (i357 a c d e g h j k l m o p) r<|ln<|z0 r Ent.take
theorem i359 (a c d e g h j k l m o p : Nat) : Sp Tryz.prog 162 #[Pt a 0, I 150] ((sep (c76 a c d e g h j k l m o p) (c28 o))) (.tuple #[Ns, I 0]) ((sep (c79 a c d e g h j k l m o p) (c30 o))) := by
 refine en Tryz.func162 r fun σ F=>sb r<|nj<|sb r<|cu (i355 a c d e g h j k l m o p) r<|an r<|sb r<|nf r<|sk<|sb r<|cu (i358 a c d e g h j k l m o p) r<|nr<|eb r<|lf 14 r r<|an r<|sb r ?_
 refine fa 14 r<|so r r<|nr<|ec r<|nk<|jr<|r2 r Ent.take
theorem i360 (a c d e g h j k l m o p q s t u : Nat) : Sp Tryz.prog 135 #[Pt a 0, I 150] ((sep (c142 a c d e g h j k l m o p q) (sep (c76 m c d e g h j k l s t u) (c28 t)))) (.tuple #[Ns, I 0]) ((sep (c145 a c d e g h j k l m o p q) (sep (c79 m c d e g h j k l s t u) (c30 t)))) := by
 refine en Tryz.func135 r fun σ F=>sb r<|nj<|jb<|sa r<|ep false r<|an r<|cf r<|sa r<|cu i334 r<|bf r<|skb<|js<|sb r<|cu (i354 a c d e g h j k l m o p q) r<|an r ?_
 refine sb r<|nf r<|sk<|sb r<|lf 7 r r<|ea r<|cu (i359 m c d e g h j k l s t u) r<|ed r<|nk<|jr<|r2 r Ent.take
theorem i361 (a c d e g h j k l : Nat) : Kp Tryz.prog 100 #[Pt a 0, I 150] (c96 a c d e g h j k l) (I 0) := by
 refine en Tryz.func100 r fun σ F=>san r<|js<|jb<|sa r<|ep false r<|an r<|cf r<|sr<|ec r<|go r<|ea r<|go r<|ec r<|nf r<|sr ?_
 refine ec r<|lf 4 r r<|bf r<|skb<|san r<|jr<|r1 r Ent.take
theorem i362 (a c d e g h j k l : Nat) : Sp Tryz.prog 101 #[Pt a 0, I 150] (c96 a c d e g h j k l) (.tuple #[]) (c125 a c d e g h j k l) := by
 refine en Tryz.func101 r fun σ F=>sr<|ec r<|fa 4 r<|so r r<|nk<|jl<|ju<|js<|sb r<|lf 3 r r<|ll r<|eb r<|gs r<|gs r<|gs r ?_
 refine gs r<|gs r<|gs r<|gs r<|gs r<|gs r<|an r<|cf r<|jx<|ke<|ke<|kh<|z0 r Ent.take
theorem i363 (a : Nat) : Kp Tryz.prog 187 #[Pt a 0, I 150] (c29 a) (I 0) := by
 refine en Tryz.func187 r fun σ F=>san r<|js<|jb<|sa r<|ep false r<|an r<|cf r<|sr<|ec r<|go r<|ea r<|go r<|ec r<|nf r<|sr ?_
 refine ec r<|lf 12 r r<|bf r<|skb<|san r<|jr<|r1 r Ent.take
theorem i364 (a : Nat) : Sp Tryz.prog 188 #[Pt a 0, I 150] (c29 a) (.tuple #[]) (c37 a) := by
 refine en Tryz.func188 r fun σ F=>sr<|ec r<|fa 12 r<|so r r<|nk<|jl<|ju<|js<|sb r<|lf 6 r r<|ea r<|gs r<|gs r<|gs r<|gs r ?_
 refine gs r<|gs r<|gs r<|an r<|cf r<|jx<|ke<|ke<|kh<|z0 r Ent.take
theorem i365 (a : Nat) : Sp Tryz.prog 163 #[Pt a 0, I 150] (c29 a) (.tuple #[Ns, I 0]) (c37 a) := by
 refine en Tryz.func163 r fun σ F=>sb r<|nj<|sb r<|cu (i363 a) r<|an r<|sb r<|nf r<|sk<|sb r<|cu (i364 a) r<|nr<|eb r<|lf 11 r r<|an r<|sb r ?_
 refine fa 11 r<|so r r<|nr<|ec r<|nk<|jr<|r2 r Ent.take
theorem i366 (a : Nat) : Kp Tryz.prog 187 #[Pt a 0, I 150] (c58 a) (I 0) := by
 refine en Tryz.func187 r fun σ F=>san r<|js<|jb<|sa r<|ep false r<|an r<|cf r<|sr<|ec r<|go r<|ea r<|go r<|ec r<|nf r<|sr ?_
 refine ec r<|lf 12 r r<|bf r<|skb<|san r<|jr<|r1 r Ent.take
theorem i367 (a : Nat) : Sp Tryz.prog 188 #[Pt a 0, I 150] (c58 a) (.tuple #[]) (c107 a) := by
 refine en Tryz.func188 r fun σ F=>sr<|ec r<|fa 12 r<|so r r<|nk<|jl<|ju<|js<|sb r<|lf 6 r r<|ea r<|go r<|ea r<|go r<|ea r ?_
 refine go r<|fa 7 r<|go r<|fa 10 r<|go r<|ld r r<|go r<|ea r<|go r<|bf r<|jx<|ke<|ke<|kh<|z0 r Ent.take
theorem i368 (a : Nat) : Sp Tryz.prog 163 #[Pt a 0, I 150] (c58 a) (.tuple #[Ns, I 0]) (c107 a) := by
 refine en Tryz.func163 r fun σ F=>sb r<|nj<|sb r<|cu (i366 a) r<|an r<|sb r<|nf r<|sk<|sb r<|cu (i367 a) r<|nr<|eb r<|lf 11 r r<|an r<|sb r ?_
 refine fa 11 r<|so r r<|nr<|ec r<|nk<|jr<|r2 r Ent.take
theorem i369 (a c d e g h j k l m o p : Nat) : Sp Tryz.prog 137 #[Pt a 0, I 150] ((sep (c96 a c d e g h j k l) (sep (c6 c d e m o p) (sep (c29 m) (sep (c58 o) (c29 p)))))) (.tuple #[Ns, I 0]) ((sep (c125 a c d e g h j k l) (sep (c6 c d e m o p) (sep (c37 m) (sep (c107 o) (c37 p)))))) := by
 refine en Tryz.func137 r fun σ F=>sb r<|nj<|sb r<|cu (i361 a c d e g h j k l) r<|an r<|sb r<|nf r<|sk<|sb r<|cu (i362 a c d e g h j k l) r<|nr<|an r<|js<|sb r<|lf 1 r r ?_
 refine ll r<|an r<|jl<|ut r<|js<|jb<|sa r<|ix d r r<|lv (opv_ldO 0 r r r) r<|eb r<|nr<|eb r<|cu (i365 m) r<|ed r<|an r<|sa r ?_
 refine ll r<|an r<|jl<|uf r<|ni (I 1) r<|ut r<|js<|jb<|sa r<|ix (d + 1) r r<|lv (opv_ldO 1 r r r) r<|eb r<|nr<|eb r<|cu (i368 o) r<|ed r ?_
 refine an r<|sa r<|ll r<|an r<|jl<|uf r<|ni (I 2) r<|ut r<|js<|jb<|sa r<|ix (d + 2) r r<|lv (opv_ldO 2 r r r) r<|eb r<|nr<|eb r ?_
 refine cu (i365 p) r<|ed r<|an r<|sa r<|ll r<|an r<|jl<|uf r<|ni (I 3) r<|uf r<|kt<|sa r<|cu i254 r<|nr<|ec r<|nk ?_
 refine jr<|r2 r Ent.take
theorem i370 (a c d e g h j k l : Nat) : Kp Tryz.prog 100 #[Pt a 0, I 150] (c97 a c d e g h j k l) (I 0) := by
 refine en Tryz.func100 r fun σ F=>san r<|js<|jb<|sa r<|ep false r<|an r<|cf r<|sr<|ec r<|go r<|ea r<|go r<|ec r<|nf r<|sr ?_
 refine ec r<|lf 4 r r<|bf r<|skb<|san r<|jr<|r1 r Ent.take
theorem i371 (a c d e g h j k l : Nat) : Sp Tryz.prog 101 #[Pt a 0, I 150] (c97 a c d e g h j k l) (.tuple #[]) (c126 a c d e g h j k l) := by
 refine en Tryz.func101 r fun σ F=>sr<|ec r<|fa 4 r<|so r r<|nk<|jl<|ju<|js<|sb r<|lf 3 r r<|ll r<|eb r<|gs r<|gs r<|gs r ?_
 refine gs r<|gs r<|gs r<|gs r<|gs r<|gs r<|an r<|cf r<|jx<|ke<|ke<|kh<|z0 r Ent.take
theorem i372 (a : Nat) : Kp Tryz.prog 187 #[Pt a 0, I 150] (c59 a) (I 0) := by
 refine en Tryz.func187 r fun σ F=>san r<|js<|jb<|sa r<|ep false r<|an r<|cf r<|sr<|ec r<|go r<|ea r<|go r<|ec r<|nf r<|sr ?_
 refine ec r<|lf 12 r r<|bf r<|skb<|san r<|jr<|r1 r Ent.take
theorem i373 (a : Nat) : Sp Tryz.prog 188 #[Pt a 0, I 150] (c59 a) (.tuple #[]) (c108 a) := by
 refine en Tryz.func188 r fun σ F=>sr<|ec r<|fa 12 r<|so r r<|nk<|jl<|ju<|js<|sb r<|lf 6 r r<|ea r<|go r<|ea r<|go r<|ea r ?_
 refine go r<|fa 7 r<|go r<|fa 10 r<|go r<|ld r r<|go r<|ea r<|go r<|bf r<|jx<|ke<|ke<|kh<|z0 r Ent.take
theorem i374 (a : Nat) : Sp Tryz.prog 163 #[Pt a 0, I 150] (c59 a) (.tuple #[Ns, I 0]) (c108 a) := by
 refine en Tryz.func163 r fun σ F=>sb r<|nj<|sb r<|cu (i372 a) r<|an r<|sb r<|nf r<|sk<|sb r<|cu (i373 a) r<|nr<|eb r<|lf 11 r r<|an r<|sb r ?_
 refine fa 11 r<|so r r<|nr<|ec r<|nk<|jr<|r2 r Ent.take
theorem i375 (a c d e g h j k l m o p : Nat) : Sp Tryz.prog 137 #[Pt a 0, I 150] ((sep (c97 a c d e g h j k l) (sep (c6 c d e m o p) (sep (c29 m) (sep (c59 o) (c29 p)))))) (.tuple #[Ns, I 0]) ((sep (c126 a c d e g h j k l) (sep (c6 c d e m o p) (sep (c37 m) (sep (c108 o) (c37 p)))))) := by
 refine en Tryz.func137 r fun σ F=>sb r<|nj<|sb r<|cu (i370 a c d e g h j k l) r<|an r<|sb r<|nf r<|sk<|sb r<|cu (i371 a c d e g h j k l) r<|nr<|an r<|js<|sb r<|lf 1 r r ?_
 refine ll r<|an r<|jl<|ut r<|js<|jb<|sa r<|ix d r r<|lv (opv_ldO 0 r r r) r<|eb r<|nr<|eb r<|cu (i365 m) r<|ed r<|an r<|sa r ?_
 refine ll r<|an r<|jl<|uf r<|ni (I 1) r<|ut r<|js<|jb<|sa r<|ix (d + 1) r r<|lv (opv_ldO 1 r r r) r<|eb r<|nr<|eb r<|cu (i374 o) r<|ed r ?_
 refine an r<|sa r<|ll r<|an r<|jl<|uf r<|ni (I 2) r<|ut r<|js<|jb<|sa r<|ix (d + 2) r r<|lv (opv_ldO 2 r r r) r<|eb r<|nr<|eb r ?_
 refine cu (i365 p) r<|ed r<|an r<|sa r<|ll r<|an r<|jl<|uf r<|ni (I 3) r<|uf r<|kt<|sa r<|cu i254 r<|nr<|ec r<|nk ?_
 refine jr<|r2 r Ent.take
theorem i376 (a c d e g h j k l m o p q s t u v w A B C D E G H M N O P R T U V W X Y A0 a0 B0 C0 d0 D0 g0 G0 h0 H0 j0 M0 N0 o0 p0 P0 q0 R0 t0 T0 u0 U0 v0 V0 w0 W0 A1 a1 B1 C1 d1 D1 g1 G1 h1 H1 j1 M1 N1 o1 p1 : Nat) : Sp Tryz.prog 99 #[Pt a 0, I 150] ((sep (c13 a c d e g h j k l m o p q s t u) (sep (c17 m o p v w A) (sep (c140 v c d e g h j k l B C D E) (sep (c62 B c d e g h j k l G H M N O P) (sep (c4 H M N) (sep (c0 G R) (sep (c10 R T U V W X) (sep (c9 W Y A0 a0) (sep (c63 O B0 C0 d0) (sep (c141 w c d e g h j k l D0 g0 G0 h0) (sep (c75 D0 c d e g h j k l H0 j0 M0) (sep (c28 j0) (sep (c142 A c d e g h j k l N0 o0 p0 P0) (sep (c76 N0 c d e g h j k l q0 R0 t0) (sep (c28 R0) (sep (c96 q T0 u0 U0 v0 V0 w0 W0 A1) (sep (c6 T0 u0 U0 a1 B1 C1) (sep (c29 a1) (sep (c58 B1) (sep (c29 C1) (sep (c97 s d1 D1 g1 G1 h1 H1 j1 M1) (sep (c6 d1 D1 g1 N1 o1 p1) (sep (c29 N1) (sep (c59 o1) (c29 p1)))))))))))))))))))))))))) (.tuple #[]) ((sep (c13 a c d e g h j k l m o p q s t u) (sep (c17 m o p v w A) (sep (c143 v c d e g h j k l B C D E) (sep (c77 B c d e g h j k l G H M N O P) (sep (c4 H M N) (sep (c0 G R) (sep (c10 R T U V W X) (sep (c9 W Y A0 a0) (sep (c64 O B0 C0 d0) (sep (c144 w c d e g h j k l D0 g0 G0 h0) (sep (c78 D0 c d e g h j k l H0 j0 M0) (sep (c30 j0) (sep (c145 A c d e g h j k l N0 o0 p0 P0) (sep (c79 N0 c d e g h j k l q0 R0 t0) (sep (c30 R0) (sep (c125 q T0 u0 U0 v0 V0 w0 W0 A1) (sep (c6 T0 u0 U0 a1 B1 C1) (sep (c37 a1) (sep (c107 B1) (sep (c37 C1) (sep (c126 s d1 D1 g1 G1 h1 H1 j1 M1) (sep (c6 d1 D1 g1 N1 o1 p1) (sep (c37 N1) (sep (c108 o1) (c37 p1)))))))))))))))))))))))))) := by
 refine en Tryz.func99 r fun σ F=>js<|san r<|jl<|ut r<|js<|jb<|sb r<|nk<|jg<|ec r<|cu (i332 a c d e g h j k l m o p q s t u) r<|ln<|ni (I 1) r<|ut r<|js ?_
 refine jb<|sb r<|nk<|jg<|ec r<|cu (i333 a c d e g h j k l m o p q s t u) r<|ln<|ni (I 2) r<|uf r<|kt<|js<|sb r<|lf 6 r r<|ll r<|an r<|jl ?_
 refine ut r<|js<|jb<|sa r<|ix o r r<|lv (opv_ldO 0 r r r) r<|eb r<|nr<|eb r<|cu (i344 v c d e g h j k l B C D E G H M N O P R T U V W X Y A0 a0 B0 C0 d0) r<|ed r<|an r<|sa r<|ll r<|an r<|jl ?_
 refine uf r<|ni (I 1) r<|ut r<|js<|jb<|sa r<|ix (o + 1) r r<|lv (opv_ldO 1 r r r) r<|eb r<|nr<|eb r<|cu (i353 w c d e g h j k l D0 g0 G0 h0 H0 j0 M0) r<|ed r<|an r<|sa r<|ll r ?_
 refine an r<|jl<|uf r<|ni (I 2) r<|ut r<|js<|jb<|sa r<|ix (o + 2) r r<|lv (opv_ldO 2 r r r) r<|eb r<|nr<|eb r<|cu (i360 A c d e g h j k l N0 o0 p0 P0 q0 R0 t0) r<|ed r<|an r ?_
 refine sa r<|ll r<|an r<|jl<|uf r<|ni (I 3) r<|uf r<|kt<|sb r<|fa 7 r<|ls r<|an r<|jl<|ut r<|js<|jb ?_
 refine sa r<|lv (opv_ixV r r r r) r<|eb r<|nr<|eb r<|cu (i369 q T0 u0 U0 v0 V0 w0 W0 A1 a1 B1 C1) r<|ed r<|an r<|sa r<|ll r<|an r<|jl<|uf r<|ni (I 1) r<|ut r<|js ?_
 refine jb<|sa r<|lv (opv_ixV r r r r) r<|eb r<|nr<|eb r<|cu (i375 s d1 D1 g1 G1 h1 H1 j1 M1 N1 o1 p1) r<|ed r<|an r<|sa r<|ll r<|an r<|jl<|uf r<|ni (I 2) r<|uf r ?_
 exact z0 r Ent.take
theorem i377 (a c d e g h j k l m o p q s t u : Nat) : Kp Tryz.prog 134 #[Pt a 0, I 200, I 0] (c13 a c d e g h j k l m o p q s t u) (.tuple #[]) := by
 refine en Tryz.func134 r fun σ F=>sr<|bx r fun b1=>bx r fun b2=>nr<|lv (opv_makeFunc r r) r<|an r<|js<|sb r<|lf 11 r r<|ll r<|an r<|jl<|uf r<|kt<|jg ?_
 refine ec r<|lf 11 r r<|ea r<|cu (i200 b2 b1) r<|ea r<|fa 11 r<|so r r<|ln<|z0 r Ent.take
theorem i378 (a c d e g h j k l m o p q s t u : Nat) : Kp Tryz.prog 134 #[Pt a 0, I 200, I 1] (c13 a c d e g h j k l m o p q s t u) (.tuple #[]) := by
 refine en Tryz.func134 r fun σ F=>sr<|bx r fun b1=>bx r fun b2=>nr<|lv (opv_makeFunc r r) r<|an r<|js<|sb r<|lf 11 r r<|ll r<|an r<|jl<|uf r<|kt<|jg ?_
 refine ec r<|lf 11 r r<|ea r<|cu (i200 b2 b1) r<|ea r<|fa 11 r<|so r r<|ln<|z0 r Ent.take
theorem i379 : Kp Tryz.prog 103 #[I 200] (emp) (Tt) := by
 refine en Tryz.func103 r fun σ F=>J_emp<|san r<|sr<|ec r<|go r<|ea r<|go r<|ec r<|nk<|jr<|r1 r Ent.take
theorem i380 (a c d e g h j k l m o p q : Nat) : Sp Tryz.prog 104 #[Pt a 0, I 200] (c143 a c d e g h j k l m o p q) (I 0) (c146 a c d e g h j k l m o p q) := by
 refine en Tryz.func104 r fun σ F=>san r<|js<|sr<|ec r<|lf 11 r r<|an r<|cf r<|sk<|sr<|ec r<|fa 11 r<|so r r<|nr<|an r<|jr ?_
 exact r1 r Ent.take
theorem i381 (a c d e g h j k l m o p q s t : Nat) : Kp Tryz.prog 185 #[Pt a 0, I 200] (c77 a c d e g h j k l m o p q s t) (I 0) := by
 refine en Tryz.func185 r fun σ F=>san r<|js<|jb<|sa r<|ep false r<|an r<|cf r<|sr<|ec r<|go r<|ea r<|go r<|ec r<|nf r<|sr ?_
 refine ec r<|lf 10 r r<|bf r<|skb<|san r<|jr<|r1 r Ent.take
theorem i382 (a c d e g h j k l m o p q s t u w A B C D E G H : Nat) : Kp Tryz.prog 205 #[Pt a 0, I 200] ((sep (c80 a c d e g h j k l m o p q s t) (sep (c4 o p q) (sep (c0 m u) (sep (c10 u w A B C D) (c9 C E G H)))))) (Np) := by
 refine en Tryz.func205 r fun σ F=>san r<|san r<|js<|sb r<|lf 8 r r<|ll r<|an r<|jl<|ut r<|js<|jb<|sr<|ix p r r<|lv (opv_ldO 0 r r r) r<|an r ?_
 refine sb r<|lf 7 r r<|ea r<|lv (opv_lookC (v := Pt u 0) r r r) r<|an r<|sb r<|lf 8 r r<|cu (i221 C E G H) r<|eb r<|gs r<|gs r<|gs r<|gs r<|eb r<|gs r<|gs r ?_
 refine gs r<|L_gU r r r<|L_gU r r r<|L_gU r r r<|L_gU r r r<|L_gU r r r<|gs r<|an r<|cf r<|jk<|ni (I 1) r<|uf r<|kt<|sb r<|nk<|jr<|r1 r Ent.take
theorem i383 (a c d e : Nat) : Kp Tryz.prog 237 #[Pt a 0, I 200] (c64 a c d e) (I 0) := by
 refine en Tryz.func237 r fun σ F=>san r<|js<|jb<|sa r<|ep false r<|an r<|cf r<|sr<|ec r<|go r<|ea r<|go r<|ec r<|nf r<|sr ?_
 refine ec r<|lf 1 r r<|bf r<|skb<|san r<|jr<|r1 r Ent.take
theorem i384 (a c d e : Nat) : Sp Tryz.prog 234 #[Pt a 0, I 200] (c64 a c d e) (.tuple #[Sk c (if d = 1 then e else e + 1 * 4) 0 0, I 0]) (c65 a c d e) := by
 refine en Tryz.func234 r fun σ F=>sr<|bx r fun b1=>eb r<|nj<|sa r<|ld r r<|cu (i383 a c d e) r<|an r<|sb r<|nf r<|sk<|sa r<|ld r r<|ea r<|fa 1 r ?_
 refine so r r<|nr<|eb r<|lf 0 r r<|lv (opv_makeFunc r r) r<|cu (i339 c d e b1) r<|an r<|js<|sb r<|nt r<|jg<|eb r<|lf 0 r r<|ll r<|an r<|sb r ?_
 refine lf 0 r r<|eb r<|lv (opv_hm0 r r r) r<|an r<|sr<|ec r<|lf 0 r r<|ea r<|lv (opv_ct0 r r) r<|ea r<|fa 0 r<|so r r<|nr<|ec r<|nk<|jr ?_
 exact r2 r Ent.take
theorem i385 (a c d e g h j k l m o p q s t u v w : Nat) : Sp Tryz.prog 207 #[Pt a 0, I 200] ((sep (c80 a c d e g h j k l m o p q s t) (c64 s u v w))) (.tuple #[]) ((sep (c80 a c d e g h j k l m o p q s t) (c65 s u v w))) := by
 refine en Tryz.func207 r fun σ F=>sb r<|lf 9 r r<|ea r<|cu (i384 s u v w) r<|ed r<|an r<|sa r<|ll r<|an r<|jl<|uf r<|z0 r Ent.take
theorem i386 (a c d e g h j k l m o p q s t u v w A B C D E G H M N : Nat) : Sp Tryz.prog 186 #[Pt a 0, I 200] ((sep (c77 a c d e g h j k l m o p q s t) (sep (c4 o p q) (sep (c0 m u) (sep (c10 u v w A B C) (sep (c9 B D E G) (c64 s H M N))))))) (.tuple #[]) ((sep (c80 a c d e g h j k l m o p q s t) (sep (c4 o p q) (sep (c0 m u) (sep (c10 u v w A B C) (sep (c9 B D E G) (c65 s H M N))))))) := by
 refine en Tryz.func186 r fun σ F=>sr<|ec r<|fa 10 r<|so r r<|nj<|sb r<|cu (i382 a c d e g h j k l m o p q s t u v w A B C D E G) r<|an r<|jl<|ju<|js<|sa r<|np false r<|nf r<|jx ?_
 refine ke<|ke<|kh<|kt<|jg<|eb r<|cu (i385 a c d e g h j k l m o p q s t H M N) r<|ln<|z0 r Ent.take
theorem i387 (a c d e g h j k l m o p q s t u v w A B C D E G H M N : Nat) : Sp Tryz.prog 162 #[Pt a 0, I 200] ((sep (c77 a c d e g h j k l m o p q s t) (sep (c4 o p q) (sep (c0 m u) (sep (c10 u v w A B C) (sep (c9 B D E G) (c64 s H M N))))))) (.tuple #[Ns, I 0]) ((sep (c80 a c d e g h j k l m o p q s t) (sep (c4 o p q) (sep (c0 m u) (sep (c10 u v w A B C) (sep (c9 B D E G) (c65 s H M N))))))) := by
 refine en Tryz.func162 r fun σ F=>sb r<|nj<|sb r<|cu (i381 a c d e g h j k l m o p q s t) r<|an r<|sb r<|nf r<|sk<|sb r<|cu (i386 a c d e g h j k l m o p q s t u v w A B C D E G H M N) r<|nr<|eb r<|lf 14 r r<|an r<|sb r ?_
 refine fa 14 r<|so r r<|nr<|ec r<|nk<|jr<|r2 r Ent.take
theorem i388 (a c d e g h j k l m o p q s t u v w A B C D E G H M N O P R T : Nat) : Sp Tryz.prog 135 #[Pt a 0, I 200] ((sep (c143 a c d e g h j k l m o p q) (sep (c77 m c d e g h j k l s t u v w A) (sep (c4 t u v) (sep (c0 s B) (sep (c10 B C D E G H) (sep (c9 G M N O) (c64 w P R T)))))))) (.tuple #[Ns, I 0]) ((sep (c146 a c d e g h j k l m o p q) (sep (c80 m c d e g h j k l s t u v w A) (sep (c4 t u v) (sep (c0 s B) (sep (c10 B C D E G H) (sep (c9 G M N O) (c65 w P R T)))))))) := by
 refine en Tryz.func135 r fun σ F=>sb r<|nj<|jb<|sa r<|ep false r<|an r<|cf r<|sa r<|cu i379 r<|bf r<|skb<|js<|sb r<|cu (i380 a c d e g h j k l m o p q) r<|an r ?_
 refine sb r<|nf r<|sk<|sb r<|lf 7 r r<|ea r<|cu (i387 m c d e g h j k l s t u v w A B C D E G H M N O P R T) r<|ed r<|nk<|jr<|r2 r Ent.take
theorem i389 (a c d e g h j k l m o p q : Nat) : Sp Tryz.prog 104 #[Pt a 0, I 200] (c144 a c d e g h j k l m o p q) (I 0) (c81 a c d e g h j k l m o p q) := by
 refine en Tryz.func104 r fun σ F=>san r<|js<|sr<|ec r<|lf 11 r r<|an r<|cf r<|sk<|sr<|ec r<|fa 11 r<|so r r<|nr<|an r<|jr ?_
 exact r1 r Ent.take
theorem i390 (a c d e g h j k l m o p : Nat) : Kp Tryz.prog 185 #[Pt a 0, I 200] (c78 a c d e g h j k l m o p) (I 0) := by
 refine en Tryz.func185 r fun σ F=>san r<|js<|jb<|sa r<|ep false r<|an r<|cf r<|sr<|ec r<|go r<|ea r<|go r<|ec r<|nf r<|sr ?_
 refine ec r<|lf 10 r r<|bf r<|skb<|san r<|jr<|r1 r Ent.take
theorem i391 (a c d e g h j k l m o p : Nat) : Kp Tryz.prog 205 #[Pt a 0, I 200] (c82 a c d e g h j k l m o p) (Np) := by
 refine en Tryz.func205 r fun σ F=>san r<|san r<|js<|sb r<|lf 8 r r<|ll r<|an r<|jl<|uf r<|kt<|sb r<|nk<|jr<|r1 r Ent.take
theorem i392 (a : Nat) : Kp Tryz.prog 237 #[Pt a 0, I 200] (c30 a) (I 0) := by
 refine en Tryz.func237 r fun σ F=>san r<|js<|jb<|sa r<|ep false r<|an r<|cf r<|sr<|ec r<|go r<|ea r<|go r<|ec r<|nf r<|sr ?_
 refine ec r<|lf 1 r r<|bf r<|skb<|san r<|jr<|r1 r Ent.take
theorem i393 (a : Nat) : Sp Tryz.prog 234 #[Pt a 0, I 200] (c30 a) (.tuple #[Ns, I 0]) (c31 a) := by
 refine en Tryz.func234 r fun σ F=>sr<|bx r fun b1=>eb r<|nj<|sa r<|ld r r<|cu (i392 a) r<|an r<|sb r<|nf r<|sk<|sa r<|ld r r<|ea r<|fa 1 r ?_
 refine so r r<|nr<|eb r<|lf 0 r r<|lv (opv_makeFunc r r) r<|cu (i185 b1) r<|an r<|js<|sb r<|nt r<|jg<|eb r<|lf 0 r r<|ll r<|an r<|sb r ?_
 refine lf 0 r r<|eb r<|lv ((opv_sliceLhm r r r (by decide)).as (v' := Ns) r) r<|an r<|sr<|ec r<|lf 0 r r<|ea r<|lv ((opv_sliceLlo r r (by decide)).as (v' := Ns) r) r<|ea r<|fa 0 r<|so r r<|nr<|ec r<|nk<|jr ?_
 exact r2 r Ent.take
theorem i394 (a c d e g h j k l m o p : Nat) : Sp Tryz.prog 207 #[Pt a 0, I 200] ((sep (c82 a c d e g h j k l m o p) (c30 o))) (.tuple #[]) ((sep (c82 a c d e g h j k l m o p) (c31 o))) := by
 refine en Tryz.func207 r fun σ F=>sb r<|lf 9 r r<|ea r<|cu (i393 o) r<|ed r<|an r<|sa r<|ll r<|an r<|jl<|uf r<|z0 r Ent.take
theorem i395 (a c d e g h j k l m o p : Nat) : Sp Tryz.prog 186 #[Pt a 0, I 200] ((sep (c78 a c d e g h j k l m o p) (c30 o))) (.tuple #[]) ((sep (c82 a c d e g h j k l m o p) (c31 o))) := by
 refine en Tryz.func186 r fun σ F=>sr<|ec r<|fa 10 r<|so r r<|nj<|sb r<|cu (i391 a c d e g h j k l m o p) r<|an r<|jl<|ju<|js<|sa r<|np false r<|nf r<|jx ?_
 refine ke<|ke<|kh<|kt<|jg<|eb r<|cu (i394 a c d e g h j k l m o p) r<|ln<|z0 r Ent.take
theorem i396 (a c d e g h j k l m o p : Nat) : Sp Tryz.prog 162 #[Pt a 0, I 200] ((sep (c78 a c d e g h j k l m o p) (c30 o))) (.tuple #[Ns, I 0]) ((sep (c82 a c d e g h j k l m o p) (c31 o))) := by
 refine en Tryz.func162 r fun σ F=>sb r<|nj<|sb r<|cu (i390 a c d e g h j k l m o p) r<|an r<|sb r<|nf r<|sk<|sb r<|cu (i395 a c d e g h j k l m o p) r<|nr<|eb r<|lf 14 r r<|an r<|sb r ?_
 refine fa 14 r<|so r r<|nr<|ec r<|nk<|jr<|r2 r Ent.take
theorem i397 (a c d e g h j k l m o p q s t u : Nat) : Sp Tryz.prog 135 #[Pt a 0, I 200] ((sep (c144 a c d e g h j k l m o p q) (sep (c78 m c d e g h j k l s t u) (c30 t)))) (.tuple #[Ns, I 0]) ((sep (c81 a c d e g h j k l m o p q) (sep (c82 m c d e g h j k l s t u) (c31 t)))) := by
 refine en Tryz.func135 r fun σ F=>sb r<|nj<|jb<|sa r<|ep false r<|an r<|cf r<|sa r<|cu i379 r<|bf r<|skb<|js<|sb r<|cu (i389 a c d e g h j k l m o p q) r<|an r ?_
 refine sb r<|nf r<|sk<|sb r<|lf 7 r r<|ea r<|cu (i396 m c d e g h j k l s t u) r<|ed r<|nk<|jr<|r2 r Ent.take
theorem i398 (a c d e g h j k l m o p q : Nat) : Sp Tryz.prog 104 #[Pt a 0, I 200] (c145 a c d e g h j k l m o p q) (I 0) (c147 a c d e g h j k l m o p q) := by
 refine en Tryz.func104 r fun σ F=>san r<|js<|sr<|ec r<|lf 11 r r<|an r<|cf r<|sk<|sr<|ec r<|fa 11 r<|so r r<|nr<|an r<|jr ?_
 exact r1 r Ent.take
theorem i399 (a c d e g h j k l m o p : Nat) : Kp Tryz.prog 185 #[Pt a 0, I 200] (c79 a c d e g h j k l m o p) (I 0) := by
 refine en Tryz.func185 r fun σ F=>san r<|js<|jb<|sa r<|ep false r<|an r<|cf r<|sr<|ec r<|go r<|ea r<|go r<|ec r<|nf r<|sr ?_
 refine ec r<|lf 10 r r<|bf r<|skb<|san r<|jr<|r1 r Ent.take
theorem i400 (a c d e g h j k l m o p : Nat) : Kp Tryz.prog 205 #[Pt a 0, I 200] (c83 a c d e g h j k l m o p) (Np) := by
 refine en Tryz.func205 r fun σ F=>san r<|san r<|js<|sb r<|lf 8 r r<|ll r<|an r<|jl<|uf r<|kt<|sb r<|nk<|jr<|r1 r Ent.take
theorem i401 (a c d e g h j k l m o p : Nat) : Sp Tryz.prog 207 #[Pt a 0, I 200] ((sep (c83 a c d e g h j k l m o p) (c30 o))) (.tuple #[]) ((sep (c83 a c d e g h j k l m o p) (c31 o))) := by
 refine en Tryz.func207 r fun σ F=>sb r<|lf 9 r r<|ea r<|cu (i393 o) r<|ed r<|an r<|sa r<|ll r<|an r<|jl<|uf r<|z0 r Ent.take
theorem i402 (a c d e g h j k l m o p : Nat) : Sp Tryz.prog 186 #[Pt a 0, I 200] ((sep (c79 a c d e g h j k l m o p) (c30 o))) (.tuple #[]) ((sep (c83 a c d e g h j k l m o p) (c31 o))) := by
 refine en Tryz.func186 r fun σ F=>sr<|ec r<|fa 10 r<|so r r<|nj<|sb r<|cu (i400 a c d e g h j k l m o p) r<|an r<|jl<|ju<|js<|sa r<|np false r<|nf r<|jx ?_
 refine ke<|ke<|kh<|kt<|jg<|eb r<|cu (i401 a c d e g h j k l m o p) r<|ln<|z0 r Ent.take
theorem i403 (a c d e g h j k l m o p : Nat) : Sp Tryz.prog 162 #[Pt a 0, I 200] ((sep (c79 a c d e g h j k l m o p) (c30 o))) (.tuple #[Ns, I 0]) ((sep (c83 a c d e g h j k l m o p) (c31 o))) := by
 refine en Tryz.func162 r fun σ F=>sb r<|nj<|sb r<|cu (i399 a c d e g h j k l m o p) r<|an r<|sb r<|nf r<|sk<|sb r<|cu (i402 a c d e g h j k l m o p) r<|nr<|eb r<|lf 14 r r<|an r<|sb r ?_
 refine fa 14 r<|so r r<|nr<|ec r<|nk<|jr<|r2 r Ent.take
theorem i404 (a c d e g h j k l m o p q s t u : Nat) : Sp Tryz.prog 135 #[Pt a 0, I 200] ((sep (c145 a c d e g h j k l m o p q) (sep (c79 m c d e g h j k l s t u) (c30 t)))) (.tuple #[Ns, I 0]) ((sep (c147 a c d e g h j k l m o p q) (sep (c83 m c d e g h j k l s t u) (c31 t)))) := by
 refine en Tryz.func135 r fun σ F=>sb r<|nj<|jb<|sa r<|ep false r<|an r<|cf r<|sa r<|cu i379 r<|bf r<|skb<|js<|sb r<|cu (i398 a c d e g h j k l m o p q) r<|an r ?_
 refine sb r<|nf r<|sk<|sb r<|lf 7 r r<|ea r<|cu (i403 m c d e g h j k l s t u) r<|ed r<|nk<|jr<|r2 r Ent.take
end Go.Proofs.YtpkcniedaabpoaaGreat
