/- What functions of the program do at the values that a run of a whole network meets, printed by a program of this project; used by the texts that import this one. -/
import Derived.Test.YtpkcniedaabpoaaGreatM3
import Derived.Test.YtpkcniedaabpoaaGreatM8
set_option linter.unusedVariables false
set_option linter.unusedSimpArgs false
namespace Go.Proofs.YtpkcniedaabpoaaGreat
open Go.SLA
set_option maxRecDepth 100000
set_option synthInstance.maxSize 200000
set_option synthInstance.maxHeartbeats 4000000
set_option maxHeartbeats 8000000
attribute [local irreducible] J L K QL Rg FSpec OpV OpX Rd Back JU m1 m2 m3 e0 e1
theorem i1 : FSpec Tryz.prog 18 #[.agg [I 0, I 0, I 0].toArray] (emp) (fun _ : Nat × Nat × Nat × Nat × Nat × Nat × Nat × Nat × Nat => True) (fun y => .agg (k0 y.1 y.2.1 y.2.2.1 y.2.2.2.1 y.2.2.2.2.1 y.2.2.2.2.2.1 y.2.2.2.2.2.2.1 y.2.2.2.2.2.2.2.1).toArray) (fun y => (sep (c1 y.1) (sep (c5 y.2.1) (sep (cel y.2.2.2.2.2.2.2.2 [I 1] 3) (sep (c7 y.2.2.1 y.2.2.2.1 y.2.2.2.2.1 y.2.2.2.2.2.2.2.2) (c2 y.2.2.2.2.2.1 y.2.2.2.2.2.2.1 y.2.2.2.2.2.2.2.1)))))) := by
 refine en Tryz.func18 r fun σ F=>J_emp<|sr<|bx r fun b1=>al r fun b2=>nr<|lf 0 r r<|ib (I 0) r<|ib (I 3) r<|ib (I 0) r<|ib (I 1) r<|an r<|sr<|lf 1 r r<|ib (I 0) r<|ib (I 200) r ?_
 refine ib (I 0) r<|ib (I 80) r<|an r<|sr<|lf 2 r r<|ib (I 0) r<|ib (I 2) r<|ib (I 0) r<|an r<|sr<|lx r (opx_buildSliceL r r r (by decide) (by simp [Value.cells]) r) fun b3 _=>lv (opv_build r) r<|lv (opv_build r) r<|lv (opv_build r) r<|lx r (opx_buildSliceM (m := 3) r r r r r r) fun b4 _=>lv (opv_build r) r ?_
 refine al r fun b5=>so r r<|nj<|san r<|jl<|ju<|js<|sr<|ec r<|nt r<|sk<|js<|jb<|sr<|lf 4 r r<|ea r ?_
 refine ib (I 10) r<|ed r<|lx r (opx_buildSlice1 (m := 1) r r (by decide) (by decide) r) fun b6 _=>lv (opv_build r) r<|lx r (opx_buildSlice1 (m := 8) r r (by decide) (by decide) r) fun b7 _=>lx r (opx_apN (m := 8) (B := 80) 1 r r (Src.lit) r r r (List.all_eq_true.1 r) r r r r) fun z8 _=>fa 4 r<|so r r<|nk<|jg<|lf 5 r r<|ea r<|ib (I 10) r<|ea r<|ib (I 10) r<|lv (opv_build r) r ?_
 refine lx r (opx_buildSlice1 (m := 11) r r (by decide) (by decide) r) fun b9 _=>lx r (opx_apN (m := 11) (B := 88) 1 r r (Src.lit) r r r (List.all_eq_true.1 r) r r r r) fun z10 _=>fa 5 r<|so r r<|ln<|kb<|kt<|jg<|ea r<|ib (I 1) r<|ea r<|kr<|ju<|js<|sr<|ec r ?_
 refine nf r<|jx<|ke<|ke<|kh<|kt<|js<|san r<|jl<|ju<|js<|sr<|ec r<|nt r<|sk<|js ?_
 refine jb<|jg<|lf 5 r r<|ea r<|ib (I 20) r<|ea r<|ib (I 10) r<|lv (opv_build r) r<|lx r (opx_buildSlice1 (m := 11) r r (by decide) (by decide) r) fun b11 _=>lx r (opx_ap (m := 11) (B := 88) 2 r r (Src.lit) r r r (List.all_eq_true.1 r) r r r r) fun z12 _=>fa 5 r<|so r r<|ln<|kb<|kt<|jg ?_
 refine ea r<|ib (I 1) r<|ea r<|kr<|ju<|js<|sr<|ec r<|nf r<|jx<|ke<|ke<|kh<|kt<|sr<|lf 5 r r ?_
 refine lv (opv_build r) r<|lx r (opx_buildSlice1 (m := 11) r r (by decide) (by decide) r) fun b13 _=>lx r (opx_ap (m := 11) (B := 88) 3 r r (Src.lit) r r r (List.all_eq_true.1 r) r r r r) fun z14 _=>fa 5 r<|so r r<|nr<|lf 5 r r<|lv (opv_build r) r<|lx r (opx_buildSlice1 (m := 11) r r (by decide) (by decide) r) fun b15 _=>lx r (opx_ap (m := 11) (B := 88) 4 r r (Src.lit) r r r (List.all_eq_true.1 r) r r r r) fun z16 _=>fa 5 r<|so r r<|nr<|ls r<|so r r<|nk ?_
 refine jr ?_
 exact K_rets r (.agg r r (.nil)) (b3, b4, z8.1, z8.2.1, z8.2.2, z16.1, z16.2.1, z16.2.2, b6) trivial r Ent.take
theorem i2 : Kp Tryz.prog 82 #[I 3, I 1, I 64] (emp) (Tt) := by
 refine en Tryz.func82 r fun σ F=>J_emp<|san r<|sr<|ed r<|go r<|ea r<|go r<|ea r<|go r<|ec r<|nk<|jr<|r1 r Ent.take
theorem i3 : FSpec Tryz.prog 80 #[Tt] (emp) (fun _ : Nat => True) (fun y => .func (.func 81) #[] #[Pt y 0]) (fun y => cel y [Tt] 4) := by
 refine en Tryz.func80 r fun σ F=>J_emp<|sr<|bx r fun b1=>an r<|sr<|lv (opv_makeFunc r r) r<|an r<|jr ?_
 exact K_rets r (.tmp r (.nil)) b1 trivial r Ent.take
theorem i4 : Kp Tryz.prog 82 #[I 1000, I 1, I 1073741824] (emp) (Tt) := by
 refine en Tryz.func82 r fun σ F=>J_emp<|san r<|sr<|ed r<|go r<|ea r<|go r<|ea r<|go r<|ec r<|nk<|jr<|r1 r Ent.take
theorem i5 (a : Nat) : Kp Tryz.prog 81 #[I 0, Pt a 0] (cel a [Tt] 4) (I 0) := by
 refine en Tryz.func81 r fun σ F=>san r<|js<|sr<|ld r r<|nt r<|san r<|jr<|kd<|r1 r Ent.take
theorem i6 (a : Nat) : Kp Tryz.prog 92 #[I 1, .func (.func 81) #[] #[Pt a 0]] (cel a [Tt] 4) (.tuple #[I (-1), I 0]) := by
 refine en Tryz.func92 r fun σ F=>sb r<|nj<|sb r<|nk<|jl<|ut r<|js<|jb<|sb r<|nr<|eb r<|lx r (opx_call (first := []) (captured := [Pt a 0]) (i5 a) r r r r) fun _ _=>an r<|sb r<|nf r ?_
 refine jk<|ni (I 1) r<|uf r<|kt<|sb r<|nk<|jr<|r2 r Ent.take
theorem i7 : Kp Tryz.prog 82 #[I 0, I 0, I 2] (emp) (Tt) := by
 refine en Tryz.func82 r fun σ F=>J_emp<|san r<|sr<|ed r<|go r<|ea r<|go r<|ea r<|go r<|ec r<|nk<|jr<|r1 r Ent.take
theorem i8 (a c d e g h j k l m : Nat) : Kp Tryz.prog 84 #[Pt a 0, I 0] (c8 a c d e g h j k l m) (Tt) := by
 refine en Tryz.func84 r fun σ F=>san r<|sr<|ec r<|fa 0 r<|lf 0 r r<|ib (I 2) r<|cu i7 r<|an r<|jr<|r1 r Ent.take
theorem i9 (a c d e g h j k l m o p q : Nat) : Kp Tryz.prog 83 #[I 0, Pt a 0, Pt c 0, Pt d 0] ((sep (c115 a) (sep (c18 c e) (sep (c40 d g h j k l m o p) (sep (c1 g) (c8 e g h j k l m o p q)))))) (I 0) := by
 refine en Tryz.func83 r fun σ F=>san r<|js<|J_steps ((sep (c115 a) (sep (c18 c e) (sep (c40 d g h j k l m o p) (c1 g))))) (emp) [] Tryz.mixed<|pe 1 r r<|pe 2 r r<|pe 3 r r<|R_psG 5 r (by kernel_rfl) r r (opv_fa 1 r r) r<|R_psG 7 r (by kernel_rfl) r r (opv_move r) r<|pe 13 r r<|pl 0 r r r<|R_psG 4 r (by kernel_rfl) r r (opv_load r (Rd.look r)) r<|R_psG 6 r (by kernel_rfl) r r (opv_load r (Rd.look r)) r<|R_psG 8 r (by kernel_rfl) r r (opv_ix 0 r r r r) r<|R_psG 9 r (by kernel_rfl) r r (opv_load r (Rd.look r)) r<|R_nG 10 r (by kernel_rfl) r r (opx_call0 (i8 e g h j k l m o p q) r r r) fun _ _=>?_
 refine pe 11 r r<|pn 12 r (opx_call (first := []) (captured := []) (i3) r r r r) fun y2 _=>pn 14 r (opx_call (first := []) (captured := [Pt y2 0]) (i5 y2) r r r r) fun _ _=>pe 15 r r<|dn<|kt<|jr<|r1 r Ent.take
theorem i10 : Kp Tryz.prog 82 #[I 1, I 0, I 2] (emp) (Tt) := by
 refine en Tryz.func82 r fun σ F=>J_emp<|san r<|sr<|ed r<|go r<|ea r<|go r<|ea r<|go r<|ec r<|nk<|jr<|r1 r Ent.take
theorem i11 (a c d e g h j k l m : Nat) : Kp Tryz.prog 84 #[Pt a 0, I 1] (c8 a c d e g h j k l m) (Tt) := by
 refine en Tryz.func84 r fun σ F=>san r<|sr<|ec r<|fa 0 r<|lf 0 r r<|ib (I 2) r<|cu i10 r<|an r<|jr<|r1 r Ent.take
theorem i12 (a : Nat) : Kp Tryz.prog 81 #[I 1, Pt a 0] (cel a [Tt] 4) (I 0) := by
 refine en Tryz.func81 r fun σ F=>san r<|js<|sr<|ld r r<|nt r<|san r<|jr<|kd<|r1 r Ent.take
theorem i13 (a c d e g h j k l m o p q : Nat) : Kp Tryz.prog 83 #[I 1, Pt a 0, Pt c 0, Pt d 0] ((sep (c115 a) (sep (c18 c e) (sep (c40 d g h j k l m o p) (sep (c1 g) (c8 e g h j k l m o p q)))))) (I 0) := by
 refine en Tryz.func83 r fun σ F=>san r<|js<|J_steps ((sep (c115 a) (sep (c18 c e) (sep (c40 d g h j k l m o p) (c1 g))))) (emp) [] Tryz.mixed<|pe 1 r r<|pe 2 r r<|pe 3 r r<|R_psG 5 r (by kernel_rfl) r r (opv_fa 1 r r) r<|R_psG 7 r (by kernel_rfl) r r (opv_move r) r<|pe 13 r r<|pl 0 r r r<|R_psG 4 r (by kernel_rfl) r r (opv_load r (Rd.look r)) r<|R_psG 6 r (by kernel_rfl) r r (opv_load r (Rd.look r)) r<|R_psG 8 r (by kernel_rfl) r r (opv_ix 1 r r r r) r<|R_psG 9 r (by kernel_rfl) r r (opv_load r (Rd.look r)) r<|R_nG 10 r (by kernel_rfl) r r (opx_call0 (i11 e g h j k l m o p q) r r r) fun _ _=>?_
 refine pe 11 r r<|pn 12 r (opx_call (first := []) (captured := []) (i3) r r r r) fun y2 _=>pn 14 r (opx_call (first := []) (captured := [Pt y2 0]) (i12 y2) r r r r) fun _ _=>pe 15 r r<|dn<|kt<|jr<|r1 r Ent.take
theorem i14 : Kp Tryz.prog 82 #[I 2, I 0, I 2] (emp) (Tt) := by
 refine en Tryz.func82 r fun σ F=>J_emp<|san r<|sr<|ed r<|go r<|ea r<|go r<|ea r<|go r<|ec r<|nk<|jr<|r1 r Ent.take
theorem i15 (a c d e g h j k l m : Nat) : Kp Tryz.prog 84 #[Pt a 0, I 2] (c8 a c d e g h j k l m) (Tt) := by
 refine en Tryz.func84 r fun σ F=>san r<|sr<|ec r<|fa 0 r<|lf 0 r r<|ib (I 2) r<|cu i14 r<|an r<|jr<|r1 r Ent.take
theorem i16 (a : Nat) : Kp Tryz.prog 81 #[I 2, Pt a 0] (cel a [Tt] 4) (I 0) := by
 refine en Tryz.func81 r fun σ F=>san r<|js<|sr<|ld r r<|nt r<|san r<|jr<|kd<|r1 r Ent.take
theorem i17 (a c d e g h j k l m o p q : Nat) : Kp Tryz.prog 83 #[I 2, Pt a 0, Pt c 0, Pt d 0] ((sep (c115 a) (sep (c18 c e) (sep (c40 d g h j k l m o p) (sep (c1 g) (c8 e g h j k l m o p q)))))) (I 0) := by
 refine en Tryz.func83 r fun σ F=>san r<|js<|J_steps ((sep (c115 a) (sep (c18 c e) (sep (c40 d g h j k l m o p) (c1 g))))) (emp) [] Tryz.mixed<|pe 1 r r<|pe 2 r r<|pe 3 r r<|R_psG 5 r (by kernel_rfl) r r (opv_fa 1 r r) r<|R_psG 7 r (by kernel_rfl) r r (opv_move r) r<|pe 13 r r<|pl 0 r r r<|R_psG 4 r (by kernel_rfl) r r (opv_load r (Rd.look r)) r<|R_psG 6 r (by kernel_rfl) r r (opv_load r (Rd.look r)) r<|R_psG 8 r (by kernel_rfl) r r (opv_ix 2 r r r r) r<|R_psG 9 r (by kernel_rfl) r r (opv_load r (Rd.look r)) r<|R_nG 10 r (by kernel_rfl) r r (opx_call0 (i15 e g h j k l m o p q) r r r) fun _ _=>?_
 refine pe 11 r r<|pn 12 r (opx_call (first := []) (captured := []) (i3) r r r r) fun y2 _=>pn 14 r (opx_call (first := []) (captured := [Pt y2 0]) (i16 y2) r r r r) fun _ _=>pe 15 r r<|dn<|kt<|jr<|r1 r Ent.take
theorem i18 (a c d e g h j k l m o p q : Nat) : Kp Tryz.prog 92 #[I 3, .func (.func 83) #[] #[Pt a 0, Pt c 0, Pt d 0]] ((sep (c115 a) (sep (c18 c e) (sep (c40 d g h j k l m o p) (sep (c1 g) (c8 e g h j k l m o p q)))))) (.tuple #[I (-1), I 0]) := by
 refine en Tryz.func92 r fun σ F=>sb r<|nj<|sb r<|nk<|jl<|ut r<|js<|jb<|sb r<|nr<|eb r<|lx r (opx_call (first := []) (captured := (k9 a c d)) (i9 a c d e g h j k l m o p q) r r r r) fun _ _=>an r<|sb r<|nf r ?_
 refine jk<|ni (I 1) r<|ut r<|js<|jb<|sb r<|nr<|eb r<|lx r (opx_call (first := []) (captured := (k9 a c d)) (i13 a c d e g h j k l m o p q) r r r r) fun _ _=>an r<|sb r<|nf r<|jk<|ni (I 2) r<|ut r<|js<|jb<|sb r ?_
 refine nr<|eb r<|lx r (opx_call (first := []) (captured := (k9 a c d)) (i17 a c d e g h j k l m o p q) r r r r) fun _ _=>an r<|sb r<|nf r<|jk<|ni (I 3) r<|uf r<|kt<|sb r<|nk<|jr<|r2 r Ent.take
theorem i19 (a c d e g h j k l m : Nat) : Kp Tryz.prog 116 #[Pt a 0, I 0] (c8 a c d e g h j k l m) (Tt) := by
 refine en Tryz.func116 r fun σ F=>san r<|sr<|ec r<|fa 0 r<|lf 1 r r<|ll r<|ib (I 2) r<|cu i7 r<|an r<|jr<|r1 r Ent.take
theorem i20 : Kp Tryz.prog 82 #[I 0, I 0, I 1000] (emp) (Tt) := by
 refine en Tryz.func82 r fun σ F=>J_emp<|san r<|sr<|ed r<|go r<|ea r<|go r<|ea r<|go r<|ec r<|nk<|jr<|r1 r Ent.take
theorem i21 : Kp Tryz.prog 82 #[I 1000, I 1, I 1000] (emp) (Tt) := by
 refine en Tryz.func82 r fun σ F=>J_emp<|san r<|sr<|ed r<|go r<|ea r<|go r<|ea r<|go r<|ec r<|nk<|jr<|r1 r Ent.take
theorem i22 (a d e g h j k l m o p : Nat) : Sp Tryz.prog 86 #[Pt a 0, I 0, Mp d] ((sep (c8 a e g h j k l m o p) (sep (c5 g) (sep (c1 e) (c3 d))))) (I 0) ((sep (c8 a e g h j k l m o p) (sep (c5 g) (sep (c1 e) (c159 d))))) := by
 refine en Tryz.func86 r fun σ F=>san r<|sb r<|fa 0 r<|lf 3 r r<|ea r<|ix 0 r r<|ls r<|al r fun b1=>so r r<|nj<|js<|J_quiet Tryz.mixed (by kernel_rfl)<|qb r<|qa r<|qo r ?_
 refine qa r<|qo r<|qf 0 r<|qo r<|ql r r<|qo r<|Q_call (i19 a e g h j k l m o p) r r (fun _ _ => r) (fun _ _ => Ent.refl _) r<|qo r<|qb r<|qa r<|qo r<|qf 1 r<|qo r<|ql r r<|qo r<|qa r ?_
 refine qo r<|qa r<|qo r<|qf 0 r<|qo r<|qf 2 r<|qo r<|ql r r<|qo r<|Q_call (i20) r r (fun _ _ => r) (fun _ _ => Ent.refl _) r<|qo r<|qb r<|qa r<|qo r<|qf 2 r<|qo r ?_
 refine ql r r<|qo r<|qa r<|qo r<|qa r<|qo r<|qf 0 r<|qo r<|qf 2 r<|qo r<|ql r r<|qo r<|qf 1 r<|qo r<|ql r r<|qo r ?_
 refine qv (opv_ib (c := I 1000) r r r) r<|qo r<|Q_call (i21) r r (fun _ _ => r) (fun _ _ => Ent.refl _) r<|qo r<|qb r<|qn<|kt<|cf r<|sk<|js<|J_quiet Tryz.mixed (by kernel_rfl)<|qb r<|qf 0 r<|qf 1 r<|ql r r<|qf 0 r ?_
 refine ql r r<|qv (opv_ix 0 r r r r) r<|ql r r<|qa r<|qn<|kt<|js<|sr<|lf 1 r r<|eb r<|lv (opv_lookC (v := I 0) r r r) r<|an r<|cf r<|sk<|sb r<|lf 1 r r ?_
 refine lf 2 r r<|ib (I 1000) r<|lx r (opx_putC r r r r) fun _ _=>nr<|an r<|jr<|r1 r Ent.take
theorem i23 (a c d e g h j k l m o p q : Nat) : Sp Tryz.prog 85 #[I 0, Pt a 0, Pt c 0] ((sep (c18 a d) (sep (cel c [Mp e] 136) (sep (c8 d g h j k l m o p q) (sep (c5 h) (sep (c1 g) (c3 e))))))) (I 0) ((sep (c18 a d) (sep (cel c [Mp e] 136) (sep (c8 d g h j k l m o p q) (sep (c5 h) (sep (c1 g) (c159 e))))))) := by
 refine en Tryz.func85 r fun σ F=>san r<|sr<|ld r r<|ea r<|ld r r<|cu (i22 d e g h j k l m o p q) r<|an r<|jr<|r1 r Ent.take
theorem i24 (a c d e g h j k l m : Nat) : Kp Tryz.prog 116 #[Pt a 0, I 1] (c8 a c d e g h j k l m) (Tt) := by
 refine en Tryz.func116 r fun σ F=>san r<|sr<|ec r<|fa 0 r<|lf 1 r r<|ll r<|ib (I 2) r<|cu i10 r<|an r<|jr<|r1 r Ent.take
theorem i25 (a d e g h j k l m o p : Nat) : Sp Tryz.prog 86 #[Pt a 0, I 1, Mp d] ((sep (c8 a e g h j k l m o p) (sep (c5 g) (sep (c1 e) (c159 d))))) (I 0) ((sep (c8 a e g h j k l m o p) (sep (c5 g) (sep (c1 e) (c160 d))))) := by
 refine en Tryz.func86 r fun σ F=>san r<|sb r<|fa 0 r<|lf 3 r r<|ea r<|ix 3 r r<|ls r<|al r fun b1=>so r r<|nj<|js<|J_quiet Tryz.mixed (by kernel_rfl)<|qb r<|qa r<|qo r ?_
 refine qa r<|qo r<|qf 0 r<|qo r<|ql r r<|qo r<|Q_call (i24 a e g h j k l m o p) r r (fun _ _ => r) (fun _ _ => Ent.refl _) r<|qo r<|qb r<|qa r<|qo r<|qf 1 r<|qo r<|ql r r<|qo r<|qa r ?_
 refine qo r<|qa r<|qo r<|qf 0 r<|qo r<|qf 2 r<|qo r<|ql r r<|qo r<|Q_call (i20) r r (fun _ _ => r) (fun _ _ => Ent.refl _) r<|qo r<|qb r<|qa r<|qo r<|qf 2 r<|qo r ?_
 refine ql r r<|qo r<|qa r<|qo r<|qa r<|qo r<|qf 0 r<|qo r<|qf 2 r<|qo r<|ql r r<|qo r<|qf 1 r<|qo r<|ql r r<|qo r ?_
 refine qv (opv_ib (c := I 1000) r r r) r<|qo r<|Q_call (i21) r r (fun _ _ => r) (fun _ _ => Ent.refl _) r<|qo r<|qb r<|qn<|kt<|cf r<|sk<|js<|J_quiet Tryz.mixed (by kernel_rfl)<|qb r<|qf 0 r<|qf 1 r<|ql r r<|qf 0 r ?_
 refine ql r r<|qv (opv_ix 1 r r r r) r<|ql r r<|qa r<|qn<|kt<|js<|sr<|lf 1 r r<|eb r<|lv (opv_lookC (v := I 0) r r r) r<|an r<|cf r<|sk<|sb r<|lf 1 r r ?_
 refine lf 2 r r<|ib (I 1000) r<|lx r (opx_putC r r r r) fun _ _=>nr<|an r<|jr<|r1 r Ent.take
theorem i26 (a c d e g h j k l m o p q : Nat) : Sp Tryz.prog 85 #[I 1, Pt a 0, Pt c 0] ((sep (c18 a d) (sep (cel c [Mp e] 136) (sep (c8 d g h j k l m o p q) (sep (c5 h) (sep (c1 g) (c159 e))))))) (I 0) ((sep (c18 a d) (sep (cel c [Mp e] 136) (sep (c8 d g h j k l m o p q) (sep (c5 h) (sep (c1 g) (c160 e))))))) := by
 refine en Tryz.func85 r fun σ F=>san r<|sr<|ld r r<|ea r<|ld r r<|cu (i25 d e g h j k l m o p q) r<|an r<|jr<|r1 r Ent.take
theorem i27 (a c d e g h j k l m : Nat) : Kp Tryz.prog 116 #[Pt a 0, I 2] (c8 a c d e g h j k l m) (Tt) := by
 refine en Tryz.func116 r fun σ F=>san r<|sr<|ec r<|fa 0 r<|lf 1 r r<|ll r<|ib (I 2) r<|cu i14 r<|an r<|jr<|r1 r Ent.take
theorem i28 (a d e g h j k l m o p : Nat) : Sp Tryz.prog 86 #[Pt a 0, I 2, Mp d] ((sep (c8 a e g h j k l m o p) (sep (c5 g) (sep (c1 e) (c160 d))))) (I 0) ((sep (c8 a e g h j k l m o p) (sep (c5 g) (sep (c1 e) (c171 d))))) := by
 refine en Tryz.func86 r fun σ F=>san r<|sb r<|fa 0 r<|lf 3 r r<|ea r<|ix 6 r r<|ls r<|al r fun b1=>so r r<|nj<|js<|J_quiet Tryz.mixed (by kernel_rfl)<|qb r<|qa r<|qo r ?_
 refine qa r<|qo r<|qf 0 r<|qo r<|ql r r<|qo r<|Q_call (i27 a e g h j k l m o p) r r (fun _ _ => r) (fun _ _ => Ent.refl _) r<|qo r<|qb r<|qa r<|qo r<|qf 1 r<|qo r<|ql r r<|qo r<|qa r ?_
 refine qo r<|qa r<|qo r<|qf 0 r<|qo r<|qf 2 r<|qo r<|ql r r<|qo r<|Q_call (i20) r r (fun _ _ => r) (fun _ _ => Ent.refl _) r<|qo r<|qb r<|qa r<|qo r<|qf 2 r<|qo r ?_
 refine ql r r<|qo r<|qa r<|qo r<|qa r<|qo r<|qf 0 r<|qo r<|qf 2 r<|qo r<|ql r r<|qo r<|qf 1 r<|qo r<|ql r r<|qo r ?_
 refine qv (opv_ib (c := I 1000) r r r) r<|qo r<|Q_call (i21) r r (fun _ _ => r) (fun _ _ => Ent.refl _) r<|qo r<|qb r<|qn<|kt<|cf r<|sk<|js<|J_quiet Tryz.mixed (by kernel_rfl)<|qb r<|qf 0 r<|qf 1 r<|ql r r<|qf 0 r ?_
 refine ql r r<|qv (opv_ix 2 r r r r) r<|ql r r<|qa r<|qn<|kt<|js<|sr<|lf 1 r r<|eb r<|lv (opv_lookC (v := I 0) r r r) r<|an r<|cf r<|sk<|sb r<|lf 1 r r ?_
 refine lf 2 r r<|ib (I 1000) r<|lx r (opx_putC r r r r) fun _ _=>nr<|an r<|jr<|r1 r Ent.take
theorem i29 (a c d e g h j k l m o p q : Nat) : Sp Tryz.prog 85 #[I 2, Pt a 0, Pt c 0] ((sep (c18 a d) (sep (cel c [Mp e] 136) (sep (c8 d g h j k l m o p q) (sep (c5 h) (sep (c1 g) (c160 e))))))) (I 0) ((sep (c18 a d) (sep (cel c [Mp e] 136) (sep (c8 d g h j k l m o p q) (sep (c5 h) (sep (c1 g) (c171 e))))))) := by
 refine en Tryz.func85 r fun σ F=>san r<|sr<|ld r r<|ea r<|ld r r<|cu (i28 d e g h j k l m o p q) r<|an r<|jr<|r1 r Ent.take
theorem i30 (a c d e g h j k l m o p q : Nat) : Sp Tryz.prog 92 #[I 3, .func (.func 85) #[] #[Pt a 0, Pt c 0]] ((sep (c18 a d) (sep (cel c [Mp e] 136) (sep (c8 d g h j k l m o p q) (sep (c5 h) (sep (c1 g) (c3 e))))))) (.tuple #[I (-1), I 0]) ((sep (c18 a d) (sep (cel c [Mp e] 136) (sep (c8 d g h j k l m o p q) (sep (c5 h) (sep (c1 g) (c171 e))))))) := by
 refine en Tryz.func92 r fun σ F=>sb r<|nj<|sb r<|nk<|jl<|ut r<|js<|jb<|sb r<|nr<|eb r<|lx r (opx_call (first := []) (captured := [Pt a 0, Pt c 0]) (i23 a c d e g h j k l m o p q) r r r r) fun _ _=>an r<|sb r<|nf r ?_
 refine jk<|ni (I 1) r<|ut r<|js<|jb<|sb r<|nr<|eb r<|lx r (opx_call (first := []) (captured := [Pt a 0, Pt c 0]) (i26 a c d e g h j k l m o p q) r r r r) fun _ _=>an r<|sb r<|nf r<|jk<|ni (I 2) r<|ut r<|js<|jb<|sb r ?_
 refine nr<|eb r<|lx r (opx_call (first := []) (captured := [Pt a 0, Pt c 0]) (i29 a c d e g h j k l m o p q) r r r r) fun _ _=>an r<|sb r<|nf r<|jk<|ni (I 3) r<|uf r<|kt<|sb r<|nk<|jr<|r2 r Ent.take
theorem i31 : Kp Tryz.prog 82 #[I 10, I 1, I 65535] (emp) (Tt) := by
 refine en Tryz.func82 r fun σ F=>J_emp<|san r<|sr<|ed r<|go r<|ea r<|go r<|ea r<|go r<|ec r<|nk<|jr<|r1 r Ent.take
theorem i32 : Kp Tryz.prog 82 #[I 0, I 0, I 7] (emp) (Tt) := by
 refine en Tryz.func82 r fun σ F=>J_emp<|san r<|sr<|ed r<|go r<|ea r<|go r<|ea r<|go r<|ec r<|nk<|jr<|r1 r Ent.take
theorem i33 : Kp Tryz.prog 82 #[I 80, I 64, I 1518] (emp) (Tt) := by
 refine en Tryz.func82 r fun σ F=>J_emp<|san r<|sr<|ed r<|go r<|ea r<|go r<|ea r<|go r<|ec r<|nk<|jr<|r1 r Ent.take
theorem i34 : Kp Tryz.prog 82 #[I 2, I 1, I 4] (emp) (Tt) := by
 refine en Tryz.func82 r fun σ F=>J_emp<|san r<|sr<|ed r<|go r<|ea r<|go r<|ea r<|go r<|ec r<|nk<|jr<|r1 r Ent.take
theorem i35 : Kp Tryz.prog 82 #[I 60000, I 0, I 1073741824] (emp) (Tt) := by
 refine en Tryz.func82 r fun σ F=>J_emp<|san r<|sr<|ed r<|go r<|ea r<|go r<|ea r<|go r<|ec r<|nk<|jr<|r1 r Ent.take
theorem i36 (a c d e g h j k l m o p q : Nat) : Kp Tryz.prog 118 #[I 1, Pt a 0, Pt c 0] ((sep (c18 a d) (sep (c8 d e g h j k l m o p) (c116 c q)))) (Ff) := by
 refine en Tryz.func118 r fun σ F=>san r<|sr<|ld r r<|ea r<|cu (i11 d e g h j k l m o p) r<|eb r<|go r<|ea r<|go r<|fa 1 r<|go r<|ld r r<|go r<|ec r<|nk ?_
 refine jr<|r1 r Ent.take
theorem i37 (a c d e g h j k l m o p q : Nat) : Kp Tryz.prog 151 #[Sk a 0 1 1, .func (.func 118) #[] #[Pt c 0, Pt d 0]] ((sep (cel a [I 1] 3) (sep (c18 c e) (sep (c8 e g h j k l m o p q) (c116 d a))))) (I (-1)) := by
 refine en Tryz.func151 r fun σ F=>san r<|js<|sa r<|ll r<|an r<|jl<|ut r<|js<|jb<|sb r<|nr<|ec r<|ix 0 r r<|ld r r<|lx r (opx_call (first := []) (captured := [Pt c 0, Pt d 0]) (i36 c d e g h j k l m o p q a) r r r r) fun _ _=>?_
 refine nf r<|jk<|ni (I 1) r<|uf r<|kt<|san r<|jr<|r1 r Ent.take
theorem i38 (a c d e g h j k l m o p q : Nat) : Kp Tryz.prog 117 #[Sk a 0 1 1, .func (.func 118) #[] #[Pt c 0, Pt d 0]] ((sep (cel a [I 1] 3) (sep (c18 c e) (sep (c8 e g h j k l m o p q) (c116 d a))))) (Ff) := by
 refine en Tryz.func117 r fun σ F=>san r<|sb r<|cu (i37 a c d e g h j k l m o p q) r<|eb r<|nk<|jr<|r1 r Ent.take
theorem i39 (a c d e g h j k l m o : Nat) : Sp Tryz.prog 87 #[Pt a 0, I 0] ((sep (c8 a c d e g h j k l m) (sep (c7 e g h o) (sep (cel o [I 1] 3) (c3 m))))) (I 0) ((sep (c8 a c d e g h j k l m) (sep (c7 e g h o) (sep (cel o [I 1] 3) (c22 m o))))) := by
 refine en Tryz.func87 r fun σ F=>sr<|bx r fun b1=>an r<|sr<|ld r r<|ea r<|fa 0 r<|lf 4 r r<|ea r<|ix g r r<|lv (opv_ldOS 0 r r) r<|al r fun b2=>so r r<|nj<|jb ?_
 refine sr<|ec r<|go r<|fa 0 r<|go r<|ld r r<|go r<|cu i31 r<|go r<|ec r<|go r<|ld r r<|go r<|fa 1 r<|go r<|ld r r ?_
 refine go r<|cu (i8 a c d e g h j k l m) r<|go r<|ec r<|go r<|fa 2 r<|go r<|ld r r<|go r<|cu i32 r<|go r<|ec r<|nf r<|sr<|lf 3 r r<|cu i33 r ?_
 refine eb r<|go r<|fa 5 r<|go r<|ld r r<|go r<|cu i34 r<|go r<|ec r<|go r<|fa 6 r<|go r<|ld r r<|go r<|cu i35 r<|go r ?_
 refine ec r<|go r<|fa 7 r<|go r<|ld r r<|go r<|ll r<|go r<|ec r<|nf r<|js<|J_quiet Tryz.mixed (by kernel_rfl)<|qb r<|qa r<|qs r<|qs r ?_
 refine qs r<|qs r<|qs r<|qs r<|qs r<|qs r<|qs r<|qs r<|qs r<|qs r<|qs r<|qb r<|qn<|kt<|cf r<|skb ?_
 refine js<|sr<|lf 7 r r<|lv (opv_ct r r r 1 0 r r) r<|ll r<|an r<|jl<|uf r<|kt<|js<|sr<|lf 7 r r<|lv (opv_makeFunc r r) r<|cu (i38 o b1 b2 a c d e g h j k l m) r<|nf r<|sk ?_
 refine js<|J_steps ((sep (c18 b1 a) (sep (c8 a c d e g h j k l m) (c116 b2 o)))) (emp) [] Tryz.mixed<|pf 4 0 r r<|pl 0 r r r<|pe 1 r r<|pf 2 6 r r<|pl 3 r r r<|pl 5 r r r<|ps 6 r (opv_loadS r)<|pn 7 r (opx_putC r r r r) fun _ _=>dn<|kt<|san r<|jr<|r1 r Ent.take
theorem i40 (a c d e g h j k l m o : Nat) : Sp Tryz.prog 92 #[I 1, .func (.func 87) #[Pt a 0] #[]] ((sep (c8 a c d e g h j k l m) (sep (c7 e g h o) (sep (cel o [I 1] 3) (c3 m))))) (.tuple #[I (-1), I 0]) ((sep (c8 a c d e g h j k l m) (sep (c7 e g h o) (sep (cel o [I 1] 3) (c22 m o))))) := by
 refine en Tryz.func92 r fun σ F=>sb r<|nj<|sb r<|nk<|jl<|ut r<|js<|jb<|sb r<|nr<|eb r<|lx r (opx_call (first := [Pt a 0]) (captured := []) (i39 a c d e g h j k l m o) r r r r) fun _ _=>an r<|sb r<|nf r ?_
 refine jk<|ni (I 1) r<|uf r<|kt<|sb r<|nk<|jr<|r2 r Ent.take
theorem i41 : Kp Tryz.prog 82 #[I 2, I 1, I 2] (emp) (Tt) := by
 refine en Tryz.func82 r fun σ F=>J_emp<|san r<|sr<|ed r<|go r<|ea r<|go r<|ea r<|go r<|ec r<|nk<|jr<|r1 r Ent.take
theorem i42 : Kp Tryz.prog 82 #[I 5, I 0, I 65535] (emp) (Tt) := by
 refine en Tryz.func82 r fun σ F=>J_emp<|san r<|sr<|ed r<|go r<|ea r<|go r<|ea r<|go r<|ec r<|nk<|jr<|r1 r Ent.take
theorem i43 : Kp Tryz.prog 82 #[I 100, I 1, I 8192] (emp) (Tt) := by
 refine en Tryz.func82 r fun σ F=>J_emp<|san r<|sr<|ed r<|go r<|ea r<|go r<|ea r<|go r<|ec r<|nk<|jr<|r1 r Ent.take
theorem i44 : Kp Tryz.prog 82 #[I 0, I 0, I 1] (emp) (Tt) := by
 refine en Tryz.func82 r fun σ F=>J_emp<|san r<|sr<|ed r<|go r<|ea r<|go r<|ea r<|go r<|ec r<|nk<|jr<|r1 r Ent.take
theorem i45 (a : Nat) : Kp Tryz.prog 119 #[.agg k5.toArray, .agg (k1 a).toArray] (emp) (I 0) := by
 refine en Tryz.func119 r fun σ F=>J_emp<|sr<|bx r fun b1=>bx r fun b2=>an r<|san r<|js<|jb<|sr<|lf 4 r r<|ea r<|go r<|fa 1 r<|go r<|ld r r ?_
 refine go r<|fa 1 r<|go r<|ld r r<|go r<|ec r<|nf r<|sr<|lf 4 r r<|eb r<|gs r<|gs r<|gs r<|gs r<|gs r<|gs r ?_
 refine bf r<|sr<|lf 4 r r<|an r<|ct r<|jg<|lf 5 r r<|ib (I 1) r<|ea r<|ln<|kb<|kt<|js<|sr<|lf 6 r r<|ea r ?_
 refine cu i44 r<|an r<|cf r<|sk<|san r<|jr<|r1 r Ent.take
theorem i46 : Kp Tryz.prog 82 #[I 1, I 1, I 64] (emp) (Tt) := by
 refine en Tryz.func82 r fun σ F=>J_emp<|san r<|sr<|ed r<|go r<|ea r<|go r<|ea r<|go r<|ec r<|nk<|jr<|r1 r Ent.take
theorem i47 (a d e g h j k l m o p q : Nat) : Sp Tryz.prog 89 #[Pt a 0, I 0, Mp d] ((sep (c8 a e g h j k l m o p) (sep (c2 l m o) (sep (c22 p q) (sep (c1 e) (mapq d [.int .i64, .bool, .int .i64, .int .i64] (fun _ => none))))))) (I 0) ((sep (c8 a e g h j k l m o p) (sep (c2 l m o) (sep (c22 p q) (sep (c1 e) (mapq d [.int .i64, .bool, .int .i64, .int .i64] (mput (fun _ => none) k2 (I 1)))))))) := by
 refine en Tryz.func89 r fun σ F=>san r<|sb r<|fa 0 r<|lf 5 r r<|ea r<|ix m r r<|lv (opv_ldOS 0 r r) r<|al r fun b1=>so r r<|nj<|jb<|sr<|ec r<|go r<|fa 0 r ?_
 refine go r<|ld r r<|go r<|ec r<|go r<|fa 3 r<|go r<|ld r r<|go r<|cu i41 r<|go r<|ec r<|go r<|ea r<|go r<|fa 2 r ?_
 refine go r<|ld r r<|go r<|cu (i19 a e g h j k l m o p) r<|go r<|ec r<|nf r<|sr<|lf 7 r r<|cu i42 r<|eb r<|go r<|fa 8 r<|go r<|ld r r<|go r ?_
 refine cu i43 r<|go r<|ec r<|nf r<|js<|J_quiet Tryz.mixed (by kernel_rfl)<|qb r<|qa r<|qs r<|qs r<|qs r<|qs r<|qs r<|qs r<|qs r<|qs r ?_
 refine qs r<|qs r<|qs r<|qs r<|qs r<|qb r<|qn<|kt<|cf r<|skb<|js<|J_steps ((sep (c8 a e g h j k l m o p) (sep (c124 b1) (c22 p q)))) (emp) [] Tryz.mixed<|pe 0 r r<|pe 1 r r<|pf 2 6 r r<|pf 4 5 r r ?_
 refine pl 3 r r r<|pl 5 r r r<|ps 6 r (opv_lookC (v := .tuple #[.agg (k1 q).toArray, Tt]) r r r)<|pe 7 r r<|pe 8 r r<|pe 9 r r<|pn 10 r (opx_alloc r) fun b3 _=>?_
 refine pn 11 r (opx_store r r r (List.all_eq_true.1 r)) fun _ _=>pe 12 r r<|dn<|kt<|js<|js<|J_quiet Tryz.mixed (by kernel_rfl)<|qb r<|qa r<|qo r<|qf 1 r<|qo r<|ql r r<|qo r<|qa r<|qo r ?_
 refine qa r<|qo r<|qf 0 r<|qo r<|qf 1 r<|qo r<|ql r r<|qo r<|qf 2 r<|qo r<|ql r r<|qo r<|qv (opv_ix 0 r r r r) r<|qo r<|ql r r<|qo r ?_
 refine qb r<|qn<|kt<|cf r<|sk<|js<|sr<|ls r<|ls r<|cu (i45 q) r<|an r<|sb r<|nf r<|sk<|js<|jb ?_
 refine sr<|lf 3 r r<|bf r<|sr<|lf 9 r r<|cu i46 r<|eb r<|go r<|fa 10 r<|go r<|ld r r<|go r<|ec r<|nf r<|skb<|sr ?_
 refine lf 1 r r<|lf 4 r r<|lf 5 r r<|lf 7 r r<|lv (opv_build r) r<|al r fun b4=>so r r<|nj ?_
 refine J_cut (X := Int) (fun x9 => [(0, Pt a 0), (1, I 0), (2, Mp d), (6, I 0), (13, Pt a 0), (14, Pt a 0), (15, Pt a 0), (16, Pt a 5), (17, Sk l m 4 o), (18, I 0), (19, Pt l m), (20, .agg k5.toArray), (7, Pt b1 0), (22, I 0), (23, Ff), (24, Ff), (25, Pt b1 0), (26, I 10), (27, Ff), (28, Ff), (29, Ff), (30, Pt b1 3), (31, I 2), (32, Tt), (33, Ff), (34, Ff), (35, Ff), (36, Pt a 0), (37, Pt b1 2), (38, I 0), (39, Tt), (40, Ff), (41, Ff), (21, Ff), (43, Pt b1 7), (44, I 5), (45, Tt), (46, Ff), (47, Ff), (48, Pt b1 8), (49, I 100), (50, Tt), (51, Ff), (52, Ff), (42, Ff), (54, I 0), (55, Ff), (56, Ff), (70, Ff), (53, Ff), (72, Pt a 0), (73, Pt a 0), (74, Pt a 6), (76, Pt b1 5), (75, Mp p), (77, I 10), (78, .tuple #[.agg (k1 q).toArray, Tt]), (71, .tuple #[.agg (k1 q).toArray, Tt]), (79, .agg (k1 q).toArray), (80, Tt), (8, Pt b3 0), (9, Tt), (81, Tt), (82, Ff), (83, Ff), (84, Pt b1 1), (85, I 0), (86, Pt a 0), (87, Pt a 0), (88, Pt a 0), (89, Pt a 1), (90, Sk e 0 3 3), (91, Pt b1 2), (92, I 0), (93, Pt e 0), (94, I 0), (95, Ff), (96, Ff), (97, .agg k5.toArray), (98, .agg (k1 q).toArray), (99, I 0), (10, I 0), (100, I 0), (101, Ff), (104, Pt b1 3), (105, I 2), (106, Ff), (103, Ff), (114, Pt b1 9), (115, I 1), (116, Tt), (117, Ff), (118, Ff), (119, Pt b1 10), (120, I 0), (121, Ff), (122, Ff), (113, Ff), (123, Pt b1 1), (124, I 0), (125, Pt b1 4), (126, Tt), (127, Pt b1 5), (128, I 10), (129, Pt b1 7), (130, I 5), (131, .agg k2.toArray), (12, Pt b4 0), (132, Mp d), (133, .agg k2.toArray), (134, I 0), (135, I 1), (136, .tuple #[I 0, .int .i64 x9]), (137, .int .i64 x9)]) (fun x9 => (sep (c2 l m o) (sep (mapq d [.int .i64, .bool, .int .i64, .int .i64] (mput (fun _ => none) k2 (I 1))) (sep (c1 e) (sep (c22 p q) (sep (c124 b1) (sep (c8 a e g h j k l m o p) (sep (c116 b3 q) (sep (cel b4 k2 245) (F)))))))))) (fun _ => True) ?_ (fun x9 _ => ?_)
 · refine J_steps (cel b4 k2 245) (mapq d [.int .i64, .bool, .int .i64, .int .i64] (fun _ => none)) [4, 6] Tryz.mixed<|pe 0 r r<|ps 1 r (opv_loadS r) ?_
   refine R_a [2, 4] (by kernel_rfl) rfl fun i hi => ?_
   simp only [List.mem_cons, List.not_mem_nil, or_false] at hi
   rcases hi with rfl | rfl
   · refine R_avs r (opv_lookQ (v := I 0) r r (by simp [Shape, CK.sh]) none (by simp [mput]) r) r<|ps 3 r (opv_ib (c := I 1) r r r)<|R_o 4 r r (by kernel_rfl) (opx_mapEntryQ r r (by simp [Shape, CK.sh]) (I 0) (by simp [mput]) r) fun q7 _=>R_q 5 r (by kernel_rfl) (opv_ex r) r<|R_o 6 r r (by kernel_rfl) (opx_entryStoreQ r r r (by simp [Shape, CK.sh])) fun _ _=>dn<|kc q7 r Ent.take
   · refine R_ax r r (by kernel_rfl) (opx_mapEntryQ r r (by simp [Shape, CK.sh]) (I 0) (by simp [mput]) r) fun q8 _=>R_q 5 r (by kernel_rfl) (opv_ex r) r<|R_v 2 r (by kernel_rfl) (opv_lookE (v := I 0) r r (by simp [Shape, CK.sh]) (some (I 0)) (by simp [mput]) r) r<|R_q 3 r (by kernel_rfl) (opv_ib (c := I 1) r r r) r<|R_o 6 r r (by kernel_rfl) (opx_entryStoreQ r r r (by simp [Shape, CK.sh])) fun _ _=>dn<|kc q8 r Ent.take
 · refine sa r<|ls r<|lv (opv_lookQ (v := I 1) r r (by simp [Shape, CK.sh]) (some (I 1)) (by simp [mput]) r) r<|an r<|cf r<|sk<|san r<|jr<|r1 r Ent.take
theorem i48 (a c d e g h j k l m o p q s : Nat) : Sp Tryz.prog 88 #[I 0, Pt a 0, Pt c 0] ((sep (c18 a d) (sep (cel c [Mp e] 187) (sep (c8 d g h j k l m o p q) (sep (c2 m o p) (sep (c22 q s) (sep (c1 g) (mapq e [.int .i64, .bool, .int .i64, .int .i64] (fun _ => none))))))))) (I 0) ((sep (c18 a d) (sep (cel c [Mp e] 187) (sep (c8 d g h j k l m o p q) (sep (c2 m o p) (sep (c22 q s) (sep (c1 g) (mapq e [.int .i64, .bool, .int .i64, .int .i64] (mput (fun _ => none) k2 (I 1)))))))))) := by
 refine en Tryz.func88 r fun σ F=>san r<|sr<|ld r r<|ea r<|ld r r<|cu (i47 d e g h j k l m o p q s) r<|an r<|jr<|r1 r Ent.take
theorem i49 (a : Nat) : Kp Tryz.prog 180 #[Sk a 0 1 1, I 1] (cel a [I 1] 3) (I 0) := by
 refine en Tryz.func180 r fun σ F=>san r<|js<|sa r<|ll r<|an r<|jl<|ut r<|js<|jb<|sb r<|nr<|ec r<|ix 0 r r<|ld r r<|an r ?_
 refine ct r<|sb r<|nk<|jr<|kq<|kd<|kd<|kq<|kd<|r1 r Ent.take
theorem i50 (a : Nat) : Kp Tryz.prog 152 #[Sk a 0 1 1, I 1] (cel a [I 1] 3) (Tt) := by
 refine en Tryz.func152 r fun σ F=>san r<|sb r<|cu (i49 a) r<|eb r<|nk<|jr<|r1 r Ent.take
theorem i51 : Kp Tryz.prog 82 #[I 0, I 0, I 0] (emp) (Tt) := by
 refine en Tryz.func82 r fun σ F=>J_emp<|san r<|sr<|ed r<|go r<|ea r<|go r<|ea r<|go r<|ec r<|nk<|jr<|r1 r Ent.take
theorem i52 (a : Nat) : Kp Tryz.prog 119 #[.agg k6.toArray, .agg (k1 a).toArray] (cel a [I 1] 3) (I 0) := by
 refine en Tryz.func119 r fun σ F=>sr<|bx r fun b1=>bx r fun b2=>an r<|san r<|js<|jb<|sr<|lf 4 r r<|ea r<|gs r<|gs r<|gs r<|gs r<|gs r ?_
 refine bf r<|sr<|lf 4 r r<|eb r<|go r<|fa 7 r<|go r<|ld r r<|go r<|fa 1 r<|go r<|ld r r<|go r<|cu (i50 a) r<|go r<|ec r ?_
 refine nf r<|sr<|lf 4 r r<|an r<|cf r<|skb<|js<|sr<|lf 6 r r<|ea r<|cu i51 r<|an r<|cf r<|sk<|san r<|jr ?_
 exact r1 r Ent.take
theorem i53 : Kp Tryz.prog 82 #[I 64, I 1, I 64] (emp) (Tt) := by
 refine en Tryz.func82 r fun σ F=>J_emp<|san r<|sr<|ed r<|go r<|ea r<|go r<|ea r<|go r<|ec r<|nk<|jr<|r1 r Ent.take
theorem i54 (a d e g h j k l m o p q : Nat) : Sp Tryz.prog 89 #[Pt a 0, I 1, Mp d] ((sep (c8 a e g h j k l m o p) (sep (c2 l m o) (sep (c22 p q) (sep (c1 e) (sep (cel q [I 1] 3) (mapq d [.int .i64, .bool, .int .i64, .int .i64] (mput (fun _ => none) k2 (I 1))))))))) (I 0) ((sep (c8 a e g h j k l m o p) (sep (c2 l m o) (sep (c22 p q) (sep (c1 e) (sep (cel q [I 1] 3) (mapq d [.int .i64, .bool, .int .i64, .int .i64] (mput (mput (fun _ => none) k2 (I 1)) k3 (I 1))))))))) := by
 refine en Tryz.func89 r fun σ F=>san r<|sb r<|fa 0 r<|lf 5 r r<|ea r<|ix (m + 11) r r<|lv (opv_ldOS 11 r r) r<|al r fun b1=>so r r<|nj<|jb<|sr<|ec r<|go r<|fa 0 r ?_
 refine go r<|ld r r<|go r<|ec r<|go r<|fa 3 r<|go r<|ld r r<|go r<|cu i41 r<|go r<|ec r<|go r<|ea r<|go r<|fa 2 r ?_
 refine go r<|ld r r<|go r<|cu (i24 a e g h j k l m o p) r<|go r<|ec r<|nf r<|sr<|lf 7 r r<|cu i42 r<|eb r<|go r<|fa 8 r<|go r<|ld r r<|go r ?_
 refine cu i43 r<|go r<|ec r<|nf r<|js<|J_quiet Tryz.mixed (by kernel_rfl)<|qb r<|qa r<|qo r<|qa r<|qo r<|qa r<|qo r<|qf 0 r<|qo r<|qf 5 r ?_
 refine qo r<|ql r r<|qo r<|qa r<|qo r<|qv (opv_ib (c := I 0) r r r) r<|qo r<|qv (opv_ix m r r r r) r<|qo r<|qf m r<|qo r<|qv (opv_ldO 0 r r r) r<|qo r<|qf 0 r<|qo r<|ql r r ?_
 refine qo r<|qb r<|qa r<|qn<|kt<|cf r<|skb<|js<|J_steps ((sep (c8 a e g h j k l m o p) (sep (c161 b1) (c22 p q)))) (emp) [] Tryz.mixed<|pe 0 r r<|pe 1 r r<|pf 2 6 r r<|pf 4 5 r r<|pl 3 r r r<|pl 5 r r r<|ps 6 r (opv_lookC (v := .tuple #[.agg (k1 q).toArray, Tt]) r r r) ?_
 refine pe 7 r r<|pe 8 r r<|pe 9 r r<|pn 10 r (opx_alloc r) fun b3 _=>?_
 refine pn 11 r (opx_store r r r (List.all_eq_true.1 r)) fun _ _=>pe 12 r r<|dn<|kt<|js<|js<|J_quiet Tryz.mixed (by kernel_rfl)<|qb r<|qa r<|qo r<|qf 1 r<|qo r<|ql r r<|qo r<|qa r<|qo r ?_
 refine qa r<|qo r<|qf 0 r<|qo r<|qf 1 r<|qo r<|ql r r<|qo r<|qf 2 r<|qo r<|ql r r<|qo r<|qv (opv_ix 1 r r r r) r<|qo r<|ql r r<|qo r ?_
 refine qb r<|qn<|kt<|cf r<|sk<|js<|sr<|ls r<|ls r<|cu (i52 q) r<|an r<|sb r<|nf r<|sk<|js<|jb ?_
 refine sr<|lf 3 r r<|bf r<|sr<|lf 9 r r<|cu i53 r<|eb r<|go r<|fa 10 r<|go r<|ld r r<|go r<|ec r<|nf r<|skb<|sr ?_
 refine lf 1 r r<|lf 4 r r<|lf 5 r r<|lf 7 r r<|lv (opv_build r) r<|al r fun b4=>so r r<|nj ?_
 refine J_cut (X := Int) (fun x9 => [(0, Pt a 0), (1, I 1), (2, Mp d), (6, I 0), (13, Pt a 0), (14, Pt a 0), (15, Pt a 0), (16, Pt a 5), (17, Sk l m 4 o), (18, I 1), (19, Pt l (m + 11)), (20, .agg k6.toArray), (7, Pt b1 0), (22, I 1), (23, Ff), (24, Ff), (25, Pt b1 0), (26, I 20), (27, Ff), (28, Ff), (29, Ff), (30, Pt b1 3), (31, I 2), (32, Tt), (33, Ff), (34, Ff), (35, Ff), (36, Pt a 0), (37, Pt b1 2), (38, I 1), (39, Tt), (40, Ff), (41, Ff), (21, Ff), (43, Pt b1 7), (44, I 5), (45, Tt), (46, Ff), (47, Ff), (48, Pt b1 8), (49, I 100), (50, Tt), (51, Ff), (52, Ff), (42, Ff), (54, I 1), (55, Tt), (56, Tt), (57, Pt a 0), (58, Pt a 0), (59, Pt a 0), (60, Pt a 5), (61, Sk l m 4 o), (62, I 1), (63, I 0), (64, Pt l m), (65, Pt l m), (66, I 10), (67, Pt b1 0), (68, I 20), (69, Ff), (70, Ff), (53, Ff), (72, Pt a 0), (73, Pt a 0), (74, Pt a 6), (76, Pt b1 5), (75, Mp p), (77, I 10), (78, .tuple #[.agg (k1 q).toArray, Tt]), (71, .tuple #[.agg (k1 q).toArray, Tt]), (79, .agg (k1 q).toArray), (80, Tt), (8, Pt b3 0), (9, Tt), (81, Tt), (82, Ff), (83, Ff), (84, Pt b1 1), (85, I 1), (86, Pt a 0), (87, Pt a 0), (88, Pt a 0), (89, Pt a 1), (90, Sk e 0 3 3), (91, Pt b1 2), (92, I 1), (93, Pt e 1), (94, I 1), (95, Ff), (96, Ff), (97, .agg k6.toArray), (98, .agg (k1 q).toArray), (99, I 0), (10, I 0), (100, I 0), (101, Ff), (104, Pt b1 3), (105, I 2), (106, Ff), (103, Ff), (114, Pt b1 9), (115, I 64), (116, Tt), (117, Ff), (118, Ff), (119, Pt b1 10), (120, I 0), (121, Ff), (122, Ff), (113, Ff), (123, Pt b1 1), (124, I 1), (125, Pt b1 4), (126, Ff), (127, Pt b1 5), (128, I 10), (129, Pt b1 7), (130, I 5), (131, .agg k3.toArray), (12, Pt b4 0), (132, Mp d), (133, .agg k3.toArray), (134, I 0), (135, I 1), (136, .tuple #[I 0, .int .i64 x9]), (137, .int .i64 x9)]) (fun x9 => (sep (c2 l m o) (sep (c22 p q) (sep (c1 e) (sep (mapq d [.int .i64, .bool, .int .i64, .int .i64] (mput (mput (fun _ => none) k2 (I 1)) k3 (I 1))) (sep (c161 b1) (sep (c8 a e g h j k l m o p) (sep (c116 b3 q) (sep (cel q [I 1] 3) (sep (cel b4 k3 245) (F))))))))))) (fun _ => True) ?_ (fun x9 _ => ?_)
 · refine J_steps (cel b4 k3 245) (mapq d [.int .i64, .bool, .int .i64, .int .i64] (mput (fun _ => none) k2 (I 1))) [4, 6] Tryz.mixed<|pe 0 r r<|ps 1 r (opv_loadS r) ?_
   refine R_a [2, 4] (by kernel_rfl) rfl fun i hi => ?_
   simp only [List.mem_cons, List.not_mem_nil, or_false] at hi
   rcases hi with rfl | rfl
   · refine R_avs r (opv_lookQ (v := I 0) r r (by simp [Shape, CK.sh]) none (by simp [mput]) r) r<|ps 3 r (opv_ib (c := I 1) r r r)<|R_o 4 r r (by kernel_rfl) (opx_mapEntryQ r r (by simp [Shape, CK.sh]) (I 0) (by simp [mput]) r) fun q7 _=>R_q 5 r (by kernel_rfl) (opv_ex r) r<|R_o 6 r r (by kernel_rfl) (opx_entryStoreQ r r r (by simp [Shape, CK.sh])) fun _ _=>dn<|kc q7 r Ent.take
   · refine R_ax r r (by kernel_rfl) (opx_mapEntryQ r r (by simp [Shape, CK.sh]) (I 0) (by simp [mput]) r) fun q8 _=>R_q 5 r (by kernel_rfl) (opv_ex r) r<|R_v 2 r (by kernel_rfl) (opv_lookE (v := I 0) r r (by simp [Shape, CK.sh]) (some (I 0)) (by simp [mput]) r) r<|R_q 3 r (by kernel_rfl) (opv_ib (c := I 1) r r r) r<|R_o 6 r r (by kernel_rfl) (opx_entryStoreQ r r r (by simp [Shape, CK.sh])) fun _ _=>dn<|kc q8 r Ent.take
 · refine sa r<|ls r<|lv (opv_lookQ (v := I 1) r r (by simp [Shape, CK.sh]) (some (I 1)) (by simp [mput]) r) r<|an r<|cf r<|sk<|san r<|jr<|r1 r Ent.take
theorem i55 (a c d e g h j k l m o p q s : Nat) : Sp Tryz.prog 88 #[I 1, Pt a 0, Pt c 0] ((sep (c18 a d) (sep (cel c [Mp e] 187) (sep (c8 d g h j k l m o p q) (sep (c2 m o p) (sep (c22 q s) (sep (c1 g) (sep (cel s [I 1] 3) (mapq e [.int .i64, .bool, .int .i64, .int .i64] (mput (fun _ => none) k2 (I 1))))))))))) (I 0) ((sep (c18 a d) (sep (cel c [Mp e] 187) (sep (c8 d g h j k l m o p q) (sep (c2 m o p) (sep (c22 q s) (sep (c1 g) (sep (cel s [I 1] 3) (mapq e [.int .i64, .bool, .int .i64, .int .i64] (mput (mput (fun _ => none) k2 (I 1)) k3 (I 1))))))))))) := by
 refine en Tryz.func88 r fun σ F=>san r<|sr<|ld r r<|ea r<|ld r r<|cu (i54 d e g h j k l m o p q s) r<|an r<|jr<|r1 r Ent.take
theorem i56 : Kp Tryz.prog 82 #[I 1, I 1, I 2] (emp) (Tt) := by
 refine en Tryz.func82 r fun σ F=>J_emp<|san r<|sr<|ed r<|go r<|ea r<|go r<|ea r<|go r<|ec r<|nk<|jr<|r1 r Ent.take
theorem i57 : Kp Tryz.prog 82 #[I 6, I 0, I 65535] (emp) (Tt) := by
 refine en Tryz.func82 r fun σ F=>J_emp<|san r<|sr<|ed r<|go r<|ea r<|go r<|ea r<|go r<|ec r<|nk<|jr<|r1 r Ent.take
theorem i58 : Kp Tryz.prog 82 #[I 20, I 1, I 8192] (emp) (Tt) := by
 refine en Tryz.func82 r fun σ F=>J_emp<|san r<|sr<|ed r<|go r<|ea r<|go r<|ea r<|go r<|ec r<|nk<|jr<|r1 r Ent.take
theorem i59 : Kp Tryz.prog 82 #[I 1, I 0, I 1] (emp) (Tt) := by
 refine en Tryz.func82 r fun σ F=>J_emp<|san r<|sr<|ed r<|go r<|ea r<|go r<|ea r<|go r<|ec r<|nk<|jr<|r1 r Ent.take
theorem i60 (a : Nat) : Kp Tryz.prog 119 #[.agg k11.toArray, .agg (k1 a).toArray] (emp) (I 0) := by
 refine en Tryz.func119 r fun σ F=>J_emp<|sr<|bx r fun b1=>bx r fun b2=>an r<|san r<|js<|jb<|sr<|lf 4 r r<|ea r<|go r<|fa 1 r<|go r<|ld r r ?_
 refine go r<|fa 1 r<|go r<|ld r r<|go r<|ec r<|nf r<|sr<|lf 4 r r<|eb r<|gs r<|gs r<|gs r<|gs r<|gs r<|gs r ?_
 refine bf r<|sr<|lf 4 r r<|an r<|ct r<|jg<|lf 5 r r<|ib (I 1) r<|ea r<|ln<|kb<|kt<|js<|sr<|lf 6 r r<|ea r ?_
 refine cu i59 r<|an r<|cf r<|sk<|san r<|jr<|r1 r Ent.take
theorem i61 : Kp Tryz.prog 153 #[I 80] (emp) (I 33) := by
 refine en Tryz.func153 r fun σ F=>J_emp<|san r<|sa r<|ib (I 33) r<|an r<|jr<|r1 r Ent.take
theorem i62 (a : Nat) : Kp Tryz.prog 120 #[.agg k11.toArray, .agg (k1 a).toArray] (emp) (I 0) := by
 refine en Tryz.func120 r fun σ F=>J_emp<|sr<|bx r fun b1=>bx r fun b2=>an r<|js<|jb<|sr<|lf 9 r r<|eb r<|go r<|fa 4 r<|go r<|ld r r<|go r ?_
 refine ea r<|go r<|fa 10 r<|go r<|ld r r<|go r<|ea r<|go r<|ec r<|go r<|fa 4 r<|go r<|ld r r<|go r<|ea r<|go r ?_
 refine ea r<|gs r<|gs r<|gs r<|gs r<|go r<|ec r<|nf r<|js<|J_quiet Tryz.mixed (by kernel_rfl)<|qf 8 r<|ql r r<|qf 3 r<|ql r r<|Q_call (i61) r r (fun _ _ => r) (fun _ _ => Ent.refl _) r<|qb r ?_
 refine qn<|kt<|cf r<|skb<|san r<|jr<|r1 r Ent.take
theorem i63 (a d e g h j k l m o p q : Nat) : Sp Tryz.prog 89 #[Pt a 0, I 2, Mp d] ((sep (c8 a e g h j k l m o p) (sep (c2 l m o) (sep (c22 p q) (sep (c1 e) (mapq d [.int .i64, .bool, .int .i64, .int .i64] (mput (mput (fun _ => none) k2 (I 1)) k3 (I 1)))))))) (I 0) ((sep (c8 a e g h j k l m o p) (sep (c2 l m o) (sep (c22 p q) (sep (c1 e) (mapq d [.int .i64, .bool, .int .i64, .int .i64] (mput (mput (mput (fun _ => none) k2 (I 1)) k3 (I 1)) k4 (I 1)))))))) := by
 refine en Tryz.func89 r fun σ F=>san r<|sb r<|fa 0 r<|lf 5 r r<|ea r<|ix (m + 22) r r<|lv (opv_ldOS 22 r r) r<|al r fun b1=>so r r<|nj<|jb<|sr<|ec r<|go r<|fa 0 r ?_
 refine go r<|ld r r<|go r<|ec r<|go r<|fa 3 r<|go r<|ld r r<|go r<|cu i56 r<|go r<|ec r<|go r<|ea r<|go r<|fa 2 r ?_
 refine go r<|ld r r<|go r<|cu (i19 a e g h j k l m o p) r<|go r<|ec r<|nf r<|sr<|lf 7 r r<|cu i57 r<|eb r<|go r<|fa 8 r<|go r<|ld r r<|go r ?_
 refine cu i58 r<|go r<|ec r<|nf r<|js<|J_quiet Tryz.mixed (by kernel_rfl)<|qb r<|qa r<|qo r<|qa r<|qo r<|qa r<|qo r<|qf 0 r<|qo r<|qf 5 r ?_
 refine qo r<|ql r r<|qo r<|qa r<|qo r<|qv (opv_ib (c := I 1) r r r) r<|qo r<|qv (opv_ix (m + 11) r r r r) r<|qo r<|qf (m + 11) r<|qo r<|qv (opv_ldO 11 r r r) r<|qo r<|qf 0 r<|qo r<|ql r r ?_
 refine qo r<|qb r<|qa r<|qn<|kt<|cf r<|skb<|js<|J_steps ((sep (c8 a e g h j k l m o p) (sep (c182 b1) (c22 p q)))) (emp) [] Tryz.mixed<|pe 0 r r<|pe 1 r r<|pf 2 6 r r<|pf 4 5 r r<|pl 3 r r r<|pl 5 r r r<|ps 6 r (opv_lookC (v := .tuple #[.agg (k1 q).toArray, Tt]) r r r) ?_
 refine pe 7 r r<|pe 8 r r<|pe 9 r r<|pn 10 r (opx_alloc r) fun b3 _=>?_
 refine pn 11 r (opx_store r r r (List.all_eq_true.1 r)) fun _ _=>pe 12 r r<|dn<|kt<|js<|js<|J_quiet Tryz.mixed (by kernel_rfl)<|qb r<|qa r<|qo r<|qf 1 r<|qo r<|ql r r<|qo r<|qa r<|qo r ?_
 refine qa r<|qo r<|qf 0 r<|qo r<|qf 1 r<|qo r<|ql r r<|qo r<|qf 2 r<|qo r<|ql r r<|qo r<|qv (opv_ix 0 r r r r) r<|qo r<|ql r r<|qo r ?_
 refine qb r<|qn<|kt<|cf r<|sk<|js<|sr<|ls r<|ls r<|cu (i60 q) r<|an r<|sb r<|nf r<|sk<|js<|jb ?_
 refine sr<|lf 3 r r<|eb r<|nt r<|sr<|ls r<|ls r<|cu (i62 q) r<|an r<|sb r<|nf r<|skb<|sr<|lf 1 r r<|lf 4 r r<|lf 5 r r ?_
 refine lf 7 r r<|lv (opv_build r) r<|al r fun b4=>so r r<|nj ?_
 refine J_cut (X := Int) (fun x9 => [(0, Pt a 0), (1, I 2), (2, Mp d), (6, I 0), (13, Pt a 0), (14, Pt a 0), (15, Pt a 0), (16, Pt a 5), (17, Sk l m 4 o), (18, I 2), (19, Pt l (m + 22)), (20, .agg k11.toArray), (7, Pt b1 0), (22, I 2), (23, Ff), (24, Ff), (25, Pt b1 0), (26, I 30), (27, Ff), (28, Ff), (29, Ff), (30, Pt b1 3), (31, I 1), (32, Tt), (33, Ff), (34, Ff), (35, Ff), (36, Pt a 0), (37, Pt b1 2), (38, I 0), (39, Tt), (40, Ff), (41, Ff), (21, Ff), (43, Pt b1 7), (44, I 6), (45, Tt), (46, Ff), (47, Ff), (48, Pt b1 8), (49, I 20), (50, Tt), (51, Ff), (52, Ff), (42, Ff), (54, I 2), (55, Tt), (56, Tt), (57, Pt a 0), (58, Pt a 0), (59, Pt a 0), (60, Pt a 5), (61, Sk l m 4 o), (62, I 2), (63, I 1), (64, Pt l (m + 11)), (65, Pt l (m + 11)), (66, I 20), (67, Pt b1 0), (68, I 30), (69, Ff), (70, Ff), (53, Ff), (72, Pt a 0), (73, Pt a 0), (74, Pt a 6), (76, Pt b1 5), (75, Mp p), (77, I 10), (78, .tuple #[.agg (k1 q).toArray, Tt]), (71, .tuple #[.agg (k1 q).toArray, Tt]), (79, .agg (k1 q).toArray), (80, Tt), (8, Pt b3 0), (9, Tt), (81, Tt), (82, Ff), (83, Ff), (84, Pt b1 1), (85, I 0), (86, Pt a 0), (87, Pt a 0), (88, Pt a 0), (89, Pt a 1), (90, Sk e 0 3 3), (91, Pt b1 2), (92, I 0), (93, Pt e 0), (94, I 0), (95, Ff), (96, Ff), (97, .agg k11.toArray), (98, .agg (k1 q).toArray), (99, I 0), (10, I 0), (100, I 0), (101, Ff), (104, Pt b1 3), (105, I 1), (106, Tt), (103, Tt), (107, .agg k11.toArray), (108, .agg (k1 q).toArray), (109, I 0), (11, I 0), (110, I 0), (111, Ff), (123, Pt b1 1), (124, I 0), (125, Pt b1 4), (126, Tt), (127, Pt b1 5), (128, I 10), (129, Pt b1 7), (130, I 6), (131, .agg k4.toArray), (12, Pt b4 0), (132, Mp d), (133, .agg k4.toArray), (134, I 0), (135, I 1), (136, .tuple #[I 0, .int .i64 x9]), (137, .int .i64 x9)]) (fun x9 => (sep (c2 l m o) (sep (c22 p q) (sep (c1 e) (sep (mapq d [.int .i64, .bool, .int .i64, .int .i64] (mput (mput (mput (fun _ => none) k2 (I 1)) k3 (I 1)) k4 (I 1))) (sep (c182 b1) (sep (c8 a e g h j k l m o p) (sep (c116 b3 q) (sep (cel b4 k4 245) (F)))))))))) (fun _ => True) ?_ (fun x9 _ => ?_)
 · refine J_steps (cel b4 k4 245) (mapq d [.int .i64, .bool, .int .i64, .int .i64] (mput (mput (fun _ => none) k2 (I 1)) k3 (I 1))) [4, 6] Tryz.mixed<|pe 0 r r<|ps 1 r (opv_loadS r) ?_
   refine R_a [2, 4] (by kernel_rfl) rfl fun i hi => ?_
   simp only [List.mem_cons, List.not_mem_nil, or_false] at hi
   rcases hi with rfl | rfl
   · refine R_avs r (opv_lookQ (v := I 0) r r (by simp [Shape, CK.sh]) none (by simp [mput]) r) r<|ps 3 r (opv_ib (c := I 1) r r r)<|R_o 4 r r (by kernel_rfl) (opx_mapEntryQ r r (by simp [Shape, CK.sh]) (I 0) (by simp [mput]) r) fun q7 _=>R_q 5 r (by kernel_rfl) (opv_ex r) r<|R_o 6 r r (by kernel_rfl) (opx_entryStoreQ r r r (by simp [Shape, CK.sh])) fun _ _=>dn<|kc q7 r Ent.take
   · refine R_ax r r (by kernel_rfl) (opx_mapEntryQ r r (by simp [Shape, CK.sh]) (I 0) (by simp [mput]) r) fun q8 _=>R_q 5 r (by kernel_rfl) (opv_ex r) r<|R_v 2 r (by kernel_rfl) (opv_lookE (v := I 0) r r (by simp [Shape, CK.sh]) (some (I 0)) (by simp [mput]) r) r<|R_q 3 r (by kernel_rfl) (opv_ib (c := I 1) r r r) r<|R_o 6 r r (by kernel_rfl) (opx_entryStoreQ r r r (by simp [Shape, CK.sh])) fun _ _=>dn<|kc q8 r Ent.take
 · refine sa r<|ls r<|lv (opv_lookQ (v := I 1) r r (by simp [Shape, CK.sh]) (some (I 1)) (by simp [mput]) r) r<|an r<|cf r<|sk<|san r<|jr<|r1 r Ent.take
theorem i64 (a c d e g h j k l m o p q s : Nat) : Sp Tryz.prog 88 #[I 2, Pt a 0, Pt c 0] ((sep (c18 a d) (sep (cel c [Mp e] 187) (sep (c8 d g h j k l m o p q) (sep (c2 m o p) (sep (c22 q s) (sep (c1 g) (mapq e [.int .i64, .bool, .int .i64, .int .i64] (mput (mput (fun _ => none) k2 (I 1)) k3 (I 1)))))))))) (I 0) ((sep (c18 a d) (sep (cel c [Mp e] 187) (sep (c8 d g h j k l m o p q) (sep (c2 m o p) (sep (c22 q s) (sep (c1 g) (mapq e [.int .i64, .bool, .int .i64, .int .i64] (mput (mput (mput (fun _ => none) k2 (I 1)) k3 (I 1)) k4 (I 1)))))))))) := by
 refine en Tryz.func88 r fun σ F=>san r<|sr<|ld r r<|ea r<|ld r r<|cu (i63 d e g h j k l m o p q s) r<|an r<|jr<|r1 r Ent.take
theorem i65 (a : Nat) : Kp Tryz.prog 119 #[.agg k10.toArray, .agg (k1 a).toArray] (cel a [I 1] 3) (I 0) := by
 refine en Tryz.func119 r fun σ F=>sr<|bx r fun b1=>bx r fun b2=>an r<|san r<|js<|jb<|sr<|lf 4 r r<|ea r<|gs r<|gs r<|gs r<|gs r<|gs r ?_
 refine bf r<|sr<|lf 4 r r<|eb r<|go r<|fa 7 r<|go r<|ld r r<|go r<|fa 1 r<|go r<|ld r r<|go r<|cu (i50 a) r<|go r<|ec r ?_
 refine nf r<|sr<|lf 4 r r<|an r<|cf r<|skb<|js<|sr<|lf 6 r r<|ea r<|cu i51 r<|an r<|cf r<|sk<|san r<|jr ?_
 exact r1 r Ent.take
theorem i66 : Kp Tryz.prog 82 #[I 1000000, I 1, I 1099511627776] (emp) (Tt) := by
 refine en Tryz.func82 r fun σ F=>J_emp<|san r<|sr<|ed r<|go r<|ea r<|go r<|ea r<|go r<|ec r<|nk<|jr<|r1 r Ent.take
theorem i67 (a : Nat) : Kp Tryz.prog 120 #[.agg k10.toArray, .agg (k1 a).toArray] (emp) (I 0) := by
 refine en Tryz.func120 r fun σ F=>J_emp<|sr<|bx r fun b1=>bx r fun b2=>an r<|js<|jb<|sr<|lf 9 r r<|eb r<|go r<|fa 4 r<|go r<|ld r r<|go r ?_
 refine ea r<|gs r<|gs r<|gs r<|go r<|ec r<|go r<|fa 4 r<|go r<|ld r r<|go r<|ea r<|go r<|ea r<|go r<|fa 10 r ?_
 refine go r<|ld r r<|go r<|cu i66 r<|go r<|ea r<|go r<|ec r<|nf r<|js<|J_quiet Tryz.mixed (by kernel_rfl)<|qf 8 r<|ql r r<|qf 3 r<|ql r r<|Q_call (i61) r r (fun _ _ => r) (fun _ _ => Ent.refl _) r ?_
 refine qb r<|qn<|kt<|cf r<|skb<|san r<|jr<|r1 r Ent.take
theorem i68 (a d e g h j k l m o p q : Nat) : Sp Tryz.prog 89 #[Pt a 0, I 3, Mp d] ((sep (c8 a e g h j k l m o p) (sep (c2 l m o) (sep (c22 p q) (sep (c1 e) (sep (cel q [I 1] 3) (mapq d [.int .i64, .bool, .int .i64, .int .i64] (mput (mput (mput (fun _ => none) k2 (I 1)) k3 (I 1)) k4 (I 1))))))))) (I 0) ((sep (c8 a e g h j k l m o p) (sep (c2 l m o) (sep (c22 p q) (sep (c1 e) (sep (cel q [I 1] 3) (mapq d [.int .i64, .bool, .int .i64, .int .i64] (mput (mput (mput (mput (fun _ => none) k2 (I 1)) k3 (I 1)) k4 (I 1)) k7 (I 1))))))))) := by
 refine en Tryz.func89 r fun σ F=>san r<|sb r<|fa 0 r<|lf 5 r r<|ea r<|ix (m + 33) r r<|lv (opv_ldOS 33 r r) r<|al r fun b1=>so r r<|nj<|jb<|sr<|ec r<|go r<|fa 0 r ?_
 refine go r<|ld r r<|go r<|ec r<|go r<|fa 3 r<|go r<|ld r r<|go r<|cu i56 r<|go r<|ec r<|go r<|ea r<|go r<|fa 2 r ?_
 refine go r<|ld r r<|go r<|cu (i24 a e g h j k l m o p) r<|go r<|ec r<|nf r<|sr<|lf 7 r r<|cu i57 r<|eb r<|go r<|fa 8 r<|go r<|ld r r<|go r ?_
 refine cu i58 r<|go r<|ec r<|nf r<|js<|J_quiet Tryz.mixed (by kernel_rfl)<|qb r<|qa r<|qo r<|qa r<|qo r<|qa r<|qo r<|qf 0 r<|qo r<|qf 5 r ?_
 refine qo r<|ql r r<|qo r<|qa r<|qo r<|qv (opv_ib (c := I 2) r r r) r<|qo r<|qv (opv_ix (m + 22) r r r r) r<|qo r<|qf (m + 22) r<|qo r<|qv (opv_ldO 22 r r r) r<|qo r<|qf 0 r<|qo r<|ql r r ?_
 refine qo r<|qb r<|qa r<|qn<|kt<|cf r<|skb<|js<|J_steps ((sep (c8 a e g h j k l m o p) (sep (c172 b1) (c22 p q)))) (emp) [] Tryz.mixed<|pe 0 r r<|pe 1 r r<|pf 2 6 r r<|pf 4 5 r r<|pl 3 r r r<|pl 5 r r r<|ps 6 r (opv_lookC (v := .tuple #[.agg (k1 q).toArray, Tt]) r r r) ?_
 refine pe 7 r r<|pe 8 r r<|pe 9 r r<|pn 10 r (opx_alloc r) fun b3 _=>?_
 refine pn 11 r (opx_store r r r (List.all_eq_true.1 r)) fun _ _=>pe 12 r r<|dn<|kt<|js<|js<|J_quiet Tryz.mixed (by kernel_rfl)<|qb r<|qa r<|qo r<|qf 1 r<|qo r<|ql r r<|qo r<|qa r<|qo r ?_
 refine qa r<|qo r<|qf 0 r<|qo r<|qf 1 r<|qo r<|ql r r<|qo r<|qf 2 r<|qo r<|ql r r<|qo r<|qv (opv_ix 1 r r r r) r<|qo r<|ql r r<|qo r ?_
 refine qb r<|qn<|kt<|cf r<|sk<|js<|sr<|ls r<|ls r<|cu (i65 q) r<|an r<|sb r<|nf r<|sk<|js<|jb ?_
 refine sr<|lf 3 r r<|eb r<|nt r<|sr<|ls r<|ls r<|cu (i67 q) r<|an r<|sb r<|nf r<|skb<|sr<|lf 1 r r<|lf 4 r r<|lf 5 r r ?_
 refine lf 7 r r<|lv (opv_build r) r<|al r fun b4=>so r r<|nj ?_
 refine J_cut (X := Int) (fun x9 => [(0, Pt a 0), (1, I 3), (2, Mp d), (6, I 0), (13, Pt a 0), (14, Pt a 0), (15, Pt a 0), (16, Pt a 5), (17, Sk l m 4 o), (18, I 3), (19, Pt l (m + 33)), (20, .agg k10.toArray), (7, Pt b1 0), (22, I 3), (23, Ff), (24, Ff), (25, Pt b1 0), (26, I 31), (27, Ff), (28, Ff), (29, Ff), (30, Pt b1 3), (31, I 1), (32, Tt), (33, Ff), (34, Ff), (35, Ff), (36, Pt a 0), (37, Pt b1 2), (38, I 1), (39, Tt), (40, Ff), (41, Ff), (21, Ff), (43, Pt b1 7), (44, I 6), (45, Tt), (46, Ff), (47, Ff), (48, Pt b1 8), (49, I 20), (50, Tt), (51, Ff), (52, Ff), (42, Ff), (54, I 3), (55, Tt), (56, Tt), (57, Pt a 0), (58, Pt a 0), (59, Pt a 0), (60, Pt a 5), (61, Sk l m 4 o), (62, I 3), (63, I 2), (64, Pt l (m + 22)), (65, Pt l (m + 22)), (66, I 30), (67, Pt b1 0), (68, I 31), (69, Ff), (70, Ff), (53, Ff), (72, Pt a 0), (73, Pt a 0), (74, Pt a 6), (76, Pt b1 5), (75, Mp p), (77, I 10), (78, .tuple #[.agg (k1 q).toArray, Tt]), (71, .tuple #[.agg (k1 q).toArray, Tt]), (79, .agg (k1 q).toArray), (80, Tt), (8, Pt b3 0), (9, Tt), (81, Tt), (82, Ff), (83, Ff), (84, Pt b1 1), (85, I 1), (86, Pt a 0), (87, Pt a 0), (88, Pt a 0), (89, Pt a 1), (90, Sk e 0 3 3), (91, Pt b1 2), (92, I 1), (93, Pt e 1), (94, I 1), (95, Ff), (96, Ff), (97, .agg k10.toArray), (98, .agg (k1 q).toArray), (99, I 0), (10, I 0), (100, I 0), (101, Ff), (104, Pt b1 3), (105, I 1), (106, Tt), (103, Tt), (107, .agg k10.toArray), (108, .agg (k1 q).toArray), (109, I 0), (11, I 0), (110, I 0), (111, Ff), (123, Pt b1 1), (124, I 1), (125, Pt b1 4), (126, Ff), (127, Pt b1 5), (128, I 10), (129, Pt b1 7), (130, I 6), (131, .agg k7.toArray), (12, Pt b4 0), (132, Mp d), (133, .agg k7.toArray), (134, I 0), (135, I 1), (136, .tuple #[I 0, .int .i64 x9]), (137, .int .i64 x9)]) (fun x9 => (sep (c2 l m o) (sep (c22 p q) (sep (c1 e) (sep (mapq d [.int .i64, .bool, .int .i64, .int .i64] (mput (mput (mput (mput (fun _ => none) k2 (I 1)) k3 (I 1)) k4 (I 1)) k7 (I 1))) (sep (c172 b1) (sep (c8 a e g h j k l m o p) (sep (c116 b3 q) (sep (cel q [I 1] 3) (sep (cel b4 k7 245) (F))))))))))) (fun _ => True) ?_ (fun x9 _ => ?_)
 · refine J_steps (cel b4 k7 245) (mapq d [.int .i64, .bool, .int .i64, .int .i64] (mput (mput (mput (fun _ => none) k2 (I 1)) k3 (I 1)) k4 (I 1))) [4, 6] Tryz.mixed<|pe 0 r r<|ps 1 r (opv_loadS r) ?_
   refine R_a [2, 4] (by kernel_rfl) rfl fun i hi => ?_
   simp only [List.mem_cons, List.not_mem_nil, or_false] at hi
   rcases hi with rfl | rfl
   · refine R_avs r (opv_lookQ (v := I 0) r r (by simp [Shape, CK.sh]) none (by simp [mput]) r) r<|ps 3 r (opv_ib (c := I 1) r r r)<|R_o 4 r r (by kernel_rfl) (opx_mapEntryQ r r (by simp [Shape, CK.sh]) (I 0) (by simp [mput]) r) fun q7 _=>R_q 5 r (by kernel_rfl) (opv_ex r) r<|R_o 6 r r (by kernel_rfl) (opx_entryStoreQ r r r (by simp [Shape, CK.sh])) fun _ _=>dn<|kc q7 r Ent.take
   · refine R_ax r r (by kernel_rfl) (opx_mapEntryQ r r (by simp [Shape, CK.sh]) (I 0) (by simp [mput]) r) fun q8 _=>R_q 5 r (by kernel_rfl) (opv_ex r) r<|R_v 2 r (by kernel_rfl) (opv_lookE (v := I 0) r r (by simp [Shape, CK.sh]) (some (I 0)) (by simp [mput]) r) r<|R_q 3 r (by kernel_rfl) (opv_ib (c := I 1) r r r) r<|R_o 6 r r (by kernel_rfl) (opx_entryStoreQ r r r (by simp [Shape, CK.sh])) fun _ _=>dn<|kc q8 r Ent.take
 · refine sa r<|ls r<|lv (opv_lookQ (v := I 1) r r (by simp [Shape, CK.sh]) (some (I 1)) (by simp [mput]) r) r<|an r<|cf r<|sk<|san r<|jr<|r1 r Ent.take
theorem i69 (a c d e g h j k l m o p q s : Nat) : Sp Tryz.prog 88 #[I 3, Pt a 0, Pt c 0] ((sep (c18 a d) (sep (cel c [Mp e] 187) (sep (c8 d g h j k l m o p q) (sep (c2 m o p) (sep (c22 q s) (sep (c1 g) (sep (cel s [I 1] 3) (mapq e [.int .i64, .bool, .int .i64, .int .i64] (mput (mput (mput (fun _ => none) k2 (I 1)) k3 (I 1)) k4 (I 1))))))))))) (I 0) ((sep (c18 a d) (sep (cel c [Mp e] 187) (sep (c8 d g h j k l m o p q) (sep (c2 m o p) (sep (c22 q s) (sep (c1 g) (sep (cel s [I 1] 3) (mapq e [.int .i64, .bool, .int .i64, .int .i64] (mput (mput (mput (mput (fun _ => none) k2 (I 1)) k3 (I 1)) k4 (I 1)) k7 (I 1))))))))))) := by
 refine en Tryz.func88 r fun σ F=>san r<|sr<|ld r r<|ea r<|ld r r<|cu (i68 d e g h j k l m o p q s) r<|an r<|jr<|r1 r Ent.take
theorem i70 (a c d e g h j k l m o p q s : Nat) : Sp Tryz.prog 92 #[I 4, .func (.func 88) #[] #[Pt a 0, Pt c 0]] ((sep (c18 a d) (sep (cel c [Mp e] 187) (sep (c8 d g h j k l m o p q) (sep (c2 m o p) (sep (c22 q s) (sep (c1 g) (sep (mapq e [.int .i64, .bool, .int .i64, .int .i64] (fun _ => none)) (cel s [I 1] 3))))))))) (.tuple #[I (-1), I 0]) ((sep (c18 a d) (sep (cel c [Mp e] 187) (sep (c8 d g h j k l m o p q) (sep (c2 m o p) (sep (c22 q s) (sep (c1 g) (sep (mapq e [.int .i64, .bool, .int .i64, .int .i64] (mput (mput (mput (mput (fun _ => none) k2 (I 1)) k3 (I 1)) k4 (I 1)) k7 (I 1))) (cel s [I 1] 3))))))))) := by
 refine en Tryz.func92 r fun σ F=>sb r<|nj<|sb r<|nk<|jl<|ut r<|js<|jb<|sb r<|nr<|eb r<|lx r (opx_call (first := []) (captured := [Pt a 0, Pt c 0]) (i48 a c d e g h j k l m o p q s) r r r r) fun _ _=>an r<|sb r<|nf r ?_
 refine jk<|ni (I 1) r<|ut r<|js<|jb<|sb r<|nr<|eb r<|lx r (opx_call (first := []) (captured := [Pt a 0, Pt c 0]) (i55 a c d e g h j k l m o p q s) r r r r) fun _ _=>an r<|sb r<|nf r<|jk<|ni (I 2) r<|ut r<|js<|jb<|sb r ?_
 refine nr<|eb r<|lx r (opx_call (first := []) (captured := [Pt a 0, Pt c 0]) (i64 a c d e g h j k l m o p q s) r r r r) fun _ _=>an r<|sb r<|nf r<|jk<|ni (I 3) r<|ut r<|js<|jb<|sb r<|nr<|eb r<|lx r (opx_call (first := []) (captured := [Pt a 0, Pt c 0]) (i69 a c d e g h j k l m o p q s) r r r r) fun _ _=>an r<|sb r ?_
 refine nf r<|jk<|ni (I 4) r<|uf r<|kt<|sb r<|nk<|jr<|r2 r Ent.take
theorem i71 (a c d e g h j k l : Nat) : Kp Tryz.prog 91 #[.agg (k0 a c d e g h j k).toArray, I 0] (c7 d e g l) (I 600) := by
 refine en Tryz.func91 r fun σ F=>sr<|bx r fun b1=>an r<|san r<|js<|sr<|lf 4 r r<|ll r<|an r<|jl<|ut r<|js<|jb<|sr<|ix e r r ?_
 refine lv (opv_ldOS 0 r r) r<|al r fun b2=>so r r<|nr<|lf 1 r r<|eb r<|nt r<|jg<|ea r<|lf 3 r r<|ib (I 100) r<|ib (I 600) r<|ea r<|ln<|ni (I 1) r<|uf r ?_
 refine kt<|sb r<|nk<|jr<|r1 r Ent.take
theorem i72 (a c d e g h j k l m : Nat) : Kp Tryz.prog 90 #[I 0, Pt a 0] ((sep (c40 a c d e g h j k l) (c7 e g h m))) (I 0) := by
 refine en Tryz.func90 r fun σ F=>san r<|js<|sr<|ls r<|ea r<|cu (i71 c d e g h j k l m) r<|an r<|cf r<|sk<|san r<|jr<|r1 r Ent.take
theorem i73 (a c d e g h j k l : Nat) : Kp Tryz.prog 91 #[.agg (k0 a c d e g h j k).toArray, I 1] (c7 d e g l) (I 500) := by
 refine en Tryz.func91 r fun σ F=>sr<|bx r fun b1=>an r<|san r<|js<|sr<|lf 4 r r<|ll r<|an r<|jl<|ut r<|js<|jb<|sr<|ix e r r ?_
 refine lv (opv_ldOS 0 r r) r<|al r fun b2=>so r r<|nr<|lf 1 r r<|bf r<|jk<|ni (I 1) r<|uf r<|kt<|sb r<|nk<|jr<|r1 r Ent.take
theorem i74 (a c d e g h j k l m : Nat) : Kp Tryz.prog 90 #[I 1, Pt a 0] ((sep (c40 a c d e g h j k l) (c7 e g h m))) (I 0) := by
 refine en Tryz.func90 r fun σ F=>san r<|js<|sr<|ls r<|ea r<|cu (i73 c d e g h j k l m) r<|an r<|cf r<|sk<|san r<|jr<|r1 r Ent.take
theorem i75 (a c d e g h j k l : Nat) : Kp Tryz.prog 91 #[.agg (k0 a c d e g h j k).toArray, I 2] (c7 d e g l) (I 500) := by
 refine en Tryz.func91 r fun σ F=>sr<|bx r fun b1=>an r<|san r<|js<|sr<|lf 4 r r<|ll r<|an r<|jl<|ut r<|js<|jb<|sr<|ix e r r ?_
 refine lv (opv_ldOS 0 r r) r<|al r fun b2=>so r r<|nr<|lf 1 r r<|bf r<|jk<|ni (I 1) r<|uf r<|kt<|sb r<|nk<|jr<|r1 r Ent.take
theorem i76 (a c d e g h j k l m : Nat) : Kp Tryz.prog 90 #[I 2, Pt a 0] ((sep (c40 a c d e g h j k l) (c7 e g h m))) (I 0) := by
 refine en Tryz.func90 r fun σ F=>san r<|js<|sr<|ls r<|ea r<|cu (i75 c d e g h j k l m) r<|an r<|cf r<|sk<|san r<|jr<|r1 r Ent.take
theorem i77 (a c d e g h j k l m : Nat) : Kp Tryz.prog 92 #[I 3, .func (.func 90) #[] #[Pt a 0]] ((sep (c40 a c d e g h j k l) (c7 e g h m))) (.tuple #[I (-1), I 0]) := by
 refine en Tryz.func92 r fun σ F=>sb r<|nj<|sb r<|nk<|jl<|ut r<|js<|jb<|sb r<|nr<|eb r<|lx r (opx_call (first := []) (captured := [Pt a 0]) (i72 a c d e g h j k l m) r r r r) fun _ _=>an r<|sb r<|nf r ?_
 refine jk<|ni (I 1) r<|ut r<|js<|jb<|sb r<|nr<|eb r<|lx r (opx_call (first := []) (captured := [Pt a 0]) (i74 a c d e g h j k l m) r r r r) fun _ _=>an r<|sb r<|nf r<|jk<|ni (I 2) r<|ut r<|js<|jb<|sb r ?_
 refine nr<|eb r<|lx r (opx_call (first := []) (captured := [Pt a 0]) (i76 a c d e g h j k l m) r r r r) fun _ _=>an r<|sb r<|nf r<|jk<|ni (I 3) r<|uf r<|kt<|sb r<|nk<|jr<|r2 r Ent.take
theorem i78 (a c d e g h j k l : Nat) : Kp Tryz.prog 57 #[.agg (k0 a c d e g h j k).toArray] ((sep (c1 a) (sep (c5 c) (sep (c7 d e g l) (sep (cel l [I 1] 3) (c2 h j k)))))) (.tuple #[.agg [I 0, I 0].toArray, I 0]) := by
 refine en Tryz.func57 r fun σ F=>sr<|bx r fun b1=>al r fun b2=>an r<|sr<|ls r<|lx r (opx_makeC r) fun r3 _=>lv (opv_build r) r<|bx r fun b4=>al r fun b5=>so r r<|nr<|lx r (opx_makeC r) fun r6 _=>lx r (opx_makeMapq [.int .i64, .bool, .int .i64, .int .i64] r) fun r7 _=>al r fun b8=>?_
 refine al r fun b9=>so r r<|so r r<|nr<|al r fun b10=>so r r<|nj<|js<|J_steps ((sep (c115 b10) (sep (c40 b1 a c d e g h j k) (c18 b5 b4)))) (emp) [] Tryz.mixed<|pf 1 0 r r<|pf 6 1 r r<|ps 9 r (opv_makeFunc r r)<|pf 12 2 r r<|pf 17 3 r r<|ps 20 r (opv_makeFunc r r)<|pf 22 4 r r ?_
 refine pf 28 5 r r<|ps 31 r (opv_makeFunc r r)<|pf 33 0 r r<|ps 36 r (opv_makeFunc r r)<|pe 40 r r<|pl 0 r r r<|pl 2 r r r<|pl 7 r r r<|ps 8 r (opv_lenL r)<|ps 10 r (opv_build r)<|pl 11 r r r<|pl 13 r r r<|pl 18 r r r<|ps 19 r (opv_lenL r)<|ps 21 r (opv_build r)<|pl 23 r r r ?_
 refine ps 24 r (opv_lenL r)<|pl 25 r r r<|ps 26 r (opv_makeFunc r r)<|ps 27 r (opv_build r)<|pl 29 r r r<|ps 30 r (opv_lenL r)<|ps 32 r (opv_build r)<|pl 34 r r r<|ps 35 r ((opv_min r r).as (v' := I 3) r)<|ps 37 r (opv_build r)<|pn 3 r (opx_call0 (i2) r r r) fun _ _=>pn 4 r (opx_call (first := []) (captured := []) (i3) r r r r) fun y14 _=>ps 5 r (opv_build r)<|pn 14 r (opx_call0 (i4) r r r) fun _ _=>pn 15 r (opx_call (first := []) (captured := []) (i3) r r r r) fun y15 _=>ps 16 r (opv_build r) ?_
 refine pn 38 r (opx_buildSliceM (m := 3) r r r r r r) fun b16 _=>ps 39 r (opv_lenL r)<|dn<|kt<|jl<|ut r<|js<|jb<|sr<|ix 0 r r<|ls r<|al r fun b17=>so r r<|nr<|lf 1 r r<|lf 2 r r ?_
 refine cu (i6 y14) r<|ed r<|an r<|sb r<|nf r<|jk<|ni (I 1) r<|ut r<|js<|jb<|sr<|ix 3 r r<|ls r<|al r fun b18=>so r r<|nr<|lf 1 r r ?_
 refine lf 2 r r<|cu (i18 b10 b5 b1 b4 a c d e g h j k r3) r<|ed r<|an r<|sb r<|nf r<|jk<|ni (I 2) r<|ut r<|js<|jb<|sr<|ix 6 r r<|ls r<|al r fun b19=>so r r<|nr ?_
 refine lf 1 r r<|lf 2 r r<|cu (i6 y15) r<|ed r<|an r<|sb r<|nf r<|jk<|ni (I 3) r<|ut r<|js<|jb<|sr<|ix 9 r r<|ls r<|al r fun b20=>so r r ?_
 refine nr<|lf 1 r r<|lf 2 r r<|cu (i30 b5 b8 b4 r6 a c d e g h j k r3) r<|ed r<|an r<|sb r<|nf r<|jk<|ni (I 4) r<|ut r<|js<|jb<|sr<|ix 12 r r<|ls r<|al r fun b21=>?_
 refine so r r<|nr<|lf 1 r r<|lf 2 r r<|cu (i40 b4 a c d e g h j k r3 l) r<|ed r<|an r<|sb r<|nf r<|jk<|ni (I 5) r<|ut r<|js<|jb<|sr<|ix 15 r r<|ls r ?_
 refine al r fun b22=>so r r<|nr<|lf 1 r r<|lf 2 r r<|cu (i70 b5 b9 b4 r7 a c d e g h j k r3 l) r<|ed r<|an r<|sb r<|nf r<|jk<|ni (I 6) r<|ut r<|js<|jb<|sr<|ix 18 r r ?_
 refine ls r<|al r fun b23=>so r r<|nr<|lf 1 r r<|lf 2 r r<|cu (i77 b1 a c d e g h j k l) r<|ed r<|an r<|sb r<|nf r<|jk<|ni (I 7) r<|uf r<|kt<|sr<|lv (opv_build r) r ?_
 refine so r r<|an r<|jr ?_
 exact K_rets r (.agg r r (.tmp r (.nil))) () trivial r Ent.take
theorem i79 : Kp Tryz.prog 121 #[I 1024] (emp) (Tt) := by
 refine en Tryz.func121 r fun σ F=>J_emp<|san r<|sr<|ec r<|go r<|ea r<|go r<|ec r<|nk<|jr<|r1 r Ent.take
theorem i80 : FSpec Tryz.prog 93 #[I 1024, I 1024] (emp) (fun _ : Nat => True) (fun y => .tuple #[Pt y 0, I 0]) (fun y => cel y k26 253) := by
 refine en Tryz.func93 r fun σ F=>J_emp<|sb r<|nj<|sa r<|cu i79 r<|eb r<|go r<|ea r<|go r<|cu i79 r<|go r<|bf r<|sk<|sb r<|lv (opv_buildA (pl := [(0, 1), (1, 1)]) r r) r ?_
 refine lv (opv_build r) r<|bx r fun b1=>eb r<|nk<|jr ?_
 exact K_rets r (.tmp r (.tmp r (.nil))) b1 trivial r Ent.take
theorem i81 (a : Nat) : FSpec Tryz.prog 94 #[Sk a 0 1 1] (cel a [I 1] 3) (fun _ : Nat × Nat × Nat => True) (fun y => Sk y.1 y.2.1 1 y.2.2) (fun y => (sep (cel a [I 1] 3) (c14 y.1 y.2.1 y.2.2))) := by
 refine en Tryz.func94 r fun σ F=>san r<|js<|sa r<|lv (opv_eSl (r := false) r r) r<|nf r<|sk<|sr<|lx r (opx_buildSlice0 r) fun b1 _=>ea r<|lx r (opx_ap (m := 1) (B := 8) 1 r r (Src.lit) r r r (List.all_eq_true.1 r) r r r r) fun z2 _=>an r<|jr ?_
 exact K_rets r (.tmp r (.nil)) (z2.1, z2.2.1, z2.2.2) trivial r Ent.take
theorem i82 : Kp Tryz.prog 122 #[.agg k12.toArray] (emp) (Tt) := by
 refine en Tryz.func122 r fun σ F=>J_emp<|sr<|bx r fun b1=>an r<|sr<|lf 0 r r<|eb r<|go r<|fa 0 r<|go r<|ld r r<|go r<|ec r<|go r<|fa 1 r ?_
 refine go r<|ld r r<|go r<|ec r<|go r<|fa 1 r<|go r<|ld r r<|go r<|ec r<|go r<|fa 2 r<|go r<|ld r r<|go r<|ec r ?_
 refine go r<|fa 2 r<|go r<|ld r r<|go r<|ec r<|nk<|jr<|r1 r Ent.take
theorem i83 : Kp Tryz.prog 157 #[I 0] (emp) (Tt) := by
 refine en Tryz.func157 r fun σ F=>J_emp<|san r<|sr<|ec r<|go r<|ea r<|go r<|ec r<|nk<|jr<|r1 r Ent.take
theorem i84 : FSpec Tryz.prog 128 #[I 0] (emp) (fun _ : Nat => True) (fun y => .tuple #[Pt y 0, I 0]) (fun y => cel y [.int .u64 0, Ff, I 0, I 0, I 0] 330) := by
 refine en Tryz.func128 r fun σ F=>J_emp<|sb r<|nj<|sa r<|cu i83 r<|an r<|cf r<|sk<|sa r<|lv (opv_cv (c := .int .u64 0) r r) r<|lv (opv_build r) r<|bx r fun b1=>eb r<|nk<|jr ?_
 exact K_rets r (.tmp r (.tmp r (.nil))) b1 trivial r Ent.take
theorem i85 (a : Nat) : Kp Tryz.prog 181 #[Pt a 0] (c53 a) (I 12500) := by
 refine en Tryz.func181 r fun σ F=>san r<|js<|sa r<|ep false r<|nf r<|sk<|sb r<|lf 0 r r<|lv ((opv_shl r r (by decide)).as (v' := I 12500) r) r<|an r<|jr<|r1 r Ent.take
theorem i86 : Kp Tryz.prog 154 #[.agg k12.toArray] (emp) (I 12500) := by
 refine en Tryz.func154 r fun σ F=>J_emp<|sr<|bx r fun b1=>an r<|sr<|lf 1 r r<|cy i84 r fun y2=>ed r<|an r<|sa r<|cu (i85 y2) r<|an r<|jr<|r1 r Ent.take
theorem i87 : Kp Tryz.prog 123 #[.agg k12.toArray] (emp) (I 13100) := by
 refine en Tryz.func123 r fun σ F=>J_emp<|sr<|bx r fun b1=>an r<|js<|J_quiet Tryz.mixed (by kernel_rfl)<|qv (opv_loadS r) r<|Q_call (i86) r r (fun _ _ => r) (fun _ _ => Ent.refl _) r<|qf 2 r<|ql r r<|qv (opv_ib (c := I 13100) r r r) r<|qa r<|qn<|kt<|jr ?_
 exact r1 r Ent.take
theorem i88 : FSpec Tryz.prog 95 #[.agg k12.toArray] (emp) (fun _ : Nat => True) (fun y => .tuple #[Pt y 0, I 0]) (fun y => cel y k27 255) := by
 refine en Tryz.func95 r fun σ F=>J_emp<|sr<|bx r fun b1=>eb r<|nj<|sr<|ls r<|cu i82 r<|an r<|cf r<|sk<|js<|J_steps (cel b1 k12 210) (emp) [] Tryz.mixed<|pf 1 0 r r<|ps 0 r (opv_loadS r) ?_
 refine pl 2 r r r<|ps 3 r (opv_loadS r)<|pn 4 r (opx_call0 (i87) r r r) fun _ _=>ps 5 r (opv_ib (c := I 1048000) r r r)<|ps 6 r (opv_build r)<|pn 7 r (opx_box r r) fun b3 _=>pe 8 r r<|pe 9 r r<|dn<|kt<|jr ?_
 exact K_rets r (.tmp r (.tmp r (.nil))) b3 trivial r Ent.take
theorem i89 (a c d e g h j k l : Nat) : FSpec Tryz.prog 58 #[.agg (k0 a c d e g h j k).toArray, I 0] ((sep (c1 a) (sep (c5 c) (sep (c7 d e g l) (sep (cel l [I 1] 3) (c2 h j k)))))) (fun _ : Nat × Nat × Nat × Nat × Nat × Nat × Nat × Nat × Nat × Nat × Nat × Nat × Nat × Nat => True) (fun y => .tuple #[Pt y.1 0, I 0]) (fun y => (sep (c1 a) (sep (c5 c) (sep (c7 d e g l) (sep (cel l [I 1] 3) (sep (c2 h j k) (sep (c0 y.2.1 y.2.2.1) (sep (c3 y.2.2.2.1) (sep (c91 y.1 y.2.2.2.2.1 y.2.2.2.2.2.1 y.2.2.2.2.2.2.1 y.2.1 y.2.2.2.1) (sep (c11 y.2.2.2.2.2.2.2.1) (sep (c11 y.2.2.2.2.2.2.2.2.1) (sep (c11 y.2.2.2.2.2.2.2.2.2.1) (sep (c6 y.2.2.2.2.1 y.2.2.2.2.2.1 y.2.2.2.2.2.2.1 y.2.2.2.2.2.2.2.1 y.2.2.2.2.2.2.2.2.1 y.2.2.2.2.2.2.2.2.2.1) (sep (c14 y.2.2.2.2.2.2.2.2.2.2.1 y.2.2.2.2.2.2.2.2.2.2.2.1 y.2.2.2.2.2.2.2.2.2.2.2.2.1) (sep (c33 y.2.2.2.2.2.2.2.2.2.2.2.2.2) (c41 y.2.2.1 y.2.2.2.2.2.2.2.2.2.2.1 y.2.2.2.2.2.2.2.2.2.2.2.1 y.2.2.2.2.2.2.2.2.2.2.2.2.1 y.2.2.2.2.2.2.2.2.2.2.2.2.2)))))))))))))))) := by
 refine en Tryz.func58 r fun σ F=>sr<|bx r fun b1=>eb r<|nj<|sr<|ls r<|cu (i78 a c d e g h j k l) r<|ec r<|al r fun b2=>so r r<|an r<|sb r<|nf r<|sk<|js ?_
 refine sr<|ec r<|go r<|ea r<|go r<|bf r<|sk<|sa r<|lx r (opx_makeC r) fun r3 _=>lx r (opx_makeC r) fun r4 _=>lv (opv_build r) r<|bx r fun b5=>an r<|js<|sr<|lf 0 r r ?_
 refine an r<|jl<|ut r<|js<|jb<|sr<|cy i80 r fun y6=>ed r<|an r<|js<|sb r<|nf r<|sk<|jg<|ec r<|lf 1 r r ?_
 refine ea r<|lx r (opx_buildSlice1 (m := 1) r r (by decide) (by decide) r) fun b7 _=>lx r (opx_apN (m := 1) (B := 8) 1 r r (Src.lit) r r r (List.all_eq_true.1 r) r r r r) fun z8 _=>ea r<|fa 1 r<|so r r<|ln<|ni (I 1) r<|ut r<|js<|jb<|sr<|cy i80 r fun y9=>ed r<|an r<|js ?_
 refine sb r<|nf r<|sk<|jg<|ec r<|lf 1 r r<|ea r<|lx r (opx_buildSlice1 (m := 1) r r (by decide) (by decide) r) fun b10 _=>lx r (opx_ap (m := 1) (B := 8) 2 r r (Src.lit) r r r (List.all_eq_true.1 r) r r r r) fun z11 _=>ea r<|fa 1 r<|so r r<|ln<|ni (I 2) r<|ut r<|js ?_
 refine jb<|sr<|cy i80 r fun y12=>ed r<|an r<|js<|sb r<|nf r<|sk<|jg<|ec r<|lf 1 r r<|ea r<|lx r (opx_buildSlice1 (m := 1) r r (by decide) (by decide) r) fun b13 _=>lx r (opx_ap (m := 1) (B := 8) 3 r r (Src.lit) r r r (List.all_eq_true.1 r) r r r r) fun z14 _=>ea r ?_
 refine fa 1 r<|so r r<|ln<|ni (I 3) r<|uf r<|kt<|js<|sr<|lf 4 r r<|ll r<|an r<|jl<|ut r<|js<|jb<|sr ?_
 refine ix e r r<|lv (opv_ldOS 0 r r) r<|al r fun b15=>so r r<|nr<|lf 7 r r<|cy (i81 l) r fun y16=>fa 7 r<|so r r<|nj<|J_steps ((sep (c162 b15 y16.1 y16.2.1 y16.2.2) (c40 b1 a c d e g h j k))) (emp) [] Tryz.mixed<|pf 0 3 r r<|pf 2 2 r r<|pf 5 1 r r<|pl 1 r r r<|pl 3 r r r ?_
 refine ps 4 r (opv_loadS r)<|pl 6 r r r<|pn 7 r (opx_call0 (i71 a c d e g h j k l) r r r) fun _ _=>ps 8 r (opv_build r)<|pn 9 r (opx_call0 (i88) r r r) fun y18 _=>pe 10 r r<|pe 11 r r<|pe 12 r r<|pe 13 r r<|pe 14 r r<|dn<|kt<|js<|sb r<|nf r<|sk ?_
 refine J_steps ((sep (c91 b5 z14.1 z14.2.1 z14.2.2 r3 r4) (c162 b15 y16.1 y16.2.1 y16.2.2))) (emp) [] Tryz.mixed<|pe 0 r r<|pe 1 r r<|pf 2 2 r r<|pf 4 0 r r<|pe 7 r r<|pl 3 r r r<|pl 5 r r r<|ps 6 r (opv_loadS r)<|ps 8 r (opv_build r)<|pn 9 r (opx_box r r) fun b20 _=>pn 10 r (opx_putC r r r r) fun _ _=>dn<|ni (I 1) r<|uf r<|kt ?_
 refine sr<|ec r<|nk<|jr ?_
 exact K_rets r (.tmp r (.tmp r (.nil))) (b5, r3, b20, r4, z14.1, z14.2.1, z14.2.2, y6, y9, y12, y16.1, y16.2.1, y16.2.2, y18) trivial r Ent.take
theorem i90 (a c d e g h j k l : Nat) : FSpec Tryz.prog 58 #[.agg (k0 a c d e g h j k).toArray, I 1] ((sep (c1 a) (sep (c5 c) (sep (c7 d e g l) (sep (cel l [I 1] 3) (c2 h j k)))))) (fun _ : Nat × Nat × Nat × Nat × Nat × Nat × Nat × Nat × Nat × Nat × Nat × Nat × Nat × Nat => True) (fun y => .tuple #[Pt y.1 0, I 0]) (fun y => (sep (c1 a) (sep (c5 c) (sep (c7 d e g l) (sep (cel l [I 1] 3) (sep (c2 h j k) (sep (c0 y.2.1 y.2.2.1) (sep (c3 y.2.2.2.1) (sep (c92 y.1 y.2.2.2.2.1 y.2.2.2.2.2.1 y.2.2.2.2.2.2.1 y.2.1 y.2.2.2.1) (sep (c11 y.2.2.2.2.2.2.2.1) (sep (c11 y.2.2.2.2.2.2.2.2.1) (sep (c11 y.2.2.2.2.2.2.2.2.2.1) (sep (c6 y.2.2.2.2.1 y.2.2.2.2.2.1 y.2.2.2.2.2.2.1 y.2.2.2.2.2.2.2.1 y.2.2.2.2.2.2.2.2.1 y.2.2.2.2.2.2.2.2.2.1) (sep (c14 y.2.2.2.2.2.2.2.2.2.2.1 y.2.2.2.2.2.2.2.2.2.2.2.1 y.2.2.2.2.2.2.2.2.2.2.2.2.1) (sep (c33 y.2.2.2.2.2.2.2.2.2.2.2.2.2) (c41 y.2.2.1 y.2.2.2.2.2.2.2.2.2.2.1 y.2.2.2.2.2.2.2.2.2.2.2.1 y.2.2.2.2.2.2.2.2.2.2.2.2.1 y.2.2.2.2.2.2.2.2.2.2.2.2.2)))))))))))))))) := by
 refine en Tryz.func58 r fun σ F=>sr<|bx r fun b1=>eb r<|nj<|sr<|ls r<|cu (i78 a c d e g h j k l) r<|ec r<|al r fun b2=>so r r<|an r<|sb r<|nf r<|sk<|js ?_
 refine sr<|ec r<|go r<|ea r<|go r<|bf r<|sk<|sa r<|lx r (opx_makeC r) fun r3 _=>lx r (opx_makeC r) fun r4 _=>lv (opv_build r) r<|bx r fun b5=>an r<|js<|sr<|lf 0 r r ?_
 refine an r<|jl<|ut r<|js<|jb<|sr<|cy i80 r fun y6=>ed r<|an r<|js<|sb r<|nf r<|sk<|jg<|ec r<|lf 1 r r ?_
 refine ea r<|lx r (opx_buildSlice1 (m := 1) r r (by decide) (by decide) r) fun b7 _=>lx r (opx_apN (m := 1) (B := 8) 1 r r (Src.lit) r r r (List.all_eq_true.1 r) r r r r) fun z8 _=>ea r<|fa 1 r<|so r r<|ln<|ni (I 1) r<|ut r<|js<|jb<|sr<|cy i80 r fun y9=>ed r<|an r<|js ?_
 refine sb r<|nf r<|sk<|jg<|ec r<|lf 1 r r<|ea r<|lx r (opx_buildSlice1 (m := 1) r r (by decide) (by decide) r) fun b10 _=>lx r (opx_ap (m := 1) (B := 8) 2 r r (Src.lit) r r r (List.all_eq_true.1 r) r r r r) fun z11 _=>ea r<|fa 1 r<|so r r<|ln<|ni (I 2) r<|ut r<|js ?_
 refine jb<|sr<|cy i80 r fun y12=>ed r<|an r<|js<|sb r<|nf r<|sk<|jg<|ec r<|lf 1 r r<|ea r<|lx r (opx_buildSlice1 (m := 1) r r (by decide) (by decide) r) fun b13 _=>lx r (opx_ap (m := 1) (B := 8) 3 r r (Src.lit) r r r (List.all_eq_true.1 r) r r r r) fun z14 _=>ea r ?_
 refine fa 1 r<|so r r<|ln<|ni (I 3) r<|uf r<|kt<|js<|sr<|lf 4 r r<|ll r<|an r<|jl<|ut r<|js<|jb<|sr ?_
 refine ix e r r<|lv (opv_ldOS 0 r r) r<|al r fun b15=>so r r<|nr<|lf 7 r r<|cy (i81 l) r fun y16=>fa 7 r<|so r r<|nj<|J_steps ((sep (c162 b15 y16.1 y16.2.1 y16.2.2) (c40 b1 a c d e g h j k))) (emp) [] Tryz.mixed<|pf 0 3 r r<|pf 2 2 r r<|pf 5 1 r r<|pl 1 r r r<|pl 3 r r r ?_
 refine ps 4 r (opv_loadS r)<|pl 6 r r r<|pn 7 r (opx_call0 (i71 a c d e g h j k l) r r r) fun _ _=>ps 8 r (opv_build r)<|pn 9 r (opx_call0 (i88) r r r) fun y18 _=>pe 10 r r<|pe 11 r r<|pe 12 r r<|pe 13 r r<|pe 14 r r<|dn<|kt<|js<|sb r<|nf r<|sk ?_
 refine J_steps ((sep (c92 b5 z14.1 z14.2.1 z14.2.2 r3 r4) (c162 b15 y16.1 y16.2.1 y16.2.2))) (emp) [] Tryz.mixed<|pe 0 r r<|pe 1 r r<|pf 2 2 r r<|pf 4 0 r r<|pe 7 r r<|pl 3 r r r<|pl 5 r r r<|ps 6 r (opv_loadS r)<|ps 8 r (opv_build r)<|pn 9 r (opx_box r r) fun b20 _=>pn 10 r (opx_putC r r r r) fun _ _=>dn<|ni (I 1) r<|uf r<|kt ?_
 refine sr<|ec r<|nk<|jr ?_
 exact K_rets r (.tmp r (.tmp r (.nil))) (b5, r3, b20, r4, z14.1, z14.2.1, z14.2.2, y6, y9, y12, y16.1, y16.2.1, y16.2.2, y18) trivial r Ent.take
theorem i91 (a c : Nat) : Kp Tryz.prog 156 #[.agg (k1 a).toArray, Pt c 0] (cel c [I 0] 3) (Tt) := by
 refine en Tryz.func156 r fun σ F=>sr<|bx r fun b1=>an r<|sr<|lf 1 r r<|ld r r<|eb r<|nk<|jr<|r1 r Ent.take
theorem i92 : Kp Tryz.prog 232 #[.int .u64 1] (emp) (I 1) := by
 refine en Tryz.func232 r fun σ F=>J_emp<|san r<|js<|sb r<|nf r<|sk<|js<|sb r<|nf r<|sk<|js<|sb r<|nf r<|sk<|sb r ?_
 refine lv (opv_cv (c := U8 1) r r) r<|lv ((opv_indexS r r (by decide)).as (v' := U8 1) (by kernel_rfl)) r<|lv (opv_cv (c := I 1) r r) r<|ib (I 1) r<|an r<|jr<|r1 r Ent.take
theorem i93 : Kp Tryz.prog 204 #[.int .u64 1] (emp) (I 1) := by
 refine en Tryz.func204 r fun σ F=>J_emp<|san r<|js<|cf r<|sk<|sa r<|cu i92 r<|an r<|jr<|r1 r Ent.take
theorem i94 (a c d : Nat) : Kp Tryz.prog 222 #[Sk a c 1 d, I 0, I 1] (emp) (.tuple #[]) := by
 refine en Tryz.func222 r fun σ F=>J_emp<|sa r<|ib (I 1) r<|an r<|jl<|ju<|js<|sr<|ec r<|nf r<|jx<|ke<|ke<|kh<|z0 r Ent.take
theorem i95 (a c d : Nat) : Kp Tryz.prog 203 #[Sk a c 1 d, I 0, I 1, I 1] (emp) (.tuple #[]) := by
 refine en Tryz.func203 r fun σ F=>J_emp<|san r<|san r<|jl<|ju<|jb<|sb r<|ib (I 1) r<|an r<|js<|sb r<|nt r<|sr<|ec r<|cu (i94 a c d) r ?_
 refine nk<|jr<|kd<|kq<|kd<|kq<|r0 r Ent.take
theorem i96 (a d e : Nat) : Kp Tryz.prog 182 #[Sk a d 1 e] (emp) (.tuple #[]) := by
 refine en Tryz.func182 r fun σ F=>J_emp<|sa r<|ll r<|an r<|jg<|ec r<|lv (opv_cv (c := .int .u64 1) r r) r<|cu i93 r<|cu (i95 a d e) r<|ln<|z0 r Ent.take
theorem i97 (a c d : Nat) : Kp Tryz.prog 183 #[Sk a c 1 d] (emp) (Sk a c 1 d) := by
 refine en Tryz.func183 r fun σ F=>J_emp<|san r<|js<|sa r<|ll r<|an r<|ct r<|sb r<|nk<|jr<|kd<|r1 r Ent.take
theorem i98 (a c d e g h j k l o : Nat) : FSpec Tryz.prog 155 #[.agg (k0 a c d e g h j k).toArray, .func (.func 156) #[] #[Pt l 0]] ((sep (c7 d e g o) (cel l [I 0] 3))) (fun _ : Nat × Nat × Nat => True) (fun y => Sk y.1 y.2.1 1 y.2.2) (fun y => (sep (c7 d e g o) (sep (cel l [I 0] 3) (c4 y.1 y.2.1 y.2.2)))) := by
 refine en Tryz.func155 r fun σ F=>sr<|bx r fun b1=>an r<|san r<|js<|sr<|lf 4 r r<|ll r<|an r<|jl<|ut r<|js<|jb<|sr<|ix e r r ?_
 refine lv (opv_ldOS 0 r r) r<|al r fun b2=>so r r<|nr<|ea r<|ls r<|lx r (opx_call (first := []) (captured := [Pt l 0]) (i91 o l) r r r r) fun _ _=>nt r<|jg<|ea r<|lf 0 r r<|lx r (opx_buildSlice1 (m := 1) r r (by decide) (by decide) r) fun b3 _=>lx r (opx_apN (m := 1) (B := 8) 1 r r (Src.lit) r r r (List.all_eq_true.1 r) r r r r) fun z4 _=>ea r<|ln<|ni (I 1) r ?_
 refine uf r<|kt<|sa r<|cu (i96 z4.1 z4.2.1 z4.2.2) r<|nr<|ea r<|cu (i97 z4.1 z4.2.1 z4.2.2) r<|an r<|jr ?_
 exact K_rets r (.tmp r (.nil)) (z4.1, z4.2.1, z4.2.2) trivial r Ent.take
theorem i99 (a c d e g h j k l : Nat) : FSpec Tryz.prog 124 #[.agg (k0 a c d e g h j k).toArray, I 0] (c7 d e g l) (fun _ : Nat × Nat × Nat => True) (fun y => Sk y.1 y.2.1 1 y.2.2) (fun y => (sep (c7 d e g l) (c4 y.1 y.2.1 y.2.2))) := by
 refine en Tryz.func124 r fun σ F=>sr<|bx r fun b1=>bx r fun b2=>an r<|sr<|ls r<|lv (opv_makeFunc r r) r<|cy (i98 a c d e g h j k b2 l) r fun y3=>an r<|jr ?_
 exact K_rets r (.tmp r (.nil)) (y3.1, y3.2.1, y3.2.2) trivial r Ent.take
theorem i100 : FSpec Tryz.prog 125 #[] (emp) (fun _ : Nat => True) (fun y => Pt y 0) (fun y => cel y [Ns, I 0, I 0] 323) := by
 refine en Tryz.func125 r fun σ F=>J_emp<|san r<|sr<|lv (opv_build r) r<|bx r fun b1=>an r<|jr ?_
 exact K_rets r (.tmp r (.nil)) b1 trivial r Ent.take
theorem i101 (a c d e g h j k l : Nat) : FSpec Tryz.prog 126 #[.agg (k0 a c d e g h j k).toArray, I 10] ((sep (c7 d e g l) (cel l [I 1] 3))) (fun _ : Nat × Nat × Nat => True) (fun y => .tuple #[.agg [I 10, I 0, I 0, I 80, Ff, I 2, I 60000, Sk y.1 y.2.1 1 y.2.2].toArray, Tt]) (fun y => (sep (c7 d e g l) (sep (cel l [I 1] 3) (c14 y.1 y.2.1 y.2.2)))) := by
 refine en Tryz.func126 r fun σ F=>sr<|bx r fun b1=>al r fun b2=>an r<|js<|sr<|lf 4 r r<|ll r<|an r<|jl<|ut r<|js<|jb<|sr<|ix e r r ?_
 refine lv (opv_ldOS 0 r r) r<|al r fun b3=>so r r<|nr<|lf 0 r r<|eb r<|nt r<|sr<|lf 7 r r<|cy (i81 l) r fun y4=>fa 7 r<|so r r<|nr<|ls r<|so r r<|an r ?_
 refine jr<|kq<|kd<|kd<|kq<|kd ?_
 exact K_rets r (.agg r r (.tmp r (.nil))) (y4.1, y4.2.1, y4.2.2) trivial r Ent.take
theorem i102 : FSpec Tryz.prog 127 #[I 2, I 1024] (emp) (fun _ : Nat => True) (fun y => .tuple #[Pt y 0, I 0]) (fun y => cel y k28 326) := by
 refine en Tryz.func127 r fun σ F=>J_emp<|sb r<|nj<|sr<|ec r<|go r<|ea r<|go r<|ec r<|go r<|ea r<|go r<|ec r<|go r<|ea r ?_
 refine go r<|bf r<|sk<|sb r<|lv (opv_build r) r<|bx r fun b1=>eb r<|nk<|jr ?_
 exact K_rets r (.tmp r (.tmp r (.nil))) b1 trivial r Ent.take
theorem i103 (a c d e g h j k l : Nat) : FSpec Tryz.prog 96 #[.agg (k0 a c d e g h j k).toArray, I 0] ((sep (c1 a) (sep (c5 c) (sep (c7 d e g l) (sep (cel l [I 1] 3) (c2 h j k)))))) (fun _ : Nat × Nat × Nat × Nat × Nat × Nat × Nat × Nat × Nat × Nat × Nat × Nat × Nat => True) (fun y => .tuple #[Pt y.1 0, I 0]) (fun y => (sep (c1 a) (sep (c5 c) (sep (c7 d e g l) (sep (cel l [I 1] 3) (sep (c2 h j k) (sep (c0 y.2.1 y.2.2.1) (sep (c4 y.2.2.2.1 y.2.2.2.2.1 y.2.2.2.2.2.1) (sep (c15 y.2.2.2.2.2.2.1) (sep (c3 y.2.2.2.2.2.2.2.1) (sep (c93 y.1 a c d e g h j k y.2.1 y.2.2.2.1 y.2.2.2.2.1 y.2.2.2.2.2.1 y.2.2.2.2.2.2.1 y.2.2.2.2.2.2.2.1) (sep (c14 y.2.2.2.2.2.2.2.2.1 y.2.2.2.2.2.2.2.2.2.1 y.2.2.2.2.2.2.2.2.2.2.1) (sep (c68 y.2.2.1 y.2.2.2.2.2.2.2.2.1 y.2.2.2.2.2.2.2.2.2.1 y.2.2.2.2.2.2.2.2.2.2.1 y.2.2.2.2.2.2.2.2.2.2.2.1 y.2.2.2.2.2.2.2.2.2.2.2.2) (sep (c60 y.2.2.2.2.2.2.2.2.2.2.2.1) (c53 y.2.2.2.2.2.2.2.2.2.2.2.2))))))))))))))) := by
 refine en Tryz.func96 r fun σ F=>sr<|bx r fun b1=>eb r<|nj<|sr<|ls r<|cu (i78 a c d e g h j k l) r<|ec r<|al r fun b2=>so r r<|an r<|sb r<|nf r<|sk<|js ?_
 refine sr<|ec r<|go r<|ea r<|go r<|fa 0 r<|go r<|ld r r<|go r<|bf r<|sk ?_
 refine J_cut (X := Nat × Nat × Nat × Nat × Nat × Nat × Nat) (fun x59 => [(0, .agg (k0 a c d e g h j k).toArray), (1, I 0), (2, Pt b1 0), (4, Np), (5, I 0), (16, .agg (k0 a c d e g h j k).toArray), (17, .tuple #[.agg [I 0, I 0].toArray, I 0]), (15, .tuple #[.agg [I 0, I 0].toArray, I 0]), (18, .agg [I 0, I 0].toArray), (19, I 0), (6, Pt b2 0), (7, I 0), (20, I 0), (21, Ff), (23, I 0), (24, Ff), (25, Ff), (26, I 0), (27, Pt b1 0), (28, I 3), (29, Ff), (30, Ff), (32, I 0), (35, I 0), (31, .agg (k0 a c d e g h j k).toArray), (34, .agg (k0 a c d e g h j k).toArray), (33, Mp x59.1), (36, Sk x59.2.1 x59.2.2.1 1 x59.2.2.2.1), (37, Pt x59.2.2.2.2.1 0), (38, Mp x59.2.2.2.2.2.1), (39, .agg [I 3, Sk a 0 3 3, I 1000, Sk c 0 3 3, Sk d e 1 g, Sk h j 4 k, I 0, Mp x59.1, Sk x59.2.1 x59.2.2.1 1 x59.2.2.2.1, Pt x59.2.2.2.2.1 0, I 0, I 0, Mp x59.2.2.2.2.2.1, I 0, Ns].toArray), (40, Pt x59.2.2.2.2.2.2 0), (8, Pt x59.2.2.2.2.2.2 0)]) (fun x59 => (sep (c40 b1 a c d e g h j k) (sep (c1 a) (sep (c5 c) (sep (cel l [I 1] 3) (sep (c2 h j k) (sep (cel b2 [I 0, I 0] 132) (sep (c3 x59.1) (sep (c7 d e g l) (sep (c4 x59.2.1 x59.2.2.1 x59.2.2.2.1) (sep (c15 x59.2.2.2.2.1) (sep (c3 x59.2.2.2.2.2.1) (sep (c93 x59.2.2.2.2.2.2 a c d e g h j k x59.1 x59.2.1 x59.2.2.1 x59.2.2.2.1 x59.2.2.2.2.1 x59.2.2.2.2.2.1) (F)))))))))))))) (fun _ => True) ?_ (fun x59 _ => ?_)
 · refine J_steps (c40 b1 a c d e g h j k) (emp) [] Tryz.mixed<|pe 1 r r<|pe 4 r r<|ps 0 r (opv_loadS r)<|ps 3 r (opv_loadS r) ?_
   refine R_a [2, 5, 7] (by kernel_rfl) rfl fun i hi => ?_
   simp only [List.mem_cons, List.not_mem_nil, or_false] at hi
   rcases hi with rfl | rfl | rfl
   · refine R_an r r (opx_makeC r) fun r13 _=>?_
     refine R_a [5, 7] (by kernel_rfl) rfl fun i hi => ?_
     simp only [List.mem_cons, List.not_mem_nil, or_false] at hi
     rcases hi with rfl | rfl
     · refine R_an r r (opx_call0 (i99 a c d e g h j k l) r r r) fun y14 _=>?_
       refine R_a [6, 7] (by kernel_rfl) rfl fun i hi => ?_
       simp only [List.mem_cons, List.not_mem_nil, or_false] at hi
       rcases hi with rfl | rfl
       · refine R_an r r (opx_call0 (i100) r r r) fun y15 _=>pn 7 r (opx_makeC r) fun r16 _=>ps 8 r (opv_build r)<|pn 9 r (opx_box r r) fun b17 _=>pe 10 r r<|dn<|kc (r13, y14.1, y14.2.1, y14.2.2, y15, r16, b17) r Ent.take
       · refine R_an r r (opx_makeC r) fun r18 _=>pn 6 r (opx_call0 (i100) r r r) fun y19 _=>ps 8 r (opv_build r)<|pn 9 r (opx_box r r) fun b20 _=>pe 10 r r<|dn<|kc (r13, y14.1, y14.2.1, y14.2.2, y19, r18, b20) r Ent.take
     · refine R_an r r (opx_makeC r) fun r21 _=>pn 5 r (opx_call0 (i99 a c d e g h j k l) r r r) fun y22 _=>pn 6 r (opx_call0 (i100) r r r) fun y23 _=>ps 8 r (opv_build r)<|pn 9 r (opx_box r r) fun b24 _=>pe 10 r r<|dn<|kc (r13, y22.1, y22.2.1, y22.2.2, y23, r21, b24) r Ent.take
   · refine R_an r r (opx_call0 (i99 a c d e g h j k l) r r r) fun y25 _=>?_
     refine R_a [2, 6, 7] (by kernel_rfl) rfl fun i hi => ?_
     simp only [List.mem_cons, List.not_mem_nil, or_false] at hi
     rcases hi with rfl | rfl | rfl
     · refine R_an r r (opx_makeC r) fun r26 _=>?_
       refine R_a [6, 7] (by kernel_rfl) rfl fun i hi => ?_
       simp only [List.mem_cons, List.not_mem_nil, or_false] at hi
       rcases hi with rfl | rfl
       · refine R_an r r (opx_call0 (i100) r r r) fun y27 _=>pn 7 r (opx_makeC r) fun r28 _=>ps 8 r (opv_build r)<|pn 9 r (opx_box r r) fun b29 _=>pe 10 r r<|dn<|kc (r26, y25.1, y25.2.1, y25.2.2, y27, r28, b29) r Ent.take
       · refine R_an r r (opx_makeC r) fun r30 _=>pn 6 r (opx_call0 (i100) r r r) fun y31 _=>ps 8 r (opv_build r)<|pn 9 r (opx_box r r) fun b32 _=>pe 10 r r<|dn<|kc (r26, y25.1, y25.2.1, y25.2.2, y31, r30, b32) r Ent.take
     · refine R_an r r (opx_call0 (i100) r r r) fun y33 _=>?_
       refine R_a [2, 7] (by kernel_rfl) rfl fun i hi => ?_
       simp only [List.mem_cons, List.not_mem_nil, or_false] at hi
       rcases hi with rfl | rfl
       · refine R_an r r (opx_makeC r) fun r34 _=>pn 7 r (opx_makeC r) fun r35 _=>ps 8 r (opv_build r)<|pn 9 r (opx_box r r) fun b36 _=>pe 10 r r<|dn<|kc (r34, y25.1, y25.2.1, y25.2.2, y33, r35, b36) r Ent.take
       · refine R_an r r (opx_makeC r) fun r37 _=>pn 2 r (opx_makeC r) fun r38 _=>ps 8 r (opv_build r)<|pn 9 r (opx_box r r) fun b39 _=>pe 10 r r<|dn<|kc (r38, y25.1, y25.2.1, y25.2.2, y33, r37, b39) r Ent.take
     · refine R_an r r (opx_makeC r) fun r40 _=>?_
       refine R_a [2, 6] (by kernel_rfl) rfl fun i hi => ?_
       simp only [List.mem_cons, List.not_mem_nil, or_false] at hi
       rcases hi with rfl | rfl
       · refine R_an r r (opx_makeC r) fun r41 _=>pn 6 r (opx_call0 (i100) r r r) fun y42 _=>ps 8 r (opv_build r)<|pn 9 r (opx_box r r) fun b43 _=>pe 10 r r<|dn<|kc (r41, y25.1, y25.2.1, y25.2.2, y42, r40, b43) r Ent.take
       · refine R_an r r (opx_call0 (i100) r r r) fun y44 _=>pn 2 r (opx_makeC r) fun r45 _=>ps 8 r (opv_build r)<|pn 9 r (opx_box r r) fun b46 _=>pe 10 r r<|dn<|kc (r45, y25.1, y25.2.1, y25.2.2, y44, r40, b46) r Ent.take
   · refine R_an r r (opx_makeC r) fun r47 _=>?_
     refine R_a [2, 5] (by kernel_rfl) rfl fun i hi => ?_
     simp only [List.mem_cons, List.not_mem_nil, or_false] at hi
     rcases hi with rfl | rfl
     · refine R_an r r (opx_makeC r) fun r48 _=>pn 5 r (opx_call0 (i99 a c d e g h j k l) r r r) fun y49 _=>pn 6 r (opx_call0 (i100) r r r) fun y50 _=>ps 8 r (opv_build r)<|pn 9 r (opx_box r r) fun b51 _=>pe 10 r r<|dn<|kc (r48, y49.1, y49.2.1, y49.2.2, y50, r47, b51) r Ent.take
     · refine R_an r r (opx_call0 (i99 a c d e g h j k l) r r r) fun y52 _=>?_
       refine R_a [2, 6] (by kernel_rfl) rfl fun i hi => ?_
       simp only [List.mem_cons, List.not_mem_nil, or_false] at hi
       rcases hi with rfl | rfl
       · refine R_an r r (opx_makeC r) fun r53 _=>pn 6 r (opx_call0 (i100) r r r) fun y54 _=>ps 8 r (opv_build r)<|pn 9 r (opx_box r r) fun b55 _=>pe 10 r r<|dn<|kc (r53, y52.1, y52.2.1, y52.2.2, y54, r47, b55) r Ent.take
       · refine R_an r r (opx_call0 (i100) r r r) fun y56 _=>pn 2 r (opx_makeC r) fun r57 _=>ps 8 r (opv_build r)<|pn 9 r (opx_box r r) fun b58 _=>pe 10 r r<|dn<|kc (r57, y52.1, y52.2.1, y52.2.2, y56, r47, b58) r Ent.take
 · refine js<|sb r<|lf 8 r r<|ll r<|an r<|jl<|ut r<|js<|jb<|sr<|ix x59.2.2.1 r r<|lv (opv_ldO 0 r r r) r<|an r<|sr<|ls r<|ea r ?_
   refine cy (i101 a c d e g h j k l) r fun y60=>ec r<|al r fun b61=>so r r<|an r<|sr<|ls r<|lv (opv_build r) r<|bx r fun b62=>an r<|san r<|js<|sa r<|lf 5 r r<|cy i102 r fun y63=>ed r ?_
   refine fa 8 r<|so r r<|an r<|sb r<|nf r<|sk<|js<|sa r<|lf 2 r r<|cy i84 r fun y64=>ed r<|fa 9 r<|so r r<|an r<|sb r<|nf r ?_
   refine sk<|jg<|eb r<|lf 7 r r<|eb r<|lx r (opx_putC r r r r) fun _ _=>ln<|ni (I 1) r<|uf r<|kt<|sr<|ec r<|nk<|jr ?_
   exact K_rets r (.tmp r (.tmp r (.nil))) (x59.2.2.2.2.2.2, x59.1, b62, x59.2.1, x59.2.2.1, x59.2.2.2.1, x59.2.2.2.2.1, x59.2.2.2.2.2.1, y60.1, y60.2.1, y60.2.2, y63, y64) trivial r Ent.take
theorem i104 : FSpec Tryz.prog 10 #[I 64, I 1099511627776] (emp) (fun _ : Nat × Nat => True) (fun y => .tuple #[Pt y.1 0, I 0]) (fun y => (sep (mapq y.2 [.int .u8, .int .u8, .int .u8, .int .u8, .int .u8, .int .u8, .int .u8, .int .u8, .int .i64, .int .i64] (fun _ => none)) (c34 y.1 y.2))) := by
 refine en Tryz.func10 r fun σ F=>J_emp<|sb r<|nj<|sr<|ec r<|go r<|ea r<|go r<|ec r<|go r<|ea r<|go r<|ec r<|go r<|ea r ?_
 refine go r<|bf r<|sk<|sr<|lx r (opx_makeMapq [.int .u8, .int .u8, .int .u8, .int .u8, .int .u8, .int .u8, .int .u8, .int .u8, .int .i64, .int .i64] r) fun r1 _=>eb r<|lv (opv_build r) r<|bx r fun b2=>eb r<|nk<|jr ?_
 exact K_rets r (.tmp r (.tmp r (.nil))) (b2, r1) trivial r Ent.take
theorem i105 (a c : Nat) : Kp Tryz.prog 49 #[Pt a 0, I 0] (c34 a c) (I 0) := by
 refine en Tryz.func49 r fun σ F=>san r<|js<|jb<|sa r<|ep false r<|an r<|cf r<|sr<|ec r<|nf r<|sr<|ec r<|lf 4 r r<|bf r<|skb ?_
 refine sr<|ec r<|fa 4 r<|so r r<|nj<|jl<|ju<|js<|js<|J_quiet Tryz.mixed (by kernel_rfl)<|qb r<|qf 1 r<|ql r r<|qv (opv_lenL r) r<|qb r<|qs r ?_
 refine qs r<|qs r<|qs r<|qs r<|qs r<|qs r<|qs r<|qs r<|qs r<|qs r<|qs r<|qs r<|qs r<|qs r<|qs r<|qs r ?_
 refine qs r<|qs r<|qs r<|qs r<|qa r<|qn<|kt<|cf r<|jx<|ke<|ke<|kh<|kt<|san r<|jr<|r1 r Ent.take
theorem i106 : FSpec Tryz.prog 129 #[I 0] (emp) (fun _ : Nat × Nat => True) (fun y => .tuple #[Pt y.1 0, I 0]) (fun y => (sep (mapq y.2 [.int .u8, .int .u8, .int .u8, .int .u8, .int .u8, .int .u8, .int .u8, .int .u8, .int .i64, .int .i64] (fun _ => none)) (c34 y.1 y.2))) := by
 refine en Tryz.func129 r fun σ F=>J_emp<|sb r<|nr<|cy i104 r fun y1=>ed r<|an r<|js<|sb r<|nf r<|sk<|sr<|ec r<|cu (i105 y1.1 y1.2) r<|eb r<|nk ?_
 refine jr ?_
 exact K_rets r (.tmp r (.tmp r (.nil))) (y1.1, y1.2) trivial r Ent.take
theorem i107 (a : Nat) : Kp Tryz.prog 180 #[Sk a 0 1 1, I 0] (cel a [I 1] 3) (I (-1)) := by
 refine en Tryz.func180 r fun σ F=>san r<|js<|sa r<|ll r<|an r<|jl<|ut r<|js<|jb<|sb r<|nr<|ec r<|ix 0 r r<|ld r r<|an r ?_
 refine cf r<|jk<|ni (I 1) r<|uf r<|kt<|san r<|jr<|r1 r Ent.take
theorem i108 (a : Nat) : Kp Tryz.prog 152 #[Sk a 0 1 1, I 0] (cel a [I 1] 3) (Ff) := by
 refine en Tryz.func152 r fun σ F=>san r<|sb r<|cu (i107 a) r<|eb r<|nk<|jr<|r1 r Ent.take
theorem i109 (a c : Nat) : Kp Tryz.prog 158 #[.agg (k1 a).toArray, Pt c 0] ((sep (cel c [I 0] 3) (cel a [I 1] 3))) (Ff) := by
 refine en Tryz.func158 r fun σ F=>sr<|bx r fun b1=>an r<|sr<|lf 7 r r<|ld r r<|cu (i108 a) r<|an r<|jr<|r1 r Ent.take
theorem i110 : Kp Tryz.prog 232 #[.int .u64 0] (emp) (I 0) := by
 refine en Tryz.func232 r fun σ F=>J_emp<|san r<|js<|sb r<|nf r<|sk<|js<|sb r<|nf r<|sk<|js<|sb r<|nf r<|sk<|sb r ?_
 refine lv (opv_cv (c := U8 0) r r) r<|lv ((opv_indexS r r (by decide)).as (v' := U8 0) (by kernel_rfl)) r<|lv (opv_cv (c := I 0) r r) r<|ib (I 0) r<|an r<|jr<|r1 r Ent.take
theorem i111 : Kp Tryz.prog 204 #[.int .u64 0] (emp) (I 0) := by
 refine en Tryz.func204 r fun σ F=>J_emp<|san r<|js<|cf r<|sk<|sa r<|cu i110 r<|an r<|jr<|r1 r Ent.take
theorem i112 : Kp Tryz.prog 222 #[Ns, I 0, I 0] (emp) (.tuple #[]) := by
 refine en Tryz.func222 r fun σ F=>J_emp<|sa r<|ib (I 1) r<|an r<|jl<|ju<|js<|sr<|ec r<|nf r<|jx<|ke<|ke<|kh<|z0 r Ent.take
theorem i113 : Kp Tryz.prog 203 #[Ns, I 0, I 0, I 0] (emp) (.tuple #[]) := by
 refine en Tryz.func203 r fun σ F=>J_emp<|san r<|san r<|jl<|ju<|jb<|sb r<|ib (I 0) r<|an r<|js<|sb r<|nt r<|sr<|ec r<|cu i112 r ?_
 refine nk<|jr<|kd<|kq<|kd<|kq<|r0 r Ent.take
theorem i114 : Kp Tryz.prog 182 #[Ns] (emp) (.tuple #[]) := by
 refine en Tryz.func182 r fun σ F=>J_emp<|sa r<|ll r<|an r<|jg<|ec r<|lv (opv_cv (c := .int .u64 0) r r) r<|cu i111 r<|cu i113 r<|ln<|z0 r Ent.take
theorem i115 : Kp Tryz.prog 183 #[Ns] (emp) (Ns) := by
 refine en Tryz.func183 r fun σ F=>J_emp<|san r<|js<|sa r<|ll r<|an r<|ct r<|sb r<|nk<|jr<|kd<|r1 r Ent.take
theorem i116 (a c d e g h j k l m : Nat) : Kp Tryz.prog 155 #[.agg (k0 a c d e g h j k).toArray, .func (.func 158) #[] #[Pt l 0]] ((sep (c7 d e g m) (sep (cel l [I 0] 3) (cel m [I 1] 3)))) (Ns) := by
 refine en Tryz.func155 r fun σ F=>sr<|bx r fun b1=>an r<|san r<|js<|sr<|lf 4 r r<|ll r<|an r<|jl<|ut r<|js<|jb<|sr<|ix e r r ?_
 refine lv (opv_ldOS 0 r r) r<|al r fun b2=>so r r<|nr<|ea r<|ls r<|lx r (opx_call (first := []) (captured := [Pt l 0]) (i109 m l) r r r r) fun _ _=>nf r<|jk<|ni (I 1) r<|uf r<|kt<|sa r<|cu i114 r<|nr<|ea r<|cu i115 r ?_
 refine an r<|jr<|r1 r Ent.take
theorem i117 (a c d e g h j k l : Nat) : Kp Tryz.prog 130 #[.agg (k0 a c d e g h j k).toArray, I 0] ((sep (c7 d e g l) (cel l [I 1] 3))) (Ns) := by
 refine en Tryz.func130 r fun σ F=>sr<|bx r fun b1=>bx r fun b2=>an r<|sr<|ls r<|lv (opv_makeFunc r r) r<|cu (i116 a c d e g h j k b2 l) r<|an r<|jr<|r1 r Ent.take
theorem i118 (a c d e g h j k l : Nat) : FSpec Tryz.prog 97 #[.agg (k0 a c d e g h j k).toArray, I 0] ((sep (c1 a) (sep (c5 c) (sep (c7 d e g l) (sep (cel l [I 1] 3) (c2 h j k)))))) (fun _ : Nat × Nat × Nat × Nat × Nat => True) (fun y => .tuple #[Pt y.1 0, I 0]) (fun y => (sep (c1 a) (sep (c5 c) (sep (c7 d e g l) (sep (cel l [I 1] 3) (sep (c2 h j k) (sep (mapq y.2.1 [.int .u8, .int .u8, .int .u8, .int .u8, .int .u8, .int .u8, .int .u8, .int .u8, .int .i64, .int .i64] (fun _ => none)) (sep (c34 y.2.2.1 y.2.1) (sep (c3 y.2.2.2.1) (sep (c3 y.2.2.2.2) (c173 y.1 a c d e g h j k y.2.2.2.1 y.2.2.1 y.2.2.2.2))))))))))) := by
 refine en Tryz.func97 r fun σ F=>sr<|bx r fun b1=>eb r<|nj<|sr<|ls r<|cu (i78 a c d e g h j k l) r<|ec r<|al r fun b2=>so r r<|an r<|sb r<|nf r<|sk<|js ?_
 refine sr<|ec r<|go r<|ea r<|go r<|fa 0 r<|go r<|ld r r<|go r<|bf r<|sk<|sr<|cy i106 r fun y3=>ed r<|an r<|js ?_
 refine sb r<|nf r<|sk<|sr<|ls r<|ea r<|lx r (opx_makeC r) fun r4 _=>ea r<|lx r (opx_makeC r) fun r5 _=>lv (opv_build r) r<|bx r fun b6=>an r<|js<|sr<|ls r<|ea r ?_
 refine cu (i117 a c d e g h j k l) r<|ll r<|an r<|jl<|uf r<|kt<|sr<|ec r<|nk<|jr ?_
 exact K_rets r (.tmp r (.tmp r (.nil))) (b6, y3.2, y3.1, r4, r5) trivial r Ent.take
theorem i119 (a c d e g h j k l : Nat) : FSpec Tryz.prog 98 #[.agg (k0 a c d e g h j k).toArray, I 0] ((sep (c1 a) (sep (c5 c) (sep (c7 d e g l) (sep (cel l [I 1] 3) (c2 h j k)))))) (fun _ : Nat × Nat => True) (fun y => .tuple #[Pt y.1 0, I 0]) (fun y => (sep (c1 a) (sep (c5 c) (sep (c7 d e g l) (sep (cel l [I 1] 3) (sep (c2 h j k) (sep (c3 y.2) (c19 y.1 y.2)))))))) := by
 refine en Tryz.func98 r fun σ F=>sr<|bx r fun b1=>eb r<|nj<|sr<|ls r<|cu (i78 a c d e g h j k l) r<|ec r<|al r fun b2=>so r r<|an r<|sb r<|nf r<|sk<|js ?_
 refine sr<|ec r<|go r<|ea r<|go r<|fa 0 r<|go r<|ld r r<|go r<|bf r<|sk<|sr<|lx r (opx_makeC r) fun r3 _=>lv (opv_build r) r<|bx r fun b4=>an r ?_
 refine js<|sr<|lf 5 r r<|ll r<|an r<|jl<|ut r<|js<|jb<|sr<|ix j r r<|lv (opv_ldOS 0 r r) r<|al r fun b5=>so r r<|nr<|lf 1 r r ?_
 refine ec r<|go r<|fa 4 r<|go r<|ld r r<|go r<|bf r<|jk<|ni (I 1) r<|ut r<|js<|jb<|sr<|ix (j + 11) r r<|lv (opv_ldOS 11 r r) r<|al r fun b6=>so r r ?_
 refine nr<|lf 1 r r<|ec r<|gs r<|gs r<|gs r<|an r<|cf r<|jk<|ni (I 2) r<|ut r<|js<|jb<|sr<|ix (j + 22) r r<|lv (opv_ldOS 22 r r) r<|al r fun b7=>?_
 refine so r r<|nr<|lf 1 r r<|ec r<|go r<|fa 4 r<|go r<|ld r r<|go r<|bf r<|jk<|ni (I 3) r<|ut r<|js<|jb<|sr<|ix (j + 33) r r ?_
 refine lv (opv_ldOS 33 r r) r<|al r fun b8=>so r r<|nr<|lf 1 r r<|ec r<|gs r<|gs r<|gs r<|an r<|cf r<|jk<|ni (I 4) r<|uf r<|kt<|sr<|ec r ?_
 refine nk<|jr ?_
 exact K_rets r (.tmp r (.tmp r (.nil))) (b4, r3) trivial r Ent.take
theorem i120 (a c d e g h j k l : Nat) : FSpec Tryz.prog 59 #[.agg (k0 a c d e g h j k).toArray, I 0] ((sep (c1 a) (sep (c5 c) (sep (c7 d e g l) (sep (cel l [I 1] 3) (c2 h j k)))))) (fun _ : Nat × Nat × Nat × Nat × Nat × Nat × Nat × Nat × Nat × Nat × Nat × Nat × Nat × Nat × Nat × Nat × Nat × Nat × Nat × Nat × Nat × Nat => True) (fun y => .tuple #[Pt y.1 0, I 0]) (fun y => (sep (c1 a) (sep (c5 c) (sep (c7 d e g l) (sep (cel l [I 1] 3) (sep (c2 h j k) (sep (c23 y.2.1) (sep (c135 y.1 a c d e g h j k y.2.2.1 y.2.2.2.1 y.2.2.2.2.1 y.2.1) (sep (c0 y.2.2.2.2.2.1 y.2.2.2.2.2.2.1) (sep (c4 y.2.2.2.2.2.2.2.1 y.2.2.2.2.2.2.2.2.1 y.2.2.2.2.2.2.2.2.2.1) (sep (c15 y.2.2.2.2.2.2.2.2.2.2.1) (sep (c3 y.2.2.2.2.2.2.2.2.2.2.2.1) (sep (c93 y.2.2.1 a c d e g h j k y.2.2.2.2.2.1 y.2.2.2.2.2.2.2.1 y.2.2.2.2.2.2.2.2.1 y.2.2.2.2.2.2.2.2.2.1 y.2.2.2.2.2.2.2.2.2.2.1 y.2.2.2.2.2.2.2.2.2.2.2.1) (sep (c14 y.2.2.2.2.2.2.2.2.2.2.2.2.1 y.2.2.2.2.2.2.2.2.2.2.2.2.2.1 y.2.2.2.2.2.2.2.2.2.2.2.2.2.2.1) (sep (c68 y.2.2.2.2.2.2.1 y.2.2.2.2.2.2.2.2.2.2.2.2.1 y.2.2.2.2.2.2.2.2.2.2.2.2.2.1 y.2.2.2.2.2.2.2.2.2.2.2.2.2.2.1 y.2.2.2.2.2.2.2.2.2.2.2.2.2.2.2.1 y.2.2.2.2.2.2.2.2.2.2.2.2.2.2.2.2.1) (sep (c60 y.2.2.2.2.2.2.2.2.2.2.2.2.2.2.2.1) (sep (c53 y.2.2.2.2.2.2.2.2.2.2.2.2.2.2.2.2.1) (sep (mapq y.2.2.2.2.2.2.2.2.2.2.2.2.2.2.2.2.2.1 [.int .u8, .int .u8, .int .u8, .int .u8, .int .u8, .int .u8, .int .u8, .int .u8, .int .i64, .int .i64] (fun _ => none)) (sep (c34 y.2.2.2.2.2.2.2.2.2.2.2.2.2.2.2.2.2.2.1 y.2.2.2.2.2.2.2.2.2.2.2.2.2.2.2.2.2.1) (sep (c3 y.2.2.2.2.2.2.2.2.2.2.2.2.2.2.2.2.2.2.2.1) (sep (c3 y.2.2.2.2.2.2.2.2.2.2.2.2.2.2.2.2.2.2.2.2.1) (sep (c173 y.2.2.2.1 a c d e g h j k y.2.2.2.2.2.2.2.2.2.2.2.2.2.2.2.2.2.2.2.1 y.2.2.2.2.2.2.2.2.2.2.2.2.2.2.2.2.2.2.1 y.2.2.2.2.2.2.2.2.2.2.2.2.2.2.2.2.2.2.2.2.1) (sep (c3 y.2.2.2.2.2.2.2.2.2.2.2.2.2.2.2.2.2.2.2.2.2) (c19 y.2.2.2.2.1 y.2.2.2.2.2.2.2.2.2.2.2.2.2.2.2.2.2.2.2.2.2)))))))))))))))))))))))) := by
 refine en Tryz.func59 r fun σ F=>sr<|bx r fun b1=>eb r<|nr<|ls r<|ea r<|lx r (opx_makeC r) fun r2 _=>lv (opv_build r) r<|bx r fun b3=>an r<|san r<|js<|sa r<|ls r<|ea r ?_
 refine cy (i103 a c d e g h j k l) r fun y4=>ed r<|fa 7 r<|so r r<|an r<|sb r<|nf r<|sk<|js<|sa r<|ls r<|ea r<|cy (i118 a c d e g h j k l) r fun y5=>ed r<|fa 8 r<|so r r ?_
 refine an r<|sb r<|nf r<|sk<|js<|sa r<|ls r<|ea r<|cy (i119 a c d e g h j k l) r fun y6=>ed r<|fa 9 r<|so r r<|an r<|sb r<|nf r<|sk ?_
 refine js<|sr<|lf 1 r r<|ll r<|an r<|jl<|ut r<|js<|jb<|sa r<|ix 0 r r<|ld r r<|eb r<|nr<|ec r<|nt r ?_
 refine jg<|eb r<|lf 10 r r<|ea r<|lx r (opx_putC r r r r) fun _ _=>ln<|ni (I 1) r<|ut r<|js<|jb<|sa r<|ix 1 r r<|ld r r<|eb r<|nr<|ec r ?_
 refine nf r<|jk<|ni (I 2) r<|ut r<|js<|jb<|sa r<|ix 2 r r<|ld r r<|eb r<|nr<|ec r<|nf r<|jk<|ni (I 3) r<|uf r<|kt<|sr ?_
 refine ec r<|nk<|jr ?_
 exact K_rets r (.tmp r (.tmp r (.nil))) (b3, r2, y4.1, y5.1, y6.1, y4.2.1, y4.2.2.1, y4.2.2.2.1, y4.2.2.2.2.1, y4.2.2.2.2.2.1, y4.2.2.2.2.2.2.1, y4.2.2.2.2.2.2.2.1, y4.2.2.2.2.2.2.2.2.1, y4.2.2.2.2.2.2.2.2.2.1, y4.2.2.2.2.2.2.2.2.2.2.1, y4.2.2.2.2.2.2.2.2.2.2.2.1, y4.2.2.2.2.2.2.2.2.2.2.2.2, y5.2.1, y5.2.2.1, y5.2.2.2.1, y5.2.2.2.2, y6.2) trivial r Ent.take
theorem i121 (a c : Nat) : Kp Tryz.prog 156 #[.agg (k1 a).toArray, Pt c 0] (cel c [I 1] 3) (Ff) := by
 refine en Tryz.func156 r fun σ F=>sr<|bx r fun b1=>an r<|sr<|lf 1 r r<|ld r r<|eb r<|nk<|jr<|r1 r Ent.take
theorem i122 (a c d e g h j k l m : Nat) : Kp Tryz.prog 155 #[.agg (k0 a c d e g h j k).toArray, .func (.func 156) #[] #[Pt l 0]] ((sep (c7 d e g m) (cel l [I 1] 3))) (Ns) := by
 refine en Tryz.func155 r fun σ F=>sr<|bx r fun b1=>an r<|san r<|js<|sr<|lf 4 r r<|ll r<|an r<|jl<|ut r<|js<|jb<|sr<|ix e r r ?_
 refine lv (opv_ldOS 0 r r) r<|al r fun b2=>so r r<|nr<|ea r<|ls r<|lx r (opx_call (first := []) (captured := [Pt l 0]) (i121 m l) r r r r) fun _ _=>nf r<|jk<|ni (I 1) r<|uf r<|kt<|sa r<|cu i114 r<|nr<|ea r<|cu i115 r ?_
 refine an r<|jr<|r1 r Ent.take
theorem i123 (a c d e g h j k l : Nat) : Kp Tryz.prog 124 #[.agg (k0 a c d e g h j k).toArray, I 1] (c7 d e g l) (Ns) := by
 refine en Tryz.func124 r fun σ F=>sr<|bx r fun b1=>bx r fun b2=>an r<|sr<|ls r<|lv (opv_makeFunc r r) r<|cu (i122 a c d e g h j k b2 l) r<|an r<|jr<|r1 r Ent.take
theorem i124 (a c d e g h j k l : Nat) : FSpec Tryz.prog 96 #[.agg (k0 a c d e g h j k).toArray, I 1] ((sep (c1 a) (sep (c5 c) (sep (c7 d e g l) (sep (cel l [I 1] 3) (c2 h j k)))))) (fun _ : Nat × Nat × Nat × Nat => True) (fun y => .tuple #[Pt y.1 0, I 0]) (fun y => (sep (c1 a) (sep (c5 c) (sep (c7 d e g l) (sep (cel l [I 1] 3) (sep (c2 h j k) (sep (c3 y.2.1) (sep (c15 y.2.2.1) (sep (c3 y.2.2.2) (c69 y.1 a c d e g h j k y.2.1 y.2.2.1 y.2.2.2)))))))))) := by
 refine en Tryz.func96 r fun σ F=>sr<|bx r fun b1=>eb r<|nj<|sr<|ls r<|cu (i78 a c d e g h j k l) r<|ec r<|al r fun b2=>so r r<|an r<|sb r<|nf r<|sk<|js ?_
 refine sr<|ec r<|go r<|ea r<|go r<|fa 0 r<|go r<|ld r r<|go r<|bf r<|sk ?_
 refine J_cut (X := Nat × Nat × Nat × Nat) (fun x52 => [(0, .agg (k0 a c d e g h j k).toArray), (1, I 1), (2, Pt b1 0), (4, Np), (5, I 0), (16, .agg (k0 a c d e g h j k).toArray), (17, .tuple #[.agg [I 0, I 0].toArray, I 0]), (15, .tuple #[.agg [I 0, I 0].toArray, I 0]), (18, .agg [I 0, I 0].toArray), (19, I 0), (6, Pt b2 0), (7, I 0), (20, I 0), (21, Ff), (23, I 1), (24, Ff), (25, Ff), (26, I 1), (27, Pt b1 0), (28, I 3), (29, Ff), (30, Ff), (32, I 1), (35, I 1), (31, .agg (k0 a c d e g h j k).toArray), (34, .agg (k0 a c d e g h j k).toArray), (33, Mp x52.1), (36, Ns), (37, Pt x52.2.1 0), (38, Mp x52.2.2.1), (39, .agg [I 3, Sk a 0 3 3, I 1000, Sk c 0 3 3, Sk d e 1 g, Sk h j 4 k, I 1, Mp x52.1, Ns, Pt x52.2.1 0, I 0, I 0, Mp x52.2.2.1, I 0, Ns].toArray), (40, Pt x52.2.2.2 0), (8, Pt x52.2.2.2 0)]) (fun x52 => (sep (c40 b1 a c d e g h j k) (sep (c1 a) (sep (c5 c) (sep (cel l [I 1] 3) (sep (c2 h j k) (sep (cel b2 [I 0, I 0] 132) (sep (c3 x52.1) (sep (c7 d e g l) (sep (c15 x52.2.1) (sep (c3 x52.2.2.1) (sep (c69 x52.2.2.2 a c d e g h j k x52.1 x52.2.1 x52.2.2.1) (F))))))))))))) (fun _ => True) ?_ (fun x52 _ => ?_)
 · refine J_steps (c40 b1 a c d e g h j k) (emp) [] Tryz.mixed<|pe 1 r r<|pe 4 r r<|ps 0 r (opv_loadS r)<|ps 3 r (opv_loadS r) ?_
   refine R_a [2, 5, 7] (by kernel_rfl) rfl fun i hi => ?_
   simp only [List.mem_cons, List.not_mem_nil, or_false] at hi
   rcases hi with rfl | rfl | rfl
   · refine R_an r r (opx_makeC r) fun r11 _=>?_
     refine R_a [5, 7] (by kernel_rfl) rfl fun i hi => ?_
     simp only [List.mem_cons, List.not_mem_nil, or_false] at hi
     rcases hi with rfl | rfl
     · refine R_an r r (opx_call0 (i123 a c d e g h j k l) r r r) fun _ _=>?_
       refine R_a [6, 7] (by kernel_rfl) rfl fun i hi => ?_
       simp only [List.mem_cons, List.not_mem_nil, or_false] at hi
       rcases hi with rfl | rfl
       · refine R_an r r (opx_call0 (i100) r r r) fun y12 _=>pn 7 r (opx_makeC r) fun r13 _=>ps 8 r (opv_build r)<|pn 9 r (opx_box r r) fun b14 _=>pe 10 r r<|dn<|kc (r11, y12, r13, b14) r Ent.take
       · refine R_an r r (opx_makeC r) fun r15 _=>pn 6 r (opx_call0 (i100) r r r) fun y16 _=>ps 8 r (opv_build r)<|pn 9 r (opx_box r r) fun b17 _=>pe 10 r r<|dn<|kc (r11, y16, r15, b17) r Ent.take
     · refine R_an r r (opx_makeC r) fun r18 _=>pn 5 r (opx_call0 (i123 a c d e g h j k l) r r r) fun _ _=>pn 6 r (opx_call0 (i100) r r r) fun y19 _=>ps 8 r (opv_build r)<|pn 9 r (opx_box r r) fun b20 _=>pe 10 r r<|dn<|kc (r11, y19, r18, b20) r Ent.take
   · refine R_an r r (opx_call0 (i123 a c d e g h j k l) r r r) fun _ _=>?_
     refine R_a [2, 6, 7] (by kernel_rfl) rfl fun i hi => ?_
     simp only [List.mem_cons, List.not_mem_nil, or_false] at hi
     rcases hi with rfl | rfl | rfl
     · refine R_an r r (opx_makeC r) fun r21 _=>?_
       refine R_a [6, 7] (by kernel_rfl) rfl fun i hi => ?_
       simp only [List.mem_cons, List.not_mem_nil, or_false] at hi
       rcases hi with rfl | rfl
       · refine R_an r r (opx_call0 (i100) r r r) fun y22 _=>pn 7 r (opx_makeC r) fun r23 _=>ps 8 r (opv_build r)<|pn 9 r (opx_box r r) fun b24 _=>pe 10 r r<|dn<|kc (r21, y22, r23, b24) r Ent.take
       · refine R_an r r (opx_makeC r) fun r25 _=>pn 6 r (opx_call0 (i100) r r r) fun y26 _=>ps 8 r (opv_build r)<|pn 9 r (opx_box r r) fun b27 _=>pe 10 r r<|dn<|kc (r21, y26, r25, b27) r Ent.take
     · refine R_an r r (opx_call0 (i100) r r r) fun y28 _=>?_
       refine R_a [2, 7] (by kernel_rfl) rfl fun i hi => ?_
       simp only [List.mem_cons, List.not_mem_nil, or_false] at hi
       rcases hi with rfl | rfl
       · refine R_an r r (opx_makeC r) fun r29 _=>pn 7 r (opx_makeC r) fun r30 _=>ps 8 r (opv_build r)<|pn 9 r (opx_box r r) fun b31 _=>pe 10 r r<|dn<|kc (r29, y28, r30, b31) r Ent.take
       · refine R_an r r (opx_makeC r) fun r32 _=>pn 2 r (opx_makeC r) fun r33 _=>ps 8 r (opv_build r)<|pn 9 r (opx_box r r) fun b34 _=>pe 10 r r<|dn<|kc (r33, y28, r32, b34) r Ent.take
     · refine R_an r r (opx_makeC r) fun r35 _=>?_
       refine R_a [2, 6] (by kernel_rfl) rfl fun i hi => ?_
       simp only [List.mem_cons, List.not_mem_nil, or_false] at hi
       rcases hi with rfl | rfl
       · refine R_an r r (opx_makeC r) fun r36 _=>pn 6 r (opx_call0 (i100) r r r) fun y37 _=>ps 8 r (opv_build r)<|pn 9 r (opx_box r r) fun b38 _=>pe 10 r r<|dn<|kc (r36, y37, r35, b38) r Ent.take
       · refine R_an r r (opx_call0 (i100) r r r) fun y39 _=>pn 2 r (opx_makeC r) fun r40 _=>ps 8 r (opv_build r)<|pn 9 r (opx_box r r) fun b41 _=>pe 10 r r<|dn<|kc (r40, y39, r35, b41) r Ent.take
   · refine R_an r r (opx_makeC r) fun r42 _=>?_
     refine R_a [2, 5] (by kernel_rfl) rfl fun i hi => ?_
     simp only [List.mem_cons, List.not_mem_nil, or_false] at hi
     rcases hi with rfl | rfl
     · refine R_an r r (opx_makeC r) fun r43 _=>pn 5 r (opx_call0 (i123 a c d e g h j k l) r r r) fun _ _=>pn 6 r (opx_call0 (i100) r r r) fun y44 _=>ps 8 r (opv_build r)<|pn 9 r (opx_box r r) fun b45 _=>pe 10 r r<|dn<|kc (r43, y44, r42, b45) r Ent.take
     · refine R_an r r (opx_call0 (i123 a c d e g h j k l) r r r) fun _ _=>?_
       refine R_a [2, 6] (by kernel_rfl) rfl fun i hi => ?_
       simp only [List.mem_cons, List.not_mem_nil, or_false] at hi
       rcases hi with rfl | rfl
       · refine R_an r r (opx_makeC r) fun r46 _=>pn 6 r (opx_call0 (i100) r r r) fun y47 _=>ps 8 r (opv_build r)<|pn 9 r (opx_box r r) fun b48 _=>pe 10 r r<|dn<|kc (r46, y47, r42, b48) r Ent.take
       · refine R_an r r (opx_call0 (i100) r r r) fun y49 _=>pn 2 r (opx_makeC r) fun r50 _=>ps 8 r (opv_build r)<|pn 9 r (opx_box r r) fun b51 _=>pe 10 r r<|dn<|kc (r50, y49, r42, b51) r Ent.take
 · refine js<|sb r<|lf 8 r r<|ll r<|an r<|jl<|uf r<|kt<|sr<|ec r<|nk<|jr ?_
   exact K_rets r (.tmp r (.tmp r (.nil))) (x52.2.2.2, x52.1, x52.2.1, x52.2.2.1) trivial r Ent.take
theorem i125 (a c : Nat) : Kp Tryz.prog 158 #[.agg (k1 a).toArray, Pt c 0] ((sep (cel c [I 1] 3) (cel a [I 1] 3))) (Tt) := by
 refine en Tryz.func158 r fun σ F=>sr<|bx r fun b1=>an r<|sr<|lf 7 r r<|ld r r<|cu (i50 a) r<|an r<|jr<|r1 r Ent.take
end Go.Proofs.YtpkcniedaabpoaaGreat
