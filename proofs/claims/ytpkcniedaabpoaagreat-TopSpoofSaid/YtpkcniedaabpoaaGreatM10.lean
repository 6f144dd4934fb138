/- Rules of a separation logic over the model, and what functions of the translation do; used by the texts that import this one. -/
import Derived.Test.YtpkcniedaabpoaaGreatM9
set_option linter.unusedVariables false
set_option linter.unusedSimpArgs false
namespace Go.Proofs.YtpkcniedaabpoaaGreat
open Go.SLA Go.Proofs.Tryz
set_option maxRecDepth 100000
set_option synthInstance.maxSize 200000
set_option synthInstance.maxHeartbeats 4000000
set_option maxHeartbeats 8000000
attribute [local irreducible] FSpec J K L OpV OpX QL Rd Rg bd
namespace Sp
attribute [local irreducible] JU
abbrev Ap (a : Nat) (b : Cf) (c : VlA) : List Value := [I (10 + ((a : Nat) : Int)), I 0, I b.bg, I b.sm, .bool (decide (a = 1)), I 2, I 60000, Sk (c.tb a) (c.to a) 1 (c.tc a)]
abbrev Aq (a : VlA) (b : Nat) : ab := Ow 3 1 (Sk (a.tb b) (a.to b) 1 (a.tc b)) 1 [I 1]
theorem EC (a d e : Nat)  : Kp prog 182 #[Sk a d 1 e] (emp) (.tuple #[]) := by
 refine en func182 r fun _ F=>bG<|sa r<|ll r<|an r<|jg<|ec r<|lv (eQ (c := .int .u64 1) r r) r<|aW func204 r<|aE r<|js<|cf r<|sk<|sa r<|aW func232 r<|aE r<|js<|sb r<|nf r<|sk<|js<|sb r<|nf r<|sk<|js<|sb r<|nf r<|sk<|sb r<|lv (eQ (c := U8 1) r r) r<|lv ((gu r r (by decide)).as (v' := U8 1) (by kernel_rfl)) r<|lv (eQ (c := I 1) r r) r<|ib (I 1) r<|an r<|jr<|cX r<|an r<|jr<|cX r<|aW func203 r<|aE r<|aE r<|jl<|ju<|jb<|sb r<|ib (I 1) r<|an r<|js<|sb r<|nt r<|sr<|ec r<|aW func222 r ?_
 refine sa r<|ib (I 1) r<|an r<|jl<|ju<|js<|sr<|ec r<|nf r<|jx<|ke<|ke<|kh<|jA r ?_
 refine nk<|jr<|kd<|kq<|kd<|kq<|Hf r<|ln<|z0 r Ent.take
theorem FU (a c d : Nat)  : Kp prog 183 #[Sk a c 1 d] (emp) (Sk a c 1 d) := by
 refine en func183 r fun _ F=>bG<|aE r<|js<|sa r<|ll r<|an r<|ct r<|sb r<|nk<|jr<|kd<|r1 r Ent.take
theorem EB  : Kp prog 228 #[I 11, I 10] (emp) (Ff) := by
 refine en func228 r fun _ F=>bG<|aE r<|sa r<|aW func190 r<|aE r<|sr<|ed r<|nk<|jr<|cX r<|ea r<|gs r<|gs r<|gs r<|eb r<|go r<|ea r<|go r<|ea r<|go r<|ec r ?_
 refine nk<|jr<|r1 r Ent.take
theorem EA (a d e : Nat)  : Kp prog 182 #[Sk a d 2 e] (Ow 3 1 (Sk a d 2 e) 2 [I 10, I 11]) (.tuple #[]) := by
 refine en func182 r fun _ F=>sa r<|ll r<|an r<|jg<|ec r<|lv (eQ (c := .int .u64 2) r r) r<|aW func204 r<|aE r<|js<|cf r<|sk<|sa r<|aW func232 r<|aE r<|js<|sb r<|nf r<|sk<|js<|sb r<|nf r<|sk<|js<|sb r<|nf r<|sk<|sb r<|lv (eQ (c := U8 2) r r) r<|lv ((gu r r (by decide)).as (v' := U8 2) (by kernel_rfl)) r<|lv (eQ (c := I 2) r r) r<|ib (I 2) r<|an r<|jr<|cX r<|an r<|jr<|cX r<|aW func203 r<|aE r<|aE r<|jl<|ju<|jb<|sb r<|ib (I 2) r<|an r<|js<|sb r<|nt r<|sr<|ec r<|aW func222 r ?_
 refine sa r<|ib (I 1) r<|an r<|jl<|ju<|js<|sr<|ec r<|nt r<|sk<|js<|jb<|sb r<|nk<|jl<|ju<|js<|js<|dM ae<|qb r<|qb r<|qo r<|qa r<|qo r<|qa r<|qo r<|qv (dx (d + 1) r r r r) r<|qo r<|qv (aF 1 r r r) r<|qo r<|qa r<|qo r<|qa r<|qo r<|qv (ei (c := I 0) r r r) r<|qo r<|qv (dx d r r r r) r<|qo r<|qv (aF 0 r r r) r<|qo r<|dy (EB ) r r (fun _ _ => r) (fun _ _ => ah _) r<|qa r<|qn<|kt<|cf r<|jx<|ke<|ke<|kh<|kb<|kt<|jg<|ea r<|ib (I 2) r<|ea r<|kr<|ju<|js<|sr<|ec r<|nf r<|jx<|ke ?_
 refine ke<|kh<|jA r<|nk ?_
 refine jr<|kd<|kq<|kd<|kq<|Hf r<|ln<|z0 r Ent.take
theorem FT (a d e : Nat)  : Kp prog 183 #[Sk a d 2 e] (Ow 3 1 (Sk a d 2 e) 2 [I 10, I 11]) (Sk a d 2 e) := by
 refine en func183 r fun _ F=>aE r<|js<|sa r<|ll r<|an r<|cf r<|sk<|js<|aE r<|jl<|ju<|js<|sb r<|ll r<|an r<|ct r<|sk<|js<|jb<|js<|dM ae<|qb r<|qv (dx (d + 1) r r r r) r<|qv (aF 1 r r r) r<|qb r<|qv (ei (c := I 0) r r r) r<|qv (dx d r r r r) r<|qv (aF 0 r r r) r<|qa r<|qn<|kt<|cf r<|cY<|jg<|ea r<|ib (I 2) r<|ea r<|kr<|ju<|js<|sb r<|ll r<|an r<|cf r<|jx<|ke<|ke ?_
 refine kh<|kt<|sb r<|nk<|jr<|r1 r Ent.take
theorem Ez  : Kp prog 228 #[I 11, I 10] (emp) (Ff) := by
 refine en func228 r fun _ F=>bG<|aE r<|sa r<|aW func190 r<|aE r<|sr<|ed r<|nk<|jr<|cX r<|ea r<|gs r<|gs r<|gs r<|eb r<|go r<|ea r<|go r<|ea r<|go r<|ec r ?_
 refine nk<|jr<|r1 r Ent.take
theorem Ey  : Kp prog 228 #[I 12, I 11] (emp) (Ff) := by
 refine en func228 r fun _ F=>bG<|aE r<|sa r<|aW func190 r<|aE r<|sr<|ed r<|nk<|jr<|cX r<|ea r<|gs r<|gs r<|gs r<|eb r<|go r<|ea r<|go r<|ea r<|go r<|ec r ?_
 refine nk<|jr<|r1 r Ent.take
theorem Ex (a d e : Nat)  : Kp prog 182 #[Sk a d 3 e] (Ow 3 1 (Sk a d 3 e) 3 [I 10, I 11, I 12]) (.tuple #[]) := by
 refine en func182 r fun _ F=>sa r<|ll r<|an r<|jg<|ec r<|lv (eQ (c := .int .u64 3) r r) r<|aW func204 r<|aE r<|js<|cf r<|sk<|sa r<|aW func232 r<|aE r<|js<|sb r<|nf r<|sk<|js<|sb r<|nf r<|sk<|js<|sb r<|nf r<|sk<|sb r<|lv (eQ (c := U8 3) r r) r<|lv ((gu r r (by decide)).as (v' := U8 2) (by kernel_rfl)) r<|lv (eQ (c := I 2) r r) r<|ib (I 2) r<|an r<|jr<|cX r<|an r<|jr<|cX r<|aW func203 r<|aE r<|aE r<|jl<|ju<|jb<|sb r<|ib (I 3) r<|an r<|js<|sb r<|nt r<|sr<|ec r<|aW func222 r ?_
 refine sa r<|ib (I 1) r<|an r<|jl<|ju<|js<|sr<|ec r<|nt r<|sk<|js<|jb<|sb r<|nk<|jl<|ju<|js<|js<|dM ae<|qb r<|qb r<|qo r<|qa r<|qo r<|qa r<|qo r<|qv (dx (d + 1) r r r r) r<|qo r<|qv (aF 1 r r r) r<|qo r<|qa r<|qo r<|qa r<|qo r<|qv (ei (c := I 0) r r r) r<|qo r<|qv (dx d r r r r) r<|qo r<|qv (aF 0 r r r) r<|qo r<|dy (Ez ) r r (fun _ _ => r) (fun _ _ => ah _) r<|qa r<|qn<|kt<|cf r<|jx<|ke<|ke<|kh<|kb<|kt<|jg<|ea r<|ib (I 2) r<|ea r<|kr<|ju<|js<|sr<|ec r<|nt r<|sk<|js ?_
 refine jb<|sb r<|nk<|jl<|ju<|js<|js<|dM ae<|qb r<|qb r<|qo r<|qa r<|qo r<|qa r<|qo r<|qv (dx (d + 2) r r r r) r<|qo r<|qv (aF 2 r r r) r<|qo r<|qa r<|qo r<|qa r<|qo r<|qv (ei (c := I 1) r r r) r<|qo r<|qv (dx (d + 1) r r r r) r<|qo r<|qv (aF 1 r r r) r<|qo r<|dy (Ey ) r r (fun _ _ => r) (fun _ _ => ah _) r<|qa r<|qn<|kt<|cf r<|jx<|ke<|ke<|kh<|kb<|kt<|jg<|ea r<|ib (I 3) r<|ea r<|kr<|ju<|js<|sr<|ec r<|nf r<|jx<|ke<|ke<|kh<|jA r<|nk ?_
 refine jr<|kd<|kq<|kd<|kq<|Hf r<|ln<|z0 r Ent.take
theorem FS (a d e : Nat)  : Kp prog 183 #[Sk a d 3 e] (Ow 3 1 (Sk a d 3 e) 3 [I 10, I 11, I 12]) (Sk a d 3 e) := by
 refine en func183 r fun _ F=>aE r<|js<|sa r<|ll r<|an r<|cf r<|sk<|js<|aE r<|jl<|ju<|js<|sb r<|ll r<|an r<|ct r<|sk<|js<|jb<|js<|dM ae<|qb r<|qv (dx (d + 1) r r r r) r<|qv (aF 1 r r r) r<|qb r<|qv (ei (c := I 0) r r r) r<|qv (dx d r r r r) r<|qv (aF 0 r r r) r<|qa r<|qn<|kt<|cf r<|cY<|jg<|ea r<|ib (I 2) r<|ea r<|kr<|ju<|js<|sb r<|ll r<|an r<|ct r<|sk<|js<|jb<|js<|dM ae<|qb r<|qv (dx (d + 2) r r r r) r<|qv (aF 2 r r r) r<|qb r<|qv (ei (c := I 1) r r r) r<|qv (dx (d + 1) r r r r) r<|qv (aF 1 r r r) r<|qa r<|qn<|kt<|cf r<|cY<|jg<|ea r ?_
 refine ib (I 3) r<|ea r<|kr<|ju<|js<|sb r<|ll r<|an r<|cf r<|jx<|ke<|ke<|kh<|kt<|sb r<|nk ?_
 refine jr<|r1 r Ent.take
theorem ED  : Kp prog 182 #[Ns] (emp) (.tuple #[]) := by
 refine en func182 r fun _ F=>bG<|sa r<|ll r<|an r<|jg<|ec r<|lv (eQ (c := .int .u64 0) r r) r<|aW func204 r<|aE r<|js<|cf r<|sk<|sa r<|aW func232 r<|aE r<|js<|sb r<|nf r<|sk<|js<|sb r<|nf r<|sk<|js<|sb r<|nf r<|sk<|sb r<|lv (eQ (c := U8 0) r r) r<|lv ((gu r r (by decide)).as (v' := U8 0) (by kernel_rfl)) r<|lv (eQ (c := I 0) r r) r<|ib (I 0) r<|an r<|jr<|cX r<|an r<|jr<|cX r<|aW func203 r<|aE r<|aE r<|jl<|ju<|jb<|sb r<|ib (I 0) r<|an r<|js<|sb r<|nt r<|sr<|ec r<|aW func222 r ?_
 refine sa r<|ib (I 1) r<|an r<|jl<|ju<|js<|sr<|ec r<|nf r<|jx<|ke<|ke<|kh<|jA r ?_
 refine nk<|jr<|kd<|kq<|kd<|kq<|Hf r<|ln<|z0 r Ent.take
theorem FV  : Kp prog 183 #[Ns] (emp) (Ns) := by
 refine en func183 r fun _ F=>bG<|aE r<|js<|sa r<|ll r<|an r<|ct r<|sb r<|nk<|jr<|kd<|r1 r Ent.take
theorem F1 (a : Nat) (x : Cf) (y : VlA) (i : Nat) : Kp prog 156 #[.agg (Ap i x y).toArray, Pt a 0] (am a [I 0] 3) (Tt) := by
 refine en func156 r fun _ F=>sr<|bx r fun b1=>an r<|sr<|lf 1 r r<|ld r r<|eb r<|nk<|jr<|r1 r Ent.take
theorem F0 (a : Nat) (x : Cf) (y : VlA) (i : Nat) (h : Int) (hh : h ≠ 0) : Kp prog 156 #[.agg (Ap i x y).toArray, Pt a 0] (am a [I h] 3) (Ff) := by
 refine en func156 r fun _ F=>sr<|bx r fun b1=>an r<|sr<|lf 1 r r<|ld r r<|bJ r<|an r<|jr<|r1 r Ent.take
theorem FZ (a : Nat) (x : Cf) (y : VlA) (i : Nat) : Kp prog 158 #[.agg (Ap i x y).toArray, Pt a 0] ((aa (am a [I 1] 3) (Aq y i))) (Tt) := by
 refine en func158 r fun _ F=>sr<|bx r fun b1=>an r<|sr<|lf 7 r r<|ld r r<|aW func152 r<|aE r<|sb r<|aW func180 r<|aE r<|js<|sa r<|ll r<|an r<|jl<|ut r<|js<|jb<|sb r<|nr<|ec r<|ix (y.to i) r r<|lv (aF 0 r r r) r<|an r ?_
 refine ct r<|sb r<|nk<|jr<|kq<|kd<|kd<|kq<|kd<|cX r<|eb r<|nk<|jr<|cX r<|an r<|jr<|r1 r Ent.take
theorem FY (a : Nat) (x : Cf) (y : VlA) (i : Nat) (h : Int) (hh : h ≠ 1) : Kp prog 158 #[.agg (Ap i x y).toArray, Pt a 0] ((aa (am a [I h] 3) (Aq y i))) (Ff) := by
 refine en func158 r fun _ F=>sr<|bx r fun b1=>an r<|sr<|lf 7 r r<|ld r r<|aW func152 r<|aE r<|sb r<|aW func180 r<|aE r<|js<|sa r<|ll r<|an r<|jl<|ut r<|js<|jb<|sb r<|nr<|ec r<|ix (y.to i) r r<|lv (aF 0 r r r) r<|bJ r ?_
 refine nf r<|jk<|ni (I 1) r<|uf r<|kt<|aE r<|jr<|cX r<|eb r<|nk<|jr<|cX r<|an r<|jr<|r1 r Ent.take
theorem H3 (yy : VlA) (i : Nat) : FSpec prog 94 #[Sk (yy.tb i) (yy.to i) 1 (yy.tc i)] (Aq yy i) (fun _ : Nat × Nat × Nat => True) (fun y => Sk y.1 y.2.1 1 y.2.2) (fun y => (aa (Aq yy i) (Ow 3 1 (Sk y.1 y.2.1 1 y.2.2) 1 [I 1]))) := by
 refine en func94 r fun _ F=>aE r<|js<|sa r<|lv (zL (r := false) r r) r<|nf r<|sk<|sr<|lx r (m5 r) fun b1 _=>ea r<|lx r (dI (m := 1) (B := 8) 1 r r (Src.O) r r r (List.all_eq_true.1 r) r r r r) fun z2 _=>an r<|jr ?_
 exact bM r (.tmp r (.nil)) (z2.1, z2.2.1, z2.2.2) trivial r Ent.take
end Sp
section
namespace Sp
open Mq
variable {f : FuncId} {n i : Nat}
def sU (n : Nat) : List Value := (List.range n).map fun i : Nat => I (10 + (i : Int))
theorem FG (n : Nat) : sU n ++ [I (10 + (n : Int))] = sU (n + 1) := by unfold sU; rw [List.range_succ, List.map_append]; rfl
theorem Kp.own {c : Nat} {a : Option Addr} {l : List Value} {v : Value} (hn : n ≠ 0) (h : ∀ b o, a = some (ad b o) -> Go.SLA.Kp prog f #[Sk b o n c] (Ow 3 1 (Sk b o n c) n l) v) : Go.SLA.Kp prog f #[.slice a n c] (Ow 3 1 (.slice a n c) n l) v := by
 show FSpec _ _ _ _ _ _ _
 unfold FSpec
 intro σ w F hs
 rcases i4 hs with ⟨_, _, e, _⟩ | ⟨b, o, rfl⟩
 ·exact absurd e hn
 ·have k := h b o rfl
  unfold Go.SLA.Kp FSpec at k
  exact k σ w F hs
theorem own0i : Ent emp (Ow 3 1 (Ns) 0 (sU 0)) := Ow.nil 3 1
theorem IL (hn : n = 1 \/ n = 2 \/ n = 3) (a : Option Addr) (c : Nat) : Go.SLA.Kp prog 182 #[.slice a n c] (Ow 3 1 (.slice a n c) n (sU n)) (.tuple #[]) := Kp.own (by omega) fun b o _ => by
 rcases hn with rfl | rfl | rfl
 ·exact Kp.emp _ (EC b o c)
 ·exact EA b o c
 ·exact Ex b o c
theorem IW (hn : n = 1 \/ n = 2 \/ n = 3) (a : Option Addr) (c : Nat) : Go.SLA.Kp prog 183 #[.slice a n c] (Ow 3 1 (.slice a n c) n (sU n)) (.slice a n c) := Kp.own (by omega) fun b o e => by
 subst e
 rcases hn with rfl | rfl | rfl
 ·exact Kp.emp _ (FU b o c)
 ·exact FT b o c
 ·exact FS b o c
theorem uq (n : Nat) (hn : n = 1 \/ n = 2 \/ n = 3) (x : Cf) (y : VlA) (c0 c1 c2 c3 c5 : Value) (f : Nat) [Fun prog f] (cs : List Value) (A : ab) (hf : ∀ i : Nat, i < n -> Go.SLA.Kp prog f (([.agg (ze x y i).toArray] : List Value) ++ cs).toArray A Ff) : FSpec prog 155 #[.agg [c0, c1, c2, c3, Sk y.vb y.vo n y.vc, c5].toArray, .func (.func f) #[] cs.toArray] ((aa (dJ x n y) (A))) (fun _ : Unit => True) (fun _ => Ns) (fun _ => (aa (dJ x n y) (A))) := by
 refine en func155 r fun _ F=>sr<|bx r fun b2=>an r<|aE r<|js<|sr<|fz r<|ld r r<|ll r<|an r<|jb ?_
 refine bX (X := Nat) (fun k => [(1, .func (.func f) #[] cs.toArray), (9, Sk y.vb y.vo n y.vc), (10, I (n : Int)), (5, Ns), (11, I (k : Int))]) (fun k => (aa (dJ x n y) (aa (A) (F)))) (fun k => k <= n) (fun k => n - k) (0) (Nat.zero_le _) ⟨rfl, rfl, rfl, rfl, rfl, trivial⟩ Ent.take (fun k hk => ?_)
 refine sr<|lv (aM r r) r<|nj ?_
 refine aG rfl (fun h1 => ?_) (fun h1 => ?_)
 ·have hkl : k < n := by omega
  refine sk<|js<|jb<|sr<|lv (au r r (by omega)) r<|lv (br (vs := [I (10 + (k : Int)), I 0, I x.bg, I x.sm, .bool (decide (k = 1)), I 2, I 60000, Sk (y.tb k) (y.to k) 1 (y.tc k)]) r r (lh (x := x) (n := n) (y := y) (i := k) (by omega))) r<|al r fun b7=>so r r<|nr<|ea r<|ls r<|lx r (fq (first := []) (captured := cs) (hf k hkl) r r r r) fun _ _=>nf r<|cY<|jg<|gE r<|ea r<|ln ?_
  exact bO (k + 1) (by omega) (by omega) ⟨rfl, rfl, rfl, rfl, rfl, trivial⟩ Ent.take
 ·refine cx ?_
  refine ke<|ke<|kh<|kt<|sa r<|cy ED r fun _=>nr<|ea r<|cy FV r fun _=>an r<|jr ?_
  exact aD rfl rfl () trivial rfl Ent.take
theorem rj (n : Nat) (hn : n = 1 \/ n = 2 \/ n = 3) (x : Cf) (y : VlA) (c0 c1 c2 c3 c5 : Value) (f : Nat) [Fun prog f] (cs : List Value) (A : ab) (hf : ∀ i : Nat, i < n -> Go.SLA.Kp prog f (([.agg (ze x y i).toArray] : List Value) ++ cs).toArray A Tt) : FSpec prog 155 #[.agg [c0, c1, c2, c3, Sk y.vb y.vo n y.vc, c5].toArray, .func (.func f) #[] cs.toArray] ((aa (dJ x n y) (A))) (fun r : Option Addr × Nat => True) (fun r => .slice r.1 n r.2) (fun r => (aa ((aa (dJ x n y) (A))) (Ow 3 1 (.slice r.1 n r.2) n (sU n)))) := by
 refine en func155 rfl fun _ F=>sr<|bx rfl fun b2=>an rfl<|aE rfl<|js<|sr<|fz rfl<|ld rfl rfl<|ll rfl<|an rfl<|jb ?_
 refine bX (X := Nat × Option Addr × Nat) (fun z => [(1, .func (.func f) #[] cs.toArray), (9, Sk y.vb y.vo n y.vc), (10, I (n : Int)), (5, .slice z.2.1 z.1 z.2.2), (11, I (z.1 : Int))]) (fun z => (aa (dJ x n y) (aa (A) (aa (Ow 3 1 (.slice z.2.1 z.1 z.2.2) z.1 (sU z.1)) (F))))) (fun z => z.1 <= n) (fun z => n - z.1) ((0, none, 0)) (Nat.zero_le _) ⟨rfl, rfl, rfl, rfl, rfl, trivial⟩ (Ent.trans (Ent.of (bN _).symm) (Ent.trans (own0i.frame _) Ent.take)) (fun z hz => ?_)
 refine sr<|lv (aM rfl rfl) rfl<|nj ?_
 refine aG rfl (fun h1 => ?_) (fun h1 => ?_)
 ·have hkl : z.1 < n := by omega
  refine sk<|js<|jb<|sr<|lv (au rfl rfl (by omega)) rfl<|lv (br (vs := [I (10 + (z.1 : Int)), I 0, I x.bg, I x.sm, .bool (decide (z.1 = 1)), I 2, I 60000, Sk (y.tb z.1) (y.to z.1) 1 (y.tc z.1)]) rfl rfl (lh (x := x) (n := n) (y := y) (i := z.1) (by omega))) rfl<|al rfl fun b7=>lx rfl (dU rfl rfl rfl) fun _ _=>nr<|ea rfl<|ls rfl<|lx rfl (fq (first := []) (captured := cs) (hf z.1 hkl) rfl rfl rfl rfl) fun _ _=>nt rfl<|jg<|ea rfl<|fz rfl<|ld rfl rfl<|lx rfl (aq (m := 1) rfl rfl (by omega) (by omega) rfl) fun b21 _=>lx rfl (cO (m := 1) (B := 8) rfl rfl (Src.lit) rfl (by omega) rfl (by simp [Value.oneCell']) (by unfold maxLen; omega) (by omega) rfl) fun y22 _=>ea rfl<|ln<|kb<|kt<|jg<|gE rfl<|ea rfl<|ln ?_
  rw [FG]
  exact bO ((z.1 + 1, y22)) (by omega) (by omega) ⟨rfl, rfl, rfl, rfl, rfl, trivial⟩ Ent.take
 ·obtain ⟨k, a, c⟩ := z
  dsimp only at *
  obtain rfl : k = n := by omega
  refine cx<|ke<|ke<|kh<|kt<|sa rfl<|cy (IL hn a c) rfl fun _=>nr<|ea rfl<|cy (IW hn a c) rfl fun _=>an rfl<|jr ?_
  exact aD rfl rfl (a, c) trivial rfl Ent.take
theorem oh (n : Nat) (hn : n = 1 \/ n = 2 \/ n = 3) (x : Cf) (y : VlA) (c0 c1 c2 c3 c5 : Value) : FSpec prog 124 #[.agg [c0, c1, c2, c3, Sk y.vb y.vo n y.vc, c5].toArray, I 0] (dJ x n y) (fun r : Nat × Nat × Nat => True) (fun r => Sk r.1 r.2.1 n r.2.2) (fun r => (aa (dJ x n y) (Ow 3 1 (Sk r.1 r.2.1 n r.2.2) n (sU n)))) := by
 refine en func124 rfl fun _ F=>sr<|bx rfl fun b2=>bx rfl fun b3=>an rfl<|sr<|ls rfl<|lv (aB rfl rfl) rfl<|lx rfl (ai ((iL (by omega) (rj n hn x y c0 c1 c2 c3 c5 156 [Pt b3 0] (am b3 [I 0] 3) (fun i hi => F1 b3 x y i)))) rfl rfl rfl) fun r _=>an rfl<|jr ?_
 exact aD rfl rfl r trivial rfl Ent.take
theorem og (n : Nat) (hn : n = 1 \/ n = 2 \/ n = 3) (x : Cf) (y : VlA) (c0 c1 c2 c3 c5 : Value) (h : Int) (hh : h ≠ 0) : FSpec prog 124 #[.agg [c0, c1, c2, c3, Sk y.vb y.vo n y.vc, c5].toArray, I h] (dJ x n y) (fun _ : Unit => True) (fun _ => Ns) (fun _ => dJ x n y) := by
 refine en func124 r fun _ F=>sr<|bx r fun b2=>bx r fun b3=>an r<|sr<|ls r<|lv (aB r r) r<|cy (uq n hn x y c0 c1 c2 c3 c5 156 [Pt b3 0] (am b3 [I h] 3) (fun i hi => F0 b3 x y i h hh)) r fun _=>an r<|jr ?_
 exact aD rfl rfl () trivial rfl Ent.take
abbrev _root_.Go.qq59 (a : VlA) (b : Nat) := Ow 3 1 (Sk (a.tb b) (a.to b) 1 (a.tc b)) 1 [I 1]
theorem Tk (b : Nat) (h : Int) (n : Nat) (y : VlA) (hi : i < n) {args : Array Value} (v : Value) (k : Go.SLA.Kp prog f args (aa (am b [I h] 3) (qq59 y i)) v) : Go.SLA.Kp prog f args (aa (am b [I h] 3) (TOS y n)) v := by
 obtain ⟨R, hR⟩ := TOS.out y hi
 rw [show TOS y n = (aa (qq59 y i) (R)) from hR]
 exact Kp.sub k
theorem Dt (n : Nat) (hn : n = 1 \/ n = 2 \/ n = 3) (x : Cf) (y : VlA) (c0 c1 c2 c3 c5 : Value) : FSpec prog 130 #[.agg [c0, c1, c2, c3, Sk y.vb y.vo n y.vc, c5].toArray, I 1] ((aa (dJ x n y) (TOS y n))) (fun r : Nat × Nat × Nat => True) (fun r => Sk r.1 r.2.1 n r.2.2) (fun r => (aa ((aa (dJ x n y) (TOS y n))) (Ow 3 1 (Sk r.1 r.2.1 n r.2.2) n (sU n)))) := by
 refine en func130 rfl fun _ F=>sr<|bx rfl fun b2=>bx rfl fun b3=>an rfl<|sr<|ls rfl<|lv (aB rfl rfl) rfl<|lx rfl (ai ((iL (by omega) (rj n hn x y c0 c1 c2 c3 c5 158 [Pt b3 0] ((aa (am b3 [I 1] 3) (TOS y n))) (fun i hi => Tk b3 1 n y hi Tt (FZ b3 x y i))))) rfl rfl rfl) fun r _=>an rfl<|jr ?_
 exact aD rfl rfl r trivial rfl Ent.take
theorem Ds (n : Nat) (hn : n = 1 \/ n = 2 \/ n = 3) (x : Cf) (y : VlA) (c0 c1 c2 c3 c5 : Value) (h : Int) (hh : h ≠ 1) : FSpec prog 130 #[.agg [c0, c1, c2, c3, Sk y.vb y.vo n y.vc, c5].toArray, I h] ((aa (dJ x n y) (TOS y n))) (fun _ : Unit => True) (fun _ => Ns) (fun _ => (aa (dJ x n y) (TOS y n))) := by
 refine en func130 r fun _ F=>sr<|bx r fun b2=>bx r fun b3=>an r<|sr<|ls r<|lv (aB r r) r<|cy (uq n hn x y c0 c1 c2 c3 c5 158 [Pt b3 0] ((aa (am b3 [I h] 3) (TOS y n))) (fun i hi => Tk b3 h n y hi Ff (FY b3 x y i h hh))) r fun _=>an r<|jr ?_
 exact aD rfl rfl () trivial rfl Ent.take
theorem yX (y : VlA) (hi : i < n) : FSpec prog 94 #[Sk (y.tb i) (y.to i) 1 (y.tc i)] (TOS y n) (fun _ : Nat × Nat × Nat => True) (fun r => Sk r.1 r.2.1 1 r.2.2) (fun r => (aa (TOS y n) (Ow 3 1 (Sk r.1 r.2.1 1 r.2.2) 1 [I 1]))) := by
 obtain ⟨R, hR⟩ := TOS.out y hi
 rw [show TOS y n = (aa (qq59 y i) (R)) from hR]
 exact FSpec.via (H3 y i) fun _ => Ent.take
theorem Gv (n : Nat) (hn : n = 1 \/ n = 2 \/ n = 3) (x : Cf) (y : VlA) (c0 c1 c2 c3 c5 : Value) (i : Nat) (hi : i < n) : FSpec prog 126 #[.agg [c0, c1, c2, c3, Sk y.vb y.vo n y.vc, c5].toArray, I (10 + (i : Int))] ((aa (dJ x n y) (TOS y n))) (fun r : Nat × Nat × Nat => True) (fun r => .tuple #[.agg [I (10 + (i : Int)), I 0, I x.bg, I x.sm, .bool (decide (i = 1)), I 2, I 60000, Sk r.1 r.2.1 1 r.2.2].toArray, Tt]) (fun r => (aa ((aa (dJ x n y) (TOS y n))) (Ow 3 1 (Sk r.1 r.2.1 1 r.2.2) 1 [I 1]))) := by
 refine en func126 rfl fun _ F=>sr<|bx rfl fun b2=>al rfl fun b4=>an rfl<|js<|sr<|fz rfl<|ld rfl rfl<|ll rfl<|an rfl<|jb ?_
 refine bX (X := Nat) (fun k => [(1, I (10 + (i : Int))), (4, Pt b4 0), (9, Sk y.vb y.vo n y.vc), (10, I (n : Int)), (11, I (k : Int))]) (fun k => (aa (am b4 [I 0, I 0, I 0, I 0, Ff, I 0, I 0, Ns] 151) (aa (dJ x n y) (aa (TOS y n) (F))))) (fun k => k <= i) (fun k => n - k) (0) (Nat.zero_le _) ⟨rfl, rfl, rfl, rfl, rfl, trivial⟩ Ent.take (fun k hk => ?_)
 refine sr<|eR rfl<|nj<|ct rfl<|sk<|js<|jb<|sr<|lv (au rfl rfl (by omega)) rfl<|lv (br (vs := [I (10 + (k : Int)), I 0, I x.bg, I x.sm, .bool (decide (k = 1)), I 2, I 60000, Sk (y.tb k) (y.to k) 1 (y.tc k)]) rfl rfl (lh (x := x) (n := n) (y := y) (i := k) (by omega))) rfl<|al rfl fun b7=>?_
 refine lx rfl (dU rfl rfl rfl) fun _ _=>nr<|fz rfl<|ld rfl rfl<|ea rfl<|lv ((cv rfl rfl)) rfl<|nk ?_
 refine gP rfl (fun h1 => ?_) (fun h1 => ?_)
 ·have e : k = i := by have := of_decide_eq_true h1; omega
  subst e
  refine sr<|fz rfl<|ld rfl rfl<|lx rfl (ai ((yX y hi)) rfl rfl rfl) fun r _=>fz rfl ?_
  refine lx rfl (dU rfl rfl rfl) fun _ _=>nr<|ls rfl ?_
  refine lx rfl (dU rfl rfl rfl) fun _ _=>an rfl<|jr<|kq<|kd<|kd<|kq<|kd ?_
  exact cw rfl rfl rfl rfl r trivial rfl Ent.take
 ·have e : k ≠ i := fun e => of_decide_eq_false h1 (by rw [e])
  refine cY<|jg<|gE rfl<|ea rfl<|ln ?_
  exact bO (k + 1) (by omega) (by omega) ⟨rfl, rfl, rfl, rfl, rfl, trivial⟩ Ent.take
end Sp
end
section
namespace Sp
open Mq
variable {n k i : Nat} {P : ab} {L : Nat -> (Int -> Option Value) -> ab} {f : Int -> Option Value} {v : Value}
theorem oy {σ : World} {Q : Exit -> Act -> World -> Prop} {e : Exit} {E : Env} (P' : ab) (h : Ent P P') (k : K σ n Q e E P') : K σ n Q e E P := by
 unfold K at k ⊢
 exact fun a w ha hw => k a w ha (hw.ent h)
def Lks (L : Nat -> (Int -> Option Value) -> ab) : Nat -> (Int -> Option Value) -> ab
 | 0, _ => emp
 | k + 1, f => (aa (L k f) (Lks L k f))
theorem Lks.nil (L : Nat -> (Int -> Option Value) -> ab) (f : Int -> Option Value) : Ent emp (Lks L 0 f) := ah _
theorem Lks.put {L : Nat -> (Int -> Option Value) -> ab} {f f' : Int -> Option Value} (hL : ∀ i : Nat, f (10 + (i : Int)) = f' (10 + (i : Int)) -> Ent (L i f) (L i f')) : ∀ k : Nat, (∀ i : Nat, i < k -> f (10 + (i : Int)) = f' (10 + (i : Int))) -> Ent (Lks L k f) (Lks L k f')
 | 0, _ => ah _
 | k + 1, h => Ent.trans ((hL k (h k (Nat.lt_succ_self k))).frame _) (aw (Lks.put hL k fun i hi => h i (by omega)) _)
theorem Lks.step (hL : ∀ (i : Nat) (f f' : Int -> Option Value), f (10 + (i : Int)) = f' (10 + (i : Int)) -> Ent (L i f) (L i f')) : Ent (aa (L k (fun m' => if m' = 10 + (k : Int) then some v else f m')) (Lks L k f)) (Lks L (k + 1) (fun m' => if m' = 10 + (k : Int) then some v else f m')) :=
 aw (Lks.put (fun i => hL i _ _) k fun i hi => (if_neg (by omega)).symm) _
def LkM (L : Nat -> (Int -> Option Value) -> ab) (n r : Nat) : ab := ex fun f : Int -> Option Value => (aa (SLA.lift (∀ m, f m ≠ none -> 10 <= m /\ m < 10 + (n : Int))) (aa (az r .i64 f) (Lks L n f)))
theorem LkM.fold {r : Nat} (e : k = n) (h : ∀ m, f m ≠ none -> 10 <= m /\ m < 10 + (k : Int)) : Ent (aa (az r .i64 f) (Lks L k f)) (LkM L n r) := by
 subst e
 exact Ent.trans (Ent.lift h) (bh (f := fun f : Int -> Option Value => (aa (SLA.lift (∀ m, f m ≠ none -> 10 <= m /\ m < 10 + (k : Int))) (aa (az r .i64 f) (Lks L k f)))) f)
abbrev _root_.Go.qq34 (a : Nat) := TabP a 64 1099511627776 D7
theorem sG (p : Nat) : Go.SLA.Kp prog 49 #[Pt p 0, I 0] (qq34 p) (I 0) :=
 l9 p 64 1099511627776 D7 0 rfl 1 ⟨⟨by decide, by decide⟩, fun b hb => (by cases hb), List.nodup_nil, by decide, by decide⟩ (by decide) ⟨by decide, by decide⟩
theorem BG {b o c : Nat} {R : ab} [h : Take P (Ow 3 1 (Sk b o n c) n (sU n)) R] (hi : i < n) : ∀ j u, [I (10 + (i : Int))][j]? = some u -> Rd P b (o + i * 1 + j) u := fun j u hj => by
 have hj0 : j = 0 := by have := (List.getElem?_eq_some_iff.1 hj).1; simpa using this
 subst hj0
 refine bU (S := Ow 3 1 (Sk b o n c) n (sU n)) ?_
 rw [Nat.add_assoc]
 refine Rd.own ?_
 rw [Nat.mul_one, Nat.add_zero]
 unfold sU
 rw [List.getElem?_map, List.getElem?_range hi]
 exact hj
theorem qq (h : ∀ m, f m ≠ none -> 10 <= m /\ m < 10 + (k : Int)) : ∀ m, (fun m' => if m' = 10 + (k : Int) then some v else f m') m ≠ none -> 10 <= m /\ m < 10 + ((k + 1 : Nat) : Int) := fun m hm => by
 by_cases e : m = 10 + (k : Int)
 ·omega
 ·have := h m (by simpa [e] using hm)
  omega
def SwL (x : Cf) (J : Int) (i : Nat) (f : Int -> Option Value) : ab := ex fun y : Nat -> Nat => (aa (SLA.lift (f (10 + (i : Int)) = some (Pt (y 0) 0))) (aa (am (y 0) [I (10 + (i : Int)), I 0, I x.bg, I x.sm, .bool (decide (i = 1)), I 2, I 60000, Sk (y 1) (y 2) 1 (y 3), Pt (y 4) 0, I 0] 213) (aa (Ow 3 1 (Sk (y 1) (y 2) 1 (y 3)) 1 [I 1]) (am (y 4) [I x.sm, I x.bg, I J, Ff, I 0, I (x.sm * (x.P + J)), I 0, I 0] 255))))
theorem SwL.same (x : Cf) (J : Int) (i : Nat) (f f' : Int -> Option Value) (h : f (10 + (i : Int)) = f' (10 + (i : Int))) : Ent (SwL x J i f) (SwL x J i f') := by unfold SwL; rw [h]; exact ah _
abbrev _root_.Go.qq61 (a : Nat -> Nat) := Ow 3 1 (Sk (a 1) (a 2) 1 (a 3)) 1 [I 1]
theorem SwL.step (x : Cf) (J : Int) (y : Nat -> Nat) : Ent (aa ((aa (am (y 0) [I (10 + (i : Int)), I 0, I x.bg, I x.sm, .bool (decide (i = 1)), I 2, I 60000, Sk (y 1) (y 2) 1 (y 3), Pt (y 4) 0, I 0] 213) (aa (qq61 y) (am (y 4) [I x.sm, I x.bg, I J, Ff, I 0, I (x.sm * (x.P + J)), I 0, I 0] 255)))) (Lks (SwL x J) i f)) (Lks (SwL x J) (i + 1) (fun m' => if m' = 10 + (i : Int) then some (Pt (y 0) 0) else f m')) :=
 Ent.trans (Ent.frame (Ent.trans (Ent.lift (p := (fun m' => if m' = 10 + (i : Int) then some (Pt (y 0) 0) else f m') (10 + (i : Int)) = some (Pt (y 0) 0)) (if_pos rfl)) (bh (f := fun y' : Nat -> Nat => (aa (SLA.lift ((fun m' => if m' = 10 + (i : Int) then some (Pt (y 0) 0) else f m') (10 + (i : Int)) = some (Pt (y' 0) 0))) (aa (am (y' 0) [I (10 + (i : Int)), I 0, I x.bg, I x.sm, .bool (decide (i = 1)), I 2, I 60000, Sk (y' 1) (y' 2) 1 (y' 3), Pt (y' 4) 0, I 0] 213) (aa (Ow 3 1 (Sk (y' 1) (y' 2) 1 (y' 3)) 1 [I 1]) (am (y' 4) [I x.sm, I x.bg, I J, Ff, I 0, I (x.sm * (x.P + J)), I 0, I 0] 255))))) y)) _) (Lks.step (SwL.same x J))
def EtL (x : Cf) (i : Nat) (f : Int -> Option Value) : ab := ex fun y : Nat -> Nat => (aa (SLA.lift (f (10 + (i : Int)) = some (Pt (y 0) 0))) (aa (am (y 0) [I (10 + (i : Int)), I 0, I x.bg, I x.sm, .bool (decide (i = 1)), I 2, I 60000, Sk (y 1) (y 2) 1 (y 3), Pt (y 4) 0, Pt (y 5) 0, I 0, I 0] 269) (aa (Ow 3 1 (Sk (y 1) (y 2) 1 (y 3)) 1 [I 1]) (aa (am (y 4) [Ns, Ns, Ns, Ns, I 2, I 1024, I 0, I 0] 326) (am (y 5) [.int .u64 x.bg, Ff, I 0, I 0, I 0] 330)))))
theorem EtL.same (x : Cf) (i : Nat) (f f' : Int -> Option Value) (h : f (10 + (i : Int)) = f' (10 + (i : Int))) : Ent (EtL x i f) (EtL x i f') := by unfold EtL; rw [h]; exact ah _
abbrev _root_.Go.qq57 : List Value := [Ns, Ns, Ns, Ns, I 2, I 1024, I 0, I 0]
theorem EtL.step (x : Cf) (y : Nat -> Nat) : Ent (aa ((aa (am (y 0) [I (10 + (i : Int)), I 0, I x.bg, I x.sm, .bool (decide (i = 1)), I 2, I 60000, Sk (y 1) (y 2) 1 (y 3), Pt (y 4) 0, Pt (y 5) 0, I 0, I 0] 269) (aa (qq61 y) (aa (am (y 4) qq57 326) (am (y 5) [.int .u64 x.bg, Ff, I 0, I 0, I 0] 330))))) (Lks (EtL x) i f)) (Lks (EtL x) (i + 1) (fun m' => if m' = 10 + (i : Int) then some (Pt (y 0) 0) else f m')) :=
 Ent.trans (Ent.frame (Ent.trans (Ent.lift (p := (fun m' => if m' = 10 + (i : Int) then some (Pt (y 0) 0) else f m') (10 + (i : Int)) = some (Pt (y 0) 0)) (if_pos rfl)) (bh (f := fun y' : Nat -> Nat => (aa (SLA.lift ((fun m' => if m' = 10 + (i : Int) then some (Pt (y 0) 0) else f m') (10 + (i : Int)) = some (Pt (y' 0) 0))) (aa (am (y' 0) [I (10 + (i : Int)), I 0, I x.bg, I x.sm, .bool (decide (i = 1)), I 2, I 60000, Sk (y' 1) (y' 2) 1 (y' 3), Pt (y' 4) 0, Pt (y' 5) 0, I 0, I 0] 269) (aa (Ow 3 1 (Sk (y' 1) (y' 2) 1 (y' 3)) 1 [I 1]) (aa (am (y' 4) qq57 326) (am (y' 5) [.int .u64 x.bg, Ff, I 0, I 0, I 0] 330)))))) y)) _) (Lks.step (EtL.same x))
def ErL (x : Cf) (i : Nat) (f : Int -> Option Value) : ab := ex fun y : Nat -> Nat => (aa (SLA.lift (f (10 + (i : Int)) = some (Pt (y 0) 0))) (aa (am (y 0) [I (10 + (i : Int)), I 0, I x.bg, I x.sm, .bool (decide (i = 1)), I 2, I 60000, Sk (y 1) (y 2) 1 (y 3), Pt (y 4) 0, Pt (y 5) 0, Pt (y 6) 0] 283) (aa (Ow 3 1 (Sk (y 1) (y 2) 1 (y 3)) 1 [I 1]) (aa (am (y 4) [Ff, I 0, I 0, Ff, I 0, I 0] 332) (aa (am (y 5) [Ff, I 0, I 0, Ff, I 0, I 0] 332) (am (y 6) [Ns, I 60000, I 0, I 0, I 0, I 0] 335))))))
theorem ErL.same (x : Cf) (i : Nat) (f f' : Int -> Option Value) (h : f (10 + (i : Int)) = f' (10 + (i : Int))) : Ent (ErL x i f) (ErL x i f') := by unfold ErL; rw [h]; exact ah _
abbrev _root_.Go.qq35 : List Value := [Ff, I 0, I 0, Ff, I 0, I 0]
theorem ErL.step (x : Cf) (y : Nat -> Nat) : Ent (aa ((aa (am (y 0) [I (10 + (i : Int)), I 0, I x.bg, I x.sm, .bool (decide (i = 1)), I 2, I 60000, Sk (y 1) (y 2) 1 (y 3), Pt (y 4) 0, Pt (y 5) 0, Pt (y 6) 0] 283) (aa (qq61 y) (aa (am (y 4) qq35 332) (aa (am (y 5) qq35 332) (am (y 6) [Ns, I 60000, I 0, I 0, I 0, I 0] 335)))))) (Lks (ErL x) i f)) (Lks (ErL x) (i + 1) (fun m' => if m' = 10 + (i : Int) then some (Pt (y 0) 0) else f m')) :=
 Ent.trans (Ent.frame (Ent.trans (Ent.lift (p := (fun m' => if m' = 10 + (i : Int) then some (Pt (y 0) 0) else f m') (10 + (i : Int)) = some (Pt (y 0) 0)) (if_pos rfl)) (bh (f := fun y' : Nat -> Nat => (aa (SLA.lift ((fun m' => if m' = 10 + (i : Int) then some (Pt (y 0) 0) else f m') (10 + (i : Int)) = some (Pt (y' 0) 0))) (aa (am (y' 0) [I (10 + (i : Int)), I 0, I x.bg, I x.sm, .bool (decide (i = 1)), I 2, I 60000, Sk (y' 1) (y' 2) 1 (y' 3), Pt (y' 4) 0, Pt (y' 5) 0, Pt (y' 6) 0] 283) (aa (Ow 3 1 (Sk (y' 1) (y' 2) 1 (y' 3)) 1 [I 1]) (aa (am (y' 4) qq35 332) (aa (am (y' 5) qq35 332) (am (y' 6) [Ns, I 60000, I 0, I 0, I 0, I 0] 335))))))) y)) _) (Lks.step (ErL.same x))
end Sp
end
namespace Sp
attribute [local irreducible] JU
abbrev Gp (a : CfA) (b : VlA) (c : Nat) : List Value := [I 3, Sk a.pb a.po 3 a.pc, I 1000, Sk a.wb a.wo 3 a.wc, Sk b.vb b.vo c b.vc, Sk a.rb a.ro (bL c) a.rc]
theorem BM (n : Nat) (hn : n = 1 \/ n = 2 \/ n = 3) (x : Cf) (y : VlA) (z : CfA) : FSpec prog 80 #[Tt] (emp) (fun _ : Nat => True) (fun y => .func (.func 81) #[] #[Pt y 0]) (fun y => am y [Tt] 4) := by
 refine en func80 r fun _ F=>bG<|sr<|bx r fun b1=>an r<|sr<|lv (aB r r) r<|an r<|jr ?_
 exact bM r (.tmp r (.nil)) b1 trivial r Ent.take
theorem lV (n : Nat) (hn : n = 1 \/ n = 2 \/ n = 3) (x : Cf) (y : VlA) (z : CfA) : Kp prog 57 #[.agg (Gp z y n).toArray] ((aa (Ow 3 1 (Sk z.pb z.po 3 z.pc) 3 [I 0, I 1, I 2]) (aa (Ow 149 3 (Sk z.wb z.wo 3 z.wc) 3 [I 0, I 0, I 1000, I 1, I 0, I 1000, I 2, I 0, I 1000]) (aa (dJ x n y) (aa (TOS y n) (qq3 n z)))))) (.tuple #[.agg [I 0, I 0].toArray, I 0]) := by
 refine en func57 r fun _ F=>sr<|bx r fun b1=>al r fun b2=>an r<|sr<|ls r<|lx r (aU .i64 r) fun r3 _=>lv (af r) r<|bx r fun b4=>al r fun b5=>so r r<|nr<|lx r (aU .i64 r) fun r6 _=>lx r (lE [.int .i64, .bool, .int .i64, .int .i64] r) fun r7 _=>al r fun b8=>al r fun b9=>so r r<|so r r<|nr<|al r fun b10=>so r r<|nj<|js<|av ((aa (am b10 qq45 188) (aa (am b1 (Gp z y n) 68) (am b5 [Pt b4 0] 183)))) (emp) [] ae<|pf 1 0 r r<|pf 6 1 r r<|ps 9 r (aB r r)<|pf 12 2 r r<|pf 17 3 r r<|ps 20 r (aB r r)<|pf 22 4 r r<|pf 28 5 r r<|ps 31 r (aB r r)<|pf 33 0 r r<|ps 36 r (aB r r)<|pe 40 r r<|pl 0 r r r<|pl 2 r r r<|pl 7 r r r<|ps 8 r (bC r)<|ps 10 r (af r)<|pl 11 r r r<|pl 13 r r r<|pl 18 r r r<|ps 19 r (bC r)<|ps 21 r (af r)<|pl 23 r r r<|ps 24 r (bC r)<|pl 25 r r r<|ps 26 r (aB r r)<|ps 27 r (af r)<|pl 29 r r r<|ps 30 r (bC r)<|ps 32 r (af r)<|pl 34 r r r<|ps 35 r ((nl r r).as (v' := I 3) r)<|ps 37 r (af r)<|pn 3 r (ai (di 3 1 64 (by decide)) r r r) fun _ _=>pn 4 r (fq (first := []) (captured := []) (BM n hn x y z) r r r r) fun y14 _=>ps 5 r (af r)<|pn 14 r (ai (di 1000 1 1073741824 (by decide)) r r r) fun _ _=>pn 15 r (fq (first := []) (captured := []) (BM n hn x y z) r r r r) fun y15 _=>ps 16 r (af r)<|pn 38 r (fE (m := 3) r r r r r r) fun b16 _=>ps 39 r (bC r)<|dn<|kt<|jl<|ut r<|js<|jb<|sr<|ix 0 r r<|ls r<|al r fun b17=>so r r<|nr<|lf 1 r r<|lf 2 r r ?_
 refine cy (BZ y14 n hn x y z) r fun _=>ed r<|an r<|sb r<|nf r<|jk<|ni (I 1) r<|ut r<|js<|jb<|sr<|ix 3 r r<|ls r<|al r fun b18=>so r r<|nr<|lf 1 r r<|lf 2 r r<|cy (Ha b10 b5 b1 b4 r3 n hn x y z) r fun _=>ed r<|an r<|sb r<|nf r<|jk<|ni (I 2) r<|ut r<|js<|jb<|sr<|ix 6 r r<|ls r<|al r fun b19=>so r r<|nr<|lf 1 r r<|lf 2 r r<|cy (BZ y15 n hn x y z) r fun _=>ed r<|an r<|sb r<|nf r<|jk<|ni (I 3) r<|ut r<|js<|jb<|sr<|ix 9 r r<|ls r<|al r fun b20=>so r r<|nr<|lf 1 r r<|lf 2 r r<|cy (G9 b5 b8 r6 b4 r3 n hn x y z) r fun _=>ed r<|an r<|sb r<|nf r<|jk<|ni (I 4) r<|ut r<|js<|jb<|sr<|ix 12 r r<|ls r<|al r fun b21=>?_
 refine so r r<|nr<|lf 1 r r<|lf 2 r r<|cy (G8 b4 r3 n hn x y z) r fun _=>ed r<|an r<|sb r<|nf r<|jk<|ni (I 5) r<|ut r<|js<|jb<|sr<|ix 15 r r<|ls r<|al r fun b22=>so r r<|nr<|lf 1 r r<|lf 2 r r<|cy (G7 b5 b9 r7 b4 r3 n hn x y z) r fun _=>ed r<|an r<|sb r<|nf r<|jk<|ni (I 6) r<|ut r<|js<|jb<|sr<|ix 18 r r<|ls r<|al r fun b23=>so r r<|nr<|lf 1 r r<|lf 2 r r<|cy (G6 b1 n hn x y z) r fun _=>ed r<|an r<|sb r<|nf r<|jk<|ni (I 7) r<|uf r<|kt<|sr<|lv (af r) r<|so r r<|an r<|jr ?_
 exact bM r (.agg r r (.tmp r (.nil))) () trivial r Ent.take
end Sp
namespace Sp
attribute [local irreducible] JU
abbrev n6 (a : CfA) (b : VlA) (c : Nat) : List Value := [I 3, Sk a.pb a.po 3 a.pc, I 1000, Sk a.wb a.wo 3 a.wc, Sk b.vb b.vo c b.vc, Sk a.rb a.ro (bL c) a.rc]
abbrev Gn : List Value := [Ns, Ns, Ns, Ns, I 2, I 1024, I 0, I 0]
abbrev gy (a : CfA) : ab := Ow 3 1 (Sk a.pb a.po 3 a.pc) 3 [I 0, I 1, I 2]
abbrev gx (a : CfA) : ab := Ow 149 3 (Sk a.wb a.wo 3 a.wc) 3 [I 0, I 0, I 1000, I 1, I 0, I 1000, I 2, I 0, I 1000]
abbrev iS (a : Nat) (b : CfA) (c : VlA) (d : Nat) : ab := am a (n6 b c d) 68
abbrev jG (a : Nat) : ab := Mq.OutP a Mq.qs0 1024 1024 0 0 0
abbrev kU (a b : Nat) : ab := am a [Pt b 0] 202
abbrev m7 (a b c d : Nat) : ab := Ow 3 1 (Sk a b c d) c (sU c)
abbrev qw (a : Nat) : ab := Mq.LineP a [] 0 0
abbrev sv (a b : Nat) (c : Cf) (d e f : Nat) : ab := am a [I (10 + ((b : Nat) : Int)), I 0, I c.bg, I c.sm, .bool (decide (b = 1)), I 2, I 60000, Sk d e 1 f] 151
abbrev tI (a : Nat) (b : Int) (c d e f g : Nat) : ab := am a [I b, Sk c d 3 e, Mp f, Ns, I 0, Mp g] 201
abbrev tH (a : Nat) (b : CfA) (c : VlA) (d e f g h j k : Nat) : ab := am a [I 3, Sk b.pb b.po 3 b.pc, I 1000, Sk b.wb b.wo 3 b.wc, Sk c.vb c.vo d c.vc, Sk b.rb b.ro (bL d) b.rc, I 0, Mp e, Sk f g d h, Pt j 0, I 0, I 0, Mp k, I 0, Ns] 263
abbrev n7 (a : Nat) : ab := TabP a 64 1099511627776 D7
abbrev pv (a b c d e f : Nat) : ab := Ow 202 1 (Sk a b 3 c) 3 [Pt d 0, Pt e 0, Pt f 0]
abbrev pu (a b c : Nat) : ab := Ow 3 1 (Sk a b 1 c) 1 [I 1]
abbrev pp (a : Nat) (b : CfA) (c : VlA) (d e f g : Nat) : ab := am a [I 3, Sk b.pb b.po 3 b.pc, I 1000, Sk b.wb b.wo 3 b.wc, Sk c.vb c.vo d c.vc, Sk b.rb b.ro (bL d) b.rc, I 1, Mp e, Pt f 0, I 0, Mp g] 277
abbrev uL (a : Nat) : ab := am a [Ff, I 0, I 0, Ff, I 0, I 0] 332
abbrev BS (a b : Nat) (c : Cf) (d e f g : Nat) : ab := am a [I (10 + ((b : Nat) : Int)), I 0, I c.bg, I c.sm, .bool (decide (b = 1)), I 2, I 60000, Sk d e 1 f, Pt g 0, I 0] 213
abbrev BR (a : Nat) (b : Cf) (c : Nat) : ab := am a [I b.sm, I b.bg, I (Jt b c), Ff, I 0, I (b.sm * (b.P + (Jt b c))), I 0, I 0] 255
abbrev BQ (a b : Nat) (c : Cf) (d e f g h : Nat) : ab := am a [I (10 + ((b : Nat) : Int)), I 0, I c.bg, I c.sm, .bool (decide (b = 1)), I 2, I 60000, Sk d e 1 f, Pt g 0, Pt h 0, I 0, I 0] 269
abbrev BP (a : Nat) (b : CfA) (c : VlA) (d : Nat) (e : Int) (f g h : Nat) : ab := am a [I 3, Sk b.pb b.po 3 b.pc, I 1000, Sk b.wb b.wo 3 b.wc, Sk c.vb c.vo d c.vc, Sk b.rb b.ro (bL d) b.rc, I e, Mp f, Ns, Pt g 0, I 0, I 0, Mp h, I 0, Ns] 263
abbrev BO (a b : Nat) (c : Cf) (d e f g h j : Nat) : ab := am a [I (10 + ((b : Nat) : Int)), I 0, I c.bg, I c.sm, .bool (decide (b = 1)), I 2, I 60000, Sk d e 1 f, Pt g 0, Pt h 0, Pt j 0] 283
theorem Hs (n : Nat) (hn : n = 1 \/ n = 2 \/ n = 3) (x : Cf) (yy : VlA) (z : CfA) (g : Int) (hg : g = 0 \/ g = 1) : Kp prog 154 #[.agg [I x.sm, I x.bg, I (Jt x n), Ff].toArray] (emp) (I x.P) := by
 refine en func154 r fun _ F=>bG<|sr<|bx r fun b1=>an r<|sr<|lf 1 r r<|aW func128 r<|sb r<|nj<|sa r<|aW func157 r<|aE r<|sa r<|lv ((dt r r).bool_t (by have := x.h; omega)) r<|ea r<|go r<|ea r<|go r<|lv ((fh r r).bool_t (by have := x.h; omega)) r<|eb r<|nk<|jr<|cX r<|an r<|cf r<|sk<|sa r<|lv (bw r (Go.IntWalk.u64_in _ (by have := x.h; omega))) r<|lv (af r) r<|bx r fun b21=>eb r<|nk<|jr ?_
 refine sT r (.tmp r (.tmp r (.nil))) r<|ed r<|an r<|sa r<|cy (Hj b21 (Ff) (I 0) (I 0) (I 0) x.bg x.P (by have := x.h; omega)) r fun _=>an r<|jr<|r1 r Ent.take
theorem Hr (n : Nat) (hn : n = 1 \/ n = 2 \/ n = 3) (x : Cf) (yy : VlA) (z : CfA) (g : Int) (hg : g = 0 \/ g = 1) : FSpec prog 58 #[.agg (n6 z yy n).toArray, I g] ((aa (gy z) (aa (gx z) (aa (dJ x n yy) (aa (qq3 n z) (TOS yy n)))))) (fun _ : Nat × Nat × Nat × Nat × Nat × Nat × Nat × Nat × Nat => True) (fun y => .tuple #[Pt y.1 0, I 0]) (fun y => (aa (gy z) (aa (gx z) (aa (dJ x n yy) (aa (qq3 n z) (aa (TOS yy n) (aa (LkM (SwL x (Jt x n)) n y.2.1) (aa (mapc y.2.2.1 .i64 (fun _ => 0)) (aa (tI y.1 g y.2.2.2.1 y.2.2.2.2.1 y.2.2.2.2.2.1 y.2.1 y.2.2.1) (aa (jG y.2.2.2.2.2.2.1) (aa (jG y.2.2.2.2.2.2.2.1) (aa (jG y.2.2.2.2.2.2.2.2) (pv y.2.2.2.1 y.2.2.2.2.1 y.2.2.2.2.2.1 y.2.2.2.2.2.2.1 y.2.2.2.2.2.2.2.1 y.2.2.2.2.2.2.2.2))))))))))))) := by
 refine en func58 r fun _ F=>sr<|bx r fun b1=>eb r<|nj<|sr<|ls r<|cy (lV n hn x yy z) r fun _=>ec r<|al r fun b2=>so r r<|an r<|sb r<|nf r<|sk<|js<|sa r<|bJ r<|ea r<|go r<|ea r<|go r<|bJ r<|an r<|cf r<|sk<|sa r<|lx r (aU .i64 r) fun r3 _=>lx r (i5 .i64 r) fun r4 _=>lv (af r) r<|bx r fun b5=>an r<|js<|sr<|lf 0 r r<|an r<|jl<|ut r<|js<|jb<|sr<|lx r (ai (Mq.QNew_ok 1024 1024 (by decide) (by decide)) r r r) fun y6 _=>ed r<|an r<|js<|sb r<|nf r<|sk<|jg<|ec r<|lf 1 r r<|ea r<|lx r (aq (m := 1) r r (by decide) (by decide) r) fun b7 _=>lx r (gB (m := 1) (B := 8) 1 r r (Src.lit) r r r (List.all_eq_true.1 r) r r r r) fun z8 _=>ea r<|fa 1 r<|so r r<|ln<|ni (I 1) r<|ut r<|js<|jb<|sr<|lx r (ai (Mq.QNew_ok 1024 1024 (by decide) (by decide)) r r r) fun y9 _=>?_
 refine ed r<|an r<|js<|sb r<|nf r<|sk<|jg<|ec r<|lf 1 r r<|ea r<|lx r (aq (m := 1) r r (by decide) (by decide) r) fun b10 _=>lx r (dI (m := 1) (B := 8) 2 r r (Src.lit) r r r (List.all_eq_true.1 r) r r r r) fun z11 _=>ea r<|fa 1 r<|so r r<|ln<|ni (I 2) r<|ut r<|js<|jb<|sr<|lx r (ai (Mq.QNew_ok 1024 1024 (by decide) (by decide)) r r r) fun y12 _=>ed r<|an r<|js<|sb r<|nf r<|sk<|jg<|ec r<|lf 1 r r<|ea r<|lx r (aq (m := 1) r r (by decide) (by decide) r) fun b13 _=>lx r (dI (m := 1) (B := 8) 3 r r (Src.lit) r r r (List.all_eq_true.1 r) r r r r) fun z14 _=>ea r<|fa 1 r<|so r r<|ln<|ni (I 3) r<|uf r<|kt<|js<|sr<|lf 4 r r<|ll r<|an r<|jb<|bX (X := Nat × (Int -> Option Value)) (fun w => [(0, .agg (n6 z yy n).toArray), (1, I g), (2, Pt b1 0), (4, Np), (5, I 0), (7, I 0), (21, Ff), (28, Ff), (8, Pt b5 0), (35, I 3), (36, I 3), (37, Ff), (9, Pt y12 0), (10, I 0), (43, Ff), (57, Sk yy.vb yy.vo n yy.vc), (58, I ((n : Nat) : Int)), (59, I ((w.1 : Nat) : Int))]) (fun w => (aa (gy z) (aa (gx z) (aa (dJ x n yy) (aa (qq3 n z) (aa (TOS yy n) (aa (iS b1 z yy n) (aa (am b2 [I 0, I 0] 132) (aa (az r3 .i64 w.2) (aa (mapc r4 .i64 (fun _ => 0)) (aa (tI b5 g z14.1 z14.2.1 z14.2.2 r3 r4) (aa (jG y6) (aa (kU b7 y6) (aa (jG y9) (aa (kU b10 y9) (aa (jG y12) (aa (kU b13 y12) (aa (pv z14.1 z14.2.1 z14.2.2 y6 y9 y12) (aa (Lks (SwL x (Jt x n)) w.1 w.2) (F)))))))))))))))))))) (fun w => w.1 <= n /\ ∀ m, w.2 m ≠ none -> 10 <= m /\ m < 10 + (w.1 : Int)) (fun w => n - w.1) ((0, fun _ => none)) ⟨Nat.zero_le _, fun _ h => absurd r h⟩ ⟨r, r, r, r, r, r, r, r, r, r, r, r, r, r, r, r, r, r, trivial⟩ (Ent.trans (Ent.of (bN _).symm) (Ent.trans ((Lks.nil (SwL x (Jt x n)) (fun _ => none)).frame _) Ent.take)) fun w hz=>?_
 obtain ⟨hz, hd⟩ := hz
 refine sr<|lv (aM r r) r<|nj<|aG r (fun hc => ?_) fun hc=>?_
 ·refine sk<|js<|jb<|sr<|lv ((au r r (by omega)).as (v' := Pt yy.vb (yy.vo + w.1 * 8)) (by rw [Int.toNat_natCast])) r<|lv (br (vs := [I (10 + ((w.1 : Nat) : Int)), I 0, I x.bg, I x.sm, .bool (decide (w.1 = 1)), I 2, I 60000, Sk (yy.tb w.1) (yy.to w.1) 1 (yy.tc w.1)]) r r (lh (x := x) (n := n) (y := yy) (i := w.1) (by omega))) r<|al r fun b15=>so r r<|nr<|lf 7 r r<|cy (yX yy (i := w.1) (by omega : w.1 < n)) r fun y16=>fa 7 r<|so r r<|nj<|av ((aa (sv b15 w.1 x y16.1 y16.2.1 y16.2.2) (iS b1 z yy n))) (emp) [] ae<|pf 0 3 r r ?_
  refine pf 2 2 r r<|pf 5 1 r r<|pl 1 r r r<|pl 3 r r r<|ps 4 r (ax r)<|pl 6 r r r<|pn 7 r (ai (G5 n hn x yy (I 3) (Sk z.pb z.po 3 z.pc) (I 1000) (Sk z.wb z.wo 3 z.wc) (Sk z.rb z.ro (bL n) z.rc)) r r r) fun _ _=>ps 8 r (af r)<|kS 9 r func95 r<|sr<|bx r fun b26=>eb r<|nj<|sr<|ls r<|aW func122 r<|sr<|bx r fun b22=>an r<|sr<|lf 0 r r<|lv ((dt r r).bool_t (by have := x.h; omega)) r<|ea r<|go r<|fa 0 r<|go r<|ld r r<|go r<|lv ((fh r r).bool_t (by have := x.h; omega)) r<|eb r<|go r<|fa 1 r<|go r<|ld r r<|go r<|lv ((dt r r).bool_t (by have := x.h; omega)) r<|eb r<|go r<|fa 1 r<|go r<|ld r r<|go r<|lv ((fh r r).bool_t (by have := x.h; omega)) r<|eb r<|go r<|fa 2 r ?_
  refine go r<|ld r r<|go r<|lv ((dt r r).bool_t (by have hJ := Jt.le x hn (Nat.le_refl n); have := x.h; omega)) r<|eb r<|go r<|fa 2 r<|go r<|ld r r<|go r<|lv ((fh r r).bool_t (by have hJ := Jt.le x hn (Nat.le_refl n); have := x.h; omega)) r<|eb r<|nk<|jr<|cX r<|an r<|cf r<|sk<|js<|av (am b26 [I x.sm, I x.bg, I (Jt x n), Ff] 210) (emp) [] ae<|pf 1 0 r r<|ps 0 r (ax r)<|pl 2 r r r<|ps 3 r (ax r)<|kS 4 r func123 r<|sr<|bx r fun b24=>an r<|js<|dM ae<|qv (ax r) r<|dy (Hs n hn x yy z g hg) r r (fun _ _ => r) (fun _ _ => ah _) r<|qf 2 r<|ql r r<|qv (aQ r r (by have hJ := Jt.le x hn (Nat.le_refl n); have := x.h; omega)) r<|qa r<|qn<|kt<|jr<|HC r<|ps 5 r (fW r r (zR (by have := x.h; omega) (by have hJ := Jt.le x hn (Nat.le_refl n); have := x.h; omega)))<|ps 6 r (af r)<|pn 7 r (aV r r) fun b3 _=>pe 8 r r<|pe 9 r r<|dn<|kt<|jr<|rp r (.tmp r (.tmp r (.nil))) r<|pe 10 r r<|pe 11 r r<|pe 12 r r<|pe 13 r r<|pe 14 r r<|dn<|kt ?_
  refine js<|sb r<|nf r<|sk<|av ((aa (tI b5 g z14.1 z14.2.1 z14.2.2 r3 r4) (sv b15 w.1 x y16.1 y16.2.1 y16.2.2))) (emp) [] ae<|pe 0 r r<|pe 1 r r<|pf 2 2 r r<|pf 4 0 r r<|pe 7 r r<|pl 3 r r r<|pl 5 r r r<|ps 6 r (ax r)<|ps 8 r (af r)<|pn 9 r (aV r r) fun b20 _=>pn 10 r (dh r r r) fun _ _=>dn<|kb<|kt<|jg<|gE r<|ea r<|ln<|oy ((aa (Lks (SwL x (Jt x n)) (w.1 + 1) (fun m' => if m' = 10 + ((w.1 : Nat) : Int) then some (Pt b20 0) else w.2 m')) (aa (gy z) (aa (gx z) (aa (dJ x n yy) (aa (qq3 n z) (aa (TOS yy n) (aa (iS b1 z yy n) (aa (am b2 [I 0, I 0] 132) (aa (az r3 .i64 (fun m' => if m' = 10 + ((w.1 : Nat) : Int) then some (Pt b20 0) else w.2 m')) (aa (mapc r4 .i64 (fun _ => 0)) (aa (tI b5 g z14.1 z14.2.1 z14.2.2 r3 r4) (aa (jG y6) (aa (kU b7 y6) (aa (jG y9) (aa (kU b10 y9) (aa (jG y12) (aa (kU b13 y12) (aa (pv z14.1 z14.2.1 z14.2.2 y6 y9 y12) (aa (sv b15 w.1 x y16.1 y16.2.1 y16.2.2) (F))))))))))))))))))))) (Ent.trans (Ent.take (Q := (aa ((aa (BS b20 w.1 x y16.1 y16.2.1 y16.2.2 b3) (aa (pu y16.1 y16.2.1 y16.2.2) (aa (BR b3 x n) (Lks (SwL x (Jt x n)) w.1 w.2))))) (aa (gy z) (aa (gx z) (aa (dJ x n yy) (aa (qq3 n z) (aa (TOS yy n) (aa (iS b1 z yy n) (aa (am b2 [I 0, I 0] 132) (aa (az r3 .i64 (fun m' => if m' = 10 + ((w.1 : Nat) : Int) then some (Pt b20 0) else w.2 m')) (aa (mapc r4 .i64 (fun _ => 0)) (aa (tI b5 g z14.1 z14.2.1 z14.2.2 r3 r4) (aa (jG y6) (aa (kU b7 y6) (aa (jG y9) (aa (kU b10 y9) (aa (jG y12) (aa (kU b13 y12) (aa (pv z14.1 z14.2.1 z14.2.2 y6 y9 y12) (aa (sv b15 w.1 x y16.1 y16.2.1 y16.2.2) (F)))))))))))))))))))))) (Ent.frame (Ent.trans (Ent.take (Q := (aa ((aa (BS b20 w.1 x y16.1 y16.2.1 y16.2.2 b3) (aa (pu y16.1 y16.2.1 y16.2.2) (BR b3 x n)))) (Lks (SwL x (Jt x n)) w.1 w.2)))) (SwL.step x (Jt x n) (fun | 0 => b20 | 1 => y16.1 | 2 => y16.2.1 | 3 => y16.2.2 | _ => b3))) _)) ?_
  exact bO ((w.1 + 1, fun m' => if m' = 10 + ((w.1 : Nat) : Int) then some (Pt b20 0) else w.2 m')) ⟨by omega, qq hd⟩ (by omega) ⟨r, r, r, r, r, r, r, r, r, r, r, r, r, r, r, r, r, r, trivial⟩ Ent.take
 ·have e : w.1 = n := by omega
  refine fC ((aa (LkM (SwL x (Jt x n)) n r3) (aa (gy z) (aa (gx z) (aa (dJ x n yy) (aa (qq3 n z) (aa (TOS yy n) (aa (iS b1 z yy n) (aa (am b2 [I 0, I 0] 132) (aa (mapc r4 .i64 (fun _ => 0)) (aa (tI b5 g z14.1 z14.2.1 z14.2.2 r3 r4) (aa (jG y6) (aa (kU b7 y6) (aa (jG y9) (aa (kU b10 y9) (aa (jG y12) (aa (kU b13 y12) (aa (pv z14.1 z14.2.1 z14.2.2 y6 y9 y12) (F))))))))))))))))))) (Ent.trans (Ent.take (Q := (aa ((aa (az r3 .i64 w.2) (Lks (SwL x (Jt x n)) w.1 w.2))) (aa (gy z) (aa (gx z) (aa (dJ x n yy) (aa (qq3 n z) (aa (TOS yy n) (aa (iS b1 z yy n) (aa (am b2 [I 0, I 0] 132) (aa (mapc r4 .i64 (fun _ => 0)) (aa (tI b5 g z14.1 z14.2.1 z14.2.2 r3 r4) (aa (jG y6) (aa (kU b7 y6) (aa (jG y9) (aa (kU b10 y9) (aa (jG y12) (aa (kU b13 y12) (aa (pv z14.1 z14.2.1 z14.2.2 y6 y9 y12) (F)))))))))))))))))))) (Ent.frame (LkM.fold e hd) _))<|jx<|ke<|ke<|kh<|kt<|sr<|ec r<|nk<|jr ?_
  exact bM r (.tmp r (.tmp r (.nil))) (b5, r3, r4, z14.1, z14.2.1, z14.2.2, y6, y9, y12) trivial r Ent.take
theorem Ho (n : Nat) (hn : n = 1 \/ n = 2 \/ n = 3) (x : Cf) (yy : VlA) (z : CfA) : FSpec prog 96 #[.agg (n6 z yy n).toArray, I 0] ((aa (gy z) (aa (gx z) (aa (dJ x n yy) (aa (qq3 n z) (TOS yy n)))))) (fun _ : Nat × Nat × Nat × Nat × Nat × Nat × Nat => True) (fun y => .tuple #[Pt y.1 0, I 0]) (fun y => (aa (gy z) (aa (gx z) (aa (dJ x n yy) (aa (qq3 n z) (aa (TOS yy n) (aa (LkM (EtL x) n y.2.1) (aa (m7 y.2.2.1 y.2.2.2.1 n y.2.2.2.2.1) (aa (qw y.2.2.2.2.2.1) (aa (az y.2.2.2.2.2.2 .i64 (fun _ => none)) (tH y.1 z yy n y.2.1 y.2.2.1 y.2.2.2.1 y.2.2.2.2.1 y.2.2.2.2.2.1 y.2.2.2.2.2.2))))))))))) := by
 refine en func96 r fun _ F=>sr<|bx r fun b1=>eb r<|nj<|sr<|ls r<|cy (lV n hn x yy z) r fun _=>ec r<|al r fun b2=>so r r<|an r<|sb r<|nf r<|sk<|js<|sr<|ec r<|go r<|ea r<|go r<|fa 0 r<|go r<|ld r r<|go r<|bf r<|sk ?_
 refine gO (X := Nat × Nat × Nat × Nat × Nat × Nat × Nat) (fun x59 => [(0, .agg (n6 z yy n).toArray), (1, I 0), (2, Pt b1 0), (4, Np), (5, I 0), (7, I 0), (21, Ff), (30, Ff), (8, Pt x59.2.2.2.2.2.2 0)]) (fun x59 => (aa (gy z) (aa (gx z) (aa (dJ x n yy) (aa (qq3 n z) (aa (TOS yy n) (aa (iS b1 z yy n) (aa (am b2 [I 0, I 0] 132) (aa (az x59.1 .i64 (fun _ => none)) (aa (m7 x59.2.1 x59.2.2.1 n x59.2.2.2.1) (aa (qw x59.2.2.2.2.1) (aa (az x59.2.2.2.2.2.1 .i64 (fun _ => none)) (aa (tH x59.2.2.2.2.2.2 z yy n x59.1 x59.2.1 x59.2.2.1 x59.2.2.2.1 x59.2.2.2.2.1 x59.2.2.2.2.2.1) (F)))))))))))))) (fun _ => True) ?_ (fun x59 _ => ?_)
 ·refine av (iS b1 z yy n) (emp) [] ae<|pe 1 r r<|pe 4 r r<|ps 0 r (ax r)<|ps 3 r (ax r) ?_
  refine k8 [2, 5, 7] (by kernel_rfl) rfl fun i hi => ?_
  simp only [List.mem_cons, List.not_mem_nil, or_false] at hi
  rcases hi with rfl | rfl | rfl
  ·refine bT r r (aU .i64 r) fun r13 _=>?_
   refine k8 [5, 7] (by kernel_rfl) rfl fun i hi => ?_
   simp only [List.mem_cons, List.not_mem_nil, or_false] at hi
   rcases hi with rfl | rfl
   ·refine bT r r (ai (oh n hn x yy (I 3) (Sk z.pb z.po 3 z.pc) (I 1000) (Sk z.wb z.wo 3 z.wc) (Sk z.rb z.ro (bL n) z.rc)) r r r) fun y14 _=>?_
    refine k8 [6, 7] (by kernel_rfl) rfl fun i hi => ?_
    simp only [List.mem_cons, List.not_mem_nil, or_false] at hi
    rcases hi with rfl | rfl
    ·refine bT r r (ai (Mq.New_spec) r r r) fun y15 _=>pn 7 r (aU .i64 r) fun r16 _=>ps 8 r (af r)<|pn 9 r (aV r r) fun b17 _=>pe 10 r r<|dn<|kc (r13, y14.1, y14.2.1, y14.2.2, y15, r16, b17) r Ent.take
    ·refine bT r r (aU .i64 r) fun r18 _=>pn 6 r (ai (Mq.New_spec) r r r) fun y19 _=>ps 8 r (af r)<|pn 9 r (aV r r) fun b20 _=>pe 10 r r<|dn<|kc (r13, y14.1, y14.2.1, y14.2.2, y19, r18, b20) r Ent.take
   ·refine bT r r (aU .i64 r) fun r21 _=>pn 5 r (ai (oh n hn x yy (I 3) (Sk z.pb z.po 3 z.pc) (I 1000) (Sk z.wb z.wo 3 z.wc) (Sk z.rb z.ro (bL n) z.rc)) r r r) fun y22 _=>pn 6 r (ai (Mq.New_spec) r r r) fun y23 _=>ps 8 r (af r)<|pn 9 r (aV r r) fun b24 _=>pe 10 r r<|dn<|kc (r13, y22.1, y22.2.1, y22.2.2, y23, r21, b24) r Ent.take
  ·refine bT r r (ai (oh n hn x yy (I 3) (Sk z.pb z.po 3 z.pc) (I 1000) (Sk z.wb z.wo 3 z.wc) (Sk z.rb z.ro (bL n) z.rc)) r r r) fun y25 _=>?_
   refine k8 [2, 6, 7] (by kernel_rfl) rfl fun i hi => ?_
   simp only [List.mem_cons, List.not_mem_nil, or_false] at hi
   rcases hi with rfl | rfl | rfl
   ·refine bT r r (aU .i64 r) fun r26 _=>?_
    refine k8 [6, 7] (by kernel_rfl) rfl fun i hi => ?_
    simp only [List.mem_cons, List.not_mem_nil, or_false] at hi
    rcases hi with rfl | rfl
    ·refine bT r r (ai (Mq.New_spec) r r r) fun y27 _=>pn 7 r (aU .i64 r) fun r28 _=>ps 8 r (af r)<|pn 9 r (aV r r) fun b29 _=>pe 10 r r<|dn<|kc (r26, y25.1, y25.2.1, y25.2.2, y27, r28, b29) r Ent.take
    ·refine bT r r (aU .i64 r) fun r30 _=>pn 6 r (ai (Mq.New_spec) r r r) fun y31 _=>ps 8 r (af r)<|pn 9 r (aV r r) fun b32 _=>pe 10 r r<|dn<|kc (r26, y25.1, y25.2.1, y25.2.2, y31, r30, b32) r Ent.take
   ·refine bT r r (ai (Mq.New_spec) r r r) fun y33 _=>?_
    refine k8 [2, 7] (by kernel_rfl) rfl fun i hi => ?_
    simp only [List.mem_cons, List.not_mem_nil, or_false] at hi
    rcases hi with rfl | rfl
    ·refine bT r r (aU .i64 r) fun r34 _=>pn 7 r (aU .i64 r) fun r35 _=>ps 8 r (af r)<|pn 9 r (aV r r) fun b36 _=>pe 10 r r<|dn<|kc (r34, y25.1, y25.2.1, y25.2.2, y33, r35, b36) r Ent.take
    ·refine bT r r (aU .i64 r) fun r37 _=>pn 2 r (aU .i64 r) fun r38 _=>ps 8 r (af r)<|pn 9 r (aV r r) fun b39 _=>pe 10 r r<|dn<|kc (r38, y25.1, y25.2.1, y25.2.2, y33, r37, b39) r Ent.take
   ·refine bT r r (aU .i64 r) fun r40 _=>?_
    refine k8 [2, 6] (by kernel_rfl) rfl fun i hi => ?_
    simp only [List.mem_cons, List.not_mem_nil, or_false] at hi
    rcases hi with rfl | rfl
    ·refine bT r r (aU .i64 r) fun r41 _=>pn 6 r (ai (Mq.New_spec) r r r) fun y42 _=>ps 8 r (af r)<|pn 9 r (aV r r) fun b43 _=>pe 10 r r<|dn<|kc (r41, y25.1, y25.2.1, y25.2.2, y42, r40, b43) r Ent.take
    ·refine bT r r (ai (Mq.New_spec) r r r) fun y44 _=>pn 2 r (aU .i64 r) fun r45 _=>ps 8 r (af r)<|pn 9 r (aV r r) fun b46 _=>pe 10 r r<|dn<|kc (r45, y25.1, y25.2.1, y25.2.2, y44, r40, b46) r Ent.take
  ·refine bT r r (aU .i64 r) fun r47 _=>?_
   refine k8 [2, 5] (by kernel_rfl) rfl fun i hi => ?_
   simp only [List.mem_cons, List.not_mem_nil, or_false] at hi
   rcases hi with rfl | rfl
   ·refine bT r r (aU .i64 r) fun r48 _=>pn 5 r (ai (oh n hn x yy (I 3) (Sk z.pb z.po 3 z.pc) (I 1000) (Sk z.wb z.wo 3 z.wc) (Sk z.rb z.ro (bL n) z.rc)) r r r) fun y49 _=>pn 6 r (ai (Mq.New_spec) r r r) fun y50 _=>ps 8 r (af r)<|pn 9 r (aV r r) fun b51 _=>pe 10 r r<|dn<|kc (r48, y49.1, y49.2.1, y49.2.2, y50, r47, b51) r Ent.take
   ·refine bT r r (ai (oh n hn x yy (I 3) (Sk z.pb z.po 3 z.pc) (I 1000) (Sk z.wb z.wo 3 z.wc) (Sk z.rb z.ro (bL n) z.rc)) r r r) fun y52 _=>?_
    refine k8 [2, 6] (by kernel_rfl) rfl fun i hi => ?_
    simp only [List.mem_cons, List.not_mem_nil, or_false] at hi
    rcases hi with rfl | rfl
    ·refine bT r r (aU .i64 r) fun r53 _=>pn 6 r (ai (Mq.New_spec) r r r) fun y54 _=>ps 8 r (af r)<|pn 9 r (aV r r) fun b55 _=>pe 10 r r<|dn<|kc (r53, y52.1, y52.2.1, y52.2.2, y54, r47, b55) r Ent.take
    ·refine bT r r (ai (Mq.New_spec) r r r) fun y56 _=>pn 2 r (aU .i64 r) fun r57 _=>ps 8 r (af r)<|pn 9 r (aV r r) fun b58 _=>pe 10 r r<|dn<|kc (r57, y52.1, y52.2.1, y52.2.2, y56, r47, b58) r Ent.take
 ·refine js<|sb r<|lf 8 r r<|ll r<|an r<|jb<|bX (X := Nat × (Int -> Option Value)) (fun w => [(0, .agg (n6 z yy n).toArray), (1, I 0), (2, Pt b1 0), (4, Np), (5, I 0), (7, I 0), (21, Ff), (30, Ff), (8, Pt x59.2.2.2.2.2.2 0), (44, Sk x59.2.1 x59.2.2.1 n x59.2.2.2.1), (45, I ((n : Nat) : Int)), (46, I ((w.1 : Nat) : Int))]) (fun w => (aa (gy z) (aa (gx z) (aa (dJ x n yy) (aa (qq3 n z) (aa (TOS yy n) (aa (iS b1 z yy n) (aa (am b2 [I 0, I 0] 132) (aa (az x59.1 .i64 w.2) (aa (m7 x59.2.1 x59.2.2.1 n x59.2.2.2.1) (aa (qw x59.2.2.2.2.1) (aa (az x59.2.2.2.2.2.1 .i64 (fun _ => none)) (aa (tH x59.2.2.2.2.2.2 z yy n x59.1 x59.2.1 x59.2.2.1 x59.2.2.2.1 x59.2.2.2.2.1 x59.2.2.2.2.2.1) (aa (Lks (EtL x) w.1 w.2) (F))))))))))))))) (fun w => w.1 <= n /\ ∀ m, w.2 m ≠ none -> 10 <= m /\ m < 10 + (w.1 : Int)) (fun w => n - w.1) ((0, fun _ => none)) ⟨Nat.zero_le _, fun _ h => absurd r h⟩ ⟨r, r, r, r, r, r, r, r, r, r, r, r, trivial⟩ (Ent.trans (Ent.of (bN _).symm) (Ent.trans ((Lks.nil (EtL x) (fun _ => none)).frame _) Ent.take)) fun w hz=>?_
  obtain ⟨hz, hd⟩ := hz
  refine sr<|lv (aM r r) r<|nj<|aG r (fun hc => ?_) fun hc=>?_
  ·refine sk<|js<|jb<|sr<|lv ((au r r (by omega)).as (v' := Pt x59.2.1 (x59.2.2.1 + w.1 * 1)) (by rw [Int.toNat_natCast])) r<|lv (ar r ((BG (n := n) (c := x59.2.2.2.1) (i := w.1) (by omega)) 0 _ r)) r<|an r<|sr<|ls r<|ea r<|cy (Gv n hn x yy (I 3) (Sk z.pb z.po 3 z.pc) (I 1000) (Sk z.wb z.wo 3 z.wc) (Sk z.rb z.ro (bL n) z.rc) w.1 (by omega : w.1 < n)) r fun y60=>ec r<|al r fun b61=>so r r<|an r<|sr ?_
   refine ls r<|lv (af r) r<|bx r fun b62=>an r<|aE r<|js<|sa r<|lf 5 r r<|aW func127 r<|sb r<|nj<|sr<|ec r<|go r<|ea r<|go r<|ec r<|go r<|ea r<|go r<|ec r<|go r<|ea r<|go r<|bf r<|sk<|sb r<|lv (af r) r<|bx r fun b27=>eb r<|nk<|jr<|sT r (.tmp r (.tmp r (.nil))) r<|ed r<|fa 8 r<|so r r<|an r<|sb r<|nf r<|sk<|js<|sa r<|lf 2 r r<|aW func128 r<|sb r<|nj<|sa r<|aW func157 r ?_
   refine aE r<|sa r<|lv ((dt r r).bool_t (by have := x.h; omega)) r<|ea r<|go r<|ea r<|go r<|lv ((fh r r).bool_t (by have := x.h; omega)) r<|eb r<|nk<|jr<|cX r<|an r<|cf r<|sk<|sa r<|lv (bw r (Go.IntWalk.u64_in _ (by have := x.h; omega))) r<|lv (af r) r<|bx r fun b28=>eb r<|nk<|jr<|sT r (.tmp r (.tmp r (.nil))) r<|ed r<|fa 9 r<|so r r<|an r<|sb r<|nf r<|sk<|jg<|eb r<|lf 7 r r<|eb r<|lx r (dh r r r) fun _ _=>ln<|kb<|kt<|jg<|gE r<|ea r<|ln<|oy ((aa (Lks (EtL x) (w.1 + 1) (fun m' => if m' = 10 + ((w.1 : Nat) : Int) then some (Pt b62 0) else w.2 m')) (aa (gy z) (aa (gx z) (aa (dJ x n yy) (aa (qq3 n z) (aa (TOS yy n) (aa (iS b1 z yy n) (aa (am b2 [I 0, I 0] 132) (aa (az x59.1 .i64 (fun m' => if m' = 10 + ((w.1 : Nat) : Int) then some (Pt b62 0) else w.2 m')) (aa (m7 x59.2.1 x59.2.2.1 n x59.2.2.2.1) (aa (qw x59.2.2.2.2.1) (aa (az x59.2.2.2.2.2.1 .i64 (fun _ => none)) (aa (tH x59.2.2.2.2.2.2 z yy n x59.1 x59.2.1 x59.2.2.1 x59.2.2.2.1 x59.2.2.2.2.1 x59.2.2.2.2.2.1) (aa (sv b61 w.1 x y60.1 y60.2.1 y60.2.2) (F)))))))))))))))) (Ent.trans (Ent.take (Q := (aa ((aa (BQ b62 w.1 x y60.1 y60.2.1 y60.2.2 b27 b28) (aa (pu y60.1 y60.2.1 y60.2.2) (aa (am b27 Gn 326) (aa (am b28 [.int .u64 x.bg, Ff, I 0, I 0, I 0] 330) (Lks (EtL x) w.1 w.2)))))) (aa (gy z) (aa (gx z) (aa (dJ x n yy) (aa (qq3 n z) (aa (TOS yy n) (aa (iS b1 z yy n) (aa (am b2 [I 0, I 0] 132) (aa (az x59.1 .i64 (fun m' => if m' = 10 + ((w.1 : Nat) : Int) then some (Pt b62 0) else w.2 m')) (aa (m7 x59.2.1 x59.2.2.1 n x59.2.2.2.1) (aa (qw x59.2.2.2.2.1) (aa (az x59.2.2.2.2.2.1 .i64 (fun _ => none)) (aa (tH x59.2.2.2.2.2.2 z yy n x59.1 x59.2.1 x59.2.2.1 x59.2.2.2.1 x59.2.2.2.2.1 x59.2.2.2.2.2.1) (aa (sv b61 w.1 x y60.1 y60.2.1 y60.2.2) (F))))))))))))))))) (Ent.frame (Ent.trans (Ent.take (Q := (aa ((aa (BQ b62 w.1 x y60.1 y60.2.1 y60.2.2 b27 b28) (aa (pu y60.1 y60.2.1 y60.2.2) (aa (am b27 Gn 326) (am b28 [.int .u64 x.bg, Ff, I 0, I 0, I 0] 330))))) (Lks (EtL x) w.1 w.2)))) (EtL.step x (fun | 0 => b62 | 1 => y60.1 | 2 => y60.2.1 | 3 => y60.2.2 | 4 => b27 | _ => b28))) _)) ?_
   exact bO ((w.1 + 1, fun m' => if m' = 10 + ((w.1 : Nat) : Int) then some (Pt b62 0) else w.2 m')) ⟨by omega, qq hd⟩ (by omega) ⟨r, r, r, r, r, r, r, r, r, r, r, r, trivial⟩ Ent.take
  ·have e : w.1 = n := by omega
   refine fC ((aa (LkM (EtL x) n x59.1) (aa (gy z) (aa (gx z) (aa (dJ x n yy) (aa (qq3 n z) (aa (TOS yy n) (aa (iS b1 z yy n) (aa (am b2 [I 0, I 0] 132) (aa (m7 x59.2.1 x59.2.2.1 n x59.2.2.2.1) (aa (qw x59.2.2.2.2.1) (aa (az x59.2.2.2.2.2.1 .i64 (fun _ => none)) (aa (tH x59.2.2.2.2.2.2 z yy n x59.1 x59.2.1 x59.2.2.1 x59.2.2.2.1 x59.2.2.2.2.1 x59.2.2.2.2.2.1) (F)))))))))))))) (Ent.trans (Ent.take (Q := (aa ((aa (az x59.1 .i64 w.2) (Lks (EtL x) w.1 w.2))) (aa (gy z) (aa (gx z) (aa (dJ x n yy) (aa (qq3 n z) (aa (TOS yy n) (aa (iS b1 z yy n) (aa (am b2 [I 0, I 0] 132) (aa (m7 x59.2.1 x59.2.2.1 n x59.2.2.2.1) (aa (qw x59.2.2.2.2.1) (aa (az x59.2.2.2.2.2.1 .i64 (fun _ => none)) (aa (tH x59.2.2.2.2.2.2 z yy n x59.1 x59.2.1 x59.2.2.1 x59.2.2.2.1 x59.2.2.2.2.1 x59.2.2.2.2.2.1) (F))))))))))))))) (Ent.frame (LkM.fold e hd) _))<|jx<|ke<|ke<|kh<|kt<|sr<|ec r<|nk<|jr ?_
   exact bM r (.tmp r (.tmp r (.nil))) (x59.2.2.2.2.2.2, x59.1, x59.2.1, x59.2.2.1, x59.2.2.2.1, x59.2.2.2.2.1, x59.2.2.2.2.2.1) trivial r Ent.take
theorem Hp (n : Nat) (hn : n = 1 \/ n = 2 \/ n = 3) (x : Cf) (yy : VlA) (z : CfA) (h : Int) (hh : h = 1 \/ h = 2) : FSpec prog 96 #[.agg (n6 z yy n).toArray, I h] ((aa (gy z) (aa (gx z) (aa (dJ x n yy) (aa (qq3 n z) (TOS yy n)))))) (fun _ : Nat × Nat × Nat × Nat => True) (fun y => .tuple #[Pt y.1 0, I 0]) (fun y => (aa (gy z) (aa (gx z) (aa (dJ x n yy) (aa (qq3 n z) (aa (TOS yy n) (aa (az y.2.1 .i64 (fun _ => none)) (aa (qw y.2.2.1) (aa (az y.2.2.2 .i64 (fun _ => none)) (BP y.1 z yy n h y.2.1 y.2.2.1 y.2.2.2)))))))))) := by
 refine en func96 r fun _ F=>sr<|bx r fun b1=>eb r<|nj<|sr<|ls r<|cy (lV n hn x yy z) r fun _=>ec r<|al r fun b2=>so r r<|an r<|sb r<|nf r<|sk<|js<|sa r<|bJ r<|ea r<|go r<|ea r<|go r<|fa 0 r<|go r<|ld r r<|go r<|bJ r<|an r<|cf r<|sk ?_
 refine gO (X := Nat × Nat × Nat × Nat) (fun x52 => [(0, .agg (n6 z yy n).toArray), (1, I h), (2, Pt b1 0), (4, Np), (5, I 0), (7, I 0), (21, Ff), (30, Ff), (8, Pt x52.2.2.2 0)]) (fun x52 => (aa (gy z) (aa (gx z) (aa (dJ x n yy) (aa (qq3 n z) (aa (TOS yy n) (aa (iS b1 z yy n) (aa (am b2 [I 0, I 0] 132) (aa (az x52.1 .i64 (fun _ => none)) (aa (qw x52.2.1) (aa (az x52.2.2.1 .i64 (fun _ => none)) (aa (BP x52.2.2.2 z yy n h x52.1 x52.2.1 x52.2.2.1) (F))))))))))))) (fun _ => True) ?_ (fun x52 _ => ?_)
 ·refine av (iS b1 z yy n) (emp) [] ae<|pe 1 r r<|pe 4 r r<|ps 0 r (ax r)<|ps 3 r (ax r) ?_
  refine k8 [2, 5, 7] (by kernel_rfl) rfl fun i hi => ?_
  simp only [List.mem_cons, List.not_mem_nil, or_false] at hi
  rcases hi with rfl | rfl | rfl
  ·refine bT r r (aU .i64 r) fun r11 _=>?_
   refine k8 [5, 7] (by kernel_rfl) rfl fun i hi => ?_
   simp only [List.mem_cons, List.not_mem_nil, or_false] at hi
   rcases hi with rfl | rfl
   ·refine bT r r (ai (og n hn x yy (I 3) (Sk z.pb z.po 3 z.pc) (I 1000) (Sk z.wb z.wo 3 z.wc) (qq23 z n) h (by omega)) r r r) fun _ _=>?_
    refine k8 [6, 7] (by kernel_rfl) rfl fun i hi => ?_
    simp only [List.mem_cons, List.not_mem_nil, or_false] at hi
    rcases hi with rfl | rfl
    ·refine bT r r (ai (Mq.New_spec) r r r) fun y12 _=>pn 7 r (aU .i64 r) fun r13 _=>ps 8 r (af r)<|pn 9 r (aV r r) fun b14 _=>pe 10 r r<|dn<|kc (r11, y12, r13, b14) r Ent.take
    ·refine bT r r (aU .i64 r) fun r15 _=>pn 6 r (ai (Mq.New_spec) r r r) fun y16 _=>ps 8 r (af r)<|pn 9 r (aV r r) fun b17 _=>pe 10 r r<|dn<|kc (r11, y16, r15, b17) r Ent.take
   ·refine bT r r (aU .i64 r) fun r18 _=>pn 5 r (ai (og n hn x yy (I 3) (Sk z.pb z.po 3 z.pc) (I 1000) (Sk z.wb z.wo 3 z.wc) (qq23 z n) h (by omega)) r r r) fun _ _=>pn 6 r (ai (Mq.New_spec) r r r) fun y19 _=>ps 8 r (af r)<|pn 9 r (aV r r) fun b20 _=>pe 10 r r<|dn<|kc (r11, y19, r18, b20) r Ent.take
  ·refine bT r r (ai (og n hn x yy (I 3) (Sk z.pb z.po 3 z.pc) (I 1000) (Sk z.wb z.wo 3 z.wc) (qq23 z n) h (by omega)) r r r) fun _ _=>?_
   refine k8 [2, 6, 7] (by kernel_rfl) rfl fun i hi => ?_
   simp only [List.mem_cons, List.not_mem_nil, or_false] at hi
   rcases hi with rfl | rfl | rfl
   ·refine bT r r (aU .i64 r) fun r21 _=>?_
    refine k8 [6, 7] (by kernel_rfl) rfl fun i hi => ?_
    simp only [List.mem_cons, List.not_mem_nil, or_false] at hi
    rcases hi with rfl | rfl
    ·refine bT r r (ai (Mq.New_spec) r r r) fun y22 _=>pn 7 r (aU .i64 r) fun r23 _=>ps 8 r (af r)<|pn 9 r (aV r r) fun b24 _=>pe 10 r r<|dn<|kc (r21, y22, r23, b24) r Ent.take
    ·refine bT r r (aU .i64 r) fun r25 _=>pn 6 r (ai (Mq.New_spec) r r r) fun y26 _=>ps 8 r (af r)<|pn 9 r (aV r r) fun b27 _=>pe 10 r r<|dn<|kc (r21, y26, r25, b27) r Ent.take
   ·refine bT r r (ai (Mq.New_spec) r r r) fun y28 _=>?_
    refine k8 [2, 7] (by kernel_rfl) rfl fun i hi => ?_
    simp only [List.mem_cons, List.not_mem_nil, or_false] at hi
    rcases hi with rfl | rfl
    ·refine bT r r (aU .i64 r) fun r29 _=>pn 7 r (aU .i64 r) fun r30 _=>ps 8 r (af r)<|pn 9 r (aV r r) fun b31 _=>pe 10 r r<|dn<|kc (r29, y28, r30, b31) r Ent.take
    ·refine bT r r (aU .i64 r) fun r32 _=>pn 2 r (aU .i64 r) fun r33 _=>ps 8 r (af r)<|pn 9 r (aV r r) fun b34 _=>pe 10 r r<|dn<|kc (r33, y28, r32, b34) r Ent.take
   ·refine bT r r (aU .i64 r) fun r35 _=>?_
    refine k8 [2, 6] (by kernel_rfl) rfl fun i hi => ?_
    simp only [List.mem_cons, List.not_mem_nil, or_false] at hi
    rcases hi with rfl | rfl
    ·refine bT r r (aU .i64 r) fun r36 _=>pn 6 r (ai (Mq.New_spec) r r r) fun y37 _=>ps 8 r (af r)<|pn 9 r (aV r r) fun b38 _=>pe 10 r r<|dn<|kc (r36, y37, r35, b38) r Ent.take
    ·refine bT r r (ai (Mq.New_spec) r r r) fun y39 _=>pn 2 r (aU .i64 r) fun r40 _=>ps 8 r (af r)<|pn 9 r (aV r r) fun b41 _=>pe 10 r r<|dn<|kc (r40, y39, r35, b41) r Ent.take
  ·refine bT r r (aU .i64 r) fun r42 _=>?_
   refine k8 [2, 5] (by kernel_rfl) rfl fun i hi => ?_
   simp only [List.mem_cons, List.not_mem_nil, or_false] at hi
   rcases hi with rfl | rfl
   ·refine bT r r (aU .i64 r) fun r43 _=>pn 5 r (ai (og n hn x yy (I 3) (Sk z.pb z.po 3 z.pc) (I 1000) (Sk z.wb z.wo 3 z.wc) (qq23 z n) h (by omega)) r r r) fun _ _=>pn 6 r (ai (Mq.New_spec) r r r) fun y44 _=>ps 8 r (af r)<|pn 9 r (aV r r) fun b45 _=>pe 10 r r<|dn<|kc (r43, y44, r42, b45) r Ent.take
   ·refine bT r r (ai (og n hn x yy (I 3) (Sk z.pb z.po 3 z.pc) (I 1000) (Sk z.wb z.wo 3 z.wc) (qq23 z n) h (by omega)) r r r) fun _ _=>?_
    refine k8 [2, 6] (by kernel_rfl) rfl fun i hi => ?_
    simp only [List.mem_cons, List.not_mem_nil, or_false] at hi
    rcases hi with rfl | rfl
    ·refine bT r r (aU .i64 r) fun r46 _=>pn 6 r (ai (Mq.New_spec) r r r) fun y47 _=>ps 8 r (af r)<|pn 9 r (aV r r) fun b48 _=>pe 10 r r<|dn<|kc (r46, y47, r42, b48) r Ent.take
    ·refine bT r r (ai (Mq.New_spec) r r r) fun y49 _=>pn 2 r (aU .i64 r) fun r50 _=>ps 8 r (af r)<|pn 9 r (aV r r) fun b51 _=>pe 10 r r<|dn<|kc (r50, y49, r42, b51) r Ent.take
 ·refine js<|sb r<|lf 8 r r<|ll r<|an r<|jl<|uf r<|kt<|sr<|ec r<|nk<|jr ?_
  exact bM r (.tmp r (.tmp r (.nil))) (x52.2.2.2, x52.1, x52.2.1, x52.2.2.1) trivial r Ent.take
theorem EZ (n : Nat) (hn : n = 1 \/ n = 2 \/ n = 3) (x : Cf) (yy : VlA) (z : CfA) : FSpec prog 131 #[] (emp) (fun _ : Nat => True) (fun y => Pt y 0) (fun y => am y qq35 332) := by
 refine en func131 r fun _ F=>bG<|aE r<|sr<|lv (af r) r<|bx r fun b1=>an r<|jr ?_
 exact bM r (.tmp r (.nil)) b1 trivial r Ent.take
theorem HE (n : Nat) (hn : n = 1 \/ n = 2 \/ n = 3) (x : Cf) (yy : VlA) (z : CfA) : FSpec prog 97 #[.agg (n6 z yy n).toArray, I 1] ((aa (gy z) (aa (gx z) (aa (dJ x n yy) (aa (qq3 n z) (TOS yy n)))))) (fun _ : Nat × Nat × Nat × Nat => True) (fun y => .tuple #[Pt y.1 0, I 0]) (fun y => (aa (gy z) (aa (gx z) (aa (dJ x n yy) (aa (qq3 n z) (aa (TOS yy n) (aa (n7 y.2.1) (aa (LkM (ErL x) n y.2.2.1) (aa (mapc y.2.2.2 .i64 (fun _ => 0)) (pp y.1 z yy n y.2.2.1 y.2.1 y.2.2.2)))))))))) := by
 refine en func97 r fun _ F=>sr<|bx r fun b1=>eb r<|nj<|sr<|ls r<|cy (lV n hn x yy z) r fun _=>ec r<|al r fun b2=>so r r<|an r<|sb r<|nf r<|sk<|js<|sr<|ec r<|go r<|ea r<|go r<|fa 0 r<|go r<|ld r r<|go r<|bf r<|sk<|sr<|aW func129 r<|sb r<|nr<|cy (yF 64 1099511627776 (by decide) (by decide)) r fun y1=>ed r<|an r<|js<|sb r<|nf r<|sk<|sr<|ec r<|cy (sG y1) r fun _=>eb r<|nk<|jr<|sT r (.tmp r (.tmp r (.nil))) r<|ed r<|an r<|js<|sb r<|nf r<|sk<|sr<|ls r<|ea r<|lx r (aU .i64 r) fun r4 _=>ea r<|lx r (i5 .i64 r) fun r5 _=>lv (af r) r<|bx r fun b6=>an r<|js<|sr<|ls r<|ea r<|cy (Dt n hn x yy (I 3) (Sk z.pb z.po 3 z.pc) (I 1000) (Sk z.wb z.wo 3 z.wc) (Sk z.rb z.ro (bL n) z.rc)) r fun y7=>ll r<|an r<|jb<|bX (X := Nat × (Int -> Option Value)) (fun w => [(0, .agg (n6 z yy n).toArray), (1, I 1), (2, Pt b1 0), (4, Np), (5, I 0), (7, I 0), (23, Ff), (32, Ff), (8, Pt y1 0), (9, I 0), (38, Ff), (10, Pt b6 0), (49, Sk y7.1 y7.2.1 n y7.2.2), (50, I ((n : Nat) : Int)), (51, I ((w.1 : Nat) : Int))]) (fun w => (aa (gy z) (aa (gx z) (aa (dJ x n yy) (aa (qq3 n z) (aa (TOS yy n) (aa (iS b1 z yy n) (aa (am b2 [I 0, I 0] 132) (aa (n7 y1) (aa (az r4 .i64 w.2) (aa (mapc r5 .i64 (fun _ => 0)) (aa (pp b6 z yy n r4 y1 r5) (aa (m7 y7.1 y7.2.1 n y7.2.2) (aa (Lks (ErL x) w.1 w.2) (F))))))))))))))) (fun w => w.1 <= n /\ ∀ m, w.2 m ≠ none -> 10 <= m /\ m < 10 + (w.1 : Int)) (fun w => n - w.1) ((0, fun _ => none)) ⟨Nat.zero_le _, fun _ h => absurd r h⟩ ⟨r, r, r, r, r, r, r, r, r, r, r, r, r, r, r, trivial⟩ (Ent.trans (Ent.of (bN _).symm) (Ent.trans ((Lks.nil (ErL x) (fun _ => none)).frame _) Ent.take)) fun w hz=>?_
 obtain ⟨hz, hd⟩ := hz
 refine sr<|lv (aM r r) r<|nj<|aG r (fun hc => ?_) fun hc=>?_
 ·refine sk<|js<|jb<|sr<|lv ((au r r (by omega)).as (v' := Pt y7.1 (y7.2.1 + w.1 * 1)) (by rw [Int.toNat_natCast])) r<|lv (ar r ((BG (n := n) (c := y7.2.2) (i := w.1) (by omega)) 0 _ r)) r<|an r<|sr<|ls r<|ea r<|cy (Gv n hn x yy (I 3) (Sk z.pb z.po 3 z.pc) (I 1000) (Sk z.wb z.wo 3 z.wc) (Sk z.rb z.ro (bL n) z.rc) w.1 (by omega : w.1 < n)) r fun y8=>ec r<|al r fun b9=>so r r<|an r<|sr ?_
  refine ls r<|lv (af r) r<|bx r fun b10=>an r<|js<|aE r<|jl<|ut r<|js<|jb<|sb r<|nk<|av (emp) (emp) [] ae<|pe 0 r r<|pe 1 r r<|pe 3 r r<|pf 4 8 r r<|pn 2 r (ai (EZ n hn x yy z) r r r) fun y12 _=>ps 5 r (bZ 8 r r r r)<|pn 6 r (aI r r r (List.all_eq_true.1 r)) fun _ _=>dn<|ni (I 1) r<|ut r<|js<|jb<|sb r<|nk<|av (emp) (emp) [] ae<|pe 0 r r<|pe 1 r r<|pe 3 r r<|pf 4 8 r r<|pn 2 r (ai (EZ n hn x yy z) r r r) fun y14 _=>ps 5 r (bZ 9 r r r r)<|pn 6 r (aI r r r (List.all_eq_true.1 r)) fun _ _=>dn<|ni (I 2) r<|uf r<|kt<|js<|sa r<|lf 6 r r<|aW func132 r<|sb r<|nj<|sr<|ec r<|go r<|ea r<|go r<|bf r<|sk<|sa r<|lv (af r) r<|bx r fun b29=>eb r<|nk<|jr<|sT r (.tmp r (.tmp r (.nil))) r<|ed r<|fa 10 r<|so r r<|an r<|sb r<|nf r<|sk ?_
  refine jg<|eb r<|lf 7 r r<|eb r<|lx r (dh r r r) fun _ _=>ln<|kb<|kt<|jg<|gE r<|ea r<|ln<|oy ((aa (Lks (ErL x) (w.1 + 1) (fun m' => if m' = 10 + ((w.1 : Nat) : Int) then some (Pt b10 0) else w.2 m')) (aa (gy z) (aa (gx z) (aa (dJ x n yy) (aa (qq3 n z) (aa (TOS yy n) (aa (iS b1 z yy n) (aa (am b2 [I 0, I 0] 132) (aa (n7 y1) (aa (az r4 .i64 (fun m' => if m' = 10 + ((w.1 : Nat) : Int) then some (Pt b10 0) else w.2 m')) (aa (mapc r5 .i64 (fun _ => 0)) (aa (pp b6 z yy n r4 y1 r5) (aa (m7 y7.1 y7.2.1 n y7.2.2) (aa (sv b9 w.1 x y8.1 y8.2.1 y8.2.2) (F)))))))))))))))) (Ent.trans (Ent.take (Q := (aa ((aa (BO b10 w.1 x y8.1 y8.2.1 y8.2.2 y12 y14 b29) (aa (pu y8.1 y8.2.1 y8.2.2) (aa (uL y12) (aa (uL y14) (aa (am b29 [Ns, I 60000, I 0, I 0, I 0, I 0] 335) (Lks (ErL x) w.1 w.2))))))) (aa (gy z) (aa (gx z) (aa (dJ x n yy) (aa (qq3 n z) (aa (TOS yy n) (aa (iS b1 z yy n) (aa (am b2 [I 0, I 0] 132) (aa (n7 y1) (aa (az r4 .i64 (fun m' => if m' = 10 + ((w.1 : Nat) : Int) then some (Pt b10 0) else w.2 m')) (aa (mapc r5 .i64 (fun _ => 0)) (aa (pp b6 z yy n r4 y1 r5) (aa (m7 y7.1 y7.2.1 n y7.2.2) (aa (sv b9 w.1 x y8.1 y8.2.1 y8.2.2) (F))))))))))))))))) (Ent.frame (Ent.trans (Ent.take (Q := (aa ((aa (BO b10 w.1 x y8.1 y8.2.1 y8.2.2 y12 y14 b29) (aa (pu y8.1 y8.2.1 y8.2.2) (aa (uL y12) (aa (uL y14) (am b29 [Ns, I 60000, I 0, I 0, I 0, I 0] 335)))))) (Lks (ErL x) w.1 w.2)))) (ErL.step x (fun | 0 => b10 | 1 => y8.1 | 2 => y8.2.1 | 3 => y8.2.2 | 4 => y12 | 5 => y14 | _ => b29))) _)) ?_
  exact bO ((w.1 + 1, fun m' => if m' = 10 + ((w.1 : Nat) : Int) then some (Pt b10 0) else w.2 m')) ⟨by omega, qq hd⟩ (by omega) ⟨r, r, r, r, r, r, r, r, r, r, r, r, r, r, r, trivial⟩ Ent.take
 ·have e : w.1 = n := by omega
  refine fC ((aa (LkM (ErL x) n r4) (aa (gy z) (aa (gx z) (aa (dJ x n yy) (aa (qq3 n z) (aa (TOS yy n) (aa (iS b1 z yy n) (aa (am b2 [I 0, I 0] 132) (aa (n7 y1) (aa (mapc r5 .i64 (fun _ => 0)) (aa (pp b6 z yy n r4 y1 r5) (aa (m7 y7.1 y7.2.1 n y7.2.2) (F)))))))))))))) (Ent.trans (Ent.take (Q := (aa ((aa (az r4 .i64 w.2) (Lks (ErL x) w.1 w.2))) (aa (gy z) (aa (gx z) (aa (dJ x n yy) (aa (qq3 n z) (aa (TOS yy n) (aa (iS b1 z yy n) (aa (am b2 [I 0, I 0] 132) (aa (n7 y1) (aa (mapc r5 .i64 (fun _ => 0)) (aa (pp b6 z yy n r4 y1 r5) (aa (m7 y7.1 y7.2.1 n y7.2.2) (F))))))))))))))) (Ent.frame (LkM.fold e hd) _))<|jx<|ke<|ke<|kh<|kt<|sr<|ec r<|nk<|jr ?_
  exact bM r (.tmp r (.tmp r (.nil))) (b6, y1, r4, r5) trivial r Ent.take
theorem HF (n : Nat) (hn : n = 1 \/ n = 2 \/ n = 3) (x : Cf) (yy : VlA) (z : CfA) (h : Int) (hh : h = 0 \/ h = 2) : FSpec prog 97 #[.agg (n6 z yy n).toArray, I h] ((aa (gy z) (aa (gx z) (aa (dJ x n yy) (aa (qq3 n z) (TOS yy n)))))) (fun _ : Nat × Nat × Nat × Nat => True) (fun y => .tuple #[Pt y.1 0, I 0]) (fun y => (aa (gy z) (aa (gx z) (aa (dJ x n yy) (aa (qq3 n z) (aa (TOS yy n) (aa (n7 y.2.1) (aa (az y.2.2.1 .i64 (fun _ => none)) (aa (mapc y.2.2.2 .i64 (fun _ => 0)) (am y.1 [I 3, Sk z.pb z.po 3 z.pc, I 1000, Sk z.wb z.wo 3 z.wc, Sk yy.vb yy.vo n yy.vc, Sk z.rb z.ro (bL n) z.rc, I h, Mp y.2.2.1, Pt y.2.1 0, I 0, Mp y.2.2.2] 277)))))))))) := by
 refine en func97 r fun _ F=>sr<|bx r fun b1=>eb r<|nj<|sr<|ls r<|cy (lV n hn x yy z) r fun _=>ec r<|al r fun b2=>so r r<|an r<|sb r<|nf r<|sk<|js<|sa r<|bJ r<|ea r<|go r<|ea r<|go r<|fa 0 r<|go r<|ld r r<|go r<|bJ r<|an r<|cf r<|sk<|sr<|aW func129 r<|sb r<|nr<|cy (yF 64 1099511627776 (by decide) (by decide)) r fun y1=>ed r<|an r<|js<|sb r<|nf r<|sk<|sr<|ec r<|cy (sG y1) r fun _=>eb r<|nk<|jr<|sT r (.tmp r (.tmp r (.nil))) r<|ed r<|an r<|js<|sb r<|nf r<|sk<|sr<|ls r<|ea r<|lx r (aU .i64 r) fun r4 _=>ea r<|lx r (i5 .i64 r) fun r5 _=>lv (af r) r<|bx r fun b6=>an r<|js ?_
 refine sr<|ls r<|ea r<|cy (Ds n hn x yy (I 3) (Sk z.pb z.po 3 z.pc) (I 1000) (Sk z.wb z.wo 3 z.wc) (Sk z.rb z.ro (bL n) z.rc) h (by omega)) r fun _=>ll r<|an r<|jl<|uf r<|kt<|sr<|ec r<|nk<|jr ?_
 exact bM r (.tmp r (.tmp r (.nil))) (b6, y1, r4, r5) trivial r Ent.take
end Sp
section
namespace Sp
open Mq
variable {P Q : ab} {n j : Nat} {t t' : Bool} {f : Int -> Option Value}
theorem gZ {X : Type} {g : X -> ab} (k : ∀ x, Ent (aa (g x) (P)) Q) : Ent (aa (SLA.ex g) (P)) Q := fun h ⟨h1, h2, ha, hj, ⟨x, hx⟩, hr⟩ => k x h ⟨h1, h2, ha, hj, hx, hr⟩
theorem fj {p : Prop} (k : p -> Ent P Q) : Ent (aa (SLA.lift p) (P)) Q := fun h hh => by
 have hp : p := by
  obtain ⟨h1, h2, ha, hj, hl, hr⟩ := hh
  exact hl.1
 rw [show SLA.lift p = SLA.lift True from by rw [eq_true hp], vf] at hh
 exact k hp h hh
theorem E6 (hn : n = 1 \/ n = 2 \/ n = 3) (hj : j < bL n) : (∃ id kd i su ud sz dp fr, pD n j = ⟨id, 0, kd, true, i, su, ud, sz, dp, fr⟩ /\ j ≠ n) \/ (pD n j = ⟨20, 1, 2, false, 0, 0, 5, 100, 64, 0⟩ /\ j = n) \/ (∃ id i, pD n j = ⟨id, 1, 2, false, i, 0, 5, 100, 64, 0⟩ /\ id ≠ 20 /\ n < j) \/ (pD n j = ⟨31, 1, 1, false, 0, 0, 6, 20, 0, 1000000⟩ /\ n < j) := by
 unfold pD
 split
 ·exact .inl ⟨_, _, _, _, _, _, _, _, rfl, by omega⟩
 ·split
  ·by_cases e : j = n
   ·subst e
    exact .inr (.inl ⟨by rw [Nat.sub_self], rfl⟩)
   ·exact .inr (.inr (.inl ⟨_, _, rfl, by omega, by omega⟩))
  ·split
   ·exact .inl ⟨_, _, _, _, _, _, _, _, rfl, by omega⟩
   ·exact .inr (.inr (.inr ⟨rfl, by omega⟩))
def Ro20 (v : Option Value) : ab := ex fun r : Nat => (aa (SLA.lift (v = some (Value.agg [I 20, I 1, I 1, I 2, Ff, I 10, I 0, I 5, I 100, I 64, I 0, .iface 339 (Pt r 0)].toArray))) (jW r []))
def RoW : Bool -> (Int -> Option Value) -> ab
 | false, _ => emp
 | true, f => Ro20 (f 20)
theorem Co (hn : n = 1 \/ n = 2 \/ n = 3) : n < bL n := by rcases hn with rfl | rfl | rfl <;> decide
theorem E5 (hn : n = 1 \/ n = 2 \/ n = 3) (hj : j < bL n) : (∃ id kd i su ud sz dp fr, pD n j = ⟨id, 0, kd, true, i, su, ud, sz, dp, fr⟩) \/ (∃ id kd i su ud sz dp fr, pD n j = ⟨id, 1, kd, false, i, su, ud, sz, dp, fr⟩) := by
 rcases E6 hn hj with ⟨id, kd, i, su, ud, sz, dp, fr, e, _⟩ | ⟨e, _⟩ | ⟨id, i, e, _⟩ | ⟨e, _⟩
 ·exact .inl ⟨_, _, _, _, _, _, _, _, e⟩
 all_goals exact .inr ⟨_, _, _, _, _, _, _, _, e⟩
theorem AI (n : Nat) (f : Int -> Option Value) : Ent emp (RoW (decide (n < 0)) f) := Ent.of (by rw [decide_eq_false (Nat.not_lt_zero n)]; rfl)
theorem RoW.put {v : Value} {id : Int} (ht : t = t') (h : id ≠ 20) : Ent (RoW t f) (RoW t' (fun m' => if m' = id then some v else f m')) := by
 subst ht
 cases t with
 | false => exact ah _
 | true =>
  show Ent (Ro20 (f 20)) (Ro20 (if 20 = id then some v else f 20))
  rw [if_neg (Ne.symm h)]; exact ah _
theorem Ro20.mk (r : Nat) : Ent (am r [Ns, I 64, Ff] 341) (Ro20 (some (Value.agg (qq7 r).toArray))) := by
 refine Ent.trans ?_ (Ent.trans (Ent.lift (p := some (Value.agg (qq7 r).toArray) = some (Value.agg (qq7 r).toArray)) rfl) (bh (f := fun q : Nat => (aa (SLA.lift (some (Value.agg (qq7 r).toArray) = some (Value.agg [I 20, I 1, I 1, I 2, Ff, I 10, I 0, I 5, I 100, I 64, I 0, .iface 339 (Pt q 0)].toArray))) (jW q []))) r))
 exact Ent.trans (Ent.trans (Ent.of (bN _).symm) ((show Ent emp (Ow 9 1 (Ns) 0 []) from Ow.nil 9 1).frame _)) (Ent.trans (Ent.of (cd _ _)) (bh (f := fun a : Option Addr × Nat => (aa (am r [.slice a.1 ([] : List ByteArray).length a.2, I 64, Ff] 341) (Ow 9 1 (.slice a.1 ([] : List ByteArray).length a.2) ([] : List ByteArray).length (iz [])))) (none, 0)))
theorem RoW.new (r : Nat) (ht : t = false) (ht' : t' = true) : Ent (aa (am r [Ns, I 64, Ff] 341) (RoW t f)) (RoW t' (fun m' => if m' = 20 then some (Value.agg (qq7 r).toArray) else f m')) := by
 subst ht ht'
 refine Ent.trans Ent.left ?_
 show Ent _ (Ro20 (if (20 : Int) = 20 then some (Value.agg (qq7 r).toArray) else f 20))
 rw [if_pos rfl]
 exact Ro20.mk r
theorem RoW.same (ht : t = t') : Ent (RoW t f) (RoW t' f) := Ent.of (by rw [ht])
theorem RmP.begin {p r : Nat} (ht : t = true) : Ent (aa (am p [Mp r] 289) (aa (az r .i64 f) (RoW t f))) (RmP p []) := by
 subst ht
 refine Ent.trans (show Ent _ (aa (am p [Mp r] 289) (aa (az r .i64 f) (Ro20 (f 20)))) from ah _) ?_
 refine Ent.trans (Ent.take (Q := (aa (Ro20 (f 20)) ((aa (am p [Mp r] 289) (az r .i64 f)))))) (gZ fun q => ?_)
 rw [ak]
 refine fj fun hq => Ent.trans (Ent.lift hq) (Ent.trans (Ent.take (Q := (aa (SLA.lift (f 20 = some (Value.agg [I 20, I 1, I 1, I 2, Ff, I 10, I 0, I 5, I 100, I 64, I 0, .iface 339 (Pt q 0)].toArray))) (aa (am p [Mp r] 289) (aa (az r .i64 f) (jW q [])))))) (bh (f := fun z : Nat × Nat × (Int -> Option Value) => (aa (SLA.lift (z.2.2 20 = some (Value.agg [I 20, I 1, I 1, I 2, Ff, I 10, I 0, I 5, I 100, I 64, I 0, .iface 339 (Pt z.2.1 0)].toArray))) (aa (am p [Mp z.1] 289) (aa (az z.1 .i64 z.2.2) (jW z.2.1 []))))) (r, q, f)))
end Sp
end
namespace Sp
attribute [local irreducible] JU
abbrev tG (a : CfA) (b : VlA) (c : Nat) : List Value := [I 3, Sk a.pb a.po 3 a.pc, I 1000, Sk a.wb a.wo 3 a.wc, Sk b.vb b.vo c b.vc, Sk a.rb a.ro (bL c) a.rc]
abbrev As (a : Nat) : List Value := [I 20, I 1, I 1, I 2, Ff, I 10, I 0, I 5, I 100, I 64, I 0, .iface 339 (Pt a 0)]
abbrev Ar (a : Nat) : List Value := [I 31, I 1, I 1, I 1, Ff, I 10, I 0, I 6, I 20, I 0, I 1000000, .iface 336 (Pt a 0)]
abbrev Gm : List Value := [I 20, I 1, I 1, I 2, Ff, I 10, I 0, I 5, I 100, I 64, I 0]
abbrev Gl : List Value := [I 31, I 1, I 1, I 1, Ff, I 10, I 0, I 6, I 20, I 0, I 1000000]
abbrev jt (a : CfA) : ab := Ow 3 1 (Sk a.pb a.po 3 a.pc) 3 [I 0, I 1, I 2]
abbrev jq (a : CfA) : ab := Ow 149 3 (Sk a.wb a.wo 3 a.wc) 3 [I 0, I 0, I 1000, I 1, I 0, I 1000, I 2, I 0, I 1000]
abbrev mC (a : Nat) (b : CfA) (c : VlA) (d : Nat) : ab := am a (tG b c d) 68
abbrev C4 (a : Nat) : ab := am a Gm 153
abbrev C3 (a : Nat) : ab := am a Gl 153
theorem BN (c0 c1 c2 c4 c5 c6 c7 c8 c10 : Value) : FSpec prog 133 #[.agg [c0, c1, c2, I 2, c4, c5, c6, c7, c8, I 64, c10].toArray] (emp) (fun _ : Nat => True) (fun y => .iface 339 (Pt y 0)) (fun y => am y [Ns, I 64, Ff] 341) := by
 refine en func133 r fun _ F=>bG<|sr<|bx r fun b1=>an r<|js<|sr<|lf 3 r r<|an r<|cf r<|sk<|sr<|lf 9 r r<|lv (af r) r<|bx r fun b2=>lv (kB r) r<|an r<|jr ?_
 exact bM r (.tmp r (.nil)) b2 trivial r Ent.take
theorem HJ (n : Nat) (hn : n = 1 \/ n = 2 \/ n = 3) (x : Cf) (yy : VlA) (z : CfA) : FSpec prog 98 #[.agg (tG z yy n).toArray, I 1] ((aa (jt z) (aa (jq z) (aa (dJ x n yy) (aa (cE n z.rb z.ro z.rc) (TOS yy n)))))) (fun _ : Nat => True) (fun y => .tuple #[Pt y 0, I 0]) (fun y => (aa (jt z) (aa (jq z) (aa (dJ x n yy) (aa (cE n z.rb z.ro z.rc) (aa (TOS yy n) (RmP y []))))))) := by
 refine en func98 r fun _ F=>sr<|bx r fun b1=>eb r<|nj<|sr<|ls r<|cy (lV n hn x yy z) r fun _=>ec r<|al r fun b2=>so r r<|an r<|sb r<|nf r<|sk<|js<|sr<|ec r<|go r<|ea r<|go r<|fa 0 r<|go r<|ld r r<|go r<|bf r<|sk<|sr<|lx r (aU .i64 r) fun r3 _=>lv (af r) r<|bx r fun b4=>an r ?_
 refine js<|sr<|lf 5 r r<|ll r<|an r<|jb<|bX (X := Nat × (Int -> Option Value)) (fun w => [(0, .agg (tG z yy n).toArray), (1, I 1), (2, Pt b1 0), (4, Np), (5, I 0), (7, I 0), (17, Ff), (26, Ff), (8, Pt b4 0), (31, Sk z.rb z.ro (bL n) z.rc), (32, I ((bL n : Nat) : Int)), (33, I ((w.1 : Nat) : Int))]) (fun w => (aa (jt z) (aa (jq z) (aa (dJ x n yy) (aa (cE n z.rb z.ro z.rc) (aa (TOS yy n) (aa (mC b1 z yy n) (aa (am b2 [I 0, I 0] 132) (aa (az r3 .i64 w.2) (aa (am b4 [Mp r3] 289) (aa (RoW (decide (n < w.1)) w.2) (F)))))))))))) (fun w => w.1 <= bL n) (fun w => bL n - w.1) ((0, fun _ => none)) (Nat.zero_le _) ⟨r, r, r, r, r, r, r, r, r, r, r, r, trivial⟩ (Ent.trans (Ent.of (bN _).symm) (Ent.trans ((AI n (fun _ => none)).frame _) Ent.take)) fun w hz=>sr<|lv (aM r r) r<|nj<|aG r (fun hc => ?_) fun hc=>?_
 ·have hlt : w.1 < bL n := by omega
  have hp := rB hn hlt
  rcases E6 hn hlt with ⟨id, kdI, li, su, udI, szI, dpI, frI, e, hj⟩ | ⟨e, hj⟩ | ⟨id, li, e, hi, hj⟩ | ⟨e, hj⟩
  ·rw [e] at hp
   refine sk<|js<|jb<|sr<|lv ((au r r (by omega)).as (v' := Pt z.rb (z.ro + w.1 * 11)) (by rw [Int.toNat_natCast])) r<|lv (br (vs := [I ((id : Nat) : Int), I 0, I 0, I ((kdI : Nat) : Int), Tt, I (10 + ((li : Nat) : Int)), I ((su : Nat) : Int), I ((udI : Nat) : Int), I ((szI : Nat) : Int), I ((dpI : Nat) : Int), I ((frI : Nat) : Int)]) r r (iJ (rc := z.rc) hp)) r<|al r fun b5=>so r r<|nr<|lf 1 r r<|ec r<|gs r<|gs r<|gs r<|an r<|cf r<|cY<|jg<|lv (aQ r r (by have := cN hn; omega)) r<|ea r<|ln<|oy ((aa (RoW (decide (n < w.1 + 1)) w.2) (aa (jt z) (aa (jq z) (aa (dJ x n yy) (aa (cE n z.rb z.ro z.rc) (aa (TOS yy n) (aa (mC b1 z yy n) (aa (am b2 [I 0, I 0] 132) (aa (az r3 .i64 w.2) (aa (am b4 [Mp r3] 289) (aa (am b5 [I ((id : Nat) : Int), I 0, I 0, I ((kdI : Nat) : Int), Tt, I (10 + ((li : Nat) : Int)), I ((su : Nat) : Int), I ((udI : Nat) : Int), I ((szI : Nat) : Int), I ((dpI : Nat) : Int), I ((frI : Nat) : Int)] 153) (F))))))))))))) (Ent.trans (Ent.take (Q := (aa (RoW (decide (n < w.1)) w.2) (aa (jt z) (aa (jq z) (aa (dJ x n yy) (aa (cE n z.rb z.ro z.rc) (aa (TOS yy n) (aa (mC b1 z yy n) (aa (am b2 [I 0, I 0] 132) (aa (az r3 .i64 w.2) (aa (am b4 [Mp r3] 289) (aa (am b5 [I ((id : Nat) : Int), I 0, I 0, I ((kdI : Nat) : Int), Tt, I (10 + ((li : Nat) : Int)), I ((su : Nat) : Int), I ((udI : Nat) : Int), I ((szI : Nat) : Int), I ((dpI : Nat) : Int), I ((frI : Nat) : Int)] 153) (F)))))))))))))) (Ent.frame (RoW.same (decide_eq_decide.2 (by omega))) _)) ?_
   exact bO ((w.1 + 1, w.2)) (by omega) (by omega) ⟨r, r, r, r, r, r, r, r, r, r, r, r, trivial⟩ Ent.take
  ·rw [e] at hp
   refine sk<|js<|jb<|sr<|lv ((au r r (by omega)).as (v' := Pt z.rb (z.ro + w.1 * 11)) (by rw [Int.toNat_natCast])) r<|lv (br (vs := Gm) r r (iJ (rc := z.rc) hp)) r<|al r fun b5=>so r r<|nr<|lf 1 r r<|ec r<|go r<|fa 4 r<|go r<|ld r r<|go r<|eb r<|nt r<|av ((aa (am b4 [Mp r3] 289) (C4 b5))) (emp) [] ae<|pe 0 r r<|pe 1 r r<|pf 2 0 r r<|pf 4 0 r r<|pl 3 r r r<|pl 5 r r r<|ps 6 r (ax r)<|ps 7 r (ax r)<|pn 8 r (ai (BN (I 20) (I 1) (I 1) (Ff) (I 10) (I 0) (I 5) (I 100) (I 0)) r r r) fun y7 _=>ps 9 r (af r)<|pn 10 r (dh r r r) fun _ _=>dn<|kb<|kt<|jg<|gE r<|ea r<|ln<|oy ((aa (RoW (decide (n < w.1 + 1)) (fun m' => if m' = 20 then some (.agg (As y7).toArray) else w.2 m')) (aa (jt z) (aa (jq z) (aa (dJ x n yy) (aa (cE n z.rb z.ro z.rc) (aa (TOS yy n) (aa (mC b1 z yy n) (aa (am b2 [I 0, I 0] 132) (aa (az r3 .i64 (fun m' => if m' = 20 then some (.agg (As y7).toArray) else w.2 m')) (aa (am b4 [Mp r3] 289) (aa (C4 b5) (F))))))))))))) (Ent.trans (Ent.take (Q := (aa ((aa (am y7 [Ns, I 64, Ff] 341) (RoW (decide (n < w.1)) w.2))) (aa (jt z) (aa (jq z) (aa (dJ x n yy) (aa (cE n z.rb z.ro z.rc) (aa (TOS yy n) (aa (mC b1 z yy n) (aa (am b2 [I 0, I 0] 132) (aa (az r3 .i64 (fun m' => if m' = 20 then some (.agg (As y7).toArray) else w.2 m')) (aa (am b4 [Mp r3] 289) (aa (C4 b5) (F)))))))))))))) (Ent.frame (RoW.new _ (decide_eq_false (by omega)) (decide_eq_true (by omega))) _)) ?_
   exact bO ((w.1 + 1, fun m' => if m' = 20 then some (.agg (As y7).toArray) else w.2 m')) (by omega) (by omega) ⟨r, r, r, r, r, r, r, r, r, r, r, r, trivial⟩ Ent.take
  ·rw [e] at hp
   refine sk<|js<|jb<|sr<|lv ((au r r (by omega)).as (v' := Pt z.rb (z.ro + w.1 * 11)) (by rw [Int.toNat_natCast])) r<|lv (br (vs := [I ((id : Nat) : Int), I 1, I 1, I 2, Ff, I (10 + ((li : Nat) : Int)), I 0, I 5, I 100, I 64, I 0]) r r (iJ (rc := z.rc) hp)) r<|al r fun b5=>so r r<|nr<|lf 1 r r<|ec r<|go r<|fa 4 r<|go r<|ld r r<|go r<|eb r<|nt r<|av ((aa (am b4 [Mp r3] 289) (am b5 [I ((id : Nat) : Int), I 1, I 1, I 2, Ff, I (10 + ((li : Nat) : Int)), I 0, I 5, I 100, I 64, I 0] 153))) (emp) [] ae<|pe 0 r r<|pe 1 r r<|pf 2 0 r r<|pf 4 0 r r<|pl 3 r r r<|pl 5 r r r<|ps 6 r (ax r)<|ps 7 r (ax r)<|pn 8 r (ai (BN (I ((id : Nat) : Int)) (I 1) (I 1) (Ff) (I (10 + ((li : Nat) : Int))) (I 0) (I 5) (I 100) (I 0)) r r r) fun y7 _=>ps 9 r (af r)<|pn 10 r (dh r r r) fun _ _=>dn<|kb<|kt<|jg<|lv (aQ r r (by have := cN hn; omega)) r<|ea r<|ln<|oy ((aa (RoW (decide (n < w.1 + 1)) (fun m' => if m' = ((id : Nat) : Int) then some (.agg [I ((id : Nat) : Int), I 1, I 1, I 2, Ff, I (10 + ((li : Nat) : Int)), I 0, I 5, I 100, I 64, I 0, .iface 339 (Pt y7 0)].toArray) else w.2 m')) (aa (jt z) (aa (jq z) (aa (dJ x n yy) (aa (cE n z.rb z.ro z.rc) (aa (TOS yy n) (aa (mC b1 z yy n) (aa (am b2 [I 0, I 0] 132) (aa (az r3 .i64 (fun m' => if m' = ((id : Nat) : Int) then some (.agg [I ((id : Nat) : Int), I 1, I 1, I 2, Ff, I (10 + ((li : Nat) : Int)), I 0, I 5, I 100, I 64, I 0, .iface 339 (Pt y7 0)].toArray) else w.2 m')) (aa (am b4 [Mp r3] 289) (aa (am b5 [I ((id : Nat) : Int), I 1, I 1, I 2, Ff, I (10 + ((li : Nat) : Int)), I 0, I 5, I 100, I 64, I 0] 153) (aa (am y7 [Ns, I 64, Ff] 341) (F)))))))))))))) (Ent.trans (Ent.take (Q := (aa (RoW (decide (n < w.1)) w.2) (aa (jt z) (aa (jq z) (aa (dJ x n yy) (aa (cE n z.rb z.ro z.rc) (aa (TOS yy n) (aa (mC b1 z yy n) (aa (am b2 [I 0, I 0] 132) (aa (az r3 .i64 (fun m' => if m' = ((id : Nat) : Int) then some (.agg [I ((id : Nat) : Int), I 1, I 1, I 2, Ff, I (10 + ((li : Nat) : Int)), I 0, I 5, I 100, I 64, I 0, .iface 339 (Pt y7 0)].toArray) else w.2 m')) (aa (am b4 [Mp r3] 289) (aa (am b5 [I ((id : Nat) : Int), I 1, I 1, I 2, Ff, I (10 + ((li : Nat) : Int)), I 0, I 5, I 100, I 64, I 0] 153) (aa (am y7 [Ns, I 64, Ff] 341) (F))))))))))))))) (Ent.frame (RoW.put (decide_eq_decide.2 (by omega)) (by omega)) _)) ?_
   exact bO ((w.1 + 1, fun m' => if m' = ((id : Nat) : Int) then some (.agg [I ((id : Nat) : Int), I 1, I 1, I 2, Ff, I (10 + ((li : Nat) : Int)), I 0, I 5, I 100, I 64, I 0, .iface 339 (Pt y7 0)].toArray) else w.2 m')) (by omega) (by omega) ⟨r, r, r, r, r, r, r, r, r, r, r, r, trivial⟩ Ent.take
  ·rw [e] at hp
   refine sk<|js<|jb<|sr<|lv ((au r r (by omega)).as (v' := Pt z.rb (z.ro + w.1 * 11)) (by rw [Int.toNat_natCast])) r<|lv (br (vs := Gl) r r (iJ (rc := z.rc) hp)) r<|al r fun b5=>so r r<|nr<|lf 1 r r<|ec r<|go r<|fa 4 r<|go r<|ld r r<|go r<|eb r<|nt r<|av ((aa (am b4 [Mp r3] 289) (C3 b5))) (emp) [] ae<|pe 0 r r<|pe 1 r r<|pf 2 0 r r<|pf 4 0 r r<|pl 3 r r r<|pl 5 r r r<|ps 6 r (ax r)<|ps 7 r (ax r)<|kS 8 r func133 r<|sr<|bx r fun b21=>an r<|js<|sr<|lf 3 r r<|an r<|ct r<|sr<|lv (af r) r<|bx r fun b22=>lv (kB r) r<|an r<|jr<|kd<|rp r (.tmp r (.nil)) r<|ps 9 r (af r)<|pn 10 r (dh r r r) fun _ _=>dn<|kb<|kt<|jg<|lv (aQ r r (by have := cN hn; omega)) r<|ea r<|ln<|oy ((aa (RoW (decide (n < w.1 + 1)) (fun m' => if m' = 31 then some (.agg (Ar b22).toArray) else w.2 m')) (aa (jt z) (aa (jq z) (aa (dJ x n yy) (aa (cE n z.rb z.ro z.rc) (aa (TOS yy n) (aa (mC b1 z yy n) (aa (am b2 [I 0, I 0] 132) (aa (az r3 .i64 (fun m' => if m' = 31 then some (.agg (Ar b22).toArray) else w.2 m')) (aa (am b4 [Mp r3] 289) (aa (C3 b5) (aa (am b22 [Z, I 0, Ff] 338) (F)))))))))))))) (Ent.trans (Ent.take (Q := (aa (RoW (decide (n < w.1)) w.2) (aa (jt z) (aa (jq z) (aa (dJ x n yy) (aa (cE n z.rb z.ro z.rc) (aa (TOS yy n) (aa (mC b1 z yy n) (aa (am b2 [I 0, I 0] 132) (aa (az r3 .i64 (fun m' => if m' = 31 then some (.agg (Ar b22).toArray) else w.2 m')) (aa (am b4 [Mp r3] 289) (aa (C3 b5) (aa (am b22 [Z, I 0, Ff] 338) (F))))))))))))))) (Ent.frame (RoW.put (decide_eq_decide.2 (by omega)) (by omega)) _)) ?_
   exact bO ((w.1 + 1, fun m' => if m' = 31 then some (.agg (Ar b22).toArray) else w.2 m')) (by omega) (by omega) ⟨r, r, r, r, r, r, r, r, r, r, r, r, trivial⟩ Ent.take
 ·have e : w.1 = bL n := by omega
  refine fC ((aa (RmP b4 []) (aa (jt z) (aa (jq z) (aa (dJ x n yy) (aa (cE n z.rb z.ro z.rc) (aa (TOS yy n) (aa (mC b1 z yy n) (aa (am b2 [I 0, I 0] 132) (F)))))))))) (Ent.trans (Ent.take (Q := (aa ((aa (am b4 [Mp r3] 289) (aa (az r3 .i64 w.2) (RoW (decide (n < w.1)) w.2)))) (aa (jt z) (aa (jq z) (aa (dJ x n yy) (aa (cE n z.rb z.ro z.rc) (aa (TOS yy n) (aa (mC b1 z yy n) (aa (am b2 [I 0, I 0] 132) (F))))))))))) (Ent.frame (RmP.begin (decide_eq_true (by have := Co hn; omega))) _))<|jx<|ke<|ke<|kh<|kt<|sr<|ec r<|nk<|jr ?_
  exact bM r (.tmp r (.tmp r (.nil))) b4 trivial r Ent.take
theorem HI (n : Nat) (hn : n = 1 \/ n = 2 \/ n = 3) (x : Cf) (yy : VlA) (z : CfA) : FSpec prog 98 #[.agg (tG z yy n).toArray, I 0] ((aa (jt z) (aa (jq z) (aa (dJ x n yy) (aa (qq3 n z) (TOS yy n)))))) (fun _ : Nat × Nat => True) (fun y => .tuple #[Pt y.1 0, I 0]) (fun y => (aa (jt z) (aa (jq z) (aa (dJ x n yy) (aa (qq3 n z) (aa (TOS yy n) (aa (az y.2 .i64 (fun _ => none)) (am y.1 [Mp y.2] 289)))))))) := by
 refine en func98 r fun _ F=>sr<|bx r fun b1=>eb r<|nj<|sr<|ls r<|cy (lV n hn x yy z) r fun _=>ec r<|al r fun b2=>so r r<|an r<|sb r<|nf r<|sk<|js<|sr<|ec r<|go r<|ea r<|go r<|fa 0 r<|go r<|ld r r<|go r<|bf r<|sk<|sr<|lx r (aU .i64 r) fun r3 _=>lv (af r) r<|bx r fun b4=>an r ?_
 refine js<|sr<|lf 5 r r<|ll r<|an r<|jb<|bX (X := Nat) (fun w => [(0, .agg (tG z yy n).toArray), (1, I 0), (2, Pt b1 0), (4, Np), (5, I 0), (7, I 0), (17, Ff), (26, Ff), (8, Pt b4 0), (31, Sk z.rb z.ro (bL n) z.rc), (32, I ((bL n : Nat) : Int)), (33, I ((w : Nat) : Int))]) (fun w => (aa (jt z) (aa (jq z) (aa (dJ x n yy) (aa (qq3 n z) (aa (TOS yy n) (aa (mC b1 z yy n) (aa (am b2 [I 0, I 0] 132) (aa (az r3 .i64 (fun _ => none)) (aa (am b4 [Mp r3] 289) (F))))))))))) (fun w => w <= bL n) (fun w => bL n - w) (0) (Nat.zero_le _) ⟨r, r, r, r, r, r, r, r, r, r, r, r, trivial⟩ Ent.take fun w hz=>sr<|lv (aM r r) r<|nj<|aG r (fun hc => ?_) fun hc=>?_
 ·have hlt : w < bL n := by omega
  have hp := rB hn hlt
  rcases E5 hn hlt with ⟨id, kdI, li, su, udI, szI, dpI, frI, e⟩ | ⟨id, kdI, li, su, udI, szI, dpI, frI, e⟩
  ·rw [e] at hp
   refine sk<|js<|jb<|sr<|lv ((au r r (by omega)).as (v' := Pt z.rb (z.ro + w * 11)) (by rw [Int.toNat_natCast])) r<|lv (br (vs := [I ((id : Nat) : Int), I 0, I 0, I ((kdI : Nat) : Int), Tt, I (10 + ((li : Nat) : Int)), I ((su : Nat) : Int), I ((udI : Nat) : Int), I ((szI : Nat) : Int), I ((dpI : Nat) : Int), I ((frI : Nat) : Int)]) r r (iJ (rc := z.rc) hp)) r<|al r fun b5=>so r r<|nr<|lf 1 r r<|ec r<|go r<|fa 4 r<|go r<|ld r r<|go r<|bf r<|cY<|jg<|lv (aQ r r (by have := cN hn; omega)) r<|ea r<|ln ?_
   exact bO (w + 1) (by omega) (by omega) ⟨r, r, r, r, r, r, r, r, r, r, r, r, trivial⟩ Ent.take
  ·rw [e] at hp
   refine sk<|js<|jb<|sr<|lv ((au r r (by omega)).as (v' := Pt z.rb (z.ro + w * 11)) (by rw [Int.toNat_natCast])) r<|lv (br (vs := [I ((id : Nat) : Int), I 1, I 1, I ((kdI : Nat) : Int), Ff, I (10 + ((li : Nat) : Int)), I ((su : Nat) : Int), I ((udI : Nat) : Int), I ((szI : Nat) : Int), I ((dpI : Nat) : Int), I ((frI : Nat) : Int)]) r r (iJ (rc := z.rc) hp)) r<|al r fun b5=>so r r<|nr<|lf 1 r r<|ec r<|gs r<|gs r<|gs r<|an r<|cf r<|cY<|jg<|lv (aQ r r (by have := cN hn; omega)) r<|ea r<|ln ?_
   exact bO (w + 1) (by omega) (by omega) ⟨r, r, r, r, r, r, r, r, r, r, r, r, trivial⟩ Ent.take
 ·have e : w = bL n := by omega
  refine jx<|ke<|ke<|kh<|kt<|sr<|ec r<|nk<|jr ?_
  exact bM r (.tmp r (.tmp r (.nil))) (b4, r3) trivial r Ent.take
theorem HH (n : Nat) (hn : n = 1 \/ n = 2 \/ n = 3) (x : Cf) (yy : VlA) (z : CfA) : FSpec prog 98 #[.agg (tG z yy n).toArray, I 2] ((aa (jt z) (aa (jq z) (aa (dJ x n yy) (aa (qq3 n z) (TOS yy n)))))) (fun _ : Nat × Nat => True) (fun y => .tuple #[Pt y.1 0, I 0]) (fun y => (aa (jt z) (aa (jq z) (aa (dJ x n yy) (aa (qq3 n z) (aa (TOS yy n) (aa (az y.2 .i64 (fun _ => none)) (am y.1 [Mp y.2] 289)))))))) := by
 refine en func98 r fun _ F=>sr<|bx r fun b1=>eb r<|nj<|sr<|ls r<|cy (lV n hn x yy z) r fun _=>ec r<|al r fun b2=>so r r<|an r<|sb r<|nf r<|sk<|js<|sr<|ec r<|go r<|ea r<|go r<|fa 0 r<|go r<|ld r r<|go r<|bf r<|sk<|sr<|lx r (aU .i64 r) fun r3 _=>lv (af r) r<|bx r fun b4=>an r ?_
 refine js<|sr<|lf 5 r r<|ll r<|an r<|jb<|bX (X := Nat) (fun w => [(0, .agg (tG z yy n).toArray), (1, I 2), (2, Pt b1 0), (4, Np), (5, I 0), (7, I 0), (17, Ff), (26, Ff), (8, Pt b4 0), (31, Sk z.rb z.ro (bL n) z.rc), (32, I ((bL n : Nat) : Int)), (33, I ((w : Nat) : Int))]) (fun w => (aa (jt z) (aa (jq z) (aa (dJ x n yy) (aa (qq3 n z) (aa (TOS yy n) (aa (mC b1 z yy n) (aa (am b2 [I 0, I 0] 132) (aa (az r3 .i64 (fun _ => none)) (aa (am b4 [Mp r3] 289) (F))))))))))) (fun w => w <= bL n) (fun w => bL n - w) (0) (Nat.zero_le _) ⟨r, r, r, r, r, r, r, r, r, r, r, r, trivial⟩ Ent.take fun w hz=>sr<|lv (aM r r) r<|nj<|aG r (fun hc => ?_) fun hc=>?_
 ·have hlt : w < bL n := by omega
  have hp := rB hn hlt
  rcases E5 hn hlt with ⟨id, kdI, li, su, udI, szI, dpI, frI, e⟩ | ⟨id, kdI, li, su, udI, szI, dpI, frI, e⟩
  ·rw [e] at hp
   refine sk<|js<|jb<|sr<|lv ((au r r (by omega)).as (v' := Pt z.rb (z.ro + w * 11)) (by rw [Int.toNat_natCast])) r<|lv (br (vs := [I ((id : Nat) : Int), I 0, I 0, I ((kdI : Nat) : Int), Tt, I (10 + ((li : Nat) : Int)), I ((su : Nat) : Int), I ((udI : Nat) : Int), I ((szI : Nat) : Int), I ((dpI : Nat) : Int), I ((frI : Nat) : Int)]) r r (iJ (rc := z.rc) hp)) r<|al r fun b5=>so r r<|nr<|lf 1 r r<|ec r<|gs r<|gs r<|gs r<|an r<|cf r<|cY<|jg<|lv (aQ r r (by have := cN hn; omega)) r<|ea r<|ln ?_
   exact bO (w + 1) (by omega) (by omega) ⟨r, r, r, r, r, r, r, r, r, r, r, r, trivial⟩ Ent.take
  ·rw [e] at hp
   refine sk<|js<|jb<|sr<|lv ((au r r (by omega)).as (v' := Pt z.rb (z.ro + w * 11)) (by rw [Int.toNat_natCast])) r<|lv (br (vs := [I ((id : Nat) : Int), I 1, I 1, I ((kdI : Nat) : Int), Ff, I (10 + ((li : Nat) : Int)), I ((su : Nat) : Int), I ((udI : Nat) : Int), I ((szI : Nat) : Int), I ((dpI : Nat) : Int), I ((frI : Nat) : Int)]) r r (iJ (rc := z.rc) hp)) r<|al r fun b5=>so r r<|nr<|lf 1 r r<|ec r<|gs r<|gs r<|gs r<|an r<|cf r<|cY<|jg<|lv (aQ r r (by have := cN hn; omega)) r<|ea r<|ln ?_
   exact bO (w + 1) (by omega) (by omega) ⟨r, r, r, r, r, r, r, r, r, r, r, r, trivial⟩ Ent.take
 ·have e : w = bL n := by omega
  refine jx<|ke<|ke<|kh<|kt<|sr<|ec r<|nk<|jr ?_
  exact bM r (.tmp r (.tmp r (.nil))) (b4, r3) trivial r Ent.take
end Sp
namespace Sp
attribute [local irreducible] JU aL
abbrev kV (a : Nat) (b : Int) (c d e f : Nat) (g : Option Addr × Nat) (h : Int) (j : Nat) : ab := am a [I b, Sk c d 3 e, Mp f, .slice g.1 0 g.2, I h, Mp j] 201
abbrev mD (a : Nat) (b : Mq.Sn) (c : Int) : ab := Mq.OutP a (dS b) 1024 1024 0 0 c
abbrev tP (a b c d e f : Nat) : ab := Ow 202 1 (Sk a b 3 c) 3 [Pt d 0, Pt e 0, Pt f 0]
abbrev ye (a : Nat) (b c : Int) (d e f g : Nat) (h : Int) : ab := am a [I 10, I 0, I b, I c, Ff, I 2, I 60000, Sk d e 1 f, Pt g 0, I h] 213
abbrev AE (a b c : Nat) (d : Int) (e : Nat) (f g : Int) (h : ByteArray) : ab := Ow 308 3 (Sk a b 1 c) 1 [I d, Pt e 0, .string (aL 10 0 f g h)]
abbrev GD (a : Nat) (b : Int -> Int) : ab := mapc a .i64 (fun m' => if m' = 14 then IntKind.wrap .i64 ((b 14) + 1) else b m')
abbrev GC (a : Nat) (b : Int -> Int) : ab := mapc a .i64 (fun m' => if m' = 27 then IntKind.wrap .i64 ((b 27) + 1) else b m')
theorem Ev (s15 : Option Addr × Nat) (bg P sm J w0 f0 p0 last now on a i g : Int) (d : ByteArray) (cF : Int -> Int) (fl : Int -> Option Value) (lb : Nat) (hg : g = 0 \/ g = 1) (q0 q1 q2 : Mq.Sn) (h10 : fl 10 = some (Pt lb 0)) (hp : fR sm bg J P w0 f0 a ((aL 10 0 g i d).size : Int) p0 0) (hz : ((aL 10 0 g i d).size : Int) <= sm) (h : 0 <= now /\ now <= a /\ 0 <= on /\ on <= a /\ a <= 10000000 /\ 0 <= i /\ i <= 200 /\ d.size <= 1000 /\ 0 <= last /\ last < a) : Kp prog 172 #[.slice s15.1 0 s15.2, I (a + 1), .func (.func 173) #[] #[]] (emp) (.tuple #[I 0, Ff]) := by
 refine en func172 r fun _ F=>bG<|sb r<|nr<|ea r<|ll r<|an r<|sr<|ec r<|nj<|jl<|ju<|js<|sr<|ec r<|nf r<|jx<|ke<|ke<|kh<|kt<|sr<|ed r<|ea r<|gs r<|gs r<|gs r<|gs r<|gs r<|gs r<|gs r<|gs r ?_
 refine ec r<|nk<|jr<|r2 r Ent.take
theorem Eu (c e j k l o : Nat) (s15 : Option Addr × Nat) (bg P sm J w0 f0 p0 last now on a i g : Int) (d : ByteArray) (cF : Int -> Int) (fl : Int -> Option Value) (lb : Nat) (hg : g = 0 \/ g = 1) (q0 q1 q2 : Mq.Sn) (h10 : fl 10 = some (Pt lb 0)) (hp : fR sm bg J P w0 f0 a ((aL 10 0 g i d).size : Int) p0 0) (hz : ((aL 10 0 g i d).size : Int) <= sm) (h : 0 <= now /\ now <= a /\ 0 <= on /\ on <= a /\ a <= 10000000 /\ 0 <= i /\ i <= 200 /\ d.size <= 1000 /\ 0 <= last /\ last < a) : FSpec prog 141 #[Pt c 0, .agg [I a, Pt lb 0, .string (aL 10 0 g i d)].toArray] ((aa (kV c g e j k l s15 a o) (Ow 308 3 (.slice s15.1 0 s15.2) 0 []))) (fun _ : Nat × Nat × Nat => True) (fun y => .tuple #[]) (fun y => (aa (am c [I g, Sk e j 3 k, Mp l, Sk y.1 y.2.1 1 y.2.2, I a, Mp o] 201) (AE y.1 y.2.1 y.2.2 a lb g i d))) := by
 refine en func141 r fun _ F=>sr<|bx r fun b1=>nj<|dM ae<|qb r<|qf 3 r<|ql r r<|qf 0 r<|ql r r<|ww r<|dy (Ev s15 bg P sm J w0 f0 p0 last now on a i g d cF fl lb hg q0 q1 q2 h10 hp hz h) r r (fun _ _ => r) (fun _ _ => ah _) r<|qb r<|qb r<|qa r<|qn<|kt<|av (am b1 [I a, Pt lb 0, .string (aL 10 0 g i d)] 308) (kV c g e j k l s15 a o) [11] ae<|pe 0 r r<|pe 1 r r<|pe 2 r r<|pf 3 3 r r<|pe 5 r r<|ps 6 r (ax r)<|dv 4 r (by kernel_rfl) (ar r (aC r)) r<|pn 7 r (aq (m := 3) r r (by decide) (by decide) r) fun b4 _=>kS 8 r func174 r<|aE r<|sb r<|lv ((cZ r r (by decide)).as (H1 _ _ _ _)) r<|nr<|ea r<|ll r<|an r<|js<|sb r<|nf r<|sk<|sa r<|ll r<|an r<|js<|sr<|ec r<|nt r<|sb r<|lx r (zJ (m := 3) (B := 32) (k := 1) (A := s15) r r (Src.lit) r r r r r r r r) fun z1 _=>an r<|jr<|kd<|rp r (.tmp r (.nil)) r<|pe 9 r r<|pf 10 3 r r<|jv 11 r r (by kernel_rfl) (aI r r r (List.all_eq_true.1 r)) fun _ _=>dn ?_
 exact ug r (.nil) (z1.1, z1.2.1, z1.2.2) trivial r Ent.take
theorem Et (c e j k l m o p q s : Nat) (s15 : Option Addr × Nat) (bg P sm J w0 f0 p0 last now on a i g : Int) (d : ByteArray) (cF : Int -> Int) (fl : Int -> Option Value) (lb : Nat) (hg : g = 0 \/ g = 1) (q0 q1 q2 : Mq.Sn) (h10 : fl 10 = some (Pt lb 0)) (hp : fR sm bg J P w0 f0 a ((aL 10 0 g i d).size : Int) p0 0) (hz : ((aL 10 0 g i d).size : Int) <= sm) (h : 0 <= now /\ now <= a /\ 0 <= on /\ on <= a /\ a <= 10000000 /\ 0 <= i /\ i <= 200 /\ d.size <= 1000 /\ 0 <= last /\ last < a) : FSpec prog 62 #[Pt c 0, I a, I 0, .string (aL 10 0 g i d), I 0] ((aa (kV c g e j k l s15 now m) (aa (az l .i64 fl) (aa (ye lb bg sm o p q s last) (aa (am s [I sm, I bg, I J, Ff, I w0, I f0, I p0, I 0] 255) (aa (Ow 308 3 (.slice s15.1 0 s15.2) 0 []) (mapc m .i64 cF))))))) (fun _ : Nat × Nat × Nat => True) (fun y => I 0) (fun y => (aa (am c [I g, Sk e j 3 k, Mp l, Sk y.1 y.2.1 1 y.2.2, I a, Mp m] 201) (aa (az l .i64 fl) (aa (ye lb bg sm o p q s a) (aa (am s [I sm, I bg, I J, Ff, I a, I ((mn (f0 + (sm * (a - w0))) (sm * (P + J))) - (((aL 10 0 g i d).size : Int) * P)), I (p0 + 1), I 0] 255) (aa (mapc m .i64 (fun m' => if m' = 0 then IntKind.wrap .i64 ((cF 0) + 1) else cF m')) (AE y.1 y.2.1 y.2.2 a lb g i d))))))) := by
 refine en func62 r fun _ F=>aE r<|sb r<|aW func100 r<|aE r<|js<|jb<|sa r<|ep false r<|an r<|cf r<|sa r<|bJ r<|ea r<|go r<|ea r<|go r<|bJ r<|bf r<|sr<|ec r<|lf 4 r r<|bJ r<|an r<|cf r<|cY<|aE r<|jr<|cX r<|an r<|js<|jb<|sr<|ec r<|nf r<|sr<|ec r<|go r<|ea r<|go r<|ec r<|go r<|ea r<|go r<|ea r<|go r<|ea r<|go r<|fa 1 r<|go r<|ld r r<|go r<|ll r<|go r<|ec r<|go r<|ea r ?_
 refine go r<|ec r<|go r<|ea r<|go r<|ec r<|nf r<|sr<|ec r<|nf r<|cY<|sb r<|aW func101 r<|sr<|ec r<|fa 4 r<|so r r<|nk<|jl<|ju<|js<|sb r<|lf 3 r r<|ll r<|eb r<|gs r<|gs r<|gs r<|gs r<|gs r<|gs r<|gs r<|gs r<|gs r<|an r<|cf r<|jx<|ke<|ke<|kh<|jA r<|nr<|ed r<|ea r<|aW func102 r<|aE r<|sa r<|cy (j5 10 0 g i d (by decide) (by rcases hg with rfl | rfl <;> decide) (by omega) (by omega)) r fun _=>ec r<|al r fun b1=>so r r<|an r<|js<|sb r<|nf r<|sk<|js<|dM ae<|qb r<|qf 2 r ?_
 refine ql r r<|qf 0 r<|ql r r<|qv (aN (v := Pt lb 0) r r (some (Pt lb 0)) h10 r) r<|qa r<|qn<|kt<|js<|jb<|js<|dM ae<|qf 1 r<|ql r r<|qb r<|qa r<|qo r<|qf 2 r<|qo r<|ql r r<|qo r<|qa r<|qo r<|qa r<|qo r<|qf 0 r<|qo r<|ql r r<|qo r<|s5 r<|qb r<|qn<|kt<|cf r<|sa r<|ep false r<|ea r<|go r<|ea r<|go r<|ea r<|go r<|fa 0 r<|go r<|fa 1 r<|go r<|ld r r<|go r<|ea r<|go r<|ec r<|nf r<|sa r<|lv (aX r) r<|eb r<|fa 0 r<|lf 3 r r<|bJ r<|an r<|cf r<|cY<|js<|sb r<|lf 8 r r<|eb r ?_
 refine lv (aX r) r<|cy (E2 s sm bg J P w0 f0 a ((aL 10 0 g i d).size : Int) p0 0 hp) r fun _=>an r<|sb r<|nf r<|sk<|sr<|ec r<|lf 9 r r<|eb r<|lv ((aQ r r (by omega)).as (v' := I a) (congrArg (Value.int .i64) (Int.add_zero a))) r<|lv ((iw r r).as (v' := I a) (congrArg (Value.int .i64) (if_pos (by omega)))) r<|ea r<|fa 9 r<|so r r<|nr<|ec r<|lf 9 r r<|eb r<|lv (af r) r<|cy (Eu c e j k l m s15 bg P sm J w0 f0 p0 last now on a i g d cF fl lb hg q0 q1 q2 h10 hp hz h) r fun y2=>nr<|an r<|jr<|sT r (.tmp r (.nil)) r<|an r<|sb r<|lf 5 r r<|ea r<|lv (eh r r (cF 0) r) r<|lv (fI r r) r<|lx r (ga r r r) fun _ _=>nr<|eb r<|nk<|jr ?_
 exact bM r (.tmp r (.nil)) (y2.1, y2.2.1, y2.2.2) trivial r Ent.take
theorem Es (c j k l m o p q s t u v w A B C : Nat) (bg P sm J w0 f0 p0 last now on a i g : Int) (d : ByteArray) (cF : Int -> Int) (fl : Int -> Option Value) (lb : Nat) (hg : g = 0 \/ g = 1) (q0 q1 q2 : Mq.Sn) (h10 : fl 10 = some (Pt lb 0)) (h : 0 <= now /\ now <= a /\ 0 <= on /\ on <= a /\ a <= 10000000 /\ 0 <= i /\ i <= 200 /\ d.size <= 1000 /\ 0 <= q0.e /\ 0 <= q1.e /\ 0 <= q2.e /\ ((aL 10 0 g i d).size : Int) <= 1000) : Sp prog 137 #[Pt c 0, I a] ((aa (am c [I g, Sk j k 3 l, Mp m, Sk o p 1 q, I a, Mp s] 201) (aa (AE o p q a lb g i d) (aa (ye lb bg sm t u v w last) (aa (Ow 3 1 (Sk t u 1 v) 1 [I 1]) (aa (tP j k l A B C) (aa (mD B q1 on) (aa (mD A q0 on) (mD C q2 on))))))))) (.tuple #[Ns, I 0]) ((aa (am c [I g, Sk j k 3 l, Mp m, Sk o (if q = 1 then p else p + 1 * 3) 0 (q - 1), I a, Mp s] 201) (aa (AE o p q a lb g i d) (aa (ye lb bg sm t u v w last) (aa (Ow 3 1 (Sk t u 1 v) 1 [I 1]) (aa (tP j k l A B C) (aa (Mq.OutP B (gU ⟨10, aL 10 0 g i d, a, a + (((aL 10 0 g i d).size : Int) + 20)⟩) 1024 1024 0 0 a) (aa (mD A q0 a) (mD C q2 a))))))))) := by
 refine en func137 r fun _ F=>sb r<|nj<|sb r<|aW func100 r<|aE r<|js<|jb<|sa r<|ep false r<|an r<|cf r<|sa r<|bJ r<|ea r<|go r<|ea r<|go r<|bJ r<|bf r<|sr<|ec r<|lf 4 r r<|bJ r<|an r<|cf r<|cY<|aE r<|jr<|cX r<|an r<|sb r<|nf r<|sk<|sb r<|aW func101 r<|sr<|ec r<|fa 4 r<|so r r<|nk<|jl<|ju<|js<|sb r<|lf 3 r r<|ll r<|eb r<|go r<|ea r<|go r ?_
 refine ea r<|go r<|fa 3 r<|go r<|ld r r<|go r<|ix p r r<|go r<|fa p r<|go r<|lv (aF 0 r r r) r<|go r<|ea r<|go r<|eR r<|an r<|ct r<|sk<|jb<|sb r<|lf 3 r r<|ix p r r<|lv (bP 0 r r) r<|al r fun b1=>so r r<|nr<|ec r<|lf 3 r r<|lv (mv r r r 1 0 r r) r<|ea r<|fa 3 r<|so r r<|nk<|jg<|ea r<|ls r<|aW func139 r<|sr<|bx r fun b21=>nr<|lf 1 r r<|ea r<|fa 0 r<|lf 7 r r<|ll r<|an r<|jl<|ut r<|js<|jb<|sr<|ix u r r ?_
 refine lv (aF 0 r r r) r<|an r<|js<|av ((aa (am c [I g, Sk j k 3 l, Mp m, Sk o (if q = 1 then p else p + 1 * 3) 0 (q - 1), I a, Mp s] 201) (aa (tP j k l A B C) (aa (am b21 [I a, Pt lb 0, .string (aL 10 0 g i d)] 308) (ye lb bg sm t u v w last))))) (emp) [] ae<|pe 0 r r<|pe 1 r r<|pf 2 1 r r<|pe 4 r r<|pf 7 0 r r<|pf 9 1 r r<|pf 15 1 r r<|pf 21 2 r r<|pl 3 r r r<|ps 5 r (dx (k + 1) r r r r)<|ps 6 r (aF 1 r r r)<|pl 8 r r r<|pl 10 r r r<|pe 11 r r<|pf 12 0 r r<|pf 13 4 r r<|pl 14 r r r<|pl 16 r r r<|pe 17 r r<|pf 18 0 r r<|pf 19 0 r r<|pl 20 r r r<|pl 22 r r r<|pn 23 r (ai (AM B q1 on a 10 (aL 10 0 g i d) (by omega)) r r r) fun _ _=>pe 24 r r<|dn<|kt<|cf r<|jk<|ni (I 1) r<|uf r<|jA r<|ln<|kb<|ku<|ju<|js<|sb r<|lf 3 r r<|ll r<|eb r<|gs r<|gs r ?_
 refine gs r<|gs r<|gs r<|gs r<|gs r<|gs r<|gs r<|an r<|cf r<|jx<|ke<|ke<|kh<|jA r<|nr<|an r<|js<|sb r<|lf 1 r r<|ll r<|an r<|jl<|ut r<|js<|jb<|sa r<|ix k r r<|lv (aF 0 r r r) r<|eb r<|nr<|eb r<|cy (Ea A q0 on a (by omega)) r fun y1=>ed r<|an r<|sa r<|ll r<|an r<|jl<|uf r<|ni (I 1) r<|ut r<|js<|jb<|sa r<|ix (k + 1) r r<|lv (aF 1 r r r) r<|eb r<|nr<|eb r<|cy (IV B (⟨10, aL 10 0 g i d, a, a + (((aL 10 0 g i d).size : Int) + 20)⟩) a a (by dsimp only; omega) (by dsimp only; omega)) r fun y2=>ed r ?_
 refine an r<|sa r<|ll r<|an r<|jl<|uf r<|ni (I 2) r<|ut r<|js<|jb<|sa r<|ix (k + 2) r r<|lv (aF 2 r r r) r<|eb r<|nr<|eb r<|cy (Ea C q2 on a (by omega)) r fun y3=>ed r<|an r<|sa r<|ll r<|an r<|jl<|uf r<|ni (I 3) r<|uf r<|kt<|sa r<|aW func164 r<|jg<|eb r<|ll r<|ea r<|aW func189 r<|aE r<|sr<|ec r<|nj<|jl<|ju<|js<|sr<|ec r<|nf r<|jx<|ke<|ke<|kh<|kt<|sr<|ed r<|aW func214 r ?_
 refine sa r<|ib (I 1) r<|an r<|jl<|ju<|js<|sr<|ec r<|nf r<|jx<|ke<|ke<|kh<|jA r<|nk<|jl<|ju<|js<|sr<|ec r<|nf r<|jx<|ke<|ke<|kh<|jA r<|ln<|jA r<|nr<|ec r<|nk ?_
 refine jr<|r2 r Ent.take
theorem Bp (c j k l m o p q s : Nat) (s71 : Option Addr × Nat) (bg P sm J w0 f0 p0 last now on a i g : Int) (d : ByteArray) (cF : Int -> Int) (fl : Int -> Option Value) (lb : Nat) (hg : g = 0 \/ g = 1) (q0 q1 q2 : Mq.Sn) (b1 : Bool) (h10 : fl 10 = some (Pt lb 0)) (hb : b1 = true -> a < q1.e) (h : 0 <= now /\ now <= a /\ 0 <= on /\ on <= a /\ a <= 10000000 /\ 0 <= i /\ i <= 200 /\ d.size <= 1000 /\ 0 <= q0.e /\ 0 <= q1.e /\ 0 <= q2.e) : Sp prog 137 #[Pt c 0, I a] ((aa (kV c g j k l m s71 now o) (aa (tP j k l p q s) (aa (mD p q0 on) (aa (Mq.OutP q ⟨[], [], b1, q1, []⟩ 1024 1024 0 0 on) (mD s q2 on)))))) (.tuple #[Ns, I 0]) ((aa (kV c g j k l m s71 a o) (aa (tP j k l p q s) (aa (mD p q0 a) (aa (Mq.OutP q ⟨[], [], b1, q1, []⟩ 1024 1024 0 0 a) (mD s q2 a)))))) := by
 refine en func137 r fun _ F=>sb r<|nj<|sb r<|aW func100 r<|aE r<|js<|jb<|sa r<|ep false r<|an r<|cf r<|sa r<|bJ r<|ea r<|go r<|ea r<|go r<|bJ r<|bf r<|sr<|ec r<|lf 4 r r<|bJ r<|an r<|cf r<|cY<|aE r<|jr<|cX r<|an r<|sb r<|nf r<|sk<|sb r<|aW func101 r<|sr<|ec r<|fa 4 r<|so r r<|nk<|jl<|ju<|js<|sb r<|lf 3 r r<|ll r<|eb r<|gs r<|gs r<|gs r ?_
 refine gs r<|gs r<|gs r<|gs r<|gs r<|gs r<|an r<|cf r<|jx<|ke<|ke<|kh<|jA r<|nr<|an r<|js<|sb r<|lf 1 r r<|ll r<|an r<|jl<|ut r<|js<|jb<|sa r<|ix k r r<|lv (aF 0 r r r) r<|eb r<|nr<|eb r<|cy (Ea p q0 on a (by omega)) r fun y1=>ed r<|an r<|sa r<|ll r<|an r<|jl<|uf r<|ni (I 1) r<|ut r<|js<|jb<|sa r<|ix (k + 1) r r<|lv (aF 1 r r r) r<|eb r<|nr<|eb r<|cy (tV q q1 b1 on a (by omega) hb) r fun y2=>ed r<|an r<|sa r<|ll r<|an r<|jl<|uf r<|ni (I 2) r<|ut r<|js<|jb<|sa r<|ix (k + 2) r r<|lv (aF 2 r r r) r<|eb r<|nr<|eb r ?_
 refine cy (Ea s q2 on a (by omega)) r fun y3=>ed r<|an r<|sa r<|ll r<|an r<|jl<|uf r<|ni (I 3) r<|uf r<|kt<|sa r<|aW func164 r<|jg<|eb r<|ll r<|ea r<|aW func189 r<|aE r<|sr<|ec r<|nj<|jl<|ju<|js<|sr<|ec r<|nf r<|jx<|ke<|ke<|kh<|kt<|sr<|ed r<|aW func214 r ?_
 refine sa r<|ib (I 1) r<|an r<|jl<|ju<|js<|sr<|ec r<|nf r<|jx<|ke<|ke<|kh<|jA r<|nk<|jl<|ju<|js<|sr<|ec r<|nf r<|jx<|ke<|ke<|kh<|jA r<|ln<|jA r<|nr<|ec r<|nk ?_
 refine jr<|r2 r Ent.take
theorem Ew (c j k l o p q s t : Nat) (s86 : Option Addr × Nat) (bg P sm J w0 f0 p0 last now on a i g : Int) (d : ByteArray) (cF : Int -> Int) (fl : Int -> Option Value) (lb : Nat) (hg : g = 0 \/ g = 1) (q0 q2 : Mq.Sn) (xt : ByteArray) (xb xe : Int) (h10 : fl 10 = some (Pt lb 0)) (h : 0 <= now /\ now <= a /\ 0 <= on /\ on <= a /\ a <= 10000000 /\ 0 <= i /\ i <= 200 /\ d.size <= 1000 /\ 0 <= q0.e /\ 0 <= q2.e /\ 0 <= xe /\ xe <= a) : FSpec prog 137 #[Pt c 0, I a] ((aa (kV c g j k l o s86 now p) (aa (tP j k l q s t) (aa (mD q q0 on) (aa (Mq.OutP s (gU ⟨10, xt, xb, xe⟩) 1024 1024 0 0 on) (mD t q2 on)))))) (fun _ : Nat × Nat × Nat => True) (fun y => .tuple #[Sk y.1 y.2.1 1 y.2.2, I 0]) (fun y => (aa (kV c g j k l o s86 a p) (aa (tP j k l q s t) (aa (mD q q0 a) (aa (Mq.OutP s (dS ⟨10, xt, xb, xe⟩) 1024 1024 0 0 a) (aa (mD t q2 a) (Ow 305 5 (Sk y.1 y.2.1 1 y.2.2) 1 [I 1, I 10, .string xt, I xb, I xe]))))))) := by
 refine en func137 r fun _ F=>sb r<|nj<|sb r<|aW func100 r<|aE r<|js<|jb<|sa r<|ep false r<|an r<|cf r<|sa r<|bJ r<|ea r<|go r<|ea r<|go r<|bJ r<|bf r<|sr<|ec r<|lf 4 r r<|bJ r<|an r<|cf r<|cY<|aE r<|jr<|cX r<|an r<|sb r<|nf r<|sk<|sb r<|aW func101 r<|sr<|ec r<|fa 4 r<|so r r<|nk<|jl<|ju<|js<|sb r<|lf 3 r r<|ll r<|eb r<|gs r<|gs r<|gs r ?_
 refine gs r<|gs r<|gs r<|gs r<|gs r<|gs r<|an r<|cf r<|jx<|ke<|ke<|kh<|jA r<|nr<|an r<|js<|sb r<|lf 1 r r<|ll r<|an r<|jl<|ut r<|js<|jb<|sa r<|ix k r r<|lv (aF 0 r r r) r<|eb r<|nr<|eb r<|cy (Ea q q0 on a (by omega)) r fun y1=>ed r<|an r<|sa r<|ll r<|an r<|jl<|uf r<|ni (I 1) r<|ut r<|js<|jb<|sa r<|ix (k + 1) r r<|lv (aF 1 r r r) r<|eb r<|nr<|eb r<|cy (DJ s 10 xt xb xe on a (by omega) (by omega)) r fun y2=>ed r<|an r<|sa r<|ll r<|an r<|jl<|ut r<|js<|jb<|sr<|ix y2.2.1 r r<|lv (bP 0 r r) r<|al r fun b3=>so r r<|nk<|jg<|eb r ?_
 refine lf 0 r r<|lf 1 r r<|lf 2 r r<|lf 3 r r<|lv (af r) r<|lx r (aq (m := 5) r r (by decide) (by decide) r) fun b4 _=>lx r (gB (m := 5) (B := 48) 1 r r (Src.lit) r r r (List.all_eq_true.1 r) r r r r) fun z5 _=>ea r<|ln<|ni (I 1) r<|uf r<|ni (I 2) r<|ut r<|js<|jb<|sa r<|ix (k + 2) r r<|lv (aF 2 r r r) r<|eb r<|nr<|eb r<|cy (Ea t q2 on a (by omega)) r fun y6=>ed r<|an r<|sa r<|ll r<|an r<|jl<|uf r<|ni (I 3) r<|uf r<|kt<|sa r<|aW func164 r<|jg<|eb r<|ll r<|ea r<|aW func189 r<|aE r<|sr<|ec r<|nj<|jl<|ju<|js<|sr<|ec r<|nf r<|jx<|ke<|ke<|kh<|kt<|sr<|ed r<|aW func214 r ?_
 refine sa r<|ib (I 1) r<|an r<|jl<|ju<|js<|sr<|ec r<|nf r<|jx<|ke<|ke<|kh<|jA r<|nk<|jl<|ju<|js<|sr<|ec r<|nf r<|jx<|ke<|ke<|kh<|jA r<|ln<|jA r<|nr<|ec r<|nk<|jr ?_
 exact bM r (.tmp r (.tmp r (.nil))) (z5.1, z5.2.1, z5.2.2) trivial r Ent.take
theorem xq (c e j k l m : Nat) (s104 : Option Addr × Nat) (now a g vl ho sq : Int) (d : ByteArray) (cF : Int -> Int) (fl : Int -> Option Value) (hg : g = 0 \/ g = 1) (hv : (eL vl).2 = 0) (hs : (eI ho g).2 = 0) (hn : fl vl = none) (h : 0 <= now /\ now <= a /\ a <= 10000000 /\ 0 <= sq /\ sq <= 255 /\ d.size <= 1499 /\ ho ≠ 2) : Sp prog 62 #[Pt c 0, I a, I 2, .string (aL vl ho g sq d), I 0] ((aa (kV c g e j k l s104 now m) (aa (az l .i64 fl) (mapc m .i64 cF)))) (I 14) ((aa (kV c g e j k l s104 a m) (aa (az l .i64 fl) (GD m cF)))) := by
 refine en func62 r fun _ F=>aE r<|sb r<|aW func100 r<|aE r<|js<|jb<|sa r<|ep false r<|an r<|cf r<|sa r<|bJ r<|ea r<|go r<|ea r<|go r<|bJ r<|bf r<|sr<|ec r<|lf 4 r r<|bJ r<|an r<|cf r<|cY<|aE r<|jr<|cX r<|an r<|js<|jb<|sr<|ec r<|nf r<|sr<|ec r<|go r<|ea r<|go r<|ec r<|go r<|ea r<|go r<|ea r<|go r<|ea r<|go r<|fa 1 r<|go r<|ld r r<|go r<|ll r<|go r<|ec r<|go r<|ea r ?_
 refine go r<|ec r<|go r<|ea r<|go r<|ec r<|nf r<|sr<|ec r<|nf r<|cY<|sb r<|aW func101 r<|sr<|ec r<|fa 4 r<|so r r<|nk<|jl<|ju<|js<|sb r<|lf 3 r r<|ll r<|eb r<|gs r<|gs r<|gs r<|gs r<|gs r<|gs r<|gs r<|gs r<|gs r<|an r<|cf r<|jx<|ke<|ke<|kh<|jA r<|nr<|ed r<|ea r<|aW func102 r<|aE r<|sa r<|cy (j5 vl ho g sq d hv hs (by omega) (by omega)) r fun _=>ec r<|al r fun b1=>so r r<|an r<|js<|sb r<|nf r<|sk<|js<|dM ae<|qb r<|qf 2 r ?_
 refine ql r r<|qf 0 r<|ql r r<|qv (aN (v := Np) r r none hn r) r<|qa r<|qn<|kt<|js<|jb<|js<|dM ae<|qf 1 r<|ql r r<|qa r<|Cd r<|qa r ?_
 refine qs r<|qs r<|qs r<|qs r<|qs r<|qs r<|qs r<|qb r<|qn<|kt<|ct r<|aE r<|jr<|kq<|kd<|cX r<|an r<|sb r<|lf 5 r r<|ea r<|lv (eh r r (cF 14) r) r<|lv (fI r r) r<|lx r (ga r r r) fun _ _=>nr<|eb r<|nk<|jr<|r1 r Ent.take
theorem jP (c e j k l m : Nat) (s116 : Option Addr × Nat) (now a g vl ho sq : Int) (d : ByteArray) (cF : Int -> Int) (fl : Int -> Option Value) (hg : g = 0 \/ g = 1) (hv : (eL vl).2 = 0) (hs : (eI ho g).2 = 0) (lb : Nat) (hn : fl vl = some (Pt lb 0)) (h : 0 <= now /\ now <= a /\ a <= 10000000 /\ 0 <= sq /\ sq <= 255 /\ d.size <= 1499 /\ ho ≠ 2) : Sp prog 62 #[Pt c 0, I a, I 2, .string (aL vl ho g sq d), I 0] ((aa (kV c g e j k l s116 now m) (aa (az l .i64 fl) (mapc m .i64 cF)))) (I 14) ((aa (kV c g e j k l s116 a m) (aa (az l .i64 fl) (GD m cF)))) := by
 refine en func62 r fun _ F=>aE r<|sb r<|aW func100 r<|aE r<|js<|jb<|sa r<|ep false r<|an r<|cf r<|sa r<|bJ r<|ea r<|go r<|ea r<|go r<|bJ r<|bf r<|sr<|ec r<|lf 4 r r<|bJ r<|an r<|cf r<|cY<|aE r<|jr<|cX r<|an r<|js<|jb<|sr<|ec r<|nf r<|sr<|ec r<|go r<|ea r<|go r<|ec r<|go r<|ea r<|go r<|ea r<|go r<|ea r<|go r<|fa 1 r<|go r<|ld r r<|go r<|ll r<|go r<|ec r<|go r<|ea r ?_
 refine go r<|ec r<|go r<|ea r<|go r<|ec r<|nf r<|sr<|ec r<|nf r<|cY<|sb r<|aW func101 r<|sr<|ec r<|fa 4 r<|so r r<|nk<|jl<|ju<|js<|sb r<|lf 3 r r<|ll r<|eb r<|gs r<|gs r<|gs r<|gs r<|gs r<|gs r<|gs r<|gs r<|gs r<|an r<|cf r<|jx<|ke<|ke<|kh<|jA r<|nr<|ed r<|ea r<|aW func102 r<|aE r<|sa r<|cy (j5 vl ho g sq d hv hs (by omega) (by omega)) r fun _=>ec r<|al r fun b1=>so r r<|an r<|js<|sb r<|nf r<|sk<|js<|dM ae<|qb r<|qf 2 r ?_
 refine ql r r<|qf 0 r<|ql r r<|qv (aN (v := Pt lb 0) r r (some (Pt lb 0)) hn r) r<|qa r<|qn<|kt<|js<|jb<|js<|dM ae<|qf 1 r<|ql r r<|qa r<|Cd r<|qa r ?_
 refine qs r<|qs r<|qs r<|qs r<|qs r<|qs r<|qs r<|qb r<|qn<|kt<|ct r<|aE r<|jr<|kq<|kd<|cX r<|an r<|sb r<|lf 5 r r<|ea r<|lv (eh r r (cF 14) r) r<|lv (fI r r) r<|lx r (ga r r r) fun _ _=>nr<|eb r<|nk<|jr<|r1 r Ent.take
theorem xp (c e j k l m : Nat) (s128 : Option Addr × Nat) (now a g vl ho sq : Int) (d : ByteArray) (cF : Int -> Int) (fl : Int -> Option Value) (hg : g = 0 \/ g = 1) (hv : (eL vl).2 = 0) (hs : (eI ho g).2 = 0) (hn : fl vl = none) (h : 0 <= now /\ now <= a /\ a <= 10000000 /\ 0 <= sq /\ sq <= 255 /\ d.size <= 1499 /\ ho = 2) : Sp prog 62 #[Pt c 0, I a, I 2, .string (aL vl ho g sq d), I 0] ((aa (kV c g e j k l s128 now m) (aa (az l .i64 fl) (mapc m .i64 cF)))) (I 27) ((aa (kV c g e j k l s128 a m) (aa (az l .i64 fl) (GC m cF)))) := by
 refine en func62 r fun _ F=>aE r<|sb r<|aW func100 r<|aE r<|js<|jb<|sa r<|ep false r<|an r<|cf r<|sa r<|bJ r<|ea r<|go r<|ea r<|go r<|bJ r<|bf r<|sr<|ec r<|lf 4 r r<|bJ r<|an r<|cf r<|cY<|aE r<|jr<|cX r<|an r<|js<|jb<|sr<|ec r<|nf r<|sr<|ec r<|go r<|ea r<|go r<|ec r<|go r<|ea r<|go r<|ea r<|go r<|ea r<|go r<|fa 1 r<|go r<|ld r r<|go r<|ll r<|go r<|ec r<|go r<|ea r ?_
 refine go r<|ec r<|go r<|ea r<|go r<|ec r<|nf r<|sr<|ec r<|nf r<|cY<|sb r<|aW func101 r<|sr<|ec r<|fa 4 r<|so r r<|nk<|jl<|ju<|js<|sb r<|lf 3 r r<|ll r<|eb r<|gs r<|gs r<|gs r<|gs r<|gs r<|gs r<|gs r<|gs r<|gs r<|an r<|cf r<|jx<|ke<|ke<|kh<|jA r<|nr<|ed r<|ea r<|aW func102 r<|aE r<|sa r<|cy (j5 vl ho g sq d hv hs (by omega) (by omega)) r fun _=>ec r<|al r fun b1=>so r r<|an r<|js<|sb r<|nf r<|sk<|js<|dM ae<|qb r<|qf 2 r ?_
 refine ql r r<|qf 0 r<|ql r r<|qv (aN (v := Np) r r none hn r) r<|qa r<|qn<|kt<|js<|jb<|js<|dM ae<|qf 1 r<|ql r r<|qa r<|s5 r<|qa r<|qo r<|qf 2 r<|qo r<|ql r r<|qo r<|qa r<|qo r<|qa r<|qo r<|qf 0 r<|qo r<|ql r r<|qo r<|s5 r<|qb r<|qn<|kt<|cf r<|sa r<|ep true r<|ea r<|gs r<|gs r<|gs r<|gs r<|gs r<|gs r<|gs r<|eb r<|nt r<|aE r<|jr ?_
 refine kq<|kd<|cX r<|an r<|sb r<|lf 5 r r<|ea r<|lv (eh r r (cF 27) r) r<|lv (fI r r) r<|lx r (ga r r r) fun _ _=>nr<|eb r<|nk<|jr<|r1 r Ent.take
theorem jQ (c e j k l m : Nat) (s140 : Option Addr × Nat) (now a g vl ho sq : Int) (d : ByteArray) (cF : Int -> Int) (fl : Int -> Option Value) (hg : g = 0 \/ g = 1) (hv : (eL vl).2 = 0) (hs : (eI ho g).2 = 0) (x0 x1 x2 x3 x4 x5 x6 x7 x8 : Value) (lb : Nat) (hn : fl vl = some (Pt lb 0)) (h : 0 <= now /\ now <= a /\ a <= 10000000 /\ 0 <= sq /\ sq <= 255 /\ d.size <= 1499 /\ ho = 2) : Sp prog 62 #[Pt c 0, I a, I 2, .string (aL vl ho g sq d), I 0] ((aa (kV c g e j k l s140 now m) (aa (az l .i64 fl) (aa (am lb [x0, I 0, x1, x2, x3, x4, x5, x6, x7, x8] 213) (mapc m .i64 cF))))) (I 27) ((aa (kV c g e j k l s140 a m) (aa (az l .i64 fl) (aa (am lb [x0, I 0, x1, x2, x3, x4, x5, x6, x7, x8] 213) (GC m cF))))) := by
 refine en func62 r fun _ F=>aE r<|sb r<|aW func100 r<|aE r<|js<|jb<|sa r<|ep false r<|an r<|cf r<|sa r<|bJ r<|ea r<|go r<|ea r<|go r<|bJ r<|bf r<|sr<|ec r<|lf 4 r r<|bJ r<|an r<|cf r<|cY<|aE r<|jr<|cX r<|an r<|js<|jb<|sr<|ec r<|nf r<|sr<|ec r<|go r<|ea r<|go r<|ec r<|go r<|ea r<|go r<|ea r<|go r<|ea r<|go r<|fa 1 r<|go r<|ld r r<|go r<|ll r<|go r<|ec r<|go r<|ea r ?_
 refine go r<|ec r<|go r<|ea r<|go r<|ec r<|nf r<|sr<|ec r<|nf r<|cY<|sb r<|aW func101 r<|sr<|ec r<|fa 4 r<|so r r<|nk<|jl<|ju<|js<|sb r<|lf 3 r r<|ll r<|eb r<|gs r<|gs r<|gs r<|gs r<|gs r<|gs r<|gs r<|gs r<|gs r<|an r<|cf r<|jx<|ke<|ke<|kh<|jA r<|nr<|ed r<|ea r<|aW func102 r<|aE r<|sa r<|cy (j5 vl ho g sq d hv hs (by omega) (by omega)) r fun _=>ec r<|al r fun b1=>so r r<|an r<|js<|sb r<|nf r<|sk<|js<|dM ae<|qb r<|qf 2 r ?_
 refine ql r r<|qf 0 r<|ql r r<|qv (aN (v := Pt lb 0) r r (some (Pt lb 0)) hn r) r<|qa r<|qn<|kt<|js<|jb<|js<|dM ae<|qf 1 r<|ql r r<|qa r<|s5 r<|qa r<|qo r<|qf 2 r<|qo r<|ql r r<|qo r<|qa r<|qo r<|qa r<|qo r<|qf 0 r<|qo r<|ql r r<|qo r<|s5 r<|qb r<|qn<|kt<|cf r<|sa r<|ep false r<|ea r<|go r<|ea r<|go r<|ea r<|go r<|fa 0 r<|go r<|fa 1 r<|go r<|ld r r<|go r ?_
 refine ea r<|go r<|ec r<|nt r<|aE r<|jr<|kq<|kd<|cX r<|an r<|sb r<|lf 5 r r<|ea r<|lv (eh r r (cF 27) r) r<|lv (fI r r) r<|lx r (ga r r r) fun _ _=>nr<|eb r<|nk<|jr<|r1 r Ent.take
end Sp
section
variable {sm bg P J w0 f0 p0 la T g now : Int} {p n : Nat} {x : ByteArray}
theorem sP {prog : Program} {f : FuncId} {args : Array Value} {X : Type} {v : Value} {P Q : ab} (k : FSpec prog f args P (fun _ : X => True) (fun _ => v) (fun _ => Q)) : Go.SLA.Sp prog f args P v Q := k.conseq (ah _) fun _ _ => ⟨(), trivial, rfl, ah _⟩
namespace Sp
open Mq
structure AcH (sm bg P J w0 f0 p0 la T : Int) : Prop where
 bp : (bg = 0 /\ P = 12500) \/ (bg = 1 /\ P = 25000)
 s : 80 <= sm /\ sm < 280
 j : 600 <= J /\ J <= 10000
 w : 0 <= w0 /\ w0 <= T /\ T + 350 - w0 <= P + J
 f : 0 <= f0 /\ f0 <= sm * (P + J)
 c : sm * (P + J - 350) <= f0 + sm * (T - w0)
 p : 0 <= p0 /\ p0 * 80 <= w0 + 80
 l : 0 <= la /\ la <= w0
theorem AcH.step {a len : Int} (h : AcH sm bg P J w0 f0 p0 la T) (ha : T + 80 <= a /\ a <= T + 350 /\ a <= 10000000) (hl : 0 <= len /\ len <= sm) :
  fR sm bg J P w0 f0 a len p0 0 /\ AcH sm bg P J a (mn (f0 + sm * (a - w0)) (sm * (P + J)) - len * P) (p0 + 1) a (T + P) := by
 obtain ⟨h1, h2, h3, h4, h5, h6, h7, h8⟩ := h
 have hP : 12500 <= P /\ P <= 25000 := by omega
 have e1 : sm * (a - w0) = sm * (T - w0) + sm * (a - T) := by rw [<- Int.mul_add]; congr 1; omega
 have e2 : sm * (P + J) = sm * P + sm * J := Int.mul_add ..
 have e3 : sm * (P + J - 350) = sm * P + sm * J - sm * 350 := by rw [Int.mul_sub, Int.mul_add]
 have e4 : sm * (T + P - a) = sm * P - sm * (a - T) := by rw [<- Int.mul_sub]; congr 1; omega
 have b1 : 0 <= sm * (a - T) := Int.mul_nonneg (by omega) (by omega)
 have b2 : sm * (a - T) <= sm * 350 := Int.mul_le_mul_of_nonneg_left (by omega) (by omega)
 have b3 : sm * 600 <= sm * J := Int.mul_le_mul_of_nonneg_left (by omega) (by omega)
 have b4 : sm * J <= sm * 10000 := Int.mul_le_mul_of_nonneg_left (by omega) (by omega)
 have b5 : 0 <= sm * (T - w0) := Int.mul_nonneg (by omega) (by omega)
 have b6 : sm * (a - w0) <= sm * (P + J) := Int.mul_le_mul_of_nonneg_left (by omega) (by omega)
 have b7 : len * P <= sm * P := Int.mul_le_mul_of_nonneg_right (by omega) (by omega)
 have b8 : 0 <= len * P := Int.mul_nonneg (by omega) (by omega)
 have b9 : sm * P <= sm * 25000 := Int.mul_le_mul_of_nonneg_left (by omega) (by omega)
 rw [e3] at h6
 have hm : sm * P + sm * J - sm * 350 + sm * (a - T) <= mn (f0 + sm * (a - w0)) (sm * (P + J)) /\ mn (f0 + sm * (a - w0)) (sm * (P + J)) <= sm * (P + J) := by
  unfold mn
  split <;> omega
 refine ⟨⟨h1, by omega, by omega, by omega, by omega, by omega, by omega, by omega, by omega, by omega, by omega, by omega, by omega, by omega, by omega, by omega, by omega, by omega, by omega, by omega, by omega, by omega⟩, ⟨h1, h2, h3, by omega, by omega, ?_, by omega, by omega⟩⟩
 rw [e3, e4]
 omega
theorem AcH.begin (h : AcH sm bg P J w0 f0 p0 la 0) (hT : 0 <= T /\ T <= 1000) : AcH sm bg P J w0 f0 p0 la T := by
 obtain ⟨h1, h2, h3, h4, h5, h6, h7, h8⟩ := h
 have hw : w0 = 0 := by omega
 subst hw
 have hP : 12500 <= P := by omega
 have b1 : 0 <= sm * T := Int.mul_nonneg (by omega) (by omega)
 refine ⟨h1, h2, h3, by omega, h5, ?_, h7, h8⟩
 rw [Int.sub_zero] at h6 ⊢
 omega
structure SwV where
 ob : Nat
 oo : Nat
 oc : Nat
 lr : Nat
 cr : Nat
 lb : Nat
 tb : Nat
 to : Nat
 tc : Nat
 ac : Nat
 o0 : Nat
 o1 : Nat
 o2 : Nat
 wv : Option Addr × Nat
 fl : Int -> Option Value
 cF : Int -> Int
 w0 : Int
 f0 : Int
 p0 : Int
 last : Int
 on : Int
 q0 : Sn
 q1 : Sn
 q2 : Sn
structure SwH (v : SwV) (n : Nat) (g sm bg P J now T : Int) : Prop where
 g : g = 0 \/ g = 1
 ten : v.fl 10 = some (Pt v.lb 0)
 dom : ∀ k, v.fl k ≠ none -> 10 <= k /\ k < 10 + n
 ac : AcH sm bg P J v.w0 v.f0 v.p0 v.last T
 nw : 0 <= now
 on : 0 <= v.on /\ v.on <= now
 qe : 0 <= v.q0.e /\ 0 <= v.q1.e /\ 0 <= v.q2.e
def XS (fl : Int -> Option Value) (id : Int) : ab := ex fun y : Nat × (Nat -> Value) => (aa (SLA.lift (fl id = some (Pt y.1 0))) (am y.1 [y.2 0, I 0, y.2 1, y.2 2, y.2 3, y.2 4, y.2 5, y.2 6, y.2 7, y.2 8] 213))
def SwX (n : Nat) (fl : Int -> Option Value) : ab := match n with
 | 1 => emp
 | 2 => XS fl 11
 | _ => (aa (XS fl 11) (XS fl 12))
def SwI (p n : Nat) (g sm bg P J now T : Int) : ab := ex fun v : SwV => (aa (SLA.lift (SwH v n g sm bg P J now T)) ((aa (am p [I g, Sk v.ob v.oo 3 v.oc, Mp v.lr, .slice v.wv.1 0 v.wv.2, I now, Mp v.cr] 201) (aa (Ow 202 1 (Sk v.ob v.oo 3 v.oc) 3 [Pt v.o0 0, Pt v.o1 0, Pt v.o2 0]) (aa (az v.lr .i64 v.fl) (aa (mapc v.cr .i64 v.cF) (aa (am v.lb [I 10, I 0, I bg, I sm, Ff, I 2, I 60000, Sk v.tb v.to 1 v.tc, Pt v.ac 0, I v.last] 213) (aa (Ow 3 1 (Sk v.tb v.to 1 v.tc) 1 [I 1]) (aa (am v.ac [I sm, I bg, I J, Ff, I v.w0, I v.f0, I v.p0, I 0] 255) (aa (OutP v.o0 (dS v.q0) 1024 1024 0 0 v.on) (aa (OutP v.o1 (dS v.q1) 1024 1024 0 0 v.on) (aa (OutP v.o2 (dS v.q2) 1024 1024 0 0 v.on) (aa (Ow 308 3 (.slice v.wv.1 0 v.wv.2) 0 []) (SwX n v.fl))))))))))))))
def SwT (p n : Nat) (g sm bg P J now T : Int) (x : ByteArray) : ab := ex fun z : SwV × Nat × Nat × Nat => (fun v w => (aa (SLA.lift (SwH v n g sm bg P J now T)) ((aa (am p [I g, Sk v.ob v.oo 3 v.oc, Mp v.lr, Sk w.1 w.2.1 1 w.2.2, I now, Mp v.cr] 201) (aa (Ow 202 1 (Sk v.ob v.oo 3 v.oc) 3 [Pt v.o0 0, Pt v.o1 0, Pt v.o2 0]) (aa (az v.lr .i64 v.fl) (aa (mapc v.cr .i64 v.cF) (aa (am v.lb [I 10, I 0, I bg, I sm, Ff, I 2, I 60000, Sk v.tb v.to 1 v.tc, Pt v.ac 0, I v.last] 213) (aa (Ow 3 1 (Sk v.tb v.to 1 v.tc) 1 [I 1]) (aa (am v.ac [I sm, I bg, I J, Ff, I v.w0, I v.f0, I v.p0, I 0] 255) (aa (OutP v.o0 (dS v.q0) 1024 1024 0 0 v.on) (aa (OutP v.o1 (dS v.q1) 1024 1024 0 0 v.on) (aa (OutP v.o2 (dS v.q2) 1024 1024 0 0 v.on) (aa (Ow 308 3 (Sk w.1 w.2.1 1 w.2.2) 1 [I now, Pt v.lb 0, .string x]) (SwX n v.fl))))))))))))))) z.1 z.2
def SwB (p n : Nat) (g sm bg P J now T : Int) (x : ByteArray) (xb xe : Int) : ab := ex fun v : SwV => (aa (SLA.lift (SwH v n g sm bg P J now T /\ 0 <= xe)) ((aa (am p [I g, Sk v.ob v.oo 3 v.oc, Mp v.lr, .slice v.wv.1 0 v.wv.2, I now, Mp v.cr] 201) (aa (Ow 202 1 (Sk v.ob v.oo 3 v.oc) 3 [Pt v.o0 0, Pt v.o1 0, Pt v.o2 0]) (aa (az v.lr .i64 v.fl) (aa (mapc v.cr .i64 v.cF) (aa (am v.lb [I 10, I 0, I bg, I sm, Ff, I 2, I 60000, Sk v.tb v.to 1 v.tc, Pt v.ac 0, I v.last] 213) (aa (Ow 3 1 (Sk v.tb v.to 1 v.tc) 1 [I 1]) (aa (am v.ac [I sm, I bg, I J, Ff, I v.w0, I v.f0, I v.p0, I 0] 255) (aa (OutP v.o0 (dS v.q0) 1024 1024 0 0 v.on) (aa (OutP v.o1 (gU ⟨10, x, xb, xe⟩) 1024 1024 0 0 v.on) (aa (OutP v.o2 (dS v.q2) 1024 1024 0 0 v.on) (aa (Ow 308 3 (.slice v.wv.1 0 v.wv.2) 0 []) (SwX n v.fl))))))))))))))
theorem SwI.fold (v : SwV) (h : SwH v n g sm bg P J now T) : Ent ((aa (am p [I g, Sk v.ob v.oo 3 v.oc, Mp v.lr, .slice v.wv.1 0 v.wv.2, I now, Mp v.cr] 201) (aa (Ow 202 1 (Sk v.ob v.oo 3 v.oc) 3 [Pt v.o0 0, Pt v.o1 0, Pt v.o2 0]) (aa (az v.lr .i64 v.fl) (aa (mapc v.cr .i64 v.cF) (aa (am v.lb [I 10, I 0, I bg, I sm, Ff, I 2, I 60000, Sk v.tb v.to 1 v.tc, Pt v.ac 0, I v.last] 213) (aa (Ow 3 1 (Sk v.tb v.to 1 v.tc) 1 [I 1]) (aa (am v.ac [I sm, I bg, I J, Ff, I v.w0, I v.f0, I v.p0, I 0] 255) (aa (OutP v.o0 (dS v.q0) 1024 1024 0 0 v.on) (aa (OutP v.o1 (dS v.q1) 1024 1024 0 0 v.on) (aa (OutP v.o2 (dS v.q2) 1024 1024 0 0 v.on) (aa (Ow 308 3 (.slice v.wv.1 0 v.wv.2) 0 []) (SwX n v.fl))))))))))))) (SwI p n g sm bg P J now T) := Ent.trans (Ent.lift h) (bh (f := fun v : SwV => (aa (SLA.lift (SwH v n g sm bg P J now T)) ((aa (am p [I g, Sk v.ob v.oo 3 v.oc, Mp v.lr, .slice v.wv.1 0 v.wv.2, I now, Mp v.cr] 201) (aa (Ow 202 1 (Sk v.ob v.oo 3 v.oc) 3 [Pt v.o0 0, Pt v.o1 0, Pt v.o2 0]) (aa (az v.lr .i64 v.fl) (aa (mapc v.cr .i64 v.cF) (aa (am v.lb [I 10, I 0, I bg, I sm, Ff, I 2, I 60000, Sk v.tb v.to 1 v.tc, Pt v.ac 0, I v.last] 213) (aa (Ow 3 1 (Sk v.tb v.to 1 v.tc) 1 [I 1]) (aa (am v.ac [I sm, I bg, I J, Ff, I v.w0, I v.f0, I v.p0, I 0] 255) (aa (OutP v.o0 (dS v.q0) 1024 1024 0 0 v.on) (aa (OutP v.o1 (dS v.q1) 1024 1024 0 0 v.on) (aa (OutP v.o2 (dS v.q2) 1024 1024 0 0 v.on) (aa (Ow 308 3 (.slice v.wv.1 0 v.wv.2) 0 []) (SwX n v.fl))))))))))))))) v)
theorem SwT.fold (v : SwV) (w : Nat × Nat × Nat) (h : SwH v n g sm bg P J now T) : Ent ((aa (am p [I g, Sk v.ob v.oo 3 v.oc, Mp v.lr, Sk w.1 w.2.1 1 w.2.2, I now, Mp v.cr] 201) (aa (Ow 202 1 (Sk v.ob v.oo 3 v.oc) 3 [Pt v.o0 0, Pt v.o1 0, Pt v.o2 0]) (aa (az v.lr .i64 v.fl) (aa (mapc v.cr .i64 v.cF) (aa (am v.lb [I 10, I 0, I bg, I sm, Ff, I 2, I 60000, Sk v.tb v.to 1 v.tc, Pt v.ac 0, I v.last] 213) (aa (Ow 3 1 (Sk v.tb v.to 1 v.tc) 1 [I 1]) (aa (am v.ac [I sm, I bg, I J, Ff, I v.w0, I v.f0, I v.p0, I 0] 255) (aa (OutP v.o0 (dS v.q0) 1024 1024 0 0 v.on) (aa (OutP v.o1 (dS v.q1) 1024 1024 0 0 v.on) (aa (OutP v.o2 (dS v.q2) 1024 1024 0 0 v.on) (aa (Ow 308 3 (Sk w.1 w.2.1 1 w.2.2) 1 [I now, Pt v.lb 0, .string x]) (SwX n v.fl))))))))))))) (SwT p n g sm bg P J now T x) := Ent.trans (Ent.lift h) (bh (f := fun z : SwV × Nat × Nat × Nat => (fun v w => (aa (SLA.lift (SwH v n g sm bg P J now T)) ((aa (am p [I g, Sk v.ob v.oo 3 v.oc, Mp v.lr, Sk w.1 w.2.1 1 w.2.2, I now, Mp v.cr] 201) (aa (Ow 202 1 (Sk v.ob v.oo 3 v.oc) 3 [Pt v.o0 0, Pt v.o1 0, Pt v.o2 0]) (aa (az v.lr .i64 v.fl) (aa (mapc v.cr .i64 v.cF) (aa (am v.lb [I 10, I 0, I bg, I sm, Ff, I 2, I 60000, Sk v.tb v.to 1 v.tc, Pt v.ac 0, I v.last] 213) (aa (Ow 3 1 (Sk v.tb v.to 1 v.tc) 1 [I 1]) (aa (am v.ac [I sm, I bg, I J, Ff, I v.w0, I v.f0, I v.p0, I 0] 255) (aa (OutP v.o0 (dS v.q0) 1024 1024 0 0 v.on) (aa (OutP v.o1 (dS v.q1) 1024 1024 0 0 v.on) (aa (OutP v.o2 (dS v.q2) 1024 1024 0 0 v.on) (aa (Ow 308 3 (Sk w.1 w.2.1 1 w.2.2) 1 [I now, Pt v.lb 0, .string x]) (SwX n v.fl))))))))))))))) z.1 z.2) (v, w))
theorem SwB.fold {xb xe : Int} (v : SwV) (h : SwH v n g sm bg P J now T /\ 0 <= xe) : Ent ((aa (am p [I g, Sk v.ob v.oo 3 v.oc, Mp v.lr, .slice v.wv.1 0 v.wv.2, I now, Mp v.cr] 201) (aa (Ow 202 1 (Sk v.ob v.oo 3 v.oc) 3 [Pt v.o0 0, Pt v.o1 0, Pt v.o2 0]) (aa (az v.lr .i64 v.fl) (aa (mapc v.cr .i64 v.cF) (aa (am v.lb [I 10, I 0, I bg, I sm, Ff, I 2, I 60000, Sk v.tb v.to 1 v.tc, Pt v.ac 0, I v.last] 213) (aa (Ow 3 1 (Sk v.tb v.to 1 v.tc) 1 [I 1]) (aa (am v.ac [I sm, I bg, I J, Ff, I v.w0, I v.f0, I v.p0, I 0] 255) (aa (OutP v.o0 (dS v.q0) 1024 1024 0 0 v.on) (aa (OutP v.o1 (gU ⟨10, x, xb, xe⟩) 1024 1024 0 0 v.on) (aa (OutP v.o2 (dS v.q2) 1024 1024 0 0 v.on) (aa (Ow 308 3 (.slice v.wv.1 0 v.wv.2) 0 []) (SwX n v.fl))))))))))))) (SwB p n g sm bg P J now T x xb xe) := Ent.trans (Ent.lift h) (bh (f := fun v : SwV => (aa (SLA.lift (SwH v n g sm bg P J now T /\ 0 <= xe)) ((aa (am p [I g, Sk v.ob v.oo 3 v.oc, Mp v.lr, .slice v.wv.1 0 v.wv.2, I now, Mp v.cr] 201) (aa (Ow 202 1 (Sk v.ob v.oo 3 v.oc) 3 [Pt v.o0 0, Pt v.o1 0, Pt v.o2 0]) (aa (az v.lr .i64 v.fl) (aa (mapc v.cr .i64 v.cF) (aa (am v.lb [I 10, I 0, I bg, I sm, Ff, I 2, I 60000, Sk v.tb v.to 1 v.tc, Pt v.ac 0, I v.last] 213) (aa (Ow 3 1 (Sk v.tb v.to 1 v.tc) 1 [I 1]) (aa (am v.ac [I sm, I bg, I J, Ff, I v.w0, I v.f0, I v.p0, I 0] 255) (aa (OutP v.o0 (dS v.q0) 1024 1024 0 0 v.on) (aa (OutP v.o1 (gU ⟨10, x, xb, xe⟩) 1024 1024 0 0 v.on) (aa (OutP v.o2 (dS v.q2) 1024 1024 0 0 v.on) (aa (Ow 308 3 (.slice v.wv.1 0 v.wv.2) 0 []) (SwX n v.fl))))))))))))))) v)
theorem SwI.begin (hT : 0 <= T /\ T <= 1000) : Ent (SwI p n g sm bg P J now 0) (SwI p n g sm bg P J now T) := gl fun h hh => by
 obtain ⟨v, h1, h2, ha, hj, hl, hb⟩ := hh
 exact ⟨v, h1, h2, ha, hj, ⟨{ hl.1 with ac := hl.1.ac.begin hT }, hl.2⟩, hb⟩
theorem Dv (p n : Nat) (g sm bg P J now T a : Int) (i : Int) (d : ByteArray) (h : now <= a /\ a <= 10000000) (hT : T + 80 <= a /\ a <= T + 350) (hi : 0 <= i /\ i <= 200 /\ d.size <= 1000) (hz : ((aL 10 0 g i d).size : Int) <= sm) : Go.SLA.Sp Tryz.prog 62 #[Pt p 0, I a, I 0, .string (aL 10 0 g i d), I 0] (SwI p n g sm bg P J now T) (I 0) (SwT p n g sm bg P J a (T + P) (aL 10 0 g i d)) := by
 refine FSpec.ex fun v =>aO fun hh => ?_
 have hq := hh.qe; have ho := hh.on; have hn := hh.nw
 have hl := hh.ac.l
 have hw := hh.ac.w
 obtain ⟨hp, hac⟩ := hh.ac.step (a := a) (len := ((aL 10 0 g i d).size : Int)) ⟨hT.1, hT.2, h.2⟩ ⟨by omega, hz⟩
 refine sP (FSpec.via (Q := fun _ => (SwT p n g sm bg P J a (T + P) (aL 10 0 g i d))) (Et p v.ob v.oo v.oc v.lr v.cr v.tb v.to v.tc v.ac v.wv bg P sm J v.w0 v.f0 v.p0 v.last now v.on a i g d v.cF v.fl v.lb hh.g v.q0 v.q1 v.q2 hh.ten hp hz ⟨by omega, by omega, by omega, by omega, by omega, by omega, by omega, by omega, by omega, by omega⟩) fun y => Ent.trans Ent.take (SwT.fold { v with last := a, w0 := a, f0 := mn (v.f0 + sm * (a - v.w0)) (sm * (P + J)) - ((aL 10 0 g i d).size : Int) * P, p0 := v.p0 + 1, cF := fun m' => if m' = 0 then IntKind.wrap .i64 (v.cF 0 + 1) else v.cF m' } y ?_))
 exact { hh with ac := hac, nw := by omega, on := by dsimp only; omega }
theorem Du (p n : Nat) (g sm bg P J now T a : Int) (i : Int) (d : ByteArray) (h : now = a /\ a <= 10000000) (hi : 0 <= i /\ i <= 200 /\ d.size <= 1000) (hz : ((aL 10 0 g i d).size : Int) <= 1000) : Go.SLA.Sp Tryz.prog 137 #[Pt p 0, I a] (SwT p n g sm bg P J now T (aL 10 0 g i d)) (.tuple #[Ns, I 0]) (SwB p n g sm bg P J a T (aL 10 0 g i d) a (a + (((aL 10 0 g i d).size : Int) + 20))) := by
 obtain ⟨rfl, h⟩ := h
 refine FSpec.ex fun z => ?_
 obtain ⟨v, w⟩ := z
 refine aO fun hh => ?_
 dsimp only at hh ⊢
 have hq := hh.qe; have ho := hh.on; have hn := hh.nw
 refine Sp.via (Es p v.ob v.oo v.oc v.lr w.1 w.2.1 w.2.2 v.cr v.tb v.to v.tc v.ac v.o0 v.o1 v.o2 bg P sm J v.w0 v.f0 v.p0 v.last now v.on now i g d v.cF v.fl v.lb hh.g v.q0 v.q1 v.q2 hh.ten ⟨by omega, by omega, by omega, by omega, by omega, by omega, by omega, by omega, by omega, by omega, by omega, by omega⟩) ?_
 have t : Ent (Ow 308 3 (Sk w.1 w.2.1 1 w.2.2) 1 [I now, Pt v.lb 0, .string (aL 10 0 g i d)]) (Ow 308 3 (Sk w.1 (if w.2.2 = 1 then w.2.1 else w.2.1 + 1 * 3) 0 (w.2.2 - 1)) 0 []) := by
  haveI : DropL [I now, Pt v.lb 0, Value.string (aL 10 0 g i d)] 3 [] := ⟨rfl⟩
  exact Ow.tail (l2 := []) 1 0 rfl (by simp) (qm := 3) rfl
 refine Ent.trans (dz t) (Ent.trans Ent.take (SwB.fold { v with wv := (some (ad w.1 (if w.2.2 = 1 then w.2.1 else w.2.1 + 1 * 3)), w.2.2 - 1), on := now } ⟨?_, by omega⟩))
 exact { hh with nw := by omega, on := by dsimp only; omega }
theorem Dw (p n : Nat) (g sm bg P J now T a : Int) (h : now <= a /\ a <= 10000000) : Go.SLA.Sp Tryz.prog 137 #[Pt p 0, I a] (SwI p n g sm bg P J now T) (.tuple #[Ns, I 0]) (SwI p n g sm bg P J a T) := by
 refine FSpec.ex fun v =>aO fun hh => ?_
 have hq := hh.qe; have ho := hh.on; have hn := hh.nw
 have k := Bp p v.ob v.oo v.oc v.lr v.cr v.o0 v.o1 v.o2 v.wv bg P sm J v.w0 v.f0 v.p0 v.last now v.on a 0 g ⟨#[]⟩ v.cF v.fl v.lb hh.g v.q0 v.q1 v.q2 false hh.ten (fun h => absurd h (by decide)) ⟨by omega, by omega, by omega, by omega, by omega, by decide, by decide, by decide, by omega, by omega, by omega⟩
 rw [show (⟨[], [], false, v.q1, []⟩ : QS) = dS v.q1 from rfl] at k
 refine Sp.via k (Ent.trans Ent.take (SwI.fold { v with on := a } ?_))
 exact { hh with nw := by omega, on := by dsimp only; omega }
theorem Dz (p n : Nat) (g sm bg P J now T a : Int) (x : ByteArray) (xb xe : Int) (h : now <= a /\ a <= 10000000) (hx : a < xe) : Go.SLA.Sp Tryz.prog 137 #[Pt p 0, I a] (SwB p n g sm bg P J now T x xb xe) (.tuple #[Ns, I 0]) (SwB p n g sm bg P J a T x xb xe) := by
 refine FSpec.ex fun v =>aO fun hB => ?_
 obtain ⟨hh, hx0⟩ := hB
 have hq := hh.qe; have ho := hh.on; have hn := hh.nw
 have k := Bp p v.ob v.oo v.oc v.lr v.cr v.o0 v.o1 v.o2 v.wv bg P sm J v.w0 v.f0 v.p0 v.last now v.on a 0 g ⟨#[]⟩ v.cF v.fl v.lb hh.g v.q0 ⟨10, x, xb, xe⟩ v.q2 true hh.ten (fun _ => hx) ⟨by omega, by omega, by omega, by omega, by omega, by decide, by decide, by decide, by omega, by dsimp only; omega, by omega⟩
 rw [show (⟨[], [], true, ⟨10, x, xb, xe⟩, []⟩ : QS) = gU ⟨10, x, xb, xe⟩ from rfl] at k
 refine Sp.via k (Ent.trans Ent.take (SwB.fold { v with on := a } ⟨?_, hx0⟩))
 exact { hh with nw := by omega, on := by dsimp only; omega }
theorem Dy (p n : Nat) (g sm bg P J now T a : Int) (x : ByteArray) (xb xe : Int) (h : now <= a /\ a <= 10000000) (hx : xe <= a) : FSpec Tryz.prog 137 #[Pt p 0, I a] (SwB p n g sm bg P J now T x xb xe) (fun _ : Nat × Nat × Nat => True) (fun y => .tuple #[Sk y.1 y.2.1 1 y.2.2, I 0]) (fun y => (aa ((SwI p n g sm bg P J a T)) (Ow 305 5 (Sk y.1 y.2.1 1 y.2.2) 1 [I 1, I 10, .string x, I xb, I xe]))) := by
 refine FSpec.ex fun v =>aO fun hB => ?_
 obtain ⟨hh, hx0⟩ := hB
 have hq := hh.qe; have ho := hh.on; have hn := hh.nw
 refine FSpec.via (Ew p v.ob v.oo v.oc v.lr v.cr v.o0 v.o1 v.o2 v.wv bg P sm J v.w0 v.f0 v.p0 v.last now v.on a 0 g ⟨#[]⟩ v.cF v.fl v.lb hh.g v.q0 v.q2 x xb xe hh.ten ⟨by omega, by omega, by omega, by omega, by omega, by decide, by decide, by decide, by omega, by omega, by omega, by omega⟩) fun y =>Ent.trans (dH (Q := (aa (am p [I g, Sk v.ob v.oo 3 v.oc, Mp v.lr, .slice v.wv.1 0 v.wv.2, I a, Mp v.cr] 201) (aa (Ow 202 1 (Sk v.ob v.oo 3 v.oc) 3 [Pt v.o0 0, Pt v.o1 0, Pt v.o2 0]) (aa (az v.lr .i64 v.fl) (aa (mapc v.cr .i64 v.cF) (aa (am v.lb [I 10, I 0, I bg, I sm, Ff, I 2, I 60000, Sk v.tb v.to 1 v.tc, Pt v.ac 0, I v.last] 213) (aa (Ow 3 1 (Sk v.tb v.to 1 v.tc) 1 [I 1]) (aa (am v.ac [I sm, I bg, I J, Ff, I v.w0, I v.f0, I v.p0, I 0] 255) (aa (OutP v.o0 (dS v.q0) 1024 1024 0 0 a) (aa (OutP v.o1 (dS ⟨10, x, xb, xe⟩) 1024 1024 0 0 a) (aa (OutP v.o2 (dS v.q2) 1024 1024 0 0 a) (aa (Ow 308 3 (.slice v.wv.1 0 v.wv.2) 0 []) (SwX n v.fl)))))))))))))) ?_
 refine Ent.trans (Ent.frame (SwI.fold (P := P) (T := T) { v with on := a, q1 := ⟨10, x, xb, xe⟩ } ?_) _) Ent.take
 exact { hh with nw := by omega, on := by dsimp only; omega, qe := ⟨hq.1, hx0, hq.2.2⟩ }
end Sp
end
end Go.Proofs.YtpkcniedaabpoaaGreat
