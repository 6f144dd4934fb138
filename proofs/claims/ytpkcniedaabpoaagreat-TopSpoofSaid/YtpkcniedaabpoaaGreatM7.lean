/- Rules of a separation logic over the model, and what functions of the translation do; used by the texts that import this one. -/
import Derived.Test.YtpkcniedaabpoaaGreatM6
set_option linter.unusedVariables false
set_option linter.unusedSimpArgs false
namespace Go.Proofs.YtpkcniedaabpoaaGreat
open Go.SLA Go.Proofs.Tryz
set_option maxRecDepth 100000
attribute [local irreducible] FSpec J K L OpV OpX QL Rd Rg bd
section
namespace Sp
open Mq
variable {now : Int} {l : List Value}
theorem xC {q : List Sn} (h : ∀ s, s ∈ q -> now < s.e) : m6 q now = 0 := by
 cases q with
 | nil => rfl
 | cons s q => exact sc (Nat.zero_le _) rfl (h s (List.mem_cons_self ..))
theorem ml {cur : Int} (h : 0 <= now /\ now <= 1125899906842624 /\ cur <= now) : Mq.tim cur now = 0 := Mq.tim_c (by omega) (by omega) (by omega)
theorem yJ (p : Nat) (q : List Sn) (cur free now : Int) (h : 0 <= now /\ now <= 1125899906842624 /\ cur <= now) (hl : q.length <= 1000) (hq : ∀ s, s ∈ q -> now < s.e) : FSpec prog 234 #[Pt p 0, I now] (LineP p q cur free) (fun _ : Option Addr × Nat => True) (fun y => .tuple #[.slice y.1 0 y.2, I 0]) (fun _ => LineP p q now free) := by
 have ht := ml h
 have hf := xC hq
 refine FSpec.ex fun y =>FSpec.eq _ (cd _ _) ?_
 refine FSpec.own (fun e0 e1 e2 => ?_) (fun b cap pre post e1 e2 e3 e4 e5 => ?_)
 ·have hq0 : q = [] := List.eq_nil_of_length_eq_zero e1
  subst hq0
  simp only [Value.slice.injEq] at e0
  obtain ⟨a1, _, a2⟩ := e0
  rw [a1, a2]
  refine (oL p cur free now ht).conseq (ah _) fun _ _ => ⟨(none, 0), trivial, rfl, ?_⟩
  refine Ent.trans (Ent.of (bN _).symm) (Ent.trans ((Ow.nil 250 4).frame _) (Ent.trans (Ent.of (cd _ _)) ?_))
  exact bh (f := fun x : Option Addr × Nat => (aa (am p [.slice x.1 ([] : List Sn).length x.2, I now, I free] 323) (Ow 250 4 (.slice x.1 ([] : List Sn).length x.2) ([] : List Sn).length (fQ [])))) (none, 0)
 ·simp only [Value.slice.injEq] at e1
  obtain ⟨a1, _, a2⟩ := e1
  rw [a1, a2]
  have fin : Ent (aa (am p [Sk b pre.length q.length cap, I now, I free] 323) (am b (pre ++ fQ q ++ post) 250)) (LineP p q now free) :=
   Ent.trans (aw (Ow.mk rfl e2 e3 e4 e5) _) (bh (f := fun x : Option Addr × Nat => (aa (am p [.slice x.1 q.length x.2, I now, I free] 323) (Ow 250 4 (.slice x.1 q.length x.2) q.length (fQ q)))) (some (ad b pre.length), cap))
  rcases Nat.lt_or_ge 0 q.length with h0 | h0
  ·refine (qP p b cap pre post q cur free now ht e2 (by omega) (by rw [hf]; exact h0)).conseq (Ent.of (cd _ _)) fun _ _ => ⟨(some (ad b pre.length), 0), trivial, by rw [hf], ?_⟩
   rw [hf]
   simp only [Nat.zero_mul, Nat.add_zero, ite_self, Nat.sub_zero]
   exact fin
  ·have hn : q.length = 0 := by omega
   refine (mW p b cap pre post q cur free now ht e2 (by omega) (by rw [hf, hn])).conseq (Ent.of (cd _ _)) fun _ _ => ⟨(some (ad b pre.length), 0), trivial, by rw [hn], ?_⟩
   rw [hn] at fin ⊢
   simp only [Nat.zero_mul, Nat.add_zero, ite_self, Nat.sub_zero]
   exact fin
theorem GW (p : Nat) (s : Sn) (cur free now : Int) (h : 0 <= now /\ now <= 1125899906842624 /\ cur <= now) (hs : s.e <= now) : FSpec prog 234 #[Pt p 0, I now] (LineP p [s] cur free) (fun _ : Nat × Nat × Nat => True) (fun y => .tuple #[Sk y.1 y.2.1 1 1, I 0])
  (fun y => (aa (am p [Sk y.1 (if y.2.2 = 1 then y.2.1 else y.2.1 + 1 * 4) 0 (y.2.2 - 1), I now, I free] 323) (Ow 250 4 (Sk y.1 y.2.1 1 y.2.2) 1 (enc s)))) := by
 have ht := ml h
 have hf : m6 [s] now = 1 := by
  have := rZ (q := [s]) (now := now) (k := 0) (x := s) (Nat.zero_le _) rfl (by omega)
  have := tq [s] now
  simp only [List.length_singleton] at this
  omega
 refine FSpec.ex fun y =>FSpec.eq _ (cd _ _) ?_
 refine FSpec.own (fun e0 e1 e2 => absurd e1 (by simp)) (fun b cap pre post e1 e2 e3 e4 e5 => ?_)
 simp only [Value.slice.injEq] at e1
 obtain ⟨a1, _, a2⟩ := e1
 rw [a1, a2]
 refine (mW p b cap pre post [s] cur free now ht e2 (by simp) hf).conseq (Ent.of (cd _ _)) fun _ _ => ⟨(b, pre.length, cap), trivial, rfl, ?_⟩
 refine aw (Ent.trans (Ent.of ?_) (Ow.mk (pre := pre) (post := post) rfl e2 e3 e4 e5)) _
 rfl
theorem DS {p b o c : Nat} {free : Int} {F : ab} (hl : l.length = 4) : Ent (aa (am p [Sk b (if c = 1 then o else o + 1 * 4) 0 (c - 1), I now, I free] 323) (aa (Ow 250 4 (Sk b o 1 c) 1 l) (F))) (aa (LineP p [] now free) (F)) := by
 haveI : DropL l 4 [] := ⟨by rw [List.drop_eq_nil_of_le (by omega)]⟩
 refine Ent.trans (aw (Ent.frame (Ow.tail (l2 := []) 1 0 rfl rfl (qm := 4) rfl) _) _) ?_
 exact LineP.fold (q := []) _ _
theorem qR (p : Nat) (cur free now id : Int) (text : ByteArray) (h : 0 <= now /\ now <= 1000000000000000000 /\ now <= 1125899906842624 /\ cur <= now /\ 0 <= free /\ free <= now /\ (text.size : Int) <= 1518) : FSpec prog 211 #[Pt p 0, I now, I id, .string text] (LineP p [] cur free) (fun _ : Unit => True) (fun _ => I 0) (fun _ => LineP p [⟨id, text, now, now + ((text.size : Int) + 20)⟩] now (now + ((text.size : Int) + 20))) := by
 have ht := ml (cur := cur) (now := now) (by omega)
 have e := ux (q := []) (free := free) (id := id) (text := text) (show ¬ Mq.tim cur now ≠ 0 by omega) (by omega) (by simp)
 have := tY p [] cur free now id text (by omega) (by omega)
 rw [e, if_neg (by omega)] at this
 exact this
def dS (g : Sn) : QS := ⟨[], [], false, g, []⟩
def gU (g : Sn) : QS := ⟨[], [], true, g, []⟩
theorem oV (g : Sn) (now : Int) : (dS g).run now = dS g := jX (by simp [dS])
theorem s6 {g : Sn} (h : g.e <= now) : (gU g).run now = ⟨[], [], false, g, [g]⟩ := by
 rw [sM ⟨rfl, h⟩]
 exact jX (by simp [gU, QS.step, QS.next])
theorem zH {f : FuncId} {args : Array Value} {P R : ab} {e m : Nat} {V : Option Addr × Nat -> Value} (h : FSpec prog f args P (fun _ : Option Addr × Nat => True) V (fun r => (aa (R) (Ow e m (.slice r.1 1 r.2) 1 l)))) :
  FSpec prog f args P (fun _ : Nat × Nat × Nat => True) (fun y => V (some (ad y.1 y.2.1), y.2.2)) (fun y => (aa (R) (Ow e m (Sk y.1 y.2.1 1 y.2.2) 1 l))) := by
 unfold FSpec at h ⊢
 intro σ w F hs
 exact (h σ w F hs).mono fun e w' ⟨r, _, he, hs'⟩ => by
  obtain ⟨r1, r2⟩ := r
  rw [ak, aR] at hs'
  rcases fg hs' with ⟨_, g2, _⟩ | ⟨b, cap, pre, post, g1, _⟩
  ·cases g2
  ·simp only [Value.slice.injEq] at g1
   obtain ⟨g1, _, g2⟩ := g1
   subst g1 g2
   exact ⟨(b, pre.length, r2), trivial, he, by rw [ak, aR]; exact hs'⟩
theorem tV (p : Nat) (g : Sn) (b : Bool) (cur now : Int) (h : 0 <= now /\ now <= 1125899906842624 /\ cur <= now /\ 0 <= g.e) (hb : b = true -> now < g.e) : FSpec prog 163 #[Pt p 0, I now] (OutP p ⟨[], [], b, g, []⟩ 1024 1024 0 0 cur) (fun _ : Option Addr × Nat => True) (fun y => .tuple #[.slice y.1 0 y.2, I 0]) (fun _ => OutP p ⟨[], [], b, g, []⟩ 1024 1024 0 0 now) := by
 have hr : (⟨[], [], b, g, []⟩ : QS).run now = ⟨[], [], b, g, []⟩ := jX (by rintro ⟨h1, h2⟩; have := hb h1; dsimp only at h2; omega)
 have := sN p ⟨[], [], b, g, []⟩ 1024 1024 0 0 cur now (ml (by omega)) ⟨fun w hw => (by rcases hw with hw | hw <;> cases hw), (by dsimp only; omega)⟩ (by cases b <;> simp [QS.wt])
 rw [hr] at this
 exact this.conseq (ah _) fun r _ => ⟨r, trivial, rfl, Ent.left⟩
theorem GQ (p : Nat) (g : Sn) (cur now : Int) (h : 0 <= now /\ now <= 1125899906842624 /\ cur <= now /\ 0 <= g.e) (hg : g.e <= now) : FSpec prog 163 #[Pt p 0, I now] (OutP p (gU g) 1024 1024 0 0 cur) (fun _ : Nat × Nat × Nat => True) (fun y => .tuple #[Sk y.1 y.2.1 1 y.2.2, I 0])
  (fun y => (aa (OutP p (dS g) 1024 1024 0 0 now) (Ow 250 4 (Sk y.1 y.2.1 1 y.2.2) 1 (enc g)))) := by
 have := sN p (gU g) 1024 1024 0 0 cur now (ml (by omega)) ⟨fun w hw => (by rcases hw with hw | hw <;> cases hw), (by dsimp only [gU]; omega)⟩ (by simp [QS.wt, gU])
 rw [s6 hg] at this
 exact zH this
theorem DJ (p : Nat) (k : Int) (xt : ByteArray) (xb xe cur now : Int) (h : 0 <= now /\ now <= 1125899906842624 /\ cur <= now /\ 0 <= xe) (hg : xe <= now) : FSpec prog 163 #[Pt p 0, I now] (OutP p (gU ⟨k, xt, xb, xe⟩) 1024 1024 0 0 cur) (fun _ : Nat × Nat × Nat => True) (fun y => .tuple #[Sk y.1 y.2.1 1 y.2.2, I 0])
 (fun y => (aa (OutP p (dS ⟨k, xt, xb, xe⟩) 1024 1024 0 0 now) (Ow 250 4 (Sk y.1 y.2.1 1 y.2.2) 1 [I k, .string xt, I xb, I xe]))) := GQ p ⟨k, xt, xb, xe⟩ cur now h hg
theorem AM (p : Nat) (g : Sn) (cur now id : Int) (text : ByteArray) (h : 0 <= now /\ now <= 1125899906842624 /\ cur <= now /\ 0 <= g.e /\ (text.size : Int) <= 1518) : FSpec prog 169 #[Pt p 0, I now, Ff, I id, .string text] (OutP p (dS g) 1024 1024 0 0 cur) (fun _ : Unit => True) (fun _ => I 0) (fun _ => OutP p (gU ⟨id, text, now, now + ((text.size : Int) + 20)⟩) 1024 1024 0 0 now) := by
 have := na p (dS g) 1024 1024 0 0 cur now id text (by omega) (ml (by omega)) ⟨fun w hw => (by rcases hw with hw | hw <;> cases hw), (by dsimp only [dS]; omega)⟩ (by simp [QS.wt, dS]) (by rw [oV]; rfl)
 rw [oV] at this
 exact this
end Sp
end
section
namespace Sp
open Mq
abbrev iz (l : List ByteArray) : List Value := l.map Value.string
def SubP (q : Nat) (R : List ByteArray) (t : Int) : ab := ex fun a : Option Addr × Nat => (aa (am q [.slice a.1 R.length a.2, Ns, Ns, Ns, I 2, I 1024, I t, I R.length] 326) (Ow 9 1 (.slice a.1 R.length a.2) R.length (iz R)))
theorem SubP.fold {q : Nat} {R : List ByteArray} {t : Int} {F : ab} (a : Option Addr × Nat) : Ent (aa (am q [.slice a.1 R.length a.2, Ns, Ns, Ns, I 2, I 1024, I t, I R.length] 326) (aa (Ow 9 1 (.slice a.1 R.length a.2) R.length (iz R)) (F))) (aa (SubP q R t) (F)) := by
 rw [<- ak]
 exact Ent.ex (f := fun a : Option Addr × Nat => (aa (am q [.slice a.1 R.length a.2, Ns, Ns, Ns, I 2, I 1024, I t, I R.length] 326) (Ow 9 1 (.slice a.1 R.length a.2) R.length (iz R)))) a
theorem mg (q : Nat) (c0 c1 c2 c3 c4 c5 c6 : Value) (k : Int) : FSpec prog 200 #[Pt q 0] (am q [c0, c1, c2, c3, c4, c5, c6, I k] 326) (fun _ : Unit => True) (fun _ => I k) (fun _ => am q [c0, c1, c2, c3, c4, c5, c6, I k] 326) := by
 refine en func200 r fun _ F=>aE r<|js<|sa r<|lv (bj r r) r<|nf r<|sk<|sb r<|fz r<|ld r r<|an r<|jr ?_
 exact aD rfl rfl () trivial (rfl) (ah _)
theorem jC (q : Nat) (R : List ByteArray) (t : Int) : FSpec prog 200 #[Pt q 0] (SubP q R t) (fun _ : Unit => True) (fun _ => I R.length) (fun _ => SubP q R t) := by
 refine en func200 r fun _ F=>gh fun a =>dY _ (ak _ _ _)<|aE r<|js<|sa r<|lv (bj r r) r<|nf r<|sk<|sb r<|fz r<|ld r r<|an r<|jr ?_
 exact aD rfl rfl () trivial (rfl) (SubP.fold a)
theorem qN (q b o c : Nat) (R L : List ByteArray) (t : Int) (h : R.length + L.length <= 1000) : FSpec prog 201 #[Pt q 0, I 0, Sk b o L.length c] ((aa (SubP q R t) (Ow 9 1 (Sk b o L.length c) L.length (iz L)))) (fun _ : Unit => True) (fun _ => I 0) (fun _ => SubP q (R ++ L) t) := by
 refine en func201 r fun _ F=>dY _ (ak _ _ _)<|gh fun a =>dY _ (ak _ _ _)<|aE r<|js<|jb<|sa r<|lv (bj r r) r<|an r<|cf r<|sa r<|bJ r<|ea r<|go r<|ea r<|go r<|ea r<|go r<|ea r<|go r<|fz r<|go r<|ld r r<|go r<|bJ r<|bf r<|js<|dM ae<|qa r<|qv (bC r) r<|qb r<|qz r<|ql r r<|qb r<|qa r<|qz r<|qv ((aK r r (by omega)).as (v' := Pt q 0) r) r<|ql r r<|qv (bC r) r<|qv (bm r r (by omega)) r<|qv (bt r r) r<|qa r<|qn<|kt<|aG rfl (fun h1 => by exfalso; omega) fun h1=>cY<|js<|av (emp) (am q [.slice a.1 R.length a.2, Ns, Ns, Ns, I 2, I 1024, I t, I R.length] 326) [13] ae<|pe 0 r r<|pe 1 r r<|pe 2 r r<|pe 3 r r<|pe 4 r r<|ps 5 r (aj r)<|ps 6 r ((aK r r (by omega)).as (v' := Pt q 0) r)<|dv 7 r (by kernel_rfl) (ar r (aC r)) r<|pe 8 r r<|pe 10 r r<|ps 11 r (aj r)<|pn 9 r (cO (m := 1) (B := 16) r r (Src.O) r (by omega) (by simp) (by intro u hu; obtain ⟨x, _, rfl⟩ := List.mem_map.1 hu; rfl) (by unfold maxLen; omega) (by omega) r) fun y46 _=>ps 12 r ((aK r r (by omega)).as (v' := Pt q 0) r) ?_
 refine jv 13 r r (by kernel_rfl) (dU r r r) fun _ _=>dn<|kt<|sb r<|fz r<|ld r r<|ea r<|ll r<|gE r<|ea r<|fz r<|so r r<|nr<|an r<|jr ?_
 have e1 : iz R ++ iz L = iz (R ++ L) := by simp
 have e2 : (R.length : Int) + (L.length : Int) = ((R ++ L).length : Int) := by simp
 have e3 : R.length + L.length = (R ++ L).length := by simp
 rw [e1, e2, e3]
 exact aD rfl rfl () trivial (rfl) (Ent.trans Ent.take (SubP.fold y46))
end Sp
end
section
namespace Sp
open Mq
theorem Ea (p : Nat) (g : Sn) (cur now : Int) (h : 0 <= now /\ now <= 1125899906842624 /\ cur <= now /\ 0 <= g.e) : FSpec prog 163 #[Pt p 0, I now] (OutP p (dS g) 1024 1024 0 0 cur) (fun _ : Option Addr × Nat => True) (fun y => .tuple #[.slice y.1 0 y.2, I 0]) (fun _ => OutP p (dS g) 1024 1024 0 0 now) := tV p g false cur now h (fun h => absurd h (by decide))
theorem IV (p : Nat) (g : Sn) (cur now : Int) (h : 0 <= now /\ now <= 1125899906842624 /\ cur <= now /\ 0 <= g.e) (hb : now < g.e) : FSpec prog 163 #[Pt p 0, I now] (OutP p (gU g) 1024 1024 0 0 cur) (fun _ : Option Addr × Nat => True) (fun y => .tuple #[.slice y.1 0 y.2, I 0]) (fun _ => OutP p (gU g) 1024 1024 0 0 now) := tV p g true cur now h (fun _ => hb)
end Sp
end
end Go.Proofs.YtpkcniedaabpoaaGreat

namespace Go.Proofs.YtpkcniedaabpoaaGreat
open Go.SLA Go.Proofs.Tryz
set_option maxRecDepth 100000
set_option synthInstance.maxSize 200000
set_option synthInstance.maxHeartbeats 4000000
set_option maxHeartbeats 8000000
attribute [local irreducible] FSpec J K L OpV OpX QL Rd Rg bd
namespace Sp
attribute [local irreducible] JU
abbrev Tol0 : List Value := [I 10, I 0, I 0, I 2, Tt, I 10, I 0, I 5, I 100, I 1, I 0]
abbrev Tol1 : List Value := [I 20, I 1, I 1, I 2, Ff, I 10, I 0, I 5, I 100, I 64, I 0]
abbrev GG (a b c : Nat) : ab := Ow 153 11 (Sk a b 4 c) 4 (I 10 :: I 0 :: I 0 :: I 2 :: Tt :: I 10 :: I 0 :: I 5 :: I 100 :: I 1 :: I 0 :: I 20 :: I 1 :: I 1 :: I 2 :: Ff :: I 10 :: I 0 :: I 5 :: I 100 :: I 64 :: I 0 :: I 30 :: I 0 :: I 0 :: I 1 :: Tt :: I 10 :: I 1 :: I 6 :: I 20 :: I 0 :: I 0 :: I 31 :: I 1 :: I 1 :: I 1 :: Ff :: I 10 :: I 0 :: I 6 :: I 20 :: I 0 :: I 1000000 :: [])
abbrev GF (a b c : Nat) : ab := Ow 153 11 (Sk a b 6 c) 6 (I 10 :: I 0 :: I 0 :: I 2 :: Tt :: I 10 :: I 0 :: I 5 :: I 100 :: I 1 :: I 0 :: I 11 :: I 0 :: I 0 :: I 2 :: Tt :: I 11 :: I 0 :: I 5 :: I 100 :: I 1 :: I 0 :: I 20 :: I 1 :: I 1 :: I 2 :: Ff :: I 10 :: I 0 :: I 5 :: I 100 :: I 64 :: I 0 :: I 21 :: I 1 :: I 1 :: I 2 :: Ff :: I 11 :: I 0 :: I 5 :: I 100 :: I 64 :: I 0 :: I 30 :: I 0 :: I 0 :: I 1 :: Tt :: I 10 :: I 1 :: I 6 :: I 20 :: I 0 :: I 0 :: I 31 :: I 1 :: I 1 :: I 1 :: Ff :: I 10 :: I 0 :: I 6 :: I 20 :: I 0 :: I 1000000 :: [])
abbrev GE (a b c : Nat) : ab := Ow 153 11 (Sk a b 8 c) 8 (I 10 :: I 0 :: I 0 :: I 2 :: Tt :: I 10 :: I 0 :: I 5 :: I 100 :: I 1 :: I 0 :: I 11 :: I 0 :: I 0 :: I 2 :: Tt :: I 11 :: I 0 :: I 5 :: I 100 :: I 1 :: I 0 :: I 12 :: I 0 :: I 0 :: I 2 :: Tt :: I 12 :: I 0 :: I 5 :: I 100 :: I 1 :: I 0 :: I 20 :: I 1 :: I 1 :: I 2 :: Ff :: I 10 :: I 0 :: I 5 :: I 100 :: I 64 :: I 0 :: I 21 :: I 1 :: I 1 :: I 2 :: Ff :: I 11 :: I 0 :: I 5 :: I 100 :: I 64 :: I 0 :: I 22 :: I 1 :: I 1 :: I 2 :: Ff :: I 12 :: I 0 :: I 5 :: I 100 :: I 64 :: I 0 :: I 30 :: I 0 :: I 0 :: I 1 :: Tt :: I 10 :: I 1 :: I 6 :: I 20 :: I 0 :: I 0 :: I 31 :: I 1 :: I 1 :: I 1 :: Ff :: I 10 :: I 0 :: I 6 :: I 20 :: I 0 :: I 1000000 :: [])
abbrev _root_.Go.qq62 : Value := .tuple #[.agg Tol0.toArray, Tt]
theorem zz (a c d : Nat) (c0 c1 c2 c3 c4 : Value) : Kp prog 198 #[.agg [c0, c1, c2, c3, c4, Sk a c 4 d].toArray, I 10] (GG a c d) qq62 := by
 refine en func198 r fun _ F=>sr<|bx r fun b1=>al r fun b2=>an r<|js<|sr<|lf 5 r r<|ll r<|an r<|jl<|ut r<|js<|jb<|sr<|ix c r r<|lv (bP 0 r r) r<|al r fun b3=>so r r<|nr<|lf 0 r r<|eb r<|nt r<|sr<|ls r<|so r r<|an r<|jr<|kq<|kd<|kd<|kq<|kd ?_
 exact bM r (.agg r r (.tmp r (.nil))) () trivial r Ent.take
abbrev _root_.Go.qq63 : Value := .tuple #[.agg Tol1.toArray, Tt]
theorem zy (a c d : Nat) (c0 c1 c2 c3 c4 : Value) : Kp prog 198 #[.agg [c0, c1, c2, c3, c4, Sk a c 4 d].toArray, I 20] (GG a c d) qq63 := by
 refine en func198 r fun _ F=>sr<|bx r fun b1=>al r fun b2=>an r<|js<|sr<|lf 5 r r<|ll r<|an r<|jl<|ut r<|js<|jb<|sr<|ix c r r<|lv (bP 0 r r) r<|al r fun b3=>so r r<|nr<|lf 0 r r<|bf r<|jk<|ni (I 1) r<|ut r<|js<|jb<|sr<|ix (c + 11) r r<|lv (bP 11 r r) r<|al r fun b4=>so r r<|nr<|lf 0 r r<|eb r<|nt r<|sr<|ls r<|so r r<|an r<|jr<|kq<|kd<|kd<|kq<|kd ?_
 exact bM r (.agg r r (.tmp r (.nil))) () trivial r Ent.take
theorem zx (a c d : Nat) (c0 c1 c2 c3 c4 : Value) : Kp prog 198 #[.agg [c0, c1, c2, c3, c4, Sk a c 6 d].toArray, I 10] (GF a c d) qq62 := by
 refine en func198 r fun _ F=>sr<|bx r fun b1=>al r fun b2=>an r<|js<|sr<|lf 5 r r<|ll r<|an r<|jl<|ut r<|js<|jb<|sr<|ix c r r<|lv (bP 0 r r) r<|al r fun b3=>so r r<|nr<|lf 0 r r<|eb r<|nt r<|sr<|ls r<|so r r<|an r<|jr<|kq<|kd<|kd<|kq<|kd ?_
 exact bM r (.agg r r (.tmp r (.nil))) () trivial r Ent.take
theorem zw (a c d : Nat) (c0 c1 c2 c3 c4 : Value) : Kp prog 198 #[.agg [c0, c1, c2, c3, c4, Sk a c 6 d].toArray, I 20] (GF a c d) qq63 := by
 refine en func198 r fun _ F=>sr<|bx r fun b1=>al r fun b2=>an r<|js<|sr<|lf 5 r r<|ll r<|an r<|jl<|ut r<|js<|jb<|sr<|ix c r r<|lv (bP 0 r r) r<|al r fun b3=>so r r<|nr<|lf 0 r r<|bf r<|jk<|ni (I 1) r<|ut r<|js<|jb<|sr<|ix (c + 11) r r<|lv (bP 11 r r) r<|al r fun b4=>so r r<|nr<|lf 0 r r<|bf r<|jk<|ni (I 2) r<|ut r<|js<|jb<|sr<|ix (c + 22) r r<|lv (bP 22 r r) r<|al r fun b5=>so r r<|nr<|lf 0 r r<|eb r<|nt r<|sr<|ls r<|so r r<|an r<|jr<|kq<|kd<|kd<|kq<|kd ?_
 exact bM r (.agg r r (.tmp r (.nil))) () trivial r Ent.take
theorem zu (a c d : Nat) (c0 c1 c2 c3 c4 : Value) : Kp prog 198 #[.agg [c0, c1, c2, c3, c4, Sk a c 8 d].toArray, I 10] (GE a c d) qq62 := by
 refine en func198 r fun _ F=>sr<|bx r fun b1=>al r fun b2=>an r<|js<|sr<|lf 5 r r<|ll r<|an r<|jl<|ut r<|js<|jb<|sr<|ix c r r<|lv (bP 0 r r) r<|al r fun b3=>so r r<|nr<|lf 0 r r<|eb r<|nt r<|sr<|ls r<|so r r<|an r<|jr<|kq<|kd<|kd<|kq<|kd ?_
 exact bM r (.agg r r (.tmp r (.nil))) () trivial r Ent.take
theorem zr (a c d : Nat) (c0 c1 c2 c3 c4 : Value) : Kp prog 198 #[.agg [c0, c1, c2, c3, c4, Sk a c 8 d].toArray, I 20] (GE a c d) qq63 := by
 refine en func198 r fun _ F=>sr<|bx r fun b1=>al r fun b2=>an r<|js<|sr<|lf 5 r r<|ll r<|an r<|jl<|ut r<|js<|jb<|sr<|ix c r r<|lv (bP 0 r r) r<|al r fun b3=>so r r<|nr<|lf 0 r r<|bf r<|jk<|ni (I 1) r<|ut r<|js<|jb<|sr<|ix (c + 11) r r<|lv (bP 11 r r) r<|al r fun b4=>so r r<|nr<|lf 0 r r<|bf r<|jk<|ni (I 2) r<|ut r<|js<|jb<|sr<|ix (c + 22) r r<|lv (bP 22 r r) r<|al r fun b5=>so r r<|nr<|lf 0 r r<|bf r<|jk<|ni (I 3) r<|ut r<|js<|jb<|sr<|ix (c + 33) r r<|lv (bP 33 r r) r<|al r fun b6=>so r r<|nr<|lf 0 r r<|eb r<|nt r<|sr<|ls r<|so r r<|an r<|jr ?_
 refine kq<|kd<|kd<|kq<|kd ?_
 exact bM r (.agg r r (.tmp r (.nil))) () trivial r Ent.take
end Sp
namespace Sp
attribute [local irreducible] JU
theorem Gf (a : Nat) (c0 c1 c2 c3 c4 c5 c6 c7 cq cs : Value) (bg since seen cnt : Int) : Kp prog 233 #[Pt a 0, I since] (am a [.int .u64 bg, Ff, I 0, I seen, I cnt] 330) (I since) := by
 refine en func233 r fun _ F=>aE r<|js<|jb<|sa r<|ep false r<|an r<|cf r<|sb r<|fa 1 r<|ls r<|lv (af r) r<|lv ((gI r r (by simp [Shape, CK.sh]) (by simp [Shape, CK.sh])).as (v' := Tt) (congrArg Value.bool (by simp))) r<|an r<|ct r<|sb r ?_
 refine nk<|jr<|kq<|kd<|r1 r Ent.take
theorem Ge (a c : Nat) (c0 c1 c2 c3 c4 c5 c6 c7 cq cs : Value) (bg since seen cnt : Int) : Kp prog 206 #[Pt a 0] ((aa (am a [c0, c1, c2, c3, c4, c5, c6, c7, cq, Pt c 0, cs, I since] 269) (am c [.int .u64 bg, Ff, I 0, I seen, I cnt] 330))) (I since) := by
 refine en func206 r fun _ F=>aE r<|js<|dM ae<|qb r<|qf 9 r<|ql r r<|qb r<|qf 11 r<|ql r r<|dy (Gf c c0 c1 c2 c3 c4 c5 c6 c7 cq cs bg since seen cnt) r r (fun _ _ => r) (fun _ _ => ah _) r<|qa r<|qn<|kt<|jr<|r1 r Ent.take
theorem Gd (a : Nat) (c0 c1 c2 c3 c4 c5 c6 c7 cq cs : Value) (bg since seen cnt P lat : Int) (h : ((bg = 0 /\ P = 12500) \/ (bg = 1 /\ P = 25000)) /\ 0 <= lat /\ lat <= 10000000 /\ 0 <= since /\ since < lat + P) : Kp prog 233 #[Pt a 0, I since] (am a [.int .u64 bg, Tt, I lat, I seen, I cnt] 330) (I (lat + P)) := by
 refine en func233 r fun _ F=>aE r<|js<|jb<|sa r<|ep false r<|an r<|cf r<|sb r<|fa 1 r<|ls r<|lv (af r) r<|lv ((gI r r (by simp [Shape, CK.sh]) (by simp [Shape, CK.sh])).as (v' := Ff) (congrArg Value.bool (by simp))) r<|an r<|cf r<|cY ?_
 refine js<|dM ae<|qb r<|qa r<|qf 1 r<|qf 2 r<|ql r r<|qa r<|dy (Hj a (Tt) (I lat) (I seen) (I cnt) bg P (by omega)) r r (fun _ _ => r) (fun _ _ => ah _) r<|ww r<|qv ((iw r r).as (v' := I (lat + P)) (congrArg (Value.int .i64) (if_pos (by omega)))) r<|qa r<|qn<|kt<|jr<|r1 r Ent.take
theorem Gc (a c : Nat) (c0 c1 c2 c3 c4 c5 c6 c7 cq cs : Value) (bg since seen cnt P lat : Int) (h : ((bg = 0 /\ P = 12500) \/ (bg = 1 /\ P = 25000)) /\ 0 <= lat /\ lat <= 10000000 /\ 0 <= since /\ since < lat + P) : Kp prog 206 #[Pt a 0] ((aa (am a [c0, c1, c2, c3, c4, c5, c6, c7, cq, Pt c 0, cs, I since] 269) (am c [.int .u64 bg, Tt, I lat, I seen, I cnt] 330))) (I (lat + P)) := by
 refine en func206 r fun _ F=>aE r<|js<|dM ae<|qb r<|qf 9 r<|ql r r<|qb r<|qf 11 r<|ql r r<|dy (Gd c c0 c1 c2 c3 c4 c5 c6 c7 cq cs bg since seen cnt P lat h) r r (fun _ _ => r) (fun _ _ => ah _) r<|qa r<|qn<|kt<|jr<|r1 r Ent.take
end Sp
namespace Sp
attribute [local irreducible] JU
abbrev AH (a b : Nat) (c : List ByteArray) (d : Nat) (e : ByteArray) : ab := Ow 9 1 (Sk a b (c.length + 1) d) (c.length + 1) ((.string e) :: c.map Value.string)
abbrev GL (a b c : Nat) (d : List ByteArray) (e : Nat) : ab := am a [Sk b c (d.length + 1) e, Ns, Ns, Ns, I 2, I 1024, I 0, I ((d.length + 1 : Nat) : Int)] 326
abbrev GK (a b c d : Nat) (e : List ByteArray) : ab := am a [Sk b (if c = 1 then d else d + 1 * 1) e.length (c - 1), Ns, Ns, Ns, I 2, I 1024, I 1, I (e.length : Int)] 326
abbrev GJ (a b c : Nat) (d : List ByteArray) (e : Nat) : ab := am a [Sk b c (d.length + 1) e, Ns, Ns, Ns, I 2, I 1024, I 1, I ((d.length + 1 : Nat) : Int)] 326
theorem Cg (a c e g : Nat) (R : List ByteArray) (d : ByteArray) (h : R.length <= 1000) : Sp prog 208 #[Pt a 0] ((aa (GL a c e R g) (AH c e R g d))) (.tuple #[I 0, .string d, I 0]) ((aa (GK a c g e R) (AH c e R g d))) := by
 refine en func208 r fun _ F=>sr<|ec r<|nj<|jb<|sa r<|ep false r<|an r<|cf r<|sb r<|lf 7 r r<|bJ r<|an r<|cf r<|cY<|sa r<|aW func235 r<|aE r<|sb r<|lf 6 r r<|an r<|js<|jl<|ju<|js<|sr<|ec r<|fa 0 r<|lv (bZ 0 r r r r) r<|ld r r<|ll r<|bJ r<|nf r<|jx<|ke<|ke<|kh<|kt<|sb r<|nk<|jr<|cX r<|an r<|sr<|ec r<|fa 0 r<|lv (bZ 0 r r r r) r<|ld r r<|lv (dx e r r (decide_eq_true (by omega)) r) r<|lv (aF 0 r r r) r<|an r<|js<|av (emp) (GL a c e R g) [12] ae<|pe 0 r r<|pe 1 r r<|pe 2 r r<|pe 3 r r<|pe 4 r r<|pf 5 0 r r<|ps 6 r (bZ 0 r r r r)<|pe 9 r r<|pf 10 0 r r<|dv 7 r (by kernel_rfl) (ar r (aC r)) r<|ps 8 r (mv r r (decide_eq_true (by omega)) 1 R.length r r)<|ps 11 r (bZ 0 r r r r) ?_
 refine jv 12 r r (by kernel_rfl) (aI r r r (List.all_eq_true.1 r)) fun _ _=>dn<|kt<|sb r<|ib (I 1) r<|eb r<|lf 4 r r<|ib (I 1) r<|ea r<|fa 6 r<|so r r<|nr<|eb r<|lf 7 r r<|lv ((bm r r (by omega)).as (v' := I (R.length : Int)) (congrArg (Value.int .i64) (by omega))) r<|ea r<|fa 7 r<|so r r<|nr<|ed r<|an r<|jr ?_
 exact bM r (.tmp r (.tmp r (.tmp r (.nil)))) () trivial r Ent.take
theorem Ce (a c e g : Nat) (R : List ByteArray) (d : ByteArray) (h : R.length <= 1000) : Sp prog 208 #[Pt a 0] ((aa (GJ a c e R g) (AH c e R g d))) (.tuple #[I 0, .string d, I 0]) ((aa (GK a c g e R) (AH c e R g d))) := by
 refine en func208 r fun _ F=>sr<|ec r<|nj<|jb<|sa r<|ep false r<|an r<|cf r<|sb r<|lf 7 r r<|bJ r<|an r<|cf r<|cY<|sa r<|aW func235 r<|aE r<|sb r<|lf 6 r r<|an r<|js<|jl<|ju<|js<|sr<|ec r<|fa 0 r<|lv (bZ 1 r r r r) r<|ld r r<|ll r<|an r<|ct r<|sk<|jb<|jg<|ea r<|ib (I 2) r<|eb r<|lf 4 r r<|ib (I 0) r<|ea r<|ln<|kb<|ku<|ju<|js<|sr ?_
 refine ec r<|fa 0 r<|lv (bZ 0 r r r r) r<|ld r r<|ll r<|bJ r<|nf r<|jx<|ke<|ke<|kh<|kt<|sb r<|nk<|jr<|cX r<|an r<|sr<|ec r<|fa 0 r<|lv (bZ 0 r r r r) r<|ld r r<|lv (dx e r r (decide_eq_true (by omega)) r) r<|lv (aF 0 r r r) r<|an r<|js<|av (emp) (GJ a c e R g) [12] ae<|pe 0 r r<|pe 1 r r<|pe 2 r r<|pe 3 r r<|pe 4 r r<|pf 5 0 r r<|ps 6 r (bZ 0 r r r r)<|pe 9 r r<|pf 10 0 r r<|dv 7 r (by kernel_rfl) (ar r (aC r)) r<|ps 8 r (mv r r (decide_eq_true (by omega)) 1 R.length r r)<|ps 11 r (bZ 0 r r r r)<|jv 12 r r (by kernel_rfl) (aI r r r (List.all_eq_true.1 r)) fun _ _=>dn<|kt<|sb r<|ib (I 1) r<|eb r<|lf 4 r r<|ib (I 1) r<|ea r<|fa 6 r<|so r r<|nr<|eb r<|lf 7 r r<|lv ((bm r r (by omega)).as (v' := I (R.length : Int)) (congrArg (Value.int .i64) (by omega))) r<|ea r<|fa 7 r<|so r r<|nr<|ed r<|an r<|jr ?_
 exact bM r (.tmp r (.tmp r (.tmp r (.nil)))) () trivial r Ent.take
end Sp
section
namespace Sp
open Mq
theorem yz (q : Nat) (d : ByteArray) (R : List ByteArray) (t : Int) (ht : t = 0 \/ t = 1) (h : R.length <= 1000) : Go.SLA.Sp prog 208 #[Pt q 0] (SubP q (d :: R) t) (.tuple #[I 0, .string d, I 0]) (SubP q R 1) := by
 refine FSpec.ex fun a => ?_
 obtain ⟨a1, a2⟩ := a
 refine FSpec.eq _ (cd _ _) ?_
 refine FSpec.own (fun e0 e1 e2 => absurd e1 (by simp)) (fun b cap pre post e1 e2 e3 e4 e5 => ?_)
 simp only [Value.slice.injEq] at e1
 obtain ⟨e1, _, e6⟩ := e1
 subst e1 e6
 have key : ∀ t0 : Int, t0 = t -> Go.SLA.Sp prog 208 #[Pt q 0] (aa (am q [Sk b pre.length (R.length + 1) a2, Ns, Ns, Ns, I 2, I 1024, I t0, I ((R.length + 1 : Nat) : Int)] 326) (Ow 9 1 (Sk b pre.length (R.length + 1) a2) (R.length + 1) (.string d :: R.map Value.string))) (.tuple #[I 0, .string d, I 0]) (aa (am q [Sk b (if a2 = 1 then pre.length else pre.length + 1 * 1) R.length (a2 - 1), Ns, Ns, Ns, I 2, I 1024, I 1, I (R.length : Int)] 326) (Ow 9 1 (Sk b pre.length (R.length + 1) a2) (R.length + 1) (.string d :: R.map Value.string))) := by
  intro t0 e
  subst e
  rcases ht with rfl | rfl
  ·exact Cg q b pre.length a2 R d h
  ·exact Ce q b pre.length a2 R d h
 refine (key t rfl).conseq ?_ fun _ _ => ⟨(), trivial, rfl, ?_⟩
 ·refine Ent.trans (Ent.of (cd _ _)) (aw (Ow.mk rfl e2 e3 (by simp) e5) _)
 ·haveI : DropL (Value.string d :: R.map Value.string) 1 (R.map Value.string) := ⟨rfl⟩
  refine Ent.trans (aw (Ow.tail (l2 := R.map Value.string) 1 R.length rfl (by simp) (qm := 1) rfl) _) ?_
  exact bh (f := fun a : Option Addr × Nat => (aa (am q [.slice a.1 R.length a.2, Ns, Ns, Ns, I 2, I 1024, I 1, I R.length] 326) (Ow 9 1 (.slice a.1 R.length a.2) R.length (iz R)))) (_, _)
end Sp
end
section
namespace Sp
open Mq
theorem DR (p : Nat) (k : Int) (xt : ByteArray) (xb xe cur free now : Int) (h : 0 <= now /\ now <= 1125899906842624 /\ cur <= now) (hs : xe <= now) : FSpec prog 234 #[Pt p 0, I now] (LineP p [⟨k, xt, xb, xe⟩] cur free) (fun _ : Nat × Nat × Nat => True) (fun y => .tuple #[Sk y.1 y.2.1 1 1, I 0])
 (fun y => (aa (am p [Sk y.1 (if y.2.2 = 1 then y.2.1 else y.2.1 + 1 * 4) 0 (y.2.2 - 1), I now, I free] 323) (Ow 250 4 (Sk y.1 y.2.1 1 y.2.2) 1 [I k, .string xt, I xb, I xe]))) := GW p ⟨k, xt, xb, xe⟩ cur free now h hs
def k7 (P : Int) (w : Bool) (lat since T : Int) : Prop := (w = false /\ lat = 0 /\ T = since) \/ (w = true /\ T = lat + P /\ 0 <= lat /\ lat <= 10000000 /\ 0 <= since /\ since < lat + P)
theorem qu (p g : Nat) (c0 c1 c2 c3 c4 c5 c6 c7 cq cs : Value) (bg P since lat seen cnt T : Int) (w : Bool) (hb : (bg = 0 /\ P = 12500) \/ (bg = 1 /\ P = 25000)) (h : k7 P w lat since T) : Kp prog 206 #[Pt p 0] (aa (am p [c0, c1, c2, c3, c4, c5, c6, c7, cq, Pt g 0, cs, I since] 269) (am g [.int .u64 bg, .bool w, I lat, I seen, I cnt] 330)) (I T) := by
 rcases h with ⟨rfl, rfl, rfl⟩ | ⟨rfl, rfl, h⟩
 ·exact Ge p g c0 c1 c2 c3 c4 c5 c6 c7 cq cs bg T seen cnt
 ·exact Gc p g c0 c1 c2 c3 c4 c5 c6 c7 cq cs bg since seen cnt P lat ⟨hb, h⟩
end Sp
end
namespace Sp
attribute [local irreducible] JU
abbrev qG (a : Nat) (b c d e f g h j : Value) (k l : Nat) (m : Value) (n : Int) : ab := am a [b, c, d, e, f, g, h, j, Pt k 0, Pt l 0, m, I n] 269
abbrev qF (a : Nat) (b c d e f g h j : Value) (k : Nat) (l m n : Value) : ab := am a [b, c, d, e, f, g, h, j, Pt k 0, l, m, n] 269
abbrev qE (a : Nat) (b c d e f g h : Value) : ab := am a [b, c, d, e, f, g, h, I 0] 326
abbrev vR (a : Nat) (b : Int) (c : Bool) (d e f : Int) : ab := am a [.int .u64 b, .bool c, I d, I e, I f] 330
abbrev Dq (a b c : Nat) : ab := Ow 3 1 (Sk a b 2 c) 2 [I 10, I 11]
abbrev Dp (a b c : Nat) : ab := Ow 3 1 (Sk a b 3 c) 3 [I 10, I 11, I 12]
theorem CG (c d e g h j k l : Nat) (c0 c1 c2 c3 c4 c5 ch cl cn ci cg cm cz l0 l1 l2 l3 l4 l5 l6 l7 ls : Value) (R : List ByteArray) (t bg P since lat seen cnt T a : Int) (w : Bool) (hb : (bg = 0 /\ P = 12500) \/ (bg = 1 /\ P = 25000)) (hd : k7 P w lat since T) (fl : Int -> Option Value) (h10 : fl 10 = some (Pt j 0)) (hf : R.length = 0) : Kp prog 205 #[Pt c 0, I a] ((aa (am c [c0, c1, c2, c3, c4, c5, ch, Mp d, Sk e g 1 h, cl, cn, ci, cg, cm, cz] 263) (aa (Ow 3 1 (Sk e g 1 h) 1 [I 10]) (aa (az d .i64 fl) (aa (qG j l0 l1 l2 l3 l4 l5 l6 l7 k l ls since) (SubP k R t)))))) (Np) := by
 exact en func205 r fun _ F=>aE r<|aE r<|js<|sb r<|lf 8 r r<|ll r<|an r<|jl<|ut r<|js<|jb<|sr<|ix g r r<|lv (aF 0 r r r) r<|an r<|sb r<|lf 7 r r<|ea r<|lv (aN (v := Pt j 0) r r (some (Pt j 0)) h10 r) r<|an r<|sb r<|lf 8 r r<|cy (jC k R t) r fun _=>bJ r<|ea r<|gs r<|gs r<|gs r<|gs r<|eb r<|gs r<|gs r<|gs r<|cA r r r<|cA r r r<|cA r r r<|cA r r r<|cA r r r<|gs r<|an r<|cf r<|jk<|ni (I 1) r<|uf r<|kt<|sb r<|nk<|jr<|r1 r Ent.take
theorem CF (c d e g h j k l : Nat) (c0 c1 c2 c3 c4 c5 ch cl cn ci cg cm cz l0 l1 l2 l3 l4 l5 l6 l7 ls : Value) (R : List ByteArray) (t bg P since lat seen cnt T a : Int) (w : Bool) (hb : (bg = 0 /\ P = 12500) \/ (bg = 1 /\ P = 25000)) (hd : k7 P w lat since T) (fl : Int -> Option Value) (h10 : fl 10 = some (Pt j 0)) (hf : 0 < R.length /\ a < T) : Kp prog 205 #[Pt c 0, I a] ((aa (am c [c0, c1, c2, c3, c4, c5, ch, Mp d, Sk e g 1 h, cl, cn, ci, cg, cm, cz] 263) (aa (Ow 3 1 (Sk e g 1 h) 1 [I 10]) (aa (az d .i64 fl) (aa (qG j l0 l1 l2 l3 l4 l5 l6 l7 k l ls since) (aa (SubP k R t) (vR l bg w lat seen cnt))))))) (Np) := by
 refine en func205 r fun _ F=>aE r<|aE r<|js<|sb r<|lf 8 r r<|ll r<|an r<|jl<|ut r<|js<|jb<|sr<|ix g r r<|lv (aF 0 r r r) r<|an r<|sb r<|lf 7 r r<|ea r<|lv (aN (v := Pt j 0) r r (some (Pt j 0)) h10 r) r<|an r<|sb r<|lf 8 r r<|cy (jC k R t) r fun _=>eR r<|ea r<|go r<|ea r<|go r<|cy (qu j l (l0) (l1) (l2) (l3) (l4) (l5) (l6) (l7) (Pt k 0) (ls) bg P since lat seen cnt T w hb hd) r fun _=>go r<|ea r<|go r<|bJ r<|eb r<|gs r<|gs r<|gs r<|cA r r r<|cA r r r<|cA r r r<|cA r r r<|cA r r r<|gs r<|an r<|cf r<|jk<|ni (I 1) r<|uf r ?_
 refine kt<|sb r<|nk<|jr<|r1 r Ent.take
theorem CE (c d e g h j k l : Nat) (c0 c1 c2 c3 c4 c5 ch cl cn ci cg cm cz l0 l1 l2 l3 l4 l5 l6 l7 ls : Value) (R : List ByteArray) (t bg P since lat seen cnt T a : Int) (w : Bool) (hb : (bg = 0 /\ P = 12500) \/ (bg = 1 /\ P = 25000)) (hd : k7 P w lat since T) (fl : Int -> Option Value) (h10 : fl 10 = some (Pt j 0)) (hf : 0 < R.length /\ T <= a) : Kp prog 205 #[Pt c 0, I a] ((aa (am c [c0, c1, c2, c3, c4, c5, ch, Mp d, Sk e g 1 h, cl, cn, ci, cg, cm, cz] 263) (aa (Ow 3 1 (Sk e g 1 h) 1 [I 10]) (aa (az d .i64 fl) (aa (qG j l0 l1 l2 l3 l4 l5 l6 l7 k l ls since) (aa (SubP k R t) (vR l bg w lat seen cnt))))))) (Pt j 0) := by
 refine en func205 r fun _ F=>aE r<|aE r<|js<|sb r<|lf 8 r r<|ll r<|an r<|jl<|ut r<|js<|jb<|sr<|ix g r r<|lv (aF 0 r r r) r<|an r<|sb r<|lf 7 r r<|ea r<|lv (aN (v := Pt j 0) r r (some (Pt j 0)) h10 r) r<|an r<|sb r<|lf 8 r r<|cy (jC k R t) r fun _=>eR r<|ea r<|go r<|ea r<|go r<|cy (qu j l (l0) (l1) (l2) (l3) (l4) (l5) (l6) (l7) (Pt k 0) (ls) bg P since lat seen cnt T w hb hd) r fun _=>go r<|ea r<|go r<|eR r<|eb r<|go r<|ea r<|go r<|ep true r<|go r<|ea r<|gs r<|gs r<|gs r<|gs r<|gs r<|go r<|eb r ?_
 refine nt r<|jg<|eb r<|ln<|ni (I 1) r<|uf r<|kt<|sb r<|nk<|jr<|r1 r Ent.take
theorem CD (c d e g h j k l m o : Nat) (c0 c1 c2 c3 c4 c5 ch cl cn ci cg cm cz l0 l1 l2 l3 l4 l5 l6 l7 ls e0a e0b e0c e0d e0e e0f e0g e0h e0i e0j e0k u0a u0b u0c u0d u0e u0f u0g : Value) (R : List ByteArray) (t bg P since lat seen cnt T a : Int) (w : Bool) (hb : (bg = 0 /\ P = 12500) \/ (bg = 1 /\ P = 25000)) (hd : k7 P w lat since T) (fl : Int -> Option Value) (h10 : fl 10 = some (Pt j 0)) (h11 : fl 11 = some (Pt k 0)) (hf : R.length = 0) : Kp prog 205 #[Pt c 0, I a] ((aa (am c [c0, c1, c2, c3, c4, c5, ch, Mp d, Sk e g 2 h, cl, cn, ci, cg, cm, cz] 263) (aa (Dq e g h) (aa (az d .i64 fl) (aa (qG j l0 l1 l2 l3 l4 l5 l6 l7 l m ls since) (aa (SubP l R t) (aa (qF k e0a e0b e0c e0d e0e e0f e0g e0h o e0i e0j e0k) (qE o u0a u0b u0c u0d u0e u0f u0g)))))))) (Np) := by
 refine en func205 r fun _ F=>aE r<|aE r<|js<|sb r<|lf 8 r r<|ll r<|an r<|jl<|ut r<|js<|jb<|sr<|ix g r r<|lv (aF 0 r r r) r<|an r<|sb r<|lf 7 r r<|ea r<|lv (aN (v := Pt j 0) r r (some (Pt j 0)) h10 r) r<|an r<|sb r<|lf 8 r r<|cy (jC l R t) r fun _=>bJ r<|ea r<|gs r<|gs r<|gs r<|gs r<|eb r<|gs r<|gs r<|gs r<|cA r r r<|cA r r r<|cA r r r<|cA r r r<|cA r r r<|gs r<|an r<|cf r<|jk<|ni (I 1) r<|ut r<|js<|jb<|sr<|ix (g + 1) r r<|lv (aF 1 r r r) r<|an r<|sb r<|lf 7 r r<|ea r<|lv (aN (v := Pt k 0) r r (some (Pt k 0)) h11 r) r<|an r<|sb r<|lf 8 r r<|cy (mg o (u0a) (u0b) (u0c) (u0d) (u0e) (u0f) (u0g) 0) r fun _=>eb r<|gs r<|gs r<|gs r<|gs r<|eb r ?_
 refine gs r<|gs r<|gs r<|cA r r r<|cA r r r<|cA r r r<|cA r r r<|cA r r r<|gs r<|an r<|cf r<|jk<|ni (I 2) r<|uf r<|kt<|sb r<|nk ?_
 refine jr<|r1 r Ent.take
theorem CC (c d e g h j k l m o : Nat) (c0 c1 c2 c3 c4 c5 ch cl cn ci cg cm cz l0 l1 l2 l3 l4 l5 l6 l7 ls e0a e0b e0c e0d e0e e0f e0g e0h e0i e0j e0k u0a u0b u0c u0d u0e u0f u0g : Value) (R : List ByteArray) (t bg P since lat seen cnt T a : Int) (w : Bool) (hb : (bg = 0 /\ P = 12500) \/ (bg = 1 /\ P = 25000)) (hd : k7 P w lat since T) (fl : Int -> Option Value) (h10 : fl 10 = some (Pt j 0)) (h11 : fl 11 = some (Pt k 0)) (hf : 0 < R.length /\ a < T) : Kp prog 205 #[Pt c 0, I a] ((aa (am c [c0, c1, c2, c3, c4, c5, ch, Mp d, Sk e g 2 h, cl, cn, ci, cg, cm, cz] 263) (aa (Dq e g h) (aa (az d .i64 fl) (aa (qG j l0 l1 l2 l3 l4 l5 l6 l7 l m ls since) (aa (SubP l R t) (aa (vR m bg w lat seen cnt) (aa (qF k e0a e0b e0c e0d e0e e0f e0g e0h o e0i e0j e0k) (qE o u0a u0b u0c u0d u0e u0f u0g))))))))) (Np) := by
 refine en func205 r fun _ F=>aE r<|aE r<|js<|sb r<|lf 8 r r<|ll r<|an r<|jl<|ut r<|js<|jb<|sr<|ix g r r<|lv (aF 0 r r r) r<|an r<|sb r<|lf 7 r r<|ea r<|lv (aN (v := Pt j 0) r r (some (Pt j 0)) h10 r) r<|an r<|sb r<|lf 8 r r<|cy (jC l R t) r fun _=>eR r<|ea r<|go r<|ea r<|go r<|cy (qu j m (l0) (l1) (l2) (l3) (l4) (l5) (l6) (l7) (Pt l 0) (ls) bg P since lat seen cnt T w hb hd) r fun _=>go r<|ea r<|go r<|bJ r<|eb r<|gs r<|gs r<|gs r<|cA r r r<|cA r r r<|cA r r r<|cA r r r<|cA r r r<|gs r<|an r<|cf r<|jk<|ni (I 1) r<|ut r<|js<|jb<|sr<|ix (g + 1) r r<|lv (aF 1 r r r) r<|an r<|sb r<|lf 7 r r<|ea r<|lv (aN (v := Pt k 0) r r (some (Pt k 0)) h11 r) r<|an r<|sb r<|lf 8 r r<|cy (mg o (u0a) (u0b) (u0c) (u0d) (u0e) (u0f) (u0g) 0) r fun _=>eb r<|gs r ?_
 refine gs r<|gs r<|gs r<|eb r<|gs r<|gs r<|gs r<|cA r r r<|cA r r r<|cA r r r<|cA r r r<|cA r r r<|gs r<|an r<|cf r<|jk<|ni (I 2) r ?_
 refine uf r<|kt<|sb r<|nk<|jr<|r1 r Ent.take
theorem CB (c d e g h j k l m o : Nat) (c0 c1 c2 c3 c4 c5 ch cl cn ci cg cm cz l0 l1 l2 l3 l4 l5 l6 l7 ls e0a e0b e0c e0d e0e e0f e0g e0h e0i e0j e0k u0a u0b u0c u0d u0e u0f u0g : Value) (R : List ByteArray) (t bg P since lat seen cnt T a : Int) (w : Bool) (hb : (bg = 0 /\ P = 12500) \/ (bg = 1 /\ P = 25000)) (hd : k7 P w lat since T) (fl : Int -> Option Value) (h10 : fl 10 = some (Pt j 0)) (h11 : fl 11 = some (Pt k 0)) (hf : 0 < R.length /\ T <= a) : Kp prog 205 #[Pt c 0, I a] ((aa (am c [c0, c1, c2, c3, c4, c5, ch, Mp d, Sk e g 2 h, cl, cn, ci, cg, cm, cz] 263) (aa (Dq e g h) (aa (az d .i64 fl) (aa (qG j l0 l1 l2 l3 l4 l5 l6 l7 l m ls since) (aa (SubP l R t) (aa (vR m bg w lat seen cnt) (aa (qF k e0a e0b e0c e0d e0e e0f e0g e0h o e0i e0j e0k) (qE o u0a u0b u0c u0d u0e u0f u0g))))))))) (Pt j 0) := by
 refine en func205 r fun _ F=>aE r<|aE r<|js<|sb r<|lf 8 r r<|ll r<|an r<|jl<|ut r<|js<|jb<|sr<|ix g r r<|lv (aF 0 r r r) r<|an r<|sb r<|lf 7 r r<|ea r<|lv (aN (v := Pt j 0) r r (some (Pt j 0)) h10 r) r<|an r<|sb r<|lf 8 r r<|cy (jC l R t) r fun _=>eR r<|ea r<|go r<|ea r<|go r<|cy (qu j m (l0) (l1) (l2) (l3) (l4) (l5) (l6) (l7) (Pt l 0) (ls) bg P since lat seen cnt T w hb hd) r fun _=>go r<|ea r<|go r<|eR r<|eb r<|go r<|ea r<|go r<|ep true r<|go r<|ea r<|gs r<|gs r<|gs r<|gs r<|gs r<|go r<|eb r<|nt r<|jg<|eb r<|ln<|ni (I 1) r<|ut r<|js<|jb<|sr<|ix (g + 1) r r<|lv (aF 1 r r r) r<|an r<|sb r<|lf 7 r r<|ea r<|lv (aN (v := Pt k 0) r r (some (Pt k 0)) h11 r) r ?_
 refine an r<|sb r<|lf 8 r r<|cy (mg o (u0a) (u0b) (u0c) (u0d) (u0e) (u0f) (u0g) 0) r fun _=>eb r<|gs r<|gs r<|gs r<|gs r<|eb r<|gs r<|gs r<|gs r<|cA r r r<|cA r r r<|cA r r r ?_
 refine cA r r r<|cA r r r<|gs r<|an r<|cf r<|jk<|ni (I 2) r<|uf r<|kt<|sb r<|nk<|jr<|r1 r Ent.take
theorem CA (c d e g h j k l m o p q : Nat) (c0 c1 c2 c3 c4 c5 ch cl cn ci cg cm cz l0 l1 l2 l3 l4 l5 l6 l7 ls e0a e0b e0c e0d e0e e0f e0g e0h e0i e0j e0k e1a e1b e1c e1d e1e e1f e1g e1h e1i e1j e1k u0a u0b u0c u0d u0e u0f u0g u1a u1b u1c u1d u1e u1f u1g : Value) (R : List ByteArray) (t bg P since lat seen cnt T a : Int) (w : Bool) (hb : (bg = 0 /\ P = 12500) \/ (bg = 1 /\ P = 25000)) (hd : k7 P w lat since T) (fl : Int -> Option Value) (h10 : fl 10 = some (Pt j 0)) (h11 : fl 11 = some (Pt k 0)) (h12 : fl 12 = some (Pt l 0)) (hf : R.length = 0) : Kp prog 205 #[Pt c 0, I a] ((aa (am c [c0, c1, c2, c3, c4, c5, ch, Mp d, Sk e g 3 h, cl, cn, ci, cg, cm, cz] 263) (aa (Dp e g h) (aa (az d .i64 fl) (aa (qG j l0 l1 l2 l3 l4 l5 l6 l7 m o ls since) (aa (SubP m R t) (aa (qF k e0a e0b e0c e0d e0e e0f e0g e0h p e0i e0j e0k) (aa (qE p u0a u0b u0c u0d u0e u0f u0g) (aa (qF l e1a e1b e1c e1d e1e e1f e1g e1h q e1i e1j e1k) (qE q u1a u1b u1c u1d u1e u1f u1g)))))))))) (Np) := by
 refine en func205 r fun _ F=>aE r<|aE r<|js<|sb r<|lf 8 r r<|ll r<|an r<|jl<|ut r<|js<|jb<|sr<|ix g r r<|lv (aF 0 r r r) r<|an r<|sb r<|lf 7 r r<|ea r<|lv (aN (v := Pt j 0) r r (some (Pt j 0)) h10 r) r<|an r<|sb r<|lf 8 r r<|cy (jC m R t) r fun _=>bJ r<|ea r<|gs r<|gs r<|gs r<|gs r<|eb r<|gs r<|gs r<|gs r<|cA r r r<|cA r r r<|cA r r r<|cA r r r<|cA r r r<|gs r<|an r<|cf r<|jk<|ni (I 1) r<|ut r<|js<|jb<|sr<|ix (g + 1) r r<|lv (aF 1 r r r) r<|an r<|sb r<|lf 7 r r<|ea r<|lv (aN (v := Pt k 0) r r (some (Pt k 0)) h11 r) r<|an r<|sb r<|lf 8 r r<|cy (mg p (u0a) (u0b) (u0c) (u0d) (u0e) (u0f) (u0g) 0) r fun _=>eb r<|gs r<|gs r<|gs r<|gs r<|eb r ?_
 refine gs r<|gs r<|gs r<|cA r r r<|cA r r r<|cA r r r<|cA r r r<|cA r r r<|gs r<|an r<|cf r<|jk<|ni (I 2) r<|ut r<|js<|jb<|sr<|ix (g + 2) r r<|lv (aF 2 r r r) r<|an r<|sb r<|lf 7 r r<|ea r<|lv (aN (v := Pt l 0) r r (some (Pt l 0)) h12 r) r<|an r<|sb r<|lf 8 r r<|cy (mg q (u1a) (u1b) (u1c) (u1d) (u1e) (u1f) (u1g) 0) r fun _=>eb r<|gs r<|gs r<|gs r<|gs r<|eb r<|gs r<|gs r<|gs r<|cA r r r<|cA r r r<|cA r r r<|cA r r r<|cA r r r<|gs r<|an r<|cf r<|jk<|ni (I 3) r<|uf r<|kt<|sb r ?_
 refine nk<|jr<|r1 r Ent.take
theorem Cz (c d e g h j k l m o p q : Nat) (c0 c1 c2 c3 c4 c5 ch cl cn ci cg cm cz l0 l1 l2 l3 l4 l5 l6 l7 ls e0a e0b e0c e0d e0e e0f e0g e0h e0i e0j e0k e1a e1b e1c e1d e1e e1f e1g e1h e1i e1j e1k u0a u0b u0c u0d u0e u0f u0g u1a u1b u1c u1d u1e u1f u1g : Value) (R : List ByteArray) (t bg P since lat seen cnt T a : Int) (w : Bool) (hb : (bg = 0 /\ P = 12500) \/ (bg = 1 /\ P = 25000)) (hd : k7 P w lat since T) (fl : Int -> Option Value) (h10 : fl 10 = some (Pt j 0)) (h11 : fl 11 = some (Pt k 0)) (h12 : fl 12 = some (Pt l 0)) (hf : 0 < R.length /\ a < T) : Kp prog 205 #[Pt c 0, I a] ((aa (am c [c0, c1, c2, c3, c4, c5, ch, Mp d, Sk e g 3 h, cl, cn, ci, cg, cm, cz] 263) (aa (Dp e g h) (aa (az d .i64 fl) (aa (qG j l0 l1 l2 l3 l4 l5 l6 l7 m o ls since) (aa (SubP m R t) (aa (vR o bg w lat seen cnt) (aa (qF k e0a e0b e0c e0d e0e e0f e0g e0h p e0i e0j e0k) (aa (qE p u0a u0b u0c u0d u0e u0f u0g) (aa (qF l e1a e1b e1c e1d e1e e1f e1g e1h q e1i e1j e1k) (qE q u1a u1b u1c u1d u1e u1f u1g))))))))))) (Np) := by
 refine en func205 r fun _ F=>aE r<|aE r<|js<|sb r<|lf 8 r r<|ll r<|an r<|jl<|ut r<|js<|jb<|sr<|ix g r r<|lv (aF 0 r r r) r<|an r<|sb r<|lf 7 r r<|ea r<|lv (aN (v := Pt j 0) r r (some (Pt j 0)) h10 r) r<|an r<|sb r<|lf 8 r r<|cy (jC m R t) r fun _=>eR r<|ea r<|go r<|ea r<|go r<|cy (qu j o (l0) (l1) (l2) (l3) (l4) (l5) (l6) (l7) (Pt m 0) (ls) bg P since lat seen cnt T w hb hd) r fun _=>go r<|ea r<|go r<|bJ r<|eb r<|gs r<|gs r<|gs r<|cA r r r<|cA r r r<|cA r r r<|cA r r r<|cA r r r<|gs r<|an r<|cf r<|jk<|ni (I 1) r<|ut r<|js<|jb<|sr<|ix (g + 1) r r<|lv (aF 1 r r r) r<|an r<|sb r<|lf 7 r r<|ea r<|lv (aN (v := Pt k 0) r r (some (Pt k 0)) h11 r) r<|an r<|sb r<|lf 8 r r<|cy (mg p (u0a) (u0b) (u0c) (u0d) (u0e) (u0f) (u0g) 0) r fun _=>eb r<|gs r ?_
 refine gs r<|gs r<|gs r<|eb r<|gs r<|gs r<|gs r<|cA r r r<|cA r r r<|cA r r r<|cA r r r<|cA r r r<|gs r<|an r<|cf r<|jk<|ni (I 2) r<|ut r<|js<|jb<|sr<|ix (g + 2) r r<|lv (aF 2 r r r) r<|an r<|sb r<|lf 7 r r<|ea r<|lv (aN (v := Pt l 0) r r (some (Pt l 0)) h12 r) r<|an r<|sb r<|lf 8 r r<|cy (mg q (u1a) (u1b) (u1c) (u1d) (u1e) (u1f) (u1g) 0) r fun _=>eb r<|gs r<|gs r<|gs r<|gs r<|eb r<|gs r<|gs r<|gs r<|cA r r r<|cA r r r<|cA r r r<|cA r r r<|cA r r r<|gs r<|an r<|cf r ?_
 refine jk<|ni (I 3) r<|uf r<|kt<|sb r<|nk<|jr<|r1 r Ent.take
theorem Cy (c d e g h j k l m o p q : Nat) (c0 c1 c2 c3 c4 c5 ch cl cn ci cg cm cz l0 l1 l2 l3 l4 l5 l6 l7 ls e0a e0b e0c e0d e0e e0f e0g e0h e0i e0j e0k e1a e1b e1c e1d e1e e1f e1g e1h e1i e1j e1k u0a u0b u0c u0d u0e u0f u0g u1a u1b u1c u1d u1e u1f u1g : Value) (R : List ByteArray) (t bg P since lat seen cnt T a : Int) (w : Bool) (hb : (bg = 0 /\ P = 12500) \/ (bg = 1 /\ P = 25000)) (hd : k7 P w lat since T) (fl : Int -> Option Value) (h10 : fl 10 = some (Pt j 0)) (h11 : fl 11 = some (Pt k 0)) (h12 : fl 12 = some (Pt l 0)) (hf : 0 < R.length /\ T <= a) : Kp prog 205 #[Pt c 0, I a] ((aa (am c [c0, c1, c2, c3, c4, c5, ch, Mp d, Sk e g 3 h, cl, cn, ci, cg, cm, cz] 263) (aa (Dp e g h) (aa (az d .i64 fl) (aa (qG j l0 l1 l2 l3 l4 l5 l6 l7 m o ls since) (aa (SubP m R t) (aa (vR o bg w lat seen cnt) (aa (qF k e0a e0b e0c e0d e0e e0f e0g e0h p e0i e0j e0k) (aa (qE p u0a u0b u0c u0d u0e u0f u0g) (aa (qF l e1a e1b e1c e1d e1e e1f e1g e1h q e1i e1j e1k) (qE q u1a u1b u1c u1d u1e u1f u1g))))))))))) (Pt j 0) := by
 refine en func205 r fun _ F=>aE r<|aE r<|js<|sb r<|lf 8 r r<|ll r<|an r<|jl<|ut r<|js<|jb<|sr<|ix g r r<|lv (aF 0 r r r) r<|an r<|sb r<|lf 7 r r<|ea r<|lv (aN (v := Pt j 0) r r (some (Pt j 0)) h10 r) r<|an r<|sb r<|lf 8 r r<|cy (jC m R t) r fun _=>eR r<|ea r<|go r<|ea r<|go r<|cy (qu j o (l0) (l1) (l2) (l3) (l4) (l5) (l6) (l7) (Pt m 0) (ls) bg P since lat seen cnt T w hb hd) r fun _=>go r<|ea r<|go r<|eR r<|eb r<|go r<|ea r<|go r<|ep true r<|go r<|ea r<|gs r<|gs r<|gs r<|gs r<|gs r<|go r<|eb r<|nt r<|jg<|eb r<|ln<|ni (I 1) r<|ut r<|js<|jb<|sr<|ix (g + 1) r r<|lv (aF 1 r r r) r<|an r<|sb r<|lf 7 r r<|ea r<|lv (aN (v := Pt k 0) r r (some (Pt k 0)) h11 r) r ?_
 refine an r<|sb r<|lf 8 r r<|cy (mg p (u0a) (u0b) (u0c) (u0d) (u0e) (u0f) (u0g) 0) r fun _=>eb r<|gs r<|gs r<|gs r<|gs r<|eb r<|gs r<|gs r<|gs r<|cA r r r<|cA r r r<|cA r r r<|cA r r r<|cA r r r<|gs r<|an r<|cf r<|jk<|ni (I 2) r<|ut r<|js<|jb<|sr<|ix (g + 2) r r<|lv (aF 2 r r r) r<|an r<|sb r<|lf 7 r r<|ea r<|lv (aN (v := Pt l 0) r r (some (Pt l 0)) h12 r) r<|an r<|sb r<|lf 8 r r<|cy (mg q (u1a) (u1b) (u1c) (u1d) (u1e) (u1f) (u1g) 0) r fun _=>eb r<|gs r<|gs r<|gs r<|gs r<|eb r<|gs r<|gs r<|gs r<|cA r r r<|cA r r r ?_
 refine cA r r r<|cA r r r<|cA r r r<|gs r<|an r<|cf r<|jk<|ni (I 3) r<|uf r<|kt<|sb r<|nk<|jr<|r1 r Ent.take
end Sp
section
namespace Sp
open Mq
variable {Y : Type} {f : FuncId} {args : Array Value} {R P P' : ab} {v : Value}
theorem Kp.ex {g : Y -> ab} (h : ∀ y, Kp prog f args (aa (g y) (R)) v) : Kp prog f args (aa (SLA.ex g) (R)) v := cC fun y => (h y).conseq (ah _) fun _ _ => ⟨(), trivial, rfl, Ent.ex y⟩
theorem Kp.lift {p : Prop} (h : p -> Kp prog f args R v) : Kp prog f args (aa (SLA.lift p) (R)) v := aO fun hp => (h hp).conseq (ah _) fun _ _ => ⟨(), trivial, rfl, Ent.lift hp⟩
theorem Kp.eq (e : P = P') (h : Kp prog f args P' v) : Kp prog f args P v := e ▸ h
theorem Kp.sub [h : Take P P' R] (k : Kp prog f args P' v) : Kp prog f args P v := by
 rw [h.eq]; exact k.frame R
theorem gY (A : ab) (g : Y -> ab) (e : A = SLA.ex g) [h : Take P A R] (k : ∀ y, Kp prog f args (aa (g y) (R)) v) : Kp prog f args P v := by
 rw [h.eq, e]; exact Kp.ex k
def XL (fl : Int -> Option Value) (id : Int) : ab := ex fun y : Nat × Nat × (Nat -> Value) => (aa (SLA.lift (fl id = some (Pt y.1 0))) (aa (am y.1 [y.2.2 0, y.2.2 1, y.2.2 2, y.2.2 3, y.2.2 4, y.2.2 5, y.2.2 6, y.2.2 7, Pt y.2.1 0, y.2.2 8, y.2.2 9, y.2.2 10] 269) (am y.2.1 [y.2.2 11, y.2.2 12, y.2.2 13, y.2.2 14, y.2.2 15, y.2.2 16, y.2.2 17, I 0] 326)))
def LX (n : Nat) (fl : Int -> Option Value) : ab := match n with
 | 1 => emp
 | 2 => XL fl 11
 | _ => (aa (XL fl 11) (XL fl 12))
def Cw (n : Nat) : List Value := match n with
 | 1 => [I 10]
 | 2 => [I 10, I 11]
 | _ => [I 10, I 11, I 12]
def LkP (n lr ob oo oc p : Nat) : ab := ex fun fl : Int -> Option Value => (aa (SLA.lift (fl 10 = some (Pt p 0))) (aa (Ow 3 1 (Sk ob oo n oc) n (Cw n)) (aa (az lr .i64 fl) (LX n fl))))
abbrev _root_.Go.qq8 (a : Nat) (b : List ByteArray) (c : Int) (d : Nat) (e : Int) (f : Bool) (g h j : Int) := aa (SubP a b c) (am d [.int .u64 e, .bool f, I g, I h, I j] 330)
theorem zZ (n p lr ob oo oc k q g : Nat) (hn : n = 1 \/ n = 2 \/ n = 3) (c0 c1 c2 c3 c4 c5 ch cl cn ci cg cm cz l0 l1 l2 l3 l4 l5 l6 l7 ls : Value) (R : List ByteArray) (t bg P since lat seen cnt T a : Int) (w : Bool) (hb : (bg = 0 /\ P = 12500) \/ (bg = 1 /\ P = 25000)) (hd : k7 P w lat since T) (hf : R.length = 0) : Kp prog 205 #[Pt p 0, I a] ((aa (am p [c0, c1, c2, c3, c4, c5, ch, Mp lr, Sk ob oo n oc, cl, cn, ci, cg, cm, cz] 263) (aa (LkP n lr ob oo oc k) (aa (am k [l0, l1, l2, l3, l4, l5, l6, l7, Pt q 0, Pt g 0, ls, I since] 269) (qq8 q R t g bg w lat seen cnt))))) (Np) := by
 refine Kp.eq (aR _ _ _)<|Kp.ex fun fl =>Kp.eq (ak _ _ _)<|Kp.lift fun h10 => ?_
 rcases hn with rfl | rfl | rfl
 ·exact Kp.eq (show _ = (aa ((aa (Ow 3 1 (Sk ob oo 1 oc) 1 [I 10]) (aa (az lr .i64 fl) (emp)))) (aa (am p [c0, c1, c2, c3, c4, c5, ch, Mp lr, Sk ob oo 1 oc, cl, cn, ci, cg, cm, cz] 263) (aa (am k [l0, l1, l2, l3, l4, l5, l6, l7, Pt q 0, Pt g 0, ls, I since] 269) (qq8 q R t g bg w lat seen cnt)))) from rfl) (Kp.sub (CG p lr ob oo oc k q g c0 c1 c2 c3 c4 c5 ch cl cn ci cg cm cz l0 l1 l2 l3 l4 l5 l6 l7 ls R t bg P since lat seen cnt T a w hb hd fl h10 hf))
 ·refine Kp.eq (show _ = (aa ((aa (Ow 3 1 (Sk ob oo 2 oc) 2 [I 10, I 11]) (aa (az lr .i64 fl) (XL fl 11)))) (aa (am p [c0, c1, c2, c3, c4, c5, ch, Mp lr, Sk ob oo 2 oc, cl, cn, ci, cg, cm, cz] 263) (aa (am k [l0, l1, l2, l3, l4, l5, l6, l7, Pt q 0, Pt g 0, ls, I since] 269) (qq8 q R t g bg w lat seen cnt)))) from rfl) ?_
  refine gY (XL fl 11) (fun y : Nat × Nat × (Nat -> Value) => (aa (SLA.lift (fl 11 = some (Pt y.1 0))) (aa (am y.1 [y.2.2 0, y.2.2 1, y.2.2 2, y.2.2 3, y.2.2 4, y.2.2 5, y.2.2 6, y.2.2 7, Pt y.2.1 0, y.2.2 8, y.2.2 9, y.2.2 10] 269) (am y.2.1 [y.2.2 11, y.2.2 12, y.2.2 13, y.2.2 14, y.2.2 15, y.2.2 16, y.2.2 17, I 0] 326)))) rfl fun y0 =>Kp.eq (ak _ _ _)<|Kp.lift fun h11 => ?_
  exact Kp.sub (CD p lr ob oo oc k y0.1 q g y0.2.1 c0 c1 c2 c3 c4 c5 ch cl cn ci cg cm cz l0 l1 l2 l3 l4 l5 l6 l7 ls (y0.2.2 0) (y0.2.2 1) (y0.2.2 2) (y0.2.2 3) (y0.2.2 4) (y0.2.2 5) (y0.2.2 6) (y0.2.2 7) (y0.2.2 8) (y0.2.2 9) (y0.2.2 10) (y0.2.2 11) (y0.2.2 12) (y0.2.2 13) (y0.2.2 14) (y0.2.2 15) (y0.2.2 16) (y0.2.2 17) R t bg P since lat seen cnt T a w hb hd fl h10 h11 hf)
 ·refine Kp.eq (show _ = (aa ((aa (Ow 3 1 (Sk ob oo 3 oc) 3 [I 10, I 11, I 12]) (aa (az lr .i64 fl) ((aa (XL fl 11) (XL fl 12)))))) (aa (am p [c0, c1, c2, c3, c4, c5, ch, Mp lr, Sk ob oo 3 oc, cl, cn, ci, cg, cm, cz] 263) (aa (am k [l0, l1, l2, l3, l4, l5, l6, l7, Pt q 0, Pt g 0, ls, I since] 269) (qq8 q R t g bg w lat seen cnt)))) from rfl) ?_
  refine gY (XL fl 11) (fun y : Nat × Nat × (Nat -> Value) => (aa (SLA.lift (fl 11 = some (Pt y.1 0))) (aa (am y.1 [y.2.2 0, y.2.2 1, y.2.2 2, y.2.2 3, y.2.2 4, y.2.2 5, y.2.2 6, y.2.2 7, Pt y.2.1 0, y.2.2 8, y.2.2 9, y.2.2 10] 269) (am y.2.1 [y.2.2 11, y.2.2 12, y.2.2 13, y.2.2 14, y.2.2 15, y.2.2 16, y.2.2 17, I 0] 326)))) rfl fun y0 =>Kp.eq (ak _ _ _)<|Kp.lift fun h11 =>gY (XL fl 12) (fun y : Nat × Nat × (Nat -> Value) => (aa (SLA.lift (fl 12 = some (Pt y.1 0))) (aa (am y.1 [y.2.2 0, y.2.2 1, y.2.2 2, y.2.2 3, y.2.2 4, y.2.2 5, y.2.2 6, y.2.2 7, Pt y.2.1 0, y.2.2 8, y.2.2 9, y.2.2 10] 269) (am y.2.1 [y.2.2 11, y.2.2 12, y.2.2 13, y.2.2 14, y.2.2 15, y.2.2 16, y.2.2 17, I 0] 326)))) rfl fun y1 =>Kp.eq (ak _ _ _)<|Kp.lift fun h12 => ?_
  exact Kp.sub (CA p lr ob oo oc k y0.1 y1.1 q g y0.2.1 y1.2.1 c0 c1 c2 c3 c4 c5 ch cl cn ci cg cm cz l0 l1 l2 l3 l4 l5 l6 l7 ls (y0.2.2 0) (y0.2.2 1) (y0.2.2 2) (y0.2.2 3) (y0.2.2 4) (y0.2.2 5) (y0.2.2 6) (y0.2.2 7) (y0.2.2 8) (y0.2.2 9) (y0.2.2 10) (y1.2.2 0) (y1.2.2 1) (y1.2.2 2) (y1.2.2 3) (y1.2.2 4) (y1.2.2 5) (y1.2.2 6) (y1.2.2 7) (y1.2.2 8) (y1.2.2 9) (y1.2.2 10) (y0.2.2 11) (y0.2.2 12) (y0.2.2 13) (y0.2.2 14) (y0.2.2 15) (y0.2.2 16) (y0.2.2 17) (y1.2.2 11) (y1.2.2 12) (y1.2.2 13) (y1.2.2 14) (y1.2.2 15) (y1.2.2 16) (y1.2.2 17) R t bg P since lat seen cnt T a w hb hd fl h10 h11 h12 hf)
theorem zY (n p lr ob oo oc k q g : Nat) (hn : n = 1 \/ n = 2 \/ n = 3) (c0 c1 c2 c3 c4 c5 ch cl cn ci cg cm cz l0 l1 l2 l3 l4 l5 l6 l7 ls : Value) (R : List ByteArray) (t bg P since lat seen cnt T a : Int) (w : Bool) (hb : (bg = 0 /\ P = 12500) \/ (bg = 1 /\ P = 25000)) (hd : k7 P w lat since T) (hf : 0 < R.length /\ a < T) : Kp prog 205 #[Pt p 0, I a] ((aa (am p [c0, c1, c2, c3, c4, c5, ch, Mp lr, Sk ob oo n oc, cl, cn, ci, cg, cm, cz] 263) (aa (LkP n lr ob oo oc k) (aa (am k [l0, l1, l2, l3, l4, l5, l6, l7, Pt q 0, Pt g 0, ls, I since] 269) (qq8 q R t g bg w lat seen cnt))))) (Np) := by
 refine Kp.eq (aR _ _ _)<|Kp.ex fun fl =>Kp.eq (ak _ _ _)<|Kp.lift fun h10 => ?_
 rcases hn with rfl | rfl | rfl
 ·exact Kp.eq (show _ = (aa ((aa (Ow 3 1 (Sk ob oo 1 oc) 1 [I 10]) (aa (az lr .i64 fl) (emp)))) (aa (am p [c0, c1, c2, c3, c4, c5, ch, Mp lr, Sk ob oo 1 oc, cl, cn, ci, cg, cm, cz] 263) (aa (am k [l0, l1, l2, l3, l4, l5, l6, l7, Pt q 0, Pt g 0, ls, I since] 269) (qq8 q R t g bg w lat seen cnt)))) from rfl) (Kp.sub (CF p lr ob oo oc k q g c0 c1 c2 c3 c4 c5 ch cl cn ci cg cm cz l0 l1 l2 l3 l4 l5 l6 l7 ls R t bg P since lat seen cnt T a w hb hd fl h10 hf))
 ·refine Kp.eq (show _ = (aa ((aa (Ow 3 1 (Sk ob oo 2 oc) 2 [I 10, I 11]) (aa (az lr .i64 fl) (XL fl 11)))) (aa (am p [c0, c1, c2, c3, c4, c5, ch, Mp lr, Sk ob oo 2 oc, cl, cn, ci, cg, cm, cz] 263) (aa (am k [l0, l1, l2, l3, l4, l5, l6, l7, Pt q 0, Pt g 0, ls, I since] 269) (qq8 q R t g bg w lat seen cnt)))) from rfl) ?_
  refine gY (XL fl 11) (fun y : Nat × Nat × (Nat -> Value) => (aa (SLA.lift (fl 11 = some (Pt y.1 0))) (aa (am y.1 [y.2.2 0, y.2.2 1, y.2.2 2, y.2.2 3, y.2.2 4, y.2.2 5, y.2.2 6, y.2.2 7, Pt y.2.1 0, y.2.2 8, y.2.2 9, y.2.2 10] 269) (am y.2.1 [y.2.2 11, y.2.2 12, y.2.2 13, y.2.2 14, y.2.2 15, y.2.2 16, y.2.2 17, I 0] 326)))) rfl fun y0 =>Kp.eq (ak _ _ _)<|Kp.lift fun h11 => ?_
  exact Kp.sub (CC p lr ob oo oc k y0.1 q g y0.2.1 c0 c1 c2 c3 c4 c5 ch cl cn ci cg cm cz l0 l1 l2 l3 l4 l5 l6 l7 ls (y0.2.2 0) (y0.2.2 1) (y0.2.2 2) (y0.2.2 3) (y0.2.2 4) (y0.2.2 5) (y0.2.2 6) (y0.2.2 7) (y0.2.2 8) (y0.2.2 9) (y0.2.2 10) (y0.2.2 11) (y0.2.2 12) (y0.2.2 13) (y0.2.2 14) (y0.2.2 15) (y0.2.2 16) (y0.2.2 17) R t bg P since lat seen cnt T a w hb hd fl h10 h11 hf)
 ·refine Kp.eq (show _ = (aa ((aa (Ow 3 1 (Sk ob oo 3 oc) 3 [I 10, I 11, I 12]) (aa (az lr .i64 fl) ((aa (XL fl 11) (XL fl 12)))))) (aa (am p [c0, c1, c2, c3, c4, c5, ch, Mp lr, Sk ob oo 3 oc, cl, cn, ci, cg, cm, cz] 263) (aa (am k [l0, l1, l2, l3, l4, l5, l6, l7, Pt q 0, Pt g 0, ls, I since] 269) (qq8 q R t g bg w lat seen cnt)))) from rfl) ?_
  refine gY (XL fl 11) (fun y : Nat × Nat × (Nat -> Value) => (aa (SLA.lift (fl 11 = some (Pt y.1 0))) (aa (am y.1 [y.2.2 0, y.2.2 1, y.2.2 2, y.2.2 3, y.2.2 4, y.2.2 5, y.2.2 6, y.2.2 7, Pt y.2.1 0, y.2.2 8, y.2.2 9, y.2.2 10] 269) (am y.2.1 [y.2.2 11, y.2.2 12, y.2.2 13, y.2.2 14, y.2.2 15, y.2.2 16, y.2.2 17, I 0] 326)))) rfl fun y0 =>Kp.eq (ak _ _ _)<|Kp.lift fun h11 =>gY (XL fl 12) (fun y : Nat × Nat × (Nat -> Value) => (aa (SLA.lift (fl 12 = some (Pt y.1 0))) (aa (am y.1 [y.2.2 0, y.2.2 1, y.2.2 2, y.2.2 3, y.2.2 4, y.2.2 5, y.2.2 6, y.2.2 7, Pt y.2.1 0, y.2.2 8, y.2.2 9, y.2.2 10] 269) (am y.2.1 [y.2.2 11, y.2.2 12, y.2.2 13, y.2.2 14, y.2.2 15, y.2.2 16, y.2.2 17, I 0] 326)))) rfl fun y1 =>Kp.eq (ak _ _ _)<|Kp.lift fun h12 => ?_
  exact Kp.sub (Cz p lr ob oo oc k y0.1 y1.1 q g y0.2.1 y1.2.1 c0 c1 c2 c3 c4 c5 ch cl cn ci cg cm cz l0 l1 l2 l3 l4 l5 l6 l7 ls (y0.2.2 0) (y0.2.2 1) (y0.2.2 2) (y0.2.2 3) (y0.2.2 4) (y0.2.2 5) (y0.2.2 6) (y0.2.2 7) (y0.2.2 8) (y0.2.2 9) (y0.2.2 10) (y1.2.2 0) (y1.2.2 1) (y1.2.2 2) (y1.2.2 3) (y1.2.2 4) (y1.2.2 5) (y1.2.2 6) (y1.2.2 7) (y1.2.2 8) (y1.2.2 9) (y1.2.2 10) (y0.2.2 11) (y0.2.2 12) (y0.2.2 13) (y0.2.2 14) (y0.2.2 15) (y0.2.2 16) (y0.2.2 17) (y1.2.2 11) (y1.2.2 12) (y1.2.2 13) (y1.2.2 14) (y1.2.2 15) (y1.2.2 16) (y1.2.2 17) R t bg P since lat seen cnt T a w hb hd fl h10 h11 h12 hf)
theorem qp (n p lr ob oo oc k q g : Nat) (hn : n = 1 \/ n = 2 \/ n = 3) (c0 c1 c2 c3 c4 c5 ch cl cn ci cg cm cz l0 l1 l2 l3 l4 l5 l6 l7 ls : Value) (R : List ByteArray) (t bg P since lat seen cnt T a : Int) (w : Bool) (hb : (bg = 0 /\ P = 12500) \/ (bg = 1 /\ P = 25000)) (hd : k7 P w lat since T) (hf : 0 < R.length /\ T <= a) : Kp prog 205 #[Pt p 0, I a] ((aa (am p [c0, c1, c2, c3, c4, c5, ch, Mp lr, Sk ob oo n oc, cl, cn, ci, cg, cm, cz] 263) (aa (LkP n lr ob oo oc k) (aa (am k [l0, l1, l2, l3, l4, l5, l6, l7, Pt q 0, Pt g 0, ls, I since] 269) (qq8 q R t g bg w lat seen cnt))))) (Pt k 0) := by
 refine Kp.eq (aR _ _ _)<|Kp.ex fun fl =>Kp.eq (ak _ _ _)<|Kp.lift fun h10 => ?_
 rcases hn with rfl | rfl | rfl
 ·exact Kp.eq (show _ = (aa ((aa (Ow 3 1 (Sk ob oo 1 oc) 1 [I 10]) (aa (az lr .i64 fl) (emp)))) (aa (am p [c0, c1, c2, c3, c4, c5, ch, Mp lr, Sk ob oo 1 oc, cl, cn, ci, cg, cm, cz] 263) (aa (am k [l0, l1, l2, l3, l4, l5, l6, l7, Pt q 0, Pt g 0, ls, I since] 269) (qq8 q R t g bg w lat seen cnt)))) from rfl) (Kp.sub (CE p lr ob oo oc k q g c0 c1 c2 c3 c4 c5 ch cl cn ci cg cm cz l0 l1 l2 l3 l4 l5 l6 l7 ls R t bg P since lat seen cnt T a w hb hd fl h10 hf))
 ·refine Kp.eq (show _ = (aa ((aa (Ow 3 1 (Sk ob oo 2 oc) 2 [I 10, I 11]) (aa (az lr .i64 fl) (XL fl 11)))) (aa (am p [c0, c1, c2, c3, c4, c5, ch, Mp lr, Sk ob oo 2 oc, cl, cn, ci, cg, cm, cz] 263) (aa (am k [l0, l1, l2, l3, l4, l5, l6, l7, Pt q 0, Pt g 0, ls, I since] 269) (qq8 q R t g bg w lat seen cnt)))) from rfl) ?_
  refine gY (XL fl 11) (fun y : Nat × Nat × (Nat -> Value) => (aa (SLA.lift (fl 11 = some (Pt y.1 0))) (aa (am y.1 [y.2.2 0, y.2.2 1, y.2.2 2, y.2.2 3, y.2.2 4, y.2.2 5, y.2.2 6, y.2.2 7, Pt y.2.1 0, y.2.2 8, y.2.2 9, y.2.2 10] 269) (am y.2.1 [y.2.2 11, y.2.2 12, y.2.2 13, y.2.2 14, y.2.2 15, y.2.2 16, y.2.2 17, I 0] 326)))) rfl fun y0 =>Kp.eq (ak _ _ _)<|Kp.lift fun h11 => ?_
  exact Kp.sub (CB p lr ob oo oc k y0.1 q g y0.2.1 c0 c1 c2 c3 c4 c5 ch cl cn ci cg cm cz l0 l1 l2 l3 l4 l5 l6 l7 ls (y0.2.2 0) (y0.2.2 1) (y0.2.2 2) (y0.2.2 3) (y0.2.2 4) (y0.2.2 5) (y0.2.2 6) (y0.2.2 7) (y0.2.2 8) (y0.2.2 9) (y0.2.2 10) (y0.2.2 11) (y0.2.2 12) (y0.2.2 13) (y0.2.2 14) (y0.2.2 15) (y0.2.2 16) (y0.2.2 17) R t bg P since lat seen cnt T a w hb hd fl h10 h11 hf)
 ·refine Kp.eq (show _ = (aa ((aa (Ow 3 1 (Sk ob oo 3 oc) 3 [I 10, I 11, I 12]) (aa (az lr .i64 fl) ((aa (XL fl 11) (XL fl 12)))))) (aa (am p [c0, c1, c2, c3, c4, c5, ch, Mp lr, Sk ob oo 3 oc, cl, cn, ci, cg, cm, cz] 263) (aa (am k [l0, l1, l2, l3, l4, l5, l6, l7, Pt q 0, Pt g 0, ls, I since] 269) (qq8 q R t g bg w lat seen cnt)))) from rfl) ?_
  refine gY (XL fl 11) (fun y : Nat × Nat × (Nat -> Value) => (aa (SLA.lift (fl 11 = some (Pt y.1 0))) (aa (am y.1 [y.2.2 0, y.2.2 1, y.2.2 2, y.2.2 3, y.2.2 4, y.2.2 5, y.2.2 6, y.2.2 7, Pt y.2.1 0, y.2.2 8, y.2.2 9, y.2.2 10] 269) (am y.2.1 [y.2.2 11, y.2.2 12, y.2.2 13, y.2.2 14, y.2.2 15, y.2.2 16, y.2.2 17, I 0] 326)))) rfl fun y0 =>Kp.eq (ak _ _ _)<|Kp.lift fun h11 =>gY (XL fl 12) (fun y : Nat × Nat × (Nat -> Value) => (aa (SLA.lift (fl 12 = some (Pt y.1 0))) (aa (am y.1 [y.2.2 0, y.2.2 1, y.2.2 2, y.2.2 3, y.2.2 4, y.2.2 5, y.2.2 6, y.2.2 7, Pt y.2.1 0, y.2.2 8, y.2.2 9, y.2.2 10] 269) (am y.2.1 [y.2.2 11, y.2.2 12, y.2.2 13, y.2.2 14, y.2.2 15, y.2.2 16, y.2.2 17, I 0] 326)))) rfl fun y1 =>Kp.eq (ak _ _ _)<|Kp.lift fun h12 => ?_
  exact Kp.sub (Cy p lr ob oo oc k y0.1 y1.1 q g y0.2.1 y1.2.1 c0 c1 c2 c3 c4 c5 ch cl cn ci cg cm cz l0 l1 l2 l3 l4 l5 l6 l7 ls (y0.2.2 0) (y0.2.2 1) (y0.2.2 2) (y0.2.2 3) (y0.2.2 4) (y0.2.2 5) (y0.2.2 6) (y0.2.2 7) (y0.2.2 8) (y0.2.2 9) (y0.2.2 10) (y1.2.2 0) (y1.2.2 1) (y1.2.2 2) (y1.2.2 3) (y1.2.2 4) (y1.2.2 5) (y1.2.2 6) (y1.2.2 7) (y1.2.2 8) (y1.2.2 9) (y1.2.2 10) (y0.2.2 11) (y0.2.2 12) (y0.2.2 13) (y0.2.2 14) (y0.2.2 15) (y0.2.2 16) (y0.2.2 17) (y1.2.2 11) (y1.2.2 12) (y1.2.2 13) (y1.2.2 14) (y1.2.2 15) (y1.2.2 16) (y1.2.2 17) R t bg P since lat seen cnt T a w hb hd fl h10 h11 h12 hf)
end Sp
end
namespace Sp
attribute [local irreducible] JU
abbrev tQ (a b c : Int) (d e : ByteArray) : List Value := [I a, I b, I c, .string d, .string e]
theorem lT (c d : Nat) (c0 c1 c2 c3 c4 c5 ch cr cs cn ci cg cm cz : Value) (ql : List Mq.Sn) (cur free a : Int) (h : 0 <= a /\ a <= 1125899906842624 /\ cur <= a) (hl : ql.length <= 1000) (hq : ∀ s, s ∈ ql -> a < s.e) : Sp prog 207 #[Pt c 0, I a] ((aa (am c [c0, c1, c2, c3, c4, c5, ch, cr, cs, Pt d 0, cn, ci, cg, cm, cz] 263) (Mq.LineP d ql cur free))) (.tuple #[]) ((aa (am c [c0, c1, c2, c3, c4, c5, ch, cr, cs, Pt d 0, cn, ci, cg, cm, cz] 263) (Mq.LineP d ql a free))) := by
 refine en func207 r fun _ F=>sb r<|lf 9 r r<|ea r<|cy (yJ d ql cur free a (by omega) hl hq) r fun y1=>ed r<|an r<|sa r<|ll r<|an r<|jl<|uf r<|z0 r Ent.take
theorem FX (c d e : Nat) (c0 c1 c2 c3 c4 c5 ch cr cs cn ci cm : Value) (x0 x1 xt : ByteArray) (vl bz ez k xb xe cur free a : Int) (h : 0 <= a /\ a <= 1125899906842624 /\ cur <= a) (he : xe <= a) : FSpec prog 207 #[Pt c 0, I a] ((aa (am c [c0, c1, c2, c3, c4, c5, ch, cr, cs, Pt d 0, cn, ci, Mp e, cm, Ns] 263) (aa (Mq.LineP d [⟨k, xt, xb, xe⟩] cur free) (az e .i64 (fun m' => if m' = k then some (.agg (tQ vl bz ez x0 x1).toArray) else none))))) (fun _ : Nat × Nat × Nat × Nat × Nat × Nat => True) (fun y => .tuple #[]) (fun y => (aa (am c [c0, c1, c2, c3, c4, c5, ch, cr, cs, Pt d 0, cn, ci, Mp e, cm, Sk y.1 y.2.1 1 y.2.2.1] 263) (aa (am d [Sk y.2.2.2.1 (if y.2.2.2.2.1 = 1 then y.2.2.2.2.2 else y.2.2.2.2.2 + 1 * 4) 0 (y.2.2.2.2.1 - 1), I a, I free] 323) (aa (az e .i64 (fun m' => if m' = k then none else (fun m' => if m' = k then some (.agg (tQ vl bz ez x0 x1).toArray) else none) m')) (aa (Ow 250 4 (Sk y.2.2.2.1 y.2.2.2.2.2 1 y.2.2.2.2.1) 1 [I k, .string xt, I xb, I xe]) (Ow 299 5 (Sk y.1 y.2.1 1 y.2.2.1) 1 (tQ vl xb xe x0 x1))))))) := by
 refine en func207 r fun _ F=>sb r<|lf 9 r r<|ea r<|cy (DR d k xt xb xe cur free a (by omega) he) r fun y1=>ed r<|an r<|sa r<|ll r<|an r<|jl<|ut r<|js<|jb<|sr<|ix y1.2.1 r r ?_
 refine lv (bP 0 r r) r<|al r fun b2=>so r r<|nj<|av ((aa (am c [c0, c1, c2, c3, c4, c5, ch, cr, cs, Pt d 0, cn, ci, Mp e, cm, Ns] 263) (aa (am b2 [I k, .string xt, I xb, I xe] 250) (az e .i64 (fun m' => if m' = k then some (.agg (tQ vl bz ez x0 x1).toArray) else none))))) (emp) [] ae<|pe 0 r r<|pe 1 r r<|pf 2 12 r r<|pf 4 0 r r<|pl 3 r r r<|pl 5 r r r<|ps 6 r (aN (v := .agg (tQ vl bz ez x0 x1).toArray) r r (some (.agg (tQ vl bz ez x0 x1).toArray)) (if_pos r) r)<|pn 7 r (bq r) fun b4 _=>?_
 refine pn 8 r (aI r r r (List.all_eq_true.1 r)) fun _ _=>dn<|kt<|js<|av ((aa (am c [c0, c1, c2, c3, c4, c5, ch, cr, cs, Pt d 0, cn, ci, Mp e, cm, Ns] 263) (am b2 [I k, .string xt, I xb, I xe] 250))) (emp) [] ae<|pe 0 r r<|pe 1 r r<|pf 2 12 r r<|pf 4 0 r r<|pl 3 r r r<|pl 5 r r r<|pn 6 r (wY r r (congrArg Option.isSome (if_pos r))) fun _ _=>dn<|kt<|js<|av (am b2 [I k, .string xt, I xb, I xe] 250) (emp) [] ae ?_
 refine pf 0 2 r r<|pf 2 3 r r<|pl 1 r r r<|pf 4 1 r r<|pl 3 r r r ?_
 refine pn 5 r (aI r r r (List.all_eq_true.1 r)) fun _ _=>pf 6 2 r r ?_
 refine pn 7 r (aI r r r (List.all_eq_true.1 r)) fun _ _=>dn<|kt<|av (am b4 (tQ vl xb xe x0 x1) 299) (am c [c0, c1, c2, c3, c4, c5, ch, cr, cs, Pt d 0, cn, ci, Mp e, cm, Ns] 263) [10] ae<|pe 0 r r<|pe 1 r r<|pe 2 r r<|pf 3 14 r r<|ps 5 r (ax r)<|dv 4 r (by kernel_rfl) (ar r (aC r)) r<|pn 6 r (aq (m := 5) r r (by decide) (by decide) r) fun b7 _=>pn 7 r (gB (m := 5) (B := 56) 1 r r (Src.lit) r r r (List.all_eq_true.1 r) r r r r) fun z8 _=>pe 8 r r<|pf 9 14 r r ?_
 refine jv 10 r r (by kernel_rfl) (aI r r r (List.all_eq_true.1 r)) fun _ _=>dn<|ni (I 1) r<|uf r ?_
 exact ug r (.nil) (z8.1, z8.2.1, z8.2.2, y1.1, y1.2.2, y1.2.1) trivial r Ent.take
theorem FN (a : Nat) (bg P lat seen cnt T : Int) (hb : (bg = 0 /\ P = 12500) \/ (bg = 1 /\ P = 25000)) (h : 0 <= T /\ T <= 10000000 /\ 0 <= seen /\ seen <= T /\ 0 <= cnt /\ cnt <= 1000000 /\ 0 <= lat /\ lat + P <= 100000000 + T) : Sp prog 209 #[Pt a 0, I T] (am a [.int .u64 bg, Ff, I 0, I seen, I cnt] 330) (I 0) (am a [.int .u64 bg, Tt, I T, I T, I (cnt + 1)] 330) := by
 refine en func209 r fun _ F=>aE r<|js<|jb<|sa r<|ep false r<|an r<|cf r<|sa r<|aW func236 r<|aE r<|sa r<|eR r<|ea r<|go r<|ea r<|go r<|eR r<|eb r<|nk<|jr<|cX r<|bf r<|sr<|ec r<|lf 3 r r<|bJ r<|an r<|cf r<|sb r<|aW func233 r<|aE r<|js<|jb<|sa r<|ep false r<|an r<|cf r<|sb r<|fa 1 r<|ls r<|lv (af r) r<|lv ((gI r r (by simp [Shape, CK.sh]) (by simp [Shape, CK.sh])).as (v' := Tt) (congrArg Value.bool (by simp))) r<|an r<|ct r<|sb r<|nk<|jr<|kq<|kd<|cX r<|ea r<|bJ r<|an r<|cf r<|cY<|sr<|ec r<|lv (af r) r<|eb r<|fa 1 r<|so r r<|ea r<|fa 3 r ?_
 refine so r r<|nr<|eb r<|lf 4 r r<|gE r<|ea r<|fa 4 r<|so r r<|nr<|an r<|jr<|r1 r Ent.take
theorem FM (a : Nat) (bg P lat seen cnt T : Int) (hb : (bg = 0 /\ P = 12500) \/ (bg = 1 /\ P = 25000)) (h : 0 <= T /\ T <= 10000000 /\ 0 <= seen /\ seen <= T /\ 0 <= cnt /\ cnt <= 1000000 /\ 0 <= lat /\ lat + P <= T) : Sp prog 209 #[Pt a 0, I T] (am a [.int .u64 bg, Tt, I lat, I seen, I cnt] 330) (I 0) (am a [.int .u64 bg, Tt, I T, I T, I (cnt + 1)] 330) := by
 refine en func209 r fun _ F=>aE r<|js<|jb<|sa r<|ep false r<|an r<|cf r<|sa r<|aW func236 r<|aE r<|sa r<|eR r<|ea r<|go r<|ea r<|go r<|eR r<|eb r<|nk<|jr<|cX r<|bf r<|sr<|ec r<|lf 3 r r<|bJ r<|an r<|cf r<|sb r<|aW func233 r<|aE r<|js<|jb<|sa r<|ep false r<|an r<|cf r<|sb r<|fa 1 r<|ls r<|lv (af r) r<|lv ((gI r r (by simp [Shape, CK.sh]) (by simp [Shape, CK.sh])).as (v' := Ff) (congrArg Value.bool (by simp))) r<|an r<|cf r<|cY ?_
 refine js<|dM ae<|qb r<|qa r<|qf 1 r<|qf 2 r<|ql r r<|qa r<|dy (Hj a (Tt) (I lat) (I seen) (I cnt) bg P (by omega)) r r (fun _ _ => r) (fun _ _ => ah _) r<|ww r<|qv ((iw r r).as (v' := I T) (congrArg (Value.int .i64) (if_neg (by omega)))) r<|qa r<|qn<|kt<|jr<|cX r<|ea r<|bJ r<|an r<|cf r<|cY<|sr<|ec r<|lv (af r) r<|eb r<|fa 1 r<|so r r<|ea r<|fa 3 r ?_
 refine so r r<|nr<|eb r<|lf 4 r r<|gE r<|ea r<|fa 4 r<|so r r<|nr<|an r<|jr<|r1 r Ent.take
end Sp
section
namespace Sp
open Mq
theorem qj (g : Nat) (bg P lat since seen cnt T : Int) (w : Bool) (hb : (bg = 0 /\ P = 12500) \/ (bg = 1 /\ P = 25000)) (hd : k7 P w lat since T) (h : 0 <= T /\ T <= 10000000 /\ 0 <= seen /\ seen <= T /\ 0 <= cnt /\ cnt <= 1000000) : Go.SLA.Sp prog 209 #[Pt g 0, I T] (am g [.int .u64 bg, .bool w, I lat, I seen, I cnt] 330) (I 0) (am g [.int .u64 bg, Tt, I T, I T, I (cnt + 1)] 330) := by
 rcases hd with ⟨rfl, rfl, rfl⟩ | ⟨rfl, rfl, h'⟩
 ·exact FN g bg P 0 seen cnt T hb ⟨h.1, h.2.1, h.2.2.1, h.2.2.2.1, h.2.2.2.2.1, h.2.2.2.2.2, by omega, by omega⟩
 ·exact FM g bg P lat seen cnt (lat + P) hb ⟨h.1, h.2.1, h.2.2.1, h.2.2.2.1, h.2.2.2.2.1, h.2.2.2.2.2, by omega, by omega⟩
theorem xO (p line gm : Nat) (c0 c1 c2 c3 c4 c5 ch cr cs cn ci cm : Value) (x0 x1 xt : ByteArray) (vl k xb xe cur free a : Int) (h : 0 <= a /\ a <= 1125899906842624 /\ cur <= a) (he : xe <= a) : FSpec prog 207 #[Pt p 0, I a]
  ((aa (am p [c0, c1, c2, c3, c4, c5, ch, cr, cs, Pt line 0, cn, ci, Mp gm, cm, Ns] 263) (aa (LineP line [⟨k, xt, xb, xe⟩] cur free) (az gm .i64 (fun m' => if m' = k then some (.agg [I vl, I 0, I 0, .string x0, .string x1].toArray) else none))))) (fun _ : Nat × Nat × Nat => True) (fun y => .tuple #[])
  (fun y => (aa (am p [c0, c1, c2, c3, c4, c5, ch, cr, cs, Pt line 0, cn, ci, Mp gm, cm, Sk y.1 y.2.1 1 y.2.2] 263) (aa (LineP line [] a free) (aa (az gm .i64 (fun _ => none)) (Ow 299 5 (Sk y.1 y.2.1 1 y.2.2) 1 [I vl, I xb, I xe, .string x0, .string x1]))))) := by
 refine (FX p line gm c0 c1 c2 c3 c4 c5 ch cr cs cn ci cm x0 x1 xt vl 0 0 k xb xe cur free a h he).conseq (ah _) fun y _ => ⟨(y.1, y.2.1, y.2.2.1), trivial, rfl, ?_⟩
 have e : (fun m' : Int => if m' = k then none else (fun m' : Int => if m' = k then some (Value.agg [I vl, I 0, I 0, .string x0, .string x1].toArray) else none) m') = fun _ => none := by
  funext m'
  by_cases hm : m' = k <;> simp [hm]
 rw [e]
 refine Ent.trans (Ent.of (Q := (aa (am line [Sk y.2.2.2.1 (if y.2.2.2.2.1 = 1 then y.2.2.2.2.2 else y.2.2.2.2.2 + 1 * 4) 0 (y.2.2.2.2.1 - 1), I a, I free] 323) (aa (Ow 250 4 (Sk y.2.2.2.1 y.2.2.2.2.2 1 y.2.2.2.2.1) 1 [I k, .string xt, I xb, I xe]) ((aa (am p [c0, c1, c2, c3, c4, c5, ch, cr, cs, Pt line 0, cn, ci, Mp gm, cm, Sk y.1 y.2.1 1 y.2.2.1] 263) (aa (az gm .i64 (fun _ => none)) (Ow 299 5 (Sk y.1 y.2.1 1 y.2.2.1) 1 [I vl, I xb, I xe, .string x0, .string x1]))))))) ?_) (Ent.trans (DS rfl) (Ent.of ?_))
 ·ac_rfl
 ·ac_rfl
theorem jh (n p lr ob oo oc k q g : Nat) (hn : n = 1 \/ n = 2 \/ n = 3) (c0 c1 c2 c3 c4 c5 ch cl cn ci cg cm cz l0 l1 l2 l3 l4 l5 l6 l7 ls : Value) (R : List ByteArray) (t bg P since lat seen cnt T a : Int) (w : Bool) (hb : (bg = 0 /\ P = 12500) \/ (bg = 1 /\ P = 25000)) (hd : k7 P w lat since T) (hf : R.length = 0 \/ a < T) : Kp prog 205 #[Pt p 0, I a] ((aa (am p [c0, c1, c2, c3, c4, c5, ch, Mp lr, Sk ob oo n oc, cl, cn, ci, cg, cm, cz] 263) (aa (LkP n lr ob oo oc k) (aa (am k [l0, l1, l2, l3, l4, l5, l6, l7, Pt q 0, Pt g 0, ls, I since] 269) (qq8 q R t g bg w lat seen cnt))))) Np := by
 rcases Nat.eq_zero_or_pos R.length with h | h
 ·exact zZ n p lr ob oo oc k q g hn c0 c1 c2 c3 c4 c5 ch cl cn ci cg cm cz l0 l1 l2 l3 l4 l5 l6 l7 ls R t bg P since lat seen cnt T a w hb hd h
 ·exact zY n p lr ob oo oc k q g hn c0 c1 c2 c3 c4 c5 ch cl cn ci cg cm cz l0 l1 l2 l3 l4 l5 l6 l7 ls R t bg P since lat seen cnt T a w hb hd ⟨h, hf.resolve_left (by omega)⟩
end Sp
end
namespace Sp
attribute [local irreducible] JU
abbrev Trl0 : List Value := [U8 10, U8 0, U8 0, U8 0, U8 224, U8 224, U8 0, U8 10, I 5, I 5]
abbrev Trl1 : List Value := [U8 10, U8 0, U8 0, U8 0]
abbrev Trl2 : List Value := [U8 224, U8 224, U8 0, U8 10]
abbrev m9 (a : Nat) (b c d e f : Value) (g : Nat) (h : Int) (j k l m n o p : Value) (q : ByteArray) (r s t : Value) : ab := am a [b, c, d, e, f, Pt g 0, I h, j, k, l, m, n, o, p, U8 10, U8 0, U8 0, U8 0, U8 224, U8 224, U8 0, U8 10, .string q, Tt, r, s, t] 373
abbrev qC (a : Nat) (b c d e f g h j k l : Value) : ab := am a [I 10, b, c, d, e, f, g, h, j, k, l] 283
abbrev AD (a b c : Nat) : ab := Ow 153 11 (Sk a b 4 c) 4 (I 10 :: I 0 :: I 0 :: I 2 :: Tt :: I 10 :: I 0 :: I 5 :: I 100 :: I 1 :: I 0 :: I 20 :: I 1 :: I 1 :: I 2 :: Ff :: I 10 :: I 0 :: I 5 :: I 100 :: I 64 :: I 0 :: I 30 :: I 0 :: I 0 :: I 1 :: Tt :: I 10 :: I 1 :: I 6 :: I 20 :: I 0 :: I 0 :: I 31 :: I 1 :: I 1 :: I 1 :: Ff :: I 10 :: I 0 :: I 6 :: I 20 :: I 0 :: I 1000000 :: [])
abbrev AC (a b c : Nat) : ab := Ow 153 11 (Sk a b 6 c) 6 (I 10 :: I 0 :: I 0 :: I 2 :: Tt :: I 10 :: I 0 :: I 5 :: I 100 :: I 1 :: I 0 :: I 11 :: I 0 :: I 0 :: I 2 :: Tt :: I 11 :: I 0 :: I 5 :: I 100 :: I 1 :: I 0 :: I 20 :: I 1 :: I 1 :: I 2 :: Ff :: I 10 :: I 0 :: I 5 :: I 100 :: I 64 :: I 0 :: I 21 :: I 1 :: I 1 :: I 2 :: Ff :: I 11 :: I 0 :: I 5 :: I 100 :: I 64 :: I 0 :: I 30 :: I 0 :: I 0 :: I 1 :: Tt :: I 10 :: I 1 :: I 6 :: I 20 :: I 0 :: I 0 :: I 31 :: I 1 :: I 1 :: I 1 :: Ff :: I 10 :: I 0 :: I 6 :: I 20 :: I 0 :: I 1000000 :: [])
abbrev AB (a b c : Nat) : ab := Ow 153 11 (Sk a b 8 c) 8 (I 10 :: I 0 :: I 0 :: I 2 :: Tt :: I 10 :: I 0 :: I 5 :: I 100 :: I 1 :: I 0 :: I 11 :: I 0 :: I 0 :: I 2 :: Tt :: I 11 :: I 0 :: I 5 :: I 100 :: I 1 :: I 0 :: I 12 :: I 0 :: I 0 :: I 2 :: Tt :: I 12 :: I 0 :: I 5 :: I 100 :: I 1 :: I 0 :: I 20 :: I 1 :: I 1 :: I 2 :: Ff :: I 10 :: I 0 :: I 5 :: I 100 :: I 64 :: I 0 :: I 21 :: I 1 :: I 1 :: I 2 :: Ff :: I 11 :: I 0 :: I 5 :: I 100 :: I 64 :: I 0 :: I 22 :: I 1 :: I 1 :: I 2 :: Ff :: I 12 :: I 0 :: I 5 :: I 100 :: I 64 :: I 0 :: I 30 :: I 0 :: I 0 :: I 1 :: Tt :: I 10 :: I 1 :: I 6 :: I 20 :: I 0 :: I 0 :: I 31 :: I 1 :: I 1 :: I 1 :: Ff :: I 10 :: I 0 :: I 6 :: I 20 :: I 0 :: I 1000000 :: [])
abbrev Dj (a : Nat) (b c d e f : Value) (g : Nat) (h : Int) (j k l m n o p : Value) (q r : ByteArray) : ab := am a [b, c, d, e, f, Pt g 0, I h, j, k, l, m, n, o, p, U8 10, U8 0, U8 0, U8 0, U8 224, U8 224, U8 0, U8 10, .string q, Tt, I 20, I h, .string r] 373
abbrev Di (a : Nat) : ab := am a Trl0 32
theorem Fg (a c d e g h : Nat) (c0 c1 c2 c3 c4 xl xt xn xc f0 f1 f2 f3 f4 l1 l2 l3 l4 l5 l6 l7 la lb lc g7 g8 p0 p1 p2 p3 p4 m0 m1 m2 : Value) (now : Int) (dat m : ByteArray) (hm : m.size <= 100) (hU : Go.SLA.Sp prog 16 #[.agg Trl1.toArray, .agg Trl2.toArray, .string dat] emp (.tuple #[.agg Trl0.toArray, .string m, I 0]) emp) : Sp prog 219 #[Pt a 0, Pt c 0] ((aa (m9 c f0 f1 f2 f3 f4 d now g7 g8 p0 p1 p2 p3 p4 dat m0 m1 m2) (aa (am a [c0, c1, c2, c3, c4, Sk e g 4 h, I 1, xl, xt, xn, xc] 277) (aa (AD e g h) (qC d l1 l2 l3 l4 l5 l6 l7 la lb lc))))) (I 0) ((aa (Dj c f0 f1 f2 f3 f4 d now g7 g8 p0 p1 p2 p3 p4 dat m) (aa (am a [c0, c1, c2, c3, c4, Sk e g 4 h, I 1, xl, xt, xn, xc] 277) (aa (AD e g h) (qC d l1 l2 l3 l4 l5 l6 l7 la lb lc))))) := by
 refine en func219 r fun _ F=>sr<|bx r fun b1=>bx r fun b2=>an r<|js<|sr<|ld r r<|ea r<|lf 23 r r<|an r<|cf r<|sk ?_
 refine gO (X := Nat) (fun x7 => [(0, Pt a 0), (1, Pt c 0), (2, Pt b1 0), (3, Pt b2 0), (4, I 0), (13, Ff), (5, Pt x7 0), (6, .string m), (7, I 0)]) (fun x7 => (aa (m9 c f0 f1 f2 f3 f4 d now g7 g8 p0 p1 p2 p3 p4 dat m0 m1 m2) (aa (am b1 [Pt a 0] 215) (aa (am b2 [Pt c 0] 371) (aa (Di x7) (aa (am a [c0, c1, c2, c3, c4, Sk e g 4 h, I 1, xl, xt, xn, xc] 277) (aa (AD e g h) (aa (qC d l1 l2 l3 l4 l5 l6 l7 la lb lc) (F))))))))) (fun _ => True) ?_ (fun x7 _ => ?_)
 ·refine av ((aa (am b2 [Pt c 0] 371) (m9 c f0 f1 f2 f3 f4 d now g7 g8 p0 p1 p2 p3 p4 dat m0 m1 m2))) (emp) [] ae<|pl 0 r r r<|pe 1 r r<|pf 2 9 r r<|pf 3 14 r r<|ps 4 r (ax r)<|pl 5 r r r<|pe 6 r r<|pf 7 9 r r<|pf 8 18 r r<|ps 9 r (ax r)<|pl 10 r r r<|pe 11 r r<|pf 12 9 r r<|pf 13 22 r r<|pl 14 r r r ?_
  refine k8 [15, 20] (by kernel_rfl) rfl fun i hi => ?_
  simp only [List.mem_cons, List.not_mem_nil, or_false] at hi
  rcases hi with rfl | rfl
  ·refine bT r r (ai (hU) r r r) fun _ _=>pe 16 r r<|pe 17 r r<|pe 18 r r<|pe 19 r r<|pn 20 r (bq r) fun b5 _=>?_
   refine pn 21 r (aI r r r (List.all_eq_true.1 r)) fun _ _=>pe 22 r r<|pe 23 r r<|dn<|kc b5 r Ent.take
  ·refine bT r r (bq r) fun b6 _=>pn 15 r (ai (hU) r r r) fun _ _=>pe 16 r r<|pe 17 r r<|pe 18 r r<|pe 19 r r ?_
   refine pn 21 r (aI r r r (List.all_eq_true.1 r)) fun _ _=>pe 22 r r<|pe 23 r r<|dn<|kc b6 r Ent.take
 ·refine js<|sb r<|nf r<|sk<|sr<|ld r r<|ea r<|fa 0 r<|lf 5 r r<|lv (aB r r) r<|aW func242 r ?_
  refine aE r<|js<|sa r<|ll r<|an r<|jl<|ut r<|js<|jb<|sb r<|nr<|ec r<|ix g r r<|lv (bP 0 r r) r<|gX func243 r<|sr<|bx r fun b22=>an r<|js<|dM ae<|qf 4 r<|ql r r<|qb r<|qs r<|qs r<|qs r<|qs r<|qs r<|qs r<|qs r<|qb r<|qs r<|qs r<|qs r<|qs r<|qs r<|qs r<|qs r<|qs r<|qs r<|qs r<|qs r<|qb r<|qs r<|qs r<|qs r<|qs r<|qs r<|qb r<|qn<|kt<|jr<|cX r<|nf r<|jk<|ni (I 1) r<|ut r<|js<|jb<|sb r<|nr<|ec r<|ix (g + 11) r r<|lv (bP 11 r r) r<|gX func243 r ?_
  refine sr<|bx r fun b21=>an r<|js<|dM ae<|qf 4 r<|ql r r<|qb r<|qo r<|qf 1 r<|qo r<|ql r r<|qo r<|ql r r<|qo r<|qa r<|qo r<|qf 6 r<|qo r<|ql r r<|qo r<|qb r<|qa r<|qo r<|qf 5 r<|qo r<|ql r r<|qo r<|ql r r<|qo r<|qa r<|qo r<|qf 5 r<|qo r<|ql r r<|qo r<|qa r<|qo r<|qf 0 r<|qo r<|qf 0 r<|qo r<|ql r r<|qo r<|qb r<|qa r<|qo r ?_
  refine qf 7 r<|qo r<|ql r r<|qo r<|qf 9 r<|qo r<|ql r r<|qo r<|qb r<|qa r<|qn<|kt<|jr<|cX r<|nt r<|sb r<|nk<|jr<|kq<|kd<|kd<|kq<|kd<|cX r<|an r<|js<|jb<|sr<|ec r<|nf r<|sa r<|lv (aX r) r<|ld r r<|ea r<|fa 0 r<|lf 5 r r<|ea r<|ix (g + 11) r r<|fa (g + 19) r<|lv (aF 19 r r r) r<|bJ r<|an r<|cf r<|cY<|js<|av ((aa (am b2 [Pt c 0] 371) (aa (am b1 [Pt a 0] 215) (aa (am a [c0, c1, c2, c3, c4, Sk e g 4 h, I 1, xl, xt, xn, xc] 277) (AD e g h))))) (m9 c f0 f1 f2 f3 f4 d now g7 g8 p0 p1 p2 p3 p4 dat m0 m1 m2) [18] ae<|pe 6 r r<|pe 14 r r<|pl 0 r r r<|pl 1 r r r<|pe 2 r r<|pf 3 0 r r<|pf 4 5 r r<|pl 5 r r r<|ps 7 r (dx (g + 11) r r r r)<|pf 8 (g + 11) r r<|ps 9 r (aF 11 r r r)<|pl 10 r r r<|pe 11 r r<|pf 12 6 r r<|dv 13 r (by kernel_rfl) (ar r (aC r)) r<|ps 15 r (af r)<|pe 16 r r<|pf 17 24 r r ?_
  refine jv 18 r r (by kernel_rfl) (aI r r r (List.all_eq_true.1 r)) fun _ _=>dn<|kt<|aE r<|jr<|r1 r Ent.take
theorem Fe (a c d e g h : Nat) (c0 c1 c2 c3 c4 xl xt xn xc f0 f1 f2 f3 f4 l1 l2 l3 l4 l5 l6 l7 la lb lc g7 g8 p0 p1 p2 p3 p4 m0 m1 m2 : Value) (now : Int) (dat m : ByteArray) (hm : m.size <= 100) (hU : Go.SLA.Sp prog 16 #[.agg Trl1.toArray, .agg Trl2.toArray, .string dat] emp (.tuple #[.agg Trl0.toArray, .string m, I 0]) emp) : Sp prog 219 #[Pt a 0, Pt c 0] ((aa (m9 c f0 f1 f2 f3 f4 d now g7 g8 p0 p1 p2 p3 p4 dat m0 m1 m2) (aa (am a [c0, c1, c2, c3, c4, Sk e g 6 h, I 1, xl, xt, xn, xc] 277) (aa (AC e g h) (qC d l1 l2 l3 l4 l5 l6 l7 la lb lc))))) (I 0) ((aa (Dj c f0 f1 f2 f3 f4 d now g7 g8 p0 p1 p2 p3 p4 dat m) (aa (am a [c0, c1, c2, c3, c4, Sk e g 6 h, I 1, xl, xt, xn, xc] 277) (aa (AC e g h) (qC d l1 l2 l3 l4 l5 l6 l7 la lb lc))))) := by
 refine en func219 r fun _ F=>sr<|bx r fun b1=>bx r fun b2=>an r<|js<|sr<|ld r r<|ea r<|lf 23 r r<|an r<|cf r<|sk ?_
 refine gO (X := Nat) (fun x7 => [(0, Pt a 0), (1, Pt c 0), (2, Pt b1 0), (3, Pt b2 0), (4, I 0), (13, Ff), (5, Pt x7 0), (6, .string m), (7, I 0)]) (fun x7 => (aa (m9 c f0 f1 f2 f3 f4 d now g7 g8 p0 p1 p2 p3 p4 dat m0 m1 m2) (aa (am b1 [Pt a 0] 215) (aa (am b2 [Pt c 0] 371) (aa (Di x7) (aa (am a [c0, c1, c2, c3, c4, Sk e g 6 h, I 1, xl, xt, xn, xc] 277) (aa (AC e g h) (aa (qC d l1 l2 l3 l4 l5 l6 l7 la lb lc) (F))))))))) (fun _ => True) ?_ (fun x7 _ => ?_)
 ·refine av ((aa (am b2 [Pt c 0] 371) (m9 c f0 f1 f2 f3 f4 d now g7 g8 p0 p1 p2 p3 p4 dat m0 m1 m2))) (emp) [] ae<|pl 0 r r r<|pe 1 r r<|pf 2 9 r r<|pf 3 14 r r<|ps 4 r (ax r)<|pl 5 r r r<|pe 6 r r<|pf 7 9 r r<|pf 8 18 r r<|ps 9 r (ax r)<|pl 10 r r r<|pe 11 r r<|pf 12 9 r r<|pf 13 22 r r<|pl 14 r r r ?_
  refine k8 [15, 20] (by kernel_rfl) rfl fun i hi => ?_
  simp only [List.mem_cons, List.not_mem_nil, or_false] at hi
  rcases hi with rfl | rfl
  ·refine bT r r (ai (hU) r r r) fun _ _=>pe 16 r r<|pe 17 r r<|pe 18 r r<|pe 19 r r<|pn 20 r (bq r) fun b5 _=>?_
   refine pn 21 r (aI r r r (List.all_eq_true.1 r)) fun _ _=>pe 22 r r<|pe 23 r r<|dn<|kc b5 r Ent.take
  ·refine bT r r (bq r) fun b6 _=>pn 15 r (ai (hU) r r r) fun _ _=>pe 16 r r<|pe 17 r r<|pe 18 r r<|pe 19 r r ?_
   refine pn 21 r (aI r r r (List.all_eq_true.1 r)) fun _ _=>pe 22 r r<|pe 23 r r<|dn<|kc b6 r Ent.take
 ·refine js<|sb r<|nf r<|sk<|sr<|ld r r<|ea r<|fa 0 r<|lf 5 r r<|lv (aB r r) r<|aW func242 r ?_
  refine aE r<|js<|sa r<|ll r<|an r<|jl<|ut r<|js<|jb<|sb r<|nr<|ec r<|ix g r r<|lv (bP 0 r r) r<|gX func243 r<|sr<|bx r fun b25=>an r<|js<|dM ae<|qf 4 r<|ql r r<|qb r<|qs r<|qs r<|qs r<|qs r<|qs r<|qs r<|qs r<|qb r<|qs r<|qs r<|qs r<|qs r<|qs r<|qs r<|qs r<|qs r<|qs r<|qs r<|qs r<|qb r<|qs r<|qs r<|qs r<|qs r<|qs r<|qb r<|qn<|kt<|jr<|cX r<|nf r<|jk<|ni (I 1) r<|ut r<|js<|jb<|sb r<|nr<|ec r<|ix (g + 11) r r<|lv (bP 11 r r) r<|gX func243 r ?_
  refine sr<|bx r fun b23=>an r<|js<|dM ae<|qf 4 r<|ql r r<|qb r<|qs r<|qs r<|qs r<|qs r<|qs r<|qs r<|qs r<|qb r<|qs r<|qs r<|qs r<|qs r<|qs r<|qs r<|qs r<|qs r<|qs r<|qs r<|qs r<|qb r<|qs r<|qs r<|qs r<|qs r<|qs r<|qb r<|qn<|kt<|jr<|cX r<|nf r<|jk<|ni (I 2) r<|ut r<|js<|jb<|sb r<|nr<|ec r<|ix (g + 22) r r<|lv (bP 22 r r) r<|gX func243 r<|sr<|bx r fun b24=>an r<|js<|dM ae<|qf 4 r<|ql r r<|qb r<|qo r<|qf 1 r<|qo r<|ql r r<|qo r<|ql r r<|qo r ?_
  refine qa r<|qo r<|qf 6 r<|qo r<|ql r r<|qo r<|qb r<|qa r<|qo r<|qf 5 r<|qo r<|ql r r<|qo r<|ql r r<|qo r<|qa r<|qo r<|qf 5 r<|qo r<|ql r r<|qo r<|qa r<|qo r<|qf 0 r<|qo r<|qf 0 r<|qo r<|ql r r<|qo r<|qb r<|qa r<|qo r<|qf 7 r<|qo r<|ql r r<|qo r<|qf 9 r<|qo r<|ql r r<|qo r<|qb r<|qa r<|qn<|kt<|jr<|cX r<|nt r<|sb r<|nk<|jr<|kq<|kd<|kd<|kq<|kd<|cX r<|an r<|js<|jb<|sr<|ec r ?_
  refine nf r<|sa r<|lv (aX r) r<|ld r r<|ea r<|fa 0 r<|lf 5 r r<|ea r<|ix (g + 22) r r<|fa (g + 30) r<|lv (aF 30 r r r) r<|bJ r<|an r<|cf r<|cY<|js<|av ((aa (am b2 [Pt c 0] 371) (aa (am b1 [Pt a 0] 215) (aa (am a [c0, c1, c2, c3, c4, Sk e g 6 h, I 1, xl, xt, xn, xc] 277) (AC e g h))))) (m9 c f0 f1 f2 f3 f4 d now g7 g8 p0 p1 p2 p3 p4 dat m0 m1 m2) [18] ae<|pe 6 r r<|pe 14 r r<|pl 0 r r r<|pl 1 r r r<|pe 2 r r<|pf 3 0 r r<|pf 4 5 r r<|pl 5 r r r<|ps 7 r (dx (g + 22) r r r r)<|pf 8 (g + 22) r r<|ps 9 r (aF 22 r r r)<|pl 10 r r r<|pe 11 r r<|pf 12 6 r r<|dv 13 r (by kernel_rfl) (ar r (aC r)) r<|ps 15 r (af r)<|pe 16 r r<|pf 17 24 r r ?_
  refine jv 18 r r (by kernel_rfl) (aI r r r (List.all_eq_true.1 r)) fun _ _=>dn<|kt<|aE r<|jr<|r1 r Ent.take
theorem Fd (a c d e g h : Nat) (c0 c1 c2 c3 c4 xl xt xn xc f0 f1 f2 f3 f4 l1 l2 l3 l4 l5 l6 l7 la lb lc g7 g8 p0 p1 p2 p3 p4 m0 m1 m2 : Value) (now : Int) (dat m : ByteArray) (hm : m.size <= 100) (hU : Go.SLA.Sp prog 16 #[.agg Trl1.toArray, .agg Trl2.toArray, .string dat] emp (.tuple #[.agg Trl0.toArray, .string m, I 0]) emp) : Sp prog 219 #[Pt a 0, Pt c 0] ((aa (m9 c f0 f1 f2 f3 f4 d now g7 g8 p0 p1 p2 p3 p4 dat m0 m1 m2) (aa (am a [c0, c1, c2, c3, c4, Sk e g 8 h, I 1, xl, xt, xn, xc] 277) (aa (AB e g h) (qC d l1 l2 l3 l4 l5 l6 l7 la lb lc))))) (I 0) ((aa (Dj c f0 f1 f2 f3 f4 d now g7 g8 p0 p1 p2 p3 p4 dat m) (aa (am a [c0, c1, c2, c3, c4, Sk e g 8 h, I 1, xl, xt, xn, xc] 277) (aa (AB e g h) (qC d l1 l2 l3 l4 l5 l6 l7 la lb lc))))) := by
 refine en func219 r fun _ F=>sr<|bx r fun b1=>bx r fun b2=>an r<|js<|sr<|ld r r<|ea r<|lf 23 r r<|an r<|cf r<|sk ?_
 refine gO (X := Nat) (fun x7 => [(0, Pt a 0), (1, Pt c 0), (2, Pt b1 0), (3, Pt b2 0), (4, I 0), (13, Ff), (5, Pt x7 0), (6, .string m), (7, I 0)]) (fun x7 => (aa (m9 c f0 f1 f2 f3 f4 d now g7 g8 p0 p1 p2 p3 p4 dat m0 m1 m2) (aa (am b1 [Pt a 0] 215) (aa (am b2 [Pt c 0] 371) (aa (Di x7) (aa (am a [c0, c1, c2, c3, c4, Sk e g 8 h, I 1, xl, xt, xn, xc] 277) (aa (AB e g h) (aa (qC d l1 l2 l3 l4 l5 l6 l7 la lb lc) (F))))))))) (fun _ => True) ?_ (fun x7 _ => ?_)
 ·refine av ((aa (am b2 [Pt c 0] 371) (m9 c f0 f1 f2 f3 f4 d now g7 g8 p0 p1 p2 p3 p4 dat m0 m1 m2))) (emp) [] ae<|pl 0 r r r<|pe 1 r r<|pf 2 9 r r<|pf 3 14 r r<|ps 4 r (ax r)<|pl 5 r r r<|pe 6 r r<|pf 7 9 r r<|pf 8 18 r r<|ps 9 r (ax r)<|pl 10 r r r<|pe 11 r r<|pf 12 9 r r<|pf 13 22 r r<|pl 14 r r r ?_
  refine k8 [15, 20] (by kernel_rfl) rfl fun i hi => ?_
  simp only [List.mem_cons, List.not_mem_nil, or_false] at hi
  rcases hi with rfl | rfl
  ·refine bT r r (ai (hU) r r r) fun _ _=>pe 16 r r<|pe 17 r r<|pe 18 r r<|pe 19 r r<|pn 20 r (bq r) fun b5 _=>?_
   refine pn 21 r (aI r r r (List.all_eq_true.1 r)) fun _ _=>pe 22 r r<|pe 23 r r<|dn<|kc b5 r Ent.take
  ·refine bT r r (bq r) fun b6 _=>pn 15 r (ai (hU) r r r) fun _ _=>pe 16 r r<|pe 17 r r<|pe 18 r r<|pe 19 r r ?_
   refine pn 21 r (aI r r r (List.all_eq_true.1 r)) fun _ _=>pe 22 r r<|pe 23 r r<|dn<|kc b6 r Ent.take
 ·refine js<|sb r<|nf r<|sk<|sr<|ld r r<|ea r<|fa 0 r<|lf 5 r r<|lv (aB r r) r<|aW func242 r ?_
  refine aE r<|js<|sa r<|ll r<|an r<|jl<|ut r<|js<|jb<|sb r<|nr<|ec r<|ix g r r<|lv (bP 0 r r) r<|gX func243 r<|sr<|bx r fun b29=>an r<|js<|dM ae<|qf 4 r<|ql r r<|qb r<|qs r<|qs r<|qs r<|qs r<|qs r<|qs r<|qs r<|qb r<|qs r<|qs r<|qs r<|qs r<|qs r<|qs r<|qs r<|qs r<|qs r<|qs r<|qs r<|qb r<|qs r<|qs r<|qs r<|qs r<|qs r<|qb r<|qn<|kt<|jr<|cX r<|nf r<|jk<|ni (I 1) r<|ut r<|js<|jb<|sb r<|nr<|ec r<|ix (g + 11) r r<|lv (bP 11 r r) r<|gX func243 r ?_
  refine sr<|bx r fun b26=>an r<|js<|dM ae<|qf 4 r<|ql r r<|qb r<|qs r<|qs r<|qs r<|qs r<|qs r<|qs r<|qs r<|qb r<|qs r<|qs r<|qs r<|qs r<|qs r<|qs r<|qs r<|qs r<|qs r<|qs r<|qs r<|qb r<|qs r<|qs r<|qs r<|qs r<|qs r<|qb r<|qn<|kt<|jr<|cX r<|nf r<|jk<|ni (I 2) r<|ut r<|js<|jb<|sb r<|nr<|ec r<|ix (g + 22) r r<|lv (bP 22 r r) r<|gX func243 r<|sr<|bx r fun b27=>an r<|js<|dM ae<|qf 4 r<|ql r r<|qb r<|qs r<|qs r<|qs r<|qs r<|qs r<|qs r ?_
  refine qs r<|qb r<|qs r<|qs r<|qs r<|qs r<|qs r<|qs r<|qs r<|qs r<|qs r<|qs r<|qs r<|qb r<|qs r<|qs r<|qs r<|qs r<|qs r<|qb r<|qn<|kt<|jr<|cX r<|nf r<|jk<|ni (I 3) r<|ut r<|js<|jb<|sb r<|nr<|ec r<|ix (g + 33) r r<|lv (bP 33 r r) r<|gX func243 r<|sr<|bx r fun b28=>an r<|js<|dM ae<|qf 4 r<|ql r r<|qb r<|qo r<|qf 1 r<|qo r<|ql r r<|qo r<|ql r r<|qo r ?_
  refine qa r<|qo r<|qf 6 r<|qo r<|ql r r<|qo r<|qb r<|qa r<|qo r<|qf 5 r<|qo r<|ql r r<|qo r<|ql r r<|qo r<|qa r<|qo r<|qf 5 r<|qo r<|ql r r<|qo r<|qa r<|qo r<|qf 0 r<|qo r<|qf 0 r<|qo r<|ql r r<|qo r<|qb r<|qa r<|qo r<|qf 7 r<|qo r<|ql r r<|qo r<|qf 9 r<|qo r<|ql r r<|qo r<|qb r<|qa r<|qn<|kt<|jr<|cX r<|nt r<|sb r<|nk<|jr<|kq<|kd<|kd<|kq<|kd<|cX r<|an r<|js<|jb<|sr<|ec r ?_
  refine nf r<|sa r<|lv (aX r) r<|ld r r<|ea r<|fa 0 r<|lf 5 r r<|ea r<|ix (g + 33) r r<|fa (g + 41) r<|lv (aF 41 r r r) r<|bJ r<|an r<|cf r<|cY<|js<|av ((aa (am b2 [Pt c 0] 371) (aa (am b1 [Pt a 0] 215) (aa (am a [c0, c1, c2, c3, c4, Sk e g 8 h, I 1, xl, xt, xn, xc] 277) (AB e g h))))) (m9 c f0 f1 f2 f3 f4 d now g7 g8 p0 p1 p2 p3 p4 dat m0 m1 m2) [18] ae<|pe 6 r r<|pe 14 r r<|pl 0 r r r<|pl 1 r r r<|pe 2 r r<|pf 3 0 r r<|pf 4 5 r r<|pl 5 r r r<|ps 7 r (dx (g + 33) r r r r)<|pf 8 (g + 33) r r<|ps 9 r (aF 33 r r r)<|pl 10 r r r<|pe 11 r r<|pf 12 6 r r<|dv 13 r (by kernel_rfl) (ar r (aC r)) r<|ps 15 r (af r)<|pe 16 r r<|pf 17 24 r r ?_
  refine jv 18 r r (by kernel_rfl) (aI r r r (List.all_eq_true.1 r)) fun _ _=>dn<|kt<|aE r<|jr<|r1 r Ent.take
end Sp
namespace Sp
attribute [local irreducible] JU
theorem Cu (a : Nat) (q l0 w0 : Int) : Sp prog 239 #[Pt a 0, I 0] (am a [Ff, I 0, I 0, Ff, I l0, I w0] 332) (I 0) (am a [Tt, I 0, I 0, Ff, I l0, I w0] 332) := by
 refine en func239 r fun _ F=>aE r<|js<|jb<|sa r<|ep false r<|an r<|cf r<|sa r<|aW func253 r<|aE r<|sr<|ec r<|go r<|ea r<|go r<|ec r<|nk<|jr<|cX r<|bf r<|sb r<|lv (aB r r) r<|ea r<|lv (aB r r) r<|ea r<|lv (aB r r) r<|lx r (cL r r r (by decide) (by simp [Value.cells]) r) fun b1 _=>aW func254 r<|aE r<|js<|sa r<|ll r<|an r<|jl<|ut r<|js<|jb<|sr<|ix 0 r r<|ld r r<|an r<|sb r<|gX func255 r<|aE r<|sb r<|lf 0 r r<|eb r<|gs r<|gs r<|eb r<|nk<|jr<|cX r ?_
 refine nt r<|aE r<|jr<|kq<|kd<|kd<|kq<|kd<|cX r<|bf r<|cY<|js<|sb r<|lf 0 r r<|ea r<|gs r<|gs r<|gs r<|gs r<|gs r<|gs r<|gs r<|an r<|cf r<|sk<|sr<|ed r<|ea r<|fa 0 r<|so r r<|ea r<|fa 1 r<|so r r<|ea r<|fa 3 r<|so r r<|nr<|an r ?_
 refine jr<|r1 r Ent.take
theorem xu (q l0 w0 : Int) (h : 0 < q /\ q <= 100) : Kp prog 253 #[I q] (emp) (Tt) := by
 refine en func253 r fun _ F=>bG<|aE r<|sa r<|eR r<|ea r<|go r<|ea r<|go r<|eR r<|eb r<|nk<|jr<|r1 r Ent.take
theorem Ct (a : Nat) (q l0 w0 : Int) (h : 0 < q /\ q <= 100) : Sp prog 239 #[Pt a 0, I q] (am a [Tt, I (q - 1), I 0, Ff, I l0, I w0] 332) (I 0) (am a [Tt, I q, I 0, Ff, I l0, I w0] 332) := by
 refine en func239 r fun _ F=>aE r<|js<|jb<|sa r<|ep false r<|an r<|cf r<|sa r<|cu (xu q l0 w0 h) r<|bf r<|sb r<|lv (aB r r) r<|ea r<|lv (aB r r) r<|ea r<|lv (aB r r) r<|lx r (cL r r r (by decide) (by simp [Value.cells]) r) fun b1 _=>aW func254 r<|aE r<|js<|sa r<|ll r<|an r<|jl<|ut r<|js<|jb<|sr<|ix 0 r r<|ld r r<|an r<|sb r<|gX func255 r<|aE r<|sb r<|lf 0 r r<|eb r<|go r<|ea r<|go r<|bJ r<|eb r<|nk<|jr<|cX r<|nf r<|jk<|ni (I 1) r<|ut r<|js<|jb<|sr<|ix 1 r r<|ld r r<|an r<|sb r<|gX func256 r<|aE r<|sr<|ec r<|lf 1 r r<|aW func212 r ?_
 refine aE r<|js<|sa r<|bJ r<|ea r<|go r<|ea r<|go r<|bJ r<|an r<|cf r<|sk<|sa r<|lv ((aQ r r (by omega)).as (v' := I q) (congrArg (Value.int .i64) (by omega))) r<|an r<|jr<|cX r<|eR r<|ea r<|gs r<|gs r<|gs r<|gs r<|gs r<|gs r<|gs r<|eb r<|nk<|jr<|cX r<|nt r<|aE r<|jr<|kq<|kd<|kd<|kq<|kd<|cX r<|bf r<|cY<|js<|sb r<|lf 0 r r<|ea r<|go r<|ea r<|go r<|ea r<|go r<|fa 1 r<|go r<|ld r r<|go r<|ea r<|go r<|aW func258 r<|aE r<|js<|sa r<|aW func253 r ?_
 refine aE r<|sa r<|eR r<|ea r<|go r<|ea r<|go r<|eR r<|eb r<|nk<|jr<|cX r<|eb r<|go r<|ea r<|go r<|cu (xu q l0 w0 h) r<|go r<|ec r<|go r<|ea r<|go r<|bJ r<|an r<|cf r<|sk<|js<|sb r<|lv (bm r r (by omega)) r<|gE r<|lv ((fu r r (by omega)).as (v' := I 1) (congrArg (Value.int .i64) (by omega))) r<|an r<|sb r<|nt r<|sb r<|nk<|jr<|kd<|cX r<|go r<|bf r<|sk<|sr<|ed r<|ea r<|fa 0 r<|so r r<|ea r<|fa 1 r<|so r r ?_
 refine ea r<|fa 3 r<|so r r<|nr<|an r<|jr<|r1 r Ent.take
end Sp
namespace Sp
attribute [local irreducible] JU
theorem B9 (y q : Int) (h : y = 0 /\ y < q /\ q <= 100) : Kp prog 258 #[I q, I y] (emp) (I 0) := by
 refine en func258 r fun _ F=>bG<|aE r<|js<|sa r<|aW func253 r<|aE r<|sa r<|eR r<|ea r<|go r<|ea r<|go r<|eR r<|eb r<|nk<|jr<|cX r<|eb r<|go r<|ea r<|go r<|aW func253 r<|aE r<|sa r<|eR r<|ea r<|go r<|ea r<|go r<|eR r<|eb r<|nk<|jr<|cX r<|go r<|ec r<|go r<|ea r<|go r ?_
 refine eR r<|an r<|ct r<|aE r<|jr<|kd<|r1 r Ent.take
theorem B8 (y q : Int) (h : 0 < y /\ y < q /\ q <= 100) : Kp prog 258 #[I q, I y] (emp) (I ((y - q) + 255)) := by
 refine en func258 r fun _ F=>bG<|aE r<|js<|sa r<|aW func253 r<|aE r<|sa r<|eR r<|ea r<|go r<|ea r<|go r<|eR r<|eb r<|nk<|jr<|cX r<|eb r<|go r<|ea r<|go r<|aW func253 r<|aE r<|sa r<|eR r<|ea r<|go r<|ea r<|go r<|eR r<|eb r<|nk<|jr<|cX r<|go r<|ec r<|go r<|ea r<|go r<|bJ r<|an r<|cf r<|sk<|js<|sb r<|lv (bm r r (by omega)) r<|gE r<|lv ((fu r r (by omega)).as (v' := I ((y - q) + 255)) (congrArg (Value.int .i64) (by omega))) r<|an r<|sa r<|eR r<|nt r<|sb r<|nk<|jr ?_
 refine kd<|r1 r Ent.take
end Sp
namespace Sp
attribute [local irreducible] JU JI LI
structure Fr where
 seq : Int
 at_ : Int
 nets : Int
def dl (x : Fr) : List Value := [I x.seq, I x.at_, .int .u64 x.nets]
theorem gc (x : Fr) : (dl x).length = 3 := rfl
theorem Ah (s b cap : Nat) (pre post : List Value) (fs : List Fr) (g q : Int) (c1 c2 c3 c4 c5 : Value) (hq : ∀ x, x ∈ fs -> x.seq ≠ q) (hl : fs.length <= 1000) : Kp prog 261 #[Pt s 0, I g, I q] ((aa (am s [Sk b pre.length fs.length cap, c1, c2, c3, c4, c5] 335) (am b (pre ++ fs.flatMap dl ++ post) 425))) (I 0) := by
 refine gi func261 rfl ntmps261 rfl fun _ F=>sr <| bx rfl fun b4 => bx rfl fun b5 => al rfl fun b6 => nr <| al rfl fun b7 => so rfl rfl<|nk <| bb <| sr <| ea rfl <| aT (aB rfl rfl) rfl <| nk <| dB ?_
 refine gN (P1 := (aa (am s [Sk b pre.length fs.length cap, c1, c2, c3, c4, c5] 335) (aa (am b (pre ++ fs.flatMap dl ++ post) 425) (am b5 [I q] 3)))) (P2 := (aa (am s [Sk b pre.length fs.length cap, c1, c2, c3, c4, c5] 335) (aa (am b (pre ++ fs.flatMap dl ++ post) 425) (am b5 [I q] 3)))) rfl .ready none (by decide) (fun a fn l D ha => ?_) (fun a D w' ha hw => ?_)
 ·refine en func264 rfl fun _ F=> ?_
  refine sr <| eb rfl <| lf 0 rfl rfl <| ll rfl <| ea rfl <| nk<|dB ?_
  refine bX (X := Nat) (fun k => [(0, Pt s 0), (1, .func (.yield l) #[] #[]), (9, I fs.length), (10, I k)]) (fun _ => _) (fun k => k <= fs.length) (fun k => fs.length - k) 0 (by omega) ⟨rfl, rfl, rfl, rfl, trivial⟩ (ah _) (fun k hk => ?_)
  refine sr <| aT (aM rfl rfl) rfl <| nj <| aG rfl (fun h => ?_) (fun h => ?_)
  ·have hk' : k < fs.length := by omega
   refine sk <| bb <| dB<|sr <| eb rfl <| nk <| bb <| mJ<|gM (ao rfl) rfl rfl <| gM (ao rfl) rfl rfl <| gM (eF rfl) rfl rfl <| gM (i9 0 rfl rfl) rfl rfl<|gM (ar rfl (aC rfl)) rfl rfl <| gM (ao rfl) rfl rfl <| gM (au rfl rfl (by omega)) rfl rfl ?_
   rw [Int.toNat_natCast]
   refine ov (l := l) rfl rfl rfl FBlk.eq rfl fun RR hRR w hw => ?_
   have ha := ha.sub (E' := [(7, Pt b7 0), (6, Pt b6 0), (5, Pt b5 0), (4, Pt b4 0)]) ⟨rfl, rfl, rfl, rfl, trivial⟩
   refine nJ (n' := 33) (E0 := [(11, Pt b (pre.length + k * 3)), (7, Pt b7 0), (6, Pt b6 0), (5, Pt b5 0), (4, Pt b4 0)]) (E1 := [(8, Pt b (pre.length + k * 3)), (11, Pt b (pre.length + k * 3)), (7, Pt b7 0), (6, Pt b6 0), (5, Pt b5 0), (4, Pt b4 0)]) FBlk.eq rfl ?_ hw ?_ ?_
   ·have := ha.put (d := 11) (by decide) (Pt b (pre.length + k * 3))
    simp only [Act.put, ha.defers] at this
    simpa using this
   ·refine gA rfl <| aT (aH rfl) rfl <| bF ?_
    exact DZ
   ·have hx : fs[k]? = some fs[k] := List.getElem?_eq_getElem hk'
    have hne : fs[k].seq ≠ q := hq _ (List.getElem_mem hk')
    refine gQ <| gQ <| iC <| iX ((aa (am b (pre ++ fs.flatMap dl ++ post) 425) (am b5 [I q] 3))) emp [] rfl ae<|pe 0 rfl rfl <| pe 1 rfl rfl <| pf 2 (pre.length + k * 3 + 0) rfl rfl <| ps 3 rfl (ar rfl (gg gc hx (j := 0) rfl))<|pl 4 rfl rfl rfl <| ps 5 rfl ((bs rfl rfl).bool_t hne) <| pe 6 rfl rfl <| dn <| gG <| mf rfl <| nv <| eg <| eg ?_
    refine qU (l := l) FBlk.eq fun w' hw' => hRR _ _ ?_ w' hw'
    refine gM (kP (q := false) rfl rfl) rfl rfl <| ow <| aS <| cf rfl <| ew <| eg <| aS<|aJ <| aT (aQ rfl rfl (by omega)) rfl <| aT (ao rfl) rfl <| bF ?_
    exact bO (k + 1) (by omega) (by omega) ⟨rfl, rfl, rfl, rfl, trivial⟩ Ent.take
  ·refine cx <| cD <| cD <| dF <| z0 rfl Ent.take
 ·show Code.wp prog (.seq (.region 9 _ false) .ret) _ _ _
  refine wp_seq (wp_region_lit ?_)
  refine GZ (v := I 0) (ar rfl (aC rfl)) rfl (fun a w ha hs => ?_) a w' ha hw
  refine uQ (vs := [I 0]) rfl rfl rfl (List.all_eq_true.1 rfl) (fun a w ha hs => ?_) a w ha hs
  refine wp_ret ?_
  refine lM (a := a) (rs := [.cell 6 26]) (P := (aa (am b6 [I 0] 26) (aa (am s [Sk b pre.length fs.length cap, c1, c2, c3, c4, c5] 335) (aa (am b (pre ++ fs.flatMap dl ++ post) 425) (F))))) rfl (.one rfl (aC rfl) .nil) ha ?_ () trivial rfl Ent.take
  exact hs.ent Ent.take
theorem Ag (s : Nat) (g q : Int) (c1 c2 c3 c4 c5 : Value) : Kp prog 261 #[Pt s 0, I g, I q] (am s [Ns, c1, c2, c3, c4, c5] 335) (I 0) := by
 refine gi func261 rfl ntmps261 rfl fun _ F=>sr <| bx rfl fun b4 => bx rfl fun b5 => al rfl fun b6 => nr <| al rfl fun b7 => so rfl rfl<|nk <| bb <| sr <| ea rfl <| aT (aB rfl rfl) rfl <| nk <| dB ?_
 refine gN (P1 := am s [Ns, c1, c2, c3, c4, c5] 335) (P2 := am s [Ns, c1, c2, c3, c4, c5] 335) rfl .ready none (by decide) (fun a fn l D ha => ?_) (fun a D w' ha hw => ?_)
 ·refine en func264 rfl fun _ F=> ?_
  refine sr <| eb rfl <| lf 0 rfl rfl <| ll rfl <| ea rfl <| nk<|dB <| qV <| j3 <| sr <| ea rfl <| nk <| bb <| cf rfl <| cx ?_
  refine cD <| cD <| dF <| z0 rfl Ent.take
 ·show Code.wp prog (.seq (.region 9 _ false) .ret) _ _ _
  refine wp_seq (wp_region_lit ?_)
  refine GZ (v := I 0) (ar rfl (aC rfl)) rfl (fun a w ha hs => ?_) a w' ha hw
  refine uQ (vs := [I 0]) rfl rfl rfl (List.all_eq_true.1 rfl) (fun a w ha hs => ?_) a w ha hs
  refine wp_ret ?_
  refine lM (a := a) (rs := [.cell 6 26]) (P := (aa (am b6 [I 0] 26) (aa (am s [Ns, c1, c2, c3, c4, c5] 335) (F)))) rfl (.one rfl (aC rfl) .nil) ha ?_ () trivial rfl Ent.take
  exact hs.ent Ent.take
theorem kf (fs : List Fr) : (fs.flatMap dl).length = fs.length * 3 := jS gc fs
theorem wL (pre post : List Value) (fs : List Fr) (q t n n' : Int) : (pre ++ (fs ++ [Fr.mk q t n']).flatMap dl ++ post) = (pre ++ (fs ++ [Fr.mk q t n]).flatMap dl ++ post).take (pre.length + fs.length * 3 + 2) ++ [.int .u64 n'] ++ (pre ++ (fs ++ [Fr.mk q t n]).flatMap dl ++ post).drop (pre.length + fs.length * 3 + 2 + [Value.int .u64 n'].length) := by
 have h1 : pre ++ (fs ++ [Fr.mk q t n]).flatMap dl ++ post = (pre ++ fs.flatMap dl ++ [I q, I t]) ++ (Value.int .u64 n :: post) := by simp [dl]
 have h2 : pre ++ (fs ++ [Fr.mk q t n]).flatMap dl ++ post = (pre ++ fs.flatMap dl ++ [I q, I t, .int .u64 n]) ++ post := by simp [dl]
 have hl := kf fs
 have e1 : (pre ++ (fs ++ [Fr.mk q t n]).flatMap dl ++ post).take (pre.length + fs.length * 3 + 2) = pre ++ fs.flatMap dl ++ [I q, I t] := by
  rw [h1]; exact List.take_left' (by rw [List.length_append, List.length_append, hl]; rfl)
 have e2 : (pre ++ (fs ++ [Fr.mk q t n]).flatMap dl ++ post).drop (pre.length + fs.length * 3 + 2 + [Value.int .u64 n'].length) = post := by
  rw [h2]; exact List.drop_left' (by rw [List.length_append, List.length_append, hl]; rfl)
 rw [e1, e2]
 simp [dl]
theorem xN (s b cap : Nat) (pre post : List Value) (fs : List Fr) (q t : Int) (c1 c2 c3 c4 c5 : Value) (hq : ∀ x, x ∈ fs -> x.seq ≠ q) (hl : fs.length <= 1000) : Go.SLA.Sp prog 261 #[Pt s 0, I 1, I q] ((aa (am s [Sk b pre.length (fs.length + 1) cap, c1, c2, c3, c4, c5] 335) (am b (pre ++ (fs ++ [Fr.mk q t 1]).flatMap dl ++ post) 425))) (I 21) ((aa (am s [Sk b pre.length (fs.length + 1) cap, c1, c2, c3, c4, c5] 335) (am b (pre ++ (fs ++ [Fr.mk q t 3]).flatMap dl ++ post) 425))) := by
 refine gi func261 rfl ntmps261 rfl fun _ F=>sr <| bx rfl fun b4 => bx rfl fun b5 => al rfl fun b6 => nr <| al rfl fun b7 => so rfl rfl<|nk <| bb <| sr <| ea rfl <| aT (aB rfl rfl) rfl <| nk <| dB ?_
 refine gN (P1 := (aa (am s [Sk b pre.length (fs.length + 1) cap, c1, c2, c3, c4, c5] 335) (aa (am b (pre ++ (fs ++ [Fr.mk q t 1]).flatMap dl ++ post) 425) (aa (am b4 [I 1] 3) (aa (am b5 [I q] 3) (am b6 [I 0] 26)))))) (P2 := (aa (am s [Sk b pre.length (fs.length + 1) cap, c1, c2, c3, c4, c5] 335) (aa (am b (pre ++ (fs ++ [Fr.mk q t 3]).flatMap dl ++ post) 425) (aa (am b4 [I 1] 3) (aa (am b5 [I q] 3) (am b6 [I 21] 26)))))) rfl .done (some .ret) (by decide) (fun a fn l D ha => ?_) (fun a D w' ha hw => ?_)
 ·refine en func264 rfl fun _ F=> ?_
  refine sr <| eb rfl <| lf 0 rfl rfl <| ll rfl <| ea rfl <| nk<|dB ?_
  refine bX (X := Nat) (fun k => [(0, Pt s 0), (1, .func (.yield l) #[] #[]), (9, I (fs.length + 1 : Nat)), (10, I k)]) (fun _ => _) (fun k => k <= fs.length) (fun k => fs.length - k) 0 (by omega) ⟨rfl, rfl, rfl, rfl, trivial⟩ (ah _) (fun k hk => ?_)
  refine sr <| aT (aM rfl rfl) rfl <| nj <| aG rfl (fun h => ?_) (fun h => ?_)
  ·refine sk <| bb <| dB ?_
   refine sr <| eb rfl <| nk <| bb <| mJ<|gM (ao rfl) rfl rfl <| gM (ao rfl) rfl rfl <| gM (eF rfl) rfl rfl <| gM (i9 0 rfl rfl) rfl rfl<|gM (ar rfl (aC rfl)) rfl rfl <| gM (ao rfl) rfl rfl <| gM (au rfl rfl (by omega)) rfl rfl ?_
   rw [Int.toNat_natCast]
   refine ov (l := l) rfl rfl rfl FBlk.eq rfl fun RR hRR w hw => ?_
   have ha := ha.sub (E' := [(7, Pt b7 0), (6, Pt b6 0), (5, Pt b5 0), (4, Pt b4 0)]) ⟨rfl, rfl, rfl, rfl, trivial⟩
   refine nJ (n' := 33) (E0 := [(11, Pt b (pre.length + k * 3)), (7, Pt b7 0), (6, Pt b6 0), (5, Pt b5 0), (4, Pt b4 0)]) (E1 := [(8, Pt b (pre.length + k * 3)), (11, Pt b (pre.length + k * 3)), (7, Pt b7 0), (6, Pt b6 0), (5, Pt b5 0), (4, Pt b4 0)]) FBlk.eq rfl ?_ hw ?_ ?_
   ·have := ha.put (d := 11) (by decide) (Pt b (pre.length + k * 3))
    simp only [Act.put, ha.defers] at this
    simpa using this
   ·refine gA rfl <| aT (aH rfl) rfl <| bF ?_
    exact DZ
   ·rcases Nat.lt_or_ge k fs.length with hk' | hk'
    ·have hx : (fs ++ [Fr.mk q t 1])[k]? = some fs[k] := by rw [List.getElem?_append_left hk', List.getElem?_eq_getElem hk']
     have hne : fs[k].seq ≠ q := hq _ (List.getElem_mem hk')
     refine gQ <| gQ <| iC <| iX ((aa (am b (pre ++ (fs ++ [Fr.mk q t 1]).flatMap dl ++ post) 425) (am b5 [I q] 3))) emp [] rfl ae<|pe 0 rfl rfl <| pe 1 rfl rfl <| pf 2 (pre.length + k * 3 + 0) rfl rfl <| ps 3 rfl (ar rfl (gg gc hx (j := 0) rfl))<|pl 4 rfl rfl rfl <| ps 5 rfl ((bs rfl rfl).bool_t hne) <| pe 6 rfl rfl <| dn <| gG <| mf rfl <| nv <| eg <| eg ?_
     refine qU (l := l) FBlk.eq fun w' hw' => hRR _ _ ?_ w' hw'
     refine gM (kP (q := false) rfl rfl) rfl rfl <| ow <| aS <| cf rfl <| ew <| eg <| aS<|aJ <| aT (aQ rfl rfl (by omega)) rfl <| aT (ao rfl) rfl <| bF ?_
     exact bO (k + 1) (by omega) (by omega) ⟨rfl, rfl, rfl, rfl, trivial⟩ Ent.take
    ·have hk0 : k = fs.length := by omega
     subst hk0
     have hx : (fs ++ [Fr.mk q t 1])[fs.length]? = some (Fr.mk q t 1) := by simp
     refine gQ <| gQ <| iC <| iX ((aa (am b (pre ++ (fs ++ [Fr.mk q t 1]).flatMap dl ++ post) 425) (am b5 [I q] 3))) emp [] rfl ae<|pe 0 rfl rfl <| pe 1 rfl rfl <| pf 2 (pre.length + fs.length * 3 + 0) rfl rfl <| ps 3 rfl (ar rfl (gg gc hx (j := 0) rfl))<|pl 4 rfl rfl rfl <| ps 5 rfl ((bs rfl rfl).bool_f (fun h => h rfl)) <| pe 6 rfl rfl <| dn <| gG <| gH rfl <| iC<|iX ((aa (am b (pre ++ (fs ++ [Fr.mk q t 1]).flatMap dl ++ post) 425) (am b4 [I 1] 3))) emp [] rfl ae<|pe 0 rfl rfl <| pe 1 rfl rfl <| pf 2 (pre.length + fs.length * 3 + 2) rfl rfl <| ps 3 rfl (ar rfl (gg gc hx (j := 2) rfl))<|pl 4 rfl rfl rfl <| ps 5 rfl (eQ (c := .int .u64 1) rfl rfl) <| ps 6 rfl ((i7 rfl rfl (by decide)).as (v' := .int .u64 0) (by kernel_rfl)) <| ps 7 rfl ((fH rfl rfl).as (v' := .int .u64 0) (by kernel_rfl))<|pe 8 rfl rfl <| pe 9 rfl rfl <| dn <| gG <| gH rfl <| iC<|gA rfl <| eb rfl <| fa (pre.length + fs.length * 3 + 2) rfl ?_
     refine fp rfl (iv (vs := [.int .u64 3]) rfl rfl rfl (List.all_eq_true.1 rfl) (by have := kf fs; simp only [List.length_append, List.flatMap_append, this, List.flatMap_cons, List.flatMap_nil, dl, List.length_cons, List.length_nil]; omega) (wL pre post fs q t 1 3)) (fun _ _ => ?_)
     refine bF <| gG <| iC <| gA rfl <| so rfl rfl <| bF <| gG <| D2 <| fd <| fd ?_
     refine D0 (l := l) FBlk.eq fun w' hw' => hRR _ _ ?_ w' hw'
     refine gM (kP (q := true) rfl rfl) rfl rfl <| ow <| aS <| ct rfl <| me <| fd <| dD <| dD <| fd ?_
     exact r0 rfl Ent.take
  ·exact absurd h (by omega)
 ·exact wp_ret (lM (a := a) (rs := [.cell 6 26]) rfl (.one rfl (aC rfl) .nil) ha hw () trivial rfl Ent.take)
theorem zE (s : Nat) (q : Int) (c1 c2 c3 c4 c5 : Value) : Kp prog 262 #[Pt s 0, I q] (am s [Ns, c1, c2, c3, c4, c5] 335) Ff := by
 refine gi func262 rfl ntmps262 rfl fun _ F=>sr <| bx rfl fun b3 => al rfl fun b4 =>nk <| bb <| sr <| ea rfl <| aT (aB rfl rfl) rfl <| nk <| dB ?_
 refine gN (P1 := am s [Ns, c1, c2, c3, c4, c5] 335) (P2 := am s [Ns, c1, c2, c3, c4, c5] 335) rfl .ready none (by decide) (fun a fn l D ha => ?_) (fun a D w' ha hw => ?_)
 ·refine en func264 rfl fun _ F=> ?_
  refine sr <| eb rfl <| lf 0 rfl rfl <| ll rfl <| ea rfl <| nk<|dB <| qV <| j3 <| sr <| ea rfl <| nk <| bb <| cf rfl <| cx ?_
  refine cD <| cD <| dF <| z0 rfl Ent.take
 ·show Code.wp prog (.seq (.region 6 _ false) .ret) _ _ _
  refine wp_seq (wp_region_lit ?_)
  refine uQ (vs := [Ff]) rfl rfl rfl (List.all_eq_true.1 rfl) (fun a w ha hs => ?_) a w' ha hw
  refine wp_ret ?_
  refine lM (a := a) (rs := [.cell 4 4]) (P := (aa (am b4 [Ff] 4) (aa (am s [Ns, c1, c2, c3, c4, c5] 335) (F)))) rfl (.one rfl (aC rfl) .nil) ha ?_ () trivial rfl Ent.take
  exact hs.ent Ent.take
theorem zF (s b cap : Nat) (pre post : List Value) (fs : List Fr) (q : Int) (c1 c2 c3 c4 c5 : Value) (hq : ∀ x, x ∈ fs -> 0 <= x.seq /\ x.seq < q) (hq' : q <= 100) (hl : fs.length <= 1000) : Kp prog 262 #[Pt s 0, I q] ((aa (am s [Sk b pre.length fs.length cap, c1, c2, c3, c4, c5] 335) (am b (pre ++ fs.flatMap dl ++ post) 425))) Ff := by
 refine gi func262 rfl ntmps262 rfl fun _ F=>sr <| bx rfl fun b3 => al rfl fun b4 =>nk <| bb <| sr <| ea rfl <| aT (aB rfl rfl) rfl <| nk <| dB ?_
 refine gN (P1 := (aa (am s [Sk b pre.length fs.length cap, c1, c2, c3, c4, c5] 335) (aa (am b (pre ++ fs.flatMap dl ++ post) 425) (am b3 [I q] 3)))) (P2 := (aa (am s [Sk b pre.length fs.length cap, c1, c2, c3, c4, c5] 335) (aa (am b (pre ++ fs.flatMap dl ++ post) 425) (am b3 [I q] 3)))) rfl .ready none (by decide) (fun a fn l D ha => ?_) (fun a D w' ha hw => ?_)
 ·refine en func264 rfl fun _ F=> ?_
  refine sr <| eb rfl <| lf 0 rfl rfl <| ll rfl <| ea rfl <| nk<|dB ?_
  refine bX (X := Nat) (fun k => [(0, Pt s 0), (1, .func (.yield l) #[] #[]), (9, I fs.length), (10, I k)]) (fun _ => _) (fun k => k <= fs.length) (fun k => fs.length - k) 0 (by omega) ⟨rfl, rfl, rfl, rfl, trivial⟩ (ah _) (fun k hk => ?_)
  refine sr <| aT (aM rfl rfl) rfl <| nj <| aG rfl (fun h => ?_) (fun h => ?_)
  ·have hk' : k < fs.length := by omega
   refine sk <| bb <| dB<|sr <| eb rfl <| nk <| bb <| mJ<|gM (ao rfl) rfl rfl <| gM (ao rfl) rfl rfl <| gM (eF rfl) rfl rfl <| gM (i9 0 rfl rfl) rfl rfl<|gM (ar rfl (aC rfl)) rfl rfl <| gM (ao rfl) rfl rfl <| gM (au rfl rfl (by omega)) rfl rfl ?_
   rw [Int.toNat_natCast]
   refine ov (l := l) rfl rfl rfl FBlk.eq rfl fun RR hRR w hw => ?_
   have ha := ha.sub (E' := [(4, Pt b4 0), (3, Pt b3 0)]) ⟨rfl, rfl, trivial⟩
   refine nJ (n' := 22) (E0 := [(9, Pt b (pre.length + k * 3)), (4, Pt b4 0), (3, Pt b3 0)]) (E1 := [(5, Pt b (pre.length + k * 3)), (9, Pt b (pre.length + k * 3)), (4, Pt b4 0), (3, Pt b3 0)]) FBlk.eq rfl ?_ hw ?_ ?_
   ·have := ha.put (d := 9) (by decide) (Pt b (pre.length + k * 3))
    simp only [Act.put, ha.defers] at this
    simpa using this
   ·refine gA rfl <| aT (aH rfl) rfl <| bF ?_
    exact DZ
   ·have hx : fs[k]? = some fs[k] := List.getElem?_eq_getElem hk'
    have hy := hq _ (List.getElem_mem hk')
    rcases Int.lt_or_le 0 fs[k].seq with h0 | h0
    ·refine gQ <| iC <| iX ((aa (am b (pre ++ fs.flatMap dl ++ post) 425) (am b3 [I q] 3))) emp [] rfl ae ?_
     refine pl 0 rfl rfl rfl <| pe 1 rfl rfl <| pe 2 rfl rfl <| pf 3 (pre.length + k * 3 + 0) rfl rfl <| ps 4 rfl (ar rfl (gg gc hx (j := 0) rfl))<|pn 5 rfl (ai (B8 fs[k].seq q ⟨h0, hy.2, hq'⟩) rfl rfl rfl) fun _ _ => pe 6 rfl rfl <| dn <| gG <| iC <| gA rfl<|aT (ao rfl) rfl <| aT ((dt rfl rfl).bool_t (by omega)) rfl <| aT (ao rfl) rfl <| bK rfl rfl rfl <| aT (ao rfl) rfl <| bK rfl rfl rfl <| aT ((fh rfl rfl).bool_f (by omega)) rfl <| ea rfl <| bF<|gG <| gH rfl <| nv <| eg ?_
     refine qU (l := l) FBlk.eq fun w' hw' => hRR _ _ ?_ w' hw'
     refine gM (kP (q := false) rfl rfl) rfl rfl <| ow <| aS <| cf rfl <| ew <| eg <| aS<|aJ <| aT (aQ rfl rfl (by omega)) rfl <| aT (ao rfl) rfl <| bF ?_
     exact bO (k + 1) (by omega) (by omega) ⟨rfl, rfl, rfl, rfl, trivial⟩ Ent.take
    ·refine gQ <| iC <| iX ((aa (am b (pre ++ fs.flatMap dl ++ post) 425) (am b3 [I q] 3))) emp [] rfl ae ?_
     refine pl 0 rfl rfl rfl <| pe 1 rfl rfl <| pe 2 rfl rfl <| pf 3 (pre.length + k * 3 + 0) rfl rfl <| ps 4 rfl (ar rfl (gg gc hx (j := 0) rfl))<|pn 5 rfl (ai (B9 fs[k].seq q ⟨by omega, hy.2, hq'⟩) rfl rfl rfl) fun _ _ => pe 6 rfl rfl <| dn <| gG <| iC <| gA rfl<|aT (ao rfl) rfl <| aT ((dt rfl rfl).bool_f (by decide)) rfl <| aT (ao rfl) rfl <| mb rfl rfl rfl rfl <| mb rfl rfl rfl rfl <| ea rfl <| bF<|gG <| gH rfl <| nv <| eg ?_
     refine qU (l := l) FBlk.eq fun w' hw' => hRR _ _ ?_ w' hw'
     refine gM (kP (q := false) rfl rfl) rfl rfl <| ow <| aS <| cf rfl <| ew <| eg <| aS<|aJ <| aT (aQ rfl rfl (by omega)) rfl <| aT (ao rfl) rfl <| bF ?_
     exact bO (k + 1) (by omega) (by omega) ⟨rfl, rfl, rfl, rfl, trivial⟩ Ent.take
  ·refine cx <| cD <| cD <| dF <| z0 rfl Ent.take
 ·show Code.wp prog (.seq (.region 6 _ false) .ret) _ _ _
  refine wp_seq (wp_region_lit ?_)
  refine uQ (vs := [Ff]) rfl rfl rfl (List.all_eq_true.1 rfl) (fun a w ha hs => ?_) a w' ha hw
  refine wp_ret ?_
  refine lM (a := a) (rs := [.cell 4 4]) (P := (aa (am b4 [Ff] 4) (aa (am s [Sk b pre.length fs.length cap, c1, c2, c3, c4, c5] 335) (aa (am b (pre ++ fs.flatMap dl ++ post) 425) (F))))) rfl (.one rfl (aC rfl) .nil) ha ?_ () trivial rfl Ent.take
  exact hs.ent Ent.take
end Sp
section
namespace Sp
open Mq
theorem H2 (b n m c : Nat) (h : n + 1 <= c) : jF (some (ad b m)) (Int.toNat 1) (n + 1) c 3 = Sk b (if c = 1 then m else m + 1 * 3) n (c - 1) := by
 rw [show Int.toNat 1 = 1 from rfl, iy, show n + 1 - 1 = n by omega]
theorem xL {b cap : Nat} {pre post : List Value} {w : Fr} {q : List Fr} (h1 : q.length + 1 <= cap) (h2 : cap <= maxLen) (h3 : (cap - (q.length + 1)) * 3 <= post.length) : Ent (am b (pre ++ (w :: q).flatMap dl ++ post) 425) (Ow 425 3 (Sk b (if cap = 1 then pre.length else pre.length + 1 * 3) q.length (cap - 1)) q.length (q.flatMap dl)) := by
 haveI : DropL ((w :: q).flatMap dl) 3 (q.flatMap dl) := ⟨by rw [List.flatMap_cons]; exact List.drop_left' (gc w)⟩
 refine Ent.trans (Ow.mk (m := 3) (len := q.length + 1) (cap := cap) rfl h1 h2 ?_ h3) (Ow.tail 1 q.length rfl (by simp) (qm := 3) rfl)
 rw [kf]; rfl
theorem Er {fs ys : List Fr} {y : Fr} {k : Nat} {p : Fr -> Prop} (hk : y :: ys = fs.drop k) (h : ∀ z, z ∈ fs.take k -> p z) (hy : p y) : ∀ z, z ∈ fs.take (k + 1) -> p z := by
 intro z hz
 have e : fs.take (k + 1) = fs.take k ++ [y] := by
  have h0 : fs[k]? = some y := by
   have := congrArg (fun l => l[0]?) hk
   simpa using this.symm
  rw [List.take_add_one, h0]; rfl
 rw [e] at hz
 rcases List.mem_append.1 hz with hz | hz
 ·exact h z hz
 ·rw [List.mem_singleton.1 hz]; exact hy
def FilB (s : Nat) (fs : List Fr) (now : Int) (c3 c4 c5 : Value) : ab := ex fun a : Option Addr × Nat => (aa (am s [.slice a.1 fs.length a.2, I 60000, I now, c3, c4, c5] 335) (Ow 425 3 (.slice a.1 fs.length a.2) fs.length (fs.flatMap dl)))
theorem nT (s : Nat) (fs : List Fr) (cur now : Int) (c3 c4 c5 : Value) (hn : 0 <= now /\ now <= 1125899906842624) (hf : ∀ x, x ∈ fs -> 0 <= x.at_ /\ x.at_ <= now) : FSpec prog 260 #[Pt s 0, I now] (FilB s fs cur c3 c4 c5) (fun k : Nat => ∀ z, z ∈ fs.take k -> z.at_ + 60000 < now) (fun k => .tuple #[]) (fun k => FilB s (fs.drop k) now c3 c4 c5) := by
 refine en func260 r fun _ F=>gh fun a =>dY _ (ak _ _ _)<|sr<|ec r<|fz r<|so r r<|nk<|jb ?_
 refine bX (X := (Option Addr × Nat) × List Fr) (fun x => [(0, Pt s 0), (1, I now)]) (fun x => (aa (am s [.slice x.1.1 x.2.length x.1.2, I 60000, I now, c3, c4, c5] 335) (aa (Ow 425 3 (.slice x.1.1 x.2.length x.1.2) x.2.length (x.2.flatMap dl)) (F)))) (fun x => ∃ k, x.2 = fs.drop k /\ ∀ z, z ∈ fs.take k -> z.at_ + 60000 < now) (fun x => x.2.length) ((a, fs)) ⟨0, rfl, fun z hz => by cases hz⟩ ⟨rfl, rfl, trivial⟩ dH (fun x hx => ?_)
 obtain ⟨⟨a1, a2⟩, zs⟩ := x
 obtain ⟨k, hk, hold⟩ := hx
 dsimp only at hk
 rcases zs with _ | ⟨y, ys⟩
 ·refine js<|js<|dM ae<|qb r<|qz r<|ql r r<|qv (bC r) r<|qv ((bt r r).bool_f (by simp)) r<|qa r ?_
  refine qk rfl<|qk rfl<|qk rfl<|qk rfl<|qk rfl<|qk rfl<|qk rfl<|qk rfl<|qk rfl<|qk rfl<|qk rfl<|qk rfl<|qk rfl<|qk rfl<|qa r<|qn<|kt<|cf r<|cx<|ke<|ke<|kh ?_
  exact eG rfl k hold rfl (by show Ent _ (aa (FilB s (List.drop k fs) now c3 c4 c5) (F)); rw [<- hk]; exact Ent.trans (Ent.of (ak _ _ _).symm) (Ent.frame (bh (f := fun a : Option Addr × Nat => (aa (am s [.slice a.1 ([] : List Fr).length a.2, I 60000, I now, c3, c4, c5] 335) (Ow 425 3 (.slice a.1 ([] : List Fr).length a.2) ([] : List Fr).length (([] : List Fr).flatMap dl)))) (a1, a2)) F))
 ·refine js<|js ?_
  refine dY _ (aR _ _ _)<|BY (fun _ e _ => absurd e (by simp)) fun b cap pre post e1 e2 e3 e4 e5=>?_
  simp only [Value.slice.injEq] at e1
  obtain ⟨e1, _, e6⟩ := e1
  subst e1 e6
  have hy := hf y (List.mem_of_mem_drop (hk ▸ List.mem_cons_self ..))
  refine dM ae<|qb r<|qz r<|ql r r<|qv (bC r) r<|qv ((bt r r).bool_t (by simp only [List.length_cons]; omega)) r<|qa r<|qo r<|qa r<|qo r<|qa r<|qo r<|qa r<|qo r<|qz r<|qo r<|ql r r<|qo r<|qv ((au r r (by simp only [List.length_cons]; omega))) r<|qo r<|qy r<|qo r<|qv (ar r (gg gc (q := y :: ys) (i := 0) (j := 1) r r)) r<|qo r<|qv (bm r r (by omega)) r<|qo r<|qa r<|qo r<|qa r<|qo r<|qz r<|qo r<|ql r r<|qo r<|qv (bt r r) r<|qa r<|qn<|kt ?_
  refine aG rfl (fun h1 => ?_) (fun h1 => ?_)
  ·refine sk<|jb<|jg<|ec r<|fz r<|ld r r<|lv ((cZ r r (by show (0 : Int) <= 1 /\ (1 : Int) <= ((ys.length + 1 : Nat) : Int); omega)).as (v' := Sk b (if a2 = 1 then pre.length else pre.length + 1 * 3) ys.length (a2 - 1)) (H2 _ _ _ _ e2)) r<|ea r<|fz r ?_
   refine so r r<|ln<|kb ?_
   exact bO (((some (ad b (if a2 = 1 then pre.length else pre.length + 1 * 3)), a2 - 1), ys)) ⟨k + 1, by rw [<- List.drop_drop, <- hk]; rfl, Er hk hold (by omega)⟩ (by simp) ⟨rfl, rfl, trivial⟩ (Ent.trans (Ent.of (aR _ _ _)) (Ent.trans (Ent.frame (xL e2 e3 e5) _) (Ent.of (aR _ _ _))))
  ·refine cx ?_
   refine ke<|ke<|kh ?_
   exact eG rfl k hold rfl (by show Ent _ (aa (FilB s (List.drop k fs) now c3 c4 c5) (F)); rw [<- hk]; exact Ent.trans (Ent.frame (Ow.mk rfl e2 e3 e4 e5) _) (Ent.trans (Ent.of (aR _ _ _)) <| Ent.trans (Ent.of (ak _ _ _).symm) (Ent.frame (bh (f := fun a : Option Addr × Nat => (aa (am s [.slice a.1 (y :: ys).length a.2, I 60000, I now, c3, c4, c5] 335) (Ow 425 3 (.slice a.1 (y :: ys).length a.2) (y :: ys).length ((y :: ys).flatMap dl)))) (_, _)) F)))
end Sp
end
section
namespace Sp
open Mq
theorem FilB.fold {s : Nat} {fs : List Fr} {now : Int} {c3 c4 c5 : Value} {F : ab} (a : Option Addr × Nat) : Ent (aa (am s [.slice a.1 fs.length a.2, I 60000, I now, c3, c4, c5] 335) (aa (Ow 425 3 (.slice a.1 fs.length a.2) fs.length (fs.flatMap dl)) (F))) (aa (FilB s fs now c3 c4 c5) (F)) := by
 rw [<- ak]
 exact Ent.ex (f := fun a : Option Addr × Nat => (aa (am s [.slice a.1 fs.length a.2, I 60000, I now, c3, c4, c5] 335) (Ow 425 3 (.slice a.1 fs.length a.2) fs.length (fs.flatMap dl)))) a
theorem sp (s : Nat) (fs : List Fr) (g q now : Int) (c3 c4 c5 : Value) (hq : ∀ x, x ∈ fs -> x.seq ≠ q) (hl : fs.length <= 1000) : Kp prog 261 #[Pt s 0, I g, I q] (FilB s fs now c3 c4 c5) (I 0) := by
 refine FSpec.ex fun a => ?_
 obtain ⟨a1, a2⟩ := a
 refine FSpec.eq _ (cd _ _) ?_
 refine FSpec.own (fun e0 e1 e2 => ?_) (fun b cap pre post e1 e2 e3 e4 e5 => ?_)
 ·have hq0 : fs = [] := List.eq_nil_of_length_eq_zero e1
  subst hq0
  simp only [Value.slice.injEq] at e0
  obtain ⟨e1, _, e2⟩ := e0
  subst e1 e2
  refine (Ag s g q _ _ c3 c4 c5).conseq (ah _) fun _ _ => ⟨(), trivial, rfl, ?_⟩
  refine Ent.trans (Ent.of (cR _).symm) (Ent.trans (aw (Ow.nil 425 3) _) ?_)
  exact bh (f := fun a : Option Addr × Nat => (aa (am s [.slice a.1 ([] : List Fr).length a.2, I 60000, I now, c3, c4, c5] 335) (Ow 425 3 (.slice a.1 ([] : List Fr).length a.2) ([] : List Fr).length (([] : List Fr).flatMap dl)))) (none, 0)
 ·simp only [Value.slice.injEq] at e1
  obtain ⟨e1, _, e6⟩ := e1
  subst e1 e6
  refine (Ah s b a2 pre post fs g q _ _ c3 c4 c5 hq hl).conseq (Ent.of (cd _ _)) fun _ _ => ⟨(), trivial, rfl, ?_⟩
  refine Ent.trans (aw (Ow.mk rfl e2 e3 e4 e5) _) ?_
  exact bh (f := fun a : Option Addr × Nat => (aa (am s [.slice a.1 fs.length a.2, I 60000, I now, c3, c4, c5] 335) (Ow 425 3 (.slice a.1 fs.length a.2) fs.length (fs.flatMap dl)))) (some (ad b pre.length), a2)
theorem wU (s : Nat) (fs : List Fr) (q now : Int) (c3 c4 c5 : Value) (hq : ∀ x, x ∈ fs -> 0 <= x.seq /\ x.seq < q) (hq' : q <= 100) (hl : fs.length <= 1000) : Kp prog 262 #[Pt s 0, I q] (FilB s fs now c3 c4 c5) Ff := by
 refine FSpec.ex fun a => ?_
 obtain ⟨a1, a2⟩ := a
 refine FSpec.eq _ (cd _ _) ?_
 refine FSpec.own (fun e0 e1 e2 => ?_) (fun b cap pre post e1 e2 e3 e4 e5 => ?_)
 ·have hq0 : fs = [] := List.eq_nil_of_length_eq_zero e1
  subst hq0
  simp only [Value.slice.injEq] at e0
  obtain ⟨e1, _, e2⟩ := e0
  subst e1 e2
  refine (zE s q _ _ c3 c4 c5).conseq (ah _) fun _ _ => ⟨(), trivial, rfl, ?_⟩
  refine Ent.trans (Ent.of (cR _).symm) (Ent.trans (aw (Ow.nil 425 3) _) ?_)
  exact bh (f := fun a : Option Addr × Nat => (aa (am s [.slice a.1 ([] : List Fr).length a.2, I 60000, I now, c3, c4, c5] 335) (Ow 425 3 (.slice a.1 ([] : List Fr).length a.2) ([] : List Fr).length (([] : List Fr).flatMap dl)))) (none, 0)
 ·simp only [Value.slice.injEq] at e1
  obtain ⟨e1, _, e6⟩ := e1
  subst e1 e6
  refine (zF s b a2 pre post fs q _ _ c3 c4 c5 hq hq' hl).conseq (Ent.of (cd _ _)) fun _ _ => ⟨(), trivial, rfl, ?_⟩
  refine Ent.trans (aw (Ow.mk rfl e2 e3 e4 e5) _) ?_
  exact bh (f := fun a : Option Addr × Nat => (aa (am s [.slice a.1 fs.length a.2, I 60000, I now, c3, c4, c5] 335) (Ow 425 3 (.slice a.1 fs.length a.2) fs.length (fs.flatMap dl)))) (some (ad b pre.length), a2)
theorem xM (s : Nat) (fs : List Fr) (q t now : Int) (c3 c4 c5 : Value) (hq : ∀ x, x ∈ fs -> x.seq ≠ q) (hl : fs.length <= 1000) : Go.SLA.Sp prog 261 #[Pt s 0, I 1, I q] (FilB s (fs ++ [Fr.mk q t 1]) now c3 c4 c5) (I 21) (FilB s (fs ++ [Fr.mk q t 3]) now c3 c4 c5) := by
 refine FSpec.ex fun a => ?_
 obtain ⟨a1, a2⟩ := a
 have el : ∀ n : Int, (fs ++ [Fr.mk q t n]).length = fs.length + 1 := fun n => by simp
 refine FSpec.eq _ (cd _ _) ?_
 refine FSpec.own (fun e0 e1 e2 => absurd e1 (by simp)) (fun b cap pre post e1 e2 e3 e4 e5 => ?_)
 simp only [Value.slice.injEq] at e1
 obtain ⟨e1, _, e6⟩ := e1
 subst e1 e6
 rw [el] at e2 e4 e5 ⊢
 refine (xN s b a2 pre post fs q t _ _ c3 c4 c5 hq hl).conseq (Ent.of (cd _ _)) fun _ _ => ⟨(), trivial, rfl, ?_⟩
 refine Ent.trans (aw (Ow.mk (m := 3) (l := (fs ++ [Fr.mk q t 3]).flatMap dl) rfl e2 e3 (by rw [kf, el]) e5) _) ?_
 have := bh (f := fun a : Option Addr × Nat => (aa (am s [.slice a.1 (fs.length + 1) a.2, I 60000, I now, c3, c4, c5] 335) (Ow 425 3 (.slice a.1 (fs.length + 1) a.2) (fs.length + 1) ((fs ++ [Fr.mk q t 3]).flatMap dl)))) (some (ad b pre.length), a2)
 unfold FilB
 rw [el]
 exact this
end Sp
end
namespace Sp
attribute [local irreducible] JU
theorem FP (a : Nat) (c0 c1 c3 c4 c5 : Value) (cur now g q : Int) (h : 0 <= now /\ now <= 1125899906842624 /\ cur <= now /\ 0 <= g /\ g <= 1 /\ 0 <= q /\ q <= 100) : Kp prog 259 #[Pt a 0, I now, I g, I q] (am a [c0, c1, I cur, c3, c4, c5] 335) (I 0) := by
 refine en func259 r fun _ F=>aE r<|js<|jb<|sa r<|ep false r<|an r<|cf r<|sa r<|bJ r<|ea r<|go r<|ea r<|go r<|bJ r<|eb r<|go r<|ea r<|go r<|bJ r<|eb r<|go r<|ea r<|go r<|bJ r<|eb r<|go r<|ea r<|go r<|bJ r<|eb r<|go r ?_
 refine ea r<|go r<|bJ r<|bf r<|sr<|ec r<|lf 2 r r<|bJ r<|an r<|cf r<|cY<|aE r<|jr<|r1 r Ent.take
end Sp
section
namespace Sp
open Mq
theorem BK (A : Option Addr) (n c m : Nat) : jF A (Int.toNat 0) n c m = .slice A n c := by
 unfold jF
 cases A with
 | none => simp
 | some a => cases a; simp [Addr.add]
theorem ny (s : Nat) (fs : List Fr) (cur now g q : Int) (c3 c4 c5 : Value) (h : 0 <= now /\ now <= 1125899906842624 /\ cur <= now /\ 0 <= g /\ g <= 1 /\ 0 <= q /\ q <= 100) : Kp prog 259 #[Pt s 0, I now, I g, I q] (FilB s fs cur c3 c4 c5) (I 0) := by
 refine FSpec.ex fun a => ?_
 refine ((FP s _ _ c3 c4 c5 cur now g q h).frame _).conseq (ah _) fun _ _ => ⟨(), trivial, rfl, ?_⟩
 exact bh (f := fun a : Option Addr × Nat => (aa (am s [.slice a.1 fs.length a.2, I 60000, I cur, c3, c4, c5] 335) (Ow 425 3 (.slice a.1 fs.length a.2) fs.length (fs.flatMap dl)))) a
theorem Br (fs : List Fr) (q t n : Int) : fs.flatMap dl ++ [I q, I t, .int .u64 n] = (fs ++ [Fr.mk q t n]).flatMap dl := by simp [dl]
theorem A9 (s : Nat) (fs : List Fr) (cur now q thr tw od : Int) (hn : 0 <= now /\ now <= 1125899906842624 /\ cur <= now) (hf : ∀ x, x ∈ fs -> 0 <= x.at_ /\ x.at_ <= now) (hl : fs.length <= 200) (hc : 0 <= thr /\ thr <= 1000000 /\ 0 <= tw /\ tw <= 1000000) (hq : q = 0 /\ fs = []) : FSpec prog 240 #[Pt s 0, I now, I 0, I q] (FilB s fs cur (I thr) (I tw) (I od)) (fun k : Nat => ∀ z, z ∈ fs.take k -> z.at_ + 60000 < now) (fun k => I 0) (fun k => FilB s ((fs.drop k) ++ [Fr.mk q now 1]) now (I (thr + 1)) (I tw) (I od)) := by
 have hdl : ∀ k, (fs.drop k).length <= fs.length := fun k => by rw [List.length_drop]; omega
 refine en func240 r fun _ F=>aE r<|js<|sr<|ed r<|cy (ny s fs cur now 0 q (I thr) (I tw) (I od) (by omega)) r fun _=>an r<|sa r<|lv ((bs r r).bool_f (fun n => n r)) r<|nf r<|sk<|sb r<|lx r (ai (nT s fs cur now (I thr) (I tw) (I od) (by omega) hf) r r r) fun k hold=>nj<|sr<|ec r<|cy (sp s (fs.drop k) 0 q now (I thr) (I tw) (I od) (fun x hx => by rw [hq.2] at hx; cases (List.mem_of_mem_drop hx)) (by have := hdl k; omega)) r fun _=>an r<|jb<|sa r<|bJ r<|an r<|cf r<|sa r<|lv ((bs r r).bool_f (fun n => n r)) r<|an r<|cf r<|sa r<|bJ r<|ea r<|gs r<|gs r<|gs r<|bf r<|cY<|sr<|yM fun a =>ue _ (ak _ _ _) ?_
 have hdk := hdl k
 refine ec r<|fz r<|ld r r<|ec r<|lv ((dX r).as (v' := .int .u64 0) r) r<|lv ((gC r r (by decide)).as (v' := .int .u64 1) (by kernel_rfl)) r<|lv (af r) r<|lx r (aq (m := 3) r r (by omega) (by omega) r) fun b74 _=>lx r (cO (m := 3) (B := 24) r r (Src.lit) r (by omega) r (by simp [Value.oneCell']) (by unfold maxLen; omega) (by omega) r) fun y75 _=>ea r<|fz r<|so r r<|nj<|av (emp) (am s [.slice y75.1 ((fs.drop k).length + 1) y75.2, I 60000, I now, I thr, I tw, I od] 335) [15] ae<|pe 0 r r<|pe 1 r r<|pe 2 r r<|ps 3 r (aj r)<|dv 4 r (by kernel_rfl) (ar r (aC r)) r<|pe 5 r r<|pe 6 r r<|ps 7 r (aj r)<|dv 8 r (by kernel_rfl) (ar r (aC r)) r<|ps 9 r (bC r)<|ps 10 r (bm r r (by omega))<|ps 11 r ((iw r r).as (v' := I 0) (congrArg (Value.int .i64) (if_pos (by have := hdl k; omega))))<|ps 12 r ((cZ r r (by have := hdl k; omega)).as (BK _ _ _ _))<|pe 13 r r<|ps 14 r (aj r)<|jv 15 r r (by kernel_rfl) (dU r r r) fun _ _=>dn<|kt<|sb r<|fz r<|ld r r<|gE r<|ea r<|fz r<|so r r<|nr<|an r<|jr ?_
 have e1 : (fs.drop k).length + 1 = ((fs.drop k) ++ [Fr.mk q now 1]).length := by rw [List.length_append]; rfl
 rw [Br, e1]
 exact aD rfl rfl k hold rfl (Ent.trans Ent.take (FilB.fold y75))
theorem A8 (s : Nat) (fs : List Fr) (cur now q thr tw od : Int) (hn : 0 <= now /\ now <= 1125899906842624 /\ cur <= now) (hf : ∀ x, x ∈ fs -> 0 <= x.at_ /\ x.at_ <= now) (hl : fs.length <= 200) (hc : 0 <= thr /\ thr <= 1000000 /\ 0 <= tw /\ tw <= 1000000) (hq : 0 < q /\ q <= 100) (hs : ∀ x, x ∈ fs -> 0 <= x.seq /\ x.seq < q) : FSpec prog 240 #[Pt s 0, I now, I 0, I q] (FilB s fs cur (I thr) (I tw) (I od)) (fun k : Nat => ∀ z, z ∈ fs.take k -> z.at_ + 60000 < now) (fun k => I 0) (fun k => FilB s ((fs.drop k) ++ [Fr.mk q now 1]) now (I (thr + 1)) (I tw) (I od)) := by
 have hdl : ∀ k, (fs.drop k).length <= fs.length := fun k => by rw [List.length_drop]; omega
 refine en func240 r fun _ F=>aE r<|js<|sr<|ed r<|cy (ny s fs cur now 0 q (I thr) (I tw) (I od) (by omega)) r fun _=>an r<|sa r<|lv ((bs r r).bool_f (fun n => n r)) r<|nf r<|sk<|sb r<|lx r (ai (nT s fs cur now (I thr) (I tw) (I od) (by omega) hf) r r r) fun k hold=>nj<|sr<|ec r<|cy (sp s (fs.drop k) 0 q now (I thr) (I tw) (I od) (fun x hx => by have := hs x (List.mem_of_mem_drop hx); omega) (by have := hdl k; omega)) r fun _=>an r<|jb<|sa r<|bJ r<|an r<|cf r<|sa r<|lv ((bs r r).bool_f (fun n => n r)) r<|an r<|cf r<|sa r<|eR r<|ea r<|go r<|ea r<|go r<|ea r<|go r<|cy (wU s (fs.drop k) q now (I thr) (I tw) (I od) (fun x hx => hs x (List.mem_of_mem_drop hx)) (by omega) (by have := hdl k; omega)) r fun _=>bf r<|cY<|sr<|yM fun a =>ue _ (ak _ _ _) ?_
 have hdk := hdl k
 refine ec r<|fz r<|ld r r<|ec r<|lv ((dX r).as (v' := .int .u64 0) r) r<|lv ((gC r r (by decide)).as (v' := .int .u64 1) (by kernel_rfl)) r<|lv (af r) r<|lx r (aq (m := 3) r r (by omega) (by omega) r) fun b74 _=>lx r (cO (m := 3) (B := 24) r r (Src.lit) r (by omega) r (by simp [Value.oneCell']) (by unfold maxLen; omega) (by omega) r) fun y75 _=>ea r<|fz r<|so r r<|nj<|av (emp) (am s [.slice y75.1 ((fs.drop k).length + 1) y75.2, I 60000, I now, I thr, I tw, I od] 335) [15] ae<|pe 0 r r<|pe 1 r r<|pe 2 r r<|ps 3 r (aj r)<|dv 4 r (by kernel_rfl) (ar r (aC r)) r<|pe 5 r r<|pe 6 r r<|ps 7 r (aj r)<|dv 8 r (by kernel_rfl) (ar r (aC r)) r<|ps 9 r (bC r)<|ps 10 r (bm r r (by omega))<|ps 11 r ((iw r r).as (v' := I 0) (congrArg (Value.int .i64) (if_pos (by have := hdl k; omega))))<|ps 12 r ((cZ r r (by have := hdl k; omega)).as (BK _ _ _ _))<|pe 13 r r<|ps 14 r (aj r)<|jv 15 r r (by kernel_rfl) (dU r r r) fun _ _=>dn<|kt<|sb r<|fz r<|ld r r<|gE r<|ea r<|fz r<|so r r<|nr<|an r<|jr ?_
 have e1 : (fs.drop k).length + 1 = ((fs.drop k) ++ [Fr.mk q now 1]).length := by rw [List.length_append]; rfl
 rw [Br, e1]
 exact aD rfl rfl k hold rfl (Ent.trans Ent.take (FilB.fold y75))
theorem vy {fs : List Fr} {q t n now : Int} {k : Nat} (ht : now <= t + 60000) (h : ∀ z, z ∈ (fs ++ [Fr.mk q t n]).take k -> z.at_ + 60000 < now) : (fs ++ [Fr.mk q t n]).drop k = fs.drop k ++ [Fr.mk q t n] /\ ∀ z, z ∈ fs.take k -> z.at_ + 60000 < now := by
 have hk : k <= fs.length := by
  rcases Nat.lt_or_ge fs.length k with hk | hk
  ·have := h (Fr.mk q t n) (by rw [List.take_of_length_le (by simp; omega)]; simp)
   dsimp only at this
   omega
  ·exact hk
 refine ⟨List.drop_append_of_le_length hk, fun z hz => h z ?_⟩
 rw [List.take_append_of_le_length hk]; exact hz
theorem Ba (s : Nat) (fs : List Fr) (cur now q thr tw od : Int) (hn : 0 <= now /\ now <= 1125899906842624 /\ cur <= now) (hf : ∀ x, x ∈ fs -> 0 <= x.at_ /\ x.at_ <= now) (hl : fs.length <= 200) (hc : 0 <= thr /\ thr <= 1000000 /\ 0 <= tw /\ tw <= 1000000) (hq : 0 <= q /\ q <= 100) (hs : ∀ x, x ∈ fs -> x.seq ≠ q) (hlast : cur = now) : FSpec prog 240 #[Pt s 0, I now, I 1, I q] (FilB s (fs ++ [Fr.mk q cur 1]) cur (I thr) (I tw) (I od)) (fun k : Nat => ∀ z, z ∈ fs.take k -> z.at_ + 60000 < now) (fun k => I 21) (fun k => FilB s ((fs.drop k) ++ [Fr.mk q cur 3]) now (I thr) (I (tw + 1)) (I od)) := by
 have hdl : ∀ k, (fs.drop k).length <= fs.length := fun k => by rw [List.length_drop]; omega
 refine en func240 r fun _ F=>aE r<|js<|sr<|ed r<|cy (ny s (fs ++ [Fr.mk q cur 1]) cur now 1 q (I thr) (I tw) (I od) (by omega)) r fun _=>an r<|sa r<|lv ((bs r r).bool_f (fun n => n r)) r<|nf r<|sk<|sb r<|lx r (ai (nT s (fs ++ [Fr.mk q cur 1]) cur now (I thr) (I tw) (I od) (by omega) (fun x hx => by rcases List.mem_append.1 hx with h | h; exact hf x h; rw [List.mem_singleton.1 h]; dsimp only; omega)) rfl rfl rfl) fun k hold=>?_
 obtain ⟨hke, hold⟩ := vy (t := cur) (by omega) hold
 rw [hke]
 refine nj<|sr<|ec r<|cy (xM s (fs.drop k) q cur now (I thr) (I tw) (I od) (fun x hx => hs x (List.mem_of_mem_drop hx)) (by have := hdl k; omega)) r fun _=>an r<|jb<|sa r<|eR r<|an r<|ct r<|sr<|yM fun a =>ue _ (ak _ _ _)<|eb r<|fz r<|ld r r<|gE r<|ea r<|fz r<|so r r<|nr<|eb r<|nk<|jr<|kq<|kd ?_
 exact aD rfl rfl k hold rfl (Ent.trans Ent.take (FilB.fold a))
end Sp
end
namespace Sp
attribute [local irreducible] JU
abbrev vN (a : Nat) : List Value := [I 20, I 1, I 1, I 2, Ff, I 10, I 0, I 5, I 100, I 64, I 0, .iface 339 (Pt a 0)]
theorem EY (a : Nat) (s2 : Option Addr × Nat) (ms : List ByteArray) (d : ByteArray) (now : Int) (h : ms.length < 64) : FSpec prog 296 #[Pt a 0, I now, .string d] ((aa (am a [.slice s2.1 ms.length s2.2, I 64, Ff] 341) (Ow 9 1 (.slice s2.1 ms.length s2.2) ms.length (iz ms)))) (fun _ : (Option Addr × Nat) => True) (fun y => I 0) (fun y => (aa (am a [.slice y.1 (ms.length + 1) y.2, I 64, Ff] 341) (Ow 9 1 (.slice y.1 (ms.length + 1) y.2) (ms.length + 1) (iz ms ++ [.string d])))) := by
 refine en func296 r fun _ F=>aE r<|js<|js<|dM ae<|qb r<|qf 0 r<|ql r r<|qv (bC r) r<|qb r<|qf 1 r<|ql r r<|s5 r<|qn<|kt<|cf r<|sk<|sr<|ec r<|lf 0 r r<|ea r<|lx r (aq (m := 1) r r (by decide) (by decide) r) fun b1 _=>lx r (cO (m := 1) (B := 16) r r (Src.lit) r (by omega) r (List.all_eq_true.1 r) (by unfold maxLen; omega) (by omega) r) fun y2 _=>ea r<|fa 0 r<|so r r<|nr<|an r<|jr ?_
 exact bM r (.tmp r (.nil)) y2 trivial r Ent.take
theorem Fb (a c e g j : Nat) (rb : Nat) (R : List ByteArray) (d : ByteArray) (h : R.length <= 1000) (fm : Int -> Option Value) (io : fm 20 = some (.agg (vN rb).toArray)) : Sp prog 178 #[Pt a 0, I 20] ((aa (am a [Mp c] 289) (aa (az c .i64 fm) (aa (am rb [Sk e g (R.length + 1) j, I 64, Ff] 341) (Ow 9 1 (Sk e g (R.length + 1) j) (R.length + 1) ((.string d) :: R.map Value.string)))))) (.tuple #[.string d, Ff, I 0]) ((aa (am a [Mp c] 289) (aa (az c .i64 fm) (aa (am rb [Sk e (if j = 1 then g else g + 1 * 1) R.length (j - 1), I 64, Ff] 341) (Ow 9 1 (Sk e g (R.length + 1) j) (R.length + 1) ((.string d) :: R.map Value.string)))))) := by
 refine en func178 r fun _ F=>sr<|ec r<|nr<|eb r<|aW func193 r ?_
 refine sr<|al r fun b21=>an r<|js<|sa r<|ep false r<|nf r<|sk<|sb r<|lf 0 r r<|ea r<|lv (aN (v := .tuple #[.agg (vN rb).toArray, Tt]) r r (some (.agg (vN rb).toArray)) io r) r<|ec r<|al r fun b2=>so r r ?_
 refine an r<|js<|sb r<|nf r<|sk<|sr<|ls r<|so r r<|an r<|jr ?_
 refine sT r (.agg r r (.tmp r (.nil))) r<|ec r<|al r fun b1=>so r r<|an r<|js<|sb r<|nf r<|sk<|sr<|lf 11 r r ?_
 refine lv (wZ (.tuple #[Pt rb 0, Tt]) rfl (fun w => by kernel_rfl)) rfl<|ed r<|an r<|js<|sb r<|nf r<|sk<|sb r<|lf 2 r r<|an r<|sb r<|fa 2 r<|so r r<|nj<|sb r<|lf 0 r r ?_
 refine ll r<|bJ r<|nf r<|sk<|sb r<|lf 0 r r<|lv (dx g r r (decide_eq_true (by omega)) r) r<|lv (aF 0 r r r) r<|an r<|sr<|ec r<|lf 0 r r<|lv (mv r r (decide_eq_true (by omega)) 1 R.length r r) r<|ea r<|fa 0 r<|so r r ?_
 refine nr<|ed r<|an r<|jr ?_
 exact bM r (.tmp r (.tmp r (.tmp r (.nil)))) () trivial r Ent.take
theorem Fc (a c : Nat) (s17 : Option Addr × Nat) (rb : Nat) (fm : Int -> Option Value) (io : fm 20 = some (.agg (vN rb).toArray)) : Kp prog 178 #[Pt a 0, I 20] ((aa (am a [Mp c] 289) (aa (az c .i64 fm) (am rb [.slice s17.1 0 s17.2, I 64, Ff] 341)))) (.tuple #[Z, Ff, I 23]) := by
 refine en func178 r fun _ F=>sr<|ec r<|nr<|eb r<|aW func193 r ?_
 refine sr<|al r fun b22=>an r<|js<|sa r<|ep false r<|nf r<|sk<|sb r<|lf 0 r r<|ea r<|lv (aN (v := .tuple #[.agg (vN rb).toArray, Tt]) r r (some (.agg (vN rb).toArray)) io r) r<|ec r<|al r fun b2=>so r r ?_
 refine an r<|js<|sb r<|nf r<|sk<|sr<|ls r<|so r r<|an r<|jr ?_
 refine sT r (.agg r r (.tmp r (.nil))) r<|ec r<|al r fun b1=>so r r<|an r<|js<|sb r<|nf r<|sk<|sr<|lf 11 r r ?_
 refine lv (wZ (.tuple #[Pt rb 0, Tt]) rfl (fun w => by kernel_rfl)) rfl<|ed r<|an r<|js<|sb r<|nf r<|sk<|sb r<|lf 2 r r<|an r<|sb r<|fa 2 r<|so r r<|nj<|sb r<|lf 0 r r ?_
 refine ll r<|an r<|ct r<|sr<|ed r<|nk<|jr<|kd ?_
 exact bM r (.tmp r (.tmp r (.tmp r (.nil)))) () trivial r Ent.take
end Sp
end Go.Proofs.YtpkcniedaabpoaaGreat
