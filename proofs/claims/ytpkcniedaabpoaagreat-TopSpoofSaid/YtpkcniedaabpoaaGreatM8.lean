/- Rules of a separation logic over the model, and what functions of the translation do; used by the texts that import this one. -/
import Derived.Test.YtpkcniedaabpoaaGreatM7
set_option linter.unusedVariables false
set_option linter.unusedSimpArgs false
namespace Go.Proofs.YtpkcniedaabpoaaGreat
open Go.SLA Go.Proofs.Tryz
set_option maxRecDepth 100000
set_option synthInstance.maxSize 200000
set_option synthInstance.maxHeartbeats 4000000
set_option maxHeartbeats 8000000
attribute [local irreducible] FSpec J K L OpV OpX QL Rd Rg bd
section
namespace Sp
open Mq
variable {p r : Nat} {ms : List ByteArray} {R : ab} {fm : Int -> Option Value}
def jW (r : Nat) (ms : List ByteArray) : ab := ex fun a : Option Addr × Nat => (aa (am r [.slice a.1 ms.length a.2, I 64, Ff] 341) (Ow 9 1 (.slice a.1 ms.length a.2) ms.length (iz ms)))
def RmP (p : Nat) (ms : List ByteArray) : ab := ex fun z : Nat × Nat × (Int -> Option Value) => (aa (SLA.lift (z.2.2 20 = some (.agg [I 20, I 1, I 1, I 2, Ff, I 10, I 0, I 5, I 100, I 64, I 0, .iface 339 (Pt z.2.1 0)].toArray))) (aa (am p [Mp z.1] 289) (aa (az z.1 .i64 z.2.2) (jW z.2.1 ms))))
theorem DC (r : Nat) (ms : List ByteArray) (d : ByteArray) (now : Int) (h : ms.length < 64) : Go.SLA.Sp prog 296 #[Pt r 0, I now, .string d] (jW r ms) (I 0) (jW r (ms ++ [d])) := by
 refine FSpec.ex fun a => ?_
 refine (EY r a ms d now h).conseq (ah _) fun y _ => ⟨(), trivial, rfl, ?_⟩
 refine Ent.trans (Ent.of ?_) (bh (f := fun a : Option Addr × Nat => (aa (am r [.slice a.1 (ms ++ [d]).length a.2, I 64, Ff] 341) (Ow 9 1 (.slice a.1 (ms ++ [d]).length a.2) (ms ++ [d]).length (iz (ms ++ [d]))))) y)
 rw [show (ms ++ [d]).length = ms.length + 1 by simp, show iz (ms ++ [d]) = iz ms ++ [.string d] by simp]
theorem om {f : FuncId} {args : Array Value} {X : Type} {φ : X -> Prop} {val : X -> Value} {Qo : X -> ab}
  (h : ∀ (m r : Nat) (fm : Int -> Option Value), fm 20 = some (.agg [I 20, I 1, I 1, I 2, Ff, I 10, I 0, I 5, I 100, I 64, I 0, .iface 339 (Pt r 0)].toArray) -> FSpec prog f args (aa (am p [Mp m] 289) (aa (az m .i64 fm) (aa (jW r ms) (R)))) φ val Qo) : FSpec prog f args (aa (RmP p ms) (R)) φ val Qo := by
 refine cC fun z =>FSpec.eq _ (ak _ _ _)<|aO fun io =>FSpec.eq _ (ak _ _ _) ?_
 exact FSpec.eq _ (congrArg (fun x => aa _ x) (ak _ _ _)) (h z.1 z.2.1 z.2.2 io)
theorem RmP.fold (m : Nat) (h : fm 20 = some (.agg [I 20, I 1, I 1, I 2, Ff, I 10, I 0, I 5, I 100, I 64, I 0, .iface 339 (Pt r 0)].toArray)) : Ent (aa (am p [Mp m] 289) (aa (az m .i64 fm) (jW r ms))) (RmP p ms) :=
 Ent.trans (Ent.lift h) (bh (f := fun z : Nat × Nat × (Int -> Option Value) => (aa (SLA.lift (z.2.2 20 = some (.agg [I 20, I 1, I 1, I 2, Ff, I 10, I 0, I 5, I 100, I 64, I 0, .iface 339 (Pt z.2.1 0)].toArray))) (aa (am p [Mp z.1] 289) (aa (az z.1 .i64 z.2.2) (jW z.2.1 ms))))) (m, r, fm))
abbrev _root_.Go.qq7 (a : Nat) : List Value := [I 20, I 1, I 1, I 2, Ff, I 10, I 0, I 5, I 100, I 64, I 0, .iface 339 (Pt a 0)]
theorem vV (m : Nat) (h : fm 20 = some (.agg (qq7 r).toArray)) : Ent (aa (am p [Mp m] 289) (aa (az m .i64 fm) (aa (jW r ms) (R)))) (aa (RmP p ms) (R)) := by
 refine Ent.trans (Ent.of ?_) ((RmP.fold (p := p) (ms := ms) m h).frame R)
 rw [ak, ak]
theorem DN (p : Nat) (d : ByteArray) (R : List ByteArray) (h : R.length <= 1000) : Go.SLA.Sp prog 178 #[Pt p 0, I 20] (RmP p (d :: R)) (.tuple #[.string d, Ff, I 0]) (RmP p R) := by
 refine FSpec.eq _ (cR _).symm (om fun m r fm io => ?_)
 rw [cR]
 refine FSpec.eq (aa (jW r (d :: R)) (aa (am p [Mp m] 289) (az m .i64 fm))) (by ac_rfl)<|cC fun a => ?_
 obtain ⟨a1, a2⟩ := a
 refine FSpec.eq (aa (Ow 9 1 (.slice a1 (d :: R).length a2) (d :: R).length (iz (d :: R))) ((aa (am r [.slice a1 (d :: R).length a2, I 64, Ff] 341) (aa (am p [Mp m] 289) (az m .i64 fm))))) (by show (aa ((aa (_) (_))) (aa (_) (_))) = _; ac_rfl) ?_
 refine FSpec.own (fun e0 e1 e2 => absurd e1 (by simp)) (fun b cap pre post e1 e2 e3 e4 e5 => ?_)
 simp only [Value.slice.injEq] at e1
 obtain ⟨e1, _, e6⟩ := e1
 subst e1 e6
 refine (Fb p m b pre.length a2 r R d h fm io).conseq ?_ fun _ _ => ⟨(), trivial, rfl, ?_⟩
 ·refine Ent.trans (Ent.frame (Ow.mk rfl e2 e3 (by simp) e5) _) (Ent.of ?_)
  show (aa (Ow 9 1 (Sk b pre.length (R.length + 1) a2) (R.length + 1) (.string d :: R.map Value.string)) (aa (am r [Sk b pre.length (R.length + 1) a2, I 64, Ff] 341) (aa (am p [Mp m] 289) (az m .i64 fm)))) = _
  ac_rfl
 ·haveI : DropL (Value.string d :: R.map Value.string) 1 (R.map Value.string) := ⟨rfl⟩
  have t : Ent (Ow 9 1 (Sk b pre.length (R.length + 1) a2) (R.length + 1) (.string d :: R.map Value.string)) (Ow 9 1 (Sk b (if a2 = 1 then pre.length else pre.length + 1 * 1) R.length (a2 - 1)) R.length (R.map Value.string)) := Ow.tail (l2 := R.map Value.string) 1 R.length rfl (by simp) (qm := 1) rfl
  have t2 : Ent (aa (am r [Sk b (if a2 = 1 then pre.length else pre.length + 1 * 1) R.length (a2 - 1), I 64, Ff] 341) (Ow 9 1 (Sk b pre.length (R.length + 1) a2) (R.length + 1) (.string d :: R.map Value.string))) (jW r R) := Ent.trans (aw t _) (bh (f := fun a : Option Addr × Nat => (aa (am r [.slice a.1 R.length a.2, I 64, Ff] 341) (Ow 9 1 (.slice a.1 R.length a.2) R.length (iz R)))) (_, _))
  refine Ent.trans (Ent.of ?_) (Ent.trans (Ent.frame t2 (aa (am p [Mp m] 289) (az m .i64 fm))) (Ent.trans (Ent.of ?_) (RmP.fold m io)))
  ·ac_rfl
  ·ac_rfl
theorem DO (p : Nat) : Kp prog 178 #[Pt p 0, I 20] (RmP p []) (.tuple #[Z, Ff, I 23]) := by
 refine FSpec.eq _ (cR _).symm (om fun m r fm io => ?_)
 rw [cR]
 refine FSpec.eq (aa (jW r []) (aa (am p [Mp m] 289) (az m .i64 fm))) (by ac_rfl)<|cC fun a => ?_
 refine ((Fc p m a r fm io).frame (Ow 9 1 (.slice a.1 0 a.2) 0 [])).conseq (Ent.of ?_) fun _ _ => ⟨(), trivial, rfl, ?_⟩
 ·show (aa ((aa (_) (_))) (aa (_) (_))) = _
  ac_rfl
 ·refine Ent.trans (Ent.of ?_) (Ent.trans (aw (bh (f := fun a : Option Addr × Nat => (aa (am r [.slice a.1 ([] : List ByteArray).length a.2, I 64, Ff] 341) (Ow 9 1 (.slice a.1 ([] : List ByteArray).length a.2) ([] : List ByteArray).length (iz ([] : List ByteArray))))) a) (aa (am p [Mp m] 289) (az m .i64 fm))) (Ent.trans (Ent.of (ak _ _ _)) (RmP.fold m io)))
  show (aa ((aa (_) (aa (_) (_)))) (_)) = (aa ((aa (_) (_))) ((aa (_) (_))))
  ac_rfl
end Sp
end
namespace Sp
attribute [local irreducible] JU aL
abbrev Dm (a : Int) (b : ByteArray) : List Value := [I 10, I 0, I 0, .string (aL 10 0 0 a b), .string (aL 10 0 1 a b)]
abbrev mF (a : Nat) (b c d e f g : Value) (h j k l m n : Nat) (o p : Int) (q : Nat) (r : Int) : ab := am a [b, c, d, e, f, g, I 0, Mp h, Sk j k l m, Pt n 0, I o, I p, Mp q, I r, Ns] 263
abbrev mE (a : Nat) (b c : Int) (d : Value) (e f : Nat) (g h : Int) : ab := am a [I 10, I 0, I b, I c, Ff, I 2, I 60000, d, Pt e 0, Pt f 0, I g, I h] 269
abbrev sF (a : Nat) (b : Int) (c : Bool) (d e f : Int) : ab := am a [.int .u64 b, .bool c, I d, I e, I f] 330
abbrev Do (a : Nat) (b c d : Int) : ab := am a [.int .u64 b, Tt, I c, I c, I (d + 1)] 330
abbrev Dn (a : Nat) (b : Int) (c : ByteArray) : ab := am a (Dm b c) 299
abbrev GI (a : Nat) (b : Int) (c : ByteArray) (d e : Int) : ab := Mq.LineP a [⟨b, aL 10 0 0 b c, d, d + (((aL 10 0 0 b c).size : Int) + 20)⟩] e (d + (((aL 10 0 0 b c).size : Int) + 20))
abbrev GH (a : Nat) (b : Int) (c d : ByteArray) : ab := az a .i64 (fun m' => if m' = b then some (.agg [I 10, I 0, I 0, .string c, .string d].toArray) else none)
theorem Bn (c d g j k l m o p q : Nat) (c0 c1 c2 c3 c4 c5 tos : Value) (n : Nat) (hn : n = 1 \/ n = 2 \/ n = 3) (bg P sm t id i since lat seen cnt cur free now a T : Int) (w : Bool) (hb : (bg = 0 /\ P = 12500) \/ (bg = 1 /\ P = 25000)) (hd : k7 P w lat since T) (R : List ByteArray) (gf : Int -> Option Value) (ql : List Mq.Sn) (h : 0 <= a /\ a <= 10000000 /\ 0 <= now /\ now <= a /\ cur <= a) (hl : ql.length <= 1000) (hq : ∀ s, s ∈ ql -> a < s.e) (hf : R.length = 0 \/ a < T) : Sp prog 162 #[Pt c 0, I a] ((aa (mF c c0 c1 c2 c3 c4 c5 d g j n k l now id m i) (aa (LkP n d g j k o) (aa (mE o bg sm tos p q i since) (aa (SubP p R t) (aa (sF q bg w lat seen cnt) (Mq.LineP l ql cur free))))))) (.tuple #[Ns, I 0]) ((aa (mF c c0 c1 c2 c3 c4 c5 d g j n k l a id m i) (aa (LkP n d g j k o) (aa (mE o bg sm tos p q i since) (aa (SubP p R t) (aa (sF q bg w lat seen cnt) (Mq.LineP l ql a free))))))) := by
 refine en func162 r fun _ F=>sb r<|nj<|sb r<|aW func185 r<|aE r<|js<|jb<|sa r<|ep false r<|an r<|cf r<|sa r<|bJ r<|ea r<|go r<|ea r<|go r<|bJ r<|bf r<|sr<|ec r<|lf 10 r r<|bJ r<|an r<|cf r<|cY<|aE r<|jr<|cX r<|an r<|sb r<|nf r<|sk<|sb r<|aW func186 r<|sr<|ec r<|fa 10 r<|so r r<|nj<|sb r<|cy (jh n c d g j k o p q hn (c0) (c1) (c2) (c3) (c4) (c5) (I 0) (Pt l 0) (I a) (I id) (Mp m) (I i) (Ns) (I 10) (I 0) (I bg) (I sm) (Ff) (I 2) (I 60000) (tos) (I i) R t bg P since lat seen cnt T a w hb hd hf) r fun _=>an r<|jl<|ju<|js<|sa r<|np false r<|nf r<|jx<|ke<|ke<|kh<|kt<|jg<|eb r<|cy (lT c l (c0) (c1) (c2) (c3) (c4) (c5) (I 0) (Mp d) (Sk g j n k) (I a) (I id) (Mp m) (I i) (Ns) ql cur free a (by omega) hl hq) r fun _=>ln<|jA r<|nr<|eb r<|lf 14 r r<|an r<|sb r ?_
 refine fa 14 r<|so r r<|nr<|ec r<|nk<|jr<|r2 r Ent.take
theorem Bm (c e g j k l m o p q : Nat) (c0 c1 c2 c3 c4 c5 tos : Value) (n : Nat) (hn : n = 1 \/ n = 2 \/ n = 3) (bg P sm t id i since lat seen cnt cur free now a T : Int) (w : Bool) (hb : (bg = 0 /\ P = 12500) \/ (bg = 1 /\ P = 25000)) (hd : k7 P w lat since T) (R : List ByteArray) (d : ByteArray) (ht : t = 0 \/ t = 1) (hR : R.length <= 1000) (h : 0 <= a /\ a <= 10000000 /\ 0 <= now /\ now <= a /\ cur <= a /\ 0 <= T /\ T <= a /\ a < T + 64 /\ 0 <= free /\ free <= T /\ cur <= T /\ 0 <= seen /\ seen <= T /\ 0 <= cnt /\ cnt <= 1000 /\ 0 <= i /\ i <= 100 /\ d.size <= 1000) : Kp prog 210 #[Pt c 0, Pt e 0, .string d] ((aa (mE e bg sm tos g j i since) (mF c c0 c1 c2 c3 c4 c5 k l m n o p a id q i))) (.agg [.string (aL 10 0 0 i d), .string (aL 10 0 1 i d)].toArray) := by
 refine en func210 r fun _ F=>sr<|al r fun b1=>nr<|al r fun b2=>nj<|aE r<|jl<|ut r<|js<|jb<|sb r<|nk<|av ((aa (mE e bg sm tos g j i since) (mF c c0 c1 c2 c3 c4 c5 k l m n o p a id q i))) (emp) [] ae<|pe 0 r r<|pe 1 r r<|pe 2 r r<|pf 3 0 r r<|pf 4 0 r r<|pe 6 r r<|pe 7 r r<|pf 8 6 r r<|pe 10 r r<|pe 11 r r<|pe 12 r r<|pf 13 10 r r<|pe 15 r r<|pl 5 r r r<|pl 9 r r r<|pl 14 r r r<|ps 16 r (af r)<|pn 17 r (ai (k6 10 0 0 i d (by decide) (by decide) (by omega) (by omega)) r r r) fun _ _=>pe 18 r r<|pe 19 r r<|pe 20 r r<|ps 21 r (bZ 0 r r r r)<|pn 22 r (aI r r r (List.all_eq_true.1 r)) fun _ _=>dn<|ni (I 1) r<|ut r<|js<|jb<|sb r<|nk<|av ((aa (mE e bg sm tos g j i since) (mF c c0 c1 c2 c3 c4 c5 k l m n o p a id q i))) (emp) [] ae<|pe 0 r r<|pe 1 r r<|pe 2 r r<|pf 3 0 r r<|pf 4 0 r r<|pe 6 r r<|pe 7 r r<|pf 8 6 r r<|pe 10 r r<|pe 11 r r<|pe 12 r r<|pf 13 10 r r<|pe 15 r r<|pl 5 r r r<|pl 9 r r r<|pl 14 r r r<|ps 16 r (af r)<|pn 17 r (ai (k6 10 0 1 i d (by decide) (by decide) (by omega) (by omega)) r r r) fun _ _=>pe 18 r r<|pe 19 r r<|pe 20 r r<|ps 21 r (bZ 1 r r r r) ?_
 refine pn 22 r (aI r r r (List.all_eq_true.1 r)) fun _ _=>dn<|ni (I 2) r<|uf r<|kt<|sr<|ls r<|so r r<|nk<|jr ?_
 exact bM r (.agg r r (.nil)) () trivial r Ent.take
theorem Ek (c e g j k l m o p q : Nat) (c0 c1 c2 c3 c4 c5 tos : Value) (n : Nat) (hn : n = 1 \/ n = 2 \/ n = 3) (bg P sm t id i since lat seen cnt cur free now a T : Int) (w : Bool) (hb : (bg = 0 /\ P = 12500) \/ (bg = 1 /\ P = 25000)) (hd : k7 P w lat since T) (R : List ByteArray) (d : ByteArray) (ht : t = 0 \/ t = 1) (hR : R.length <= 1000) (h : 0 <= a /\ a <= 10000000 /\ 0 <= now /\ now <= a /\ cur <= a /\ 0 <= T /\ T <= a /\ a < T + 64 /\ 0 <= free /\ free <= T /\ cur <= T /\ 0 <= seen /\ seen <= T /\ 0 <= cnt /\ cnt <= 1000 /\ 0 <= i /\ i <= 100 /\ d.size <= 1000) : Sp prog 186 #[Pt c 0, I a] ((aa (mF c c0 c1 c2 c3 c4 c5 e g j n k l now id m i) (aa (LkP n e g j k o) (aa (mE o bg sm tos p q i since) (aa (SubP p (d :: R) t) (aa (sF q bg w lat seen cnt) (aa (Mq.LineP l [] cur free) (az m .i64 (fun _ => none))))))))) (.tuple #[]) ((aa (am c [c0, c1, c2, c3, c4, c5, I 0, Mp e, Sk g j n k, Pt l 0, I a, I id, Mp m, I (i + 1), Ns] 263) (aa (LkP n e g j k o) (aa (am o [I 10, I 0, I bg, I sm, Ff, I 2, I 60000, tos, Pt p 0, Pt q 0, I (i + 1), I T] 269) (aa (SubP p R 1) (aa (Do q bg T cnt) (aa (GI l i d T a) (az m .i64 (fun m' => if m' = i then some (.agg (Dm i d).toArray) else (fun _ => none) m'))))))))) := by
 refine en func186 r fun _ F=>sr<|ec r<|fa 10 r<|so r r<|nj<|sb r<|cy (qp n c e g j k o p q hn (c0) (c1) (c2) (c3) (c4) (c5) (I 0) (Pt l 0) (I a) (I id) (Mp m) (I i) (Ns) (I 10) (I 0) (I bg) (I sm) (Ff) (I 2) (I 60000) (tos) (I i) (d :: R) t bg P since lat seen cnt T a w hb hd ⟨by simp, by omega⟩) rfl fun _=>an r<|jl<|ju<|js<|sa r<|np true r<|nt r<|sk<|js<|jb<|sa r<|cy (qu o q (I 10) (I 0) (I bg) (I sm) (Ff) (I 2) (I 60000) (tos) (Pt p 0) (I i) bg P since lat seen cnt T w hb hd) r fun _=>an r<|sb r<|cy (lT c l (c0) (c1) (c2) (c3) (c4) (c5) (I 0) (Mp e) (Sk g j n k) (I a) (I id) (Mp m) (I i) (Ns) ([]) cur free T (by omega) (by simp) (fun _ h => absurd h (by simp))) r fun _=>nr<|eb r<|lf 8 r r<|cy (yz p d R t ht hR) r fun _=>ed r<|ec r<|nr<|eb r<|lf 9 r r<|ea r<|cy (qj q bg P lat since seen cnt T w hb hd (by omega)) r fun _=>nk ?_
 refine gO (X := Nat) (fun x5 => [(0, Pt c 0), (1, I a), (4, Pt o 0), (18, Tt), (5, I T), (7, .string d), (9, Pt x5 0)]) (fun x5 => (aa (LkP n e g j k o) (aa (SubP p R 1) (aa (Do q bg T cnt) (aa (Mq.LineP l [] T free) (aa (mE o bg sm tos p q i since) (aa (mF c c0 c1 c2 c3 c4 c5 e g j n k l a id m i) (aa (Dn x5 i d) (aa (az m .i64 (fun _ => none)) (F)))))))))) (fun _ => True) ?_ (fun x5 _ => ?_)
 ·refine av (mE o bg sm tos p q i since) (emp) [] ae<|pe 0 r r<|pe 1 r r<|pf 2 0 r r<|pf 3 0 r r<|pe 5 r r<|pe 6 r r<|pe 7 r r<|pl 4 r r r ?_
  refine k8 [8, 10] (by kernel_rfl) rfl fun i hi => ?_
  simp only [List.mem_cons, List.not_mem_nil, or_false] at hi
  rcases hi with rfl | rfl
  ·refine bT r r (ai (Bm c o p q e g j k l m c0 c1 c2 c3 c4 c5 tos n hn bg P sm t id i since lat seen cnt cur free now a T w hb hd R d ht hR h) r r r) fun _ _=>ps 9 r (af r)<|pn 10 r (bq r) fun b3 _=>?_
   refine pn 11 r (aI r r r (List.all_eq_true.1 r)) fun _ _=>dn<|kc b3 r Ent.take
  ·refine bT r r (bq r) fun b4 _=>pn 8 r (ai (Bm c o p q e g j k l m c0 c1 c2 c3 c4 c5 tos n hn bg P sm t id i since lat seen cnt cur free now a T w hb hd R d ht hR h) r r r) fun _ _=>ps 9 r (af r) ?_
   refine pn 11 r (aI r r r (List.all_eq_true.1 r)) fun _ _=>dn<|kc b4 r Ent.take
 ·refine js<|av ((aa (mF c c0 c1 c2 c3 c4 c5 e g j n k l a id m i) (Dn x5 i d))) (emp) [] ae<|pe 0 r r<|pe 1 r r<|pf 2 9 r r<|pe 4 r r<|pe 5 r r<|pe 6 r r<|pf 7 13 r r<|pf 9 3 r r<|ps 10 r (bZ 3 r r r r)<|pl 3 r r r<|pl 8 r r r<|pl 11 r r r<|pn 12 r (ai (qR l T free T i (aL 10 0 0 i d) (by have := cB 10 0 0 i d; omega)) r r r) fun _ _=>dn ?_
  refine kt<|js<|av ((aa (mF c c0 c1 c2 c3 c4 c5 e g j n k l a id m i) (Dn x5 i d))) (emp) [] ae<|pe 0 r r<|pe 1 r r<|pf 2 12 r r<|pe 4 r r<|pe 5 r r<|pf 6 13 r r<|pl 3 r r r<|pl 7 r r r<|ps 8 r (ax r)<|pn 9 r (dh r r r) fun _ _=>dn<|kt<|sb r<|lf 13 r r<|gE r<|ea r<|fa 13 r<|so r r<|nk<|jg<|ed r<|lf 10 r r<|aW func212 r<|aE r<|js<|sa r<|bJ r<|ea r<|go r<|ea r<|go r<|bJ r<|an r<|cf r<|sk<|sa r<|gE r<|an r<|jr<|cX r<|eb r<|fa 10 r<|so r r<|ea r<|fa 11 r<|so r r<|ln<|kb<|kt<|jg<|eb r<|cy (jh n c e g j k o p q hn (c0) (c1) (c2) (c3) (c4) (c5) (I 0) (Pt l 0) (I a) (I id) (Mp m) (I (i + 1)) (Ns) (I 10) (I 0) (I bg) (I sm) (Ff) (I 2) (I 60000) (tos) (I (i + 1)) R 1 bg P T T T (cnt + 1) (T + P) a true hb (.inr ⟨rfl, rfl, by omega, by omega, by omega, by omega⟩) (.inr (by omega))) r fun _=>ea r<|kr<|ju<|js<|sa r<|np false r<|nf r<|jx<|ke<|ke ?_
  refine kh<|kt<|jg<|eb r<|cy (lT c l (c0) (c1) (c2) (c3) (c4) (c5) (I 0) (Mp e) (Sk g j n k) (I a) (I id) (Mp m) (I (i + 1)) (Ns) ([⟨i, aL 10 0 0 i d, T, T + (((aL 10 0 0 i d).size : Int) + 20)⟩]) T (T + (((aL 10 0 0 i d).size : Int) + 20)) a (by omega) (by simp) (fun s hs => by rw [List.mem_singleton.1 hs]; have := cB 10 0 0 i d; dsimp only; omega)) rfl fun _=>ln<|z0 r Ent.take
theorem Ej (c e g j k l m o p q : Nat) (c0 c1 c2 c3 c4 c5 tos : Value) (n : Nat) (hn : n = 1 \/ n = 2 \/ n = 3) (bg P sm t id i since lat seen cnt cur free now a T : Int) (w : Bool) (hb : (bg = 0 /\ P = 12500) \/ (bg = 1 /\ P = 25000)) (hd : k7 P w lat since T) (R : List ByteArray) (d : ByteArray) (ht : t = 0 \/ t = 1) (hR : R.length <= 1000) (h : 0 <= a /\ a <= 10000000 /\ 0 <= now /\ now <= a /\ cur <= a /\ 0 <= T /\ T <= a /\ a < T + 64 /\ 0 <= free /\ free <= T /\ cur <= T /\ 0 <= seen /\ seen <= T /\ 0 <= cnt /\ cnt <= 1000 /\ 0 <= i /\ i <= 100 /\ d.size <= 1000) : Sp prog 162 #[Pt c 0, I a] ((aa (mF c c0 c1 c2 c3 c4 c5 e g j n k l now id m i) (aa (LkP n e g j k o) (aa (mE o bg sm tos p q i since) (aa (SubP p (d :: R) t) (aa (sF q bg w lat seen cnt) (aa (Mq.LineP l [] cur free) (az m .i64 (fun _ => none))))))))) (.tuple #[Ns, I 0]) ((aa (am c [c0, c1, c2, c3, c4, c5, I 0, Mp e, Sk g j n k, Pt l 0, I a, I id, Mp m, I (i + 1), Ns] 263) (aa (LkP n e g j k o) (aa (am o [I 10, I 0, I bg, I sm, Ff, I 2, I 60000, tos, Pt p 0, Pt q 0, I (i + 1), I T] 269) (aa (SubP p R 1) (aa (Do q bg T cnt) (aa (GI l i d T a) (az m .i64 (fun m' => if m' = i then some (.agg (Dm i d).toArray) else (fun _ => none) m'))))))))) := by
 refine en func162 r fun _ F=>sb r<|nj<|sb r<|aW func185 r<|aE r<|js<|jb<|sa r<|ep false r<|an r<|cf r<|sa r<|bJ r<|ea r<|go r<|ea r<|go r<|bJ r<|bf r<|sr<|ec r<|lf 10 r r<|bJ r<|an r<|cf r<|cY<|aE r<|jr<|cX r<|an r<|sb r<|nf r<|sk<|sb r<|cu (Ek c e g j k l m o p q c0 c1 c2 c3 c4 c5 tos n hn bg P sm t id i since lat seen cnt cur free now a T w hb hd R d ht hR h) r<|nr<|eb r<|lf 14 r r<|an r<|sb r ?_
 refine fa 14 r<|so r r<|nr<|ec r<|nk<|jr<|r2 r Ent.take
theorem Eo (c d e g j l m o p q : Nat) (c0 c1 c2 c3 c4 c5 tos : Value) (n : Nat) (hn : n = 1 \/ n = 2 \/ n = 3) (bg P sm t id i since lat seen cnt cur free now a T : Int) (w : Bool) (hb : (bg = 0 /\ P = 12500) \/ (bg = 1 /\ P = 25000)) (hd : k7 P w lat since T) (R : List ByteArray) (x0 x1 : ByteArray) (k xb xe : Int) (h : 0 <= a /\ a <= 10000000 /\ 0 <= now /\ now <= a /\ cur <= a /\ xe <= a) (hf : R.length = 0 \/ a < T) : FSpec prog 186 #[Pt c 0, I a] ((aa (mF c c0 c1 c2 c3 c4 c5 d e g n j l now id m i) (aa (LkP n d e g j o) (aa (mE o bg sm tos p q i since) (aa (SubP p R t) (aa (sF q bg w lat seen cnt) (aa (Mq.LineP l [⟨k, x0, xb, xe⟩] cur free) (GH m k x0 x1)))))))) (fun _ : Nat × Nat × Nat => True) (fun y => .tuple #[]) (fun y => (aa (am c [c0, c1, c2, c3, c4, c5, I 0, Mp d, Sk e g n j, Pt l 0, I a, I id, Mp m, I i, Sk y.1 y.2.1 1 y.2.2] 263) (aa (LkP n d e g j o) (aa (mE o bg sm tos p q i since) (aa (SubP p R t) (aa (sF q bg w lat seen cnt) (aa (Mq.LineP l [] a free) (aa (az m .i64 (fun _ => none)) (Ow 299 5 (Sk y.1 y.2.1 1 y.2.2) 1 [I 10, I xb, I xe, .string x0, .string x1]))))))))) := by
 refine en func186 r fun _ F=>sr<|ec r<|fa 10 r<|so r r<|nj<|sb r<|cy (jh n c d e g j o p q hn (c0) (c1) (c2) (c3) (c4) (c5) (I 0) (Pt l 0) (I a) (I id) (Mp m) (I i) (Ns) (I 10) (I 0) (I bg) (I sm) (Ff) (I 2) (I 60000) (tos) (I i) R t bg P since lat seen cnt T a w hb hd hf) r fun _=>an r<|jl<|ju<|js<|sa r<|np false r<|nf r<|jx<|ke<|ke<|kh<|kt<|jg<|eb r<|cy (xO c l m (c0) (c1) (c2) (c3) (c4) (c5) (I 0) (Mp d) (Sk e g n j) (I a) (I id) (I i) x0 x1 x0 10 k xb xe cur free a (by omega) (by omega)) r fun y1=>ln ?_
 exact ug r (.nil) (y1.1, y1.2.1, y1.2.2) trivial r Ent.take
theorem Em (c d e g j l m o p q : Nat) (c0 c1 c2 c3 c4 c5 tos : Value) (n : Nat) (hn : n = 1 \/ n = 2 \/ n = 3) (bg P sm t id i since lat seen cnt cur free now a T : Int) (w : Bool) (hb : (bg = 0 /\ P = 12500) \/ (bg = 1 /\ P = 25000)) (hd : k7 P w lat since T) (R : List ByteArray) (x0 x1 : ByteArray) (k xb xe : Int) (h : 0 <= a /\ a <= 10000000 /\ 0 <= now /\ now <= a /\ cur <= a /\ xe <= a) (hf : R.length = 0 \/ a < T) : FSpec prog 162 #[Pt c 0, I a] ((aa (mF c c0 c1 c2 c3 c4 c5 d e g n j l now id m i) (aa (LkP n d e g j o) (aa (mE o bg sm tos p q i since) (aa (SubP p R t) (aa (sF q bg w lat seen cnt) (aa (Mq.LineP l [⟨k, x0, xb, xe⟩] cur free) (GH m k x0 x1)))))))) (fun _ : Nat × Nat × Nat => True) (fun y => .tuple #[Sk y.1 y.2.1 1 y.2.2, I 0]) (fun y => (aa (mF c c0 c1 c2 c3 c4 c5 d e g n j l a id m i) (aa (LkP n d e g j o) (aa (mE o bg sm tos p q i since) (aa (SubP p R t) (aa (sF q bg w lat seen cnt) (aa (Mq.LineP l [] a free) (aa (az m .i64 (fun _ => none)) (Ow 299 5 (Sk y.1 y.2.1 1 y.2.2) 1 [I 10, I xb, I xe, .string x0, .string x1]))))))))) := by
 refine en func162 r fun _ F=>sb r<|nj<|sb r<|aW func185 r<|aE r<|js<|jb<|sa r<|ep false r<|an r<|cf r<|sa r<|bJ r<|ea r<|go r<|ea r<|go r<|bJ r<|bf r<|sr<|ec r<|lf 10 r r<|bJ r<|an r<|cf r<|cY<|aE r<|jr<|cX r<|an r<|sb r<|nf r<|sk<|sb r<|cy (Eo c d e g j l m o p q c0 c1 c2 c3 c4 c5 tos n hn bg P sm t id i since lat seen cnt cur free now a T w hb hd R x0 x1 k xb xe h hf) r fun y1=>nr<|eb r<|lf 14 r r<|an r<|sb r<|fa 14 r<|so r r<|nr<|ec r<|nk<|jr ?_
 exact bM r (.tmp r (.tmp r (.nil))) (y1.1, y1.2.1, y1.2.2) trivial r Ent.take
end Sp
namespace Sp
attribute [local irreducible] JU
abbrev n9 (a : Nat) (b c d e f g : Value) (h j k l m n o : Nat) (p : Int) : ab := am a [b, c, d, e, f, g, Sk h j 3 k, Pt l 0, Pt m 0, Mp n, Mp o, Ns, I p] 142
abbrev sy (a b c d e f : Nat) : ab := Ow 145 1 (Sk a b 3 c) 3 [Pt d 0, Pt e 0, Pt f 0]
abbrev Az (a b c : Nat) (d : ByteArray) (e f : Int) : ab := Ow 305 5 (Sk a b 1 c) 1 [I 1, I 10, .string d, I e, I f]
theorem Bt (c d : Nat) (g0 g1 g2 g3 g4 g5 : Value) (now a : Int) (k0 k1 k2 w0 w1 : Nat) (cS : Int -> Int) (A0 A1 B0 B1 C0 C1 U0 U1 V0 V1 : ab) (hA0 : Go.SLA.Sp prog 135 #[Pt k0 0, I a] A0 (.tuple #[Ns, I 0]) A1) (hB0 : Go.SLA.Sp prog 135 #[Pt k1 0, I a] B0 (.tuple #[Ns, I 0]) B1) (hC0 : Go.SLA.Sp prog 135 #[Pt k2 0, I a] C0 (.tuple #[Ns, I 0]) C1) (hU0 : Go.SLA.Sp prog 137 #[Pt w0 0, I a] U0 (.tuple #[Ns, I 0]) U1) (hV0 : Go.SLA.Sp prog 137 #[Pt w1 0, I a] V0 (.tuple #[Ns, I 0]) V1) : Kp prog 161 #[Ns, .func (.func 159) #[] #[Pt c 0, Pt d 0]] (emp) (Ns) := by
 refine en func161 r fun _ F=>bG<|aE r<|sb r<|aW func184 r ?_
 refine aE r<|js<|sa r<|ll r<|an r<|jl<|uf r<|kt<|aE r<|jr<|cX r<|an r<|js<|sb r<|nt r<|sb r<|nk<|jr<|kd<|r1 r Ent.take
theorem EF (c d e g h j : Nat) (g0 g1 g2 g3 g4 g5 : Value) (now a : Int) (k0 k1 k2 w0 w1 : Nat) (cS : Int -> Int) (A0 A1 B0 B1 C0 C1 U0 U1 V0 V1 : ab) (hA0 : Go.SLA.Sp prog 135 #[Pt k0 0, I a] A0 (.tuple #[Ns, I 0]) A1) (hB0 : Go.SLA.Sp prog 135 #[Pt k1 0, I a] B0 (.tuple #[Ns, I 0]) B1) (hC0 : Go.SLA.Sp prog 135 #[Pt k2 0, I a] C0 (.tuple #[Ns, I 0]) C1) (hU0 : Go.SLA.Sp prog 137 #[Pt w0 0, I a] U0 (.tuple #[Ns, I 0]) U1) (hV0 : Go.SLA.Sp prog 137 #[Pt w1 0, I a] V0 (.tuple #[Ns, I 0]) V1) : Sp prog 99 #[Pt c 0, I a] ((aa (n9 c g0 g1 g2 g3 g4 g5 d e g w0 w1 h j now) (aa (sy d e g k0 k1 k2) (aa (A0) (aa (B0) (aa (C0) (aa (U0) (V0)))))))) (.tuple #[]) ((aa (n9 c g0 g1 g2 g3 g4 g5 d e g w0 w1 h j now) (aa (sy d e g k0 k1 k2) (aa (A1) (aa (B1) (aa (C1) (aa (U1) (V1)))))))) := by
 refine en func99 r fun _ F=>js<|aE r<|jl<|ut r<|js<|jb<|sb r<|nk<|jg<|ec r<|aW func134 r<|sr<|bx r fun b1=>bx r fun b2=>nr<|lv (aB r r) r<|an r<|js<|sb r<|lf 11 r r<|ll r<|an r<|jl<|uf r<|kt<|jg<|ec r<|lf 11 r r<|ea r<|cu (Bt b2 b1 g0 g1 g2 g3 g4 g5 now a k0 k1 k2 w0 w1 cS A0 A1 B0 B1 C0 C1 U0 U1 V0 V1 hA0 hB0 hC0 hU0 hV0) r<|ea r<|fa 11 r<|so r r<|ln<|jA r<|ln<|ni (I 1) r<|ut r<|js<|jb<|sb r<|nk<|jg<|ec r<|aW func134 r<|sr<|bx r fun b21=>bx r fun b22=>nr<|lv (aB r r) r<|an r<|js<|sb r<|lf 11 r r<|ll r<|an r<|jl<|uf r<|kt<|jg ?_
 refine ec r<|lf 11 r r<|ea r<|cu (Bt b22 b21 g0 g1 g2 g3 g4 g5 now a k0 k1 k2 w0 w1 cS A0 A1 B0 B1 C0 C1 U0 U1 V0 V1 hA0 hB0 hC0 hU0 hV0) r<|ea r<|fa 11 r<|so r r<|ln<|jA r<|ln<|ni (I 2) r<|uf r<|kt<|js<|sb r<|lf 6 r r<|ll r<|an r<|jl<|ut r<|js<|jb<|sa r<|ix e r r<|lv (aF 0 r r r) r<|eb r<|nr<|eb r<|cy hA0 r fun _=>ed r<|an r<|sa r<|ll r<|an r<|jl<|uf r<|ni (I 1) r<|ut r<|js<|jb<|sa r<|ix (e + 1) r r<|lv (aF 1 r r r) r<|eb r<|nr<|eb r<|cy hB0 r fun _=>ed r<|an r<|sa r<|ll r<|an r<|jl<|uf r<|ni (I 2) r<|ut r<|js<|jb<|sa r<|ix (e + 2) r r<|lv (aF 2 r r r) r<|eb r<|nr<|eb r<|cy hC0 r fun _=>ed r<|an r ?_
 exact sa r<|ll r<|an r<|jl<|uf r<|ni (I 3) r<|uf r<|kt<|sb r<|fa 7 r<|ls r<|an r<|jl<|ut r<|js<|jb<|sa r<|lv (fG r r r r) r<|eb r<|nr<|eb r<|cy hU0 r fun _=>ed r<|an r<|sa r<|ll r<|an r<|jl<|uf r<|ni (I 1) r<|ut r<|js<|jb<|sa r<|lv (fG r r r r) r<|eb r<|nr<|eb r<|cy hV0 r fun _=>ed r<|an r<|sa r<|ll r<|an r<|jl<|uf r<|ni (I 2) r<|uf r<|z0 r Ent.take
theorem Bu (c d : Nat) (g0 g1 g2 g3 g4 g5 : Value) (now a : Int) (k0 k1 k2 w0 w1 : Nat) (cS : Int -> Int) (A0 A1 B0 B1 C0 C1 U0 U1 U2 V0 V1 V2 : ab) (x0 x1 : ByteArray) (xb xe : Int) (hA0 : Go.SLA.FSpec prog 135 #[Pt k0 0, I a] A0 (fun _ : Nat × Nat × Nat => True) (fun y => .tuple #[Sk y.1 y.2.1 1 y.2.2, I 0]) (fun y => (aa (A1) (Ow 299 5 (Sk y.1 y.2.1 1 y.2.2) 1 [I 10, I xb, I xe, .string x0, .string x1])))) (hB0 : Go.SLA.Sp prog 135 #[Pt k1 0, I a] B0 (.tuple #[Ns, I 0]) B1) (hC0 : Go.SLA.Sp prog 135 #[Pt k2 0, I a] C0 (.tuple #[Ns, I 0]) C1) (hU0 : Go.SLA.Sp prog 62 #[Pt w0 0, I a, I 0, .string x0, I 0] U0 (I 0) U1) (hV0 : Go.SLA.Sp prog 62 #[Pt w1 0, I a, I 0, .string x1, I 0] V0 (I 0) V1) (hU1 : Go.SLA.Sp prog 137 #[Pt w0 0, I a] U1 (.tuple #[Ns, I 0]) U2) (hV1 : Go.SLA.Sp prog 137 #[Pt w1 0, I a] V1 (.tuple #[Ns, I 0]) V2) : Kp prog 161 #[Ns, .func (.func 159) #[] #[Pt c 0, Pt d 0]] (emp) (Ns) := by
 refine en func161 r fun _ F=>bG<|aE r<|sb r<|aW func184 r ?_
 refine aE r<|js<|sa r<|ll r<|an r<|jl<|uf r<|kt<|aE r<|jr<|cX r<|an r<|js<|sb r<|nt r<|sb r<|nk<|jr<|kd<|r1 r Ent.take
theorem EG (c d e g h j : Nat) (g0 g1 g2 g3 g4 g5 : Value) (now a : Int) (k0 k1 k2 w0 w1 : Nat) (cS : Int -> Int) (A0 A1 B0 B1 C0 C1 U0 U1 U2 V0 V1 V2 : ab) (x0 x1 : ByteArray) (xb xe : Int) (hA0 : Go.SLA.FSpec prog 135 #[Pt k0 0, I a] A0 (fun _ : Nat × Nat × Nat => True) (fun y => .tuple #[Sk y.1 y.2.1 1 y.2.2, I 0]) (fun y => (aa (A1) (Ow 299 5 (Sk y.1 y.2.1 1 y.2.2) 1 [I 10, I xb, I xe, .string x0, .string x1])))) (hB0 : Go.SLA.Sp prog 135 #[Pt k1 0, I a] B0 (.tuple #[Ns, I 0]) B1) (hC0 : Go.SLA.Sp prog 135 #[Pt k2 0, I a] C0 (.tuple #[Ns, I 0]) C1) (hU0 : Go.SLA.Sp prog 62 #[Pt w0 0, I a, I 0, .string x0, I 0] U0 (I 0) U1) (hV0 : Go.SLA.Sp prog 62 #[Pt w1 0, I a, I 0, .string x1, I 0] V0 (I 0) V1) (hU1 : Go.SLA.Sp prog 137 #[Pt w0 0, I a] U1 (.tuple #[Ns, I 0]) U2) (hV1 : Go.SLA.Sp prog 137 #[Pt w1 0, I a] V1 (.tuple #[Ns, I 0]) V2) : Sp prog 99 #[Pt c 0, I a] ((aa (n9 c g0 g1 g2 g3 g4 g5 d e g w0 w1 h j now) (aa (sy d e g k0 k1 k2) (aa (A0) (aa (mapc j .i64 cS) (aa (eX h [.int .i64, .int .i64, .int .i64] (fun _ => none)) (aa (U0) (aa (V0) (aa (B0) (C0)))))))))) (.tuple #[]) ((aa (n9 c g0 g1 g2 g3 g4 g5 d e g w0 w1 h j now) (aa (sy d e g k0 k1 k2) (aa (A1) (aa (mapc j .i64 (fun m' => if m' = 10 then IntKind.wrap .i64 ((cS 10) + 1) else cS m')) (aa (eX h [.int .i64, .int .i64, .int .i64] (fun _ => none)) (aa (U2) (aa (V2) (aa (B1) (C1)))))))))) := by
 refine en func99 r fun _ F=>js<|aE r<|jl<|ut r<|js<|jb<|sb r<|nk<|jg<|ec r<|aW func134 r<|sr<|bx r fun b1=>bx r fun b25=>nr<|lv (aB r r) r<|an r<|js<|sb r<|lf 11 r r<|ll r<|an r<|jl<|uf r<|kt<|jg<|ec r<|lf 11 r r<|ea r<|cu (Bu b25 b1 g0 g1 g2 g3 g4 g5 now a k0 k1 k2 w0 w1 cS A0 A1 B0 B1 C0 C1 U0 U1 U2 V0 V1 V2 x0 x1 xb xe hA0 hB0 hC0 hU0 hV0 hU1 hV1) r<|ea r<|fa 11 r<|so r r<|ln<|jA r<|ln<|ni (I 1) r<|ut r<|js<|jb<|sb r<|nk<|jg<|ec r<|aW func134 r<|sr<|bx r fun b26=>bx r fun b27=>nr<|lv (aB r r) r<|an r<|js<|sb r<|lf 11 r r<|ll r<|an r<|jl<|uf r<|kt<|jg ?_
 refine ec r<|lf 11 r r<|ea r<|cu (Bu b27 b26 g0 g1 g2 g3 g4 g5 now a k0 k1 k2 w0 w1 cS A0 A1 B0 B1 C0 C1 U0 U1 U2 V0 V1 V2 x0 x1 xb xe hA0 hB0 hC0 hU0 hV0 hU1 hV1) r<|ea r<|fa 11 r<|so r r<|ln<|jA r<|ln<|ni (I 2) r<|uf r<|kt<|js<|sb r<|lf 6 r r<|ll r<|an r<|jl<|ut r<|js<|jb<|sa r<|ix e r r<|lv (aF 0 r r r) r<|eb r<|nr<|eb r<|cy hA0 r fun y1=>ed r<|an r<|sa r<|ll r<|an r<|jl<|ut r<|js<|jb<|sr<|ix y1.2.1 r r<|lv (bP 0 r r) r<|al r fun b2=>so r r<|nk<|jg<|ec r<|ls r<|aW func136 r<|sr<|bx r fun b28=>nj<|sr<|fa 3 r<|ls r<|an r<|jl<|ut r<|js<|jb<|sa r<|lv (fG r r r r) r<|eb r<|nr ?_
 refine ec r<|lv (af r) r<|al r fun b29=>so r r<|nj<|dM ae<|qb r<|qf 9 r<|ql r r<|qf 0 r<|ql r r<|qb r<|qf 10 r<|ql r r<|qf 0 r<|ql r r<|qv (eh r r (cS 10) r) r<|qa r<|qv (af r) r<|qv (fX (v := I 0) r r (by simp [Shape, CK.sh]) none (by simp [ek]) r) r<|qa r<|qn<|kt<|jb<|sr<|ec r<|nt r<|jg<|eb r<|ls r<|aW func160 r<|sr<|bx r fun b23=>nk<|av ((aa (am b23 [I 0, I 0, I 0, .string x0] 343) (n9 c g0 g1 g2 g3 g4 g5 d e g w0 w1 h j now))) (emp) [] ae<|pe 0 r r<|pf 1 2 r r<|pe 3 r r<|pf 4 7 r r<|pe 7 r r<|pf 8 1 r r<|pf 10 3 r r<|pl 2 r r r<|ps 5 r (bZ 7 r r r r)<|pl 6 r r r<|pl 9 r r r<|pl 11 r r r<|pn 12 r (ai (hU0) r r r) fun _ _=>dn<|jA r<|ln<|kb<|ni (I 1) r<|ut r<|js<|jb<|sa r<|lv (fG r r r r) r<|eb r<|nr<|ec r<|lv (af r) r<|al r fun b3=>so r r<|nj<|dM ae<|qb r ?_
 refine qf 9 r<|ql r r<|qf 0 r<|ql r r<|qb r<|qf 10 r<|ql r r<|qf 0 r<|ql r r<|qv (eh r r (cS 10) r) r<|qa r<|qv (af r) r<|qv (fX (v := I 0) r r (by simp [Shape, CK.sh]) none (by simp [ek]) r) r<|qa r<|qn<|kt<|jb<|sr<|ec r<|nt r<|jg<|eb r<|ls r<|aW func160 r<|sr<|bx r fun b24=>nk<|av ((aa (am b24 [I 0, I 0, I 1, .string x1] 343) (n9 c g0 g1 g2 g3 g4 g5 d e g w0 w1 h j now))) (emp) [] ae<|pe 0 r r<|pf 1 2 r r<|pe 3 r r<|pf 4 7 r r<|pe 7 r r<|pf 8 1 r r<|pf 10 3 r r<|pl 2 r r r<|ps 5 r (bZ 8 r r r r)<|pl 6 r r r<|pl 9 r r r<|pl 11 r r r<|pn 12 r (ai (hV0) r r r) fun _ _=>dn<|jA r<|ln<|kb<|ni (I 2) r<|uf r<|kt<|av ((aa (n9 c g0 g1 g2 g3 g4 g5 d e g w0 w1 h j now) (am b28 [I 10, I xb, I xe, .string x0, .string x1] 299))) (mapc j .i64 cS) [8] ae<|pe 0 r r<|pe 1 r r<|pf 2 10 r r<|pf 4 0 r r<|pl 3 r r r<|pl 5 r r r<|dv 6 r (by kernel_rfl) (eh r r (cS 10) r) r<|ps 7 r (fI r r)<|jv 8 r r (by kernel_rfl) (ga r r r) fun _ _=>dn<|jA r<|ln<|ni (I 1) r<|uf r ?_
 refine ni (I 1) r<|ut r<|js<|jb<|sa r<|ix (e + 1) r r<|lv (aF 1 r r r) r<|eb r<|nr<|eb r<|cy hB0 r fun _=>ed r<|an r<|sa r<|ll r<|an r<|jl<|uf r<|ni (I 2) r<|ut r<|js<|jb<|sa r<|ix (e + 2) r r<|lv (aF 2 r r r) r<|eb r<|nr<|eb r<|cy hC0 r fun _=>ed r<|an r<|sa r<|ll r<|an r<|jl<|uf r<|ni (I 3) r<|uf r<|kt<|sb r<|fa 7 r<|ls r<|an r<|jl<|ut r<|js<|jb<|sa r<|lv (fG r r r r) r<|eb r<|nr<|eb r<|cy hU1 r fun _=>ed r<|an r<|sa r<|ll r<|an r<|jl<|uf r<|ni (I 1) r<|ut r<|js<|jb ?_
 refine sa r<|lv (fG r r r r) r<|eb r<|nr<|eb r<|cy hV1 r fun _=>ed r<|an r<|sa r<|ll r<|an r<|jl<|uf r<|ni (I 2) r<|uf r<|z0 r Ent.take
theorem Bs (c d : Nat) (g0 g1 g2 g3 g4 g5 : Value) (now a : Int) (k0 k1 k2 w0 w1 : Nat) (cS : Int -> Int) (A0 A1 B0 B1 B2 B3 C0 C1 U0 U1 V0 V1 : ab) (x0 x1 : ByteArray) (xb xe v0 v1 : Int) (hA0 : Go.SLA.Sp prog 135 #[Pt k0 0, I a] A0 (.tuple #[Ns, I 0]) A1) (hB0 : Go.SLA.Sp prog 135 #[Pt k1 0, I a] B0 (.tuple #[Ns, I 0]) B1) (hC0 : Go.SLA.Sp prog 135 #[Pt k2 0, I a] C0 (.tuple #[Ns, I 0]) C1) (hU0 : Go.SLA.FSpec prog 137 #[Pt w0 0, I a] U0 (fun _ : Nat × Nat × Nat => True) (fun y => .tuple #[Sk y.1 y.2.1 1 y.2.2, I 0]) (fun y => (aa (U1) (Az y.1 y.2.1 y.2.2 x0 xb xe)))) (hV0 : Go.SLA.FSpec prog 137 #[Pt w1 0, I a] V0 (fun _ : Nat × Nat × Nat => True) (fun y => .tuple #[Sk y.1 y.2.1 1 y.2.2, I 0]) (fun y => (aa (V1) (Az y.1 y.2.1 y.2.2 x1 xb xe)))) (hB1 : Go.SLA.Sp prog 138 #[Pt k1 0, I a, I 0, .string x0] B1 (I v0) B2) (hB2 : Go.SLA.Sp prog 138 #[Pt k1 0, I a, I 1, .string x1] B2 (I v1) B3) : Kp prog 161 #[Ns, .func (.func 159) #[] #[Pt c 0, Pt d 0]] (emp) (Ns) := by
 refine en func161 r fun _ F=>bG<|aE r<|sb r<|aW func184 r ?_
 refine aE r<|js<|sa r<|ll r<|an r<|jl<|uf r<|kt<|aE r<|jr<|cX r<|an r<|js<|sb r<|nt r<|sb r<|nk<|jr<|kd<|r1 r Ent.take
theorem EE (c d e g h j : Nat) (g0 g1 g2 g3 g4 g5 : Value) (now a : Int) (k0 k1 k2 w0 w1 : Nat) (cS : Int -> Int) (A0 A1 B0 B1 B2 B3 C0 C1 U0 U1 V0 V1 : ab) (x0 x1 : ByteArray) (xb xe v0 v1 : Int) (hA0 : Go.SLA.Sp prog 135 #[Pt k0 0, I a] A0 (.tuple #[Ns, I 0]) A1) (hB0 : Go.SLA.Sp prog 135 #[Pt k1 0, I a] B0 (.tuple #[Ns, I 0]) B1) (hC0 : Go.SLA.Sp prog 135 #[Pt k2 0, I a] C0 (.tuple #[Ns, I 0]) C1) (hU0 : Go.SLA.FSpec prog 137 #[Pt w0 0, I a] U0 (fun _ : Nat × Nat × Nat => True) (fun y => .tuple #[Sk y.1 y.2.1 1 y.2.2, I 0]) (fun y => (aa (U1) (Az y.1 y.2.1 y.2.2 x0 xb xe)))) (hV0 : Go.SLA.FSpec prog 137 #[Pt w1 0, I a] V0 (fun _ : Nat × Nat × Nat => True) (fun y => .tuple #[Sk y.1 y.2.1 1 y.2.2, I 0]) (fun y => (aa (V1) (Az y.1 y.2.1 y.2.2 x1 xb xe)))) (hB1 : Go.SLA.Sp prog 138 #[Pt k1 0, I a, I 0, .string x0] B1 (I v0) B2) (hB2 : Go.SLA.Sp prog 138 #[Pt k1 0, I a, I 1, .string x1] B2 (I v1) B3) : Sp prog 99 #[Pt c 0, I a] ((aa (n9 c g0 g1 g2 g3 g4 g5 d e g w0 w1 h j now) (aa (sy d e g k0 k1 k2) (aa (A0) (aa (B0) (aa (C0) (aa (U0) (V0)))))))) (.tuple #[]) ((aa (n9 c g0 g1 g2 g3 g4 g5 d e g w0 w1 h j now) (aa (sy d e g k0 k1 k2) (aa (A1) (aa (B3) (aa (C1) (aa (U1) (V1)))))))) := by
 refine en func99 r fun _ F=>js<|aE r<|jl<|ut r<|js<|jb<|sb r<|nk<|jg<|ec r<|aW func134 r<|sr<|bx r fun b1=>bx r fun b30=>nr<|lv (aB r r) r<|an r<|js<|sb r<|lf 11 r r<|ll r<|an r<|jl<|uf r<|kt<|jg<|ec r<|lf 11 r r<|ea r<|cu (Bs b30 b1 g0 g1 g2 g3 g4 g5 now a k0 k1 k2 w0 w1 cS A0 A1 B0 B1 B2 B3 C0 C1 U0 U1 V0 V1 x0 x1 xb xe v0 v1 hA0 hB0 hC0 hU0 hV0 hB1 hB2) r<|ea r<|fa 11 r<|so r r<|ln<|jA r<|ln<|ni (I 1) r<|ut r<|js<|jb<|sb r<|nk<|jg<|ec r<|aW func134 r<|sr<|bx r fun b31=>bx r fun b32=>nr<|lv (aB r r) r<|an r<|js<|sb r<|lf 11 r r<|ll r<|an r<|jl<|uf r<|kt<|jg ?_
 refine ec r<|lf 11 r r<|ea r<|cu (Bs b32 b31 g0 g1 g2 g3 g4 g5 now a k0 k1 k2 w0 w1 cS A0 A1 B0 B1 B2 B3 C0 C1 U0 U1 V0 V1 x0 x1 xb xe v0 v1 hA0 hB0 hC0 hU0 hV0 hB1 hB2) r<|ea r<|fa 11 r<|so r r<|ln<|jA r<|ln<|ni (I 2) r<|uf r<|kt<|js<|sb r<|lf 6 r r<|ll r<|an r<|jl<|ut r<|js<|jb<|sa r<|ix e r r<|lv (aF 0 r r r) r<|eb r<|nr<|eb r<|cy hA0 r fun _=>ed r<|an r<|sa r<|ll r<|an r<|jl<|uf r<|ni (I 1) r<|ut r<|js<|jb<|sa r<|ix (e + 1) r r<|lv (aF 1 r r r) r<|eb r<|nr<|eb r<|cy hB0 r fun _=>ed r<|an r<|sa r<|ll r<|an r<|jl<|uf r<|ni (I 2) r<|ut r<|js<|jb<|sa r<|ix (e + 2) r r<|lv (aF 2 r r r) r<|eb r<|nr<|eb r<|cy hC0 r fun _=>ed r<|an r ?_
 refine sa r<|ll r<|an r<|jl<|uf r<|ni (I 3) r<|uf r<|kt<|sb r<|fa 7 r<|ls r<|an r<|jl<|ut r<|js<|jb<|sa r<|lv (fG r r r r) r<|eb r<|nr<|eb r<|cy hU0 r fun y1=>ed r<|an r<|sa r<|ll r<|an r<|jl<|ut r<|js<|jb<|sr<|ix y1.2.1 r r<|lv (bP 0 r r) r<|al r fun b2=>so r r<|nk<|av ((aa (n9 c g0 g1 g2 g3 g4 g5 d e g w0 w1 h j now) (aa (am b2 [I 1, I 10, .string x0, I xb, I xe] 305) (sy d e g k0 k1 k2)))) (emp) [] ae<|pe 0 r r<|pe 1 r r<|pf 2 6 r r<|pf 4 0 r r<|pe 8 r r<|pe 9 r r<|pf 10 2 r r<|pl 3 r r r<|pl 5 r r r<|ps 6 r (dx (e + 1) r r r r)<|ps 7 r (aF 1 r r r)<|pl 11 r r r<|pn 12 r (ai (hB1) r r r) fun _ _=>dn<|ni (I 1) r<|uf r<|ni (I 1) r<|ut r<|js<|jb<|sa r<|lv (fG r r r r) r<|eb r<|nr<|eb r<|cy hV0 r fun y3=>?_
 refine ed r<|an r<|sa r<|ll r<|an r<|jl<|ut r<|js<|jb<|sr<|ix y3.2.1 r r<|lv (bP 0 r r) r<|al r fun b4=>so r r<|nk<|av ((aa (n9 c g0 g1 g2 g3 g4 g5 d e g w0 w1 h j now) (aa (am b4 [I 1, I 10, .string x1, I xb, I xe] 305) (sy d e g k0 k1 k2)))) (emp) [] ae<|pe 0 r r<|pe 1 r r<|pf 2 6 r r<|pf 4 0 r r<|pe 8 r r<|pe 9 r r<|pf 10 2 r r<|pl 3 r r r<|pl 5 r r r<|ps 6 r (dx (e + 1) r r r r)<|ps 7 r (aF 1 r r r)<|pl 11 r r r<|pn 12 r (ai (hB2) r r r) fun _ _=>dn<|ni (I 1) r<|uf r ?_
 refine ni (I 2) r<|uf r<|z0 r Ent.take
end Sp
namespace Sp
attribute [local irreducible] JU
theorem Bz (sm bg J P w0 f0 now n0 p0 d0 : Int) (h : fR sm bg J P w0 f0 now n0 p0 d0) : Kp prog 154 #[.agg [I sm, I bg, I J, Ff].toArray] (emp) (I P) := by
 refine en func154 r fun _ F=>bG<|sr<|bx r fun b1=>an r<|sr<|lf 1 r r<|aW func128 r<|sb r<|nj<|sa r<|aW func157 r<|aE r<|sa r<|lv ((dt r r).bool_t (by unfold fR at h; omega)) r<|ea r<|go r<|ea r<|go r<|lv ((fh r r).bool_t (by unfold fR at h; omega)) r<|eb r<|nk<|jr<|cX r<|an r<|cf r<|sk<|sa r<|lv (bw r (Go.IntWalk.u64_in _ (by unfold fR at h; omega))) r<|lv (af r) r<|bx r fun b21=>eb r<|nk<|jr ?_
 refine sT r (.tmp r (.tmp r (.nil))) r<|ed r<|an r<|sa r<|cy (Hj b21 (Ff) (I 0) (I 0) (I 0) bg P (by unfold fR at h; omega)) r fun _=>an r<|jr<|r1 r Ent.take
theorem By (sm bg J P w0 f0 now n0 p0 d0 : Int) (h : fR sm bg J P w0 f0 now n0 p0 d0) : Kp prog 123 #[.agg [I sm, I bg, I J, Ff].toArray] (emp) (I (P + J)) := by
 exact en func123 r fun _ F=>bG<|sr<|bx r fun b1=>an r<|js<|dM ae<|qv (ax r) r<|dy (Bz sm bg J P w0 f0 now n0 p0 d0 h) r r (fun _ _ => r) (fun _ _ => ah _) r<|qf 2 r<|ql r r<|qv (aQ r r (by unfold fR at h; omega)) r<|qa r<|qn<|kt<|jr<|r1 r Ent.take
theorem Bx (a : Nat) (sm bg J P w0 f0 now n0 p0 d0 : Int) (h : fR sm bg J P w0 f0 now n0 p0 d0) : Kp prog 171 #[Pt a 0, I n0] (am a [I sm, I bg, I J, Ff, I now, I (mn (f0 + (sm * (now - w0))) (sm * (P + J))), I p0, I d0] 255) (I (n0 * P)) := by
 exact en func171 r fun _ F=>aE r<|js<|sb r<|fa 0 r<|lf 3 r r<|nf r<|sk<|sr<|ec r<|fa 0 r<|ls r<|cu (Bz sm bg J P w0 f0 now n0 p0 d0 h) r<|lv (fW r r (zR (by unfold fR at h; omega) (by unfold fR at h; omega))) r<|an r<|jr<|r1 r Ent.take
theorem E2 (a : Nat) (sm bg J P w0 f0 now n0 p0 d0 : Int) (h : fR sm bg J P w0 f0 now n0 p0 d0) : Sp prog 140 #[Pt a 0, I now, I n0] (am a [I sm, I bg, I J, Ff, I w0, I f0, I p0, I d0] 255) (I 0) (am a [I sm, I bg, I J, Ff, I now, I ((mn (f0 + (sm * (now - w0))) (sm * (P + J))) - (n0 * P)), I (p0 + 1), I d0] 255) := by
 refine en func140 r fun _ F=>aE r<|js<|jb<|sa r<|ep false r<|an r<|cf r<|sa r<|lv ((aM r r).bool_f (by unfold fR at h; omega)) r<|ea r<|go r<|ea r<|go r<|lv ((bt r r).bool_f (by unfold fR at h; omega)) r<|eb r<|go r<|ea r<|go r<|lv ((aM r r).bool_f (by unfold fR at h; omega)) r<|bf r<|sr<|ec r<|lf 4 r r<|lv ((aM r r).bool_f (by unfold fR at h; omega)) r<|an r<|cf r<|cY<|sr<|ed r<|aW func170 r<|aE r<|js<|jb<|sa r<|ep false r<|an r<|cf r<|sr<|ec r<|lf 4 r r<|lv ((fh r r).bool_f (by unfold fR at h; omega)) r<|an r<|cf r<|cY<|js<|dM ae<|qb r<|qf 5 r<|ql r r<|qb r<|qf 0 r<|qf 0 r<|ql r r<|qb r<|qa r<|qf 4 r<|ql r r<|qv (bm r r (by unfold fR at h; omega)) r<|qb r<|qf 0 r<|qv (ax r) r ?_
 refine dy (By sm bg J P w0 f0 now n0 p0 d0 h) r r (fun _ _ => r) (fun _ _ => ah _) r<|qv ((nl r r).as (v' := I (now - w0)) (congrArg (Value.int .i64) (if_neg (by unfold fR at h; omega)))) r<|qv (fW r r (zR (by unfold fR at h; omega) (by unfold fR at h; omega))) r<|qv (aQ r r (by unfold fR at h; omega)) r<|qb r<|qf 0 r<|qf 0 r<|ql r r<|qb r<|qf 0 r<|qv (ax r) r<|dy (By sm bg J P w0 f0 now n0 p0 d0 h) r r (fun _ _ => r) (fun _ _ => ah _) r<|qv (fW r r (zR (by unfold fR at h; omega) (by unfold fR at h; omega))) r<|qv ((nl r r).as (v' := I (mn (f0 + (sm * (now - w0))) (sm * (P + J)))) r) r<|qa r<|qn<|kt<|jr<|cX r<|eb r<|fa 5 r<|so r r<|ea r<|fa 4 r<|so r r<|nr<|an r<|js<|jb<|sr<|ec r<|fa 0 r<|lf 0 r r<|lv ((bt r r).bool_f (by unfold fR at h; omega)) r<|an r<|cf r<|js<|dM ae<|qb r<|dy (Bx a sm bg J P w0 f0 now n0 p0 d0 h) r r (fun _ _ => r) (fun _ _ => ah _) r<|qb r<|qf 5 r<|ql r r<|qv ((bt r r).bool_f (by unfold fR at h; omega)) r<|qa r<|qn<|kt<|cf r<|cY<|js<|sb r<|nf r<|sk<|js<|av (emp) (am a [I sm, I bg, I J, Ff, I now, I (mn (f0 + (sm * (now - w0))) (sm * (P + J))), I p0, I d0] 255) [10] ae<|pe 0 r r<|pe 1 r r<|pf 2 5 r r<|pe 4 r r<|pe 5 r r<|dv 3 r (by kernel_rfl) (ar r (aC r)) r<|pn 6 r (ai (Bx a sm bg J P w0 f0 now n0 p0 d0 h) r r r) fun _ _=>ps 7 r (bm r r (by unfold fR at h; omega))<|pe 8 r r<|pf 9 5 r r ?_
 refine jv 10 r r (by kernel_rfl) (aI r r r (List.all_eq_true.1 r)) fun _ _=>dn<|kt<|sb r<|lf 6 r r<|lv (aQ r r (by unfold fR at h; omega)) r<|ea r<|fa 6 r<|so r r<|nr<|an r<|jr<|r1 r Ent.take
end Sp
namespace Sp
attribute [local irreducible] JU
abbrev Dr (a : Nat) : ab := am a [I 0, I 0, I 1000, I 1, I 0, I 1000, I 2, I 0, I 1000] 149
theorem Gb (x : Cf) (hn : x.n = 1) : FSpec prog 18 #[.agg [I x.L, I x.S, I x.G].toArray] (emp) (fun _ : Nat × Nat × Nat × Nat × Nat × Nat × Nat × Nat × Nat => True) (fun y => .agg [I 3, Sk y.1 0 3 3, I 1000, Sk y.2.1 0 3 3, Sk y.2.2.1 y.2.2.2.1 1 y.2.2.2.2.1, Sk y.2.2.2.2.2.1 y.2.2.2.2.2.2.1 4 y.2.2.2.2.2.2.2.1].toArray) (fun y => (aa (am y.1 [I 0, I 1, I 2] 3) (aa (Dr y.2.1) (aa (am y.2.2.2.2.2.2.2.2 [I 1] 3) (aa (Ow 151 8 (Sk y.2.2.1 y.2.2.2.1 1 y.2.2.2.2.1) 1 [I 10, I 0, I x.bg, I x.sm, Ff, I 2, I 60000, Sk y.2.2.2.2.2.2.2.2 0 1 1]) (Ow 153 11 (Sk y.2.2.2.2.2.1 y.2.2.2.2.2.2.1 4 y.2.2.2.2.2.2.2.1) 4 (I 10 :: I 0 :: I 0 :: I 2 :: Tt :: I 10 :: I 0 :: I 5 :: I 100 :: I 1 :: I 0 :: I 20 :: I 1 :: I 1 :: I 2 :: Ff :: I 10 :: I 0 :: I 5 :: I 100 :: I 64 :: I 0 :: I 30 :: I 0 :: I 0 :: I 1 :: Tt :: I 10 :: I 1 :: I 6 :: I 20 :: I 0 :: I 0 :: I 31 :: I 1 :: I 1 :: I 1 :: Ff :: I 10 :: I 0 :: I 6 :: I 20 :: I 0 :: I 1000000 :: []))))))) := by
 refine en func18 r fun _ F=>bG<|sr<|bx r fun b1=>al r fun b2=>nr<|lf 0 r r<|lv (dA r r (by decide)) r<|lv (aQ r r (by have := x.tm; omega)) r<|lv (dA r r (by decide)) r<|lv ((aQ r r (by have := x.tm; omega)).as (v' := I 1) (congrArg (Value.int .i64) (x.hn.trans hn))) r<|an r<|sr<|lf 1 r r<|lv (dA r r (by decide)) r<|lv (aQ r r (by have := x.tm; omega)) r<|lv (dA r r (by decide)) r<|lv ((aQ r r (by have := x.tm; omega)).as (v' := I x.sm) (congrArg (Value.int .i64) x.hs)) r<|an r<|sr<|lf 2 r r<|lv (dA r r (by decide)) r<|lv (aQ r r (by have := x.tm; omega)) r<|lv ((dA r r (by decide)).as (v' := I x.bg) (congrArg (Value.int .i64) x.hg)) r<|an r<|sr<|lx r (cL r r r (by decide) (by simp [Value.cells]) r) fun b3 _=>lv (af r) r<|lv (af r) r<|lv (af r) r<|lx r (fE (m := 3) r r r r r r) fun b4 _=>lv (af r) r<|al r fun b5=>so r r<|nj<|aE r<|jl<|ju<|js<|sr<|ec r<|nt r<|sk<|js<|jb<|sr<|lf 4 r r<|ea r<|ib (I 10) r<|ed r<|lx r (aq (m := 1) r r (by decide) (by decide) r) fun b6 _=>lv (af r) r<|lx r (aq (m := 8) r r (by decide) (by decide) r) fun b7 _=>lx r (gB (m := 8) (B := 80) 1 r r (Src.lit) r r r (List.all_eq_true.1 r) r r r r) fun z8 _=>fa 4 r<|so r r<|nk<|jg<|lf 5 r r<|ea r<|ib (I 10) r<|ea r<|ib (I 10) r<|lv (af r) r ?_
 refine lx r (aq (m := 11) r r (by decide) (by decide) r) fun b9 _=>lx r (gB (m := 11) (B := 88) 1 r r (Src.lit) r r r (List.all_eq_true.1 r) r r r r) fun z10 _=>fa 5 r<|so r r<|ln<|kb<|kt<|jg<|ea r<|ib (I 1) r<|ea r<|kr<|ju<|js<|sr<|ec r<|nf r<|jx<|ke<|ke<|kh<|kt<|js<|aE r<|jl<|ju<|js<|sr<|ec r<|nt r<|sk<|js<|jb<|jg<|lf 5 r r<|ea r<|ib (I 20) r<|ea r<|ib (I 10) r<|lv (af r) r<|lx r (aq (m := 11) r r (by decide) (by decide) r) fun b11 _=>lx r (dI (m := 11) (B := 88) 2 r r (Src.lit) r r r (List.all_eq_true.1 r) r r r r) fun z12 _=>fa 5 r<|so r r<|ln<|kb<|kt<|jg<|ea r<|ib (I 1) r<|ea r<|kr<|ju<|js<|sr<|ec r<|nf r<|jx<|ke<|ke<|kh<|kt<|sr<|lf 5 r r ?_
 refine lv (af r) r<|lx r (aq (m := 11) r r (by decide) (by decide) r) fun b13 _=>lx r (dI (m := 11) (B := 88) 3 r r (Src.lit) r r r (List.all_eq_true.1 r) r r r r) fun z14 _=>fa 5 r<|so r r<|nr<|lf 5 r r<|lv (af r) r<|lx r (aq (m := 11) r r (by decide) (by decide) r) fun b15 _=>lx r (dI (m := 11) (B := 88) 4 r r (Src.lit) r r r (List.all_eq_true.1 r) r r r r) fun z16 _=>fa 5 r<|so r r<|nr<|ls r<|so r r<|nk<|jr ?_
 exact bM r (.agg r r (.nil)) (b3, b4, z8.1, z8.2.1, z8.2.2, z16.1, z16.2.1, z16.2.2, b6) trivial r Ent.take
theorem Ga (x : Cf) (hn : x.n = 2) : FSpec prog 18 #[.agg [I x.L, I x.S, I x.G].toArray] (emp) (fun _ : Nat × Nat × Nat × Nat × Nat × Nat × Nat × Nat × Nat × Nat => True) (fun y => .agg [I 3, Sk y.1 0 3 3, I 1000, Sk y.2.1 0 3 3, Sk y.2.2.1 y.2.2.2.1 2 y.2.2.2.2.1, Sk y.2.2.2.2.2.1 y.2.2.2.2.2.2.1 6 y.2.2.2.2.2.2.2.1].toArray) (fun y => (aa (am y.1 [I 0, I 1, I 2] 3) (aa (Dr y.2.1) (aa (am y.2.2.2.2.2.2.2.2.1 [I 1] 3) (aa (am y.2.2.2.2.2.2.2.2.2 [I 1] 3) (aa (Ow 151 8 (Sk y.2.2.1 y.2.2.2.1 2 y.2.2.2.2.1) 2 [I 10, I 0, I x.bg, I x.sm, Ff, I 2, I 60000, Sk y.2.2.2.2.2.2.2.2.1 0 1 1, I 11, I 0, I x.bg, I x.sm, Tt, I 2, I 60000, Sk y.2.2.2.2.2.2.2.2.2 0 1 1]) (Ow 153 11 (Sk y.2.2.2.2.2.1 y.2.2.2.2.2.2.1 6 y.2.2.2.2.2.2.2.1) 6 (I 10 :: I 0 :: I 0 :: I 2 :: Tt :: I 10 :: I 0 :: I 5 :: I 100 :: I 1 :: I 0 :: I 11 :: I 0 :: I 0 :: I 2 :: Tt :: I 11 :: I 0 :: I 5 :: I 100 :: I 1 :: I 0 :: I 20 :: I 1 :: I 1 :: I 2 :: Ff :: I 10 :: I 0 :: I 5 :: I 100 :: I 64 :: I 0 :: I 21 :: I 1 :: I 1 :: I 2 :: Ff :: I 11 :: I 0 :: I 5 :: I 100 :: I 64 :: I 0 :: I 30 :: I 0 :: I 0 :: I 1 :: Tt :: I 10 :: I 1 :: I 6 :: I 20 :: I 0 :: I 0 :: I 31 :: I 1 :: I 1 :: I 1 :: Ff :: I 10 :: I 0 :: I 6 :: I 20 :: I 0 :: I 1000000 :: [])))))))) := by
 refine en func18 r fun _ F=>bG<|sr<|bx r fun b1=>al r fun b2=>nr<|lf 0 r r<|lv (dA r r (by decide)) r<|lv (aQ r r (by have := x.tm; omega)) r<|lv (dA r r (by decide)) r<|lv ((aQ r r (by have := x.tm; omega)).as (v' := I 2) (congrArg (Value.int .i64) (x.hn.trans hn))) r<|an r<|sr<|lf 1 r r<|lv (dA r r (by decide)) r<|lv (aQ r r (by have := x.tm; omega)) r<|lv (dA r r (by decide)) r<|lv ((aQ r r (by have := x.tm; omega)).as (v' := I x.sm) (congrArg (Value.int .i64) x.hs)) r<|an r<|sr<|lf 2 r r<|lv (dA r r (by decide)) r<|lv (aQ r r (by have := x.tm; omega)) r<|lv ((dA r r (by decide)).as (v' := I x.bg) (congrArg (Value.int .i64) x.hg)) r<|an r<|sr<|lx r (cL r r r (by decide) (by simp [Value.cells]) r) fun b3 _=>lv (af r) r<|lv (af r) r<|lv (af r) r<|lx r (fE (m := 3) r r r r r r) fun b4 _=>lv (af r) r<|al r fun b5=>so r r<|nj<|aE r<|jl<|ju<|js<|sr<|ec r<|nt r<|sk<|js<|jb<|sr<|lf 4 r r<|ea r<|ib (I 10) r<|ed r<|lx r (aq (m := 1) r r (by decide) (by decide) r) fun b6 _=>lv (af r) r<|lx r (aq (m := 8) r r (by decide) (by decide) r) fun b7 _=>lx r (gB (m := 8) (B := 80) 1 r r (Src.lit) r r r (List.all_eq_true.1 r) r r r r) fun z8 _=>fa 4 r<|so r r<|nk<|jg<|lf 5 r r<|ea r<|ib (I 10) r<|ea r<|ib (I 10) r<|lv (af r) r ?_
 refine lx r (aq (m := 11) r r (by decide) (by decide) r) fun b9 _=>lx r (gB (m := 11) (B := 88) 1 r r (Src.lit) r r r (List.all_eq_true.1 r) r r r r) fun z10 _=>fa 5 r<|so r r<|ln<|kb<|kt<|jg<|ea r<|ib (I 1) r<|ea r<|kr<|ju<|js<|sr<|ec r<|nt r<|sk<|js<|jb<|sr<|lf 4 r r<|ea r<|ib (I 11) r<|ed r<|lx r (aq (m := 1) r r (by decide) (by decide) r) fun b11 _=>lv (af r) r<|lx r (aq (m := 8) r r (by decide) (by decide) r) fun b12 _=>lx r (dI (m := 8) (B := 80) 2 r r (Src.lit) r r r (List.all_eq_true.1 r) r r r r) fun z13 _=>fa 4 r<|so r r<|nk<|jg<|lf 5 r r<|ea r<|ib (I 11) r<|ea r<|ib (I 11) r<|lv (af r) r<|lx r (aq (m := 11) r r (by decide) (by decide) r) fun b14 _=>lx r (dI (m := 11) (B := 88) 2 r r (Src.lit) r r r (List.all_eq_true.1 r) r r r r) fun z15 _=>fa 5 r<|so r r<|ln<|kb<|kt<|jg<|ea r<|ib (I 2) r<|ea r<|kr<|ju<|js<|sr<|ec r<|nf r<|jx<|ke<|ke<|kh<|kt<|js<|aE r<|jl ?_
 refine ju<|js<|sr<|ec r<|nt r<|sk<|js<|jb<|jg<|lf 5 r r<|ea r<|ib (I 20) r<|ea r<|ib (I 10) r<|lv (af r) r<|lx r (aq (m := 11) r r (by decide) (by decide) r) fun b16 _=>lx r (dI (m := 11) (B := 88) 3 r r (Src.lit) r r r (List.all_eq_true.1 r) r r r r) fun z17 _=>fa 5 r<|so r r<|ln<|kb<|kt<|jg<|ea r<|ib (I 1) r<|ea r<|kr<|ju<|js<|sr<|ec r<|nt r<|sk<|js<|jb<|jg<|lf 5 r r<|ea r<|ib (I 21) r<|ea r<|ib (I 11) r<|lv (af r) r<|lx r (aq (m := 11) r r (by decide) (by decide) r) fun b18 _=>lx r (dI (m := 11) (B := 88) 4 r r (Src.lit) r r r (List.all_eq_true.1 r) r r r r) fun z19 _=>fa 5 r<|so r r<|ln<|kb<|kt<|jg<|ea r<|ib (I 2) r<|ea r<|kr<|ju<|js<|sr<|ec r<|nf r<|jx<|ke<|ke<|kh<|kt ?_
 refine sr<|lf 5 r r<|lv (af r) r<|lx r (aq (m := 11) r r (by decide) (by decide) r) fun b20 _=>lx r (dI (m := 11) (B := 88) 5 r r (Src.lit) r r r (List.all_eq_true.1 r) r r r r) fun z21 _=>fa 5 r<|so r r<|nr<|lf 5 r r<|lv (af r) r<|lx r (aq (m := 11) r r (by decide) (by decide) r) fun b22 _=>lx r (dI (m := 11) (B := 88) 6 r r (Src.lit) r r r (List.all_eq_true.1 r) r r r r) fun z23 _=>fa 5 r<|so r r<|nr<|ls r<|so r r<|nk<|jr ?_
 exact bM r (.agg r r (.nil)) (b3, b4, z13.1, z13.2.1, z13.2.2, z23.1, z23.2.1, z23.2.2, b6, b11) trivial r Ent.take
theorem F9 (x : Cf) (hn : x.n = 3) : FSpec prog 18 #[.agg [I x.L, I x.S, I x.G].toArray] (emp) (fun _ : Nat × Nat × Nat × Nat × Nat × Nat × Nat × Nat × Nat × Nat × Nat => True) (fun y => .agg [I 3, Sk y.1 0 3 3, I 1000, Sk y.2.1 0 3 3, Sk y.2.2.1 y.2.2.2.1 3 y.2.2.2.2.1, Sk y.2.2.2.2.2.1 y.2.2.2.2.2.2.1 8 y.2.2.2.2.2.2.2.1].toArray) (fun y => (aa (am y.1 [I 0, I 1, I 2] 3) (aa (Dr y.2.1) (aa (am y.2.2.2.2.2.2.2.2.1 [I 1] 3) (aa (am y.2.2.2.2.2.2.2.2.2.1 [I 1] 3) (aa (am y.2.2.2.2.2.2.2.2.2.2 [I 1] 3) (aa (Ow 151 8 (Sk y.2.2.1 y.2.2.2.1 3 y.2.2.2.2.1) 3 [I 10, I 0, I x.bg, I x.sm, Ff, I 2, I 60000, Sk y.2.2.2.2.2.2.2.2.1 0 1 1, I 11, I 0, I x.bg, I x.sm, Tt, I 2, I 60000, Sk y.2.2.2.2.2.2.2.2.2.1 0 1 1, I 12, I 0, I x.bg, I x.sm, Ff, I 2, I 60000, Sk y.2.2.2.2.2.2.2.2.2.2 0 1 1]) (Ow 153 11 (Sk y.2.2.2.2.2.1 y.2.2.2.2.2.2.1 8 y.2.2.2.2.2.2.2.1) 8 (I 10 :: I 0 :: I 0 :: I 2 :: Tt :: I 10 :: I 0 :: I 5 :: I 100 :: I 1 :: I 0 :: I 11 :: I 0 :: I 0 :: I 2 :: Tt :: I 11 :: I 0 :: I 5 :: I 100 :: I 1 :: I 0 :: I 12 :: I 0 :: I 0 :: I 2 :: Tt :: I 12 :: I 0 :: I 5 :: I 100 :: I 1 :: I 0 :: I 20 :: I 1 :: I 1 :: I 2 :: Ff :: I 10 :: I 0 :: I 5 :: I 100 :: I 64 :: I 0 :: I 21 :: I 1 :: I 1 :: I 2 :: Ff :: I 11 :: I 0 :: I 5 :: I 100 :: I 64 :: I 0 :: I 22 :: I 1 :: I 1 :: I 2 :: Ff :: I 12 :: I 0 :: I 5 :: I 100 :: I 64 :: I 0 :: I 30 :: I 0 :: I 0 :: I 1 :: Tt :: I 10 :: I 1 :: I 6 :: I 20 :: I 0 :: I 0 :: I 31 :: I 1 :: I 1 :: I 1 :: Ff :: I 10 :: I 0 :: I 6 :: I 20 :: I 0 :: I 1000000 :: []))))))))) := by
 refine en func18 r fun _ F=>bG<|sr<|bx r fun b1=>al r fun b2=>nr<|lf 0 r r<|lv (dA r r (by decide)) r<|lv (aQ r r (by have := x.tm; omega)) r<|lv (dA r r (by decide)) r<|lv ((aQ r r (by have := x.tm; omega)).as (v' := I 3) (congrArg (Value.int .i64) (x.hn.trans hn))) r<|an r<|sr<|lf 1 r r<|lv (dA r r (by decide)) r<|lv (aQ r r (by have := x.tm; omega)) r<|lv (dA r r (by decide)) r<|lv ((aQ r r (by have := x.tm; omega)).as (v' := I x.sm) (congrArg (Value.int .i64) x.hs)) r<|an r<|sr<|lf 2 r r<|lv (dA r r (by decide)) r<|lv (aQ r r (by have := x.tm; omega)) r<|lv ((dA r r (by decide)).as (v' := I x.bg) (congrArg (Value.int .i64) x.hg)) r<|an r<|sr<|lx r (cL r r r (by decide) (by simp [Value.cells]) r) fun b3 _=>lv (af r) r<|lv (af r) r<|lv (af r) r<|lx r (fE (m := 3) r r r r r r) fun b4 _=>lv (af r) r<|al r fun b5=>so r r<|nj<|aE r<|jl<|ju<|js<|sr<|ec r<|nt r<|sk<|js<|jb<|sr<|lf 4 r r<|ea r<|ib (I 10) r<|ed r<|lx r (aq (m := 1) r r (by decide) (by decide) r) fun b6 _=>lv (af r) r<|lx r (aq (m := 8) r r (by decide) (by decide) r) fun b7 _=>lx r (gB (m := 8) (B := 80) 1 r r (Src.lit) r r r (List.all_eq_true.1 r) r r r r) fun z8 _=>fa 4 r<|so r r<|nk<|jg<|lf 5 r r<|ea r<|ib (I 10) r<|ea r<|ib (I 10) r<|lv (af r) r ?_
 refine lx r (aq (m := 11) r r (by decide) (by decide) r) fun b9 _=>lx r (gB (m := 11) (B := 88) 1 r r (Src.lit) r r r (List.all_eq_true.1 r) r r r r) fun z10 _=>fa 5 r<|so r r<|ln<|kb<|kt<|jg<|ea r<|ib (I 1) r<|ea r<|kr<|ju<|js<|sr<|ec r<|nt r<|sk<|js<|jb<|sr<|lf 4 r r<|ea r<|ib (I 11) r<|ed r<|lx r (aq (m := 1) r r (by decide) (by decide) r) fun b11 _=>lv (af r) r<|lx r (aq (m := 8) r r (by decide) (by decide) r) fun b12 _=>lx r (dI (m := 8) (B := 80) 2 r r (Src.lit) r r r (List.all_eq_true.1 r) r r r r) fun z13 _=>fa 4 r<|so r r<|nk<|jg<|lf 5 r r<|ea r<|ib (I 11) r<|ea r<|ib (I 11) r<|lv (af r) r<|lx r (aq (m := 11) r r (by decide) (by decide) r) fun b14 _=>lx r (dI (m := 11) (B := 88) 2 r r (Src.lit) r r r (List.all_eq_true.1 r) r r r r) fun z15 _=>fa 5 r<|so r r<|ln<|kb<|kt<|jg<|ea r<|ib (I 2) r<|ea r<|kr<|ju<|js<|sr<|ec r<|nt r<|sk<|js<|jb<|sr<|lf 4 r r<|ea r<|ib (I 12) r<|ed r ?_
 refine lx r (aq (m := 1) r r (by decide) (by decide) r) fun b16 _=>lv (af r) r<|lx r (aq (m := 8) r r (by decide) (by decide) r) fun b17 _=>lx r (dI (m := 8) (B := 80) 3 r r (Src.lit) r r r (List.all_eq_true.1 r) r r r r) fun z18 _=>fa 4 r<|so r r<|nk<|jg<|lf 5 r r<|ea r<|ib (I 12) r<|ea r<|ib (I 12) r<|lv (af r) r<|lx r (aq (m := 11) r r (by decide) (by decide) r) fun b19 _=>lx r (dI (m := 11) (B := 88) 3 r r (Src.lit) r r r (List.all_eq_true.1 r) r r r r) fun z20 _=>fa 5 r<|so r r<|ln<|kb<|kt<|jg<|ea r<|ib (I 3) r<|ea r<|kr<|ju<|js<|sr<|ec r<|nf r<|jx<|ke<|ke<|kh<|kt<|js<|aE r<|jl<|ju<|js<|sr<|ec r<|nt r<|sk<|js<|jb<|jg<|lf 5 r r<|ea r<|ib (I 20) r<|ea r<|ib (I 10) r<|lv (af r) r<|lx r (aq (m := 11) r r (by decide) (by decide) r) fun b21 _=>lx r (dI (m := 11) (B := 88) 4 r r (Src.lit) r r r (List.all_eq_true.1 r) r r r r) fun z22 _=>fa 5 r<|so r r<|ln<|kb<|kt<|jg<|ea r<|ib (I 1) r ?_
 refine ea r<|kr<|ju<|js<|sr<|ec r<|nt r<|sk<|js<|jb<|jg<|lf 5 r r<|ea r<|ib (I 21) r<|ea r<|ib (I 11) r<|lv (af r) r<|lx r (aq (m := 11) r r (by decide) (by decide) r) fun b23 _=>lx r (dI (m := 11) (B := 88) 5 r r (Src.lit) r r r (List.all_eq_true.1 r) r r r r) fun z24 _=>fa 5 r<|so r r<|ln<|kb<|kt<|jg<|ea r<|ib (I 2) r<|ea r<|kr<|ju<|js<|sr<|ec r<|nt r<|sk<|js<|jb<|jg<|lf 5 r r<|ea r<|ib (I 22) r<|ea r<|ib (I 12) r<|lv (af r) r<|lx r (aq (m := 11) r r (by decide) (by decide) r) fun b25 _=>lx r (dI (m := 11) (B := 88) 6 r r (Src.lit) r r r (List.all_eq_true.1 r) r r r r) fun z26 _=>fa 5 r<|so r r<|ln<|kb<|kt<|jg<|ea r<|ib (I 3) r<|ea r<|kr<|ju<|js<|sr<|ec r<|nf r<|jx<|ke<|ke ?_
 refine kh<|kt<|sr<|lf 5 r r<|lv (af r) r<|lx r (aq (m := 11) r r (by decide) (by decide) r) fun b27 _=>lx r (dI (m := 11) (B := 88) 7 r r (Src.lit) r r r (List.all_eq_true.1 r) r r r r) fun z28 _=>fa 5 r<|so r r<|nr<|lf 5 r r<|lv (af r) r<|lx r (aq (m := 11) r r (by decide) (by decide) r) fun b29 _=>lx r (dI (m := 11) (B := 88) 8 r r (Src.lit) r r r (List.all_eq_true.1 r) r r r r) fun z30 _=>fa 5 r<|so r r<|nr<|ls r<|so r r<|nk<|jr ?_
 exact bM r (.agg r r (.nil)) (b3, b4, z18.1, z18.2.1, z18.2.2, z30.1, z30.2.1, z30.2.2, b6, b11, b16) trivial r Ent.take
end Sp
end Go.Proofs.YtpkcniedaabpoaaGreat
namespace Go.Proofs.YtpkcniedaabpoaaGreat
open Go.SLA Go.Proofs.Tryz
set_option maxRecDepth 100000
def oC : En := ⟨10, 0, 0, 0, 224, 224, 0, 10, 5, 5⟩
theorem wB : okEn oC := by unfold okEn oC; decide
theorem oR : gt oC := by unfold gt oC; decide
attribute [local irreducible] FSpec e7 iD
theorem sQ {f : FuncId} {args : Array Value} {P : ab} {e m len : Nat} {l : List Value} {v2 : Value} (hl : len ≠ 0) (h : FSpec prog f args P (fun _ : Option Addr × Nat => True) (fun r => .tuple #[.slice r.1 len r.2, v2]) (fun r => Ow e m (.slice r.1 len r.2) len l)) :
  FSpec prog f args P (fun _ : Nat × Nat × Nat => True) (fun y => .tuple #[Sk y.1 y.2.1 len y.2.2, v2]) (fun y => Ow e m (Sk y.1 y.2.1 len y.2.2) len l) := by
 unfold FSpec at h ⊢
 intro σ w F hs
 refine (h σ w F hs).mono ?_
 rintro en w' ⟨r, _, rfl, hw⟩
 rcases fg hw with ⟨_, h0, _⟩ | ⟨b, cap, pre, post, hv, _, _, _, _, _⟩
 ·exact absurd h0 hl
 ·simp only [Value.slice.injEq, true_and] at hv
  obtain ⟨r1, r2⟩ := r
  obtain ⟨h1, h2⟩ := hv
  dsimp only at h1 h2 hw
  subst h1 h2
  exact ⟨(b, pre.length, r2), trivial, rfl, hw⟩
end Go.Proofs.YtpkcniedaabpoaaGreat
namespace Go.Proofs.YtpkcniedaabpoaaGreat
open Go.SLA Go.Proofs.Tryz
set_option maxRecDepth 100000
set_option synthInstance.maxSize 200000
set_option synthInstance.maxHeartbeats 4000000
set_option maxHeartbeats 8000000
attribute [local irreducible] FSpec J K L OpV OpX QL Rd Rg bd
section
variable {p x : Pk} {m : Nat}
theorem rR (hp : okPk p) (hm : 64 <= m /\ m <= 1518) (h : yD p (m - 39) x) : okPk x := by
 obtain ⟨h1, h2, h3, h4, h5, h6, h7, h8, h9, g0, g1, g2, g3⟩ := h
 obtain ⟨q1, q2, q3, q4, q5, q6, q7, q8, q9, r0, r1, r2, r3⟩ := hp
 refine ⟨by rw [h3]; exact q1, ?_, by rw [h4]; exact q3, by rw [h5]; exact q4, by rw [h6]; exact q5, by rw [h7]; exact q6, by rw [h8]; exact q7, by rw [h9]; exact q8, by rw [g0]; exact q9, by rw [g1]; exact r0, by rw [g2]; exact r1, by rw [g3]; exact r2, by unfold maxLen; omega⟩
 simp [Lit.wf, IntKind.min, IntKind.max, IntKind.signed, IntKind.bits]
 omega
theorem mU (hp : fi p) (h : yD p (m - 39) x) : fi x := by
 obtain ⟨h1, h2, h3, h4, h5, _⟩ := h
 obtain ⟨q1, q2, q3, q4⟩ := hp
 unfold fi
 rw [h3, h4, h5]
 exact ⟨q1, h2, q3, q4⟩
theorem zG {sm : Int} (h5 : ia p sm = 0) (hok : okPk p) (hf : fi p) {i : Nat} (hx : (eU p sm)[i]? = some x) : okPk x /\ fi x /\ (x.data.size : Int) + 39 <= sm /\ 64 <= sm /\ sm <= 1518 := by
 obtain ⟨g1, g2, g3, g4⟩ := ss h5
 unfold iH at g1
 have hr := lw (m := sm.toNat) (by omega)
 have hm : x ∈ cW p (sm.toNat - 39) (bD sm.toNat) 0 := by
  have := List.mem_of_getElem? hx
  unfold eU at this
  rwa [if_pos h5] at this
 have hpart := mN (p := p) (w := sm.toNat - 39) (by omega) hr.2.1 g4 0 (Nat.zero_le _) x hm
 refine ⟨rR hok (m := sm.toNat) (by omega) hpart, mU hf (m := sm.toNat) hpart, ?_, by omega, by omega⟩
 have := hpart.1
 omega
end
section
namespace Sp
variable {id sm : Int} {m : ByteArray} {x : Pk} {L : List Pk} {k : Nat}
def wk (id : Int) (m : ByteArray) : Pk := ⟨id, false, 0, 1, 17, 10, 0, 0, 0, 224, 224, 0, 10, e7 oC m⟩
def lz (id sm : Int) (m : ByteArray) : List Pk := eU (wk id m) sm
def dq (id sm : Int) (m : ByteArray) : List ByteArray := (lz id sm m).map iD
def bY (id sm : Int) (m : ByteArray) : Prop := 0 <= id /\ id <= 1000 /\ 80 <= sm /\ sm < 280 /\ m.size <= 100
theorem ne (h : bY id sm m) : ia (wk id m) sm = 0 := by
 unfold bY at h
 have hd : (wk id m).data.size = 8 + m.size := gw oC m
 have h1 : ¬ ¬ iH sm := by unfold iH; omega
 have h2 : ¬ ((wk id m).more = true \/ (wk id m).off ≠ 0) := fun h => h.elim (fun e => absurd (show false = true from e) (by decide)) (fun n => n rfl)
 unfold ia
 rw [if_neg h1, if_neg h2, if_neg (by omega)]
theorem Bk (h : bY id sm m) : okPk (wk id m) := by
 unfold bY at h
 exact ⟨IA id (by omega), (show (Lit.int .i64 0).wf = true by decide), (show (Lit.int .i64 1).wf = true by decide), (show (Lit.int .i64 17).wf = true by decide), rg (by decide), rg (by decide), rg (by decide), rg (by decide), rg (by decide), rg (by decide), rg (by decide), rg (by decide), by show (e7 oC m).size <= maxLen; rw [gw]; unfold maxLen; omega⟩
theorem oQ (h : bY id sm m) : fi (wk id m) := by
 unfold bY at h
 exact ⟨⟨h.1, show id <= 65535 by omega⟩, (show (0 : Int) <= 0 /\ (0 : Int) <= 8191 by decide), (show (0 : Int) <= 1 /\ (1 : Int) <= 255 by decide), (show (0 : Int) <= 17 /\ (17 : Int) <= 255 by decide)⟩
theorem wS (h : bY id sm m) {i : Nat} (hx : (lz id sm m)[i]? = some x) : okPk x /\ fi x /\ (x.data.size : Int) + 39 <= sm := by
 obtain ⟨h1, h2, h3, _⟩ := zG (ne h) (Bk h) (oQ h) hx
 exact ⟨h1, h2, h3⟩
theorem s7 (h : bY id sm m) : lz id sm m = cW (wk id m) (sm.toNat - 39) (bD sm.toNat) 0 := by unfold lz eU; rw [if_pos (ne h)]
theorem oT {p : Pk} {w r : Nat} : ∀ (n a : Nat), p.data.size <= a + n * r + w -> (cW p w r a).length <= n + 1
 | 0, a, h => by
  rw [cW, dif_neg (by omega)]; simp
 | n + 1, a, h => by
  rw [cW]
  split
  ·have := oT (p := p) (w := w) (r := r) n (a + r) (by have : (n + 1) * r = n * r + r := Nat.succ_mul n r; omega)
   simp; omega
  ·simp
theorem j8 (h : bY id sm m) : 1 <= (lz id sm m).length /\ (lz id sm m).length <= 3 := by
 have hd : (wk id m).data.size = 8 + m.size := gw oC m
 have hr : 40 <= bD sm.toNat := by unfold bY at h; unfold bD; omega
 rw [s7 h]
 constructor
 ·rw [cW]; split <;> simp
 ·unfold bY at h; exact oT 2 0 (by omega)
theorem yh (h : bY id sm m) : FSpec prog 9 #[.agg [I id, Ff, I 0, I 1, I 17, U8 10, U8 0, U8 0, U8 0, U8 224, U8 224, U8 0, U8 10, .string (e7 oC m)].toArray, I sm] emp (fun _ : Nat × Nat × Nat => True) (fun y => .tuple #[Sk y.1 y.2.1 (lz id sm m).length y.2.2, I 0]) (fun y => Ow 39 14 (Sk y.1 y.2.1 (lz id sm m).length y.2.2) (lz id sm m).length ((lz id sm m).flatMap ef)) := by
 refine sQ (by have := j8 h; omega) ?_
 have := vS (wk id m) sm
 rw [ne h] at this
 exact this
theorem HL (L : List Pk) : Ent emp (Ow 9 1 (Ns) 0 ((L.take 0).map fun x => Value.string (iD x))) := Ow.nil 9 1
theorem Eq (hx : L[k]? = some x) : (L.take k).map (fun x => Value.string (iD x)) ++ [.string (iD x)] = (L.take (k + 1)).map fun x => .string (iD x) := by
 rw [List.take_add_one, hx]; simp
theorem wW {b o c : Nat} {P : ab} {R : ab} [h : Take P (Ow 39 14 (Sk b o L.length c) L.length (L.flatMap ef)) R] (hx : L[k]? = some x) : ∀ j u, (ef x)[j]? = some u -> Rd P b (o + k * 14 + j) u := fun j u hj => bU (S := Ow 39 14 (Sk b o L.length c) L.length (L.flatMap ef)) ((RdS.own (m := 14) (e := 39) (c := c) vv (.inr ⟨b, o, rfl⟩)).rd b o rfl k x j u hx hj)
end Sp
end
namespace Sp
attribute [local irreducible] JU lz e7 iD
abbrev Tnl0 : List Value := [I 10, I 0, I 0, I 2, Tt, I 10, I 0, I 5, I 100, I 1, I 0]
abbrev Dl (a : Nat) : ab := am a Tnl0 153
abbrev Dk (a : Nat) : ab := am a [U8 10, U8 0, U8 0, U8 0] 25
abbrev _root_.Go.qq33 : List Value := [U8 10, U8 0, U8 0, U8 0]
theorem E3 (c0 c1 c2 c3 c4 c5 cr co cl cn cg cm cz : Value) (id sm : Int) (m : ByteArray) (h : bY id sm m) : Kp prog 5 #[I 0, I 0] (emp) (.tuple #[.agg qq33.toArray, I 0]) := by
 refine en func5 r fun _ F=>bG<|sr<|al r fun b1=>an r<|js<|sr<|ec r<|go r<|ea r<|go r<|ec r<|go r<|ea r<|go r<|ec r<|go r<|ea r<|go r<|bf r<|sk<|sa r<|lv (eQ (c := U8 0) r r) r<|lv (bQ (pl := [(0, 1), (1, 1), (2, 1), (3, 1)]) r r) r<|al r fun b2=>so r r<|nr<|ea r<|aW func23 r<|sb r<|nr<|ea r<|lv ((i7 r r (by decide)).as (v' := I 0) r) r<|lv (eQ (c := U8 0) r r) r<|ea r<|lv (eQ (c := U8 0) r r) r<|eb r<|nk<|jr<|Iv r<|ec r<|lv (bZ 1 r r r r) r<|so r r<|lv (bZ 2 r r r r) r<|so r r<|nr<|ls r<|so r r<|an r<|jr ?_
 exact bM r (.agg r r (.tmp r (.nil))) () trivial r Ent.take
abbrev _root_.Go.qq27 : List Value := [U8 224, U8 224, U8 0, U8 10]
theorem HK (a : Nat) (c0 c1 c2 c3 c4 c5 cr co cl cn cg cm cz : Value) (id sm : Int) (m : ByteArray) (h : bY id sm m) : FSpec prog 199 #[Pt a 0, .agg Tnl0.toArray, .string m, I sm] (am a [c0, c1, c2, c3, c4, c5, I 0, cr, co, cl, cn, I id, cg, cm, cz] 263) (fun _ : (Option Addr × Nat) => True) (fun y => .tuple #[.slice y.1 ((lz id sm m).length) y.2, I 0]) (fun y => (aa (am a [c0, c1, c2, c3, c4, c5, I 0, cr, co, cl, cn, I id, cg, cm, cz] 263) (Ow 9 1 (.slice y.1 (lz id sm m).length y.2) (lz id sm m).length ((lz id sm m).map fun x => .string (iD x))))) := by
 refine en func199 r fun _ F=>sr<|bx r fun b1=>eb r<|nk ?_
 refine gO (X := Nat) (fun x6 => [(0, Pt a 0), (1, .agg Tnl0.toArray), (2, .string m), (3, I sm), (5, Pt b1 0), (8, Ns), (9, I 0), (10, Pt x6 0), (11, I 0)]) (fun x6 => (aa (am a [c0, c1, c2, c3, c4, c5, I 0, cr, co, cl, cn, I id, cg, cm, cz] 263) (aa (Dl b1) (aa (Dk x6) (F))))) (fun _ => True) ?_ (fun x6 _ => ?_)
 ·refine av ((aa (am a [c0, c1, c2, c3, c4, c5, I 0, cr, co, cl, cn, I id, cg, cm, cz] 263) (Dl b1))) (emp) [] ae<|pe 0 r r<|pe 1 r r<|pf 2 6 r r<|pf 4 2 r r<|pl 3 r r r<|pl 5 r r r ?_
  refine k8 [6, 10] (by kernel_rfl) rfl fun i hi => ?_
  simp only [List.mem_cons, List.not_mem_nil, or_false] at hi
  rcases hi with rfl | rfl
  ·refine bT r r (ai (E3 c0 c1 c2 c3 c4 c5 cr co cl cn cg cm cz id sm m h) r r r) fun _ _=>pe 7 r r<|pe 8 r r<|pe 9 r r<|pn 10 r (bq r) fun b4 _=>?_
   refine pn 11 r (aI r r r (List.all_eq_true.1 r)) fun _ _=>pe 12 r r<|dn<|kc b4 r Ent.take
  ·refine bT r r (bq r) fun b5 _=>pn 6 r (ai (E3 c0 c1 c2 c3 c4 c5 cr co cl cn cg cm cz id sm m h) r r r) fun _ _=>pe 7 r r<|pe 8 r r<|pe 9 r r ?_
   refine pn 11 r (aI r r r (List.all_eq_true.1 r)) fun _ _=>pe 12 r r<|dn<|kc b5 r Ent.take
 ·refine js<|sb r<|nf r<|sk<|sr<|lf 5 r r<|aW func6 r ?_
  refine sr<|al r fun b21=>an r<|js<|sr<|ec r<|go r<|ea r<|go r<|bf r<|sk<|sr<|lv (bQ (pl := [(0, 1), (1, 1), (2, 1), (3, 1)]) r r) r<|al r fun b2=>?_
  refine so r r<|nr<|ea r<|aW func23 r ?_
  refine sb r<|nr<|ea r<|lv ((i7 r r (by decide)).as (v' := I 0) r) r<|lv (eQ (c := U8 0) r r) r<|ea r<|lv (eQ (c := U8 10) r r) r<|eb r<|nk<|jr<|Iv r<|ec r<|lv (bZ 2 r r r r) r<|so r r<|lv (bZ 3 r r r r) r<|so r r<|nr<|ls r<|so r r<|an r<|jr ?_
  refine sT r (.agg r r (.tmp r (.nil))) r<|ec r<|al r fun b7=>so r r<|an r<|js<|sb r<|nf r<|sk<|sr ?_
  refine ls r<|ls r<|lf 7 r r<|lf 7 r r<|lv (af r) r<|ea r<|cy (wl oC m wB oR (by unfold bY at h; omega)) r fun _=>ed r<|an r<|js<|sb r<|nf r<|sk<|js<|av ((aa (am a [c0, c1, c2, c3, c4, c5, I 0, cr, co, cl, cn, I id, cg, cm, cz] 263) (aa (Dk x6) (am b7 qq27 25)))) (emp) [] ae<|pe 0 r r ?_
  refine pe 1 r r<|pf 2 11 r r<|pe 6 r r<|pe 8 r r<|pl 3 r r r<|ps 4 r (ax r)<|ps 5 r (ax r)<|ps 7 r (af r)<|pn 9 r (ai (yh h) r r r) fun y9 _=>pe 10 r r<|pe 11 r r<|pe 12 r r<|pe 13 r r<|pe 14 r r<|dn<|kt ?_
  refine js<|sb r<|nf r<|sk<|aE r<|js<|sa r<|ll r<|an r<|jb<|bX (X := Nat × Option Addr × Nat) (fun z => [(0, Pt a 0), (1, .agg Tnl0.toArray), (2, .string m), (3, I sm), (5, Pt b1 0), (8, Ns), (9, I 0), (10, Pt x6 0), (11, I 0), (31, Ff), (12, Pt b7 0), (40, Ff), (13, .string (e7 oC m)), (55, Ff), (14, Sk y9.1 y9.2.1 ((lz id sm m).length) y9.2.2), (71, Ff), (15, .slice z.2.1 z.1 z.2.2), (73, Sk y9.1 y9.2.1 ((lz id sm m).length) y9.2.2), (74, I (((lz id sm m).length : Nat) : Int)), (75, I ((z.1 : Nat) : Int))]) (fun z => (aa (am a [c0, c1, c2, c3, c4, c5, I 0, cr, co, cl, cn, I id, cg, cm, cz] 263) (aa (Dl b1) (aa (Dk x6) (aa (am b7 qq27 25) (aa (Ow 39 14 (Sk y9.1 y9.2.1 (lz id sm m).length y9.2.2) (lz id sm m).length ((lz id sm m).flatMap ef)) (aa (Ow 9 1 (.slice z.2.1 z.1 z.2.2) z.1 (((lz id sm m).take z.1).map fun x => .string (iD x))) (F)))))))) (fun z => z.1 <= (lz id sm m).length) (fun z => (lz id sm m).length - z.1) ((0, (none, 0))) (Nat.zero_le _) ⟨r, r, r, r, r, r, r, r, r, r, r, r, r, r, r, r, r, r, r, r, trivial⟩ (Ent.trans (Ent.trans (Ent.of (bN _).symm) ((HL (lz id sm m)).frame _)) Ent.take) fun z hz=>sr<|lv (aM r r) r<|nj<|aG r (fun hc => ?_) fun hc=>?_
  ·obtain ⟨x, hx⟩ : ∃ x, (lz id sm m)[z.1]? = some x := ⟨_, List.getElem?_eq_getElem (by omega)⟩
   have hx2 := wS h hx
   have hx3 := lA x
   have hpl := j8 h
   refine sk<|js<|jb<|sr<|lv ((au r r (by omega)).as (v' := Pt y9.1 (y9.2.1 + z.1 * 14)) (by rw [Int.toNat_natCast])) r<|lv (br (vs := [I x.id, .bool x.more, I x.off, I x.ttl, I x.proto, U8 x.s0, U8 x.s1, U8 x.s2, U8 x.s3, U8 x.d0, U8 x.d1, U8 x.d2, U8 x.d3, .string x.data]) r r (wW (c := y9.2.2) hx)) r<|al r fun b10=>so r r<|nr<|ls r<|cy (qX x hx2.1 hx2.2.1 (by unfold bY at h; omega)) r fun _=>ed r<|an r<|js<|sb r<|nf r ?_
   refine sk<|jg<|eb r<|lx r (aq (m := 1) r r (by decide) (by decide) r) fun b11 _=>lx r (cO (m := 1) (B := 16) r r (Src.lit) r (by omega) r (List.all_eq_true.1 r) (by unfold maxLen; have := j8 h; omega) (by have := j8 h; omega) r) fun y12 _=>ea r<|ln<|kb<|kt<|jg<|lv (aQ r r (by unfold bY at h; omega)) r<|ea r<|ln ?_
   exact bO ((z.1 + 1, y12)) (by dsimp only; omega) (by dsimp only; omega) ⟨r, r, r, r, r, r, r, r, r, r, r, r, r, r, r, r, r, r, r, r, trivial⟩ (Ent.trans (Ent.of (by rw [Eq hx])) Ent.take)
  ·have e : z.1 = (lz id sm m).length := by omega
   rw [e, List.take_length]
   refine jx<|ke<|ke<|kh<|kt<|sr<|ec r<|nk<|jr ?_
   exact bM r (.tmp r (.tmp r (.nil))) z.2 trivial r Ent.take
end Sp
section
namespace Sp
open Mq
def bL (n : Nat) : Nat := match n with
 | 1 => 4
 | 2 => 6
 | _ => 8
def s8 (n : Nat) : List Value := match n with
 | 1 => (I 10 :: I 0 :: I 0 :: I 2 :: Tt :: I 10 :: I 0 :: I 5 :: I 100 :: I 1 :: I 0 :: I 20 :: I 1 :: I 1 :: I 2 :: Ff :: I 10 :: I 0 :: I 5 :: I 100 :: I 64 :: I 0 :: I 30 :: I 0 :: I 0 :: I 1 :: Tt :: I 10 :: I 1 :: I 6 :: I 20 :: I 0 :: I 0 :: I 31 :: I 1 :: I 1 :: I 1 :: Ff :: I 10 :: I 0 :: I 6 :: I 20 :: I 0 :: I 1000000 :: [])
 | 2 => (I 10 :: I 0 :: I 0 :: I 2 :: Tt :: I 10 :: I 0 :: I 5 :: I 100 :: I 1 :: I 0 :: I 11 :: I 0 :: I 0 :: I 2 :: Tt :: I 11 :: I 0 :: I 5 :: I 100 :: I 1 :: I 0 :: I 20 :: I 1 :: I 1 :: I 2 :: Ff :: I 10 :: I 0 :: I 5 :: I 100 :: I 64 :: I 0 :: I 21 :: I 1 :: I 1 :: I 2 :: Ff :: I 11 :: I 0 :: I 5 :: I 100 :: I 64 :: I 0 :: I 30 :: I 0 :: I 0 :: I 1 :: Tt :: I 10 :: I 1 :: I 6 :: I 20 :: I 0 :: I 0 :: I 31 :: I 1 :: I 1 :: I 1 :: Ff :: I 10 :: I 0 :: I 6 :: I 20 :: I 0 :: I 1000000 :: [])
 | _ => (I 10 :: I 0 :: I 0 :: I 2 :: Tt :: I 10 :: I 0 :: I 5 :: I 100 :: I 1 :: I 0 :: I 11 :: I 0 :: I 0 :: I 2 :: Tt :: I 11 :: I 0 :: I 5 :: I 100 :: I 1 :: I 0 :: I 12 :: I 0 :: I 0 :: I 2 :: Tt :: I 12 :: I 0 :: I 5 :: I 100 :: I 1 :: I 0 :: I 20 :: I 1 :: I 1 :: I 2 :: Ff :: I 10 :: I 0 :: I 5 :: I 100 :: I 64 :: I 0 :: I 21 :: I 1 :: I 1 :: I 2 :: Ff :: I 11 :: I 0 :: I 5 :: I 100 :: I 64 :: I 0 :: I 22 :: I 1 :: I 1 :: I 2 :: Ff :: I 12 :: I 0 :: I 5 :: I 100 :: I 64 :: I 0 :: I 30 :: I 0 :: I 0 :: I 1 :: Tt :: I 10 :: I 1 :: I 6 :: I 20 :: I 0 :: I 0 :: I 31 :: I 1 :: I 1 :: I 1 :: Ff :: I 10 :: I 0 :: I 6 :: I 20 :: I 0 :: I 1000000 :: [])
def cE (n rb ro rc : Nat) : ab := Ow 153 11 (Sk rb ro (bL n) rc) (bL n) (s8 n)
abbrev _root_.Go.qq37 : List Value := [I 10, I 0, I 0, I 2, Tt, I 10, I 0, I 5, I 100, I 1, I 0]
theorem mH (n rb ro rc : Nat) (hn : n = 1 \/ n = 2 \/ n = 3) (c0 c1 c2 c3 c4 : Value) : Kp prog 198 #[.agg [c0, c1, c2, c3, c4, Sk rb ro (bL n) rc].toArray, I 10] (cE n rb ro rc) (.tuple #[.agg qq37.toArray, Tt]) := by
 rcases hn with rfl | rfl | rfl
 ·exact zz rb ro rc c0 c1 c2 c3 c4
 ·exact zx rb ro rc c0 c1 c2 c3 c4
 ·exact zu rb ro rc c0 c1 c2 c3 c4
abbrev _root_.Go.qq64 : List Value := [I 20, I 1, I 1, I 2, Ff, I 10, I 0, I 5, I 100, I 64, I 0]
theorem yx (n rb ro rc : Nat) (hn : n = 1 \/ n = 2 \/ n = 3) (c0 c1 c2 c3 c4 : Value) : Kp prog 198 #[.agg [c0, c1, c2, c3, c4, Sk rb ro (bL n) rc].toArray, I 20] (cE n rb ro rc) (.tuple #[.agg qq64.toArray, Tt]) := by
 rcases hn with rfl | rfl | rfl
 ·exact zy rb ro rc c0 c1 c2 c3 c4
 ·exact zw rb ro rc c0 c1 c2 c3 c4
 ·exact zr rb ro rc c0 c1 c2 c3 c4
theorem B5 (q : Nat) (t : Int) : Kp prog 200 #[Pt q 0] (SubP q [] t) (I 0) := jC q [] t
theorem LkP.of {n lr ob oo oc p : Nat} {fl : Int -> Option Value} (h : fl 10 = some (Pt p 0)) : Ent ((aa (Ow 3 1 (Sk ob oo n oc) n (Cw n)) (aa (az lr .i64 fl) (LX n fl)))) (LkP n lr ob oo oc p) := Ent.trans (Ent.lift h) (bh (f := fun fl : Int -> Option Value => (aa (SLA.lift (fl 10 = some (Pt p 0))) (aa (Ow 3 1 (Sk ob oo n oc) n (Cw n)) (aa (az lr .i64 fl) (LX n fl))))) fl)
theorem iL {f : FuncId} {args : Array Value} {P R : ab} {e m n : Nat} {l : List Value} {V : Option Addr × Nat -> Value} (hn : n ≠ 0) (h : FSpec prog f args P (fun _ : Option Addr × Nat => True) V (fun r => (aa (R) (Ow e m (.slice r.1 n r.2) n l)))) :
  FSpec prog f args P (fun _ : Nat × Nat × Nat => True) (fun y => V (some (ad y.1 y.2.1), y.2.2)) (fun y => (aa (R) (Ow e m (Sk y.1 y.2.1 n y.2.2) n l))) := by
 unfold FSpec at h ⊢
 intro σ w F hs
 exact (h σ w F hs).mono fun e w' ⟨r, _, he, hs'⟩ => by
  obtain ⟨r1, r2⟩ := r
  rw [ak, aR] at hs'
  rcases fg hs' with ⟨_, g2, _⟩ | ⟨b, cap, pre, post, g1, _⟩
  ·exact absurd g2 hn
  ·simp only [Value.slice.injEq] at g1
   obtain ⟨g1, _, g2⟩ := g1
   subst g1 g2
   exact ⟨(b, pre.length, r2), trivial, he, by rw [ak, aR]; exact hs'⟩
theorem eT {id sm : Int} {m : ByteArray} (h : bY id sm m) : 1 <= (dq id sm m).length /\ (dq id sm m).length <= 3 := by
 have := j8 h
 unfold dq
 rwa [List.length_map]
theorem zB (a : Nat) (c0 c1 c2 c3 c4 c5 cr co cl cn cg cm cz : Value) (id sm : Int) (m : ByteArray) (h : bY id sm m) : FSpec prog 199 #[Pt a 0, .agg qq37.toArray, .string m, I sm] (am a [c0, c1, c2, c3, c4, c5, I 0, cr, co, cl, cn, I id, cg, cm, cz] 263) (fun _ : Nat × Nat × Nat => True) (fun y => .tuple #[Sk y.1 y.2.1 (dq id sm m).length y.2.2, I 0])
  (fun y => (aa (am a [c0, c1, c2, c3, c4, c5, I 0, cr, co, cl, cn, I id, cg, cm, cz] 263) (Ow 9 1 (Sk y.1 y.2.1 (dq id sm m).length y.2.2) (dq id sm m).length (iz (dq id sm m))))) := by
 have e : (lz id sm m).length = (dq id sm m).length := by unfold dq; rw [List.length_map]
 have e2 : (lz id sm m).map (fun x => Value.string (iD x)) = iz (dq id sm m) := by unfold dq iz; rw [List.map_map]; rfl
 have := iL (by have := j8 h; omega) (HK a c0 c1 c2 c3 c4 c5 cr co cl cn cg cm cz id sm m h)
 rw [e2, e] at this
 exact this
theorem nu (id : Int) (h : 0 <= id /\ id <= 1000) : IntKind.i64.wrap ((BitVec.ofInt IntKind.i64.bits (id + 1) &&& BitVec.ofInt IntKind.i64.bits 65535).toNat : Int) = id + 1 := by
 have := lL (w := 64) (m := 16) (a := id + 1) (by decide) (by omega)
 rw [show ((2 : Int) ^ 16 - 1) = 65535 from rfl] at this
 rw [show IntKind.i64.bits = 64 from rfl, this]
 rw [show (id + 1) % 2 ^ 16 = id + 1 by omega]
 exact Go.IntWalk.i64_in _ (by omega)
end Sp
end
namespace Sp
attribute [local irreducible] JU
abbrev yc (a : ByteArray) (b : Int) : List Value := [I 1, I 10, .string a, I 0, I b, I 0]
abbrev sx (a b c : Nat) : ab := Ow 149 3 (Sk a b 3 c) 3 [I 0, I 0, I 1000, I 1, I 0, I 1000, I 2, I 0, I 1000]
abbrev tL (a : Nat) (b c : Value) (d e f : Nat) (g : Value) (h j k l m : Nat) (n o : Value) (p : Nat) (q : Int) : ab := am a [b, c, I 1000, Sk d e 3 f, g, Sk h j (bL k) l, I 0, Pt m 0, n, o, Mp p, I q] 218
abbrev tK (a : Nat) (b c : Value) (d e f : Nat) (g : Value) (h j k l : Nat) (m n : Value) (o p : Nat) (q : Int) : ab := am a [b, c, I 1000, Sk d e 3 f, g, Sk h j (bL k) l, I 1, m, n, Pt o 0, Mp p, I q] 218
abbrev Df (a : Nat) (b : Int) : ab := am a [I 3, I 20, Z, I 0, I b, I 1] 230
theorem El (c d : Nat) (c0 c1 c2 c3 c4 c5 ho lr id gm nb : Value) (cur free now a : Int) (h : 0 <= a /\ a <= 10000000 /\ 0 <= now /\ now <= a /\ cur <= a) : Sp prog 162 #[Pt c 0, I a] ((aa (am c [c0, c1, c2, c3, c4, c5, ho, lr, Ns, Pt d 0, I now, id, gm, nb, Ns] 263) (Mq.LineP d [] cur free))) (.tuple #[Ns, I 0]) ((aa (am c [c0, c1, c2, c3, c4, c5, ho, lr, Ns, Pt d 0, I a, id, gm, nb, Ns] 263) (Mq.LineP d [] a free))) := by
 refine en func162 r fun _ F=>sb r<|nj<|sb r<|aW func185 r<|aE r<|js<|jb<|sa r<|ep false r<|an r<|cf r<|sa r<|bJ r<|ea r<|go r<|ea r<|go r<|bJ r<|bf r<|sr<|ec r<|lf 10 r r<|bJ r<|an r<|cf r<|cY<|aE r<|jr<|cX r<|an r<|sb r<|nf r<|sk<|sb r<|aW func186 r<|sr<|ec r<|fa 10 r<|so r r<|nj<|sb r<|aW func205 r<|aE r<|aE r<|js<|sb r<|lf 8 r r<|ll r<|an r<|jl<|uf r<|kt<|sb r<|nk<|jr<|cX r<|an r<|jl<|ju<|js<|sa r<|np false r<|nf r<|jx ?_
 refine ke<|ke<|kh<|kt<|jg<|eb r<|aW func207 r<|sb r<|lf 9 r r<|ea r<|cy (yJ d ([]) cur free a (by omega) (by simp) (fun _ h21 => absurd h21 (by simp))) r fun y1=>ed r<|an r<|sa r<|ll r<|an r<|jl<|uf r<|jA r<|ln<|jA r<|nr<|eb r<|lf 14 r r<|an r<|sb r ?_
 refine fa 14 r<|so r r<|nr<|ec r<|nk<|jr<|r2 r Ent.take
theorem Ft (c : Nat) (k0 k1 k2 k3 k4 k5 ho rx rm md : Value) (tx : Nat) (kn a : Int) (A0 : ab) (hk : kn <= a /\ 0 <= a /\ a <= 10000000) (A1 : ab) (hA : Go.SLA.Sp prog 162 #[Pt tx 0, I a] A0 (.tuple #[Ns, I 0]) A1) : Sp prog 135 #[Pt c 0, I a] ((aa (am c [k0, k1, k2, k3, k4, k5, ho, Pt tx 0, rx, rm, md, I kn] 218) (A0))) (.tuple #[Ns, I 0]) ((aa (am c [k0, k1, k2, k3, k4, k5, ho, Pt tx 0, rx, rm, md, I a] 218) (A1))) := by
 refine en func135 r fun _ F=>sb r<|nj<|jb<|sa r<|ep false r<|an r<|cf r<|sa r<|aW func103 r<|aE r<|sa r<|eR r<|ea r<|go r<|ea r<|go r<|eR r<|eb r<|nk<|jr<|cX r<|bf r<|cY<|js<|sb r<|aW func104 r<|aE r<|js<|sr<|ec r<|lf 11 r r<|bJ r<|nf r<|sk<|sr<|ec r<|fa 11 r<|so r r<|nr<|an r<|jr<|cX r<|an r ?_
 refine sb r<|nf r<|sk<|sb r<|lf 7 r r<|ea r<|cy hA r fun _=>ed r<|nk<|jr<|r2 r Ent.take
theorem Fs (c : Nat) (k0 k1 k2 k3 k4 k5 ho rx rm md : Value) (tx : Nat) (kn a : Int) (A0 : ab) (hk : kn <= a /\ 0 <= a /\ a <= 10000000) (L : List Value) (A1 : ab) (hA : Go.SLA.FSpec prog 162 #[Pt tx 0, I a] A0 (fun _ : Nat × Nat × Nat => True) (fun y => .tuple #[Sk y.1 y.2.1 1 y.2.2, I 0]) (fun y => (aa (A1) (Ow 299 5 (Sk y.1 y.2.1 1 y.2.2) 1 L)))) : FSpec prog 135 #[Pt c 0, I a] ((aa (am c [k0, k1, k2, k3, k4, k5, ho, Pt tx 0, rx, rm, md, I kn] 218) (A0))) (fun _ : Nat × Nat × Nat => True) (fun y => .tuple #[Sk y.1 y.2.1 1 y.2.2, I 0]) (fun y => (aa (am c [k0, k1, k2, k3, k4, k5, ho, Pt tx 0, rx, rm, md, I a] 218) (aa (A1) (Ow 299 5 (Sk y.1 y.2.1 1 y.2.2) 1 L)))) := by
 refine en func135 r fun _ F=>sb r<|nj<|jb<|sa r<|ep false r<|an r<|cf r<|sa r<|aW func103 r<|aE r<|sa r<|eR r<|ea r<|go r<|ea r<|go r<|eR r<|eb r<|nk<|jr<|cX r<|bf r<|cY<|js<|sb r<|aW func104 r<|aE r<|js<|sr<|ec r<|lf 11 r r<|bJ r<|nf r<|sk<|sr<|ec r<|fa 11 r<|so r r<|nr<|an r<|jr<|cX r<|an r<|sb r<|nf r<|sk<|sb r<|lf 7 r r<|ea r<|cy hA r fun y1=>ed r<|nk<|jr ?_
 exact bM r (.tmp r (.tmp r (.nil))) (y1.1, y1.2.1, y1.2.2) trivial r Ent.take
theorem BE (k0 k1 k4 k5 tx rx rm : Value) (kn a : Int) (fm : Int -> Option Value) (hk : kn <= a /\ 0 <= a /\ a <= 10000000) (h0 : fm 0 = some (I 1)) : Kp prog 103 #[I a] (emp) (Tt) := by
 refine en func103 r fun _ F=>bG<|aE r<|sa r<|eR r<|ea r<|go r<|ea r<|go r<|eR r<|eb r<|nk<|jr<|r1 r Ent.take
theorem BD (c d e g h : Nat) (k0 k1 k4 k5 tx rx rm : Value) (kn a : Int) (fm : Int -> Option Value) (hk : kn <= a /\ 0 <= a /\ a <= 10000000) (h0 : fm 0 = some (I 1)) : Kp prog 143 #[Pt c 0, I 0] ((aa (am c [k0, k1, I 1000, Sk d e 3 g, k4, k5, I 0, tx, rx, rm, Mp h, I a] 218) (az h .i64 fm))) (Tt) := by
 refine en func143 r fun _ F=>aE r<|sb r<|lf 10 r r<|ea r<|lv (aN (v := .tuple #[I 1, Tt]) r r (some (I 1)) h0 r) r<|ed r<|an r<|sb r<|nk<|jr<|r1 r Ent.take
theorem Fq (c d e g h : Nat) (k0 k1 k4 k5 tx rx rm : Value) (kn a : Int) (fm : Int -> Option Value) (hk : kn <= a /\ 0 <= a /\ a <= 10000000) (h0 : fm 0 = some (I 1)) : Sp prog 64 #[Pt c 0, I a, I 0, .agg [I 4, I 0, Z, I 3].toArray] ((aa (am c [k0, k1, I 1000, Sk d e 3 g, k4, k5, I 0, tx, rx, rm, Mp h, I kn] 218) (aa (sx d e g) (az h .i64 fm)))) (.agg [I 0, Z, Ff, I 0].toArray) ((aa (am c [k0, k1, I 1000, Sk d e 3 g, k4, k5, I 0, tx, rx, rm, Mp h, I a] 218) (aa (sx d e g) (az h .i64 (fun m' => if m' = 0 then some (I 3) else fm m'))))) := by
 refine en func64 r fun _ F=>sr<|bx r fun b1=>al r fun b2=>nj<|jb<|sa r<|ep false r<|an r<|cf r<|sa r<|cu (BE k0 k1 k4 k5 tx rx rm kn a fm hk h0) r<|eb r<|go r<|fa 0 r<|go r ?_
 refine ld r r<|go r<|ec r<|go r<|fa 0 r<|go r<|ld r r<|go r<|ec r<|nf r<|cY<|js<|sb r<|aW func104 r ?_
 refine aE r<|js<|sr<|ec r<|lf 11 r r<|bJ r<|nf r<|sk<|sr<|ec r<|fa 11 r<|so r r<|nr<|an r<|jr ?_
 refine cX r<|an r<|sb r ?_
 refine nf r<|sk<|js<|sr<|ec r<|aW func105 r ?_
 refine aE r<|sb r<|aW func142 r ?_
 refine sr<|ec r<|nj<|sa r<|ep false r<|ea r<|go r<|ea r<|go r<|cu (BE k0 k1 k4 k5 tx rx rm kn a fm hk h0) r<|go r<|bf r<|sk<|sr<|ec r ?_
 refine fa 0 r<|lf 2 r r<|lv (fu r r (by omega)) r<|an r<|js<|sb r<|fa 0 r<|lf 3 r r<|ll r<|an r<|jl<|ut r<|js<|jb<|sr<|ix e r r ?_
 refine lv (bP 0 r r) r<|al r fun b22=>so r r<|nr<|ea r<|lf 0 r r<|cu (BD c d e g h k0 k1 k4 k5 tx rx rm kn a fm hk h0) r<|ea r<|go r<|ea r<|go r<|fa 1 r<|go r<|ld r r<|go r<|eR r ?_
 refine eb r<|go r<|ea r<|go r<|fa 1 r<|go r<|ld r r<|go r<|fa 2 r<|go r<|ld r r<|go r<|ib (I 1000) r<|go r<|eR r<|an r ?_
 refine ct r<|js<|dM ae<|qf 0 r<|ql r r<|qb r<|qv (bm r r (by omega)) r<|qf 1 r<|ql r r<|ww r<|qf 2 r<|ql r r<|ww r<|qb r<|qa r<|qn ?_
 refine kt<|jr<|kq<|kd<|kd<|kq<|kd ?_
 refine sT r (.tmp r (.tmp r (.tmp r (.nil)))) r<|ed r<|ec r<|nj<|jb<|sb r<|cu (BD c d e g h k0 k1 k4 k5 tx rx rm kn a fm hk h0) r<|bf r<|sr<|ec r<|go r<|ea r<|go r ?_
 refine ea r<|go r<|ec r<|nf r<|sb r<|lf 10 r r<|ea r<|lv (aN (v := I 1) r r (some (I 1)) h0 r) r<|bf r<|cY<|aE r<|jr<|cX r<|an r<|sb r<|nf r<|sk<|js<|av (am b1 [I 4, I 0, Z, I 3] 77) (emp) [] ae<|pf 1 0 r r<|pe 4 r r<|pe 6 r r<|pe 7 r r ?_
 refine pl 2 r r r<|ps 5 r (ax r)<|ps 8 r (af r)<|kS 0 r func106 r ?_
 refine sr<|al r fun b23=>nr<|lv (bQ (pl := [(0, 1), (1, 1), (2, 1), (3, 1), (4, 1), (5, 1)]) r r) r<|so r r<|nk<|jr ?_
 refine rp r (.agg r r (.nil)) r<|ps 3 r (fG r r r r)<|kS 9 r func147 r ?_
 refine sr<|bx r fun b24=>al r fun b25=>nj<|dM ae<|qb r<|qf 10 r<|ql r r<|qf 5 r<|ql r r<|qv (aN (v := I 1) r r (some (I 1)) h0 r) r<|qa r<|qn<|kt<|js ?_
 refine jb<|sr<|fa 0 r<|lf 3 r r<|eb r<|go r<|fa 0 r<|go r<|fa 3 r<|go r<|ld r r<|go r<|ec r<|nf r<|sr<|fa 0 r ?_
 refine lf 3 r r<|eb r<|go r<|ea r<|go r<|ec r<|go r<|fa 0 r<|go r<|fa 3 r<|go r<|ld r r<|go r<|ea r<|go r<|ea r ?_
 refine gs r<|gs r<|go r<|ec r<|nf r<|cY<|sa r<|lf 5 r r<|fa 0 r<|lf 3 r r<|aW func179 r ?_
 refine sb r<|lf 10 r r<|eb r<|lx r (dh r r r) fun _ _=>nr<|bf r<|jk<|jA r<|nr<|lv (af r) r<|so r r<|nk<|jr ?_
 refine rp r (.agg r r (.nil)) r ?_
 refine pn 10 r (aI r r r (List.all_eq_true.1 r)) fun _ _=>dn<|kt<|jr ?_
 exact bM r (.agg r r (.nil)) () trivial r Ent.take
theorem BC (k0 k1 k4 k5 tx rx rm : Value) (kn a : Int) (fm : Int -> Option Value) (hk : kn <= a /\ 0 <= a /\ a <= 10000000) (h1 : fm 1 = some (I 1)) (h0 : fm 0 = none) : Kp prog 103 #[I a] (emp) (Tt) := by
 refine en func103 r fun _ F=>bG<|aE r<|sa r<|eR r<|ea r<|go r<|ea r<|go r<|eR r<|eb r<|nk<|jr<|r1 r Ent.take
theorem BB (c d e g h : Nat) (k0 k1 k4 k5 tx rx rm : Value) (kn a : Int) (fm : Int -> Option Value) (hk : kn <= a /\ 0 <= a /\ a <= 10000000) (h1 : fm 1 = some (I 1)) (h0 : fm 0 = none) : Kp prog 143 #[Pt c 0, I 1] ((aa (am c [k0, k1, I 1000, Sk d e 3 g, k4, k5, I 1, tx, rx, rm, Mp h, I a] 218) (az h .i64 fm))) (Tt) := by
 refine en func143 r fun _ F=>aE r<|sb r<|lf 10 r r<|ea r<|lv (aN (v := .tuple #[I 1, Tt]) r r (some (I 1)) h1 r) r<|ed r<|an r<|sb r<|nk<|jr<|r1 r Ent.take
theorem Cr (c d e g h : Nat) (k0 k1 k4 k5 tx rx rm : Value) (kn a : Int) (fm : Int -> Option Value) (hk : kn <= a /\ 0 <= a /\ a <= 10000000) (h1 : fm 1 = some (I 1)) (h0 : fm 0 = none) : Sp prog 64 #[Pt c 0, I a, I 1, .agg [I 4, I 0, Z, I 3].toArray] ((aa (am c [k0, k1, I 1000, Sk d e 3 g, k4, k5, I 1, tx, rx, rm, Mp h, I kn] 218) (aa (sx d e g) (az h .i64 fm)))) (.agg [I 0, Z, Ff, I 0].toArray) ((aa (am c [k0, k1, I 1000, Sk d e 3 g, k4, k5, I 1, tx, rx, rm, Mp h, I a] 218) (aa (sx d e g) (az h .i64 (fun m' => if m' = 1 then some (I 3) else fm m'))))) := by
 refine en func64 r fun _ F=>sr<|bx r fun b1=>al r fun b2=>nj<|jb<|sa r<|ep false r<|an r<|cf r<|sa r<|cu (BC k0 k1 k4 k5 tx rx rm kn a fm hk h1 h0) r<|eb r<|go r<|fa 0 r<|go r ?_
 refine ld r r<|go r<|ec r<|go r<|fa 0 r<|go r<|ld r r<|go r<|ec r<|nf r<|cY<|js<|sb r<|aW func104 r ?_
 refine aE r<|js<|sr<|ec r<|lf 11 r r<|bJ r<|nf r<|sk<|sr<|ec r<|fa 11 r<|so r r<|nr<|an r<|jr ?_
 refine cX r<|an r<|sb r ?_
 refine nf r<|sk<|js<|sr<|ec r<|aW func105 r ?_
 refine aE r<|sb r<|aW func142 r ?_
 refine sr<|ec r<|nj<|sa r<|ep false r<|ea r<|go r<|ea r<|go r<|cu (BC k0 k1 k4 k5 tx rx rm kn a fm hk h1 h0) r<|go r<|bf r<|sk<|sr<|ec r ?_
 refine fa 0 r<|lf 2 r r<|lv (fu r r (by omega)) r<|an r<|js<|sb r<|fa 0 r<|lf 3 r r<|ll r<|an r<|jl<|ut r<|js<|jb<|sr<|ix e r r ?_
 refine lv (bP 0 r r) r<|al r fun b26=>so r r<|nr<|ea r<|lf 0 r r<|aW func143 r ?_
 refine aE r<|sb r<|lf 10 r r<|ea r<|lv (aN (v := .tuple #[I 0, Ff]) r r none h0 r) r<|ed r<|an r<|sb r<|nk<|jr<|cX r<|ea r<|gs r<|gs r<|gs r<|gs r<|eb r<|gs r<|gs r<|gs r ?_
 refine gs r<|gs r<|gs r<|gs r<|an r<|cf r<|jk<|ni (I 1) r<|ut r<|js<|jb<|sr<|ix (e + 3) r r<|lv (bP 3 r r) r<|al r fun b27=>so r r<|nr ?_
 refine ea r<|lf 0 r r<|cu (BB c d e g h k0 k1 k4 k5 tx rx rm kn a fm hk h1 h0) r<|ea r<|go r<|ea r<|go r<|fa 1 r<|go r<|ld r r<|go r<|eR r<|eb r<|go r<|ea r<|go r ?_
 refine fa 1 r<|go r<|ld r r<|go r<|fa 2 r<|go r<|ld r r<|go r<|ib (I 1000) r<|go r<|eR r<|an r<|ct r<|js<|dM ae<|qf 0 r ?_
 refine ql r r<|qb r<|qv (bm r r (by omega)) r<|qf 1 r<|ql r r<|ww r<|qf 2 r<|ql r r<|ww r<|qb r<|qa r<|qn<|kt<|jr<|kq<|kd ?_
 refine kd<|kq<|kd ?_
 refine sT r (.tmp r (.tmp r (.tmp r (.nil)))) r<|ed r<|ec r<|nj<|jb<|sb r<|cu (BB c d e g h k0 k1 k4 k5 tx rx rm kn a fm hk h1 h0) r<|bf r<|sr<|ec r<|go r<|ea r<|go r ?_
 refine ea r<|go r<|ec r<|nf r<|sb r<|lf 10 r r<|ea r<|lv (aN (v := I 1) r r (some (I 1)) h1 r) r<|bf r<|cY<|aE r<|jr<|cX r<|an r<|sb r<|nf r<|sk<|js<|av (am b1 [I 4, I 0, Z, I 3] 77) (emp) [] ae<|pf 1 0 r r<|pe 4 r r<|pe 6 r r<|pe 7 r r ?_
 refine pl 2 r r r<|ps 5 r (ax r)<|ps 8 r (af r)<|kS 0 r func106 r ?_
 refine sr<|al r fun b28=>nr<|lv (bQ (pl := [(0, 1), (1, 1), (2, 1), (3, 1), (4, 1), (5, 1)]) r r) r<|so r r<|nk<|jr ?_
 refine rp r (.agg r r (.nil)) r<|ps 3 r (fG r r r r)<|kS 9 r func147 r ?_
 refine sr<|bx r fun b29=>al r fun b30=>nj<|dM ae<|qb r<|qf 10 r<|ql r r<|qf 5 r<|ql r r<|qv (aN (v := I 1) r r (some (I 1)) h1 r) r<|qa r<|qn<|kt<|js ?_
 refine jb<|sr<|fa 0 r<|lf 3 r r<|eb r<|go r<|fa 0 r<|go r<|fa 3 r<|go r<|ld r r<|go r<|ec r<|nf r<|sr<|fa 0 r ?_
 refine lf 3 r r<|eb r<|go r<|ea r<|go r<|ec r<|go r<|fa 0 r<|go r<|fa 3 r<|go r<|ld r r<|go r<|ea r<|go r<|ea r ?_
 refine gs r<|gs r<|go r<|ec r<|nf r<|cY<|sa r<|lf 5 r r<|fa 0 r<|lf 3 r r<|aW func179 r ?_
 refine sb r<|lf 10 r r<|eb r<|lx r (dh r r r) fun _ _=>nr<|bf r<|jk<|jA r<|nr<|lv (af r) r<|so r r<|nk<|jr ?_
 refine rp r (.agg r r (.nil)) r ?_
 refine pn 10 r (aI r r r (List.all_eq_true.1 r)) fun _ _=>dn<|kt<|jr ?_
 exact bM r (.agg r r (.nil)) () trivial r Ent.take
theorem Fp (k0 k1 k4 rx rm : Value) (tx : Nat) (n : Nat) (hn : n = 1 \/ n = 2 \/ n = 3) (kn a : Int) (fm : Int -> Option Value) (hk : kn <= a /\ 0 <= a /\ a <= 10000000) (h0 : fm 0 = some (I 3)) (m : ByteArray) (v : Int) (A0 A1 : ab) (pb po pc : Nat) (hS : Go.SLA.Sp prog 176 #[Pt tx 0, I a, I 10, .string m] (aa (A0) (cE n pb po pc)) (I v) (aa (A1) (cE n pb po pc))) : Kp prog 103 #[I a] (emp) (Tt) := by
 refine en func103 r fun _ F=>bG<|aE r<|sa r<|eR r<|ea r<|go r<|ea r<|go r<|eR r<|eb r<|nk<|jr<|r1 r Ent.take
theorem Fo (c d e g h : Nat) (k0 k1 k4 rx rm : Value) (tx : Nat) (n : Nat) (hn : n = 1 \/ n = 2 \/ n = 3) (kn a : Int) (fm : Int -> Option Value) (hk : kn <= a /\ 0 <= a /\ a <= 10000000) (h0 : fm 0 = some (I 3)) (m : ByteArray) (v : Int) (A0 A1 : ab) (pb po pc : Nat) (hS : Go.SLA.Sp prog 176 #[Pt tx 0, I a, I 10, .string m] (aa (A0) (cE n pb po pc)) (I v) (aa (A1) (cE n pb po pc))) : Kp prog 143 #[Pt c 0, I 0] ((aa (tL c k0 k1 d e g k4 pb po n pc tx rx rm h a) (az h .i64 fm))) (Tt) := by
 refine en func143 r fun _ F=>aE r<|sb r<|lf 10 r r<|ea r<|lv (aN (v := .tuple #[I 3, Tt]) r r (some (I 3)) h0 r) r<|ed r<|an r<|sb r<|nk<|jr<|r1 r Ent.take
theorem HT (c d e g h : Nat) (k0 k1 k4 rx rm : Value) (tx : Nat) (n : Nat) (hn : n = 1 \/ n = 2 \/ n = 3) (kn a : Int) (fm : Int -> Option Value) (hk : kn <= a /\ 0 <= a /\ a <= 10000000) (h0 : fm 0 = some (I 3)) (m : ByteArray) (v : Int) (A0 A1 : ab) (pb po pc : Nat) (hS : Go.SLA.Sp prog 176 #[Pt tx 0, I a, I 10, .string m] (aa (A0) (cE n pb po pc)) (I v) (aa (A1) (cE n pb po pc))) : Kp prog 175 #[Pt c 0, .agg (yc m a).toArray, Tt] ((aa (tL c k0 k1 d e g k4 pb po n pc tx rx rm h a) (aa (cE n pb po pc) (az h .i64 fm)))) (I 0) := by
 refine en func175 r fun _ F=>sr<|bx r fun b1=>an r ?_
 refine gO (X := Nat) (fun x6 => [(0, Pt c 0), (1, .agg (yc m a).toArray), (2, Tt), (4, Pt b1 0), (6, I 0), (7, Pt x6 0), (8, Tt)]) (fun x6 => (aa (cE n pb po pc) (aa (tL c k0 k1 d e g k4 pb po n pc tx rx rm h a) (aa (am b1 (yc m a) 230) (aa (am x6 qq37 153) (aa (az h .i64 fm) (F))))))) (fun _ => True) ?_ (fun x6 _ => ?_)
 ·refine av ((aa (tL c k0 k1 d e g k4 pb po n pc tx rx rm h a) (am b1 (yc m a) 230))) (emp) [] ae<|pe 0 r r<|pe 1 r r<|pf 2 0 r r<|pf 4 0 r r<|pf 5 1 r r<|ps 3 r (ax r)<|pl 6 r r r ?_
  refine k8 [7, 11] (by kernel_rfl) rfl fun i hi => ?_
  simp only [List.mem_cons, List.not_mem_nil, or_false] at hi
  rcases hi with rfl | rfl
  ·refine bT r r (ai (mH n pb po pc hn (k0) (k1) (I 1000) (Sk d e 3 g) (k4)) r r r) fun _ _=>pe 8 r r<|pe 9 r r<|pe 10 r r<|pn 11 r (bq r) fun b4 _=>?_
   refine pn 12 r (aI r r r (List.all_eq_true.1 r)) fun _ _=>pe 13 r r<|dn<|kc b4 r Ent.take
  ·refine bT r r (bq r) fun b5 _=>pn 7 r (ai (mH n pb po pc hn (k0) (k1) (I 1000) (Sk d e 3 g) (k4)) r r r) fun _ _=>pe 8 r r<|pe 9 r r<|pe 10 r r ?_
   refine pn 12 r (aI r r r (List.all_eq_true.1 r)) fun _ _=>pe 13 r r<|dn<|kc b5 r Ent.take
 ·refine js<|jb<|js<|dM ae<|qb r<|qf 10 r<|ql r r<|qf 5 r<|ql r r<|qv (aN (v := I 3) r r (some (I 3)) h0 r) r<|qb r<|qn<|kt<|cf r<|sr<|ec r ?_
  refine go r<|fa 2 r<|go r<|ld r r<|go r<|fa 5 r<|go r<|ld r r<|go r<|ec r<|nf r<|sr<|lf 4 r r<|ea r<|lv (xg (r := false) r r r) r<|an r ?_
  refine cf r<|cY<|aE r<|jr<|r1 r Ent.take
theorem HS (c d e g h : Nat) (k0 k1 k4 rx rm : Value) (tx : Nat) (n : Nat) (hn : n = 1 \/ n = 2 \/ n = 3) (kn a : Int) (fm : Int -> Option Value) (hk : kn <= a /\ 0 <= a /\ a <= 10000000) (h0 : fm 0 = some (I 3)) (m : ByteArray) (v : Int) (A0 A1 : ab) (pb po pc : Nat) (hS : Go.SLA.Sp prog 176 #[Pt tx 0, I a, I 10, .string m] (aa (A0) (cE n pb po pc)) (I v) (aa (A1) (cE n pb po pc))) : Sp prog 64 #[Pt c 0, I a, I 0, .agg [I 1, I 10, .string m, I 0].toArray] ((aa (tL c k0 k1 d e g k4 pb po n pc tx rx rm h kn) (aa (sx d e g) (aa (az h .i64 fm) (aa (cE n pb po pc) (A0)))))) (.agg [I v, Z, Ff, I 0].toArray) ((aa (tL c k0 k1 d e g k4 pb po n pc tx rx rm h a) (aa (sx d e g) (aa (az h .i64 fm) (aa (cE n pb po pc) (A1)))))) := by
 refine en func64 r fun _ F=>sr<|bx r fun b1=>al r fun b2=>nj<|jb<|sa r<|ep false r<|an r<|cf r<|sa r<|cu (Fp k0 k1 k4 rx rm tx n hn kn a fm hk h0 m v A0 A1 pb po pc hS) r<|eb r<|go r<|fa 0 r<|go r ?_
 refine ld r r<|go r<|ec r<|go r<|fa 0 r<|go r<|ld r r<|go r<|ec r<|nf r<|cY<|js<|sb r<|aW func104 r ?_
 refine aE r<|js<|sr<|ec r<|lf 11 r r<|bJ r<|nf r<|sk<|sr<|ec r<|fa 11 r<|so r r<|nr<|an r<|jr ?_
 refine cX r<|an r<|sb r ?_
 refine nf r<|sk<|js<|sr<|ec r<|aW func105 r ?_
 refine aE r<|sb r<|aW func142 r ?_
 refine sr<|ec r<|nj<|sa r<|ep false r<|ea r<|go r<|ea r<|go r<|cu (Fp k0 k1 k4 rx rm tx n hn kn a fm hk h0 m v A0 A1 pb po pc hS) r<|go r<|bf r<|sk<|sr<|ec r ?_
 refine fa 0 r<|lf 2 r r<|lv (fu r r (by omega)) r<|an r<|js<|sb r<|fa 0 r<|lf 3 r r<|ll r<|an r<|jl<|ut r<|js<|jb<|sr<|ix e r r ?_
 refine lv (bP 0 r r) r<|al r fun b31=>so r r<|nr<|ea r<|lf 0 r r<|cu (Fo c d e g h k0 k1 k4 rx rm tx n hn kn a fm hk h0 m v A0 A1 pb po pc hS) r<|ea r<|go r<|ea r<|go r<|fa 1 r<|go r<|ld r r<|go r<|eR r ?_
 refine eb r<|go r<|ea r<|go r<|fa 1 r<|go r<|ld r r<|go r<|fa 2 r<|go r<|ld r r<|go r<|ib (I 1000) r<|go r<|eR r<|an r ?_
 refine ct r<|js<|dM ae<|qf 0 r<|ql r r<|qb r<|qv (bm r r (by omega)) r<|qf 1 r<|ql r r<|ww r<|qf 2 r<|ql r r<|ww r<|qb r<|qa r<|qn ?_
 refine kt<|jr<|kq<|kd<|kd<|kq<|kd ?_
 refine sT r (.tmp r (.tmp r (.tmp r (.nil)))) r<|ed r<|ec r<|nj<|jb<|sb r<|cu (Fo c d e g h k0 k1 k4 rx rm tx n hn kn a fm hk h0 m v A0 A1 pb po pc hS) r<|bf r<|sr<|ec r<|go r<|ea r<|go r ?_
 refine ea r<|go r<|ec r<|nf r<|sb r<|lf 10 r r<|ea r<|lv (aN (v := I 3) r r (some (I 3)) h0 r) r<|bf r<|cY<|aE r<|jr<|cX r<|an r<|sb r<|nf r<|sk<|js<|av (am b1 [I 1, I 10, .string m, I 0] 77) (emp) [] ae<|pf 1 0 r r<|pe 4 r r<|pe 6 r r<|pe 7 r r ?_
 refine pl 2 r r r<|ps 5 r (ax r)<|ps 8 r (af r)<|kS 0 r func106 r ?_
 refine sr<|al r fun b32=>nr<|lv (bQ (pl := [(0, 1), (1, 1), (2, 1), (3, 1), (4, 1), (5, 1)]) r r) r<|so r r<|nk<|jr ?_
 refine rp r (.agg r r (.nil)) r<|ps 3 r (fG r r r r)<|kS 9 r func144 r ?_
 refine sr<|bx r fun b33=>al r fun b34=>nj<|sa r<|ls r<|cu (HT c d e g h k0 k1 k4 rx rm tx n hn kn a fm hk h0 m v A0 A1 pb po pc hS) r<|an r<|sb r<|nf r<|sk<|js<|av ((aa (tL c k0 k1 d e g k4 pb po n pc tx rx rm h a) (am b33 (yc m a) 230))) (emp) [] ae<|pe 0 r r<|pe 1 r r ?_
 refine pf 2 7 r r<|pf 4 4 r r<|pf 6 0 r r<|pf 7 1 r r<|pf 9 0 r r<|pf 10 2 r r<|pl 3 r r r<|pl 5 r r r<|pl 8 r r r<|pl 11 r r r<|pn 12 r (ai (hS) r r r) fun _ _=>ps 13 r (af r) ?_
 refine pn 14 r (aI r r r (List.all_eq_true.1 r)) fun _ _=>dn<|kt<|jr ?_
 refine rp r (.agg r r (.nil)) r ?_
 refine pn 10 r (aI r r r (List.all_eq_true.1 r)) fun _ _=>dn<|kt<|jr ?_
 exact bM r (.agg r r (.nil)) () trivial r Ent.take
theorem Fm (k0 k1 k4 tx rx : Value) (rm : Nat) (n : Nat) (hn : n = 1 \/ n = 2 \/ n = 3) (kn a : Int) (fm : Int -> Option Value) (hk : kn <= a /\ 0 <= a /\ a <= 10000000) (h1 : fm 1 = some (I 3)) (h0 : fm 0 = none) (m : ByteArray) (v : Int) (A0 A1 : ab) (hN : Go.SLA.Sp prog 178 #[Pt rm 0, I 20] A0 (.tuple #[.string m, Ff, I v]) A1) : Kp prog 103 #[I a] (emp) (Tt) := by
 refine en func103 r fun _ F=>bG<|aE r<|sa r<|eR r<|ea r<|go r<|ea r<|go r<|eR r<|eb r<|nk<|jr<|r1 r Ent.take
theorem Fk (c d e g h j k l : Nat) (k0 k1 k4 tx rx : Value) (rm : Nat) (n : Nat) (hn : n = 1 \/ n = 2 \/ n = 3) (kn a : Int) (fm : Int -> Option Value) (hk : kn <= a /\ 0 <= a /\ a <= 10000000) (h1 : fm 1 = some (I 3)) (h0 : fm 0 = none) (m : ByteArray) (v : Int) (A0 A1 : ab) (hN : Go.SLA.Sp prog 178 #[Pt rm 0, I 20] A0 (.tuple #[.string m, Ff, I v]) A1) : Kp prog 143 #[Pt c 0, I 1] ((aa (tK c k0 k1 d e g k4 h j n k tx rx rm l a) (az l .i64 fm))) (Tt) := by
 refine en func143 r fun _ F=>aE r<|sb r<|lf 10 r r<|ea r<|lv (aN (v := .tuple #[I 3, Tt]) r r (some (I 3)) h1 r) r<|ed r<|an r<|sb r<|nk<|jr<|r1 r Ent.take
theorem HR (c d e g h j k l : Nat) (k0 k1 k4 tx rx : Value) (rm : Nat) (n : Nat) (hn : n = 1 \/ n = 2 \/ n = 3) (kn a : Int) (fm : Int -> Option Value) (hk : kn <= a /\ 0 <= a /\ a <= 10000000) (h1 : fm 1 = some (I 3)) (h0 : fm 0 = none) (m : ByteArray) (v : Int) (A0 A1 : ab) (hN : Go.SLA.Sp prog 178 #[Pt rm 0, I 20] A0 (.tuple #[.string m, Ff, I v]) A1) : Kp prog 175 #[Pt c 0, .agg [I 3, I 20, Z, I 0, I a, I 1].toArray, Ff] ((aa (tK c k0 k1 d e g k4 h j n k tx rx rm l a) (aa (cE n h j k) (az l .i64 fm)))) (I 0) := by
 refine en func175 r fun _ F=>sr<|bx r fun b1=>an r ?_
 refine gO (X := Nat) (fun x6 => [(0, Pt c 0), (1, .agg [I 3, I 20, Z, I 0, I a, I 1].toArray), (2, Ff), (4, Pt b1 0), (6, I 0), (7, Pt x6 0), (8, Tt)]) (fun x6 => (aa (cE n h j k) (aa (tK c k0 k1 d e g k4 h j n k tx rx rm l a) (aa (Df b1 a) (aa (am x6 qq64 153) (aa (az l .i64 fm) (F))))))) (fun _ => True) ?_ (fun x6 _ => ?_)
 ·refine av ((aa (tK c k0 k1 d e g k4 h j n k tx rx rm l a) (Df b1 a))) (emp) [] ae<|pe 0 r r<|pe 1 r r<|pf 2 0 r r<|pf 4 0 r r<|pf 5 1 r r<|ps 3 r (ax r)<|pl 6 r r r ?_
  refine k8 [7, 11] (by kernel_rfl) rfl fun i hi => ?_
  simp only [List.mem_cons, List.not_mem_nil, or_false] at hi
  rcases hi with rfl | rfl
  ·refine bT r r (ai (yx n h j k hn (k0) (k1) (I 1000) (Sk d e 3 g) (k4)) r r r) fun _ _=>pe 8 r r<|pe 9 r r<|pe 10 r r<|pn 11 r (bq r) fun b4 _=>?_
   refine pn 12 r (aI r r r (List.all_eq_true.1 r)) fun _ _=>pe 13 r r<|dn<|kc b4 r Ent.take
  ·refine bT r r (bq r) fun b5 _=>pn 7 r (ai (yx n h j k hn (k0) (k1) (I 1000) (Sk d e 3 g) (k4)) r r r) fun _ _=>pe 8 r r<|pe 9 r r<|pe 10 r r ?_
   refine pn 12 r (aI r r r (List.all_eq_true.1 r)) fun _ _=>pe 13 r r<|dn<|kc b5 r Ent.take
 ·refine js<|jb<|js<|dM ae<|qb r<|qf 10 r<|ql r r<|qf 5 r<|ql r r<|qv (aN (v := I 3) r r (some (I 3)) h1 r) r<|qb r<|qn<|kt<|cf r<|sr<|ec r ?_
  refine go r<|fa 2 r<|go r<|ld r r<|go r<|fa 5 r<|go r<|ld r r<|go r<|ec r<|nf r<|sr<|lf 4 r r<|ea r<|lv (xg (r := false) r r r) r<|an r ?_
  refine cf r<|cY<|aE r<|jr<|r1 r Ent.take
theorem Fl (c d e g h j k l : Nat) (k0 k1 k4 tx rx : Value) (rm : Nat) (n : Nat) (hn : n = 1 \/ n = 2 \/ n = 3) (kn a : Int) (fm : Int -> Option Value) (hk : kn <= a /\ 0 <= a /\ a <= 10000000) (h1 : fm 1 = some (I 3)) (h0 : fm 0 = none) (m : ByteArray) (v : Int) (A0 A1 : ab) (hN : Go.SLA.Sp prog 178 #[Pt rm 0, I 20] A0 (.tuple #[.string m, Ff, I v]) A1) : Sp prog 64 #[Pt c 0, I a, I 1, .agg [I 3, I 20, Z, I 0].toArray] ((aa (tK c k0 k1 d e g k4 h j n k tx rx rm l kn) (aa (sx d e g) (aa (az l .i64 fm) (aa (cE n h j k) (A0)))))) (.agg [I v, .string m, Ff, I 0].toArray) ((aa (tK c k0 k1 d e g k4 h j n k tx rx rm l a) (aa (sx d e g) (aa (az l .i64 fm) (aa (cE n h j k) (A1)))))) := by
 refine en func64 r fun _ F=>sr<|bx r fun b1=>al r fun b2=>nj<|jb<|sa r<|ep false r<|an r<|cf r<|sa r<|cu (Fm k0 k1 k4 tx rx rm n hn kn a fm hk h1 h0 m v A0 A1 hN) r<|eb r<|go r<|fa 0 r<|go r ?_
 refine ld r r<|go r<|ec r<|go r<|fa 0 r<|go r<|ld r r<|go r<|ec r<|nf r<|cY<|js<|sb r<|aW func104 r ?_
 refine aE r<|js<|sr<|ec r<|lf 11 r r<|bJ r<|nf r<|sk<|sr<|ec r<|fa 11 r<|so r r<|nr<|an r<|jr ?_
 refine cX r<|an r<|sb r ?_
 refine nf r<|sk<|js<|sr<|ec r<|aW func105 r ?_
 refine aE r<|sb r<|aW func142 r ?_
 refine sr<|ec r<|nj<|sa r<|ep false r<|ea r<|go r<|ea r<|go r<|cu (Fm k0 k1 k4 tx rx rm n hn kn a fm hk h1 h0 m v A0 A1 hN) r<|go r<|bf r<|sk<|sr<|ec r ?_
 refine fa 0 r<|lf 2 r r<|lv (fu r r (by omega)) r<|an r<|js<|sb r<|fa 0 r<|lf 3 r r<|ll r<|an r<|jl<|ut r<|js<|jb<|sr<|ix e r r ?_
 refine lv (bP 0 r r) r<|al r fun b35=>so r r<|nr<|ea r<|lf 0 r r<|aW func143 r ?_
 refine aE r<|sb r<|lf 10 r r<|ea r<|lv (aN (v := .tuple #[I 0, Ff]) r r none h0 r) r<|ed r<|an r<|sb r<|nk<|jr<|cX r<|ea r<|gs r<|gs r<|gs r<|gs r<|eb r<|gs r<|gs r<|gs r ?_
 refine gs r<|gs r<|gs r<|gs r<|an r<|cf r<|jk<|ni (I 1) r<|ut r<|js<|jb<|sr<|ix (e + 3) r r<|lv (bP 3 r r) r<|al r fun b36=>so r r<|nr ?_
 refine ea r<|lf 0 r r<|cu (Fk c d e g h j k l k0 k1 k4 tx rx rm n hn kn a fm hk h1 h0 m v A0 A1 hN) r<|ea r<|go r<|ea r<|go r<|fa 1 r<|go r<|ld r r<|go r<|eR r<|eb r<|go r<|ea r<|go r ?_
 refine fa 1 r<|go r<|ld r r<|go r<|fa 2 r<|go r<|ld r r<|go r<|ib (I 1000) r<|go r<|eR r<|an r<|ct r<|js<|dM ae<|qf 0 r ?_
 refine ql r r<|qb r<|qv (bm r r (by omega)) r<|qf 1 r<|ql r r<|ww r<|qf 2 r<|ql r r<|ww r<|qb r<|qa r<|qn<|kt<|jr<|kq<|kd ?_
 refine kd<|kq<|kd ?_
 refine sT r (.tmp r (.tmp r (.tmp r (.nil)))) r<|ed r<|ec r<|nj<|jb<|sb r<|cu (Fk c d e g h j k l k0 k1 k4 tx rx rm n hn kn a fm hk h1 h0 m v A0 A1 hN) r<|bf r<|sr<|ec r<|go r<|ea r<|go r ?_
 refine ea r<|go r<|ec r<|nf r<|sb r<|lf 10 r r<|ea r<|lv (aN (v := I 3) r r (some (I 3)) h1 r) r<|bf r<|cY<|aE r<|jr<|cX r<|an r<|sb r<|nf r<|sk<|js<|av (am b1 [I 3, I 20, Z, I 0] 77) (emp) [] ae<|pf 1 0 r r<|pe 4 r r<|pe 6 r r<|pe 7 r r ?_
 refine pl 2 r r r<|ps 5 r (ax r)<|ps 8 r (af r)<|kS 0 r func106 r ?_
 refine sr<|al r fun b37=>nr<|lv (bQ (pl := [(0, 1), (1, 1), (2, 1), (3, 1), (4, 1), (5, 1)]) r r) r<|so r r<|nk<|jr ?_
 refine rp r (.agg r r (.nil)) r<|ps 3 r (fG r r r r)<|kS 9 r func146 r ?_
 refine sr<|bx r fun b38=>al r fun b39=>nj<|sa r<|ls r<|cu (HR c d e g h j k l k0 k1 k4 tx rx rm n hn kn a fm hk h1 h0 m v A0 A1 hN) r<|an r<|sb r<|nf r<|sk<|js<|av ((aa (tK c k0 k1 d e g k4 h j n k tx rx rm l a) (Df b38 a))) (emp) [] ae<|pe 0 r r<|pe 1 r r ?_
 refine pf 2 9 r r<|pf 4 0 r r<|pf 5 1 r r<|pl 3 r r r<|pl 6 r r r<|pn 7 r (ai (hN) r r r) fun _ _=>pe 8 r r<|pe 9 r r<|pe 10 r r<|pe 11 r r<|pe 12 r r<|pe 13 r r<|pe 14 r r<|dn<|kt<|sr ?_
 refine ec r<|lv (af r) r<|so r r<|nk<|jr ?_
 refine rp r (.agg r r (.nil)) r ?_
 refine pn 10 r (aI r r r (List.all_eq_true.1 r)) fun _ _=>dn<|kt<|jr ?_
 exact bM r (.agg r r (.nil)) () trivial r Ent.take
end Sp
section
namespace Sp
open Mq
def JdP (p : Nat) (q : Int) : ab := ex fun z : Int × Int => am p [.bool (decide (0 < q)), I (if 0 < q then q - 1 else 0), I 0, Ff, I z.1, I z.2] 332
theorem D1 (p : Nat) (q : Int) (h : 0 <= q /\ q <= 100) : Go.SLA.Sp prog 239 #[Pt p 0, I q] (JdP p q) (I 0) (JdP p (q + 1)) := by
 refine FSpec.ex fun z => ?_
 have fin : Ent (am p [Tt, I q, I 0, Ff, I z.1, I z.2] 332) (JdP p (q + 1)) := by
  refine Ent.trans (Ent.of ?_) (bh (f := fun z : Int × Int => am p [.bool (decide (0 < q + 1)), I (if 0 < q + 1 then q + 1 - 1 else 0), I 0, Ff, I z.1, I z.2] 332) z)
  rw [decide_eq_true (show 0 < q + 1 by omega), if_pos (by omega), show q + 1 - 1 = q by omega]
 by_cases h0 : 0 < q
 ·rw [decide_eq_true h0, if_pos h0]
  exact (Ct p q z.1 z.2 ⟨h0, h.2⟩).conseq (ah _) fun _ _ => ⟨(), trivial, rfl, fin⟩
 ·rw [decide_eq_false h0, if_neg h0]
  obtain rfl : q = 0 := by omega
  exact (Cu p 0 z.1 z.2).conseq (ah _) fun _ _ => ⟨(), trivial, rfl, fin⟩
structure FilH (m q cur : Int) (fs : List Fr) (thr tw od : Int) : Prop where
 q0 : 0 <= q /\ q <= 100
 f : ∀ x, x ∈ fs -> (0 <= x.seq /\ x.seq < q) /\ 0 <= x.at_ /\ x.at_ <= cur
 n : (fs.length : Int) <= q
 c : 0 <= thr /\ thr <= m /\ 0 <= tw /\ tw <= q
def FilP (p : Nat) (q cur : Int) : ab := ex fun z : List Fr × Int × Int × Int => (aa (SLA.lift (FilH q q cur z.1 z.2.1 z.2.2.1 z.2.2.2)) (FilB p z.1 cur (I z.2.1) (I z.2.2.1) (I z.2.2.2)))
def mY (p : Nat) (q cur : Int) : ab := ex fun z : List Fr × Int × Int × Int => (aa (SLA.lift (FilH (q + 1) q cur z.1 z.2.1 z.2.2.1 z.2.2.2)) (FilB p (z.1 ++ [Fr.mk q cur 1]) cur (I z.2.1) (I z.2.2.1) (I z.2.2.2)))
theorem B4 (p : Nat) (q cur now : Int) (h : 0 <= now /\ now <= 1125899906842624 /\ cur <= now) (hq : q <= 90) : Go.SLA.Sp prog 240 #[Pt p 0, I now, I 0, I q] (FilP p q cur) (I 0) (mY p q now) := by
 refine FSpec.ex fun z => ?_
 obtain ⟨fs, thr, tw, od⟩ := z
 refine aO fun hh => ?_
 dsimp only at hh ⊢
 obtain ⟨h1, h2, h3, h4⟩ := hh
 have hl : fs.length <= 200 := by omega
 have fin : ∀ k : Nat, Ent (FilB p ((fs.drop k) ++ [Fr.mk q now 1]) now (I (thr + 1)) (I tw) (I od)) (mY p q now) := fun k => by
  refine Ent.trans (Ent.lift (p := FilH (q + 1) q now (fs.drop k) (thr + 1) tw od) ?_) (bh (f := fun z : List Fr × Int × Int × Int => (aa (SLA.lift (FilH (q + 1) q now z.1 z.2.1 z.2.2.1 z.2.2.2)) (FilB p (z.1 ++ [Fr.mk q now 1]) now (I z.2.1) (I z.2.2.1) (I z.2.2.2)))) (fs.drop k, thr + 1, tw, od))
  refine ⟨h1, fun x hx => ?_, by rw [List.length_drop]; omega, by omega⟩
  have := h2 x (List.mem_of_mem_drop hx)
  omega
 have hf : ∀ x, x ∈ fs -> 0 <= x.at_ /\ x.at_ <= now := fun x hx => by have := h2 x hx; omega
 have hthr : thr <= 1000000 := by omega
 by_cases h0 : 0 < q
 ·exact (A8 p fs cur now q thr tw od h hf hl ⟨h4.1, hthr, h4.2.2.1, by omega⟩ ⟨h0, by omega⟩ (fun x hx => (h2 x hx).1)).conseq (ah _) fun k _ => ⟨(), trivial, rfl, fin k⟩
 ·have hq0 : q = 0 := by omega
  have hfs : fs = [] := List.eq_nil_of_length_eq_zero (by omega)
  exact (A9 p fs cur now q thr tw od h hf hl ⟨h4.1, hthr, h4.2.2.1, by omega⟩ ⟨hq0, hfs⟩).conseq (ah _) fun k _ => ⟨(), trivial, rfl, fin k⟩
theorem Hc (p : Nat) (q now : Int) (h : 0 <= now /\ now <= 1125899906842624 /\ q <= 90) : Go.SLA.Sp prog 240 #[Pt p 0, I now, I 1, I q] (mY p q now) (I 21) (FilP p (q + 1) now) := by
 refine FSpec.ex fun z => ?_
 obtain ⟨fs, thr, tw, od⟩ := z
 refine aO fun hh => ?_
 dsimp only at hh ⊢
 obtain ⟨h1, h2, h3, h4⟩ := hh
 have hl : fs.length <= 200 := by omega
 have fin : ∀ k : Nat, Ent (FilB p ((fs.drop k) ++ [Fr.mk q now 3]) now (I thr) (I (tw + 1)) (I od)) (FilP p (q + 1) now) := fun k => by
  refine Ent.trans (Ent.lift (p := FilH (q + 1) (q + 1) now (fs.drop k ++ [Fr.mk q now 3]) thr (tw + 1) od) ?_) (bh (f := fun z : List Fr × Int × Int × Int => (aa (SLA.lift (FilH (q + 1) (q + 1) now z.1 z.2.1 z.2.2.1 z.2.2.2)) (FilB p z.1 now (I z.2.1) (I z.2.2.1) (I z.2.2.2)))) (fs.drop k ++ [Fr.mk q now 3], thr, tw + 1, od))
  refine ⟨by omega, fun x hx => ?_, by rw [List.length_append, List.length_drop, List.length_singleton]; omega, by omega⟩
  rcases List.mem_append.1 hx with hx | hx
  ·have := h2 x (List.mem_of_mem_drop hx)
   omega
  ·rw [List.mem_singleton.1 hx]; dsimp only; omega
 have hthr : thr <= 1000000 := by omega
 exact (Ba p fs now now q thr tw od ⟨h.1, h.2.1, Int.le_refl _⟩ (fun x hx => by have := h2 x hx; omega) hl ⟨h4.1, hthr, h4.2.2.1, by omega⟩ ⟨h1.1, by omega⟩ (fun x hx => by have := h2 x hx; omega) rfl).conseq (ah _) fun k _ => ⟨(), trivial, rfl, fin k⟩
abbrev _root_.Go.qq16 (a : ByteArray) : Value := .tuple #[.agg [U8 10, U8 0, U8 0, U8 0, U8 224, U8 224, U8 0, U8 10, I 5, I 5].toArray, .string a, I 0]
theorem GY (n a c k rb ro rc : Nat) (hn : n = 1 \/ n = 2 \/ n = 3) (c0 c1 c2 c3 c4 xl xt xn xc f0 f1 f2 f3 f4 l1 l2 l3 l4 l5 l6 l7 la lb lc g7 g8 p0 p1 p2 p3 p4 m0 m1 m2 : Value) (now : Int) (dat m : ByteArray) (hm : m.size <= 100) (hU : Go.SLA.Sp prog 16 #[.agg qq33.toArray, .agg qq27.toArray, .string dat] emp (qq16 m) emp) : Go.SLA.Sp prog 219 #[Pt a 0, Pt c 0]
  ((aa (am c [f0, f1, f2, f3, f4, Pt k 0, I now, g7, g8, p0, p1, p2, p3, p4, U8 10, U8 0, U8 0, U8 0, U8 224, U8 224, U8 0, U8 10, .string dat, Tt, m0, m1, m2] 373) (aa (am a [c0, c1, c2, c3, c4, Sk rb ro (bL n) rc, I 1, xl, xt, xn, xc] 277) (aa (cE n rb ro rc) (am k [I 10, l1, l2, l3, l4, l5, l6, l7, la, lb, lc] 283))))) (I 0) ((aa (am c [f0, f1, f2, f3, f4, Pt k 0, I now, g7, g8, p0, p1, p2, p3, p4, U8 10, U8 0, U8 0, U8 0, U8 224, U8 224, U8 0, U8 10, .string dat, Tt, I 20, I now, .string m] 373) (aa (am a [c0, c1, c2, c3, c4, Sk rb ro (bL n) rc, I 1, xl, xt, xn, xc] 277) (aa (cE n rb ro rc) (am k [I 10, l1, l2, l3, l4, l5, l6, l7, la, lb, lc] 283))))) := by
 rcases hn with rfl | rfl | rfl
 ·exact Fg a c k rb ro rc c0 c1 c2 c3 c4 xl xt xn xc f0 f1 f2 f3 f4 l1 l2 l3 l4 l5 l6 l7 la lb lc g7 g8 p0 p1 p2 p3 p4 m0 m1 m2 now dat m hm hU
 ·exact Fe a c k rb ro rc c0 c1 c2 c3 c4 xl xt xn xc f0 f1 f2 f3 f4 l1 l2 l3 l4 l5 l6 l7 la lb lc g7 g8 p0 p1 p2 p3 p4 m0 m1 m2 now dat m hm hU
 ·exact Fd a c k rb ro rc c0 c1 c2 c3 c4 xl xt xn xc f0 f1 f2 f3 f4 l1 l2 l3 l4 l5 l6 l7 la lb lc g7 g8 p0 p1 p2 p3 p4 m0 m1 m2 now dat m hm hU
theorem xX : Kp prog 241 #[.agg qq33.toArray] emp (.tuple #[I 0, I 0, I 0, I 0]) := vM 10 0 0 0 (by unfold Bys; decide)
theorem yS : Kp prog 6 #[I 10] emp (.tuple #[.agg qq27.toArray, I 0]) := mK 10
end Sp
end
namespace Sp
attribute [local irreducible] JU aL
abbrev vO (a : Int) (b : Bool) (c : Int) (d : ByteArray) : List Value := [I a, .bool b, I c, I 1, I 17, U8 10, U8 0, U8 0, U8 0, U8 224, U8 224, U8 0, U8 10, .string d]
abbrev m8 (a : Nat) (b c : Int) (d : Value) (e f g : Nat) : ab := am a [I 10, I 0, I b, I c, Ff, I 2, I 60000, d, Pt e 0, Pt f 0, Pt g 0] 283
abbrev oa (a : Nat) (b c d e f : Value) (g h j k l m : Nat) (n : Int) (o : Nat) : ab := am a [b, c, d, e, f, Sk g h (bL j) k, I 1, Mp l, Pt m 0, I n, Mp o] 277
abbrev sA (a : Nat) (b : TS) : ab := TabP a 64 1099511627776 b
abbrev tN (a : Nat) (b : Int) (c : ByteArray) (d : Nat) (e : Int) : ab := am a [I 10, I 0, I 0, I b, .string (c ++ fL (45 - c.size)), Pt d 0, I e, I 0, .string (aL 10 0 0 b c), I 0, Ff, I 0, I 0, I 0, U8 0, U8 0, U8 0, U8 0, U8 0, U8 0, U8 0, U8 0, Z, Ff, I 0, I 0, Z] 373
abbrev GB (a : Nat) (b : Int -> Int) : ab := mapc a .i64 (fun m' => if m' = 0 then IntKind.wrap .i64 ((b 0) + 1) else b m')
abbrev GA (a : Nat) (b : Int) (c : ByteArray) (d : Int) : ab := am a [I 10, I 0, I 0, I b, .string (c ++ fL (45 - c.size)), Np, I d, I 0, .string (aL 10 0 0 b c), I 0, Ff, I 0, I 0, I 0, U8 0, U8 0, U8 0, U8 0, U8 0, U8 0, U8 0, U8 0, Z, Ff, I 0, I 0, Z] 373
abbrev Gz (a : Nat) (b : Int) (c : ByteArray) (d : Nat) (e : Int) : ab := am a [I 10, I 0, I 1, I b, .string (c ++ fL (45 - c.size)), Pt d 0, I e, I 1, .string (aL 10 0 1 b c), I 0, Ff, I 0, I 0, I 0, U8 0, U8 0, U8 0, U8 0, U8 0, U8 0, U8 0, U8 0, Z, Ff, I 0, I 0, Z] 373
theorem EX (c e g j k l m o p : Nat) (c0 c1 c2 c3 c4 tos : Value) (n : Nat) (hn : n = 1 \/ n = 2 \/ n = 3) (bg sm now a i : Int) (d : ByteArray) (cF : Int -> Int) (fl : Int -> Option Value) (lb tp : Nat) (h10 : fl 10 = some (Pt lb 0)) (hz : ((aL 10 0 0 i d).size : Int) <= sm) (h : 0 <= now /\ now <= a /\ a <= 10000000 /\ 0 <= i /\ i <= 90 /\ d.size <= 1000) (pid po : Int) (pm : Bool) (pd : ByteArray) (T T' : TS) (hD : Go.SLA.Sp prog 14 #[.string (d ++ fL (45 - d.size))] emp (.tuple #[.agg (vO pid pm po pd).toArray, I 0]) emp) (hP : Go.SLA.Sp prog 15 #[Pt tp 0, I a, .agg (vO pid pm po pd).toArray] (sA tp T) (.tuple #[.agg [I 0, Ff, I 0, I 0, I 0, U8 0, U8 0, U8 0, U8 0, U8 0, U8 0, U8 0, U8 0, Z].toArray, Ff, I 0]) (sA tp T')) : Sp prog 167 #[Pt c 0, I a, I 0, .string (aL 10 0 0 i d)] ((aa (oa c c0 c1 c2 c3 c4 e g n j k tp now l) (aa (az k .i64 fl) (aa (m8 lb bg sm tos m o p) (aa (JdP m i) (aa (FilP p i now) (aa (sA tp T) (mapc l .i64 cF)))))))) (.tuple #[.agg [I 0, I 0, Z].toArray, Ff, I 0]) ((aa (oa c c0 c1 c2 c3 c4 e g n j k tp a l) (aa (az k .i64 fl) (aa (m8 lb bg sm tos m o p) (aa (JdP m (i + 1)) (aa (mY p i a) (aa (sA tp T') (GB l cF)))))))) := by
 refine en func167 r fun _ F=>sr<|al r fun b1=>eb r<|nj<|jb<|sa r<|ep false r<|an r<|cf r<|sa r<|bJ r<|ea r<|go r<|ea r<|go r<|bJ r<|eb r<|go r<|ea r<|go r<|ec r<|go r<|ea r<|go r<|ec r<|nf r<|sr<|ec r<|lf 9 r r<|bJ r<|an r<|cf r<|cY<|sr<|ec r<|fa 9 r<|so r r<|nr<|ec r<|lv (af r) r<|bx r fun b2=>an r<|sb r<|aW func191 r<|aE r<|js<|sa r<|lv (aB r r) r<|ea r<|lv (aB r r) r<|ea r<|lv (aB r r) r<|ea r<|lv (aB r r) r<|lx r (cL r r r (by decide) (by simp [Value.cells]) r) fun b24 _=>ll r<|an r<|jl<|ut r<|js<|jb<|sr<|ix 0 r r<|ld r r<|an r<|sb r<|gX func216 r ?_
 refine aE r<|aE r<|js<|sr<|ec r<|lf 8 r r<|cy (j5 10 0 0 i d (by decide) (by decide) (by omega) (by omega)) r fun _=>ed r<|fa 0 r<|so r r<|an r<|sb r<|nf r<|sk<|js<|av ((aa (oa c c0 c1 c2 c3 c4 e g n j k tp a l) (az k .i64 fl))) (GA b2 i d a) [13] ae<|pe 0 r r<|pe 1 r r<|pe 2 r r<|pf 3 7 r r<|pe 5 r r<|pe 6 r r<|pf 7 0 r r<|pf 8 0 r r<|pl 4 r r r<|dv 9 r (by kernel_rfl) (ar r (aC r)) r<|ps 10 r (aN (v := Pt lb 0) r r (some (Pt lb 0)) h10 r)<|pe 11 r r<|pf 12 5 r r<|jv 13 r r (by kernel_rfl) (aI r r r (List.all_eq_true.1 r)) fun _ _=>dn<|kt<|js<|jb<|sb r<|lf 5 r r<|ep false r<|an r<|cf r<|js<|dM ae<|qb r<|qf 0 r<|qf 1 r<|ql r r<|qb r<|qf 5 r<|ql r r<|qa r<|qf 0 r<|qf 1 r<|ql r r<|qb r<|qo r<|qa r<|qo r<|qa r<|qo r<|qf 0 r<|qo r<|qf 2 r ?_
 refine qo r<|ql r r<|qo r<|qa r<|qo r<|qa r<|qo r<|qf 7 r<|qo r<|ql r r<|qo r<|qb r<|qa r<|qn<|kt<|cf r<|js<|dM ae<|qb r<|qf 8 r<|ql r r<|qv (aX r) r<|qb r<|qf 5 r<|ql r r<|qa r<|qf 0 r<|qf 3 r<|ql r r<|s5 r<|qa r<|qn<|kt<|cf r<|cY<|aE r<|jr<|cX r<|an r<|sb r<|nf r<|jk<|ni (I 1) r<|ut r<|js<|jb<|sr<|ix 1 r r<|ld r r<|an r<|sb r<|gX func217 r ?_
 refine aE r<|js<|js<|av ((aa (tN b2 i d lb a) (m8 lb bg sm tos m o p))) (emp) [] ae<|pe 0 r r<|pe 1 r r<|pf 2 5 r r<|pe 4 r r<|pe 5 r r<|pf 6 7 r r<|pe 12 r r<|pe 13 r r<|pf 14 0 r r<|pf 15 3 r r<|pl 3 r r r<|pe 8 r r<|pf 9 8 r r<|pl 7 r r r<|ps 10 r (bZ 8 r r r r)<|pl 11 r r r<|pl 16 r r r<|pn 17 r (ai (D1 m i (by omega)) r r r) fun _ _=>pe 18 r r<|dn<|kt<|sb r<|nf r<|sk<|js<|av ((aa (tN b2 i d lb a) (m8 lb bg sm tos m o p))) (emp) [] ae<|pe 0 r r<|pe 1 r r<|pf 2 5 r r<|pe 7 r r<|pe 8 r r<|pf 9 6 r r<|pe 11 r r<|pe 12 r r<|pf 13 7 r r<|pe 15 r r<|pe 16 r r<|pf 17 0 r r<|pf 18 3 r r<|pl 3 r r r<|pe 4 r r<|pf 5 10 r r<|pl 6 r r r ?_
 refine pl 10 r r r<|pl 14 r r r<|pl 19 r r r<|pn 20 r (ai (B4 p i now a (by omega) (by omega)) r r r) fun _ _=>pe 21 r r<|dn<|kt<|jr<|cX r<|an r<|sb r<|nf r<|jk<|ni (I 2) r<|ut r<|js<|jb<|sr<|ix 2 r r<|ld r r<|an r<|sb r<|gX func218 r<|aE r<|sb r<|fa 0 r<|lf 4 r r<|cy hD r fun _=>ec r<|al r fun b21=>so r r<|an r<|js<|sb r<|nf r<|sk<|sr<|fa 5 r<|ls r<|cy xX r fun _=>ed r<|ed r<|an r<|sb r<|lf 5 r r<|ea r<|fa 0 r<|lf 0 r r<|cy yS r fun _=>ec r<|al r fun b25=>so r r<|an r<|js<|jb<|sr<|ec r<|go r<|ea r<|go r<|ec r<|go r<|ea r<|go r<|ea r<|go r<|ea r<|go r<|fa 5 r<|go r ?_
 refine ld r r<|go r<|ea r<|go r<|fa 0 r<|go r<|fa 1 r<|go r<|ld r r<|go r<|ec r<|go r<|fa 9 r<|go r<|ls r<|go r<|ls r<|go r<|lv ((hY r r (by simp [Shape, CK.sh]) (by simp [Shape, CK.sh])).as (v' := Ff) (congrArg Value.bool (by simp))) r<|bf r<|sr<|lf 4 r r<|bf r<|cY<|js<|av ((aa (oa c c0 c1 c2 c3 c4 e g n j k tp a l) (aa (tN b2 i d lb a) (am b21 (vO pid pm po pd) 39)))) (emp) [] ae<|pe 0 r r<|pe 1 r r<|pe 2 r r<|pe 3 r r<|pf 4 8 r r<|pe 6 r r<|pe 7 r r<|pf 8 6 r r<|pl 5 r r r<|pl 9 r r r<|ps 10 r (ax r)<|pn 11 r (ai (hP) r r r) fun _ _=>pe 12 r r<|pe 13 r r<|pe 14 r r<|pe 15 r r<|pe 16 r r<|pf 17 9 r r<|pn 18 r (aI r r r (List.all_eq_true.1 r)) fun _ _=>pe 19 r r<|pf 20 23 r r ?_
 refine pn 21 r (aI r r r (List.all_eq_true.1 r)) fun _ _=>pe 22 r r<|dn<|kt<|sb r<|nk<|jr<|cX r<|an r<|sb r<|nf r<|jk<|ni (I 3) r<|ut r<|js<|jb<|sr<|ix 3 r r<|ld r r<|an r<|sb r<|gX func219 r<|sr<|bx r fun b22=>bx r fun b23=>an r<|js<|sr<|ld r r<|ea r<|lf 23 r r<|an r<|ct r<|aE r<|jr<|kd<|cX r<|an r<|sb r<|nf r<|jk<|ni (I 4) r<|uf r<|kt<|aE r<|jr<|cX r<|an r<|sb r<|lf 10 r r<|ea r<|lv (eh r r (cF 0) r) r<|lv (fI r r) r<|lx r (ga r r r) fun _ _=>nj<|sb r<|nf r<|sk<|js<|av (tN b2 i d lb a) (emp) [] ae<|pe 0 r r<|pe 1 r r<|pf 2 24 r r<|pe 4 r r<|pe 5 r r<|pf 6 23 r r<|ps 3 r (ax r)<|pl 7 r r r ?_
 refine pn 8 r (aI r r r (List.all_eq_true.1 r)) fun _ _=>pe 9 r r<|pe 10 r r<|dn<|kt<|jr ?_
 exact bM r (.agg r r (.tmp r (.tmp r (.nil)))) () trivial r Ent.take
theorem EV (c e g j k l o p q : Nat) (c0 c1 c2 c3 c4 tos : Value) (n : Nat) (hn : n = 1 \/ n = 2 \/ n = 3) (bg sm now a i : Int) (d : ByteArray) (cF : Int -> Int) (fl : Int -> Option Value) (lb tp : Nat) (h10 : fl 10 = some (Pt lb 0)) (hz : ((aL 10 0 0 i d).size : Int) <= sm) (h : 0 <= now /\ now <= a /\ a <= 10000000 /\ 0 <= i /\ i <= 90 /\ d.size <= 1000) (pid po : Int) (pm : Bool) (pd dat m : ByteArray) (T T' : TS) (hD : Go.SLA.Sp prog 14 #[.string (d ++ fL (45 - d.size))] emp (.tuple #[.agg (vO pid pm po pd).toArray, I 0]) emp) (hP : Go.SLA.Sp prog 15 #[Pt tp 0, I a, .agg (vO pid pm po pd).toArray] (sA tp T) (.tuple #[.agg [I pid, Ff, I 0, I 1, I 17, U8 10, U8 0, U8 0, U8 0, U8 224, U8 224, U8 0, U8 10, .string dat].toArray, Tt, I 0]) (sA tp T')) (hm : m.size <= 100) (hU : Go.SLA.Sp prog 16 #[.agg [U8 10, U8 0, U8 0, U8 0].toArray, .agg [U8 224, U8 224, U8 0, U8 10].toArray, .string dat] emp (.tuple #[.agg [U8 10, U8 0, U8 0, U8 0, U8 224, U8 224, U8 0, U8 10, I 5, I 5].toArray, .string m, I 0]) emp) : Sp prog 167 #[Pt c 0, I a, I 0, .string (aL 10 0 0 i d)] ((aa (oa c c0 c1 c2 c3 c4 e g n j k tp now l) (aa (az k .i64 fl) (aa (m8 lb bg sm tos o p q) (aa (JdP o i) (aa (FilP q i now) (aa (sA tp T) (aa (cE n e g j) (mapc l .i64 cF))))))))) (.tuple #[.agg [I 20, I a, .string m].toArray, Tt, I 0]) ((aa (oa c c0 c1 c2 c3 c4 e g n j k tp a l) (aa (az k .i64 fl) (aa (m8 lb bg sm tos o p q) (aa (JdP o (i + 1)) (aa (mY q i a) (aa (sA tp T') (aa (cE n e g j) (GB l cF))))))))) := by
 refine en func167 r fun _ F=>sr<|al r fun b1=>eb r<|nj<|jb<|sa r<|ep false r<|an r<|cf r<|sa r<|bJ r<|ea r<|go r<|ea r<|go r ?_
 refine bJ r<|eb r<|go r<|ea r<|go r<|ec r<|go r<|ea r<|go r<|ec r<|nf r<|sr<|ec r<|lf 9 r r<|bJ r<|an r ?_
 refine cf r<|cY<|sr<|ec r<|fa 9 r<|so r r<|nr<|ec r<|lv (af r) r<|bx r fun b2=>an r<|sb r<|aW func191 r ?_
 refine aE r<|js<|sa r<|lv (aB r r) r<|ea r<|lv (aB r r) r<|ea r<|lv (aB r r) r<|ea r<|lv (aB r r) r<|lx r (cL r r r (by decide) (by simp [Value.cells]) r) fun b27 _=>ll r<|an r<|jl<|ut r ?_
 refine js<|jb<|sr<|ix 0 r r<|ld r r<|an r<|sb r<|gX func216 r ?_
 refine aE r<|aE r<|js<|sr<|ec r<|lf 8 r r<|cy (j5 10 0 0 i d (by decide) (by decide) (by omega) (by omega)) r fun _=>ed r<|fa 0 r<|so r r<|an r<|sb r<|nf r<|sk<|js ?_
 refine av ((aa (oa c c0 c1 c2 c3 c4 e g n j k tp a l) (az k .i64 fl))) (GA b2 i d a) [13] ae<|pe 0 r r<|pe 1 r r<|pe 2 r r<|pf 3 7 r r<|pe 5 r r<|pe 6 r r<|pf 7 0 r r<|pf 8 0 r r<|pl 4 r r r<|dv 9 r (by kernel_rfl) (ar r (aC r)) r<|ps 10 r (aN (v := Pt lb 0) r r (some (Pt lb 0)) h10 r)<|pe 11 r r<|pf 12 5 r r ?_
 refine jv 13 r r (by kernel_rfl) (aI r r r (List.all_eq_true.1 r)) fun _ _=>dn<|kt<|js<|jb<|sb r<|lf 5 r r<|ep false r<|an r<|cf r<|js<|dM ae<|qb r<|qf 0 r<|qf 1 r<|ql r r ?_
 refine qb r<|qf 5 r<|ql r r<|qa r<|qf 0 r<|qf 1 r<|ql r r<|qb r<|qo r<|qa r<|qo r<|qa r<|qo r<|qf 0 r<|qo r<|qf 2 r ?_
 refine qo r<|ql r r<|qo r<|qa r<|qo r<|qa r<|qo r<|qf 7 r<|qo r<|ql r r<|qo r<|qb r<|qa r<|qn<|kt<|cf r ?_
 refine js<|dM ae<|qb r<|qf 8 r<|ql r r<|qv (aX r) r<|qb r<|qf 5 r<|ql r r<|qa r<|qf 0 r<|qf 3 r<|ql r r<|s5 r<|qa r<|qn ?_
 refine kt<|cf r<|cY<|aE r<|jr<|cX r<|an r<|sb r<|nf r<|jk<|ni (I 1) r<|ut r<|js<|jb<|sr ?_
 refine ix 1 r r<|ld r r<|an r<|sb r<|gX func217 r ?_
 refine aE r<|js<|js<|av ((aa (tN b2 i d lb a) (m8 lb bg sm tos o p q))) (emp) [] ae<|pe 0 r r<|pe 1 r r<|pf 2 5 r r<|pe 4 r r<|pe 5 r r<|pf 6 7 r r<|pe 12 r r<|pe 13 r r<|pf 14 0 r r<|pf 15 3 r r<|pl 3 r r r ?_
 refine pe 8 r r<|pf 9 8 r r<|pl 7 r r r<|ps 10 r (bZ 8 r r r r)<|pl 11 r r r<|pl 16 r r r<|pn 17 r (ai (D1 o i (by omega)) r r r) fun _ _=>pe 18 r r<|dn<|kt<|sb r<|nf r<|sk<|js<|av ((aa (tN b2 i d lb a) (m8 lb bg sm tos o p q))) (emp) [] ae<|pe 0 r r ?_
 refine pe 1 r r<|pf 2 5 r r<|pe 7 r r<|pe 8 r r<|pf 9 6 r r<|pe 11 r r<|pe 12 r r<|pf 13 7 r r<|pe 15 r r<|pe 16 r r<|pf 17 0 r r<|pf 18 3 r r<|pl 3 r r r<|pe 4 r r<|pf 5 10 r r<|pl 6 r r r ?_
 refine pl 10 r r r<|pl 14 r r r<|pl 19 r r r<|pn 20 r (ai (B4 q i now a (by omega) (by omega)) r r r) fun _ _=>pe 21 r r<|dn<|kt<|jr<|cX r<|an r<|sb r<|nf r<|jk<|ni (I 2) r<|ut r<|js<|jb<|sr<|ix 2 r r<|ld r r<|an r ?_
 refine sb r<|gX func218 r ?_
 refine aE r<|sb r<|fa 0 r<|lf 4 r r<|cy hD r fun _=>ec r<|al r fun b26=>so r r<|an r<|js<|sb r<|nf r<|sk<|sr<|fa 5 r ?_
 refine ls r<|cy xX r fun _=>ed r<|ed r<|an r<|sb r<|lf 5 r r<|ea r<|fa 0 r<|lf 0 r r<|cy yS r fun _=>ec r<|al r fun b28=>so r r<|an r<|js ?_
 refine jb<|sr<|ec r<|go r<|ea r<|go r<|ec r<|go r<|ea r<|go r<|ea r<|go r<|ea r<|go r<|fa 5 r<|go r ?_
 refine ld r r<|go r<|ea r<|go r<|fa 0 r<|go r<|fa 1 r<|go r<|ld r r<|go r<|ec r<|go r<|fa 9 r<|go r<|ls r<|go r ?_
 refine ls r<|go r<|lv ((hY r r (by simp [Shape, CK.sh]) (by simp [Shape, CK.sh])).as (v' := Ff) (congrArg Value.bool (by simp))) r<|bf r<|sr<|lf 4 r r<|bf r<|cY<|js<|av ((aa (oa c c0 c1 c2 c3 c4 e g n j k tp a l) (am b26 (vO pid pm po pd) 39))) (tN b2 i d lb a) [18, 21] ae<|pe 0 r r<|pe 1 r r<|pe 2 r r<|pe 3 r r<|pf 4 8 r r<|pe 6 r r ?_
 refine pe 7 r r<|pf 8 6 r r<|pl 5 r r r<|ps 10 r (ax r)<|dv 9 r (by kernel_rfl) (ar r (aC r)) r<|pn 11 r (ai (hP) r r r) fun _ _=>pe 12 r r<|pe 13 r r<|pe 14 r r<|pe 15 r r<|pe 16 r r<|pf 17 9 r r ?_
 refine jv 18 r r (by kernel_rfl) (aI r r r (List.all_eq_true.1 r)) fun _ _=>qJ 19 r (by kernel_rfl) (eF r) r<|qJ 20 r (by kernel_rfl) (i9 23 r r) r ?_
 refine jv 21 r r (by kernel_rfl) (aI r r r (List.all_eq_true.1 r)) fun _ _=>qJ 22 r (by kernel_rfl) (aH r) r<|dn<|kt<|sb r<|nk<|jr<|cX r<|an r<|sb r<|nf r<|jk<|ni (I 3) r<|ut r<|js<|jb<|sr<|ix 3 r r<|ld r r<|an r<|sb r<|lx r (fq (first := [Pt c 0]) (captured := []) (GY n c b2 lb e g j hn (c0) (c1) (c2) (c3) (c4) (Mp k) (Pt tp 0) (I a) (Mp l) (I 10) (I 0) (I 0) (I i) (.string (d ++ fL (45 - d.size))) (I 0) (I bg) (I sm) (Ff) (I 2) (I 60000) (tos) (Pt o 0) (Pt p 0) (Pt q 0) (I 0) (.string (aL 10 0 0 i d)) (I pid) (Ff) (I 0) (I 1) (I 17) (I 0) (I 0) (Z) a dat m hm hU) r r r r) fun _ _=>an r ?_
 refine sb r<|nf r<|jk<|ni (I 4) r<|uf r<|kt<|aE r<|jr<|cX r<|an r<|sb r<|lf 10 r r ?_
 refine ea r<|lv (eh r r (cF 0) r) r<|lv (fI r r) r<|lx r (ga r r r) fun _ _=>nj<|sb r<|nf r<|sk<|js<|av (am b2 [I 10, I 0, I 0, I i, .string (d ++ fL (45 - d.size)), Pt lb 0, I a, I 0, .string (aL 10 0 0 i d), I pid, Ff, I 0, I 1, I 17, U8 10, U8 0, U8 0, U8 0, U8 224, U8 224, U8 0, U8 10, .string dat, Tt, I 20, I a, .string m] 373) (emp) [] ae<|pe 0 r r<|pe 1 r r<|pf 2 24 r r<|pe 4 r r<|pe 5 r r<|pf 6 23 r r ?_
 refine ps 3 r (ax r)<|pl 7 r r r ?_
 refine pn 8 r (aI r r r (List.all_eq_true.1 r)) fun _ _=>pe 9 r r<|pe 10 r r<|dn<|kt<|jr ?_
 exact bM r (.agg r r (.tmp r (.tmp r (.nil)))) () trivial r Ent.take
theorem EW (c e g j k l m o p : Nat) (c0 c1 c2 c3 c4 tos : Value) (n : Nat) (hn : n = 1 \/ n = 2 \/ n = 3) (bg sm now a i : Int) (d : ByteArray) (cF : Int -> Int) (fl : Int -> Option Value) (lb tp : Nat) (h10 : fl 10 = some (Pt lb 0)) (hz : ((aL 10 0 1 i d).size : Int) <= sm) (h : 0 <= now /\ now <= a /\ a <= 10000000 /\ 0 <= i /\ i <= 90 /\ d.size <= 1000) (T : TS) : Sp prog 167 #[Pt c 0, I a, I 1, .string (aL 10 0 1 i d)] ((aa (oa c c0 c1 c2 c3 c4 e g n j k tp a l) (aa (az k .i64 fl) (aa (m8 lb bg sm tos m o p) (aa (JdP o i) (aa (mY p i a) (mapc l .i64 cF))))))) (.tuple #[.agg [I 0, I 0, Z].toArray, Ff, I 21]) ((aa (oa c c0 c1 c2 c3 c4 e g n j k tp a l) (aa (az k .i64 fl) (aa (m8 lb bg sm tos m o p) (aa (JdP o (i + 1)) (aa (FilP p (i + 1) a) (mapc l .i64 (fun m' => if m' = 21 then IntKind.wrap .i64 ((cF 21) + 1) else cF m')))))))) := by
 refine en func167 r fun _ F=>sr<|al r fun b1=>eb r<|nj<|jb<|sa r<|ep false r<|an r<|cf r<|sa r<|bJ r<|ea r<|go r<|ea r<|go r<|bJ r<|eb r<|go r<|ea r<|go r<|ec r<|go r<|ea r<|go r<|ec r<|nf r<|sr<|ec r<|lf 9 r r<|bJ r<|an r<|cf r<|cY<|sr<|ec r<|fa 9 r<|so r r<|nr<|ec r<|lv (af r) r<|bx r fun b2=>an r<|sb r<|aW func191 r<|aE r<|js<|sa r<|lv (aB r r) r<|ea r<|lv (aB r r) r<|ea r<|lv (aB r r) r<|ea r<|lv (aB r r) r<|lx r (cL r r r (by decide) (by simp [Value.cells]) r) fun b29 _=>ll r<|an r<|jl<|ut r<|js<|jb<|sr<|ix 0 r r<|ld r r<|an r<|sb r<|gX func216 r ?_
 refine aE r<|aE r<|js<|sr<|ec r<|lf 8 r r<|cy (j5 10 0 1 i d (by decide) (by decide) (by omega) (by omega)) r fun _=>ed r<|fa 0 r<|so r r<|an r<|sb r<|nf r<|sk<|js<|av ((aa (oa c c0 c1 c2 c3 c4 e g n j k tp a l) (az k .i64 fl))) (am b2 [I 10, I 0, I 1, I i, .string (d ++ fL (45 - d.size)), Np, I a, I 1, .string (aL 10 0 1 i d), I 0, Ff, I 0, I 0, I 0, U8 0, U8 0, U8 0, U8 0, U8 0, U8 0, U8 0, U8 0, Z, Ff, I 0, I 0, Z] 373) [13] ae<|pe 0 r r<|pe 1 r r<|pe 2 r r<|pf 3 7 r r<|pe 5 r r<|pe 6 r r<|pf 7 0 r r<|pf 8 0 r r<|pl 4 r r r<|dv 9 r (by kernel_rfl) (ar r (aC r)) r<|ps 10 r (aN (v := Pt lb 0) r r (some (Pt lb 0)) h10 r)<|pe 11 r r<|pf 12 5 r r<|jv 13 r r (by kernel_rfl) (aI r r r (List.all_eq_true.1 r)) fun _ _=>dn<|kt<|js<|jb<|sb r<|lf 5 r r<|ep false r<|an r<|cf r<|js<|dM ae<|qb r<|qf 0 r<|qf 1 r<|ql r r<|qb r<|qf 5 r<|ql r r<|qa r<|qf 0 r<|qf 1 r<|ql r r<|qb r<|qo r<|qa r<|qo r<|qa r<|qo r<|qf 0 r<|qo r<|qf 2 r ?_
 refine qo r<|ql r r<|qo r<|qa r<|qo r<|qa r<|qo r<|qf 7 r<|qo r<|ql r r<|qo r<|qb r<|qa r<|qn<|kt<|cf r<|js<|dM ae<|qb r<|qf 8 r<|ql r r<|qv (aX r) r<|qb r<|qf 5 r<|ql r r<|qa r<|qf 0 r<|qf 3 r<|ql r r<|s5 r<|qa r<|qn<|kt<|cf r<|cY<|aE r<|jr<|cX r<|an r<|sb r<|nf r<|jk<|ni (I 1) r<|ut r<|js<|jb<|sr<|ix 1 r r<|ld r r<|an r<|sb r<|gX func217 r ?_
 refine aE r<|js<|js<|av ((aa (Gz b2 i d lb a) (m8 lb bg sm tos m o p))) (emp) [] ae<|pe 0 r r<|pe 1 r r<|pf 2 5 r r<|pe 4 r r<|pe 5 r r<|pf 6 7 r r<|pe 12 r r<|pe 13 r r<|pf 14 0 r r<|pf 15 3 r r<|pl 3 r r r<|pe 8 r r<|pf 9 8 r r<|pl 7 r r r<|ps 10 r (bZ 9 r r r r)<|pl 11 r r r<|pl 16 r r r<|pn 17 r (ai (D1 o i (by omega)) r r r) fun _ _=>pe 18 r r<|dn<|kt<|sb r<|nf r<|sk<|js<|av ((aa (Gz b2 i d lb a) (m8 lb bg sm tos m o p))) (emp) [] ae<|pe 0 r r<|pe 1 r r<|pf 2 5 r r<|pe 7 r r<|pe 8 r r<|pf 9 6 r r<|pe 11 r r<|pe 12 r r<|pf 13 7 r r<|pe 15 r r<|pe 16 r r<|pf 17 0 r r<|pf 18 3 r r<|pl 3 r r r<|pe 4 r r<|pf 5 10 r r<|pl 6 r r r ?_
 refine pl 10 r r r<|pl 14 r r r<|pl 19 r r r<|pn 20 r (ai (Hc p i a (by omega)) r r r) fun _ _=>pe 21 r r<|dn<|kt<|jr<|cX r<|an r<|sb r<|nt r<|sb r<|nk<|jr<|kq<|kd<|kd<|kq<|kd<|cX r<|an r<|sb r<|lf 10 r r<|ea r<|lv (eh r r (cF 21) r) r<|lv (fI r r) r<|lx r (ga r r r) fun _ _=>nj<|sb r<|nt r<|sr<|lv (af r) r<|ea r<|so r r<|eb r<|nk<|jr<|kd ?_
 exact bM r (.agg r r (.tmp r (.tmp r (.nil)))) () trivial r Ent.take
end Sp
section
variable {x n rb ro rc : Nat} {sm i now : Int} {T : TS} {F : ab}
theorem Sp.via {prog : Program} {f : FuncId} {args : Array Value} {P P' Q Q' R : ab} {v : Value} [h : SLA.Take P P' R] (k : Go.SLA.Sp prog f args P' v Q') (e : Ent (aa (Q') (R)) Q) : Go.SLA.Sp prog f args P v Q := by
 rw [h.eq]
 exact (k.frame R).conseq (ah _) fun _ _ => ⟨(), trivial, rfl, e⟩
namespace Sp
open Mq
structure RxV where
 c : Nat -> Value
 bg : Int
 tos : Value
 lr : Nat
 cr : Nat
 lb : Nat
 tp : Nat
 j0 : Nat
 j1 : Nat
 ft : Nat
 fl : Int -> Option Value
 cF : Int -> Int
def RxP (x n rb ro rc : Nat) (sm i now : Int) (T : TS) : ab := ex fun v : RxV => (aa (SLA.lift (v.fl 10 = some (Pt v.lb 0))) ((aa (am x [v.c 0, v.c 1, v.c 2, v.c 3, v.c 4, Sk rb ro (bL n) rc, I 1, Mp v.lr, Pt v.tp 0, I now, Mp v.cr] 277) (aa (az v.lr .i64 v.fl) (aa (am v.lb [I 10, I 0, I v.bg, I sm, Ff, I 2, I 60000, v.tos, Pt v.j0 0, Pt v.j1 0, Pt v.ft 0] 283) (aa (JdP v.j0 i) (aa (JdP v.j1 i) (aa (FilP v.ft i now) (aa (TabP v.tp 64 1099511627776 T) (mapc v.cr .i64 v.cF))))))))))
def RxP1 (x n rb ro rc : Nat) (sm i now : Int) (T : TS) : ab := ex fun v : RxV => (aa (SLA.lift (v.fl 10 = some (Pt v.lb 0))) ((aa (am x [v.c 0, v.c 1, v.c 2, v.c 3, v.c 4, Sk rb ro (bL n) rc, I 1, Mp v.lr, Pt v.tp 0, I now, Mp v.cr] 277) (aa (az v.lr .i64 v.fl) (aa (am v.lb [I 10, I 0, I v.bg, I sm, Ff, I 2, I 60000, v.tos, Pt v.j0 0, Pt v.j1 0, Pt v.ft 0] 283) (aa (JdP v.j0 (i + 1)) (aa (JdP v.j1 i) (aa (mY v.ft i now) (aa (TabP v.tp 64 1099511627776 T) (mapc v.cr .i64 v.cF))))))))))
theorem RxP.fold (v : RxV) (h : v.fl 10 = some (Pt v.lb 0)) : Ent (aa ((aa (am x [v.c 0, v.c 1, v.c 2, v.c 3, v.c 4, Sk rb ro (bL n) rc, I 1, Mp v.lr, Pt v.tp 0, I now, Mp v.cr] 277) (aa (az v.lr .i64 v.fl) (aa (am v.lb [I 10, I 0, I v.bg, I sm, Ff, I 2, I 60000, v.tos, Pt v.j0 0, Pt v.j1 0, Pt v.ft 0] 283) (aa (JdP v.j0 i) (aa (JdP v.j1 i) (aa (FilP v.ft i now) (aa (TabP v.tp 64 1099511627776 T) (mapc v.cr .i64 v.cF))))))))) (F)) (aa (RxP x n rb ro rc sm i now T) (F)) :=
 (Ent.trans (Ent.lift h) (bh (f := fun v : RxV => (aa (SLA.lift (v.fl 10 = some (Pt v.lb 0))) ((aa (am x [v.c 0, v.c 1, v.c 2, v.c 3, v.c 4, Sk rb ro (bL n) rc, I 1, Mp v.lr, Pt v.tp 0, I now, Mp v.cr] 277) (aa (az v.lr .i64 v.fl) (aa (am v.lb [I 10, I 0, I v.bg, I sm, Ff, I 2, I 60000, v.tos, Pt v.j0 0, Pt v.j1 0, Pt v.ft 0] 283) (aa (JdP v.j0 i) (aa (JdP v.j1 i) (aa (FilP v.ft i now) (aa (TabP v.tp 64 1099511627776 T) (mapc v.cr .i64 v.cF))))))))))) v)).frame F
theorem RxP1.fold (v : RxV) (h : v.fl 10 = some (Pt v.lb 0)) : Ent (aa ((aa (am x [v.c 0, v.c 1, v.c 2, v.c 3, v.c 4, Sk rb ro (bL n) rc, I 1, Mp v.lr, Pt v.tp 0, I now, Mp v.cr] 277) (aa (az v.lr .i64 v.fl) (aa (am v.lb [I 10, I 0, I v.bg, I sm, Ff, I 2, I 60000, v.tos, Pt v.j0 0, Pt v.j1 0, Pt v.ft 0] 283) (aa (JdP v.j0 (i + 1)) (aa (JdP v.j1 i) (aa (mY v.ft i now) (aa (TabP v.tp 64 1099511627776 T) (mapc v.cr .i64 v.cF))))))))) (F)) (aa (RxP1 x n rb ro rc sm i now T) (F)) :=
 (Ent.trans (Ent.lift h) (bh (f := fun v : RxV => (aa (SLA.lift (v.fl 10 = some (Pt v.lb 0))) ((aa (am x [v.c 0, v.c 1, v.c 2, v.c 3, v.c 4, Sk rb ro (bL n) rc, I 1, Mp v.lr, Pt v.tp 0, I now, Mp v.cr] 277) (aa (az v.lr .i64 v.fl) (aa (am v.lb [I 10, I 0, I v.bg, I sm, Ff, I 2, I 60000, v.tos, Pt v.j0 0, Pt v.j1 0, Pt v.ft 0] 283) (aa (JdP v.j0 (i + 1)) (aa (JdP v.j1 i) (aa (mY v.ft i now) (aa (TabP v.tp 64 1099511627776 T) (mapc v.cr .i64 v.cF))))))))))) v)).frame F
abbrev _root_.Go.qq6 (a : Int) (b : Bool) (c : Int) (d : ByteArray) : List Value := [I a, .bool b, I c, I 1, I 17, U8 10, U8 0, U8 0, U8 0, U8 224, U8 224, U8 0, U8 10, .string d]
abbrev _root_.Go.qq9 : Value := .tuple #[.agg [I 0, Ff, I 0, I 0, I 0, U8 0, U8 0, U8 0, U8 0, U8 0, U8 0, U8 0, U8 0, Z].toArray, Ff, I 0]
theorem IS (x n rb ro rc : Nat) (hn : n = 1 \/ n = 2 \/ n = 3) (sm now a i : Int) (d : ByteArray) (hz : ((aL 10 0 0 i d).size : Int) <= sm) (h : 0 <= now /\ now <= a /\ a <= 10000000 /\ 0 <= i /\ i <= 90 /\ d.size <= 1000) (pid po : Int) (pm : Bool) (pd : ByteArray) (T T' : TS) (hD : Go.SLA.Sp Tryz.prog 14 #[.string (d ++ fL (45 - d.size))] emp (.tuple #[.agg (qq6 pid pm po pd).toArray, I 0]) emp) (hP : ∀ tp : Nat, Go.SLA.Sp Tryz.prog 15 #[Pt tp 0, I a, .agg (qq6 pid pm po pd).toArray] (TabP tp 64 1099511627776 T) qq9 (TabP tp 64 1099511627776 T')) : Go.SLA.Sp Tryz.prog 167 #[Pt x 0, I a, I 0, .string (aL 10 0 0 i d)] (aa (RxP x n rb ro rc sm i now T) (cE n rb ro rc)) (.tuple #[.agg [I 0, I 0, Z].toArray, Ff, I 0]) (aa (RxP1 x n rb ro rc sm i a T') (cE n rb ro rc)) := by
 refine cC fun v =>FSpec.eq _ (ak _ _ _)<|aO fun h10 =>Sp.via (EX x rb ro rc v.lr v.cr v.j0 v.j1 v.ft (v.c 0) (v.c 1) (v.c 2) (v.c 3) (v.c 4) v.tos n hn v.bg sm now a i d v.cF v.fl v.lb v.tp h10 hz h pid po pm pd T T' hD (hP v.tp)) ?_
 exact Ent.trans Ent.take (RxP1.fold ({ v with cF := fun m' => if m' = 0 then IntKind.wrap .i64 (v.cF 0 + 1) else v.cF m' }) h10)
abbrev _root_.Go.qq49 (a : Int) (b : ByteArray) : Value := .tuple #[.agg [I a, Ff, I 0, I 1, I 17, U8 10, U8 0, U8 0, U8 0, U8 224, U8 224, U8 0, U8 10, .string b].toArray, Tt, I 0]
theorem IQ (x n rb ro rc : Nat) (hn : n = 1 \/ n = 2 \/ n = 3) (sm now a i : Int) (d : ByteArray) (hz : ((aL 10 0 0 i d).size : Int) <= sm) (h : 0 <= now /\ now <= a /\ a <= 10000000 /\ 0 <= i /\ i <= 90 /\ d.size <= 1000) (pid po : Int) (pm : Bool) (pd dat m : ByteArray) (T T' : TS) (hD : Go.SLA.Sp Tryz.prog 14 #[.string (d ++ fL (45 - d.size))] emp (.tuple #[.agg (qq6 pid pm po pd).toArray, I 0]) emp) (hP : ∀ tp : Nat, Go.SLA.Sp Tryz.prog 15 #[Pt tp 0, I a, .agg (qq6 pid pm po pd).toArray] (TabP tp 64 1099511627776 T) (qq49 pid dat) (TabP tp 64 1099511627776 T')) (hm : m.size <= 100) (hU : Go.SLA.Sp Tryz.prog 16 #[.agg qq33.toArray, .agg qq27.toArray, .string dat] emp (qq16 m) emp) : Go.SLA.Sp Tryz.prog 167 #[Pt x 0, I a, I 0, .string (aL 10 0 0 i d)] (aa (RxP x n rb ro rc sm i now T) (cE n rb ro rc)) (.tuple #[.agg [I 20, I a, .string m].toArray, Tt, I 0]) (aa (RxP1 x n rb ro rc sm i a T') (cE n rb ro rc)) := by
 refine cC fun v =>FSpec.eq _ (ak _ _ _)<|aO fun h10 =>Sp.via (EV x rb ro rc v.lr v.cr v.j0 v.j1 v.ft (v.c 0) (v.c 1) (v.c 2) (v.c 3) (v.c 4) v.tos n hn v.bg sm now a i d v.cF v.fl v.lb v.tp h10 hz h pid po pm pd dat m T T' hD (hP v.tp) hm hU) ?_
 exact Ent.trans Ent.take (RxP1.fold ({ v with cF := fun m' => if m' = 0 then IntKind.wrap .i64 (v.cF 0 + 1) else v.cF m' }) h10)
theorem IR (x n rb ro rc : Nat) (hn : n = 1 \/ n = 2 \/ n = 3) (sm now a i : Int) (d : ByteArray) (hz : ((aL 10 0 1 i d).size : Int) <= sm) (h : 0 <= now /\ now <= a /\ a <= 10000000 /\ 0 <= i /\ i <= 90 /\ d.size <= 1000) (T : TS) : Go.SLA.Sp Tryz.prog 167 #[Pt x 0, I a, I 1, .string (aL 10 0 1 i d)] (aa (RxP1 x n rb ro rc sm i a T) (cE n rb ro rc)) (.tuple #[.agg [I 0, I 0, Z].toArray, Ff, I 21]) (aa (RxP x n rb ro rc sm (i + 1) a T) (cE n rb ro rc)) := by
 refine cC fun v =>FSpec.eq _ (ak _ _ _)<|aO fun h10 =>Sp.via (EW x rb ro rc v.lr v.cr v.j0 v.j1 v.ft (v.c 0) (v.c 1) (v.c 2) (v.c 3) (v.c 4) v.tos n hn v.bg sm now a i d v.cF v.fl v.lb v.tp h10 hz h T) ?_
 exact Ent.trans Ent.take (RxP.fold ({ v with cF := fun m' => if m' = 21 then IntKind.wrap .i64 (v.cF 21 + 1) else v.cF m' }) h10)
end Sp
end
end Go.Proofs.YtpkcniedaabpoaaGreat
