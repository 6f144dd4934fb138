/- Rules of a separation logic over the model, and what functions of the translation do; used by the texts that import this one. -/
import Derived.Test.YtpkcniedaabpoaaGreatM8
set_option linter.unusedVariables false
set_option linter.unusedSimpArgs false
namespace Go.Proofs.YtpkcniedaabpoaaGreat
open Go.SLA Go.Proofs.Tryz
set_option maxRecDepth 100000
set_option synthInstance.maxSize 200000
set_option synthInstance.maxHeartbeats 4000000
set_option maxHeartbeats 8000000
attribute [local irreducible] FSpec J K L OpV OpX QL Rd Rg bd
namespace Sp
attribute [local irreducible] JU aL
abbrev AA (a : Int) (b : Bool) (c : Int) (d : ByteArray) : List Value := [I a, .bool b, I c, I 1, I 17, U8 10, U8 0, U8 0, U8 0, U8 224, U8 224, U8 0, U8 10, .string d]
abbrev Dh (a : Nat) : List Value := [I 20, I 1, I 1, I 2, Ff, I 10, I 0, I 5, I 100, I 64, I 0, .iface 339 (Pt a 0)]
abbrev tM (a : Nat) (b c d e f g : Value) (h j k l : Nat) (m : Int) : ab := am a [b, c, d, e, f, g, I 1, Pt h 0, Pt j 0, Pt k 0, Mp l, I m] 218
theorem FA (c e g j k l m o : Nat) (k0 k1 k2 k3 k4 k5 : Value) (n : Nat) (hn : n = 1 \/ n = 2 \/ n = 3) (sm kn now a i : Int) (d : ByteArray) (hz : ((aL 10 0 0 i d).size : Int) <= sm) (h : 0 <= now /\ now <= a /\ a <= 10000000 /\ 0 <= i /\ i <= 90 /\ d.size <= 1000) (hk : kn <= a) (pid po : Int) (pm : Bool) (pd : ByteArray) (T T' : TS) (hD : Go.SLA.Sp prog 14 #[.string (d ++ fL (45 - d.size))] emp (.tuple #[.agg (AA pid pm po pd).toArray, I 0]) emp) (hP : ∀ tp : Nat, Go.SLA.Sp prog 15 #[Pt tp 0, I a, .agg (AA pid pm po pd).toArray] (TabP tp 64 1099511627776 T) qq9 (TabP tp 64 1099511627776 T')) : Sp prog 138 #[Pt c 0, I a, I 0, .string (aL 10 0 0 i d)] ((aa (tM c k0 k1 k2 k3 k4 k5 e g j k kn) (aa (RxP g n l m o sm i now T) (cE n l m o)))) (I 0) ((aa (tM c k0 k1 k2 k3 k4 k5 e g j k a) (aa (RxP1 g n l m o sm i a T') (cE n l m o)))) := by
 refine en func138 r fun _ F=>aE r<|js<|jb<|sa r<|ep false r<|an r<|cf r<|sa r<|aW func103 r<|aE r<|sa r<|eR r<|ea r<|go r<|ea r<|go r<|eR r<|eb r<|nk<|jr<|cX r<|eb r<|go r<|ea r<|go r<|ec r<|go r<|ea r<|go r<|ec r<|nf r<|cY<|js<|sb r<|aW func104 r<|aE r<|js<|sr<|ec r<|lf 11 r r<|bJ r<|nf r<|sk<|sr<|ec r<|fa 11 r<|so r r<|nr<|an r<|jr<|cX r<|an r<|sb r<|nf r<|sk<|sb r<|lf 8 r r<|ec r<|cy (IS g n l m o hn sm now a i d hz h pid po pm pd T T' hD hP) r fun _=>?_
 exact ed r<|al r fun b1=>so r r<|eb r<|nj<|sr<|ec r<|go r<|ea r<|go r<|eb r<|nt r<|sb r<|nk<|jr<|kd<|r1 r Ent.take
theorem Fy (c e g j k l o p q : Nat) (k0 k1 k2 k3 k4 k5 : Value) (n : Nat) (hn : n = 1 \/ n = 2 \/ n = 3) (sm kn now a i : Int) (d : ByteArray) (hz : ((aL 10 0 0 i d).size : Int) <= sm) (h : 0 <= now /\ now <= a /\ a <= 10000000 /\ 0 <= i /\ i <= 90 /\ d.size <= 1000) (hk : kn <= a) (pid po : Int) (pm : Bool) (pd dat m : ByteArray) (T T' : TS) (hD : Go.SLA.Sp prog 14 #[.string (d ++ fL (45 - d.size))] emp (.tuple #[.agg (AA pid pm po pd).toArray, I 0]) emp) (hP : ∀ tp : Nat, Go.SLA.Sp prog 15 #[Pt tp 0, I a, .agg (AA pid pm po pd).toArray] (TabP tp 64 1099511627776 T) (.tuple #[.agg [I pid, Ff, I 0, I 1, I 17, U8 10, U8 0, U8 0, U8 0, U8 224, U8 224, U8 0, U8 10, .string dat].toArray, Tt, I 0]) (TabP tp 64 1099511627776 T')) (hm : m.size <= 100) (hU : Go.SLA.Sp prog 16 #[.agg qq33.toArray, .agg qq27.toArray, .string dat] emp (.tuple #[.agg [U8 10, U8 0, U8 0, U8 0, U8 224, U8 224, U8 0, U8 10, I 5, I 5].toArray, .string m, I 0]) emp) (ms : List ByteArray) (hms : ms.length < 64) (rb : Nat) (fm : Int -> Option Value) (io : fm 20 = some (.agg (Dh rb).toArray)) : Sp prog 138 #[Pt c 0, I a, I 0, .string (aL 10 0 0 i d)] ((aa (tM c k0 k1 k2 k3 k4 k5 e g j k kn) (aa (RxP g n l o p sm i now T) (aa (cE n l o p) (aa (am j [Mp q] 289) (aa (az q .i64 fm) (jW rb ms))))))) (I 0) ((aa (tM c k0 k1 k2 k3 k4 k5 e g j k a) (aa (RxP1 g n l o p sm i a T') (aa (cE n l o p) (aa (am j [Mp q] 289) (aa (az q .i64 fm) (jW rb (ms ++ [m])))))))) := by
 refine en func138 r fun _ F=>aE r<|js<|jb<|sa r<|ep false r<|an r<|cf r<|sa r<|aW func103 r ?_
 refine aE r<|sa r<|eR r<|ea r<|go r<|ea r<|go r<|eR r<|eb r<|nk<|jr<|cX r<|eb r<|go r<|ea r<|go r<|ec r<|go r ?_
 refine ea r<|go r<|ec r<|nf r<|cY<|js<|sb r<|aW func104 r ?_
 refine aE r<|js<|sr<|ec r<|lf 11 r r<|bJ r<|nf r<|sk<|sr<|ec r<|fa 11 r<|so r r<|nr<|an r<|jr ?_
 refine cX r<|an r<|sb r<|nf r<|sk<|sb r<|lf 8 r r<|ec r<|cy (IQ g n l o p hn sm now a i d hz h pid po pm pd dat m T T' hD hP hm hU) r fun _=>?_
 refine ed r<|al r fun b1=>so r r<|eb r<|nj<|sr<|ec r<|go r<|ea r<|go r<|bf r<|sk<|js<|av ((aa (tM c k0 k1 k2 k3 k4 k5 e g j k a) (am b1 [I 20, I a, .string m] 355))) (emp) [] ae<|pe 0 r r<|pe 1 r r ?_
 refine pf 2 9 r r<|pe 4 r r<|pf 5 0 r r<|pf 7 2 r r<|pl 3 r r r<|pl 6 r r r<|pl 8 r r r<|kS 9 r func168 r ?_
 refine aE r<|js<|sa r<|ep false r<|nf r<|sk<|js<|sa r<|aW func192 r ?_
 refine aE r<|js<|sa r<|bJ r<|ea r<|go r<|ea r<|go r<|bJ r<|an r<|cf r<|sk<|aE r<|jr ?_
 refine cX r<|an r<|sb r<|nf r<|sk<|sb r<|aW func193 r ?_
 refine sr<|al r fun b21=>an r<|js<|sa r<|ep false r<|nf r<|sk<|sb r<|lf 0 r r<|ea r<|lv (aN (v := .tuple #[.agg (Dh rb).toArray, Tt]) r r (some (.agg (Dh rb).toArray)) io r) r<|ec r<|al r fun b2=>so r r ?_
 refine an r<|js<|sb r<|nf r<|sk<|sr<|ls r<|so r r<|an r<|jr ?_
 refine sT r (.agg r r (.tmp r (.nil))) r ?_
 refine ec r<|al r fun b22=>so r r<|an r<|js<|jb<|sr<|ec r<|nf r<|sa r<|lv (aX r) r<|fa 0 r<|lf 8 r r<|bJ r<|an r<|cf r ?_
 refine cY<|sr<|lf 11 r r<|eb r<|lx rfl (zI (DC rb ms m a hms) rfl rfl (fun w => by kernel_rfl) rfl) fun _ _=>an r<|jr<|HC r<|pe 10 r r<|dn<|kt<|jr<|r1 r Ent.take
theorem Fz (c e g j k l m o : Nat) (k0 k1 k2 k3 k4 k5 : Value) (n : Nat) (hn : n = 1 \/ n = 2 \/ n = 3) (sm kn now a i : Int) (d : ByteArray) (hz : ((aL 10 0 1 i d).size : Int) <= sm) (h : 0 <= now /\ now <= a /\ a <= 10000000 /\ 0 <= i /\ i <= 90 /\ d.size <= 1000) (hk : kn <= a) (T : TS) : Sp prog 138 #[Pt c 0, I a, I 1, .string (aL 10 0 1 i d)] ((aa (tM c k0 k1 k2 k3 k4 k5 e g j k kn) (aa (RxP1 g n l m o sm i a T) (cE n l m o)))) (I 21) ((aa (tM c k0 k1 k2 k3 k4 k5 e g j k a) (aa (RxP g n l m o sm (i + 1) a T) (cE n l m o)))) := by
 refine en func138 r fun _ F=>aE r<|js<|jb<|sa r<|ep false r<|an r<|cf r<|sa r<|aW func103 r<|aE r<|sa r<|eR r<|ea r<|go r<|ea r<|go r<|eR r<|eb r<|nk<|jr<|cX r<|eb r<|go r<|ea r<|go r<|ec r<|go r<|ea r<|go r<|ec r<|nf r<|cY<|js<|sb r<|aW func104 r<|aE r<|js<|sr<|ec r<|lf 11 r r<|bJ r<|nf r<|sk<|sr<|ec r<|fa 11 r<|so r r<|nr<|an r<|jr<|cX r<|an r<|sb r<|nf r<|sk<|sb r<|lf 8 r r<|ec r<|cy (IR g n l m o hn sm now a i d hz h T) r fun _=>?_
 refine ed r<|al r fun b1=>so r r<|eb r<|nj<|sr<|ec r<|gs r<|gs r<|an r<|ct r<|sb r<|nk<|jr<|kd<|r1 r Ent.take
end Sp
namespace Sp
attribute [local irreducible] JU aL dq
abbrev yf (a : Int) (b : ByteArray) : List Value := [I 10, I 0, I 0, .string (aL 10 0 0 a b), .string (aL 10 0 1 a b)]
abbrev ip (a : Nat) (b c : Int) (d : Value) (e f : Nat) (g h : Int) : ab := am a [I 10, I 0, I b, I c, Ff, I 2, I 60000, d, Pt e 0, Pt f 0, I g, I h] 269
abbrev jH (a : Nat) (b c d e f : Value) (g h j k l m n o p : Nat) (q r : Int) (s : Nat) (t : Int) : ab := am a [b, c, d, e, f, Sk g h (bL j) k, I 0, Mp l, Sk m n j o, Pt p 0, I q, I r, Mp s, I t, Ns] 263
abbrev sE (a : Nat) (b : Int) (c : Bool) (d e f : Int) : ab := am a [.int .u64 b, .bool c, I d, I e, I f] 330
abbrev sD (a : Nat) : ab := am a [I 10, I 0, I 0, I 2, Tt, I 10, I 0, I 5, I 100, I 1, I 0] 153
abbrev sC (a : Nat) (b c : Int) (d : Value) (e f : Nat) (g h : Int) : ab := am a [I 10, I 0, I b, I c, Ff, I 2, I 60000, d, Pt e 0, Pt f 0, I (g + 1), I h] 269
abbrev vQ (a : Nat) (b c d : Int) : ab := am a [.int .u64 b, Tt, I c, I c, I (d + 1)] 330
abbrev vP (a : Nat) (b : Int) (c : ByteArray) : ab := am a (yf b c) 299
abbrev AG (a b c d : Nat) : ab := Ow 3 1 (Sk a b c d) c (Cw c)
abbrev AF (a : Nat) (b : Int) (c : ByteArray) (d e : Int) : ab := Mq.LineP a [⟨b, aL 10 0 0 b c, d, d + (((aL 10 0 0 b c).size : Int) + 20)⟩] e (d + (((aL 10 0 0 b c).size : Int) + 20))
theorem Hy (c d g j k l o p q u B C D : Nat) (c0 c1 c2 c3 c4 tos : Value) (n : Nat) (hn : n = 1 \/ n = 2 \/ n = 3) (bg P sm t id i since lat seen cnt cur free now a T : Int) (w : Bool) (hb : (bg = 0 /\ P = 12500) \/ (bg = 1 /\ P = 25000)) (hd : k7 P w lat since T) (m : ByteArray) (hm : bY id sm m) (gf : Int -> Option Value) (qZ : List Mq.Sn) (h : 0 <= a /\ a <= 10000000 /\ 0 <= now /\ now <= a /\ cur <= a) (hl : qZ.length <= 1000) (hq : ∀ s, s ∈ qZ -> a < s.e) : Sp prog 176 #[Pt c 0, I a, I 10, .string m] ((aa (jH c c0 c1 c2 c3 c4 d g n j k l o p q now id u i) (aa (cE n d g j) (aa (LkP n k l o p B) (aa (ip B bg sm tos C D i since) (aa (SubP C ([]) t) (aa (sE D bg w lat seen cnt) (Mq.LineP q qZ cur free)))))))) (I 0) ((aa (am c [c0, c1, c2, c3, c4, Sk d g (bL n) j, I 0, Mp k, Sk l o n p, Pt q 0, I a, I (id + 1), Mp u, I i, Ns] 263) (aa (cE n d g j) (aa (LkP n k l o p B) (aa (ip B bg sm tos C D i a) (aa (SubP C (([]) ++ dq id sm m) t) (aa (sE D bg w lat seen cnt) (Mq.LineP q qZ a free)))))))) := by
 refine en func176 r fun _ F=>aE r<|js<|sb r<|aW func185 r<|aE r<|js<|jb<|sa r<|ep false r<|an r<|cf r<|sa r<|lv ((aM r r).bool_f (by unfold bY at hm; omega)) r<|ea r<|go r<|ea r<|go r<|lv ((bt r r).bool_f (by unfold bY at hm; omega)) r<|bf r<|sr<|ec r<|lf 10 r r<|lv ((aM r r).bool_f (by unfold bY at hm; omega)) r<|an r<|cf r<|cY<|aE r<|jr<|cX r<|an r<|sb r<|nf r<|sk<|sb r<|fa 0 r<|ls r<|ea r<|cy (mH n d g j hn (c0) (c1) (c2) (c3) (c4)) r fun _=>ec r<|al r fun b1=>so r r<|an r<|js<|jb<|js<|dM ae<|qb r<|qa r<|qo r<|qf 4 r<|qo r<|ql r r<|qo r<|qb r<|qa r<|qo r ?_
 refine qf 1 r<|qo r<|ql r r<|qo r<|qa r<|qo r<|qa r<|qo r<|qf 6 r<|qo r<|ql r r<|qo r<|qb r<|qa r<|qn<|kt<|cf r<|sa r<|lv (aX r) r<|lf 8 r r<|lv ((bt r r).bool_f (by unfold bY at hm; omega)) r<|an r<|cf r<|cY<|sb r<|aW func186 r<|sr<|ec r<|fa 10 r<|so r r<|nj<|sb r<|cy (jh n c k l o p B C D hn (c0) (c1) (c2) (c3) (c4) (Sk d g (bL n) j) (I 0) (Pt q 0) (I a) (I id) (Mp u) (I i) (Ns) (I 10) (I 0) (I bg) (I sm) (Ff) (I 2) (I 60000) (tos) (I i) ([]) t bg P since lat seen cnt T a w hb hd (.inl r)) r fun _=>an r<|jl<|ju<|js<|sa r<|np false r<|nf r<|jx<|ke<|ke<|kh<|kt<|jg<|eb r<|cy (lT c q (c0) (c1) (c2) (c3) (c4) (Sk d g (bL n) j) (I 0) (Mp k) (Sk l o n p) (I a) (I id) (Mp u) (I i) (Ns) qZ cur free a (by unfold bY at hm; omega) hl hq) r fun _=>ln<|jA r<|nj<|fC _ (dH (Q := LkP n k l o p B))<|gh fun fl=>dY _ (ak _ _ _)<|qW fun h10=>dM ae ?_
 refine qb r<|qf 7 r<|ql r r<|qf 5 r<|ql r r<|qv (aN (v := Pt B 0) r r (some (Pt B 0)) h10 r) r<|qa r<|qn<|kt<|js<|fC _ (dz (A := (aa (AG l o n p) (aa (az k .i64 fl) (LX n fl)))) (LkP.of h10))<|av ((aa (sD b1) (ip B bg sm tos C D i since))) (emp) [] ae<|pe 0 r r<|pe 2 r r<|pe 3 r r<|pe 4 r r<|pf 5 0 r r<|pf 6 3 r r<|ps 1 r (ax r)<|pl 7 r r r<|pn 8 r (ai (zB c (c0) (c1) (c2) (c3) (c4) (Sk d g (bL n) j) (Mp k) (Sk l o n p) (Pt q 0) (I a) (Mp u) (I i) (Ns) id sm m hm) r r r) fun y3 _=>pe 9 r r<|pe 10 r r<|pe 11 r r<|pe 12 r r<|pe 13 r r<|dn<|kt<|js<|sb r<|nf r<|sk<|sb r<|lf 8 r r<|cy (B5 C t) r fun _=>an r<|js<|js<|av ((aa (ip B bg sm tos C D i since) (sD b1))) (emp) [] ae<|pe 0 r r<|pe 1 r r<|pf 2 8 r r<|pf 4 6 r r<|pe 6 r r<|pl 3 r r r<|pl 5 r r r<|pn 7 r (ai (qN C y3.1 y3.2.1 y3.2.2 ([]) (dq id sm m) t (by have := eT hm; simp; try omega)) r r r) fun _ _=>pe 8 r r<|dn<|kt<|sb r<|nf r<|sk<|js<|sb r<|nt r<|jg<|ec r<|fa 11 r<|so r r<|nr<|ec r<|lf 11 r r<|lv (aQ r r (by unfold bY at hm; omega)) r ?_
 refine lv ((fH r r).as (v' := I (id + 1)) (congrArg (Value.int .i64) (nu id (by unfold bY at hm; omega)))) r<|ea r<|fa 11 r<|so r r<|nr<|an r<|jr<|r1 r Ent.take
theorem Hx (c d g j k l o p q u B C D : Nat) (c0 c1 c2 c3 c4 tos : Value) (n : Nat) (hn : n = 1 \/ n = 2 \/ n = 3) (bg P sm t id i since lat seen cnt cur free now a T : Int) (w : Bool) (hb : (bg = 0 /\ P = 12500) \/ (bg = 1 /\ P = 25000)) (hd : k7 P w lat since T) (m : ByteArray) (hm : bY id sm m) (R : List ByteArray) (gf : Int -> Option Value) (qZ : List Mq.Sn) (h : 0 <= a /\ a <= 10000000 /\ 0 <= now /\ now <= a /\ cur <= a /\ a < T /\ 0 < R.length /\ R.length <= 900) (hl : qZ.length <= 1000) (hq : ∀ s, s ∈ qZ -> a < s.e) : Sp prog 176 #[Pt c 0, I a, I 10, .string m] ((aa (jH c c0 c1 c2 c3 c4 d g n j k l o p q now id u i) (aa (cE n d g j) (aa (LkP n k l o p B) (aa (ip B bg sm tos C D i since) (aa (SubP C R t) (aa (sE D bg w lat seen cnt) (Mq.LineP q qZ cur free)))))))) (I 0) ((aa (am c [c0, c1, c2, c3, c4, Sk d g (bL n) j, I 0, Mp k, Sk l o n p, Pt q 0, I a, I (id + 1), Mp u, I i, Ns] 263) (aa (cE n d g j) (aa (LkP n k l o p B) (aa (ip B bg sm tos C D i since) (aa (SubP C (R ++ dq id sm m) t) (aa (sE D bg w lat seen cnt) (Mq.LineP q qZ a free)))))))) := by
 refine en func176 r fun _ F=>aE r<|js<|sb r<|aW func185 r<|aE r<|js<|jb<|sa r<|ep false r<|an r<|cf r<|sa r<|lv ((aM r r).bool_f (by unfold bY at hm; omega)) r<|ea r<|go r<|ea r<|go r<|lv ((bt r r).bool_f (by unfold bY at hm; omega)) r<|bf r<|sr<|ec r<|lf 10 r r<|lv ((aM r r).bool_f (by unfold bY at hm; omega)) r<|an r<|cf r<|cY<|aE r<|jr<|cX r<|an r<|sb r<|nf r<|sk<|sb r<|fa 0 r<|ls r<|ea r<|cy (mH n d g j hn (c0) (c1) (c2) (c3) (c4)) r fun _=>ec r<|al r fun b1=>so r r<|an r<|js<|jb<|js<|dM ae<|qb r<|qa r<|qo r<|qf 4 r<|qo r<|ql r r<|qo r<|qb r<|qa r<|qo r ?_
 refine qf 1 r<|qo r<|ql r r<|qo r<|qa r<|qo r<|qa r<|qo r<|qf 6 r<|qo r<|ql r r<|qo r<|qb r<|qa r<|qn<|kt<|cf r<|sa r<|lv (aX r) r<|lf 8 r r<|lv ((bt r r).bool_f (by unfold bY at hm; omega)) r<|an r<|cf r<|cY<|sb r<|aW func186 r<|sr<|ec r<|fa 10 r<|so r r<|nj<|sb r<|cy (jh n c k l o p B C D hn (c0) (c1) (c2) (c3) (c4) (Sk d g (bL n) j) (I 0) (Pt q 0) (I a) (I id) (Mp u) (I i) (Ns) (I 10) (I 0) (I bg) (I sm) (Ff) (I 2) (I 60000) (tos) (I i) R t bg P since lat seen cnt T a w hb hd (.inr (by omega))) r fun _=>an r<|jl<|ju<|js<|sa r<|np false r<|nf r<|jx<|ke<|ke<|kh<|kt<|jg<|eb r<|cy (lT c q (c0) (c1) (c2) (c3) (c4) (Sk d g (bL n) j) (I 0) (Mp k) (Sk l o n p) (I a) (I id) (Mp u) (I i) (Ns) qZ cur free a (by unfold bY at hm; omega) hl hq) r fun _=>ln<|jA r<|nj<|fC _ (dH (Q := LkP n k l o p B))<|gh fun fl=>dY _ (ak _ _ _)<|qW fun h10=>dM ae ?_
 refine qb r<|qf 7 r<|ql r r<|qf 5 r<|ql r r<|qv (aN (v := Pt B 0) r r (some (Pt B 0)) h10 r) r<|qa r<|qn<|kt<|js<|fC _ (dz (A := (aa (AG l o n p) (aa (az k .i64 fl) (LX n fl)))) (LkP.of h10))<|av ((aa (sD b1) (ip B bg sm tos C D i since))) (emp) [] ae<|pe 0 r r<|pe 2 r r<|pe 3 r r<|pe 4 r r<|pf 5 0 r r<|pf 6 3 r r<|ps 1 r (ax r)<|pl 7 r r r<|pn 8 r (ai (zB c (c0) (c1) (c2) (c3) (c4) (Sk d g (bL n) j) (Mp k) (Sk l o n p) (Pt q 0) (I a) (Mp u) (I i) (Ns) id sm m hm) r r r) fun y3 _=>pe 9 r r<|pe 10 r r<|pe 11 r r<|pe 12 r r<|pe 13 r r<|dn<|kt<|js<|sb r<|nf r<|sk<|sb r<|lf 8 r r<|cy (jC C R t) r fun _=>an r<|js<|js<|av ((aa (ip B bg sm tos C D i since) (sD b1))) (emp) [] ae<|pe 0 r r<|pe 1 r r<|pf 2 8 r r<|pf 4 6 r r<|pe 6 r r<|pl 3 r r r<|pl 5 r r r<|pn 7 r (ai (qN C y3.1 y3.2.1 y3.2.2 R (dq id sm m) t (by have := eT hm; simp; try omega)) r r r) fun _ _=>pe 8 r r<|dn<|kt<|sb r<|nf r<|sk<|js<|sa r<|lv ((cv r r).bool_f (by unfold bY at hm; omega)) r<|nf r<|sk<|sr<|ec r<|lf 11 r r<|lv (aQ r r (by unfold bY at hm; omega)) r<|lv ((fH r r).as (v' := I (id + 1)) (congrArg (Value.int .i64) (nu id (by unfold bY at hm; omega)))) r<|ea r ?_
 refine fa 11 r<|so r r<|nr<|an r<|jr<|r1 r Ent.take
theorem EM (c e g j k l o p q s u v A : Nat) (c0 c1 c2 c3 c4 tos : Value) (n : Nat) (hn : n = 1 \/ n = 2 \/ n = 3) (bg P sm t id i since lat seen cnt cur free now a T : Int) (w : Bool) (hb : (bg = 0 /\ P = 12500) \/ (bg = 1 /\ P = 25000)) (hd : k7 P w lat since T) (m : ByteArray) (hm : bY id sm m) (d : ByteArray) (ht : t = 0 \/ t = 1) (h : 0 <= a /\ a <= 10000000 /\ 0 <= now /\ now <= a /\ cur <= a /\ 0 <= T /\ T <= a /\ a < T + 64 /\ 0 <= free /\ free <= T /\ cur <= T /\ 0 <= seen /\ seen <= T /\ 0 <= cnt /\ cnt <= 1000 /\ 0 <= i /\ i <= 100 /\ d.size <= 1000) : Kp prog 210 #[Pt c 0, Pt e 0, .string d] ((aa (ip e bg sm tos g j i since) (jH c c0 c1 c2 c3 c4 k l n o p q s u v a id A i))) (.agg [.string (aL 10 0 0 i d), .string (aL 10 0 1 i d)].toArray) := by
 refine en func210 r fun _ F=>sr<|al r fun b1=>nr<|al r fun b2=>nj<|aE r<|jl<|ut r<|js<|jb<|sb r<|nk<|av ((aa (ip e bg sm tos g j i since) (jH c c0 c1 c2 c3 c4 k l n o p q s u v a id A i))) (emp) [] ae<|pe 0 r r<|pe 1 r r<|pe 2 r r<|pf 3 0 r r<|pf 4 0 r r<|pe 6 r r<|pe 7 r r<|pf 8 6 r r<|pe 10 r r<|pe 11 r r<|pe 12 r r<|pf 13 10 r r<|pe 15 r r<|pl 5 r r r<|pl 9 r r r<|pl 14 r r r<|ps 16 r (af r)<|pn 17 r (ai (k6 10 0 0 i d (by decide) (by decide) (by omega) (by omega)) r r r) fun _ _=>pe 18 r r<|pe 19 r r<|pe 20 r r<|ps 21 r (bZ 0 r r r r)<|pn 22 r (aI r r r (List.all_eq_true.1 r)) fun _ _=>dn<|ni (I 1) r<|ut r<|js<|jb<|sb r<|nk<|av ((aa (ip e bg sm tos g j i since) (jH c c0 c1 c2 c3 c4 k l n o p q s u v a id A i))) (emp) [] ae<|pe 0 r r<|pe 1 r r<|pe 2 r r<|pf 3 0 r r<|pf 4 0 r r<|pe 6 r r<|pe 7 r r<|pf 8 6 r r<|pe 10 r r<|pe 11 r r<|pe 12 r r<|pf 13 10 r r<|pe 15 r r<|pl 5 r r r<|pl 9 r r r<|pl 14 r r r<|ps 16 r (af r)<|pn 17 r (ai (k6 10 0 1 i d (by decide) (by decide) (by omega) (by omega)) r r r) fun _ _=>pe 18 r r<|pe 19 r r<|pe 20 r r<|ps 21 r (bZ 1 r r r r) ?_
 refine pn 22 r (aI r r r (List.all_eq_true.1 r)) fun _ _=>dn<|ni (I 2) r<|uf r<|kt<|sr<|ls r<|so r r<|nk<|jr ?_
 exact bM r (.agg r r (.nil)) () trivial r Ent.take
theorem Hw (c e g j k l o p q u v A B : Nat) (c0 c1 c2 c3 c4 tos : Value) (n : Nat) (hn : n = 1 \/ n = 2 \/ n = 3) (bg P sm t id i since lat seen cnt cur free now a T : Int) (w : Bool) (hb : (bg = 0 /\ P = 12500) \/ (bg = 1 /\ P = 25000)) (hd : k7 P w lat since T) (m : ByteArray) (hm : bY id sm m) (d : ByteArray) (ht : t = 0 \/ t = 1) (h : 0 <= a /\ a <= 10000000 /\ 0 <= now /\ now <= a /\ cur <= a /\ 0 <= T /\ T <= a /\ a < T + 64 /\ 0 <= free /\ free <= T /\ cur <= T /\ 0 <= seen /\ seen <= T /\ 0 <= cnt /\ cnt <= 1000 /\ 0 <= i /\ i <= 100 /\ d.size <= 1000) : Sp prog 186 #[Pt c 0, I a] ((aa (jH c c0 c1 c2 c3 c4 e g n j k l o p q now id u i) (aa (LkP n k l o p v) (aa (ip v bg sm tos A B i since) (aa (SubP A (d :: []) t) (aa (sE B bg w lat seen cnt) (aa (Mq.LineP q [] cur free) (az u .i64 (fun _ => none))))))))) (.tuple #[]) ((aa (am c [c0, c1, c2, c3, c4, Sk e g (bL n) j, I 0, Mp k, Sk l o n p, Pt q 0, I a, I id, Mp u, I (i + 1), Ns] 263) (aa (LkP n k l o p v) (aa (sC v bg sm tos A B i T) (aa (SubP A [] 1) (aa (vQ B bg T cnt) (aa (AF q i d T a) (az u .i64 (fun m' => if m' = i then some (.agg (yf i d).toArray) else (fun _ => none) m'))))))))) := by
 refine en func186 r fun _ F=>sr<|ec r<|fa 10 r<|so r r<|nj<|sb r<|cy (qp n c k l o p v A B hn (c0) (c1) (c2) (c3) (c4) (Sk e g (bL n) j) (I 0) (Pt q 0) (I a) (I id) (Mp u) (I i) (Ns) (I 10) (I 0) (I bg) (I sm) (Ff) (I 2) (I 60000) (tos) (I i) (d :: []) t bg P since lat seen cnt T a w hb hd ⟨by simp, by omega⟩) rfl fun _=>an r<|jl<|ju<|js<|sa r<|np true r<|nt r<|sk<|js<|jb<|sa r<|cy (qu v B (I 10) (I 0) (I bg) (I sm) (Ff) (I 2) (I 60000) (tos) (Pt A 0) (I i) bg P since lat seen cnt T w hb hd) r fun _=>an r<|sb r<|cy (lT c q (c0) (c1) (c2) (c3) (c4) (Sk e g (bL n) j) (I 0) (Mp k) (Sk l o n p) (I a) (I id) (Mp u) (I i) (Ns) ([]) cur free T (by unfold bY at hm; omega) (by simp) (fun _ h => absurd h (by simp))) r fun _=>nr<|eb r<|lf 8 r r<|cy (yz A d [] t ht (by simp)) r fun _=>ed r<|ec r<|nr<|eb r<|lf 9 r r<|ea r<|cy (qj B bg P lat since seen cnt T w hb hd (by omega)) r fun _=>nk ?_
 refine gO (X := Nat) (fun x5 => [(0, Pt c 0), (1, I a), (4, Pt v 0), (18, Tt), (5, I T), (7, .string d), (9, Pt x5 0)]) (fun x5 => (aa (LkP n k l o p v) (aa (SubP A [] 1) (aa (vQ B bg T cnt) (aa (Mq.LineP q [] T free) (aa (ip v bg sm tos A B i since) (aa (jH c c0 c1 c2 c3 c4 e g n j k l o p q a id u i) (aa (vP x5 i d) (aa (az u .i64 (fun _ => none)) (F)))))))))) (fun _ => True) ?_ (fun x5 _ => ?_)
 ·refine av (ip v bg sm tos A B i since) (emp) [] ae<|pe 0 r r<|pe 1 r r<|pf 2 0 r r<|pf 3 0 r r<|pe 5 r r<|pe 6 r r<|pe 7 r r<|pl 4 r r r ?_
  refine k8 [8, 10] (by kernel_rfl) rfl fun i hi => ?_
  simp only [List.mem_cons, List.not_mem_nil, or_false] at hi
  rcases hi with rfl | rfl
  ·refine bT r r (ai (EM c v A B e g j k l o p q u c0 c1 c2 c3 c4 tos n hn bg P sm t id i since lat seen cnt cur free now a T w hb hd m hm d ht h) r r r) fun _ _=>ps 9 r (af r)<|pn 10 r (bq r) fun b3 _=>?_
   refine pn 11 r (aI r r r (List.all_eq_true.1 r)) fun _ _=>dn<|kc b3 r Ent.take
  ·refine bT r r (bq r) fun b4 _=>pn 8 r (ai (EM c v A B e g j k l o p q u c0 c1 c2 c3 c4 tos n hn bg P sm t id i since lat seen cnt cur free now a T w hb hd m hm d ht h) r r r) fun _ _=>ps 9 r (af r) ?_
   refine pn 11 r (aI r r r (List.all_eq_true.1 r)) fun _ _=>dn<|kc b4 r Ent.take
 ·refine js<|av ((aa (jH c c0 c1 c2 c3 c4 e g n j k l o p q a id u i) (vP x5 i d))) (emp) [] ae<|pe 0 r r<|pe 1 r r<|pf 2 9 r r<|pe 4 r r<|pe 5 r r<|pe 6 r r<|pf 7 13 r r<|pf 9 3 r r<|ps 10 r (bZ 3 r r r r)<|pl 3 r r r<|pl 8 r r r<|pl 11 r r r<|pn 12 r (ai (qR q T free T i (aL 10 0 0 i d) (by have := cB 10 0 0 i d; omega)) r r r) fun _ _=>dn ?_
  refine kt<|js<|av ((aa (jH c c0 c1 c2 c3 c4 e g n j k l o p q a id u i) (vP x5 i d))) (emp) [] ae<|pe 0 r r<|pe 1 r r<|pf 2 12 r r<|pe 4 r r<|pe 5 r r<|pf 6 13 r r<|pl 3 r r r<|pl 7 r r r<|ps 8 r (ax r)<|pn 9 r (dh r r r) fun _ _=>dn<|kt<|sb r<|lf 13 r r<|lv (aQ r r (by unfold bY at hm; omega)) r<|ea r<|fa 13 r<|so r r<|nk<|jg<|ed r<|lf 10 r r<|aW func212 r<|aE r<|js<|sa r<|lv ((aM r r).bool_f (by unfold bY at hm; omega)) r<|ea r<|go r<|ea r<|go r<|lv ((dt r r).bool_f (by unfold bY at hm; omega)) r<|an r<|cf r<|sk<|sa r<|lv (aQ r r (by unfold bY at hm; omega)) r<|an r<|jr<|cX r<|eb r<|fa 10 r<|so r r<|ea r<|fa 11 r<|so r r<|ln<|kb<|kt<|jg<|eb r<|cy (jh n c k l o p v A B hn (c0) (c1) (c2) (c3) (c4) (Sk e g (bL n) j) (I 0) (Pt q 0) (I a) (I id) (Mp u) (I (i + 1)) (Ns) (I 10) (I 0) (I bg) (I sm) (Ff) (I 2) (I 60000) (tos) (I (i + 1)) ([]) 1 bg P T T T (cnt + 1) (T + P) a true hb (.inr ⟨rfl, rfl, by omega, by omega, by omega, by omega⟩) (.inl rfl)) rfl fun _=>ea r<|kr<|ju<|js<|sa r<|np false r<|nf r<|jx<|ke<|ke ?_
  refine kh<|kt<|jg<|eb r<|cy (lT c q (c0) (c1) (c2) (c3) (c4) (Sk e g (bL n) j) (I 0) (Mp k) (Sk l o n p) (I a) (I id) (Mp u) (I (i + 1)) (Ns) ([⟨i, aL 10 0 0 i d, T, T + (((aL 10 0 0 i d).size : Int) + 20)⟩]) T (T + (((aL 10 0 0 i d).size : Int) + 20)) a (by unfold bY at hm; omega) (by simp) (fun s hs => by rw [List.mem_singleton.1 hs]; have := cB 10 0 0 i d; dsimp only; omega)) rfl fun _=>ln<|z0 r Ent.take
theorem Hv (c e g j k l o p q s u B C : Nat) (c0 c1 c2 c3 c4 tos : Value) (n : Nat) (hn : n = 1 \/ n = 2 \/ n = 3) (bg P sm t id i since lat seen cnt cur free now a T : Int) (w : Bool) (hb : (bg = 0 /\ P = 12500) \/ (bg = 1 /\ P = 25000)) (hd : k7 P w lat since T) (m : ByteArray) (hm : bY id sm m) (d : ByteArray) (ht : t = 0 \/ t = 1) (h : 0 <= a /\ a <= 10000000 /\ 0 <= now /\ now <= a /\ cur <= a /\ 0 <= T /\ T <= a /\ a < T + 64 /\ 0 <= free /\ free <= T /\ cur <= T /\ 0 <= seen /\ seen <= T /\ 0 <= cnt /\ cnt <= 1000 /\ 0 <= i /\ i <= 100 /\ d.size <= 1000) : Sp prog 176 #[Pt c 0, I a, I 10, .string m] ((aa (jH c c0 c1 c2 c3 c4 e g n j k l o p q now id s i) (aa (cE n e g j) (aa (LkP n k l o p u) (aa (ip u bg sm tos B C i since) (aa (SubP B (d :: []) t) (aa (sE C bg w lat seen cnt) (aa (Mq.LineP q [] cur free) (az s .i64 (fun _ => none)))))))))) (I 0) ((aa (am c [c0, c1, c2, c3, c4, Sk e g (bL n) j, I 0, Mp k, Sk l o n p, Pt q 0, I a, I (id + 1), Mp s, I (i + 1), Ns] 263) (aa (cE n e g j) (aa (LkP n k l o p u) (aa (sC u bg sm tos B C i a) (aa (SubP B ([] ++ dq id sm m) 1) (aa (vQ C bg T cnt) (aa (AF q i d T a) (az s .i64 (fun m' => if m' = i then some (.agg (yf i d).toArray) else (fun _ => none) m')))))))))) := by
 refine en func176 r fun _ F=>aE r<|js<|sb r<|aW func185 r<|aE r<|js<|jb<|sa r<|ep false r<|an r<|cf r<|sa r<|lv ((aM r r).bool_f (by unfold bY at hm; omega)) r<|ea r<|go r<|ea r<|go r<|lv ((bt r r).bool_f (by unfold bY at hm; omega)) r<|bf r<|sr<|ec r<|lf 10 r r<|lv ((aM r r).bool_f (by unfold bY at hm; omega)) r<|an r<|cf r<|cY<|aE r<|jr<|cX r<|an r<|sb r<|nf r<|sk<|sb r<|fa 0 r<|ls r<|ea r<|cy (mH n e g j hn (c0) (c1) (c2) (c3) (c4)) r fun _=>ec r<|al r fun b1=>so r r<|an r<|js<|jb<|js<|dM ae<|qb r<|qa r<|qo r<|qf 4 r<|qo r<|ql r r<|qo r<|qb r<|qa r<|qo r ?_
 refine qf 1 r<|qo r<|ql r r<|qo r<|qa r<|qo r<|qa r<|qo r<|qf 6 r<|qo r<|ql r r<|qo r<|qb r<|qa r<|qn<|kt<|cf r<|sa r<|lv (aX r) r<|lf 8 r r<|lv ((bt r r).bool_f (by unfold bY at hm; omega)) r<|an r<|cf r<|cY<|sb r<|cu (Hw c e g j k l o p q s u B C c0 c1 c2 c3 c4 tos n hn bg P sm t id i since lat seen cnt cur free now a T w hb hd m hm d ht h) r<|nj<|fC _ (dH (Q := LkP n k l o p u))<|gh fun fl=>dY _ (ak _ _ _)<|qW fun h10=>dM ae<|qb r<|qf 7 r<|ql r r<|qf 5 r<|ql r r<|qv (aN (v := Pt u 0) r r (some (Pt u 0)) h10 r) r<|qa r<|qn<|kt<|js<|fC _ (dz (A := (aa (AG l o n p) (aa (az k .i64 fl) (LX n fl)))) (LkP.of h10))<|av ((aa (sD b1) (sC u bg sm tos B C i T))) (emp) [] ae<|pe 0 r r<|pe 2 r r<|pe 3 r r<|pe 4 r r<|pf 5 0 r r<|pf 6 3 r r<|ps 1 r (ax r)<|pl 7 r r r<|pn 8 r (ai (zB c (c0) (c1) (c2) (c3) (c4) (Sk e g (bL n) j) (Mp k) (Sk l o n p) (Pt q 0) (I a) (Mp s) (I (i + 1)) (Ns) id sm m hm) r r r) fun y3 _=>pe 9 r r<|pe 10 r r<|pe 11 r r<|pe 12 r r<|pe 13 r r<|dn<|kt<|js<|sb r<|nf r<|sk ?_
 refine sb r<|lf 8 r r<|cy (B5 B 1) r fun _=>an r<|js<|js<|av ((aa (sC u bg sm tos B C i T) (sD b1))) (emp) [] ae<|pe 0 r r<|pe 1 r r<|pf 2 8 r r<|pf 4 6 r r<|pe 6 r r<|pl 3 r r r<|pl 5 r r r<|pn 7 r (ai (qN B y3.1 y3.2.1 y3.2.2 ([]) (dq id sm m) 1 (by have := eT hm; simp; try omega)) r r r) fun _ _=>pe 8 r r<|dn<|kt<|sb r<|nf r<|sk<|js<|sb r<|nt r<|jg<|ec r<|fa 11 r<|so r r<|nr<|ec r<|lf 11 r r<|lv (aQ r r (by unfold bY at hm; omega)) r ?_
 refine lv ((fH r r).as (v' := I (id + 1)) (congrArg (Value.int .i64) (nu id (by unfold bY at hm; omega)))) r<|ea r<|fa 11 r<|so r r<|nr<|an r<|jr<|r1 r Ent.take
theorem EL (c e g j k l o p q s u v A : Nat) (c0 c1 c2 c3 c4 tos : Value) (n : Nat) (hn : n = 1 \/ n = 2 \/ n = 3) (bg P sm t id i since lat seen cnt cur free now a T : Int) (w : Bool) (hb : (bg = 0 /\ P = 12500) \/ (bg = 1 /\ P = 25000)) (hd : k7 P w lat since T) (m : ByteArray) (hm : bY id sm m) (R : List ByteArray) (d : ByteArray) (ht : t = 0 \/ t = 1) (hR : R.length <= 1000) (h : 0 <= a /\ a <= 10000000 /\ 0 <= now /\ now <= a /\ cur <= a /\ 0 <= T /\ T <= a /\ a < T + 64 /\ 0 <= free /\ free <= T /\ cur <= T /\ 0 <= seen /\ seen <= T /\ 0 <= cnt /\ cnt <= 1000 /\ 0 <= i /\ i <= 100 /\ d.size <= 1000 /\ 0 < R.length /\ R.length <= 900) : Kp prog 210 #[Pt c 0, Pt e 0, .string d] ((aa (ip e bg sm tos g j i since) (jH c c0 c1 c2 c3 c4 k l n o p q s u v a id A i))) (.agg [.string (aL 10 0 0 i d), .string (aL 10 0 1 i d)].toArray) := by
 refine en func210 r fun _ F=>sr<|al r fun b1=>nr<|al r fun b2=>nj<|aE r<|jl<|ut r<|js<|jb<|sb r<|nk<|av ((aa (ip e bg sm tos g j i since) (jH c c0 c1 c2 c3 c4 k l n o p q s u v a id A i))) (emp) [] ae<|pe 0 r r<|pe 1 r r<|pe 2 r r<|pf 3 0 r r<|pf 4 0 r r<|pe 6 r r<|pe 7 r r<|pf 8 6 r r<|pe 10 r r<|pe 11 r r<|pe 12 r r<|pf 13 10 r r<|pe 15 r r<|pl 5 r r r<|pl 9 r r r<|pl 14 r r r<|ps 16 r (af r)<|pn 17 r (ai (k6 10 0 0 i d (by decide) (by decide) (by omega) (by omega)) r r r) fun _ _=>pe 18 r r<|pe 19 r r<|pe 20 r r<|ps 21 r (bZ 0 r r r r)<|pn 22 r (aI r r r (List.all_eq_true.1 r)) fun _ _=>dn<|ni (I 1) r<|ut r<|js<|jb<|sb r<|nk<|av ((aa (ip e bg sm tos g j i since) (jH c c0 c1 c2 c3 c4 k l n o p q s u v a id A i))) (emp) [] ae<|pe 0 r r<|pe 1 r r<|pe 2 r r<|pf 3 0 r r<|pf 4 0 r r<|pe 6 r r<|pe 7 r r<|pf 8 6 r r<|pe 10 r r<|pe 11 r r<|pe 12 r r<|pf 13 10 r r<|pe 15 r r<|pl 5 r r r<|pl 9 r r r<|pl 14 r r r<|ps 16 r (af r)<|pn 17 r (ai (k6 10 0 1 i d (by decide) (by decide) (by omega) (by omega)) r r r) fun _ _=>pe 18 r r<|pe 19 r r<|pe 20 r r<|ps 21 r (bZ 1 r r r r) ?_
 refine pn 22 r (aI r r r (List.all_eq_true.1 r)) fun _ _=>dn<|ni (I 2) r<|uf r<|kt<|sr<|ls r<|so r r<|nk<|jr ?_
 exact bM r (.agg r r (.nil)) () trivial r Ent.take
theorem Hu (c e g j k l o p q u v A B : Nat) (c0 c1 c2 c3 c4 tos : Value) (n : Nat) (hn : n = 1 \/ n = 2 \/ n = 3) (bg P sm t id i since lat seen cnt cur free now a T : Int) (w : Bool) (hb : (bg = 0 /\ P = 12500) \/ (bg = 1 /\ P = 25000)) (hd : k7 P w lat since T) (m : ByteArray) (hm : bY id sm m) (R : List ByteArray) (d : ByteArray) (ht : t = 0 \/ t = 1) (hR : R.length <= 1000) (h : 0 <= a /\ a <= 10000000 /\ 0 <= now /\ now <= a /\ cur <= a /\ 0 <= T /\ T <= a /\ a < T + 64 /\ 0 <= free /\ free <= T /\ cur <= T /\ 0 <= seen /\ seen <= T /\ 0 <= cnt /\ cnt <= 1000 /\ 0 <= i /\ i <= 100 /\ d.size <= 1000 /\ 0 < R.length /\ R.length <= 900) : Sp prog 186 #[Pt c 0, I a] ((aa (jH c c0 c1 c2 c3 c4 e g n j k l o p q now id u i) (aa (LkP n k l o p v) (aa (ip v bg sm tos A B i since) (aa (SubP A (d :: R) t) (aa (sE B bg w lat seen cnt) (aa (Mq.LineP q [] cur free) (az u .i64 (fun _ => none))))))))) (.tuple #[]) ((aa (am c [c0, c1, c2, c3, c4, Sk e g (bL n) j, I 0, Mp k, Sk l o n p, Pt q 0, I a, I id, Mp u, I (i + 1), Ns] 263) (aa (LkP n k l o p v) (aa (sC v bg sm tos A B i T) (aa (SubP A R 1) (aa (vQ B bg T cnt) (aa (AF q i d T a) (az u .i64 (fun m' => if m' = i then some (.agg (yf i d).toArray) else (fun _ => none) m'))))))))) := by
 refine en func186 r fun _ F=>sr<|ec r<|fa 10 r<|so r r<|nj<|sb r<|cy (qp n c k l o p v A B hn (c0) (c1) (c2) (c3) (c4) (Sk e g (bL n) j) (I 0) (Pt q 0) (I a) (I id) (Mp u) (I i) (Ns) (I 10) (I 0) (I bg) (I sm) (Ff) (I 2) (I 60000) (tos) (I i) (d :: R) t bg P since lat seen cnt T a w hb hd ⟨by simp, by omega⟩) rfl fun _=>an r<|jl<|ju<|js<|sa r<|np true r<|nt r<|sk<|js<|jb<|sa r<|cy (qu v B (I 10) (I 0) (I bg) (I sm) (Ff) (I 2) (I 60000) (tos) (Pt A 0) (I i) bg P since lat seen cnt T w hb hd) r fun _=>an r<|sb r<|cy (lT c q (c0) (c1) (c2) (c3) (c4) (Sk e g (bL n) j) (I 0) (Mp k) (Sk l o n p) (I a) (I id) (Mp u) (I i) (Ns) ([]) cur free T (by unfold bY at hm; omega) (by simp) (fun _ h => absurd h (by simp))) r fun _=>nr<|eb r<|lf 8 r r<|cy (yz A d R t ht hR) r fun _=>ed r<|ec r<|nr<|eb r<|lf 9 r r<|ea r<|cy (qj B bg P lat since seen cnt T w hb hd (by omega)) r fun _=>nk ?_
 refine gO (X := Nat) (fun x5 => [(0, Pt c 0), (1, I a), (4, Pt v 0), (18, Tt), (5, I T), (7, .string d), (9, Pt x5 0)]) (fun x5 => (aa (LkP n k l o p v) (aa (SubP A R 1) (aa (vQ B bg T cnt) (aa (Mq.LineP q [] T free) (aa (ip v bg sm tos A B i since) (aa (jH c c0 c1 c2 c3 c4 e g n j k l o p q a id u i) (aa (vP x5 i d) (aa (az u .i64 (fun _ => none)) (F)))))))))) (fun _ => True) ?_ (fun x5 _ => ?_)
 ·refine av (ip v bg sm tos A B i since) (emp) [] ae<|pe 0 r r<|pe 1 r r<|pf 2 0 r r<|pf 3 0 r r<|pe 5 r r<|pe 6 r r<|pe 7 r r<|pl 4 r r r ?_
  refine k8 [8, 10] (by kernel_rfl) rfl fun i hi => ?_
  simp only [List.mem_cons, List.not_mem_nil, or_false] at hi
  rcases hi with rfl | rfl
  ·refine bT r r (ai (EL c v A B e g j k l o p q u c0 c1 c2 c3 c4 tos n hn bg P sm t id i since lat seen cnt cur free now a T w hb hd m hm R d ht hR h) r r r) fun _ _=>ps 9 r (af r)<|pn 10 r (bq r) fun b3 _=>?_
   refine pn 11 r (aI r r r (List.all_eq_true.1 r)) fun _ _=>dn<|kc b3 r Ent.take
  ·refine bT r r (bq r) fun b4 _=>pn 8 r (ai (EL c v A B e g j k l o p q u c0 c1 c2 c3 c4 tos n hn bg P sm t id i since lat seen cnt cur free now a T w hb hd m hm R d ht hR h) r r r) fun _ _=>ps 9 r (af r) ?_
   refine pn 11 r (aI r r r (List.all_eq_true.1 r)) fun _ _=>dn<|kc b4 r Ent.take
 ·refine js<|av ((aa (jH c c0 c1 c2 c3 c4 e g n j k l o p q a id u i) (vP x5 i d))) (emp) [] ae<|pe 0 r r<|pe 1 r r<|pf 2 9 r r<|pe 4 r r<|pe 5 r r<|pe 6 r r<|pf 7 13 r r<|pf 9 3 r r<|ps 10 r (bZ 3 r r r r)<|pl 3 r r r<|pl 8 r r r<|pl 11 r r r<|pn 12 r (ai (qR q T free T i (aL 10 0 0 i d) (by have := cB 10 0 0 i d; omega)) r r r) fun _ _=>dn ?_
  refine kt<|js<|av ((aa (jH c c0 c1 c2 c3 c4 e g n j k l o p q a id u i) (vP x5 i d))) (emp) [] ae<|pe 0 r r<|pe 1 r r<|pf 2 12 r r<|pe 4 r r<|pe 5 r r<|pf 6 13 r r<|pl 3 r r r<|pl 7 r r r<|ps 8 r (ax r)<|pn 9 r (dh r r r) fun _ _=>dn<|kt<|sb r<|lf 13 r r<|lv (aQ r r (by unfold bY at hm; omega)) r<|ea r<|fa 13 r<|so r r<|nk<|jg<|ed r<|lf 10 r r<|aW func212 r<|aE r<|js<|sa r<|lv ((aM r r).bool_f (by unfold bY at hm; omega)) r<|ea r<|go r<|ea r<|go r<|lv ((dt r r).bool_f (by unfold bY at hm; omega)) r<|an r<|cf r<|sk<|sa r<|lv (aQ r r (by unfold bY at hm; omega)) r<|an r<|jr<|cX r<|eb r<|fa 10 r<|so r r<|ea r<|fa 11 r<|so r r<|ln<|kb<|kt<|jg<|eb r<|cy (jh n c k l o p v A B hn (c0) (c1) (c2) (c3) (c4) (Sk e g (bL n) j) (I 0) (Pt q 0) (I a) (I id) (Mp u) (I (i + 1)) (Ns) (I 10) (I 0) (I bg) (I sm) (Ff) (I 2) (I 60000) (tos) (I (i + 1)) R 1 bg P T T T (cnt + 1) (T + P) a true hb (.inr ⟨rfl, rfl, by omega, by omega, by omega, by omega⟩) (.inr (by omega))) r fun _=>ea r<|kr<|ju<|js<|sa r<|np false r<|nf r<|jx<|ke<|ke ?_
  refine kh<|kt<|jg<|eb r<|cy (lT c q (c0) (c1) (c2) (c3) (c4) (Sk e g (bL n) j) (I 0) (Mp k) (Sk l o n p) (I a) (I id) (Mp u) (I (i + 1)) (Ns) ([⟨i, aL 10 0 0 i d, T, T + (((aL 10 0 0 i d).size : Int) + 20)⟩]) T (T + (((aL 10 0 0 i d).size : Int) + 20)) a (by unfold bY at hm; omega) (by simp) (fun s hs => by rw [List.mem_singleton.1 hs]; have := cB 10 0 0 i d; dsimp only; omega)) rfl fun _=>ln<|z0 r Ent.take
theorem Ht (c e g j k l o p q s u B C : Nat) (c0 c1 c2 c3 c4 tos : Value) (n : Nat) (hn : n = 1 \/ n = 2 \/ n = 3) (bg P sm t id i since lat seen cnt cur free now a T : Int) (w : Bool) (hb : (bg = 0 /\ P = 12500) \/ (bg = 1 /\ P = 25000)) (hd : k7 P w lat since T) (m : ByteArray) (hm : bY id sm m) (R : List ByteArray) (d : ByteArray) (ht : t = 0 \/ t = 1) (hR : R.length <= 1000) (h : 0 <= a /\ a <= 10000000 /\ 0 <= now /\ now <= a /\ cur <= a /\ 0 <= T /\ T <= a /\ a < T + 64 /\ 0 <= free /\ free <= T /\ cur <= T /\ 0 <= seen /\ seen <= T /\ 0 <= cnt /\ cnt <= 1000 /\ 0 <= i /\ i <= 100 /\ d.size <= 1000 /\ 0 < R.length /\ R.length <= 900) : Sp prog 176 #[Pt c 0, I a, I 10, .string m] ((aa (jH c c0 c1 c2 c3 c4 e g n j k l o p q now id s i) (aa (cE n e g j) (aa (LkP n k l o p u) (aa (ip u bg sm tos B C i since) (aa (SubP B (d :: R) t) (aa (sE C bg w lat seen cnt) (aa (Mq.LineP q [] cur free) (az s .i64 (fun _ => none)))))))))) (I 0) ((aa (am c [c0, c1, c2, c3, c4, Sk e g (bL n) j, I 0, Mp k, Sk l o n p, Pt q 0, I a, I (id + 1), Mp s, I (i + 1), Ns] 263) (aa (cE n e g j) (aa (LkP n k l o p u) (aa (sC u bg sm tos B C i T) (aa (SubP B (R ++ dq id sm m) 1) (aa (vQ C bg T cnt) (aa (AF q i d T a) (az s .i64 (fun m' => if m' = i then some (.agg (yf i d).toArray) else (fun _ => none) m')))))))))) := by
 refine en func176 r fun _ F=>aE r<|js<|sb r<|aW func185 r<|aE r<|js<|jb<|sa r<|ep false r<|an r<|cf r<|sa r<|lv ((aM r r).bool_f (by unfold bY at hm; omega)) r<|ea r<|go r<|ea r<|go r<|lv ((bt r r).bool_f (by unfold bY at hm; omega)) r<|bf r<|sr<|ec r<|lf 10 r r<|lv ((aM r r).bool_f (by unfold bY at hm; omega)) r<|an r<|cf r<|cY<|aE r<|jr<|cX r<|an r<|sb r<|nf r<|sk<|sb r<|fa 0 r<|ls r<|ea r<|cy (mH n e g j hn (c0) (c1) (c2) (c3) (c4)) r fun _=>ec r<|al r fun b1=>so r r<|an r<|js<|jb<|js<|dM ae<|qb r<|qa r<|qo r<|qf 4 r<|qo r<|ql r r<|qo r<|qb r<|qa r<|qo r ?_
 refine qf 1 r<|qo r<|ql r r<|qo r<|qa r<|qo r<|qa r<|qo r<|qf 6 r<|qo r<|ql r r<|qo r<|qb r<|qa r<|qn<|kt<|cf r<|sa r<|lv (aX r) r<|lf 8 r r<|lv ((bt r r).bool_f (by unfold bY at hm; omega)) r<|an r<|cf r<|cY<|sb r<|cu (Hu c e g j k l o p q s u B C c0 c1 c2 c3 c4 tos n hn bg P sm t id i since lat seen cnt cur free now a T w hb hd m hm R d ht hR h) r<|nj<|fC _ (dH (Q := LkP n k l o p u))<|gh fun fl=>dY _ (ak _ _ _)<|qW fun h10=>dM ae<|qb r<|qf 7 r<|ql r r<|qf 5 r<|ql r r<|qv (aN (v := Pt u 0) r r (some (Pt u 0)) h10 r) r<|qa r<|qn<|kt<|js<|fC _ (dz (A := (aa (AG l o n p) (aa (az k .i64 fl) (LX n fl)))) (LkP.of h10))<|av ((aa (sD b1) (sC u bg sm tos B C i T))) (emp) [] ae<|pe 0 r r<|pe 2 r r<|pe 3 r r<|pe 4 r r<|pf 5 0 r r<|pf 6 3 r r<|ps 1 r (ax r)<|pl 7 r r r<|pn 8 r (ai (zB c (c0) (c1) (c2) (c3) (c4) (Sk e g (bL n) j) (Mp k) (Sk l o n p) (Pt q 0) (I a) (Mp s) (I (i + 1)) (Ns) id sm m hm) r r r) fun y3 _=>pe 9 r r<|pe 10 r r<|pe 11 r r<|pe 12 r r<|pe 13 r r<|dn<|kt<|js<|sb r<|nf r<|sk ?_
 refine sb r<|lf 8 r r<|cy (jC B R 1) r fun _=>an r<|js<|js<|av ((aa (sC u bg sm tos B C i T) (sD b1))) (emp) [] ae<|pe 0 r r<|pe 1 r r<|pf 2 8 r r<|pf 4 6 r r<|pe 6 r r<|pl 3 r r r<|pl 5 r r r<|pn 7 r (ai (qN B y3.1 y3.2.1 y3.2.2 R (dq id sm m) 1 (by have := eT hm; simp; try omega)) r r r) fun _ _=>pe 8 r r<|dn<|kt<|sb r<|nf r<|sk<|js<|sa r<|lv ((cv r r).bool_f (by unfold bY at hm; omega)) r<|nf r<|sk<|sr<|ec r<|lf 11 r r<|lv (aQ r r (by unfold bY at hm; omega)) r<|lv ((fH r r).as (v' := I (id + 1)) (congrArg (Value.int .i64) (nu id (by unfold bY at hm; omega)))) r<|ea r ?_
 refine fa 11 r<|so r r<|nr<|an r<|jr<|r1 r Ent.take
end Sp
section
variable {p n rb ro rc : Nat} {sm bg P id i now T : Int} {R : List ByteArray}
theorem FSpec.via {prog : Program} {f : FuncId} {args : Array Value} {X : Type} {φ : X -> Prop} {val : X -> Value} {P P' R : ab} {Q Q' : X -> ab} [h : SLA.Take P P' R] (k : FSpec prog f args P' φ val Q') (e : ∀ y, Ent (aa (Q' y) (R)) (Q y)) : FSpec prog f args P φ val Q := by
 rw [h.eq]
 exact (k.frame R).conseq (ah _) fun y hy => ⟨y, hy, rfl, e y⟩
namespace Sp
open Mq
structure TxV where
 c : Nat -> Value
 tos : Value
 lr : Nat
 ob : Nat
 oo : Nat
 oc : Nat
 line : Nat
 gm : Nat
 p10 : Nat
 q10 : Nat
 g10 : Nat
 t : Int
 since : Int
 lat : Int
 seen : Int
 cnt : Int
 cur : Int
 free : Int
 w : Bool
structure TxH (v : TxV) (bg P i now T : Int) (R : List ByteArray) : Prop where
 bp : (bg = 0 /\ P = 12500) \/ (bg = 1 /\ P = 25000)
 due : k7 P v.w v.lat v.since T
 nw : 0 <= now /\ now <= 10000000
 cr : v.cur <= now
 sn : v.since <= now
 du : R ≠ [] -> now <= T
 fr : 0 <= v.free /\ v.free <= T
 se : 0 <= v.seen /\ v.seen <= T
 cn : 0 <= v.cnt /\ v.cnt <= i
 ii : 0 <= i /\ i <= 90
 tt : v.t = 0 \/ v.t = 1
 rl : R.length <= 100
 ds : ∀ d, d ∈ R -> d.size <= 1000
 fresh : i = 0 -> v.w = false
def TxQ (p n rb ro rc : Nat) (sm bg P id i now T : Int) (R : List ByteArray) : ab := ex fun v : TxV => (aa (SLA.lift (TxH v bg P i now T R)) ((aa (am p [v.c 0, v.c 1, v.c 2, v.c 3, v.c 4, Sk rb ro (bL n) rc, I 0, Mp v.lr, Sk v.ob v.oo n v.oc, Pt v.line 0, I now, I id, Mp v.gm, I i, Ns] 263) (aa (LkP n v.lr v.ob v.oo v.oc v.p10) (aa (am v.p10 [I 10, I 0, I bg, I sm, Ff, I 2, I 60000, v.tos, Pt v.q10 0, Pt v.g10 0, I i, I v.since] 269) (aa (SubP v.q10 R v.t) (aa (am v.g10 [.int .u64 bg, .bool v.w, I v.lat, I v.seen, I v.cnt] 330) (aa (LineP v.line [] v.cur v.free) (az v.gm .i64 (fun _ => none))))))))))
def TxL (p n rb ro rc : Nat) (sm bg P id i now T : Int) (R : List ByteArray) (k : Int) (x0 x1 : ByteArray) (xb xe : Int) : ab := ex fun v : TxV => (aa (SLA.lift (TxH v bg P i now T R /\ 1 <= i /\ xe + 100 <= T)) ((aa (am p [v.c 0, v.c 1, v.c 2, v.c 3, v.c 4, Sk rb ro (bL n) rc, I 0, Mp v.lr, Sk v.ob v.oo n v.oc, Pt v.line 0, I now, I id, Mp v.gm, I i, Ns] 263) (aa (LkP n v.lr v.ob v.oo v.oc v.p10) (aa (am v.p10 [I 10, I 0, I bg, I sm, Ff, I 2, I 60000, v.tos, Pt v.q10 0, Pt v.g10 0, I i, I v.since] 269) (aa (SubP v.q10 R v.t) (aa (am v.g10 [.int .u64 bg, .bool v.w, I v.lat, I v.seen, I v.cnt] 330) (aa (LineP v.line [⟨k, x0, xb, xe⟩] v.cur v.free) (az v.gm .i64 (fun m' => if m' = k then some (.agg [I 10, I 0, I 0, .string x0, .string x1].toArray) else none))))))))))
theorem TxQ.fold (v : TxV) (h : TxH v bg P i now T R) : Ent ((aa (am p [v.c 0, v.c 1, v.c 2, v.c 3, v.c 4, Sk rb ro (bL n) rc, I 0, Mp v.lr, Sk v.ob v.oo n v.oc, Pt v.line 0, I now, I id, Mp v.gm, I i, Ns] 263) (aa (LkP n v.lr v.ob v.oo v.oc v.p10) (aa (am v.p10 [I 10, I 0, I bg, I sm, Ff, I 2, I 60000, v.tos, Pt v.q10 0, Pt v.g10 0, I i, I v.since] 269) (aa (SubP v.q10 R v.t) (aa (am v.g10 [.int .u64 bg, .bool v.w, I v.lat, I v.seen, I v.cnt] 330) (aa (LineP v.line [] v.cur v.free) (az v.gm .i64 (fun _ => none))))))))) (TxQ p n rb ro rc sm bg P id i now T R) :=
 Ent.trans (Ent.lift h) (bh (f := fun v : TxV => (aa (SLA.lift (TxH v bg P i now T R)) ((aa (am p [v.c 0, v.c 1, v.c 2, v.c 3, v.c 4, Sk rb ro (bL n) rc, I 0, Mp v.lr, Sk v.ob v.oo n v.oc, Pt v.line 0, I now, I id, Mp v.gm, I i, Ns] 263) (aa (LkP n v.lr v.ob v.oo v.oc v.p10) (aa (am v.p10 [I 10, I 0, I bg, I sm, Ff, I 2, I 60000, v.tos, Pt v.q10 0, Pt v.g10 0, I i, I v.since] 269) (aa (SubP v.q10 R v.t) (aa (am v.g10 [.int .u64 bg, .bool v.w, I v.lat, I v.seen, I v.cnt] 330) (aa (LineP v.line [] v.cur v.free) (az v.gm .i64 (fun _ => none))))))))))) v)
theorem TxL.fold {k : Int} {x0 x1 : ByteArray} {xb xe : Int} (v : TxV) (h : TxH v bg P i now T R /\ 1 <= i /\ xe + 100 <= T) : Ent ((aa (am p [v.c 0, v.c 1, v.c 2, v.c 3, v.c 4, Sk rb ro (bL n) rc, I 0, Mp v.lr, Sk v.ob v.oo n v.oc, Pt v.line 0, I now, I id, Mp v.gm, I i, Ns] 263) (aa (LkP n v.lr v.ob v.oo v.oc v.p10) (aa (am v.p10 [I 10, I 0, I bg, I sm, Ff, I 2, I 60000, v.tos, Pt v.q10 0, Pt v.g10 0, I i, I v.since] 269) (aa (SubP v.q10 R v.t) (aa (am v.g10 [.int .u64 bg, .bool v.w, I v.lat, I v.seen, I v.cnt] 330) (aa (LineP v.line [⟨k, x0, xb, xe⟩] v.cur v.free) (az v.gm .i64 (fun m' => if m' = k then some (.agg [I 10, I 0, I 0, .string x0, .string x1].toArray) else none))))))))) (TxL p n rb ro rc sm bg P id i now T R k x0 x1 xb xe) :=
 Ent.trans (Ent.lift h) (bh (f := fun v : TxV => (aa (SLA.lift (TxH v bg P i now T R /\ 1 <= i /\ xe + 100 <= T)) ((aa (am p [v.c 0, v.c 1, v.c 2, v.c 3, v.c 4, Sk rb ro (bL n) rc, I 0, Mp v.lr, Sk v.ob v.oo n v.oc, Pt v.line 0, I now, I id, Mp v.gm, I i, Ns] 263) (aa (LkP n v.lr v.ob v.oo v.oc v.p10) (aa (am v.p10 [I 10, I 0, I bg, I sm, Ff, I 2, I 60000, v.tos, Pt v.q10 0, Pt v.g10 0, I i, I v.since] 269) (aa (SubP v.q10 R v.t) (aa (am v.g10 [.int .u64 bg, .bool v.w, I v.lat, I v.seen, I v.cnt] 330) (aa (LineP v.line [⟨k, x0, xb, xe⟩] v.cur v.free) (az v.gm .i64 (fun m' => if m' = k then some (.agg [I 10, I 0, I 0, .string x0, .string x1].toArray) else none))))))))))) v)
theorem Ia (p n rb ro rc : Nat) (hn : n = 1 \/ n = 2 \/ n = 3) (sm bg P id i now T a : Int) (R : List ByteArray) (h : now <= a /\ a <= 10000000) (hf : R = [] \/ a < T) : Go.SLA.Sp Tryz.prog 162 #[Pt p 0, I a] (TxQ p n rb ro rc sm bg P id i now T R) (.tuple #[Ns, I 0]) (TxQ p n rb ro rc sm bg P id i a T R) := by
 refine FSpec.ex fun v =>aO fun hh => ?_
 have h1 := hh.nw; have h2 := hh.cr; have h3 := hh.fr; have h4 := hh.se; have h5 := hh.cn; have h6 := hh.ii; have h7 := hh.bp; have h8 := hh.rl
 have hf' : R.length = 0 \/ a < T := hf.imp (fun e => by rw [e]; rfl) (fun e => e)
 refine Sp.via (Bn p v.lr v.ob v.oo v.oc v.line v.gm v.p10 v.q10 v.g10 (v.c 0) (v.c 1) (v.c 2) (v.c 3) (v.c 4) (Sk rb ro (bL n) rc) v.tos n hn bg P sm v.t id i v.since v.lat v.seen v.cnt v.cur v.free now a T v.w hh.bp hh.due R (fun _ => none) [] ⟨by omega, by omega, by omega, by omega, by omega⟩ (by simp) (fun s hs => by cases hs) hf') (Ent.trans Ent.take (TxQ.fold { v with cur := a } ?_))
 exact { hh with nw := by omega, cr := Int.le_refl _, sn := by have := hh.sn; dsimp only; omega, du := fun e => by rcases hf with hf | hf; exact absurd hf e; omega }
theorem H9 (p n rb ro rc : Nat) (hn : n = 1 \/ n = 2 \/ n = 3) (sm bg P id i now T a : Int) (R : List ByteArray) (k : Int) (x0 x1 : ByteArray) (xb xe : Int) (h : now <= a /\ a <= 10000000) (hx : a < xe) : Go.SLA.Sp Tryz.prog 162 #[Pt p 0, I a] (TxL p n rb ro rc sm bg P id i now T R k x0 x1 xb xe) (.tuple #[Ns, I 0]) (TxL p n rb ro rc sm bg P id i a T R k x0 x1 xb xe) := by
 refine FSpec.ex fun v =>aO fun hH => ?_
 obtain ⟨hh, hi1, hxe⟩ := hH
 have h1 := hh.nw; have h2 := hh.cr; have h3 := hh.fr; have h4 := hh.se; have h5 := hh.cn; have h6 := hh.ii; have h7 := hh.bp; have h8 := hh.rl
 refine Sp.via (Bn p v.lr v.ob v.oo v.oc v.line v.gm v.p10 v.q10 v.g10 (v.c 0) (v.c 1) (v.c 2) (v.c 3) (v.c 4) (Sk rb ro (bL n) rc) v.tos n hn bg P sm v.t id i v.since v.lat v.seen v.cnt v.cur v.free now a T v.w hh.bp hh.due R (fun _ => none) [⟨k, x0, xb, xe⟩] ⟨by omega, by omega, by omega, by omega, by omega⟩ (by simp) (fun s hs => by rw [List.mem_singleton.1 hs]; exact hx) (.inr (by omega))) (Ent.trans Ent.take (TxL.fold { v with cur := a } ⟨?_, hi1, hxe⟩))
 exact { hh with nw := by omega, cr := Int.le_refl _, sn := by have := hh.sn; dsimp only; omega, du := fun e => by omega }
theorem H8 (p n rb ro rc : Nat) (hn : n = 1 \/ n = 2 \/ n = 3) (sm bg P id i now T a : Int) (R : List ByteArray) (d : ByteArray) (h : now <= a /\ a <= 10000000) (hT : T <= a /\ a < T + 64) (hi : i <= 80) : Go.SLA.Sp Tryz.prog 162 #[Pt p 0, I a] (TxQ p n rb ro rc sm bg P id i now T (d :: R)) (.tuple #[Ns, I 0]) (TxL p n rb ro rc sm bg P id (i + 1) a (T + P) R i (aL 10 0 0 i d) (aL 10 0 1 i d) T (T + (((aL 10 0 0 i d).size : Int) + 20))) := by
 refine FSpec.ex fun v =>aO fun hh => ?_
 have h1 := hh.nw; have h2 := hh.cr; have h3 := hh.fr; have h4 := hh.se; have h5 := hh.cn; have h6 := hh.ii; have h7 := hh.bp; have h8 := hh.rl
 have hz := cB 10 0 0 i d
 have hd := hh.ds d (List.mem_cons_self ..)
 have hl : R.length + 1 <= 100 := h8
 have hdue := hh.du (by simp)
 have hq := hh.due
 refine Sp.via (Ej p v.lr v.ob v.oo v.oc v.line v.gm v.p10 v.q10 v.g10 (v.c 0) (v.c 1) (v.c 2) (v.c 3) (v.c 4) (Sk rb ro (bL n) rc) v.tos n hn bg P sm v.t id i v.since v.lat v.seen v.cnt v.cur v.free now a T v.w hh.bp hh.due R d hh.tt (by omega) ⟨by omega, by omega, by omega, by omega, by omega, by omega, by omega, by omega, by omega, by omega, by omega, by omega, by omega, by omega, by omega, by omega, by omega, hd⟩) (Ent.trans Ent.take (TxL.fold { v with t := 1, since := T, lat := T, seen := T, cnt := v.cnt + 1, cur := a, free := (T + (((aL 10 0 0 i d).size : Int) + 20)), w := true } ⟨?_, by omega, by omega⟩))
 exact { bp := hh.bp, due := .inr ⟨rfl, rfl, by dsimp only; omega, by dsimp only; omega, by dsimp only; omega, by dsimp only; omega⟩, nw := by omega, cr := Int.le_refl _, sn := by have := hh.sn; dsimp only; omega, du := fun e => by omega, fr := by dsimp only; omega, se := by dsimp only; omega, cn := by dsimp only; omega, ii := by omega, tt := .inr rfl, rl := by omega, ds := fun e he => hh.ds e (List.mem_cons_of_mem _ he), fresh := fun e => by omega }
theorem Ib (p n rb ro rc : Nat) (hn : n = 1 \/ n = 2 \/ n = 3) (sm bg P id i now T a : Int) (R : List ByteArray) (k : Int) (x0 x1 : ByteArray) (xb xe : Int) (h : now <= a /\ a <= 10000000) (hx : xe <= a /\ a < xe + 60) : FSpec Tryz.prog 162 #[Pt p 0, I a] (TxL p n rb ro rc sm bg P id i now T R k x0 x1 xb xe) (fun _ : Nat × Nat × Nat => True) (fun y => .tuple #[Sk y.1 y.2.1 1 y.2.2, I 0]) (fun y => (aa ((TxQ p n rb ro rc sm bg P id i a T R)) (Ow 299 5 (Sk y.1 y.2.1 1 y.2.2) 1 [I 10, I xb, I xe, .string x0, .string x1]))) := by
 refine FSpec.ex fun v =>aO fun hH => ?_
 obtain ⟨hh, hi1, hxe⟩ := hH
 have h1 := hh.nw; have h2 := hh.cr; have h3 := hh.fr; have h4 := hh.se; have h5 := hh.cn; have h6 := hh.ii; have h7 := hh.bp; have h8 := hh.rl
 refine FSpec.via (Em p v.lr v.ob v.oo v.oc v.line v.gm v.p10 v.q10 v.g10 (v.c 0) (v.c 1) (v.c 2) (v.c 3) (v.c 4) (Sk rb ro (bL n) rc) v.tos n hn bg P sm v.t id i v.since v.lat v.seen v.cnt v.cur v.free now a T v.w hh.bp hh.due R x0 x1 k xb xe ⟨by omega, by omega, by omega, by omega, by omega, by omega⟩ (.inr (by omega))) fun y =>Ent.trans (dH (Q := (aa (am p [v.c 0, v.c 1, v.c 2, v.c 3, v.c 4, Sk rb ro (bL n) rc, I 0, Mp v.lr, Sk v.ob v.oo n v.oc, Pt v.line 0, I a, I id, Mp v.gm, I i, Ns] 263) (aa (LkP n v.lr v.ob v.oo v.oc v.p10) (aa (am v.p10 [I 10, I 0, I bg, I sm, Ff, I 2, I 60000, v.tos, Pt v.q10 0, Pt v.g10 0, I i, I v.since] 269) (aa (SubP v.q10 R v.t) (aa (am v.g10 [.int .u64 bg, .bool v.w, I v.lat, I v.seen, I v.cnt] 330) (aa (LineP v.line [] a v.free) (az v.gm .i64 (fun _ => none)))))))))) ?_
 refine Ent.trans (Ent.frame (TxQ.fold (P := P) (T := T) { v with cur := a } ?_) _) Ent.take
 exact { hh with nw := by omega, cr := Int.le_refl _, sn := by have := hh.sn; dsimp only; omega, du := fun e => by omega }
theorem iK {m : ByteArray} (h : bY id sm m) (d : ByteArray) (hd : d ∈ dq id sm m) : d.size <= 1000 /\ (d.size : Int) + 19 <= sm := by
 obtain ⟨x, hx, rfl⟩ := List.mem_map.1 hd
 obtain ⟨i, hi⟩ := List.mem_iff_getElem?.1 hx
 have h1 := wS h hi
 have h2 := lA x
 unfold bY at h
 omega
theorem IP (p n rb ro rc : Nat) (hn : n = 1 \/ n = 2 \/ n = 3) (sm bg P id i now T a : Int) (m : ByteArray) (hm : bY id sm m) (h : now <= a /\ a <= 10000000) (hi : i = 0) : Go.SLA.Sp Tryz.prog 176 #[Pt p 0, I a, I 10, .string m] (aa (TxQ p n rb ro rc sm bg P id i now T []) (cE n rb ro rc)) (I 0) (aa (TxQ p n rb ro rc sm bg P (id + 1) i a a ([] ++ dq id sm m)) (cE n rb ro rc)) := by
 refine cC fun v =>FSpec.eq _ (ak _ _ _)<|aO fun hh => ?_
 have h1 := hh.nw; have h2 := hh.cr; have h3 := hh.fr; have h4 := hh.se; have h5 := hh.cn; have h6 := hh.ii; have h7 := hh.bp; have h8 := hh.rl
 have hpl := eT hm
 have hps : ∀ d, d ∈ dq id sm m -> d.size <= 1000 := fun d hd => (iK hm d hd).1
 have hw := hh.fresh hi
 have hd := hh.due
 have hTn : T <= now := by have := hh.sn; rcases hd with hd | hd; omega; rw [hw] at hd; exact absurd hd.1 (by decide)
 refine Sp.via (Hy p rb ro rc v.lr v.ob v.oo v.oc v.line v.gm v.p10 v.q10 v.g10 (v.c 0) (v.c 1) (v.c 2) (v.c 3) (v.c 4) v.tos n hn bg P sm v.t id i v.since v.lat v.seen v.cnt v.cur v.free now a T v.w hh.bp hh.due m hm (fun _ => none) [] ⟨by omega, by omega, by omega, by omega, by omega⟩ (by simp) (fun s hs => by cases hs))<|Ent.trans (Ent.take (Q := (aa ((aa (am p [v.c 0, v.c 1, v.c 2, v.c 3, v.c 4, Sk rb ro (bL n) rc, I 0, Mp v.lr, Sk v.ob v.oo n v.oc, Pt v.line 0, I a, I (id + 1), Mp v.gm, I i, Ns] 263) (aa (LkP n v.lr v.ob v.oo v.oc v.p10) (aa (am v.p10 [I 10, I 0, I bg, I sm, Ff, I 2, I 60000, v.tos, Pt v.q10 0, Pt v.g10 0, I i, I a] 269) (aa (SubP v.q10 ([] ++ dq id sm m) v.t) (aa (am v.g10 [.int .u64 bg, .bool v.w, I v.lat, I v.seen, I v.cnt] 330) (aa (LineP v.line [] a v.free) (az v.gm .i64 (fun _ => none))))))))) (cE n rb ro rc)))) ?_
 have hd2 : k7 P v.w v.lat a a := by
  rcases hd with hd | hd
  ·exact .inl ⟨hd.1, hd.2.1, rfl⟩
  ·rw [hw] at hd; exact absurd hd.1 (by decide)
 refine Ent.frame (TxQ.fold { v with cur := a, since := a } ?_) _
 exact { hh with due := hd2, nw := by omega, cr := Int.le_refl _, sn := by have := hh.sn; dsimp only; omega, du := fun _ => Int.le_refl _, fr := by dsimp only; omega, se := by dsimp only; omega, rl := by simp; omega, ds := fun e he => hps e (by simpa using he) }
theorem IN (p n rb ro rc : Nat) (hn : n = 1 \/ n = 2 \/ n = 3) (sm bg P id i now T a : Int) (m : ByteArray) (hm : bY id sm m) (R : List ByteArray) (d : ByteArray) (h : now <= a /\ a <= 10000000) (hT : T <= a /\ a < T + 64) (hi : i <= 80) (hR : R.length <= 90) : Go.SLA.Sp Tryz.prog 176 #[Pt p 0, I a, I 10, .string m] (aa (TxQ p n rb ro rc sm bg P id i now T (d :: R)) (cE n rb ro rc)) (I 0) (aa (TxL p n rb ro rc sm bg P (id + 1) (i + 1) a (T + P) (R ++ dq id sm m) i (aL 10 0 0 i d) (aL 10 0 1 i d) T (T + (((aL 10 0 0 i d).size : Int) + 20))) (cE n rb ro rc)) := by
 refine cC fun v =>FSpec.eq _ (ak _ _ _)<|aO fun hh => ?_
 have h1 := hh.nw; have h2 := hh.cr; have h3 := hh.fr; have h4 := hh.se; have h5 := hh.cn; have h6 := hh.ii; have h7 := hh.bp; have h8 := hh.rl
 have hpl := eT hm
 have hps : ∀ d, d ∈ dq id sm m -> d.size <= 1000 := fun d hd => (iK hm d hd).1
 have hz := cB 10 0 0 i d
 have hd := hh.ds d (List.mem_cons_self ..)
 have hq := hh.due
 have hdue := hh.du (by simp)
 rcases R with _ | ⟨d2, R⟩
 ·refine Sp.via (Hv p rb ro rc v.lr v.ob v.oo v.oc v.line v.gm v.p10 v.q10 v.g10 (v.c 0) (v.c 1) (v.c 2) (v.c 3) (v.c 4) v.tos n hn bg P sm v.t id i v.since v.lat v.seen v.cnt v.cur v.free now a T v.w hh.bp hh.due m hm d hh.tt ⟨by omega, by omega, by omega, by omega, by omega, by omega, by omega, by omega, by omega, by omega, by omega, by omega, by omega, by omega, by omega, by omega, by omega, hd⟩) ?_
  refine Ent.trans (Ent.take (Q := (aa ((aa (am p [v.c 0, v.c 1, v.c 2, v.c 3, v.c 4, Sk rb ro (bL n) rc, I 0, Mp v.lr, Sk v.ob v.oo n v.oc, Pt v.line 0, I a, I (id + 1), Mp v.gm, I (i + 1), Ns] 263) (aa (LkP n v.lr v.ob v.oo v.oc v.p10) (aa (am v.p10 [I 10, I 0, I bg, I sm, Ff, I 2, I 60000, v.tos, Pt v.q10 0, Pt v.g10 0, I (i + 1), I a] 269) (aa (SubP v.q10 ([] ++ dq id sm m) 1) (aa (am v.g10 [.int .u64 bg, Tt, I T, I T, I (v.cnt + 1)] 330) (aa (LineP v.line [⟨i, (aL 10 0 0 i d), T, (T + (((aL 10 0 0 i d).size : Int) + 20))⟩] a (T + (((aL 10 0 0 i d).size : Int) + 20))) (az v.gm .i64 (fun m' => if m' = i then some (.agg [I 10, I 0, I 0, .string (aL 10 0 0 i d), .string (aL 10 0 1 i d)].toArray) else none))))))))) (cE n rb ro rc)))) ?_
  refine Ent.frame (TxL.fold { v with t := 1, since := a, lat := T, seen := T, cnt := v.cnt + 1, cur := a, free := (T + (((aL 10 0 0 i d).size : Int) + 20)), w := true } ?_) _
  exact ⟨{ bp := hh.bp, due := .inr ⟨rfl, rfl, by dsimp only; omega, by dsimp only; omega, by dsimp only; omega, by dsimp only; omega⟩, nw := by omega, cr := Int.le_refl _, sn := by have := hh.sn; dsimp only; omega, du := fun e => by omega, fr := by dsimp only; omega, se := by dsimp only; omega, cn := by dsimp only; omega, ii := by omega, tt := .inr rfl, rl := by simp; omega, ds := fun e he => by exact hps e (by simpa using he), fresh := fun e => by omega }, by omega, by omega⟩
 ·refine Sp.via (Ht p rb ro rc v.lr v.ob v.oo v.oc v.line v.gm v.p10 v.q10 v.g10 (v.c 0) (v.c 1) (v.c 2) (v.c 3) (v.c 4) v.tos n hn bg P sm v.t id i v.since v.lat v.seen v.cnt v.cur v.free now a T v.w hh.bp hh.due m hm (d2 :: R) d hh.tt (by omega) ⟨by omega, by omega, by omega, by omega, by omega, by omega, by omega, by omega, by omega, by omega, by omega, by omega, by omega, by omega, by omega, by omega, by omega, hd, by simp, by omega⟩) ?_
  refine Ent.trans (Ent.take (Q := (aa ((aa (am p [v.c 0, v.c 1, v.c 2, v.c 3, v.c 4, Sk rb ro (bL n) rc, I 0, Mp v.lr, Sk v.ob v.oo n v.oc, Pt v.line 0, I a, I (id + 1), Mp v.gm, I (i + 1), Ns] 263) (aa (LkP n v.lr v.ob v.oo v.oc v.p10) (aa (am v.p10 [I 10, I 0, I bg, I sm, Ff, I 2, I 60000, v.tos, Pt v.q10 0, Pt v.g10 0, I (i + 1), I T] 269) (aa (SubP v.q10 (d2 :: R ++ dq id sm m) 1) (aa (am v.g10 [.int .u64 bg, Tt, I T, I T, I (v.cnt + 1)] 330) (aa (LineP v.line [⟨i, (aL 10 0 0 i d), T, (T + (((aL 10 0 0 i d).size : Int) + 20))⟩] a (T + (((aL 10 0 0 i d).size : Int) + 20))) (az v.gm .i64 (fun m' => if m' = i then some (.agg [I 10, I 0, I 0, .string (aL 10 0 0 i d), .string (aL 10 0 1 i d)].toArray) else none))))))))) (cE n rb ro rc)))) ?_
  refine Ent.frame (TxL.fold { v with t := 1, since := T, lat := T, seen := T, cnt := v.cnt + 1, cur := a, free := (T + (((aL 10 0 0 i d).size : Int) + 20)), w := true } ?_) _
  exact ⟨{ bp := hh.bp, due := .inr ⟨rfl, rfl, by dsimp only; omega, by dsimp only; omega, by dsimp only; omega, by dsimp only; omega⟩, nw := by omega, cr := Int.le_refl _, sn := by have := hh.sn; dsimp only; omega, du := fun e => by omega, fr := by dsimp only; omega, se := by dsimp only; omega, cn := by dsimp only; omega, ii := by omega, tt := .inr rfl, rl := by rw [List.length_append]; omega, ds := fun e he => by rcases List.mem_append.1 he with he | he; exact hh.ds e (List.mem_cons_of_mem _ he); exact hps e he, fresh := fun e => by omega }, by omega, by omega⟩
theorem IM (p n rb ro rc : Nat) (hn : n = 1 \/ n = 2 \/ n = 3) (sm bg P id i now T a : Int) (m : ByteArray) (hm : bY id sm m) (R : List ByteArray) (k : Int) (x0 x1 : ByteArray) (xb xe : Int) (h : now <= a /\ a <= 10000000) (hx : a < xe) (hR : R ≠ [] /\ R.length <= 90) : Go.SLA.Sp Tryz.prog 176 #[Pt p 0, I a, I 10, .string m] (aa (TxL p n rb ro rc sm bg P id i now T R k x0 x1 xb xe) (cE n rb ro rc)) (I 0) (aa (TxL p n rb ro rc sm bg P (id + 1) i a T (R ++ dq id sm m) k x0 x1 xb xe) (cE n rb ro rc)) := by
 refine cC fun v =>FSpec.eq _ (ak _ _ _)<|aO fun hH => ?_
 obtain ⟨hh, hi1, hxe⟩ := hH
 have h1 := hh.nw; have h2 := hh.cr; have h3 := hh.fr; have h4 := hh.se; have h5 := hh.cn; have h6 := hh.ii; have h7 := hh.bp; have h8 := hh.rl
 have hpl := eT hm
 have hps : ∀ d, d ∈ dq id sm m -> d.size <= 1000 := fun d hd => (iK hm d hd).1
 have hl : 0 < R.length := List.length_pos_iff.2 hR.1
 refine Sp.via (Hx p rb ro rc v.lr v.ob v.oo v.oc v.line v.gm v.p10 v.q10 v.g10 (v.c 0) (v.c 1) (v.c 2) (v.c 3) (v.c 4) v.tos n hn bg P sm v.t id i v.since v.lat v.seen v.cnt v.cur v.free now a T v.w hh.bp hh.due m hm R (fun _ => none) [⟨k, x0, xb, xe⟩] ⟨by omega, by omega, by omega, by omega, by omega, by omega, by omega, by omega⟩ (by simp) (fun s hs => by rw [List.mem_singleton.1 hs]; exact hx))<|Ent.trans (Ent.take (Q := (aa ((aa (am p [v.c 0, v.c 1, v.c 2, v.c 3, v.c 4, Sk rb ro (bL n) rc, I 0, Mp v.lr, Sk v.ob v.oo n v.oc, Pt v.line 0, I a, I (id + 1), Mp v.gm, I i, Ns] 263) (aa (LkP n v.lr v.ob v.oo v.oc v.p10) (aa (am v.p10 [I 10, I 0, I bg, I sm, Ff, I 2, I 60000, v.tos, Pt v.q10 0, Pt v.g10 0, I i, I v.since] 269) (aa (SubP v.q10 (R ++ dq id sm m) v.t) (aa (am v.g10 [.int .u64 bg, .bool v.w, I v.lat, I v.seen, I v.cnt] 330) (aa (LineP v.line [⟨k, x0, xb, xe⟩] a v.free) (az v.gm .i64 (fun m' => if m' = k then some (.agg [I 10, I 0, I 0, .string x0, .string x1].toArray) else none))))))))) (cE n rb ro rc)))) ?_
 refine Ent.frame (TxL.fold { v with cur := a } ?_) _
 refine ⟨{ hh with nw := by omega, cr := Int.le_refl _, sn := by have := hh.sn; dsimp only; omega, du := fun e => by omega, rl := by rw [List.length_append]; omega, ds := fun e he => ?_ }, hi1, hxe⟩
 rcases List.mem_append.1 he with he | he
 ·exact hh.ds e he
 ·exact hps e he
end Sp
end
section
namespace Sp
open Mq
structure CfA where
 pb : Nat
 po : Nat
 pc : Nat
 wb : Nat
 wo : Nat
 wc : Nat
 rb : Nat
 ro : Nat
 rc : Nat
 vl : Value
def gT (z : CfA) (n : Nat) : ab := (aa (Ow 3 1 (Sk z.pb z.po 3 z.pc) 3 [I 0, I 1, I 2]) (aa (Ow 149 3 (Sk z.wb z.wo 3 z.wc) 3 [I 0, I 0, I 1000, I 1, I 0, I 1000, I 2, I 0, I 1000]) (cE n z.rb z.ro z.rc)))
structure KrV where
 tx : Nat
 rx : Nat
 rm : Nat
 md : Nat
 fm : Int -> Option Value
 kn : Int
def KrP (k : Nat) (z : CfA) (n : Nat) (host nn : Int) (m0 m1 : Option Value) (A : Nat -> ab) (B : Nat -> Nat -> ab) : ab := ex fun v : KrV => (aa (SLA.lift (v.kn <= nn /\ v.fm 0 = m0 /\ v.fm 1 = m1)) ((aa (am k [I 3, Sk z.pb z.po 3 z.pc, I 1000, Sk z.wb z.wo 3 z.wc, z.vl, Sk z.rb z.ro (bL n) z.rc, I host, Pt v.tx 0, Pt v.rx 0, Pt v.rm 0, Mp v.md, I v.kn] 218) (aa (az v.md .i64 (v.fm)) (aa (A v.tx) (B v.rx v.rm))))))
theorem KrP.fold {k : Nat} {z : CfA} {n : Nat} {host nn : Int} {m0 m1 : Option Value} {A : Nat -> ab} {B : Nat -> Nat -> ab} (v : KrV) (h : v.kn <= nn /\ v.fm 0 = m0 /\ v.fm 1 = m1) : Ent ((aa (am k [I 3, Sk z.pb z.po 3 z.pc, I 1000, Sk z.wb z.wo 3 z.wc, z.vl, Sk z.rb z.ro (bL n) z.rc, I host, Pt v.tx 0, Pt v.rx 0, Pt v.rm 0, Mp v.md, I v.kn] 218) (aa (az v.md .i64 (v.fm)) (aa (A v.tx) (B v.rx v.rm))))) (KrP k z n host nn m0 m1 A B) := Ent.trans (Ent.lift h) (bh (f := fun v : KrV => (aa (SLA.lift (v.kn <= nn /\ v.fm 0 = m0 /\ v.fm 1 = m1)) ((aa (am k [I 3, Sk z.pb z.po 3 z.pc, I 1000, Sk z.wb z.wo 3 z.wc, z.vl, Sk z.rb z.ro (bL n) z.rc, I host, Pt v.tx 0, Pt v.rx 0, Pt v.rm 0, Mp v.md, I v.kn] 218) (aa (az v.md .i64 (v.fm)) (aa (A v.tx) (B v.rx v.rm))))))) v)
def TxN (p : Nat) (nn : Int) : ab := ex fun y : (Nat -> Value) × Nat × Int × Int × Int => (aa (SLA.lift (0 <= y.2.2.1 /\ y.2.2.1 <= nn /\ y.2.2.2.1 <= nn)) (aa (am p [y.1 0, y.1 1, y.1 2, y.1 3, y.1 4, y.1 5, y.1 6, y.1 7, Ns, Pt y.2.1 0, I y.2.2.1, y.1 8, y.1 9, y.1 10, Ns] 263) (LineP y.2.1 [] y.2.2.2.1 y.2.2.2.2)))
theorem BT (p : Nat) (nn a : Int) (h : nn <= a /\ a <= 10000000) : Go.SLA.Sp prog 162 #[Pt p 0, I a] (TxN p nn) (.tuple #[Ns, I 0]) (TxN p a) := by
 refine FSpec.ex fun y =>aO fun hh => ?_
 obtain ⟨c, l, now, cur, free⟩ := y
 dsimp only at hh ⊢
 refine (El p l (c 0) (c 1) (c 2) (c 3) (c 4) (c 5) (c 6) (c 7) (c 8) (c 9) (c 10) cur free now a ⟨by omega, by omega, by omega, by omega, by omega⟩).conseq (ah _) fun _ _ => ⟨(), trivial, rfl, ?_⟩
 exact Ent.trans (Ent.lift (show 0 <= a /\ a <= a /\ a <= a by omega)) (bh (f := fun y : (Nat -> Value) × Nat × Int × Int × Int => (aa (SLA.lift (0 <= y.2.2.1 /\ y.2.2.1 <= a /\ y.2.2.2.1 <= a)) (aa (am p [y.1 0, y.1 1, y.1 2, y.1 3, y.1 4, y.1 5, y.1 6, y.1 7, Ns, Pt y.2.1 0, I y.2.2.1, y.1 8, y.1 9, y.1 10, Ns] 263) (LineP y.2.1 [] y.2.2.2.1 y.2.2.2.2)))) (c, l, a, a, free))
abbrev _root_.Go.qq23 (a : CfA) (b : Nat) := Sk a.rb a.ro (bL b) a.rc
theorem yN (k : Nat) (z : CfA) (n : Nat) (host nn a : Int) (m0 m1 : Option Value) (A : Nat -> ab) (B : Nat -> Nat -> ab) (A' : Nat -> ab) (h : nn <= a /\ 0 <= a /\ a <= 10000000) (hA : ∀ tx, Go.SLA.Sp prog 162 #[Pt tx 0, I a] (A tx) (.tuple #[Ns, I 0]) (A' tx)) : Go.SLA.Sp prog 135 #[Pt k 0, I a] (KrP k z n host nn m0 m1 A B) (.tuple #[Ns, I 0]) (KrP k z n host a m0 m1 A' B) := by
 refine FSpec.ex fun v =>aO fun hh =>Sp.via (Ft k (I 3) (Sk z.pb z.po 3 z.pc) (I 1000) (Sk z.wb z.wo 3 z.wc) z.vl (qq23 z n) (I host) (Pt v.rx 0) (Pt v.rm 0) (Mp v.md) v.tx v.kn a (A v.tx) ⟨by omega, h.2⟩ (A' v.tx) (hA v.tx)) ?_
 exact Ent.trans Ent.take (KrP.fold { v with kn := a } ⟨Int.le_refl _, hh.2⟩)
theorem DU (k : Nat) (z : CfA) (n : Nat) (host nn a : Int) (m0 m1 : Option Value) (A : Nat -> ab) (B : Nat -> Nat -> ab) (A' : Nat -> ab) (L : List Value) (h : nn <= a /\ 0 <= a /\ a <= 10000000) (hA : ∀ tx, FSpec prog 162 #[Pt tx 0, I a] (A tx) (fun _ : Nat × Nat × Nat => True) (fun y => .tuple #[Sk y.1 y.2.1 1 y.2.2, I 0]) (fun y => (aa (A' tx) (Ow 299 5 (Sk y.1 y.2.1 1 y.2.2) 1 L)))) : FSpec prog 135 #[Pt k 0, I a] (KrP k z n host nn m0 m1 A B) (fun _ : Nat × Nat × Nat => True) (fun y => .tuple #[Sk y.1 y.2.1 1 y.2.2, I 0]) (fun y => (aa ((KrP k z n host a m0 m1 A' B)) (Ow 299 5 (Sk y.1 y.2.1 1 y.2.2) 1 L))) := by
 refine FSpec.ex fun v =>aO fun hh =>FSpec.via (Fs k (I 3) (Sk z.pb z.po 3 z.pc) (I 1000) (Sk z.wb z.wo 3 z.wc) z.vl (qq23 z n) (I host) (Pt v.rx 0) (Pt v.rm 0) (Mp v.md) v.tx v.kn a (A v.tx) ⟨by omega, h.2⟩ L (A' v.tx) (hA v.tx)) fun y =>Ent.trans (dH (Q := (aa (am k [I 3, Sk z.pb z.po 3 z.pc, I 1000, Sk z.wb z.wo 3 z.wc, z.vl, Sk z.rb z.ro (bL n) z.rc, I host, Pt v.tx 0, Pt v.rx 0, Pt v.rm 0, Mp v.md, I a] 218) (aa (az v.md .i64 (v.fm)) (aa (A' v.tx) (B v.rx v.rm)))))) ?_
 exact Ent.trans (Ent.frame (KrP.fold (m0 := m0) (m1 := m1) (A := A') { v with kn := a } ⟨Int.le_refl _, hh.2⟩) _) Ent.take
abbrev _root_.Go.qq1 (a : CfA) (b : Nat) := aa (Ow 3 1 (Sk a.pb a.po 3 a.pc) 3 [I 0, I 1, I 2]) (aa (Ow 149 3 (Sk a.wb a.wo 3 a.wc) 3 [I 0, I 0, I 1000, I 1, I 0, I 1000, I 2, I 0, I 1000]) (cE b a.rb a.ro a.rc))
abbrev _root_.Go.qq25 : Value := .agg [I 0, Z, Ff, I 0].toArray
theorem AY (k : Nat) (z : CfA) (n : Nat) (nn a : Int) (A : Nat -> ab) (B : Nat -> Nat -> ab) (h : nn <= a /\ 0 <= a /\ a <= 10000000) : Go.SLA.Sp prog 64 #[Pt k 0, I a, I 0, .agg [I 4, I 0, Z, I 3].toArray] (aa (KrP k z n 0 nn (some (I 1)) none A B) (gT z n)) qq25 (aa (KrP k z n 0 a (some (I 3)) none A B) (gT z n)) := by
 refine cC fun v =>FSpec.eq _ (ak _ _ _)<|aO fun hh =>FSpec.eq _ (show _ = (aa (_) ((qq1 z n))) from rfl)<|Sp.via (Fq k z.wb z.wo z.wc v.md (I 3) (Sk z.pb z.po 3 z.pc) z.vl (qq23 z n) (Pt v.tx 0) (Pt v.rx 0) (Pt v.rm 0) v.kn a v.fm ⟨by omega, h.2⟩ hh.2.1) ?_
 exact Ent.trans (Ent.take (Q := (aa ((aa (am k [I 3, Sk z.pb z.po 3 z.pc, I 1000, Sk z.wb z.wo 3 z.wc, z.vl, Sk z.rb z.ro (bL n) z.rc, I 0, Pt v.tx 0, Pt v.rx 0, Pt v.rm 0, Mp v.md, I a] 218) (aa (az v.md .i64 (fun m' => if m' = 0 then some (I 3) else v.fm m')) (aa (A v.tx) (B v.rx v.rm))))) ((qq1 z n))))) (Ent.frame (KrP.fold { v with kn := a, fm := fun m' => if m' = 0 then some (I 3) else v.fm m' } ⟨Int.le_refl _, rfl, hh.2.2⟩) _)
theorem AX (k : Nat) (z : CfA) (n : Nat) (nn a : Int) (A : Nat -> ab) (B : Nat -> Nat -> ab) (h : nn <= a /\ 0 <= a /\ a <= 10000000) : Go.SLA.Sp prog 64 #[Pt k 0, I a, I 1, .agg [I 4, I 0, Z, I 3].toArray] (aa (KrP k z n 1 nn none (some (I 1)) A B) (gT z n)) qq25 (aa (KrP k z n 1 a none (some (I 3)) A B) (gT z n)) := by
 refine cC fun v =>FSpec.eq _ (ak _ _ _)<|aO fun hh =>FSpec.eq _ (show _ = (aa (_) ((qq1 z n))) from rfl)<|Sp.via (Cr k z.wb z.wo z.wc v.md (I 3) (Sk z.pb z.po 3 z.pc) z.vl (qq23 z n) (Pt v.tx 0) (Pt v.rx 0) (Pt v.rm 0) v.kn a v.fm ⟨by omega, h.2⟩ hh.2.2 hh.2.1) ?_
 exact Ent.trans (Ent.take (Q := (aa ((aa (am k [I 3, Sk z.pb z.po 3 z.pc, I 1000, Sk z.wb z.wo 3 z.wc, z.vl, Sk z.rb z.ro (bL n) z.rc, I 1, Pt v.tx 0, Pt v.rx 0, Pt v.rm 0, Mp v.md, I a] 218) (aa (az v.md .i64 (fun m' => if m' = 1 then some (I 3) else v.fm m')) (aa (A v.tx) (B v.rx v.rm))))) ((qq1 z n))))) (Ent.frame (KrP.fold { v with kn := a, fm := fun m' => if m' = 1 then some (I 3) else v.fm m' } ⟨Int.le_refl _, hh.2.1, rfl⟩) _)
abbrev _root_.Go.qq3 (a : Nat) (b : CfA) := cE a b.rb b.ro b.rc
abbrev _root_.Go.qq47 (a : ByteArray) : List Value := [I 1, I 10, .string a, I 0]
theorem qS (k : Nat) (z : CfA) (n : Nat) (nn a : Int) (A : Nat -> ab) (B : Nat -> Nat -> ab) (hn : n = 1 \/ n = 2 \/ n = 3) (A' : Nat -> ab) (m : ByteArray) (e : Int) (h : nn <= a /\ 0 <= a /\ a <= 10000000) (hS : ∀ tx, Go.SLA.Sp prog 176 #[Pt tx 0, I a, I 10, .string m] (aa (A tx) (qq3 n z)) (I e) (aa (A' tx) (qq3 n z))) : Go.SLA.Sp prog 64 #[Pt k 0, I a, I 0, .agg (qq47 m).toArray] (aa (KrP k z n 0 nn (some (I 3)) none A B) (gT z n)) (.agg [I e, Z, Ff, I 0].toArray) (aa (KrP k z n 0 a (some (I 3)) none A' B) (gT z n)) := by
 refine cC fun v =>FSpec.eq _ (ak _ _ _)<|aO fun hh =>FSpec.eq _ (show _ = (aa (_) ((qq1 z n))) from rfl)<|Sp.via (HS k z.wb z.wo z.wc v.md (I 3) (Sk z.pb z.po 3 z.pc) z.vl (Pt v.rx 0) (Pt v.rm 0) v.tx n hn v.kn a v.fm ⟨by omega, h.2⟩ hh.2.1 m e (A v.tx) (A' v.tx) z.rb z.ro z.rc (hS v.tx)) ?_
 exact Ent.trans (Ent.take (Q := (aa ((aa (am k [I 3, Sk z.pb z.po 3 z.pc, I 1000, Sk z.wb z.wo 3 z.wc, z.vl, Sk z.rb z.ro (bL n) z.rc, I 0, Pt v.tx 0, Pt v.rx 0, Pt v.rm 0, Mp v.md, I a] 218) (aa (az v.md .i64 (v.fm)) (aa (A' v.tx) (B v.rx v.rm))))) ((qq1 z n))))) (Ent.frame (KrP.fold (A := A') { v with kn := a } ⟨Int.le_refl _, hh.2⟩) _)
theorem DV (k : Nat) (z : CfA) (n : Nat) (nn a : Int) (A : Nat -> ab) (hn : n = 1 \/ n = 2 \/ n = 3) (C C' : Nat -> ab) (m : ByteArray) (e : Int) (h : nn <= a /\ 0 <= a /\ a <= 10000000) (hN : ∀ rm, Go.SLA.Sp prog 178 #[Pt rm 0, I 20] (C rm) (.tuple #[.string m, Ff, I e]) (C' rm)) (X : Nat -> ab) : Go.SLA.Sp prog 64 #[Pt k 0, I a, I 1, .agg [I 3, I 20, Z, I 0].toArray] (aa (KrP k z n 1 nn none (some (I 3)) A (fun rx rm => (aa (X rx) (C rm)))) (gT z n)) (.agg [I e, .string m, Ff, I 0].toArray) (aa (KrP k z n 1 a none (some (I 3)) A (fun rx rm => (aa (X rx) (C' rm)))) (gT z n)) := by
 refine cC fun v =>FSpec.eq _ (ak _ _ _)<|aO fun hh =>FSpec.eq _ (show _ = (aa (_) ((qq1 z n))) from rfl)<|Sp.via (Fl k z.wb z.wo z.wc z.rb z.ro z.rc v.md (I 3) (Sk z.pb z.po 3 z.pc) z.vl (Pt v.tx 0) (Pt v.rx 0) v.rm n hn v.kn a v.fm ⟨by omega, h.2⟩ hh.2.2 hh.2.1 m e (C v.rm) (C' v.rm) (hN v.rm)) ?_
 exact Ent.trans (Ent.take (Q := (aa ((aa (am k [I 3, Sk z.pb z.po 3 z.pc, I 1000, Sk z.wb z.wo 3 z.wc, z.vl, Sk z.rb z.ro (bL n) z.rc, I 1, Pt v.tx 0, Pt v.rx 0, Pt v.rm 0, Mp v.md, I a] 218) (aa (az v.md .i64 (v.fm)) (aa (A v.tx) ((fun rx rm => (aa (X rx) (C' rm))) v.rx v.rm))))) ((qq1 z n))))) (Ent.frame (KrP.fold (B := fun rx rm => (aa (X rx) (C' rm))) { v with kn := a } ⟨Int.le_refl _, hh.2⟩) _)
def BxP (z : CfA) (n : Nat) (sm i nn : Int) (T : TS) (rows : List ByteArray) (rx rm : Nat) : ab := (aa ((ex fun xn : Int => (aa (SLA.lift (0 <= xn /\ xn <= nn)) (RxP rx n z.rb z.ro z.rc sm i xn T)))) (RmP rm rows))
def sR (z : CfA) (n : Nat) (sm i a : Int) (T : TS) (rows : List ByteArray) (rx rm : Nat) : ab := (aa (RxP1 rx n z.rb z.ro z.rc sm i a T) (RmP rm rows))
theorem G3 (k : Nat) (z : CfA) (n : Nat) (hn : n = 1 \/ n = 2 \/ n = 3) (nn a sm i : Int) (m0 m1 : Option Value) (A : Nat -> ab) (d : ByteArray) (T T' : TS) (rows : List ByteArray) (pid po : Int) (pm : Bool) (pd : ByteArray) (hz : ((aL 10 0 0 i d).size : Int) <= sm) (h : nn <= a /\ 0 <= a /\ a <= 10000000) (hi : 0 <= i /\ i <= 90 /\ d.size <= 1000) (hD : Go.SLA.Sp prog 14 #[.string (d ++ fL (45 - d.size))] emp (.tuple #[.agg (qq6 pid pm po pd).toArray, I 0]) emp) (hP : ∀ tp : Nat, Go.SLA.Sp prog 15 #[Pt tp 0, I a, .agg (qq6 pid pm po pd).toArray] (TabP tp 64 1099511627776 T) qq9 (TabP tp 64 1099511627776 T')) : Go.SLA.Sp prog 138 #[Pt k 0, I a, I 0, .string (aL 10 0 0 i d)] (aa (KrP k z n 1 nn m0 m1 A (BxP z n sm i nn T rows)) (gT z n)) (I 0) (aa (KrP k z n 1 a m0 m1 A (sR z n sm i a T' rows)) (gT z n)) := by
 refine cC fun v =>FSpec.eq _ (ak _ _ _)<|aO fun hh =>FSpec.eq (aa ((ex fun xn : Int => (aa (SLA.lift (0 <= xn /\ xn <= nn)) (RxP v.rx n z.rb z.ro z.rc sm i xn T)))) (aa (am k [I 3, Sk z.pb z.po 3 z.pc, I 1000, Sk z.wb z.wo 3 z.wc, z.vl, Sk z.rb z.ro (bL n) z.rc, I 1, Pt v.tx 0, Pt v.rx 0, Pt v.rm 0, Mp v.md, I v.kn] 218) (aa (az v.md .i64 v.fm) (aa (A v.tx) (aa (RmP v.rm rows) (gT z n)))))) (by show (aa ((aa (_) (aa (_) (aa (_) ((aa (_) (_))))))) (_)) = _; ac_rfl)<|cC fun xn =>FSpec.eq _ (ak _ _ _)<|aO fun hx =>FSpec.eq (aa (RxP v.rx n z.rb z.ro z.rc sm i xn T) (aa (am k [I 3, Sk z.pb z.po 3 z.pc, I 1000, Sk z.wb z.wo 3 z.wc, z.vl, Sk z.rb z.ro (bL n) z.rc, I 1, Pt v.tx 0, Pt v.rx 0, Pt v.rm 0, Mp v.md, I v.kn] 218) (aa (az v.md .i64 v.fm) (aa (A v.tx) (aa (RmP v.rm rows) ((qq1 z n))))))) (by show (aa (_) (aa (_) (aa (_) (aa (_) (aa (_) ((aa (_) (aa (_) (_))))))))) = _; rfl)<|Sp.via (FA k v.tx v.rx v.rm v.md z.rb z.ro z.rc (I 3) (Sk z.pb z.po 3 z.pc) (I 1000) (Sk z.wb z.wo 3 z.wc) z.vl (qq23 z n) n hn sm v.kn xn a i d hz ⟨by omega, by omega, by omega, hi⟩ (by omega) pid po pm pd T T' hD hP)<|Ent.trans (Ent.take (Q := (aa ((aa (am k [I 3, Sk z.pb z.po 3 z.pc, I 1000, Sk z.wb z.wo 3 z.wc, z.vl, Sk z.rb z.ro (bL n) z.rc, I 1, Pt v.tx 0, Pt v.rx 0, Pt v.rm 0, Mp v.md, I a] 218) (aa (az v.md .i64 v.fm) (aa (A v.tx) ((aa (RxP1 v.rx n z.rb z.ro z.rc sm i a T') (RmP v.rm rows))))))) ((qq1 z n))))) ?_
 exact Ent.frame (KrP.fold (B := (sR z n sm i a T' rows)) { v with kn := a } ⟨Int.le_refl _, hh.2⟩) _
theorem G1 (k : Nat) (z : CfA) (n : Nat) (hn : n = 1 \/ n = 2 \/ n = 3) (nn a sm i : Int) (m0 m1 : Option Value) (A : Nat -> ab) (d : ByteArray) (T T' : TS) (rows : List ByteArray) (hrw : rows.length < 64) (pid po : Int) (pm : Bool) (pd dat m : ByteArray) (hz : ((aL 10 0 0 i d).size : Int) <= sm) (h : nn <= a /\ 0 <= a /\ a <= 10000000) (hi : 0 <= i /\ i <= 90 /\ d.size <= 1000) (hD : Go.SLA.Sp prog 14 #[.string (d ++ fL (45 - d.size))] emp (.tuple #[.agg (qq6 pid pm po pd).toArray, I 0]) emp) (hP : ∀ tp : Nat, Go.SLA.Sp prog 15 #[Pt tp 0, I a, .agg (qq6 pid pm po pd).toArray] (TabP tp 64 1099511627776 T) (qq49 pid dat) (TabP tp 64 1099511627776 T')) (hm : m.size <= 100) (hU : Go.SLA.Sp prog 16 #[.agg qq33.toArray, .agg qq27.toArray, .string dat] emp (qq16 m) emp) : Go.SLA.Sp prog 138 #[Pt k 0, I a, I 0, .string (aL 10 0 0 i d)] (aa (KrP k z n 1 nn m0 m1 A (BxP z n sm i nn T rows)) (gT z n)) (I 0) (aa (KrP k z n 1 a m0 m1 A (sR z n sm i a T' (rows ++ [m]))) (gT z n)) := by
 refine cC fun v =>FSpec.eq _ (ak _ _ _)<|aO fun hh =>FSpec.eq (aa ((ex fun xn : Int => (aa (SLA.lift (0 <= xn /\ xn <= nn)) (RxP v.rx n z.rb z.ro z.rc sm i xn T)))) (aa (am k [I 3, Sk z.pb z.po 3 z.pc, I 1000, Sk z.wb z.wo 3 z.wc, z.vl, Sk z.rb z.ro (bL n) z.rc, I 1, Pt v.tx 0, Pt v.rx 0, Pt v.rm 0, Mp v.md, I v.kn] 218) (aa (az v.md .i64 v.fm) (aa (A v.tx) (aa (RmP v.rm rows) (gT z n)))))) (by show (aa ((aa (_) (aa (_) (aa (_) ((aa (_) (_))))))) (_)) = _; ac_rfl)<|cC fun xn =>FSpec.eq _ (ak _ _ _)<|aO fun hx =>FSpec.eq (aa (RmP v.rm rows) ((aa (RxP v.rx n z.rb z.ro z.rc sm i xn T) (aa (am k [I 3, Sk z.pb z.po 3 z.pc, I 1000, Sk z.wb z.wo 3 z.wc, z.vl, Sk z.rb z.ro (bL n) z.rc, I 1, Pt v.tx 0, Pt v.rx 0, Pt v.rm 0, Mp v.md, I v.kn] 218) (aa (az v.md .i64 v.fm) (aa (A v.tx) ((qq1 z n)))))))) (by show (aa (_) (aa (_) (aa (_) (aa (_) (aa (_) (_)))))) = (aa (_) (aa (_) (aa (_) (aa (_) (aa (_) (gT z n)))))); ac_rfl)<|om fun mm rr fm io =>Sp.via (Fy k v.tx v.rx v.rm v.md z.rb z.ro z.rc mm (I 3) (Sk z.pb z.po 3 z.pc) (I 1000) (Sk z.wb z.wo 3 z.wc) z.vl (qq23 z n) n hn sm v.kn xn a i d hz ⟨by omega, by omega, by omega, hi⟩ (by omega) pid po pm pd dat m T T' hD hP hm hU rows hrw rr fm io)<|Ent.trans (Ent.take (Q := (aa (am v.rm [Mp mm] 289) (aa (az mm .i64 fm) (aa (jW rr (rows ++ [m])) ((aa (am k [I 3, Sk z.pb z.po 3 z.pc, I 1000, Sk z.wb z.wo 3 z.wc, z.vl, Sk z.rb z.ro (bL n) z.rc, I 1, Pt v.tx 0, Pt v.rx 0, Pt v.rm 0, Mp v.md, I a] 218) (aa (az v.md .i64 v.fm) (aa (A v.tx) (aa (RxP1 v.rx n z.rb z.ro z.rc sm i a T') ((qq1 z n))))))))))))<|Ent.trans (vV mm io) ?_
 refine Ent.trans (Ent.of ?_) (Ent.frame (KrP.fold (A := A) (B := (sR z n sm i a T' (rows ++ [m]))) (m0 := m0) (m1 := m1) { v with kn := a } ⟨Int.le_refl _, hh.2⟩) (gT z n))
 show (aa (_) ((aa (_) (aa (_) (aa (_) (aa (_) (gT z n))))))) = (aa ((aa (_) (aa (_) (aa (_) ((aa (_) (_))))))) (_))
 ac_rfl
theorem G2 (k : Nat) (z : CfA) (n : Nat) (hn : n = 1 \/ n = 2 \/ n = 3) (nn a sm i : Int) (m0 m1 : Option Value) (A : Nat -> ab) (d : ByteArray) (T : TS) (rows : List ByteArray) (hz : ((aL 10 0 1 i d).size : Int) <= sm) (h : nn <= a /\ 0 <= a /\ a <= 10000000) (hi : 0 <= i /\ i <= 90 /\ d.size <= 1000) : Go.SLA.Sp prog 138 #[Pt k 0, I a, I 1, .string (aL 10 0 1 i d)] (aa (KrP k z n 1 a m0 m1 A (sR z n sm i a T rows)) (gT z n)) (I 21) (aa (KrP k z n 1 a m0 m1 A (BxP z n sm (i + 1) a T rows)) (gT z n)) := by
 refine cC fun v =>FSpec.eq _ (ak _ _ _)<|aO fun hh =>FSpec.eq (aa (RxP1 v.rx n z.rb z.ro z.rc sm i a T) (aa (am k [I 3, Sk z.pb z.po 3 z.pc, I 1000, Sk z.wb z.wo 3 z.wc, z.vl, Sk z.rb z.ro (bL n) z.rc, I 1, Pt v.tx 0, Pt v.rx 0, Pt v.rm 0, Mp v.md, I v.kn] 218) (aa (az v.md .i64 v.fm) (aa (A v.tx) (aa (RmP v.rm rows) ((qq1 z n))))))) (by show (aa ((aa (_) (aa (_) (aa (_) ((aa (_) (_))))))) (_)) = (aa (_) (aa (_) (aa (_) (aa (_) (aa (_) (gT z n)))))); ac_rfl)<|Sp.via (Fz k v.tx v.rx v.rm v.md z.rb z.ro z.rc (I 3) (Sk z.pb z.po 3 z.pc) (I 1000) (Sk z.wb z.wo 3 z.wc) z.vl (qq23 z n) n hn sm v.kn 0 a i d hz ⟨by omega, by omega, by omega, hi⟩ (by omega) T)<|Ent.trans (Ent.take (Q := (aa (RxP v.rx n z.rb z.ro z.rc sm (i + 1) a T) ((aa (am k [I 3, Sk z.pb z.po 3 z.pc, I 1000, Sk z.wb z.wo 3 z.wc, z.vl, Sk z.rb z.ro (bL n) z.rc, I 1, Pt v.tx 0, Pt v.rx 0, Pt v.rm 0, Mp v.md, I a] 218) (aa (az v.md .i64 v.fm) (aa (A v.tx) (aa (RmP v.rm rows) ((qq1 z n))))))))))<|Ent.trans (Ent.frame (Ent.trans (Ent.lift (show 0 <= a /\ a <= a by omega)) (bh (f := fun xn : Int => (aa (SLA.lift (0 <= xn /\ xn <= a)) (RxP v.rx n z.rb z.ro z.rc sm (i + 1) xn T))) a)) _) ?_
 refine Ent.trans (Ent.of ?_) (Ent.frame (KrP.fold (A := A) (B := (BxP z n sm (i + 1) a T rows)) (m0 := m0) (m1 := m1) { v with kn := a } ⟨Int.le_refl _, hh.2⟩) (gT z n))
 show (aa (_) ((aa (_) (aa (_) (aa (_) (aa (_) (gT z n))))))) = (aa ((aa (_) (aa (_) (aa (_) ((aa (_) (_))))))) (_))
 ac_rfl
end Sp
end
section
namespace Sp
open Mq
variable {n i : Nat} {P R : ab} {z : CfA}
structure VlA where
 vb : Nat
 vo : Nat
 vc : Nat
 tb : Nat -> Nat
 to : Nat -> Nat
 tc : Nat -> Nat
def ze (x : Cf) (y : VlA) (i : Nat) : List Value := [I (10 + (i : Int)), I 0, I x.bg, I x.sm, .bool (decide (i = 1)), I 2, I 60000, Sk (y.tb i) (y.to i) 1 (y.tc i)]
def dJ (x : Cf) (n : Nat) (y : VlA) : ab := Ow 151 8 (Sk y.vb y.vo n y.vc) n ((List.range n).flatMap (ze x y))
def D9 (y : VlA) (i : Nat) : ab := Ow 3 1 (Sk (y.tb i) (y.to i) 1 (y.tc i)) 1 [I 1]
def TOS (y : VlA) : Nat -> ab
 | 0 => emp
 | n + 1 => (aa (D9 y n) (TOS y n))
theorem TOS.out (y : VlA) : ∀ {n i : Nat}, i < n -> ∃ R, TOS y n = (aa (D9 y i) (R))
 | n + 1, i, h => by
  by_cases e : i = n
  ·exact ⟨TOS y n, by rw [e]; rfl⟩
  ·obtain ⟨R, hR⟩ := TOS.out y (show i < n by omega)
   exact ⟨(aa (D9 y n) (R)), by show (aa (D9 y n) (TOS y n)) = _; rw [hR, aR]⟩
theorem lh {x : Cf} {y : VlA} [h : Take P (dJ x n y) R] (hi : i < n) : ∀ j u, (ze x y i)[j]? = some u -> Rd P y.vb (y.vo + i * 8 + j) u := fun j u hj => by
 have := (RdS.own (m := 8) (e := 151) (c := y.vc) (xs := List.range n) (en := ze x y) (A := some (ad y.vb y.vo)) (fun _ => rfl) (.inr ⟨y.vb, y.vo, rfl⟩)).rd y.vb y.vo rfl i i j u (by rw [List.getElem?_range hi]) hj
 rw [List.length_range] at this
 exact bU (S := dJ x n y) this
def qO (n i : Nat) (l : List Value) : Prop := i < bL n /\ l.length = 11 /\ ((s8 n).drop (i * 11)).take 11 = l
theorem iJ {rb ro rc : Nat} [h : Take P (cE n rb ro rc) R] {l : List Value} (hp : qO n i l) : ∀ j u, l[j]? = some u -> Rd P rb (ro + i * 11 + j) u := fun j u hj => by
 obtain ⟨_, hl, rfl⟩ := hp
 have hj11 : j < 11 := by have := (List.getElem?_eq_some_iff.1 hj).1; omega
 rw [List.getElem?_take_of_lt hj11, List.getElem?_drop] at hj
 refine bU (S := cE n rb ro rc) ?_
 have := Rd.own (e := 153) (m := 11) (b := rb) (o := ro) (len := bL n) (c := rc) (l := s8 n) hj
 rwa [<- Nat.add_assoc] at this
theorem cN (hn : n = 1 \/ n = 2 \/ n = 3) : bL n <= 8 := by rcases hn with rfl | rfl | rfl <;> decide
abbrev _root_.Go.qq10 (a : CfA) := Ow 3 1 (Sk a.pb a.po 3 a.pc) 3 [I 0, I 1, I 2]
theorem rD [h : Take P (qq10 z) R] (hi : i < 3) : ∀ j u, [I (i : Int)][j]? = some u -> Rd P z.pb (z.po + i * 1 + j) u := fun j u hj => by
 have hj0 : j = 0 := by have := (List.getElem?_eq_some_iff.1 hj).1; simpa using this
 subst hj0
 refine bU (S := Ow 3 1 (Sk z.pb z.po 3 z.pc) 3 [I 0, I 1, I 2]) ?_
 rw [Nat.add_assoc]
 refine Rd.own ?_
 rcases (show i = 0 \/ i = 1 \/ i = 2 by omega) with rfl | rfl | rfl <;> exact hj
abbrev _root_.Go.qq13 (a : CfA) := Ow 149 3 (Sk a.wb a.wo 3 a.wc) 3 [I 0, I 0, I 1000, I 1, I 0, I 1000, I 2, I 0, I 1000]
theorem Eg [h : Take P (qq13 z) R] (hi : i < 3) : ∀ j u, [I (i : Int), I 0, I 1000][j]? = some u -> Rd P z.wb (z.wo + i * 3 + j) u := fun j u hj => by
 have hj0 : j < 3 := by have := (List.getElem?_eq_some_iff.1 hj).1; simpa using this
 refine bU (S := Ow 149 3 (Sk z.wb z.wo 3 z.wc) 3 [I 0, I 0, I 1000, I 1, I 0, I 1000, I 2, I 0, I 1000]) ?_
 rw [Nat.add_assoc]
 refine Rd.own ?_
 rcases (show i = 0 \/ i = 1 \/ i = 2 by omega) with rfl | rfl | rfl <;> rcases (show j = 0 \/ j = 1 \/ j = 2 by omega) with rfl | rfl | rfl <;> exact hj
end Sp
end
namespace Sp
attribute [local irreducible] JU
abbrev lZ (a : Int) (b : Cf) (c : Bool) (d e f : Nat) : List Value := [I a, I 0, I b.bg, I b.sm, .bool c, I 2, I 60000, Sk d e 1 f]
abbrev tJ (a : Int) (b : Nat) (c : Bool) (d e f g h : Int) : List Value := [I a, I ((b : Nat) : Int), I ((b : Nat) : Int), I 2, .bool c, I d, I e, I f, I g, I h, I 0]
abbrev vH (a : Int) (b : Nat) (c : Bool) (d e f g h j : Int) : List Value := [I a, I ((b : Nat) : Int), I ((b : Nat) : Int), I 1, .bool c, I d, I e, I f, I g, I h, I j]
abbrev xV (a : Nat) (b : Bool) (c d : Int) : List Value := [I ((a : Nat) : Int), .bool b, I c, I d]
abbrev C6 (a : Cf) (b : VlA) : List Value := [I 10, I 0, I a.bg, I a.sm, Ff, I 2, I 60000, Sk (b.tb 0) (b.to 0) 1 (b.tc 0)]
abbrev C5 (a : Nat) (b : Cf) (c : VlA) : List Value := [I (10 + ((a + 1 : Nat) : Int)), I 0, I b.bg, I b.sm, .bool (decide (a + 1 = 1)), I 2, I 60000, Sk (c.tb (a + 1)) (c.to (a + 1)) 1 (c.tc (a + 1))]
abbrev iA (a : Nat) (b : CfA) (c : VlA) (d e : Nat) : ab := am a [I 3, Sk b.pb b.po 3 b.pc, I 1000, Sk b.wb b.wo 3 b.wc, Sk c.vb c.vo d c.vc, Sk b.rb b.ro (bL d) b.rc, Mp e] 186
abbrev n8 (a : CfA) : ab := Ow 3 1 (Sk a.pb a.po 3 a.pc) 3 [I 0, I 1, I 2]
abbrev vK (a : Nat) (b : List Value -> Option Value) : ab := eX a [.int .i64, .bool, .int .i64, .int .i64] b
abbrev vJ (a : Nat) (b : List Value -> Option Value) (c : Nat) (d : Bool) (e f : Int) : ab := eX a [.int .i64, .bool, .int .i64, .int .i64] (ek b (xV c d e f) (I 1))
abbrev vI (a b : Nat) (c : Bool) (d e : Int) : ab := am a (xV b c d e) 245
abbrev Av (a : Nat) (b : Int) (c : Nat) (d : Bool) (e f g h j : Int) : ab := am a (tJ b c d e f g h j) 153
abbrev C7 (a : Nat) (b : Int) (c : Cf) (d : Bool) (e f g : Nat) : ab := am a (lZ b c d e f g) 151
abbrev Gu (a : CfA) : ab := Ow 149 3 (Sk a.wb a.wo 3 a.wc) 3 [I 0, I 0, I 1000, I 1, I 0, I 1000, I 2, I 0, I 1000]
abbrev Gt (a : VlA) : ab := Ow 3 1 (Sk (a.tb 0) (a.to 0) 1 (a.tc 0)) 1 [I 1]
abbrev Gs (a : VlA) (b : Nat) : ab := Ow 3 1 (Sk (a.tb (b + 1)) (a.to (b + 1)) 1 (a.tc (b + 1))) 1 [I 1]
theorem Hn (a c : Nat) (n : Nat) (hn : n = 1 \/ n = 2 \/ n = 3) (x : Cf) (y : VlA) (z : CfA) (i : Nat) (hi : i < 3) (lkF : Int -> Option Value) (ovF : Int -> Option Value) (ho : ovF (i : Nat) = none) : Kp prog 116 #[Pt a 0, I ((i : Nat) : Int)] (iA a z y n c) (Tt) := by
 refine en func116 r fun _ F=>aE r<|sr<|ec r<|fa 0 r<|lf 1 r r<|ll r<|ib (I 2) r<|cy (di ((i : Nat) : Int) 0 2 (by omega)) r fun _=>an r<|jr<|r1 r Ent.take
theorem Hm (a d e : Nat) (n : Nat) (hn : n = 1 \/ n = 2 \/ n = 3) (x : Cf) (y : VlA) (z : CfA) (i : Nat) (hi : i < 3) (lkF : Int -> Option Value) (ovF : Int -> Option Value) (ho : ovF (i : Nat) = none) : Sp prog 86 #[Pt a 0, I ((i : Nat) : Int), Mp d] ((aa (iA a z y n e) (aa (Gu z) (aa (n8 z) (az d .i64 ovF))))) (I 0) ((aa (iA a z y n e) (aa (Gu z) (aa (n8 z) (az d .i64 (fun m' => if m' = ((i : Nat) : Int) then some (I 1000) else ovF m')))))) := by
 refine en func86 r fun _ F=>aE r<|sb r<|fa 0 r<|lf 3 r r<|ea r<|lv ((au r r (by omega)).as (v' := Pt z.wb (z.wo + i * 3)) (by rw [Int.toNat_natCast])) r<|lv (br (vs := [I ((i : Nat) : Int), I 0, I 1000]) r r (Eg (z := z) (by omega))) r<|al r fun b1=>so r r<|nj<|js<|dM ae<|qa r<|s5 r<|qa r<|qo r<|qa r<|qo r<|qf 0 r<|qo r<|ql r r<|qo r<|dy (Hn a e n hn x y z i hi lkF ovF ho) r r (fun _ _ => r) (fun _ _ => ah _) r<|qo r<|qb r<|qa r<|qo r<|qf 1 r<|qo r<|ql r r<|qo r<|qa r<|qo r<|qa r<|qo r<|qf 0 r<|qo r<|qf 2 r<|qo r<|ql r r<|qo r<|dy (di 0 0 1000 (by decide)) r r (fun _ _ => r) (fun _ _ => ah _) r<|qo r<|qb r<|qa r<|qo r<|qf 2 r<|qo r<|ql r r<|qo r<|qa r<|qo r<|qa r<|qo r<|qf 0 r<|qo r<|qf 2 r<|qo r<|ql r r<|qo r<|qf 1 r<|qo r<|ql r r ?_
 refine qo r<|qv (ei (c := I 1000) r r r) r<|qo r<|dy (di 1000 1 1000 (by decide)) r r (fun _ _ => r) (fun _ _ => ah _) r<|qo r<|qb r<|qn<|kt<|cf r<|sk<|js<|dM ae<|qb r<|qf 0 r<|qf 1 r<|ql r r<|qf 0 r<|ql r r<|qv ((au r r (by omega)).as (v' := Pt z.pb (z.po + i * 1)) (by rw [Int.toNat_natCast])) r<|qv (ar r ((rD (z := z) (by omega)) 0 _ r)) r<|qa r<|qn<|kt<|js<|sr<|lf 1 r r<|eb r<|lv (aN (v := I 0) r r none ho r) r<|an r<|cf r<|sk<|sb r ?_
 refine lf 1 r r<|lf 2 r r<|ib (I 1000) r<|lx r (dh r r r) fun _ _=>nr<|an r<|jr<|r1 r Ent.take
theorem Fj (a c : Nat) (n : Nat) (hn : n = 1 \/ n = 2 \/ n = 3) (x : Cf) (y : VlA) (z : CfA) (lkF : Int -> Option Value) (hk : 0 < n) : Sp prog 87 #[Pt a 0, I 0] ((aa (iA a z y n c) (aa (dJ x n y) (aa (Gt y) (az c .i64 lkF))))) (I 0) ((aa (iA a z y n c) (aa (dJ x n y) (aa (Gt y) (az c .i64 (fun m' => if m' = 10 then some (.agg (C6 x y).toArray) else lkF m')))))) := by
 refine en func87 r fun _ F=>sr<|bx r fun b1=>an r<|sr<|ld r r<|ea r<|fa 0 r<|lf 4 r r<|ea r<|lv ((au r r (by omega)).as (v' := Pt y.vb (y.vo + 0 * 8)) r) r<|lv (br (vs := (C6 x y)) r r (lh (x := x) (n := n) (y := y) (i := 0) (by omega))) r<|al r fun b2=>so r r<|nj<|jb<|sr<|ec r<|go r<|fa 0 r<|go r<|ld r r<|go r<|cy (di 10 1 65535 (by decide)) r fun _=>go r<|ec r<|go r<|ld r r<|go r<|fa 1 r<|go r<|ld r r<|go r<|aW func84 r<|aE r<|sr<|ec r<|fa 0 r<|lf 0 r r<|ib (I 2) r<|cy (di 0 0 2 (by decide)) r fun _=>an r<|jr<|cX r<|go r<|ec r<|go r<|fa 2 r<|go r<|ld r r<|go r<|cy (di x.bg 0 7 (by have := x.h; omega)) r fun _=>go r<|ec r<|nf r<|sr<|lf 3 r r<|cy (di x.sm 64 1518 (by have := x.h; omega)) r fun _=>?_
 refine eb r<|go r<|fa 5 r<|go r<|ld r r<|go r<|cy (di 2 1 4 (by decide)) r fun _=>go r<|ec r<|go r<|fa 6 r<|go r<|ld r r<|go r<|cy (di 60000 0 1073741824 (by decide)) r fun _=>go r<|ec r<|go r<|fa 7 r<|go r<|ld r r<|go r<|ll r<|go r<|ec r<|nf r<|js<|dM ae<|qb r<|qa r<|qs r<|qs r<|qs r<|qs r<|qs r<|qs r<|qs r<|qs r<|qs r<|qs r<|qs r<|qs r<|qs r<|qb r<|qn<|kt<|cf r<|cY<|js<|sr<|lf 7 r r<|lv (mv r r r 1 0 r r) r<|ll r<|an r<|jl<|uf r<|kt<|js<|sr<|lf 7 r r<|lv (aB r r) r<|aW func117 r<|aE r<|sb r<|aW func151 r ?_
 refine aE r<|js<|sa r<|ll r<|an r<|jl<|ut r<|js<|jb<|sb r<|nr<|ec r<|ix (y.to 0) r r<|lv (aF 0 r r r) r<|gX func118 r<|aE r<|sr<|ld r r<|ea r<|aW func84 r<|aE r<|sr<|ec r<|fa 0 r<|lf 0 r r<|ib (I 2) r<|cy (di 1 0 2 (by decide)) r fun _=>an r<|jr<|cX r<|eb r<|go r<|ea r<|go r<|fa 1 r<|go r<|ld r r<|go r<|ec r<|nk<|jr<|cX r<|nf r<|jk<|ni (I 1) r<|uf r<|kt<|aE r<|jr<|cX r<|eb r<|nk<|jr<|cX r<|nf r<|sk ?_
 refine js<|av ((aa (am b1 [Pt a 0] 183) (aa (iA a z y n c) (am b2 (C6 x y) 151)))) (emp) [] ae<|pf 4 0 r r<|pl 0 r r r<|pe 1 r r<|pf 2 6 r r<|pl 3 r r r<|pl 5 r r r<|ps 6 r (ax r)<|pn 7 r (dh r r r) fun _ _=>dn<|kt<|aE r<|jr<|r1 r Ent.take
theorem Fi (a c : Nat) (n : Nat) (hn : n = 1 \/ n = 2 \/ n = 3) (x : Cf) (y : VlA) (z : CfA) (lkF : Int -> Option Value) (k : Nat) (hk : k + 1 < n) : Sp prog 87 #[Pt a 0, I ((k + 1 : Nat) : Int)] ((aa (iA a z y n c) (aa (dJ x n y) (aa (Gs y k) (az c .i64 lkF))))) (I 0) ((aa (iA a z y n c) (aa (dJ x n y) (aa (Gs y k) (az c .i64 (fun m' => if m' = 10 + ((k + 1 : Nat) : Int) then some (.agg (C5 k x y).toArray) else lkF m')))))) := by
 refine en func87 r fun _ F=>sr<|bx r fun b1=>an r<|sr<|ld r r<|ea r<|fa 0 r<|lf 4 r r<|ea r<|lv ((au r r (by omega)).as (v' := Pt y.vb (y.vo + (k + 1) * 8)) (by rw [Int.toNat_natCast])) r<|lv (br (vs := (C5 k x y)) r r (lh (x := x) (n := n) (y := y) (i := k + 1) (by omega))) r<|al r fun b2=>so r r<|nj<|jb<|sa r<|bJ r<|ea r<|go r<|fa 0 r<|go r<|ld r r<|go r<|cy (di (10 + ((k + 1 : Nat) : Int)) 1 65535 (by omega)) r fun _=>go r<|ec r<|go r<|ld r r<|go r<|fa 1 r<|go r<|ld r r<|go r<|aW func84 r<|aE r<|sr<|ec r<|fa 0 r<|lf 0 r r<|ib (I 2) r<|cy (di 0 0 2 (by decide)) r fun _=>an r<|jr<|cX r<|go r<|ec r<|go r<|fa 2 r<|go r<|ld r r<|go r<|cy (di x.bg 0 7 (by have := x.h; omega)) r fun _=>go r<|ec r<|nf r<|sr<|lf 3 r r ?_
 refine cy (di x.sm 64 1518 (by have := x.h; omega)) r fun _=>eb r<|go r<|fa 5 r<|go r<|ld r r<|go r<|cy (di 2 1 4 (by decide)) r fun _=>go r<|ec r<|go r<|fa 6 r<|go r<|ld r r<|go r<|cy (di 60000 0 1073741824 (by decide)) r fun _=>go r<|ec r<|go r<|fa 7 r<|go r<|ld r r<|go r<|ll r<|go r<|ec r<|nf r<|js<|dM ae<|qa r<|Cd r<|qa r<|qo r<|ql r r<|qo r<|qa r<|qo r<|qf 0 r<|qo r<|qf 4 r<|qo r<|ql r r<|qo r<|qa r<|qo r<|qv ((bm r r (by omega)).as (v' := I ((k : Nat) : Int)) (congrArg (Value.int .i64) (by omega))) r<|qo r<|qv ((au r r (by omega)).as (v' := Pt y.vb (y.vo + k * 8)) (by rw [Int.toNat_natCast])) r<|qo r<|qf (y.vo + k * 8) r<|qo r<|qv (ar r ((lh (x := x) (n := n) (y := y) (i := k) (by omega)) 0 _ r)) r<|qo r<|qf 0 r<|qo r<|ql r r<|qo r<|s5 r<|qb r<|qn<|kt<|cf r<|cY<|js ?_
 refine sr<|lf 7 r r<|lv (mv r r r 1 0 r r) r<|ll r<|an r<|jl<|uf r<|kt<|js<|sr<|lf 7 r r<|lv (aB r r) r<|aW func117 r<|aE r<|sb r<|aW func151 r<|aE r<|js<|sa r<|ll r<|an r<|jl<|ut r<|js<|jb<|sb r<|nr<|ec r<|ix (y.to (k + 1)) r r<|lv (aF 0 r r r) r<|gX func118 r<|aE r<|sr<|ld r r<|ea r<|aW func84 r<|aE r<|sr<|ec r<|fa 0 r<|lf 0 r r<|ib (I 2) r<|cy (di 1 0 2 (by decide)) r fun _=>an r<|jr<|cX r<|eb r<|go r<|ea r<|go r<|fa 1 r<|go r<|ld r r<|go r<|ec r<|nk<|jr<|cX r ?_
 refine nf r<|jk<|ni (I 1) r<|uf r<|kt<|aE r<|jr<|cX r<|eb r<|nk<|jr<|cX r<|nf r<|sk<|js ?_
 refine av ((aa (am b1 [Pt a 0] 183) (aa (iA a z y n c) (am b2 (C5 k x y) 151)))) (emp) [] ae<|pf 4 0 r r<|pl 0 r r r<|pe 1 r r<|pf 2 6 r r<|pl 3 r r r<|pl 5 r r r<|ps 6 r (ax r)<|pn 7 r (dh r r r) fun _ _=>dn<|kt<|aE r<|jr<|r1 r Ent.take
theorem E9 (a d e : Nat) (n : Nat) (hn : n = 1 \/ n = 2 \/ n = 3) (x : Cf) (y : VlA) (z : CfA) (lkF : Int -> Option Value) (p : Nat) (id vl suB ud sz dp fr : Int) (ou : Bool) (vh : Bool) (tB tO tC : Nat) (snF : List Value -> Option Value) (hp : qO n 0 (tJ id p ou vl suB ud sz dp)) (h : p < 2 /\ 1 <= id /\ 0 <= ud /\ ud <= 65535 /\ 1 <= sz /\ sz <= 8192 /\ 1 <= dp /\ dp <= 64) (hl : lkF vl = some (.agg (lZ vl x vh tB tO tC).toArray)) (hs : snF (xV p ou vl ud) = none) (T : ab) (hE : Go.SLA.Kp prog 119 #[.agg (tJ id p ou vl suB ud sz dp).toArray, .agg (lZ vl x vh tB tO tC).toArray] T (I 0)) : Sp prog 89 #[Pt a 0, I 0, Mp d] ((aa (iA a z y n e) (aa (qq3 n z) (aa (az e .i64 lkF) (aa (n8 z) (aa (T) (vK d snF))))))) (I 0) ((aa (iA a z y n e) (aa (qq3 n z) (aa (az e .i64 lkF) (aa (n8 z) (aa (T) (vJ d snF p ou vl ud))))))) := by
 refine en func89 r fun _ F=>aE r<|sb r<|fa 0 r<|lf 5 r r<|ea r<|lv ((au r r (by have hq := hp.1; omega)).as (v' := Pt z.rb (z.ro + 0 * 11)) r) r<|lv (br (vs := (tJ id p ou vl suB ud sz dp)) r r (iJ (rc := z.rc) hp)) r<|al r fun b1=>so r r<|nj<|jb<|sr<|ec r<|go r<|fa 0 r<|go r<|ld r r<|go r<|lv ((aM r r).bool_f (by have hq := hp.1; have hnp : bL n <= 8 := cN hn; omega)) r<|eb r<|go r<|fa 3 r<|go r<|ld r r<|go r<|cy (di 2 1 2 (by decide)) r fun _=>go r<|ec r<|go r<|ea r<|go r<|fa 2 r<|go r<|ld r r<|go r<|aW func116 r<|aE r<|sr<|ec r<|fa 0 r<|lf 1 r r<|ll r<|ib (I 2) r<|cy (di ((p : Nat) : Int) 0 2 (by have hq := hp.1; have hnp21 : bL n <= 8 := cN hn; omega)) r fun _=>an r<|jr<|cX r<|go r<|ec r<|nf r<|sr<|lf 7 r r<|cy (di ud 0 65535 (by have hq := hp.1; have hnp : bL n <= 8 := cN hn; omega)) r fun _=>eb r<|go r<|fa 8 r<|go r<|ld r r ?_
 refine go r<|cy (di sz 1 8192 (by have hq := hp.1; have hnp : bL n <= 8 := cN hn; omega)) r fun _=>go r<|ec r<|nf r<|js<|dM ae<|qb r<|qa r<|qs r<|qs r<|qs r<|qs r<|qs r<|qs r<|qs r<|qs r<|qs r<|qs r<|qs r<|qs r<|qs r<|qb r<|qn<|kt<|cf r<|cY<|js<|av ((aa (iA a z y n e) (aa (Av b1 id p ou vl suB ud sz dp) (az e .i64 lkF)))) (emp) [] ae<|pe 0 r r<|pe 1 r r<|pf 2 6 r r<|pf 4 5 r r<|pl 3 r r r<|pl 5 r r r<|ps 6 r (aN (v := .tuple #[.agg (lZ vl x vh tB tO tC).toArray, Tt]) r r (some (.agg (lZ vl x vh tB tO tC).toArray)) hl r)<|pe 7 r r<|pe 8 r r<|pe 9 r r<|pn 10 r (bq r) fun b3 _=>pn 11 r (aI r r r (List.all_eq_true.1 r)) fun _ _=>pe 12 r r<|dn<|kt<|js<|js<|dM ae<|qb r<|qa r<|qo r<|qf 1 r<|qo r<|ql r r<|qo r<|qa r<|qo r ?_
 refine qa r<|qo r<|qf 0 r<|qo r<|qf 1 r<|qo r<|ql r r<|qo r<|qf 2 r<|qo r<|ql r r<|qo r<|qv ((au r r (by omega)).as (v' := Pt z.pb (z.po + p * 1)) (by rw [Int.toNat_natCast])) r<|qo r<|qv (ar r ((rD (z := z) (by omega)) 0 _ r)) r<|qo r<|qv ((bs r r).bool_f (by have hq := hp.1; have hnp : bL n <= 8 := cN hn; omega)) r<|qa r<|qn<|kt<|cf r<|sk<|js<|sr<|ls r<|ls r<|cy hE r fun _=>an r<|sb r<|nf r<|sk<|js<|jb<|sr<|lf 3 r r<|bf r<|sr<|lf 9 r r<|cy (di dp 1 64 (by have hq := hp.1; have hnp : bL n <= 8 := cN hn; omega)) r fun _=>eb r<|go r<|fa 10 r<|go r<|ld r r<|go r<|ec r<|nf r<|cY<|sr<|lf 1 r r<|lf 4 r r<|lf 5 r r<|lf 7 r r<|lv (af r) r<|al r fun b4=>so r r<|nj ?_
 refine gO (X := Int) (fun x9 => [(0, Pt a 0), (1, I 0), (2, Mp d), (6, I 0), (7, Pt b1 0), (21, Ff), (42, Ff), (53, Ff), (8, Pt b3 0), (9, Tt), (96, Ff), (10, I 0), (101, Ff), (103, Ff), (113, Ff), (12, Pt b4 0)]) (fun x9 => (aa (n8 z) (aa (qq3 n z) (aa (az e .i64 lkF) (aa (T) (aa (vJ d snF p ou vl ud) (aa (Av b1 id p ou vl suB ud sz dp) (aa (iA a z y n e) (aa (C7 b3 vl x vh tB tO tC) (aa (vI b4 p ou vl ud) (F))))))))))) (fun _ => True) ?_ (fun x9 _ => ?_)
 ·refine av (vI b4 p ou vl ud) (vK d snF) [4, 6] ae<|pe 0 r r<|ps 1 r (ax r) ?_
  refine k8 [2, 4] (by kernel_rfl) rfl fun i hi => ?_
  simp only [List.mem_cons, List.not_mem_nil, or_false] at hi
  rcases hi with rfl | rfl
  ·refine yo r (fX (v := I 0) r r (by simp [Shape, CK.sh]) none (by simp [ek, hs]) r) r<|ps 3 r (ei (c := I 1) r r r)<|jv 4 r r (by kernel_rfl) (eN r r (by simp [Shape, CK.sh]) (I 0) (by simp [ek, hs]) r) fun q7 _=>qJ 5 r (by kernel_rfl) (mu r) r<|jv 6 r r (by kernel_rfl) (dP r r r (by simp [Shape, CK.sh])) fun _ _=>dn<|kc q7 r Ent.take
  ·refine DH r r (by kernel_rfl) (eN r r (by simp [Shape, CK.sh]) (I 0) (by simp [ek, hs]) r) fun q8 _=>qJ 5 r (by kernel_rfl) (mu r) r<|If 2 r (by kernel_rfl) (mt (v := I 0) r r (by simp [Shape, CK.sh]) (some (I 0)) (by simp [ek, hs]) r) r<|qJ 3 r (by kernel_rfl) (ei (c := I 1) r r r) r<|jv 6 r r (by kernel_rfl) (dP r r r (by simp [Shape, CK.sh])) fun _ _=>dn<|kc q8 r Ent.take
 ·refine sa r<|ls r<|lv (fX (v := I 1) r r (by simp [Shape, CK.sh]) (some (I 1)) (by simp [ek, hs]) r) r<|an r<|cf r<|sk<|aE r<|jr<|r1 r Ent.take
theorem E7 (a d e : Nat) (n : Nat) (hn : n = 1 \/ n = 2 \/ n = 3) (x : Cf) (y : VlA) (z : CfA) (lkF : Int -> Option Value) (p : Nat) (id vl suB ud sz dp fr : Int) (ou : Bool) (vh : Bool) (tB tO tC : Nat) (snF : List Value -> Option Value) (k : Nat) (hp : qO n (k + 1) (tJ id p ou vl suB ud sz dp)) (pid : Int) (pq : List Value) (hp0 : qO n k (I pid :: pq)) (h : p < 2 /\ 1 <= id /\ 0 <= ud /\ ud <= 65535 /\ 1 <= sz /\ sz <= 8192 /\ pid < id /\ 1 <= dp /\ dp <= 64) (hl : lkF vl = some (.agg (lZ vl x vh tB tO tC).toArray)) (hs : snF (xV p ou vl ud) = none) (T : ab) (hE : Go.SLA.Kp prog 119 #[.agg (tJ id p ou vl suB ud sz dp).toArray, .agg (lZ vl x vh tB tO tC).toArray] T (I 0)) : Sp prog 89 #[Pt a 0, I ((k + 1 : Nat) : Int), Mp d] ((aa (iA a z y n e) (aa (qq3 n z) (aa (az e .i64 lkF) (aa (n8 z) (aa (T) (vK d snF))))))) (I 0) ((aa (iA a z y n e) (aa (qq3 n z) (aa (az e .i64 lkF) (aa (n8 z) (aa (T) (vJ d snF p ou vl ud))))))) := by
 refine en func89 r fun _ F=>aE r<|sb r<|fa 0 r<|lf 5 r r<|ea r<|lv ((au r r (by have hq := hp.1; omega)).as (v' := Pt z.rb (z.ro + (k + 1) * 11)) (by rw [Int.toNat_natCast])) r<|lv (br (vs := (tJ id p ou vl suB ud sz dp)) r r (iJ (rc := z.rc) hp)) r<|al r fun b1=>so r r<|nj<|jb<|sa r<|lv ((dt r r).bool_f (by have hq := hp.1; have hnp : bL n <= 8 := cN hn; omega)) r<|ea r<|go r<|fa 0 r<|go r<|ld r r<|go r<|lv ((aM r r).bool_f (by have hq := hp.1; have hnp : bL n <= 8 := cN hn; omega)) r<|eb r<|go r<|fa 3 r<|go r<|ld r r<|go r<|cy (di 2 1 2 (by decide)) r fun _=>go r<|ec r<|go r<|ea r<|go r<|fa 2 r<|go r<|ld r r<|go r<|aW func116 r<|aE r<|sr<|ec r<|fa 0 r<|lf 1 r r<|ll r<|ib (I 2) r<|cy (di ((p : Nat) : Int) 0 2 (by have hq := hp.1; have hnp23 : bL n <= 8 := cN hn; omega)) r fun _=>an r<|jr<|cX r<|go r<|ec r<|nf r<|sr<|lf 7 r r<|cy (di ud 0 65535 (by have hq := hp.1; have hnp : bL n <= 8 := cN hn; omega)) r fun _=>eb r<|go r<|fa 8 r<|go r ?_
 refine ld r r<|go r<|cy (di sz 1 8192 (by have hq := hp.1; have hnp : bL n <= 8 := cN hn; omega)) r fun _=>go r<|ec r<|nf r<|js<|dM ae<|qa r<|qv ((bt r r).bool_t (by have hq := hp.1; have hnp : bL n <= 8 := cN hn; omega)) r<|qa r<|qo r<|qa r<|qo r<|qa r<|qo r<|qf 0 r<|qo r<|qf 5 r<|qo r<|ql r r<|qo r<|qa r<|qo r<|qv ((bm r r (by have hq := hp.1; have hnp : bL n <= 8 := cN hn; omega)).as (v' := I ((k : Nat) : Int)) (congrArg (Value.int .i64) (by omega))) r<|qo r<|qv ((au r r (by have hq := hp.1; omega)).as (v' := Pt z.rb (z.ro + k * 11)) (by rw [Int.toNat_natCast])) r<|qo r<|qf (z.ro + k * 11) r<|qo r<|qv (ar r ((iJ (rc := z.rc) hp0) 0 _ r)) r<|qo r<|qf 0 r<|qo r<|ql r r<|qo r<|qv ((dt r r).bool_f (by have hq := hp.1; have hnp : bL n <= 8 := cN hn; omega)) r<|qb r<|qn<|kt<|cf r<|cY<|js<|av ((aa (iA a z y n e) (aa (Av b1 id p ou vl suB ud sz dp) (az e .i64 lkF)))) (emp) [] ae<|pe 0 r r<|pe 1 r r<|pf 2 6 r r<|pf 4 5 r r<|pl 3 r r r<|pl 5 r r r<|ps 6 r (aN (v := .tuple #[.agg (lZ vl x vh tB tO tC).toArray, Tt]) r r (some (.agg (lZ vl x vh tB tO tC).toArray)) hl r)<|pe 7 r r<|pe 8 r r<|pe 9 r r<|pn 10 r (bq r) fun b3 _=>?_
 refine pn 11 r (aI r r r (List.all_eq_true.1 r)) fun _ _=>pe 12 r r<|dn<|kt<|js<|js<|dM ae<|qb r<|qa r<|qo r<|qf 1 r<|qo r<|ql r r<|qo r<|qa r<|qo r<|qa r<|qo r<|qf 0 r<|qo r<|qf 1 r<|qo r<|ql r r<|qo r<|qf 2 r<|qo r<|ql r r<|qo r<|qv ((au r r (by omega)).as (v' := Pt z.pb (z.po + p * 1)) (by rw [Int.toNat_natCast])) r<|qo r<|qv (ar r ((rD (z := z) (by omega)) 0 _ r)) r<|qo r<|qv ((bs r r).bool_f (by have hq := hp.1; have hnp : bL n <= 8 := cN hn; omega)) r<|qa r<|qn<|kt<|cf r<|sk<|js<|sr<|ls r<|ls r<|cy hE r fun _=>an r<|sb r<|nf r<|sk<|js<|jb<|sr<|lf 3 r r<|bf r<|sr<|lf 9 r r<|cy (di dp 1 64 (by have hq := hp.1; have hnp : bL n <= 8 := cN hn; omega)) r fun _=>eb r<|go r<|fa 10 r<|go r<|ld r r<|go r<|ec r<|nf r<|cY ?_
 refine sr<|lf 1 r r<|lf 4 r r<|lf 5 r r<|lf 7 r r<|lv (af r) r<|al r fun b4=>so r r<|nj ?_
 refine gO (X := Int) (fun x9 => [(0, Pt a 0), (1, I ((k + 1 : Nat) : Int)), (2, Mp d), (6, I 0), (7, Pt b1 0), (21, Ff), (42, Ff), (53, Ff), (8, Pt b3 0), (9, Tt), (96, Ff), (10, I 0), (101, Ff), (103, Ff), (113, Ff), (12, Pt b4 0)]) (fun x9 => (aa (n8 z) (aa (qq3 n z) (aa (az e .i64 lkF) (aa (T) (aa (vJ d snF p ou vl ud) (aa (Av b1 id p ou vl suB ud sz dp) (aa (iA a z y n e) (aa (C7 b3 vl x vh tB tO tC) (aa (vI b4 p ou vl ud) (F))))))))))) (fun _ => True) ?_ (fun x9 _ => ?_)
 ·refine av (vI b4 p ou vl ud) (vK d snF) [4, 6] ae<|pe 0 r r<|ps 1 r (ax r) ?_
  refine k8 [2, 4] (by kernel_rfl) rfl fun i hi => ?_
  simp only [List.mem_cons, List.not_mem_nil, or_false] at hi
  rcases hi with rfl | rfl
  ·refine yo r (fX (v := I 0) r r (by simp [Shape, CK.sh]) none (by simp [ek, hs]) r) r<|ps 3 r (ei (c := I 1) r r r)<|jv 4 r r (by kernel_rfl) (eN r r (by simp [Shape, CK.sh]) (I 0) (by simp [ek, hs]) r) fun q7 _=>qJ 5 r (by kernel_rfl) (mu r) r<|jv 6 r r (by kernel_rfl) (dP r r r (by simp [Shape, CK.sh])) fun _ _=>dn<|kc q7 r Ent.take
  ·refine DH r r (by kernel_rfl) (eN r r (by simp [Shape, CK.sh]) (I 0) (by simp [ek, hs]) r) fun q8 _=>qJ 5 r (by kernel_rfl) (mu r) r<|If 2 r (by kernel_rfl) (mt (v := I 0) r r (by simp [Shape, CK.sh]) (some (I 0)) (by simp [ek, hs]) r) r<|qJ 3 r (by kernel_rfl) (ei (c := I 1) r r r) r<|jv 6 r r (by kernel_rfl) (dP r r r (by simp [Shape, CK.sh])) fun _ _=>dn<|kc q8 r Ent.take
 ·refine sa r<|ls r<|lv (fX (v := I 1) r r (by simp [Shape, CK.sh]) (some (I 1)) (by simp [ek, hs]) r) r<|an r<|cf r<|sk<|aE r<|jr<|r1 r Ent.take
theorem E8 (a d e : Nat) (n : Nat) (hn : n = 1 \/ n = 2 \/ n = 3) (x : Cf) (y : VlA) (z : CfA) (lkF : Int -> Option Value) (p : Nat) (id vl suB ud sz dp fr : Int) (ou : Bool) (vh : Bool) (tB tO tC : Nat) (snF : List Value -> Option Value) (k : Nat) (hp : qO n (k + 1) (vH id p ou vl suB ud sz dp fr)) (pid : Int) (pq : List Value) (hp0 : qO n k (I pid :: pq)) (h : p < 2 /\ 1 <= id /\ 0 <= ud /\ ud <= 65535 /\ 1 <= sz /\ sz <= 8192 /\ pid < id) (hl : lkF vl = some (.agg (lZ vl x vh tB tO tC).toArray)) (hs : snF (xV p ou vl ud) = none) (T : ab) (hE : Go.SLA.Kp prog 119 #[.agg (vH id p ou vl suB ud sz dp fr).toArray, .agg (lZ vl x vh tB tO tC).toArray] T (I 0)) (hM : Go.SLA.Kp prog 120 #[.agg (vH id p ou vl suB ud sz dp fr).toArray, .agg (lZ vl x vh tB tO tC).toArray] emp (I 0)) : Sp prog 89 #[Pt a 0, I ((k + 1 : Nat) : Int), Mp d] ((aa (iA a z y n e) (aa (qq3 n z) (aa (az e .i64 lkF) (aa (n8 z) (aa (T) (vK d snF))))))) (I 0) ((aa (iA a z y n e) (aa (qq3 n z) (aa (az e .i64 lkF) (aa (n8 z) (aa (T) (vJ d snF p ou vl ud))))))) := by
 refine en func89 r fun _ F=>aE r<|sb r<|fa 0 r<|lf 5 r r<|ea r<|lv ((au r r (by have hq := hp.1; omega)).as (v' := Pt z.rb (z.ro + (k + 1) * 11)) (by rw [Int.toNat_natCast])) r<|lv (br (vs := (vH id p ou vl suB ud sz dp fr)) r r (iJ (rc := z.rc) hp)) r<|al r fun b1=>so r r<|nj<|jb<|sa r<|lv ((dt r r).bool_f (by have hq := hp.1; have hnp : bL n <= 8 := cN hn; omega)) r<|ea r<|go r<|fa 0 r<|go r<|ld r r<|go r<|lv ((aM r r).bool_f (by have hq := hp.1; have hnp : bL n <= 8 := cN hn; omega)) r<|eb r<|go r<|fa 3 r<|go r<|ld r r<|go r<|cy (di 1 1 2 (by decide)) r fun _=>go r<|ec r<|go r<|ea r<|go r<|fa 2 r<|go r<|ld r r<|go r<|aW func116 r<|aE r<|sr<|ec r<|fa 0 r<|lf 1 r r<|ll r<|ib (I 2) r<|cy (di ((p : Nat) : Int) 0 2 (by have hq := hp.1; have hnp25 : bL n <= 8 := cN hn; omega)) r fun _=>an r<|jr<|cX r<|go r<|ec r<|nf r<|sr<|lf 7 r r<|cy (di ud 0 65535 (by have hq := hp.1; have hnp : bL n <= 8 := cN hn; omega)) r fun _=>eb r<|go r<|fa 8 r<|go r ?_
 refine ld r r<|go r<|cy (di sz 1 8192 (by have hq := hp.1; have hnp : bL n <= 8 := cN hn; omega)) r fun _=>go r<|ec r<|nf r<|js<|dM ae<|qa r<|qv ((bt r r).bool_t (by have hq := hp.1; have hnp : bL n <= 8 := cN hn; omega)) r<|qa r<|qo r<|qa r<|qo r<|qa r<|qo r<|qf 0 r<|qo r<|qf 5 r<|qo r<|ql r r<|qo r<|qa r<|qo r<|qv ((bm r r (by have hq := hp.1; have hnp : bL n <= 8 := cN hn; omega)).as (v' := I ((k : Nat) : Int)) (congrArg (Value.int .i64) (by omega))) r<|qo r<|qv ((au r r (by have hq := hp.1; omega)).as (v' := Pt z.rb (z.ro + k * 11)) (by rw [Int.toNat_natCast])) r<|qo r<|qf (z.ro + k * 11) r<|qo r<|qv (ar r ((iJ (rc := z.rc) hp0) 0 _ r)) r<|qo r<|qf 0 r<|qo r<|ql r r<|qo r<|qv ((dt r r).bool_f (by have hq := hp.1; have hnp : bL n <= 8 := cN hn; omega)) r<|qb r<|qn<|kt<|cf r<|cY<|js<|av ((aa (iA a z y n e) (aa (am b1 (vH id p ou vl suB ud sz dp fr) 153) (az e .i64 lkF)))) (emp) [] ae<|pe 0 r r<|pe 1 r r<|pf 2 6 r r<|pf 4 5 r r<|pl 3 r r r<|pl 5 r r r<|ps 6 r (aN (v := .tuple #[.agg (lZ vl x vh tB tO tC).toArray, Tt]) r r (some (.agg (lZ vl x vh tB tO tC).toArray)) hl r)<|pe 7 r r<|pe 8 r r<|pe 9 r r<|pn 10 r (bq r) fun b3 _=>?_
 refine pn 11 r (aI r r r (List.all_eq_true.1 r)) fun _ _=>pe 12 r r<|dn<|kt<|js<|js<|dM ae<|qb r<|qa r<|qo r<|qf 1 r<|qo r<|ql r r<|qo r<|qa r<|qo r<|qa r<|qo r<|qf 0 r<|qo r<|qf 1 r<|qo r<|ql r r<|qo r<|qf 2 r<|qo r<|ql r r<|qo r<|qv ((au r r (by omega)).as (v' := Pt z.pb (z.po + p * 1)) (by rw [Int.toNat_natCast])) r<|qo r<|qv (ar r ((rD (z := z) (by omega)) 0 _ r)) r<|qo r<|qv ((bs r r).bool_f (by have hq := hp.1; have hnp : bL n <= 8 := cN hn; omega)) r<|qa r<|qn<|kt<|cf r<|sk<|js<|sr<|ls r<|ls r<|cy hE r fun _=>an r<|sb r<|nf r<|sk<|js<|jb<|sr<|lf 3 r r<|eb r<|nt r<|sr<|ls r<|ls r<|cy hM r fun _=>an r<|sb r<|nf r<|cY<|sr<|lf 1 r r<|lf 4 r r ?_
 refine lf 5 r r<|lf 7 r r<|lv (af r) r<|al r fun b4=>so r r<|nj ?_
 refine gO (X := Int) (fun x9 => [(0, Pt a 0), (1, I ((k + 1 : Nat) : Int)), (2, Mp d), (6, I 0), (7, Pt b1 0), (21, Ff), (42, Ff), (53, Ff), (8, Pt b3 0), (9, Tt), (96, Ff), (10, I 0), (101, Ff), (103, Tt), (11, I 0), (111, Ff), (12, Pt b4 0)]) (fun x9 => (aa (n8 z) (aa (qq3 n z) (aa (az e .i64 lkF) (aa (T) (aa (vJ d snF p ou vl ud) (aa (am b1 (vH id p ou vl suB ud sz dp fr) 153) (aa (iA a z y n e) (aa (C7 b3 vl x vh tB tO tC) (aa (vI b4 p ou vl ud) (F))))))))))) (fun _ => True) ?_ (fun x9 _ => ?_)
 ·refine av (vI b4 p ou vl ud) (vK d snF) [4, 6] ae<|pe 0 r r<|ps 1 r (ax r) ?_
  refine k8 [2, 4] (by kernel_rfl) rfl fun i hi => ?_
  simp only [List.mem_cons, List.not_mem_nil, or_false] at hi
  rcases hi with rfl | rfl
  ·refine yo r (fX (v := I 0) r r (by simp [Shape, CK.sh]) none (by simp [ek, hs]) r) r<|ps 3 r (ei (c := I 1) r r r)<|jv 4 r r (by kernel_rfl) (eN r r (by simp [Shape, CK.sh]) (I 0) (by simp [ek, hs]) r) fun q7 _=>qJ 5 r (by kernel_rfl) (mu r) r<|jv 6 r r (by kernel_rfl) (dP r r r (by simp [Shape, CK.sh])) fun _ _=>dn<|kc q7 r Ent.take
  ·refine DH r r (by kernel_rfl) (eN r r (by simp [Shape, CK.sh]) (I 0) (by simp [ek, hs]) r) fun q8 _=>qJ 5 r (by kernel_rfl) (mu r) r<|If 2 r (by kernel_rfl) (mt (v := I 0) r r (by simp [Shape, CK.sh]) (some (I 0)) (by simp [ek, hs]) r) r<|qJ 3 r (by kernel_rfl) (ei (c := I 1) r r r) r<|jv 6 r r (by kernel_rfl) (dP r r r (by simp [Shape, CK.sh])) fun _ _=>dn<|kc q8 r Ent.take
 ·refine sa r<|ls r<|lv (fX (v := I 1) r r (by simp [Shape, CK.sh]) (some (I 1)) (by simp [ek, hs]) r) r<|an r<|cf r<|sk<|aE r<|jr<|r1 r Ent.take
end Sp
section
namespace Sp
open Mq
theorem kx (m : Nat) (hm : m <= 1000) (f : Nat) [Fun prog f] (fs cs : List Value) (A : Nat -> ab) (hf : ∀ i : Nat, i < m -> Go.SLA.Sp prog f (fs ++ ([I (i : Int)] : List Value) ++ cs).toArray (A i) (I 0) (A (i + 1))) : FSpec prog 92 #[I (m : Int), .func (.func f) fs.toArray cs.toArray] (A 0) (fun _ : Unit => True) (fun _ => .tuple #[I (-1), I 0]) (fun _ => A m) := by
 refine en func92 r fun _ F=>sb r<|nj<|sb r<|nk<|jb ?_
 refine bX (X := Nat) (fun k => [(1, .func (.func f) fs.toArray cs.toArray), (8, I (m : Int)), (9, I (k : Int))]) (fun k => (aa (A k) (F))) (fun k => k <= m) (fun k => m - k) (0) (Nat.zero_le _) ⟨rfl, rfl, rfl, trivial⟩ (ah _) (fun k hk => ?_)
 refine sr<|lv (aM r r) r<|nj ?_
 refine aG rfl (fun h1 => ?_) (fun h1 => ?_)
 ·have hkl : k < m := by omega
  refine sk<|js<|jb<|sb r<|nr<|eb r<|lx r (fq (first := fs) (captured := cs) (hf k hkl) r r r r) fun _ _=>an r<|sa r<|lv (bs r r) r<|nf r<|cY<|jg<|gE r<|ea r<|ln ?_
  exact bO (k + 1) (by omega) (by omega) ⟨rfl, rfl, rfl, trivial⟩ (ah _)
 ·refine cx ?_
  refine ke<|ke<|kh<|kt<|sb r<|nk<|jr ?_
  obtain rfl : k = m := by omega
  exact cH rfl rfl rfl () trivial rfl (ah _)
end Sp
end
section
namespace Sp
open Mq
variable {n j : Nat}
structure Pd where
 id : Nat
 p : Nat
 kd : Nat
 ou : Bool
 i : Nat
 su : Nat
 ud : Nat
 sz : Nat
 dp : Nat
 fr : Nat
deriving DecidableEq
def pD (n j : Nat) : Pd := if j < n then ⟨10 + j, 0, 2, true, j, 0, 5, 100, 1, 0⟩ else if j < 2 * n then ⟨20 + (j - n), 1, 2, false, j - n, 0, 5, 100, 64, 0⟩ else if j = 2 * n then ⟨30, 0, 1, true, 0, 1, 6, 20, 0, 0⟩ else ⟨31, 1, 1, false, 0, 0, 6, 20, 0, 1000000⟩
def Pd.vl (q : Pd) : Int := 10 + (q.i : Int)
def Hg (q : Pd) : List Value := [I q.id, I q.p, I q.p, I q.kd, .bool q.ou, I q.vl, I q.su, I q.ud, I q.sz, I q.dp, I q.fr]
def zC (q : Pd) : List Value := [I q.p, .bool q.ou, I q.vl, I q.ud]
theorem rB (hn : n = 1 \/ n = 2 \/ n = 3) (hj : j < bL n) : qO n j (Hg (pD n j)) := by
 refine ⟨hj, rfl, ?_⟩
 have := cN hn
 rcases hn with rfl | rfl | rfl
 ·rcases (show j = 0 \/ j = 1 \/ j = 2 \/ j = 3 by have : j < 4 := hj; omega) with rfl | rfl | rfl | rfl <;> rfl
 ·rcases (show j = 0 \/ j = 1 \/ j = 2 \/ j = 3 \/ j = 4 \/ j = 5 by have : j < 6 := hj; omega) with rfl | rfl | rfl | rfl | rfl | rfl <;> rfl
 ·rcases (show j = 0 \/ j = 1 \/ j = 2 \/ j = 3 \/ j = 4 \/ j = 5 \/ j = 6 \/ j = 7 by have : j < 8 := hj; omega) with rfl | rfl | rfl | rfl | rfl | rfl | rfl | rfl <;> rfl
theorem E4 (hn : n = 1 \/ n = 2 \/ n = 3) (hj : j < bL n) : ((pD n j).p < 2 /\ 1 <= (pD n j).id /\ (pD n j).ud <= 65535 /\ 1 <= (pD n j).sz /\ (pD n j).sz <= 8192 /\ (pD n j).i < n /\ (∀ k, k < j -> zC (pD n k) ≠ zC (pD n j)) /\ (∀ k, k + 1 = j -> (pD n k).id < (pD n j).id)) /\ ((pD n j).kd = 2 /\ 1 <= (pD n j).dp /\ (pD n j).dp <= 64 /\ (pD n j).fr = 0 \/ (pD n j).kd = 1 /\ (pD n j).dp = 0 /\ (pD n j).sz = 20 /\ 0 < j /\ ((pD n j).ou = true /\ (pD n j).fr = 0 \/ (pD n j).ou = false /\ (pD n j).fr = 1000000)) /\ ((pD n j).ou = true /\ (pD n j).p = 0 /\ (pD n j).su <= 1 \/ (pD n j).ou = false /\ (pD n j).p = 1 /\ (pD n j).su = 0) := by
 have key : ∀ k j, (pD n k).ou ≠ (pD n j).ou \/ (pD n k).i ≠ (pD n j).i \/ (pD n k).ud ≠ (pD n j).ud -> zC (pD n k) ≠ zC (pD n j) := fun k j h e => by
  simp only [zC, Pd.vl, List.cons.injEq, Value.int.injEq, Value.bool.injEq, true_and, and_true] at e
  rcases h with h | h | h
  ·exact h e.2.1
  ·exact h (by omega)
  ·exact h (by omega)
 have hm : n ∈ [1, 2, 3] := by rcases hn with rfl | rfl | rfl <;> decide
 have f1 : ∀ m ∈ [1, 2, 3], ∀ j, j < bL m -> (pD m j).p < 2 /\ 1 <= (pD m j).id /\ (pD m j).ud <= 65535 /\ 1 <= (pD m j).sz /\ (pD m j).sz <= 8192 /\ (pD m j).i < m := by decide
 have f2 : ∀ m ∈ [1, 2, 3], ∀ j, j < bL m -> ∀ k, k < j -> (pD m k).ou ≠ (pD m j).ou \/ (pD m k).i ≠ (pD m j).i \/ (pD m k).ud ≠ (pD m j).ud := by decide
 have f3 : ∀ m ∈ [1, 2, 3], ∀ j, j < bL m -> ∀ k, k < j -> k + 1 = j -> (pD m k).id < (pD m j).id := by decide
 have f4 : ∀ m ∈ [1, 2, 3], ∀ j, j < bL m -> ((pD m j).kd = 2 /\ 1 <= (pD m j).dp /\ (pD m j).dp <= 64 /\ (pD m j).fr = 0 \/ (pD m j).kd = 1 /\ (pD m j).dp = 0 /\ (pD m j).sz = 20 /\ 0 < j /\ ((pD m j).ou = true /\ (pD m j).fr = 0 \/ (pD m j).ou = false /\ (pD m j).fr = 1000000)) := by decide
 have f5 : ∀ m ∈ [1, 2, 3], ∀ j, j < bL m -> ((pD m j).ou = true /\ (pD m j).p = 0 /\ (pD m j).su <= 1 \/ (pD m j).ou = false /\ (pD m j).p = 1 /\ (pD m j).su = 0) := by decide
 obtain ⟨a, b, c, d, e, f⟩ := f1 n hm j hj
 exact ⟨⟨a, b, c, d, e, f, fun q hq => key q j (f2 n hm j hj q hq), fun q hq => f3 n hm j hj q (by omega) hq⟩, f4 n hm j hj, f5 n hm j hj⟩
def LkF (x : Cf) (y : VlA) : Nat -> Int -> Option Value
 | 0 => fun _ => none
 | k + 1 => fun m' => if m' = 10 + (k : Int) then some (.agg (ze x y k).toArray) else LkF x y k m'
theorem LkF.at (x : Cf) (y : VlA) : ∀ {n i : Nat}, i < n -> LkF x y n (10 + (i : Int)) = some (.agg (ze x y i).toArray)
 | n + 1, i, h => by
  by_cases e : i = n
  ·subst e; exact if_pos rfl
  ·exact (if_neg (by omega)).trans (LkF.at x y (show i < n by omega))
noncomputable def SnF (n : Nat) : Nat -> List Value -> Option Value
 | 0 => fun _ => none
 | k + 1 => ek (SnF n k) (zC (pD n k)) (I 1)
theorem SnF.no {n : Nat} {l : List Value} : ∀ {j : Nat}, (∀ k, k < j -> zC (pD n k) ≠ l) -> SnF n j l = none
 | 0, _ => rfl
 | j + 1, h => (jd fun e => h j (Nat.lt_succ_self j) e.symm).trans (SnF.no fun k hk => h k (by omega))
def OvF : Nat -> Int -> Option Value
 | 0 => fun _ => none
 | k + 1 => fun m' => if m' = (k : Int) then some (I 1000) else OvF k m'
theorem OvF.no : ∀ {k j : Nat}, k <= j -> OvF k (j : Int) = none
 | 0, _, _ => rfl
 | k + 1, j, h => (if_neg (by omega)).trans (OvF.no (show k <= j by omega))
def Jt (x : Cf) : Nat -> Int
 | 0 => 500
 | k + 1 => Jt x k + (x.sm + 20)
theorem Jt.le (x : Cf) {k : Nat} (hn : n = 1 \/ n = 2 \/ n = 3) (hk : k <= n) : 500 <= Jt x k /\ Jt x k <= 6250 := by
 have := x.h
 rcases (show k = 0 \/ k = 1 \/ k = 2 \/ k = 3 by omega) with rfl | rfl | rfl | rfl <;> unfold Jt <;> (try unfold Jt) <;> (try unfold Jt) <;> (try unfold Jt) <;> omega
theorem G5 (n : Nat) (hn : n = 1 \/ n = 2 \/ n = 3) (x : Cf) (y : VlA) (c0 c1 c2 c3 c5 : Value) : FSpec prog 91 #[.agg [c0, c1, c2, c3, Sk y.vb y.vo n y.vc, c5].toArray, I 0] (dJ x n y) (fun _ : Unit => True) (fun _ => I (Jt x n)) (fun _ => dJ x n y) := by
 refine en func91 r fun _ F=>sr<|bx r fun b2=>an r<|aE r<|js<|sr<|fz r<|ld r r<|ll r<|an r<|jb ?_
 refine bX (X := Nat) (fun k => [(1, I 0), (9, Sk y.vb y.vo n y.vc), (10, I (n : Int)), (5, I (Jt x k)), (11, I (k : Int))]) (fun k => (aa (dJ x n y) (F))) (fun k => k <= n) (fun k => n - k) (0) (Nat.zero_le _) ⟨rfl, rfl, rfl, rfl, rfl, trivial⟩ Ent.take (fun k hk => ?_)
 have hJ := Jt.le x hn hk
 have hx := x.h
 refine sr<|lv (aM r r) r<|nj ?_
 refine aG rfl (fun h1 => ?_) (fun h1 => ?_)
 ·have hkl : k < n := by omega
  refine sk<|js<|jb<|sr<|lv (au r r (by omega)) r<|lv (br (vs := [I (10 + (k : Int)), I 0, I x.bg, I x.sm, .bool (decide (k = 1)), I 2, I 60000, Sk (y.tb k) (y.to k) 1 (y.tc k)]) r r (lh (x := x) (n := n) (y := y) (i := k) (by omega))) r<|al r fun b7=>so r r<|nr<|fz r<|ld r r<|ea r<|lv (cv r r) r<|nt r<|jg<|ea r<|fz r<|ld r r<|gE r<|gE r<|ea r<|ln<|kb<|kt<|jg<|gE r<|ea r<|ln ?_
  exact bO (k + 1) (by omega) (by omega) ⟨rfl, rfl, rfl, rfl, rfl, trivial⟩ Ent.take
 ·refine cx ?_
  refine ke<|ke<|kh<|kt<|sb r<|nk<|jr ?_
  obtain rfl : k = n := by omega
  exact aD rfl rfl () trivial rfl Ent.take
theorem Il (n : Nat) (hn : n = 1 \/ n = 2 \/ n = 3) (x : Cf) (y : VlA) (c0 c1 c2 c3 c5 : Value) (h : Int) (hh : h ≠ 0) : FSpec prog 91 #[.agg [c0, c1, c2, c3, Sk y.vb y.vo n y.vc, c5].toArray, I h] (dJ x n y) (fun _ : Unit => True) (fun _ => I (500)) (fun _ => dJ x n y) := by
 refine en func91 r fun _ F=>sr<|bx r fun b2=>an r<|aE r<|js<|sr<|fz r<|ld r r<|ll r<|an r<|jb ?_
 refine bX (X := Nat) (fun k => [(1, I h), (9, Sk y.vb y.vo n y.vc), (10, I (n : Int)), (5, I (500)), (11, I (k : Int))]) (fun k => (aa (dJ x n y) (F))) (fun k => k <= n) (fun k => n - k) (0) (Nat.zero_le _) ⟨rfl, rfl, rfl, rfl, rfl, trivial⟩ Ent.take (fun k hk => ?_)
 have hJ := Jt.le x hn hk
 have hx := x.h
 refine sr<|lv (aM r r) r<|nj ?_
 refine aG rfl (fun h1 => ?_) (fun h1 => ?_)
 ·have hkl : k < n := by omega
  refine sk<|js<|jb<|sr<|lv (au r r (by omega)) r<|lv (br (vs := [I (10 + (k : Int)), I 0, I x.bg, I x.sm, .bool (decide (k = 1)), I 2, I 60000, Sk (y.tb k) (y.to k) 1 (y.tc k)]) r r (lh (x := x) (n := n) (y := y) (i := k) (by omega))) r<|al r fun b7=>so r r<|nr<|fz r<|ld r r<|ea r<|bJ r<|nf r<|cY<|jg<|gE r<|ea r<|ln ?_
  exact bO (k + 1) (by omega) (by omega) ⟨rfl, rfl, rfl, rfl, rfl, trivial⟩ Ent.take
 ·refine cx ?_
  refine ke<|ke<|kh<|kt<|sb r<|nk<|jr ?_
  obtain rfl : k = n := by omega
  exact aD rfl rfl () trivial rfl Ent.take
end Sp
end
namespace Sp
attribute [local irreducible] JU
abbrev At (a b c : Int) (d : Bool) (e f g : Nat) : List Value := [I a, I 0, I b, I c, .bool d, I 2, I 60000, Sk e f 1 g]
abbrev Au (a : Nat) (b : CfA) (c : VlA) (d : Nat) : ab := am a [I 3, Sk b.pb b.po 3 b.pc, I 1000, Sk b.wb b.wo 3 b.wc, Sk c.vb c.vo d c.vc, Sk b.rb b.ro (bL d) b.rc] 68
abbrev Gr (a : Nat) (b : CfA) (c : VlA) (d e : Nat) : ab := am a [I 3, Sk b.pb b.po 3 b.pc, I 1000, Sk b.wb b.wo 3 b.wc, Sk c.vb c.vo d c.vc, Sk b.rb b.ro (bL d) b.rc, Mp e] 186
abbrev Gq (a : CfA) : ab := Ow 3 1 (Sk a.pb a.po 3 a.pc) 3 [I 0, I 1, I 2]
theorem FQ (id knd vl suB ud sz dp fr bg sm : Int) (vh : Bool) (tB tO tC : Nat) (h : 0 <= suB /\ suB <= 1) : Kp prog 119 #[.agg [I id, I 0, I 0, I knd, Tt, I vl, I suB, I ud, I sz, I dp, I fr].toArray, .agg (At vl bg sm vh tB tO tC).toArray] (emp) (I 0) := by
 refine en func119 r fun _ F=>bG<|sr<|bx r fun b1=>bx r fun b2=>an r<|aE r<|js<|jb<|sr<|lf 4 r r<|ea r<|go r<|fa 1 r<|go r<|ld r r<|go r<|fa 1 r<|go r<|ld r r<|go r<|ec r<|nf r<|sr<|lf 4 r r<|eb r<|gs r<|gs r<|gs r<|gs r<|gs r<|gs r<|bf r<|sr<|lf 4 r r<|an r<|ct r<|jg<|lf 5 r r<|ib (I 1) r<|ea r<|ln<|kb<|kt<|js<|sr<|lf 6 r r<|ea r ?_
 refine cy (di suB 0 1 (by omega)) r fun _=>an r<|cf r<|sk<|aE r<|jr<|r1 r Ent.take
theorem FR (id knd vl suB ud sz dp fr bg sm : Int) (vh : Bool) (tB tO tC : Nat) : Kp prog 119 #[.agg [I id, I 1, I 1, I knd, Ff, I vl, I 0, I ud, I sz, I dp, I fr].toArray, .agg (At vl bg sm vh tB tO tC).toArray] (Ow 3 1 (Sk tB tO 1 tC) 1 [I 1]) (I 0) := by
 refine en func119 r fun _ F=>sr<|bx r fun b1=>bx r fun b2=>an r<|aE r<|js<|jb<|sr<|lf 4 r r<|ea r<|gs r<|gs r<|gs r<|gs r<|gs r<|bf r<|sr<|lf 4 r r<|eb r<|go r<|fa 7 r<|go r<|ld r r<|go r<|fa 1 r<|go r<|ld r r<|go r<|aW func152 r<|aE r<|sb r<|aW func180 r<|aE r<|js<|sa r<|ll r<|an r<|jl<|ut r<|js<|jb<|sb r<|nr<|ec r<|ix tO r r<|lv (aF 0 r r r) r<|an r<|ct r<|sb r<|nk<|jr<|kq<|kd<|kd<|kq<|kd<|cX r<|eb r<|nk<|jr<|cX r<|go r<|ec r ?_
 exact nf r<|sr<|lf 4 r r<|an r<|cf r<|cY<|js<|sr<|lf 6 r r<|ea r<|cy (di 0 0 0 (by decide)) r fun _=>an r<|cf r<|sk<|aE r<|jr<|r1 r Ent.take
theorem EO (id knd vl suB ud sz dp fr bg sm : Int) (vh : Bool) (tB tO tC : Nat) (h : 80 <= sm /\ sm < 280) : Kp prog 153 #[I sm] (emp) (I (sm - 47)) := by
 refine en func153 r fun _ F=>bG<|aE r<|sa r<|lv (bm r r (by omega)) r<|an r<|jr<|r1 r Ent.take
theorem EN (id knd vl suB ud sz dp fr bg sm : Int) (vh : Bool) (tB tO tC : Nat) (h : 80 <= sm /\ sm < 280) : Kp prog 120 #[.agg [I id, I 0, I 0, I 1, Tt, I vl, I suB, I ud, I 20, I 0, I 0].toArray, .agg (At vl bg sm vh tB tO tC).toArray] (emp) (I 0) := by
 refine en func120 r fun _ F=>bG<|sr<|bx r fun b1=>bx r fun b2=>an r<|js<|jb<|sr<|lf 9 r r<|eb r<|go r<|fa 4 r<|go r<|ld r r<|go r<|ea r<|go r<|fa 10 r<|go r<|ld r r<|go r<|ea r<|go r<|ec r<|go r<|fa 4 r<|go r<|ld r r<|go r<|ea r<|go r<|ea r<|gs r<|gs r<|gs r<|gs r<|go r<|ec r<|nf r<|js<|dM ae<|qf 8 r<|ql r r<|qf 3 r<|ql r r<|dy (EO id knd vl suB ud sz dp fr bg sm vh tB tO tC h) r r (fun _ _ => r) (fun _ _ => ah _) r<|s5 r ?_
 refine qa r<|qn<|kt<|cf r<|cY<|aE r<|jr<|r1 r Ent.take
theorem EQ (id knd vl suB ud sz dp fr bg sm : Int) (vh : Bool) (tB tO tC : Nat) (h : 80 <= sm /\ sm < 280) : Kp prog 153 #[I sm] (emp) (I (sm - 47)) := by
 refine en func153 r fun _ F=>bG<|aE r<|sa r<|lv (bm r r (by omega)) r<|an r<|jr<|r1 r Ent.take
theorem EP (id knd vl suB ud sz dp fr bg sm : Int) (vh : Bool) (tB tO tC : Nat) (h : 80 <= sm /\ sm < 280) : Kp prog 120 #[.agg [I id, I 1, I 1, I 1, Ff, I vl, I suB, I ud, I 20, I 0, I 1000000].toArray, .agg (At vl bg sm vh tB tO tC).toArray] (emp) (I 0) := by
 refine en func120 r fun _ F=>bG<|sr<|bx r fun b1=>bx r fun b2=>an r<|js<|jb<|sr<|lf 9 r r<|eb r<|go r<|fa 4 r<|go r<|ld r r<|go r<|ea r<|gs r<|gs r<|gs r<|go r<|ec r<|go r<|fa 4 r<|go r<|ld r r<|go r<|ea r<|go r<|ea r<|go r<|fa 10 r<|go r<|ld r r<|go r<|cy (di 1000000 1 1099511627776 (by decide)) r fun _=>go r<|ea r<|go r<|ec r<|nf r<|js<|dM ae<|qf 8 r<|ql r r<|qf 3 r<|ql r r<|dy (EQ id knd vl suB ud sz dp fr bg sm vh tB tO tC h) r r (fun _ _ => r) (fun _ _ => ah _) r ?_
 refine s5 r<|qa r<|qn<|kt<|cf r<|cY<|aE r<|jr<|r1 r Ent.take
theorem F6 (a : Nat) (n : Nat) (hn : n = 1 \/ n = 2 \/ n = 3) (x : Cf) (y : VlA) (z : CfA) (i : Nat) (hi : i < 3) : Kp prog 81 #[I ((i : Nat) : Int), Pt a 0] (am a [Tt] 4) (I 0) := by
 refine en func81 r fun _ F=>aE r<|js<|sr<|ld r r<|nt r<|aE r<|jr<|kd<|r1 r Ent.take
theorem F5 (a c : Nat) (n : Nat) (hn : n = 1 \/ n = 2 \/ n = 3) (x : Cf) (y : VlA) (z : CfA) (i : Nat) (hi : i < 3) (lkF : Int -> Option Value) : Kp prog 84 #[Pt a 0, I ((i : Nat) : Int)] (Gr a z y n c) (Tt) := by
 refine en func84 r fun _ F=>aE r<|sr<|ec r<|fa 0 r<|lf 0 r r<|ib (I 2) r<|cy (di ((i : Nat) : Int) 0 2 (by omega)) r fun _=>an r<|jr<|r1 r Ent.take
abbrev _root_.Go.qq45 : List Value := [.func (.func 80) #[] #[]]
theorem F4 (a c d e g : Nat) (n : Nat) (hn : n = 1 \/ n = 2 \/ n = 3) (x : Cf) (y : VlA) (z : CfA) (i : Nat) (hi : i < 3) (lkF : Int -> Option Value) : Kp prog 83 #[I ((i : Nat) : Int), Pt a 0, Pt c 0, Pt d 0] ((aa (am a qq45 188) (aa (am c [Pt e 0] 183) (aa (Au d z y n) (aa (Gq z) (Gr e z y n g)))))) (I 0) := by
 refine en func83 r fun _ F=>aE r<|js<|av ((aa (am a qq45 188) (aa (am c [Pt e 0] 183) (aa (Au d z y n) (Gq z))))) (emp) [] ae<|pe 1 r r<|ps 2 r ((aM r r).bool_t (by omega))<|pe 3 r r<|py 5 r (by kernel_rfl) r r (i9 1 r r) r<|py 7 r (by kernel_rfl) r r (ao r) r<|pe 13 r r<|pl 0 r r r<|py 4 r (by kernel_rfl) r r (ar r (aC r)) r<|py 6 r (by kernel_rfl) r r (ar r (aC r)) r<|py 8 r (by kernel_rfl) r r ((au r r (by omega)).as (v' := Pt z.pb (z.po + i * 1)) (by rw [Int.toNat_natCast])) r<|py 9 r (by kernel_rfl) r r (ar r ((rD (z := z) (by omega)) 0 _ r)) r<|Ig 10 r (by kernel_rfl) r r (ai (F5 e g n hn x y z i hi lkF) r r r) fun _ _=>pe 11 r r<|kS 12 r func80 r<|sr<|bx r fun b1=>an r<|sr<|lv (aB r r) r<|an r<|jr<|rp r (.tmp r (.nil)) r<|kS 14 r func81 r ?_
 refine aE r<|js<|sr<|ld r r<|nt r<|aE r<|jr<|kd<|HC r<|pe 15 r r<|dn<|kt<|jr<|r1 r Ent.take
theorem F3 (a c : Nat) (i : Nat) (A B : ab) (np m : Nat) (hW : Go.SLA.Sp prog 86 #[Pt np 0, I ((i : Nat) : Int), Mp m] A (I 0) B) : Sp prog 85 #[I ((i : Nat) : Int), Pt a 0, Pt c 0] ((aa (am a [Pt np 0] 183) (aa (am c [Mp m] 136) (A)))) (I 0) ((aa (am a [Pt np 0] 183) (aa (am c [Mp m] 136) (B)))) := by
 refine en func85 r fun _ F=>aE r<|sr<|ld r r<|ea r<|ld r r<|cy hW r fun _=>an r<|jr<|r1 r Ent.take
theorem F2 (a c : Nat) (i : Nat) (A B : ab) (np m : Nat) (hW : Go.SLA.Sp prog 89 #[Pt np 0, I ((i : Nat) : Int), Mp m] A (I 0) B) : Sp prog 88 #[I ((i : Nat) : Int), Pt a 0, Pt c 0] ((aa (am a [Pt np 0] 183) (aa (am c [Mp m] 187) (A)))) (I 0) ((aa (am a [Pt np 0] 183) (aa (am c [Mp m] 187) (B)))) := by
 refine en func88 r fun _ F=>aE r<|sr<|ld r r<|ea r<|ld r r<|cy hW r fun _=>an r<|jr<|r1 r Ent.take
theorem CP (a : Nat) (n : Nat) (hn : n = 1 \/ n = 2 \/ n = 3) (x : Cf) (y : VlA) (z : CfA) : Kp prog 90 #[I 0, Pt a 0] ((aa (Au a z y n) (dJ x n y))) (I 0) := by
 refine en func90 r fun _ F=>aE r<|js<|sr<|ls r<|ea r<|cy (G5 n hn x y (I 3) (Sk z.pb z.po 3 z.pc) (I 1000) (Sk z.wb z.wo 3 z.wc) (Sk z.rb z.ro (bL n) z.rc)) r fun _=>lv ((bt r r).bool_f (by have hJ := Jt.le x hn (Nat.le_refl n); omega)) r<|nf r<|sk<|aE r<|jr<|r1 r Ent.take
theorem CO (a : Nat) (n : Nat) (hn : n = 1 \/ n = 2 \/ n = 3) (x : Cf) (y : VlA) (z : CfA) (i : Nat) (hi : 0 < i) : Kp prog 90 #[I ((i : Nat) : Int), Pt a 0] ((aa (Au a z y n) (dJ x n y))) (I 0) := by
 refine en func90 r fun _ F=>aE r<|js<|sr<|ls r<|ea r<|cy (Il n hn x y (I 3) (Sk z.pb z.po 3 z.pc) (I 1000) (Sk z.wb z.wo 3 z.wc) (Sk z.rb z.ro (bL n) z.rc) ((i : Nat) : Int) (by omega)) r fun _=>an r<|cf r<|sk<|aE r<|jr<|r1 r Ent.take
end Sp
section
namespace Sp
open Mq
variable {prog : Program} {σ : World} {n d : Nat} {E : Env} {P : ab} {ty t : TypeId} {pos : String} {aft : Array Edge} {g : Option (Nat × Bool)}
theorem aU (k : IntKind) (hd : Nat.blt d n = true) :
  OpX prog σ n E P ⟨some d, .makeMap t none, ty, pos, aft, g⟩ (fun _ : Nat => True) (fun r => (d, Mp r) :: E) (fun r => (aa (az r k (fun _ => none)) (P))) := by
 refine bI rfl hd fun a w ha hs => ?_
 refine ⟨w.heap.size, w.alloc (.map #[] 0), trivial, ?_, jO (es := []) (c := 0) (by simp [pB]) (by simp [re]) (fun m => rfl) (hs.alloc (.map #[] 0))⟩
 have h1 : (Instr.makeMap t none).run prog w = .ok (Mp w.heap.size) (w.alloc (.map #[] 0)) := rfl
 simp only [execOp, Option.map_none, Sem.run_bind, h1, Result.andThen_ok, Sem.run_pure]
theorem i5 (k : IntKind) (hd : Nat.blt d n = true) :
  OpX prog σ n E P ⟨some d, .makeMap t none, ty, pos, aft, g⟩ (fun _ : Nat => True) (fun r => (d, Mp r) :: E) (fun r => (aa (mapc r k (fun _ => 0)) (P))) := by
 refine bI rfl hd fun a w ha hs => ?_
 refine ⟨w.heap.size, w.alloc (.map #[] 0), trivial, ?_, ?_⟩
 ·have h1 : (Instr.makeMap t none).run prog w = .ok (Mp w.heap.size) (w.alloc (.map #[] 0)) := rfl
  simp only [execOp, Option.map_none, Sem.run_bind, h1, Result.andThen_ok, Sem.run_pure]
 ·refine (jO (k := k) (f := fun _ => none) (es := []) (c := 0) (by simp [pB]) (by simp [re]) (fun m => rfl) (hs.alloc (.map #[] 0))).ent (Ent.frame ?_ _)
  exact Ent.trans (Ent.lift (p := ∀ m : Int, ((none : Option Value)).getD (I 0) = I 0) (fun _ => rfl)) (bh (f := fun f : Int -> Option Value => (aa (SLA.lift (∀ m, (f m).getD (I 0) = I ((fun _ => (0 : Int)) m))) (az w.heap.size k f))) fun _ => none)
theorem BZ (a : Nat) (n : Nat) (hn : n = 1 \/ n = 2 \/ n = 3) (x : Cf) (y : VlA) (z : CfA) : Kp Tryz.prog 92 #[I 1, .func (.func 81) #[] #[Pt a 0]] (am a [Tt] 4) (.tuple #[I (-1), I 0]) := kx 1 (by decide) 81 [] [Pt a 0] (fun _ => am a [Tt] 4) fun i hi => F6 a n hn x y z i (by omega)
theorem Ha (a c d np lm : Nat) (n : Nat) (hn : n = 1 \/ n = 2 \/ n = 3) (x : Cf) (y : VlA) (z : CfA) : Kp Tryz.prog 92 #[I 3, .func (.func 83) #[] #[Pt a 0, Pt c 0, Pt d 0]] (aa (am a qq45 188) (aa (am c [Pt np 0] 183) (aa (am d [I 3, Sk z.pb z.po 3 z.pc, I 1000, Sk z.wb z.wo 3 z.wc, Sk y.vb y.vo n y.vc, Sk z.rb z.ro (bL n) z.rc] 68) (aa (Ow 3 1 (Sk z.pb z.po 3 z.pc) 3 [I 0, I 1, I 2]) (am np [I 3, Sk z.pb z.po 3 z.pc, I 1000, Sk z.wb z.wo 3 z.wc, Sk y.vb y.vo n y.vc, Sk z.rb z.ro (bL n) z.rc, Mp lm] 186))))) (.tuple #[I (-1), I 0]) := kx 3 (by decide) 83 [] [Pt a 0, Pt c 0, Pt d 0] (fun _ => (aa (am a qq45 188) (aa (am c [Pt np 0] 183) (aa (am d [I 3, Sk z.pb z.po 3 z.pc, I 1000, Sk z.wb z.wo 3 z.wc, Sk y.vb y.vo n y.vc, Sk z.rb z.ro (bL n) z.rc] 68) (aa (Ow 3 1 (Sk z.pb z.po 3 z.pc) 3 [I 0, I 1, I 2]) (am np [I 3, Sk z.pb z.po 3 z.pc, I 1000, Sk z.wb z.wo 3 z.wc, Sk y.vb y.vo n y.vc, Sk z.rb z.ro (bL n) z.rc, Mp lm] 186)))))) fun i hi => F4 a c d np lm n hn x y z i hi (fun _ => none)
abbrev _root_.Go.qq5 (a : Nat) (b : CfA) (c : VlA) (d e : Nat) := am a [I 3, Sk b.pb b.po 3 b.pc, I 1000, Sk b.wb b.wo 3 b.wc, Sk c.vb c.vo d c.vc, Sk b.rb b.ro (bL d) b.rc, Mp e] 186
theorem G9 (a c d np lm : Nat) (n : Nat) (hn : n = 1 \/ n = 2 \/ n = 3) (x : Cf) (y : VlA) (z : CfA) : Go.SLA.Sp Tryz.prog 92 #[I 3, .func (.func 85) #[] #[Pt a 0, Pt c 0]] (aa (am a [Pt np 0] 183) (aa (am c [Mp d] 136) ((aa (qq5 np z y n lm) (aa (qq13 z) (aa (qq10 z) (az d .i64 (fun _ => none)))))))) (.tuple #[I (-1), I 0]) (aa (am a [Pt np 0] 183) (aa (am c [Mp d] 136) ((aa (qq5 np z y n lm) (aa (qq13 z) (aa (qq10 z) (az d .i64 (OvF 3)))))))) := kx 3 (by decide) 85 [] [Pt a 0, Pt c 0] (fun k => (aa (am a [Pt np 0] 183) (aa (am c [Mp d] 136) ((aa (qq5 np z y n lm) (aa (qq13 z) (aa (qq10 z) (az d .i64 (OvF k))))))))) fun i hi => F3 a c i _ _ np d (Hm np d lm n hn x y z i hi (fun _ => none) (OvF i) (OvF.no (Nat.le_refl i)))
theorem DT (np lm : Nat) (n : Nat) (hn : n = 1 \/ n = 2 \/ n = 3) (x : Cf) (y : VlA) (z : CfA) : ∀ i, i < n -> Go.SLA.Sp Tryz.prog 87 #[Pt np 0, I (i : Int)] (aa (qq5 np z y n lm) (aa (dJ x n y) (aa (D9 y i) (az lm .i64 (LkF x y i))))) (I 0) (aa (qq5 np z y n lm) (aa (dJ x n y) (aa (D9 y i) (az lm .i64 (LkF x y (i + 1))))))
 | 0, h => Fj np lm n hn x y z (LkF x y 0) h
 | i + 1, h => Fi np lm n hn x y z (LkF x y (i + 1)) i h
theorem G8 (np lm : Nat) (n : Nat) (hn : n = 1 \/ n = 2 \/ n = 3) (x : Cf) (y : VlA) (z : CfA) : Go.SLA.Sp Tryz.prog 92 #[I (n : Int), .func (.func 87) #[Pt np 0] #[]] (aa (am np [I 3, Sk z.pb z.po 3 z.pc, I 1000, Sk z.wb z.wo 3 z.wc, Sk y.vb y.vo n y.vc, Sk z.rb z.ro (bL n) z.rc, Mp lm] 186) (aa (dJ x n y) (aa (TOS y n) (az lm .i64 (fun _ => none))))) (.tuple #[I (-1), I 0]) (aa (am np [I 3, Sk z.pb z.po 3 z.pc, I 1000, Sk z.wb z.wo 3 z.wc, Sk y.vb y.vo n y.vc, Sk z.rb z.ro (bL n) z.rc, Mp lm] 186) (aa (dJ x n y) (aa (TOS y n) (az lm .i64 (LkF x y n))))) := kx n (by omega) 87 [Pt np 0] [] (fun k => (aa (am np [I 3, Sk z.pb z.po 3 z.pc, I 1000, Sk z.wb z.wo 3 z.wc, Sk y.vb y.vo n y.vc, Sk z.rb z.ro (bL n) z.rc, Mp lm] 186) (aa (dJ x n y) (aa (TOS y n) (az lm .i64 (LkF x y k)))))) fun i hi => by
 obtain ⟨R, hR⟩ := TOS.out y hi
 rw [hR]
 exact Sp.via (DT np lm n hn x y z i hi) Ent.take
theorem Kp.emp {f : FuncId} {args : Array Value} {v : Value} (T : ab) (h : Go.SLA.Kp Tryz.prog f args emp v) : Go.SLA.Kp Tryz.prog f args T v := (h.frame T).conseq (Ent.of (bN _).symm) fun _ _ => ⟨(), trivial, rfl, Ent.of (bN _)⟩
theorem DK (np lm d : Nat) (n : Nat) (hn : n = 1 \/ n = 2 \/ n = 3) (x : Cf) (y : VlA) (z : CfA) (j : Nat) (q : Pd) (f : List Value -> Option Value) (hp : qO n j (Hg q)) (hp0 : ∀ k, j = k + 1 -> ∃ (pid : Int) (pq : List Value), qO n k (I pid :: pq) /\ pid < q.id) (h1 : q.p < 2 /\ 1 <= q.id /\ q.ud <= 65535 /\ 1 <= q.sz /\ q.sz <= 8192 /\ q.i < n)
  (h2 : q.kd = 2 /\ 1 <= q.dp /\ q.dp <= 64 /\ q.fr = 0 \/ q.kd = 1 /\ q.dp = 0 /\ q.sz = 20 /\ 0 < j /\ (q.ou = true /\ q.fr = 0 \/ q.ou = false /\ q.fr = 1000000)) (h3 : q.ou = true /\ q.p = 0 /\ q.su <= 1 \/ q.ou = false /\ q.p = 1 /\ q.su = 0) (hs : f (zC q) = none) (hl : LkF x y n q.vl = some (.agg (ze x y q.i).toArray)) :
  Go.SLA.Sp Tryz.prog 89 #[Pt np 0, I (j : Int), Mp d] (aa (qq5 np z y n lm) (aa (qq3 n z) (aa (az lm .i64 (LkF x y n)) (aa (qq10 z) (aa (TOS y n) (eX d [.int .i64, .bool, .int .i64, .int .i64] f)))))) (I 0) (aa (qq5 np z y n lm) (aa (qq3 n z) (aa (az lm .i64 (LkF x y n)) (aa (qq10 z) (aa (TOS y n) (eX d [.int .i64, .bool, .int .i64, .int .i64] (ek f (zC q) (I 1)))))))) := by
 obtain ⟨R, hR⟩ := TOS.out y h1.2.2.2.2.2
 have hx := x.h
 obtain ⟨id, p, kd', ou, i, su, ud', sz', dp, fr⟩ := q
 dsimp only at *
 have hE : Go.SLA.Kp Tryz.prog 119 #[.agg (Hg ⟨id, p, kd', ou, i, su, ud', sz', dp, fr⟩).toArray, .agg (ze x y i).toArray] (TOS y n) (I 0) := by
  rcases h3 with ⟨rfl, rfl, h3⟩ | ⟨rfl, rfl, rfl⟩
  ·exact Kp.emp _ (FQ id kd' (10 + (i : Int)) su ud' sz' dp fr x.bg x.sm (decide (i = 1)) (y.tb i) (y.to i) (y.tc i) (by omega))
  ·rw [show TOS y n = (aa (Ow 3 1 (Sk (y.tb i) (y.to i) 1 (y.tc i)) 1 [I 1]) (R)) from hR]
   exact Sp.via (FR id kd' (10 + (i : Int)) 0 ud' sz' dp fr x.bg x.sm (decide (i = 1)) (y.tb i) (y.to i) (y.tc i)) Ent.take
 rcases h2 with ⟨rfl, h4, h5, rfl⟩ | ⟨rfl, rfl, rfl, hj, h4⟩
 ·cases j with
  | zero => exact E9 np d lm n hn x y z (LkF x y n) p id (10 + (i : Int)) su ud' sz' dp 0 ou (decide (i = 1)) (y.tb i) (y.to i) (y.tc i) f hp (by omega) hl hs _ hE
  | succ k =>
   obtain ⟨pid, pq, hq, hlt⟩ := hp0 k rfl
   exact E7 np d lm n hn x y z (LkF x y n) p id (10 + (i : Int)) su ud' sz' dp 0 ou (decide (i = 1)) (y.tb i) (y.to i) (y.tc i) f k hp pid pq hq (by omega) hl hs _ hE
 ·obtain ⟨k, rfl⟩ : ∃ k, j = k + 1 := ⟨j - 1, by omega⟩
  obtain ⟨pid, pq, hq, hlt⟩ := hp0 k rfl
  have hM : Go.SLA.Kp Tryz.prog 120 #[.agg (Hg ⟨id, p, 1, ou, i, su, ud', 20, 0, fr⟩).toArray, .agg (ze x y i).toArray] emp (I 0) := by
   rcases h3 with ⟨rfl, rfl, h3⟩ | ⟨rfl, rfl, rfl⟩
   ·obtain ⟨_, rfl⟩ := h4.resolve_right (fun e => Bool.noConfusion e.1)
    exact EN id 1 (10 + (i : Int)) su ud' 20 0 0 x.bg x.sm (decide (i = 1)) (y.tb i) (y.to i) (y.tc i) (by omega)
   ·obtain ⟨_, rfl⟩ := h4.resolve_left (fun e => Bool.noConfusion e.1)
    exact EP id 1 (10 + (i : Int)) 0 ud' 20 0 0 x.bg x.sm (decide (i = 1)) (y.tb i) (y.to i) (y.tc i) (by omega)
  exact E8 np d lm n hn x y z (LkF x y n) p id (10 + (i : Int)) su ud' 20 0 fr ou (decide (i = 1)) (y.tb i) (y.to i) (y.tc i) f k hp pid pq hq (by omega) hl hs _ hE hM
theorem G7 (a c d np lm : Nat) (n : Nat) (hn : n = 1 \/ n = 2 \/ n = 3) (x : Cf) (y : VlA) (z : CfA) : Go.SLA.Sp Tryz.prog 92 #[I (bL n : Int), .func (.func 88) #[] #[Pt a 0, Pt c 0]] (aa (am a [Pt np 0] 183) (aa (am c [Mp d] 187) ((aa (am np [I 3, Sk z.pb z.po 3 z.pc, I 1000, Sk z.wb z.wo 3 z.wc, Sk y.vb y.vo n y.vc, Sk z.rb z.ro (bL n) z.rc, Mp lm] 186) (aa (qq3 n z) (aa (az lm .i64 (LkF x y n)) (aa (qq10 z) (aa (TOS y n) (eX d [.int .i64, .bool, .int .i64, .int .i64] (fun _ => none)))))))))) (.tuple #[I (-1), I 0]) (aa (am a [Pt np 0] 183) (aa (am c [Mp d] 187) ((aa (am np [I 3, Sk z.pb z.po 3 z.pc, I 1000, Sk z.wb z.wo 3 z.wc, Sk y.vb y.vo n y.vc, Sk z.rb z.ro (bL n) z.rc, Mp lm] 186) (aa (qq3 n z) (aa (az lm .i64 (LkF x y n)) (aa (qq10 z) (aa (TOS y n) (eX d [.int .i64, .bool, .int .i64, .int .i64] (SnF n (bL n))))))))))) := kx (bL n) (by have := cN hn; omega) 88 [] [Pt a 0, Pt c 0] (fun k => (aa (am a [Pt np 0] 183) (aa (am c [Mp d] 187) ((aa (am np [I 3, Sk z.pb z.po 3 z.pc, I 1000, Sk z.wb z.wo 3 z.wc, Sk y.vb y.vo n y.vc, Sk z.rb z.ro (bL n) z.rc, Mp lm] 186) (aa (qq3 n z) (aa (az lm .i64 (LkF x y n)) (aa (qq10 z) (aa (TOS y n) (eX d [.int .i64, .bool, .int .i64, .int .i64] (SnF n k))))))))))) fun i hi => by
 obtain ⟨⟨q1, q2, q3, q4, q5, q6, q7, q8⟩, h2, h3⟩ := E4 hn hi
 exact F2 a c i _ _ np d (DK np lm d n hn x y z i (pD n i) (SnF n i) (rB hn hi) (fun k hk => ⟨_, _, rB hn (show k < bL n by omega), by have := q8 k hk.symm; omega⟩) ⟨q1, q2, q3, q4, q5, q6⟩ h2 h3 (SnF.no q7) (LkF.at x y q6))
theorem G6 (a : Nat) (n : Nat) (hn : n = 1 \/ n = 2 \/ n = 3) (x : Cf) (y : VlA) (z : CfA) : Kp Tryz.prog 92 #[I 3, .func (.func 90) #[] #[Pt a 0]] (aa (am a [I 3, Sk z.pb z.po 3 z.pc, I 1000, Sk z.wb z.wo 3 z.wc, Sk y.vb y.vo n y.vc, Sk z.rb z.ro (bL n) z.rc] 68) (dJ x n y)) (.tuple #[I (-1), I 0]) := kx 3 (by decide) 90 [] [Pt a 0] (fun _ => (aa (am a [I 3, Sk z.pb z.po 3 z.pc, I 1000, Sk z.wb z.wo 3 z.wc, Sk y.vb y.vo n y.vc, Sk z.rb z.ro (bL n) z.rc] 68) (dJ x n y))) fun i hi => by
 cases i with
 | zero => exact CP a n hn x y z
 | succ i => exact CO a n hn x y z (i + 1) (Nat.succ_pos i)
end Sp
end
end Go.Proofs.YtpkcniedaabpoaaGreat
