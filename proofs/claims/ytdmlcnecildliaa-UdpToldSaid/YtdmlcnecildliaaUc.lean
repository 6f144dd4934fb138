/- The law UdpEncodes of the package pitotlaw06 holds for every input: which bytes a datagram is, or that it may not be. No condition. -/
import Derived.Test.YtdmlcnecildliaaUb
import Derived.Test.YtdmlcnecildliaaRows
import Derived.Test.YtdmlcnecildliaaH
namespace Go.Proofs.Ytdmlcnecildliaa
open Go.SLA
set_option maxRecDepth 100000
set_option linter.unusedVariables false
set_option linter.unusedSimpArgs false
attribute [local irreducible] J L K QL Rg FSpec OpV OpX Rd Back

theorem sumT_lit (a b : List Int) (t : ByteArray) : bytesL a ++ bytesL b ++ ⟨#[0, 17]⟩ ++ be t.size 2 ++ t = sumT a b t := rfl
theorem datag_lit (x : En) (t : ByteArray) : be x.f.toNat 2 ++ be x.g.toNat 2 ++ be (8 + t.size) 2 ++ be (usum x.a x.b (be x.f.toNat 2 ++ be x.g.toNat 2 ++ be (8 + t.size) 2 ++ ⟨#[0, 0]⟩ ++ t)) 2 ++ t = datag x t := rfl
theorem datag_size (x : En) (t : ByteArray) : (datag x t).size = 8 + t.size := by
  unfold datag head3
  rw [ByteArray.size_append, ByteArray.size_append, ByteArray.size_append, ByteArray.size_append, be_size, be_size, be_size, be_size]
attribute [local irreducible] be usum ones sumT

theorem RSum_spec (a b : List Int) (t : ByteArray) (ha : a.length = 4) (hb : b.length = 4) (ht : t.size ≤ 65535) : FSpec Try.prog 47 #[.string (bytesL a), .string (bytesL b), .string t] (emp) (fun _ : Unit => True) (fun _ => .int .i64 (usum a b t)) (fun _ => emp) := by
  have hza : (bytesL a).size = 4 := by rw [bytesL_size, ha]
  have hzb : (bytesL b).size = 4 := by rw [bytesL_size, hb]
  have hz1 : (bytesL a ++ bytesL b).size = 8 := by rw [ByteArray.size_append, hza, hzb]
  have hz2 : (bytesL a ++ bytesL b ++ ⟨#[0, 17]⟩).size = 10 := by rw [ByteArray.size_append, hz1]; rfl
  have hz3 : (bytesL a ++ bytesL b ++ ⟨#[0, 17]⟩ ++ be t.size 2).size = 12 := by rw [ByteArray.size_append, hz2, be_size]
  have hz4 : (sumT a b t).size = 12 + t.size := by rw [← sumT_lit, ByteArray.size_append, hz3]
  have hu : usum a b t = if ones (sumT a b t) = 0 then 65535 else ones (sumT a b t) := by unfold usum; rfl
  refine FSpec.enter' Try.func47 rfl Try.ntmps47 rfl fun σ F => ?_
  refine J_seq ?_
  refine J_region ?_
  refine L_v (opv_assign rfl) rfl ?_
  refine L_nil ?_
  refine K_then ?_
  refine J_seq ?_
  refine J_region ?_
  refine L_v (opv_move rfl) rfl ?_
  refine L_v (opv_move rfl) rfl ?_
  refine L_v (opv_addS rfl rfl (by omega)) rfl ?_
  refine L_v (opv_addS rfl rfl (by rw [hz1]; decide)) rfl ?_
  refine L_v (opv_move rfl) rfl ?_
  first
    | refine L_v (opv_lenL rfl) rfl ?_
    | refine L_v (opv_lenS rfl) rfl ?_
  refine L_x rfl (opx_call0 (RNum_spec t.size 2 (by omega) (by decide)) rfl rfl rfl) (fun _ _ => ?_)
  refine L_emp ?_
  refine L_v (opv_addS rfl rfl (by rw [hz2, be_size]; decide)) rfl ?_
  refine L_v (opv_move rfl) rfl ?_
  refine L_v ((opv_addS rfl rfl (by rw [hz3]; omega)).as (congrArg Value.string (sumT_lit a b t))) rfl ?_
  refine L_x rfl (opx_call0 (ROnes_spec (sumT a b t) (by omega)) rfl rfl rfl) (fun _ _ => ?_)
  refine L_emp ?_
  refine L_v (opv_assign rfl) rfl ?_
  refine L_nil ?_
  refine K_then ?_
  refine J_seq ?_
  refine J_seq ?_
  refine J_region ?_
  refine L_v (opv_move rfl) rfl ?_
  first
    | refine L_v (opv_eql rfl rfl) rfl ?_
    | refine L_v (opv_eqlS rfl rfl) rfl ?_
    | refine L_v (opv_eqlNil rfl rfl) rfl ?_
    | refine L_v (opv_eqlB rfl rfl) rfl ?_
  refine L_nil ?_
  refine K_then ?_
  refine J_cond rfl (fun h1 => ?_) (fun h1 => ?_)
  · refine J_seq ?_
    refine J_region ?_
    refine L_v (opv_assign rfl) rfl ?_
    refine L_nil ?_
    refine K_then ?_
    refine J_ret ?_
    refine K_then_ret ?_
    exact K_ret1 rfl rfl () trivial (by rw [hu, if_pos (by omega)]; rfl) Ent.take
  · refine J_skip ?_
    refine K_then ?_
    refine J_seq ?_
    refine J_region ?_
    refine L_v (opv_move rfl) rfl ?_
    refine L_v (opv_assign rfl) rfl ?_
    refine L_nil ?_
    refine K_then ?_
    refine J_ret ?_
    exact K_ret1 rfl rfl () trivial (by rw [hu, if_neg (by omega)]) Ent.take

theorem REncode_bad (x : En) (t : ByteArray) (h : ¬ portsB x) : FSpec Try.prog 20 #[.agg #[.string (bytesL x.a), .string (bytesL x.b), .int .i64 x.f, .int .i64 x.g], .string t] (emp) (fun _ : Unit => True) (fun _ => .tuple #[.string (ByteArray.empty), .int .i64 1]) (fun _ => emp) := by
  unfold portsB at h
  refine FSpec.enter' Try.func20 rfl Try.ntmps20 rfl fun σ F => ?_
  refine J_emp ?_
  refine J_seq ?_
  refine J_region ?_
  refine L_x rfl (opx_box (l := [.string (bytesL x.a), .string (bytesL x.b), .int .i64 x.f, .int .i64 x.g]) rfl rfl) (fun b2 _ => ?_)
  refine L_v (opv_assign rfl) rfl ?_
  refine L_v (opv_assign rfl) rfl ?_
  refine L_nil ?_
  refine K_then ?_
  refine J_seq ?_
  refine J_seq ?_
  refine J_region ?_
  first
    | refine L_v (opv_fieldAddr0 rfl) rfl ?_
    | refine L_v (opv_fieldAddr rfl) rfl ?_
  refine L_v (opv_load rfl (Rd.look rfl)) rfl ?_
  refine L_v (opv_lss rfl rfl) rfl ?_
  refine L_v (opv_move rfl) rfl ?_
  refine L_gf rfl rfl (fun h1 => ?_) (fun h1 => ?_) (fun _ h => by cases h; rfl)
  · first
      | refine L_v (opv_fieldAddr0 rfl) rfl ?_
      | refine L_v (opv_fieldAddr rfl) rfl ?_
    refine L_gf_on h1 rfl rfl ?_
    refine L_v (opv_load rfl (Rd.look rfl)) rfl ?_
    refine L_gf_on h1 rfl rfl ?_
    refine L_v (opv_gtr rfl rfl) rfl ?_
    refine L_v (opv_pick_f rfl h1 rfl) rfl ?_
    refine L_v (opv_move rfl) rfl ?_
    refine L_gf rfl rfl (fun h2 => ?_) (fun h2 => ?_) (fun _ h => by cases h; rfl)
    · first
        | refine L_v (opv_fieldAddr0 rfl) rfl ?_
        | refine L_v (opv_fieldAddr rfl) rfl ?_
      refine L_gf_on h2 rfl rfl ?_
      refine L_v (opv_load rfl (Rd.look rfl)) rfl ?_
      refine L_gf_on h2 rfl rfl ?_
      refine L_v (opv_lss rfl rfl) rfl ?_
      refine L_v (opv_pick_f rfl h2 rfl) rfl ?_
      refine L_v (opv_move rfl) rfl ?_
      refine L_gf rfl rfl (fun h3 => ?_) (fun h3 => ?_) (fun _ h => by cases h; rfl)
      · first
          | refine L_v (opv_fieldAddr0 rfl) rfl ?_
          | refine L_v (opv_fieldAddr rfl) rfl ?_
        refine L_gf_on h3 rfl rfl ?_
        refine L_v (opv_load rfl (Rd.look rfl)) rfl ?_
        refine L_gf_on h3 rfl rfl ?_
        refine L_v (opv_gtr rfl rfl) rfl ?_
        refine L_v (opv_pick_f rfl h3 rfl) rfl ?_
        refine L_nil ?_
        refine K_then ?_
        refine J_cond rfl (fun h4 => ?_) (fun h4 => by exfalso; omega)
        refine J_seq ?_
        refine J_region ?_
        refine L_v (opv_assign rfl) rfl ?_
        refine L_v (opv_assign rfl) rfl ?_
        refine L_nil ?_
        refine K_then ?_
        refine J_ret ?_
        refine K_then_ret ?_
        exact K_ret2 rfl rfl rfl () trivial rfl Ent.take
      · refine L_gf_off h3 rfl rfl ?_ (fun _ h => by cases h; rfl)
        refine L_gf_off h3 rfl rfl ?_ (fun _ h => by cases h; rfl)
        refine L_v (opv_pick_t rfl h3 rfl) rfl ?_
        refine L_nil ?_
        refine K_then ?_
        refine J_cond_true rfl ?_
        refine J_seq ?_
        refine J_region ?_
        refine L_v (opv_assign rfl) rfl ?_
        refine L_v (opv_assign rfl) rfl ?_
        refine L_nil ?_
        refine K_then ?_
        refine J_ret ?_
        refine K_then_ret ?_
        exact K_ret2 rfl rfl rfl () trivial rfl Ent.take
    · refine L_gf_off h2 rfl rfl ?_ (fun _ h => by cases h; rfl)
      refine L_gf_off h2 rfl rfl ?_ (fun _ h => by cases h; rfl)
      refine L_v (opv_pick_t rfl h2 rfl) rfl ?_
      refine L_v (opv_move rfl) rfl ?_
      refine L_gskip rfl rfl rfl ?_ (fun _ h => by cases h; rfl)
      refine L_gskip rfl rfl rfl ?_ (fun _ h => by cases h; rfl)
      refine L_gskip rfl rfl rfl ?_ (fun _ h => by cases h; rfl)
      first
        | refine L_v (opv_pick_tt rfl rfl) rfl ?_
        | refine L_v (opv_pick_ff rfl rfl) rfl ?_
        | refine L_v (opv_pick rfl rfl rfl) rfl ?_
      refine L_nil ?_
      refine K_then ?_
      refine J_cond_true rfl ?_
      refine J_seq ?_
      refine J_region ?_
      refine L_v (opv_assign rfl) rfl ?_
      refine L_v (opv_assign rfl) rfl ?_
      refine L_nil ?_
      refine K_then ?_
      refine J_ret ?_
      refine K_then_ret ?_
      exact K_ret2 rfl rfl rfl () trivial rfl Ent.take
  · refine L_gf_off h1 rfl rfl ?_ (fun _ h => by cases h; rfl)
    refine L_gf_off h1 rfl rfl ?_ (fun _ h => by cases h; rfl)
    refine L_v (opv_pick_t rfl h1 rfl) rfl ?_
    refine L_v (opv_move rfl) rfl ?_
    refine L_gskip rfl rfl rfl ?_ (fun _ h => by cases h; rfl)
    refine L_gskip rfl rfl rfl ?_ (fun _ h => by cases h; rfl)
    refine L_gskip rfl rfl rfl ?_ (fun _ h => by cases h; rfl)
    first
      | refine L_v (opv_pick_tt rfl rfl) rfl ?_
      | refine L_v (opv_pick_ff rfl rfl) rfl ?_
      | refine L_v (opv_pick rfl rfl rfl) rfl ?_
    refine L_v (opv_move rfl) rfl ?_
    refine L_gskip rfl rfl rfl ?_ (fun _ h => by cases h; rfl)
    refine L_gskip rfl rfl rfl ?_ (fun _ h => by cases h; rfl)
    refine L_gskip rfl rfl rfl ?_ (fun _ h => by cases h; rfl)
    first
      | refine L_v (opv_pick_tt rfl rfl) rfl ?_
      | refine L_v (opv_pick_ff rfl rfl) rfl ?_
      | refine L_v (opv_pick rfl rfl rfl) rfl ?_
    refine L_nil ?_
    refine K_then ?_
    refine J_cond_true rfl ?_
    refine J_seq ?_
    refine J_region ?_
    refine L_v (opv_assign rfl) rfl ?_
    refine L_v (opv_assign rfl) rfl ?_
    refine L_nil ?_
    refine K_then ?_
    refine J_ret ?_
    refine K_then_ret ?_
    exact K_ret2 rfl rfl rfl () trivial rfl Ent.take

theorem REncode_long (x : En) (t : ByteArray) (h : portsB x) (ht : 8192 < t.size) (ht2 : t.size ≤ 1099511627776) : FSpec Try.prog 20 #[.agg #[.string (bytesL x.a), .string (bytesL x.b), .int .i64 x.f, .int .i64 x.g], .string t] (emp) (fun _ : Unit => True) (fun _ => .tuple #[.string (ByteArray.empty), .int .i64 11]) (fun _ => emp) := by
  unfold portsB at h
  refine FSpec.enter' Try.func20 rfl Try.ntmps20 rfl fun σ F => ?_
  refine J_emp ?_
  refine J_seq ?_
  refine J_region ?_
  refine L_x rfl (opx_box (l := [.string (bytesL x.a), .string (bytesL x.b), .int .i64 x.f, .int .i64 x.g]) rfl rfl) (fun b2 _ => ?_)
  refine L_v (opv_assign rfl) rfl ?_
  refine L_v (opv_assign rfl) rfl ?_
  refine L_nil ?_
  refine K_then ?_
  refine J_seq ?_
  refine J_seq ?_
  refine J_region ?_
  first
    | refine L_v (opv_fieldAddr0 rfl) rfl ?_
    | refine L_v (opv_fieldAddr rfl) rfl ?_
  refine L_v (opv_load rfl (Rd.look rfl)) rfl ?_
  refine L_v ((opv_lss rfl rfl).bool_f (by omega)) rfl ?_
  refine L_v (opv_move rfl) rfl ?_
  refine L_gon rfl rfl rfl ?_
  first
    | refine L_v (opv_fieldAddr0 rfl) rfl ?_
    | refine L_v (opv_fieldAddr rfl) rfl ?_
  refine L_gon rfl rfl rfl ?_
  refine L_v (opv_load rfl (Rd.look rfl)) rfl ?_
  refine L_gon rfl rfl rfl ?_
  refine L_v ((opv_gtr rfl rfl).bool_f (by omega)) rfl ?_
  first
    | refine L_v (opv_pick_tt rfl rfl) rfl ?_
    | refine L_v (opv_pick_ff rfl rfl) rfl ?_
    | refine L_v (opv_pick rfl rfl rfl) rfl ?_
  refine L_v (opv_move rfl) rfl ?_
  refine L_gon rfl rfl rfl ?_
  first
    | refine L_v (opv_fieldAddr0 rfl) rfl ?_
    | refine L_v (opv_fieldAddr rfl) rfl ?_
  refine L_gon rfl rfl rfl ?_
  refine L_v (opv_load rfl (Rd.look rfl)) rfl ?_
  refine L_gon rfl rfl rfl ?_
  refine L_v ((opv_lss rfl rfl).bool_f (by omega)) rfl ?_
  first
    | refine L_v (opv_pick_tt rfl rfl) rfl ?_
    | refine L_v (opv_pick_ff rfl rfl) rfl ?_
    | refine L_v (opv_pick rfl rfl rfl) rfl ?_
  refine L_v (opv_move rfl) rfl ?_
  refine L_gon rfl rfl rfl ?_
  first
    | refine L_v (opv_fieldAddr0 rfl) rfl ?_
    | refine L_v (opv_fieldAddr rfl) rfl ?_
  refine L_gon rfl rfl rfl ?_
  refine L_v (opv_load rfl (Rd.look rfl)) rfl ?_
  refine L_gon rfl rfl rfl ?_
  refine L_v ((opv_gtr rfl rfl).bool_f (by omega)) rfl ?_
  first
    | refine L_v (opv_pick_tt rfl rfl) rfl ?_
    | refine L_v (opv_pick_ff rfl rfl) rfl ?_
    | refine L_v (opv_pick rfl rfl rfl) rfl ?_
  refine L_nil ?_
  refine K_then ?_
  refine J_cond_false rfl ?_
  refine J_skip ?_
  refine K_then ?_
  refine J_seq ?_
  refine J_seq ?_
  refine J_region ?_
  refine L_v (opv_move rfl) rfl ?_
  first
    | refine L_v (opv_lenL rfl) rfl ?_
    | refine L_v (opv_lenS rfl) rfl ?_
  refine L_v ((opv_gtr rfl rfl).bool_t (by omega)) rfl ?_
  refine L_nil ?_
  refine K_then ?_
  refine J_cond_true rfl ?_
  refine J_seq ?_
  refine J_region ?_
  refine L_v (opv_assign rfl) rfl ?_
  refine L_v (opv_assign rfl) rfl ?_
  refine L_nil ?_
  refine K_then ?_
  refine J_ret ?_
  refine K_then_ret ?_
  exact K_ret2 rfl rfl rfl () trivial rfl Ent.take

theorem REncode_ok (x : En) (t : ByteArray) (h : portsB x) (ht : t.size ≤ 8192) : FSpec Try.prog 20 #[.agg #[.string (bytesL x.a), .string (bytesL x.b), .int .i64 x.f, .int .i64 x.g], .string t] (emp) (fun _ : Unit => True) (fun _ => .tuple #[.string (datag x t), .int .i64 0]) (fun _ => emp) := by
  unfold portsB at h
  have hu := usum_le x.a x.b (be x.f.toNat 2 ++ be x.g.toNat 2 ++ be (8 + t.size) 2 ++ ⟨#[0, 0]⟩ ++ t)
  have hf : x.f = ((x.f.toNat : Nat) : Int) := by omega
  have hg : x.g = ((x.g.toNat : Nat) : Int) := by omega
  have hz1 : (be x.f.toNat 2 ++ be x.g.toNat 2).size = 4 := by rw [ByteArray.size_append, be_size, be_size]
  have hz2 : (be x.f.toNat 2 ++ be x.g.toNat 2 ++ be (8 + t.size) 2).size = 6 := by rw [ByteArray.size_append, hz1, be_size]
  have hz3 : (be x.f.toNat 2 ++ be x.g.toNat 2 ++ be (8 + t.size) 2 ++ ⟨#[0, 0]⟩).size = 8 := by rw [ByteArray.size_append, hz2]; rfl
  have hz5 : (be x.f.toNat 2 ++ be x.g.toNat 2 ++ be (8 + t.size) 2 ++ be (usum x.a x.b (be x.f.toNat 2 ++ be x.g.toNat 2 ++ be (8 + t.size) 2 ++ ⟨#[0, 0]⟩ ++ t)) 2).size = 8 := by rw [ByteArray.size_append, hz2, be_size]
  refine FSpec.enter' Try.func20 rfl Try.ntmps20 rfl fun σ F => ?_
  refine J_emp ?_
  refine J_seq ?_
  refine J_region ?_
  refine L_x rfl (opx_box (l := [.string (bytesL x.a), .string (bytesL x.b), .int .i64 x.f, .int .i64 x.g]) rfl rfl) (fun b2 _ => ?_)
  refine L_v (opv_assign rfl) rfl ?_
  refine L_v (opv_assign rfl) rfl ?_
  refine L_nil ?_
  refine K_then ?_
  refine J_seq ?_
  refine J_seq ?_
  refine J_region ?_
  first
    | refine L_v (opv_fieldAddr0 rfl) rfl ?_
    | refine L_v (opv_fieldAddr rfl) rfl ?_
  refine L_v (opv_load rfl (Rd.look rfl)) rfl ?_
  refine L_v ((opv_lss rfl rfl).bool_f (by omega)) rfl ?_
  refine L_v (opv_move rfl) rfl ?_
  refine L_gon rfl rfl rfl ?_
  first
    | refine L_v (opv_fieldAddr0 rfl) rfl ?_
    | refine L_v (opv_fieldAddr rfl) rfl ?_
  refine L_gon rfl rfl rfl ?_
  refine L_v (opv_load rfl (Rd.look rfl)) rfl ?_
  refine L_gon rfl rfl rfl ?_
  refine L_v ((opv_gtr rfl rfl).bool_f (by omega)) rfl ?_
  first
    | refine L_v (opv_pick_tt rfl rfl) rfl ?_
    | refine L_v (opv_pick_ff rfl rfl) rfl ?_
    | refine L_v (opv_pick rfl rfl rfl) rfl ?_
  refine L_v (opv_move rfl) rfl ?_
  refine L_gon rfl rfl rfl ?_
  first
    | refine L_v (opv_fieldAddr0 rfl) rfl ?_
    | refine L_v (opv_fieldAddr rfl) rfl ?_
  refine L_gon rfl rfl rfl ?_
  refine L_v (opv_load rfl (Rd.look rfl)) rfl ?_
  refine L_gon rfl rfl rfl ?_
  refine L_v ((opv_lss rfl rfl).bool_f (by omega)) rfl ?_
  first
    | refine L_v (opv_pick_tt rfl rfl) rfl ?_
    | refine L_v (opv_pick_ff rfl rfl) rfl ?_
    | refine L_v (opv_pick rfl rfl rfl) rfl ?_
  refine L_v (opv_move rfl) rfl ?_
  refine L_gon rfl rfl rfl ?_
  first
    | refine L_v (opv_fieldAddr0 rfl) rfl ?_
    | refine L_v (opv_fieldAddr rfl) rfl ?_
  refine L_gon rfl rfl rfl ?_
  refine L_v (opv_load rfl (Rd.look rfl)) rfl ?_
  refine L_gon rfl rfl rfl ?_
  refine L_v ((opv_gtr rfl rfl).bool_f (by omega)) rfl ?_
  first
    | refine L_v (opv_pick_tt rfl rfl) rfl ?_
    | refine L_v (opv_pick_ff rfl rfl) rfl ?_
    | refine L_v (opv_pick rfl rfl rfl) rfl ?_
  refine L_nil ?_
  refine K_then ?_
  refine J_cond_false rfl ?_
  refine J_skip ?_
  refine K_then ?_
  refine J_seq ?_
  refine J_seq ?_
  refine J_region ?_
  refine L_v (opv_move rfl) rfl ?_
  first
    | refine L_v (opv_lenL rfl) rfl ?_
    | refine L_v (opv_lenS rfl) rfl ?_
  refine L_v ((opv_gtr rfl rfl).bool_f (by omega)) rfl ?_
  refine L_nil ?_
  refine K_then ?_
  refine J_cond_false rfl ?_
  refine J_skip ?_
  refine K_then ?_
  refine J_seq ?_
  refine J_quiet Try.mixed (by kernel_rfl) ?_
  first
    | refine Q_v (opv_fieldAddr0 rfl) rfl ?_
    | refine Q_v (opv_fieldAddr rfl) rfl ?_
  refine Q_v ((opv_load rfl (Rd.look rfl)).as (congrArg (Value.int .i64) hf)) rfl ?_
  refine Q_call (RNum_spec x.f.toNat 2 (by omega) (by decide)) rfl rfl (fun _ _ => rfl) (fun _ _ => Ent.refl _) rfl ?_
  first
    | refine Q_v (opv_fieldAddr0 rfl) rfl ?_
    | refine Q_v (opv_fieldAddr rfl) rfl ?_
  refine Q_v ((opv_load rfl (Rd.look rfl)).as (congrArg (Value.int .i64) hg)) rfl ?_
  refine Q_call (RNum_spec x.g.toNat 2 (by omega) (by decide)) rfl rfl (fun _ _ => rfl) (fun _ _ => Ent.refl _) rfl ?_
  refine Q_v (opv_addS rfl rfl (by rw [be_size, be_size]; decide)) rfl ?_
  refine Q_v (opv_move rfl) rfl ?_
  first
    | refine Q_v (opv_lenL rfl) rfl ?_
    | refine Q_v (opv_lenS rfl) rfl ?_
  refine Q_v ((opv_add64 rfl rfl (by omega)).as (v' := .int .i64 ((8 + t.size : Nat) : Int)) (by rw [Int.natCast_add]; rfl)) rfl ?_
  refine Q_call (RNum_spec (8 + t.size) 2 (by omega) (by decide)) rfl rfl (fun _ _ => rfl) (fun _ _ => Ent.refl _) rfl ?_
  refine Q_v (opv_addS rfl rfl (by rw [hz1, be_size]; decide)) rfl ?_
  refine Q_v (opv_assign rfl) rfl ?_
  refine QL_nil ?_
  refine K_then ?_
  refine J_seq ?_
  refine J_region ?_
  refine L_v (opv_move rfl) rfl ?_
  first
    | refine L_v (opv_fieldAddr0 rfl) rfl ?_
    | refine L_v (opv_fieldAddr rfl) rfl ?_
  refine L_v (opv_load rfl (Rd.look rfl)) rfl ?_
  first
    | refine L_v (opv_fieldAddr0 rfl) rfl ?_
    | refine L_v (opv_fieldAddr rfl) rfl ?_
  refine L_v (opv_load rfl (Rd.look rfl)) rfl ?_
  refine L_v (opv_move rfl) rfl ?_
  refine L_v (opv_addS rfl rfl (by rw [hz2]; decide)) rfl ?_
  refine L_v (opv_move rfl) rfl ?_
  refine L_v (opv_addS rfl rfl (by rw [hz3]; omega)) rfl ?_
  refine L_x rfl (opx_call0 (RSum_spec x.a x.b (be x.f.toNat 2 ++ be x.g.toNat 2 ++ be (8 + t.size) 2 ++ ⟨#[0, 0]⟩ ++ t) rfl rfl (by rw [ByteArray.size_append, hz3]; omega)) rfl rfl rfl) (fun _ _ => ?_)
  refine L_emp ?_
  refine L_x rfl (opx_call0 (RNum_spec (usum x.a x.b (be x.f.toNat 2 ++ be x.g.toNat 2 ++ be (8 + t.size) 2 ++ ⟨#[0, 0]⟩ ++ t)) 2 (by omega) (by decide)) rfl rfl rfl) (fun _ _ => ?_)
  refine L_emp ?_
  refine L_v (opv_addS rfl rfl (by rw [hz2, be_size]; decide)) rfl ?_
  refine L_v (opv_move rfl) rfl ?_
  refine L_v ((opv_addS rfl rfl (by rw [hz5]; omega)).as (congrArg Value.string (datag_lit x t))) rfl ?_
  refine L_v (opv_assign rfl) rfl ?_
  refine L_v (opv_assign rfl) rfl ?_
  refine L_nil ?_
  refine K_then ?_
  refine J_ret ?_
  exact K_ret2 rfl rfl rfl () trivial rfl Ent.take

end Go.Proofs.Ytdmlcnecildliaa
