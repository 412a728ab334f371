/- What the functions compute, and that they do (printed by wip/gen/gen.py), part 3. -/
import Derived.Test.YtnmicfhdpnabcaaGenTb
namespace Go.Proofs.Ytnmicfhdpnabcaa
open Go Go.Ab
set_option maxRecDepth 20000
set_option linter.unusedVariables false
set_option linter.unusedSimpArgs false
def windlassref19_Bytes_s (fuel : Nat) (t_00 : Tables) : Option (List Int) :=
  ((windlassref19_put_n_s fuel (List.length t_00.Funcs : Int)).bind fun (put_1 : (List Int)) => ((rng (fun (i_3 : Nat) (r_4 : FuncRow) (s_2 : (List Int)) => (((windlassref19_put_r_s fuel s_2 r_4.Start).bind fun (put_6 : (List Int)) => ((windlassref19_put_r_s fuel put_6 r_4.Stop).bind fun (put_7 : (List Int)) => ((windlassref19_put_r_s fuel put_7 r_4.Size).bind fun (put_8 : (List Int)) => ((windlassref19_put_r_s fuel put_8 (I64 (r_4.Resume + 1))).bind fun (put_9 : (List Int)) => ((windlassref19_put_r_s fuel put_9 (List.length r_4.Params : Int)).bind fun (put_10 : (List Int)) => ((rng (fun (i_12 : Nat) (k_13 : Int) (s_11 : (List Int)) => (((windlassref19_put_r_s fuel s_11 (I64 k_13)).bind fun (put_15 : (List Int)) => (some (.nxt put_15))) : Option (Stp (List Int) (Option (Stp (List Int) (Option (List Int))))))) r_4.Params put_10).bind (oc (fun (s_11 : (List Int)) => ((windlassref19_put_r_s fuel s_11 (List.length r_4.Saves : Int)).bind fun (put_16 : (List Int)) => ((rng (fun (i_18 : Nat) (s_19 : Save) (s_17 : (List Int)) => (((windlassref19_put_r_s fuel s_17 s_19.Reg).bind fun (put_21 : (List Int)) => ((windlassref19_put_r_s fuel put_21 s_19.Off).bind fun (put_22 : (List Int)) => (some (.nxt put_22)))) : Option (Stp (List Int) (Option (Stp (List Int) (Option (List Int))))))) r_4.Saves put_16).bind (oc (fun (s_17 : (List Int)) => (some (.nxt s_17)))))))))))))) : Option (Stp (List Int) (Option (List Int))))) t_00.Funcs put_1).bind (oc (fun (s_2 : (List Int)) => ((windlassref19_put_r_s fuel s_2 (List.length t_00.Sites : Int)).bind fun (put_23 : (List Int)) => ((rng (fun (i_25 : Nat) (s_26 : Site) (s_24 : (List Int)) => (((windlassref19_put_r_s fuel s_24 s_26.At).bind fun (put_28 : (List Int)) => ((windlassref19_put_r_s fuel put_28 (List.length s_26.Live : Int)).bind fun (put_29 : (List Int)) => ((rng (fun (i_31 : Nat) (o_32 : Int) (s_30 : (List Int)) => (((windlassref19_put_r_s fuel s_30 o_32).bind fun (put_34 : (List Int)) => (some (.nxt put_34))) : Option (Stp (List Int) (Option (Stp (List Int) (Option (List Int))))))) s_26.Live put_29).bind (oc (fun (s_30 : (List Int)) => (some (.nxt s_30))))))) : Option (Stp (List Int) (Option (List Int))))) t_00.Sites put_23).bind (oc (fun (s_24 : (List Int)) => (some s_24)))))))))
theorem windlassref19_Bytes_ev {fuel : Nat} {t_00 : Tables} {r : (List Int)} (h : windlassref19_Bytes_s fuel t_00 = some r) : PureEv Try.prog 17 [(Tables.av t_00)] (.sl false 1 (List.map (avI .u8) r)) := by
  unfold windlassref19_Bytes_s at h
  refine PureEv_end mixed fn17 (by simp) [5, 9, 11] 6 ?_
  unfold fc17
  refine E_sq ?_
  refine E_reg ?_
  refine E_op0 (v' := (.cptr (Tables.av t_00).cells 0)) rfl rfl ?_
  refine E_mv (v' := .nils) rfl ?_
  refine E_nil ?_
  refine E_nx ?_
  refine E_sq ?_
  refine E_reg ?_
  refine E_op0 (v' := (.cptr (Tables.av t_00).cells 0)) rfl rfl ?_
  refine E_op0 (v' := (.sl false 6 (List.map FuncRow.av t_00.Funcs))) rfl rfl ?_
  refine E_len rfl ?_
  obtain ⟨put_1, hput_1, h⟩ := bd_some h
  refine E_callF (S' := [.arr 1 (flat (avI .u8) put_1)]) (r' := (.ref 0 1 0 (List.length put_1) none)) (windlassref19_put_n_ev (fuel := fuel) hput_1) [] rfl rfl (by decide) rfl rfl trivial ⟨(fr_outN rfl rfl (.refl ((encI .u8).blwf 0 _)) rfl), trivial⟩ trivial rfl (.cons (rn_b rfl) (.cons (.base rfl (.refl _)) (.nil (Nat.zero_le _)))) (fo_ref rfl rfl rfl rfl) ?_
  refine E_mv (v' := (.ref 0 1 0 (List.length put_1) none)) rfl ?_
  refine E_nil ?_
  refine E_nx ?_
  refine E_as ?_
  refine E_sq ?_
  refine E_reg ?_
  refine E_op0 (v' := (.cptr (Tables.av t_00).cells 0)) rfl rfl ?_
  refine E_op0 (v' := (.sl false 6 (List.map FuncRow.av t_00.Funcs))) rfl rfl ?_
  refine E_len rfl ?_
  refine E_mv (v' := (.int .i64 0)) rfl ?_
  refine E_nil ?_
  refine E_nx ?_
  refine E_sq ?_
  refine E_rngO (fun s_2 => [(1, (.cptr (Tables.av t_00).cells 0)), (3, (.ref 0 1 0 (List.length s_2) none)), (19, (.sl false 6 (List.map FuncRow.av t_00.Funcs)))]) (fun s_2 => [.arr 1 (flat (avI .u8) s_2)]) h (by decide) (by decide) (fun _ => ⟨rfl, rfl, rfl, rfl⟩) (wk_rn [some (0, 0)] rfl (Nat.le_of_ble_eq_true rfl) ⟨(rn_ob rfl rfl (.refl ((encI .u8).blwf 0 _)) rfl), trivial⟩ ⟨(rn_b rfl), (rn_b rfl), (rn_b (cp_blw (Tables.enc.blw _ 0))), (rn_refL (encI .u8) rfl rfl rfl), (rn_b (FuncRow.enc.blws 0)), trivial⟩) (fun i_3 r_4 s_2 c hx_5 hlt h => ?_) (fun s_2 fr' S' h hw => ?_)
  · refine E_sq ?_
    refine E_reg ?_
    refine E_iadF rfl rfl (getI_of hx_5) ?_
    refine E_op0 (v' := (FuncRow.av r_4)) rfl rfl ?_
    refine E_op (v' := .ptr 1 0 0) (S' := [.arr 1 (flat (avI .u8) s_2), .arr 0 [(.int .i64 0), (.int .i64 0), (.int .i64 0), .nils, .nils, (.int .i64 0)]]) rfl rfl rfl ?_
    refine E_do (S' := [.arr 1 (flat (avI .u8) s_2), .arr 0 [(.int .i64 r_4.Start), (.int .i64 r_4.Stop), (.int .i64 r_4.Size), (.sl false 1 (List.map (avI .u8) r_4.Params)), (.sl false 2 (List.map Save.av r_4.Saves)), (.int .i64 r_4.Resume)]]) rfl rfl ?_
    refine E_nil ?_
    refine E_nx ?_
    refine E_sq ?_
    refine E_reg ?_
    refine E_mv (v' := (.ref 0 1 0 (List.length s_2) none)) rfl ?_
    refine E_op0 (v' := (.ptr 1 0 0)) rfl rfl ?_
    refine E_op (v' := (.int .i64 r_4.Start)) (S' := [.arr 1 (flat (avI .u8) s_2), .arr 0 [(.int .i64 r_4.Start), (.int .i64 r_4.Stop), (.int .i64 r_4.Size), (.sl false 1 (List.map (avI .u8) r_4.Params)), (.sl false 2 (List.map Save.av r_4.Saves)), (.int .i64 r_4.Resume)]]) rfl rfl rfl ?_
    obtain ⟨put_6, hput_6, h⟩ := bd_some h
    refine E_callF (S' := [.arr 2 (flat (avI .u8) put_6), .arr 0 [(.int .i64 r_4.Start), (.int .i64 r_4.Stop), (.int .i64 r_4.Size), (.sl false 1 (List.map (avI .u8) r_4.Params)), (.sl false 2 (List.map Save.av r_4.Saves)), (.int .i64 r_4.Resume)]]) (r' := (.ref 0 2 0 (List.length put_6) none)) (windlassref19_put_r_ev (fuel := fuel) hput_6) [0] rfl rfl (by decide) rfl rfl ⟨(fr_in rfl rfl (.refl ((encI .u8).blwf 0 _))), trivial⟩ ⟨(fr_out rfl rfl (.refl ((encI .u8).blwf 0 _)) rfl rfl), trivial⟩ ⟨.inl rfl, .inr rfl, trivial⟩ rfl (.cons (fi_ref rfl rfl rfl rfl) (.cons (.base rfl (.refl _)) (.nil (Nat.zero_le _)))) (fo_ref rfl rfl rfl rfl) ?_
    refine E_mv (v' := (.ref 0 2 0 (List.length put_6) none)) rfl ?_
    refine E_nil ?_
    refine E_nx ?_
    refine E_sq ?_
    refine E_reg ?_
    refine E_mv (v' := (.ref 0 2 0 (List.length put_6) none)) rfl ?_
    refine E_op0 (v' := (.ptr 1 0 1)) rfl rfl ?_
    refine E_op (v' := (.int .i64 r_4.Stop)) (S' := [.arr 2 (flat (avI .u8) put_6), .arr 0 [(.int .i64 r_4.Start), (.int .i64 r_4.Stop), (.int .i64 r_4.Size), (.sl false 1 (List.map (avI .u8) r_4.Params)), (.sl false 2 (List.map Save.av r_4.Saves)), (.int .i64 r_4.Resume)]]) rfl rfl rfl ?_
    obtain ⟨put_7, hput_7, h⟩ := bd_some h
    refine E_callF (S' := [.arr 3 (flat (avI .u8) put_7), .arr 0 [(.int .i64 r_4.Start), (.int .i64 r_4.Stop), (.int .i64 r_4.Size), (.sl false 1 (List.map (avI .u8) r_4.Params)), (.sl false 2 (List.map Save.av r_4.Saves)), (.int .i64 r_4.Resume)]]) (r' := (.ref 0 3 0 (List.length put_7) none)) (windlassref19_put_r_ev (fuel := fuel) hput_7) [0] rfl rfl (by decide) rfl rfl ⟨(fr_in rfl rfl (.refl ((encI .u8).blwf 0 _))), trivial⟩ ⟨(fr_out rfl rfl (.refl ((encI .u8).blwf 0 _)) rfl rfl), trivial⟩ ⟨.inl rfl, .inr rfl, trivial⟩ rfl (.cons (fi_ref rfl rfl rfl rfl) (.cons (.base rfl (.refl _)) (.nil (Nat.zero_le _)))) (fo_ref rfl rfl rfl rfl) ?_
    refine E_mv (v' := (.ref 0 3 0 (List.length put_7) none)) rfl ?_
    refine E_nil ?_
    refine E_nx ?_
    refine E_sq ?_
    refine E_reg ?_
    refine E_mv (v' := (.ref 0 3 0 (List.length put_7) none)) rfl ?_
    refine E_op0 (v' := (.ptr 1 0 2)) rfl rfl ?_
    refine E_op (v' := (.int .i64 r_4.Size)) (S' := [.arr 3 (flat (avI .u8) put_7), .arr 0 [(.int .i64 r_4.Start), (.int .i64 r_4.Stop), (.int .i64 r_4.Size), (.sl false 1 (List.map (avI .u8) r_4.Params)), (.sl false 2 (List.map Save.av r_4.Saves)), (.int .i64 r_4.Resume)]]) rfl rfl rfl ?_
    obtain ⟨put_8, hput_8, h⟩ := bd_some h
    refine E_callF (S' := [.arr 4 (flat (avI .u8) put_8), .arr 0 [(.int .i64 r_4.Start), (.int .i64 r_4.Stop), (.int .i64 r_4.Size), (.sl false 1 (List.map (avI .u8) r_4.Params)), (.sl false 2 (List.map Save.av r_4.Saves)), (.int .i64 r_4.Resume)]]) (r' := (.ref 0 4 0 (List.length put_8) none)) (windlassref19_put_r_ev (fuel := fuel) hput_8) [0] rfl rfl (by decide) rfl rfl ⟨(fr_in rfl rfl (.refl ((encI .u8).blwf 0 _))), trivial⟩ ⟨(fr_out rfl rfl (.refl ((encI .u8).blwf 0 _)) rfl rfl), trivial⟩ ⟨.inl rfl, .inr rfl, trivial⟩ rfl (.cons (fi_ref rfl rfl rfl rfl) (.cons (.base rfl (.refl _)) (.nil (Nat.zero_le _)))) (fo_ref rfl rfl rfl rfl) ?_
    refine E_mv (v' := (.ref 0 4 0 (List.length put_8) none)) rfl ?_
    refine E_nil ?_
    refine E_nx ?_
    refine E_sq ?_
    refine E_reg ?_
    refine E_mv (v' := (.ref 0 4 0 (List.length put_8) none)) rfl ?_
    refine E_op0 (v' := (.ptr 1 0 5)) rfl rfl ?_
    refine E_op (v' := (.int .i64 r_4.Resume)) (S' := [.arr 4 (flat (avI .u8) put_8), .arr 0 [(.int .i64 r_4.Start), (.int .i64 r_4.Stop), (.int .i64 r_4.Size), (.sl false 1 (List.map (avI .u8) r_4.Params)), (.sl false 2 (List.map Save.av r_4.Saves)), (.int .i64 r_4.Resume)]]) rfl rfl rfl ?_
    refine E_op0 (v' := (.int .i64 (I64 (r_4.Resume + 1)))) rfl rfl ?_
    obtain ⟨put_9, hput_9, h⟩ := bd_some h
    refine E_callF (S' := [.arr 5 (flat (avI .u8) put_9), .arr 0 [(.int .i64 r_4.Start), (.int .i64 r_4.Stop), (.int .i64 r_4.Size), (.sl false 1 (List.map (avI .u8) r_4.Params)), (.sl false 2 (List.map Save.av r_4.Saves)), (.int .i64 r_4.Resume)]]) (r' := (.ref 0 5 0 (List.length put_9) none)) (windlassref19_put_r_ev (fuel := fuel) hput_9) [0] rfl rfl (by decide) rfl rfl ⟨(fr_in rfl rfl (.refl ((encI .u8).blwf 0 _))), trivial⟩ ⟨(fr_out rfl rfl (.refl ((encI .u8).blwf 0 _)) rfl rfl), trivial⟩ ⟨.inl rfl, .inr rfl, trivial⟩ rfl (.cons (fi_ref rfl rfl rfl rfl) (.cons (.base rfl (.refl _)) (.nil (Nat.zero_le _)))) (fo_ref rfl rfl rfl rfl) ?_
    refine E_mv (v' := (.ref 0 5 0 (List.length put_9) none)) rfl ?_
    refine E_nil ?_
    refine E_nx ?_
    refine E_sq ?_
    refine E_reg ?_
    refine E_mv (v' := (.ref 0 5 0 (List.length put_9) none)) rfl ?_
    refine E_op0 (v' := (.ptr 1 0 3)) rfl rfl ?_
    refine E_op (v' := (.sl false 1 (List.map (avI .u8) r_4.Params))) (S' := [.arr 5 (flat (avI .u8) put_9), .arr 0 [(.int .i64 r_4.Start), (.int .i64 r_4.Stop), (.int .i64 r_4.Size), (.sl false 1 (List.map (avI .u8) r_4.Params)), (.sl false 2 (List.map Save.av r_4.Saves)), (.int .i64 r_4.Resume)]]) rfl rfl rfl ?_
    refine E_len rfl ?_
    obtain ⟨put_10, hput_10, h⟩ := bd_some h
    refine E_callF (S' := [.arr 6 (flat (avI .u8) put_10), .arr 0 [(.int .i64 r_4.Start), (.int .i64 r_4.Stop), (.int .i64 r_4.Size), (.sl false 1 (List.map (avI .u8) r_4.Params)), (.sl false 2 (List.map Save.av r_4.Saves)), (.int .i64 r_4.Resume)]]) (r' := (.ref 0 6 0 (List.length put_10) none)) (windlassref19_put_r_ev (fuel := fuel) hput_10) [0] rfl rfl (by decide) rfl rfl ⟨(fr_in rfl rfl (.refl ((encI .u8).blwf 0 _))), trivial⟩ ⟨(fr_out rfl rfl (.refl ((encI .u8).blwf 0 _)) rfl rfl), trivial⟩ ⟨.inl rfl, .inr rfl, trivial⟩ rfl (.cons (fi_ref rfl rfl rfl rfl) (.cons (.base rfl (.refl _)) (.nil (Nat.zero_le _)))) (fo_ref rfl rfl rfl rfl) ?_
    refine E_mv (v' := (.ref 0 6 0 (List.length put_10) none)) rfl ?_
    refine E_nil ?_
    refine E_nx ?_
    refine E_as ?_
    refine E_sq ?_
    refine E_reg ?_
    refine E_op0 (v' := (.ptr 1 0 3)) rfl rfl ?_
    refine E_op (v' := (.sl false 1 (List.map (avI .u8) r_4.Params))) (S' := [.arr 6 (flat (avI .u8) put_10), .arr 0 [(.int .i64 r_4.Start), (.int .i64 r_4.Stop), (.int .i64 r_4.Size), (.sl false 1 (List.map (avI .u8) r_4.Params)), (.sl false 2 (List.map Save.av r_4.Saves)), (.int .i64 r_4.Resume)]]) rfl rfl rfl ?_
    refine E_len rfl ?_
    refine E_mv (v' := (.int .i64 0)) rfl ?_
    refine E_nil ?_
    refine E_nx ?_
    refine E_sq ?_
    refine E_rngO (fun s_11 => [(1, (.cptr (Tables.av t_00).cells 0)), (3, (.ref 0 1 0 (List.length s_11) none)), (5, (.ptr 1 0 0)), (19, (.sl false 6 (List.map FuncRow.av t_00.Funcs))), (20, (.int .i64 (List.length t_00.Funcs : Int))), (21, (.int .i64 (i_3 : Int))), (48, (.sl false 1 (List.map (avI .u8) r_4.Params)))]) (fun s_11 => [.arr 1 (flat (avI .u8) s_11), .arr 0 [(.int .i64 r_4.Start), (.int .i64 r_4.Stop), (.int .i64 r_4.Size), (.sl false 1 (List.map (avI .u8) r_4.Params)), (.sl false 2 (List.map Save.av r_4.Saves)), (.int .i64 r_4.Resume)]]) h (by decide) (by decide) (fun _ => ⟨rfl, rfl, rfl, rfl⟩) (wk_rn [some (0, 0), some (1, 0)] rfl (Nat.le_of_ble_eq_true rfl) ⟨(rn_ob rfl rfl (.refl ((encI .u8).blwf 0 _)) rfl), (rn_ob rfl rfl (.cons (rn_b rfl) (.cons (rn_b rfl) (.cons (rn_b rfl) (.cons (rn_b ((encI .u8).blws 0)) (.cons (rn_b (Save.enc.blws 0)) (.cons (rn_b rfl) (.nil (Nat.zero_le _)))))))) rfl), trivial⟩ ⟨(rn_b rfl), (rn_b rfl), (rn_b (cp_blw (Tables.enc.blw _ 0))), (rn_refL (encI .u8) rfl rfl rfl), (rn_ptr rfl rfl rfl rfl), (rn_b (FuncRow.enc.blws 0)), (rn_b rfl), (rn_b rfl), (rn_b ((encI .u8).blws 0)), trivial⟩) (fun i_12 k_13 s_11 c hx_14 hlt h => ?_) (fun s_11 fr' S' h hw => ?_)
    · refine E_sq ?_
      refine E_reg ?_
      refine E_iadF rfl rfl (getI_of hx_14) ?_
      refine E_op0 (v' := (.int .u8 k_13)) rfl rfl ?_
      refine E_mv (v' := (.int .u8 k_13)) rfl ?_
      refine E_nil ?_
      refine E_nx ?_
      refine E_reg ?_
      refine E_mv (v' := (.ref 0 1 0 (List.length s_11) none)) rfl ?_
      refine E_mv (v' := (.int .u8 k_13)) rfl ?_
      refine E_op0 (v' := (.int .i64 (I64 k_13))) rfl rfl ?_
      obtain ⟨put_15, hput_15, h⟩ := bd_some h
      refine E_callF (S' := [.arr 2 (flat (avI .u8) put_15), .arr 0 [(.int .i64 r_4.Start), (.int .i64 r_4.Stop), (.int .i64 r_4.Size), (.sl false 1 (List.map (avI .u8) r_4.Params)), (.sl false 2 (List.map Save.av r_4.Saves)), (.int .i64 r_4.Resume)]]) (r' := (.ref 0 2 0 (List.length put_15) none)) (windlassref19_put_r_ev (fuel := fuel) hput_15) [0] rfl rfl (by decide) rfl rfl ⟨(fr_in rfl rfl (.refl ((encI .u8).blwf 0 _))), trivial⟩ ⟨(fr_out rfl rfl (.refl ((encI .u8).blwf 0 _)) rfl rfl), trivial⟩ ⟨.inl rfl, .inr rfl, trivial⟩ rfl (.cons (fi_ref rfl rfl rfl rfl) (.cons (.base rfl (.refl _)) (.nil (Nat.zero_le _)))) (fo_ref rfl rfl rfl rfl) ?_
      refine E_mv (v' := (.ref 0 2 0 (List.length put_15) none)) rfl ?_
      refine E_nil ?_
      cases h
      exact L_nn rfl (wk_rn [some (0, 0), some (1, 0)] rfl (Nat.le_of_ble_eq_true rfl) ⟨(rn_ob rfl rfl (.refl ((encI .u8).blwf 0 _)) rfl), (rn_ob rfl rfl (.cons (rn_b rfl) (.cons (rn_b rfl) (.cons (rn_b rfl) (.cons (rn_b ((encI .u8).blws 0)) (.cons (rn_b (Save.enc.blws 0)) (.cons (rn_b rfl) (.nil (Nat.zero_le _)))))))) rfl), trivial⟩ ⟨(rn_b rfl), (rn_b rfl), (rn_b (cp_blw (Tables.enc.blw _ 0))), (rn_refL (encI .u8) rfl rfl rfl), (rn_ptr rfl rfl rfl rfl), (rn_b (FuncRow.enc.blws 0)), (rn_b rfl), (rn_b rfl), (rn_b ((encI .u8).blws 0)), trivial⟩)
    · refine X_nx hw ?_
      refine E_sq ?_
      refine E_reg ?_
      refine E_mv (v' := (.ref 0 1 0 (List.length s_11) none)) rfl ?_
      refine E_op0 (v' := (.ptr 1 0 4)) rfl rfl ?_
      refine E_op (v' := (.sl false 2 (List.map Save.av r_4.Saves))) (S' := [.arr 1 (flat (avI .u8) s_11), .arr 0 [(.int .i64 r_4.Start), (.int .i64 r_4.Stop), (.int .i64 r_4.Size), (.sl false 1 (List.map (avI .u8) r_4.Params)), (.sl false 2 (List.map Save.av r_4.Saves)), (.int .i64 r_4.Resume)]]) rfl rfl rfl ?_
      refine E_len rfl ?_
      obtain ⟨put_16, hput_16, h⟩ := bd_some h
      refine E_callF (S' := [.arr 2 (flat (avI .u8) put_16), .arr 0 [(.int .i64 r_4.Start), (.int .i64 r_4.Stop), (.int .i64 r_4.Size), (.sl false 1 (List.map (avI .u8) r_4.Params)), (.sl false 2 (List.map Save.av r_4.Saves)), (.int .i64 r_4.Resume)]]) (r' := (.ref 0 2 0 (List.length put_16) none)) (windlassref19_put_r_ev (fuel := fuel) hput_16) [0] rfl rfl (by decide) rfl rfl ⟨(fr_in rfl rfl (.refl ((encI .u8).blwf 0 _))), trivial⟩ ⟨(fr_out rfl rfl (.refl ((encI .u8).blwf 0 _)) rfl rfl), trivial⟩ ⟨.inl rfl, .inr rfl, trivial⟩ rfl (.cons (fi_ref rfl rfl rfl rfl) (.cons (.base rfl (.refl _)) (.nil (Nat.zero_le _)))) (fo_ref rfl rfl rfl rfl) ?_
      refine E_mv (v' := (.ref 0 2 0 (List.length put_16) none)) rfl ?_
      refine E_nil ?_
      refine E_nx ?_
      refine E_sq ?_
      refine E_reg ?_
      refine E_op0 (v' := (.ptr 1 0 4)) rfl rfl ?_
      refine E_op (v' := (.sl false 2 (List.map Save.av r_4.Saves))) (S' := [.arr 2 (flat (avI .u8) put_16), .arr 0 [(.int .i64 r_4.Start), (.int .i64 r_4.Stop), (.int .i64 r_4.Size), (.sl false 1 (List.map (avI .u8) r_4.Params)), (.sl false 2 (List.map Save.av r_4.Saves)), (.int .i64 r_4.Resume)]]) rfl rfl rfl ?_
      refine E_len rfl ?_
      refine E_mv (v' := (.int .i64 0)) rfl ?_
      refine E_nil ?_
      refine E_nx ?_
      refine E_rngO (fun s_17 => [(1, (.cptr (Tables.av t_00).cells 0)), (3, (.ref 0 1 0 (List.length s_17) none)), (19, (.sl false 6 (List.map FuncRow.av t_00.Funcs))), (20, (.int .i64 (List.length t_00.Funcs : Int))), (21, (.int .i64 (i_3 : Int))), (65, (.sl false 2 (List.map Save.av r_4.Saves)))]) (fun s_17 => [.arr 1 (flat (avI .u8) s_17)]) h (by decide) (by decide) (fun _ => ⟨rfl, rfl, rfl, rfl⟩) (wk_rn [some (0, 0)] rfl (Nat.le_of_ble_eq_true rfl) ⟨(rn_ob rfl rfl (.refl ((encI .u8).blwf 0 _)) rfl), trivial⟩ ⟨(rn_b rfl), (rn_b rfl), (rn_b (cp_blw (Tables.enc.blw _ 0))), (rn_refL (encI .u8) rfl rfl rfl), (rn_b (FuncRow.enc.blws 0)), (rn_b rfl), (rn_b rfl), (rn_b (Save.enc.blws 0)), trivial⟩) (fun i_18 s_19 s_17 c hx_20 hlt h => ?_) (fun s_17 fr' S' h hw => ?_)
      · refine E_sq ?_
        refine E_reg ?_
        refine E_iadF rfl rfl (getI_of hx_20) ?_
        refine E_op0 (v' := (Save.av s_19)) rfl rfl ?_
        refine E_op (v' := .ptr 1 0 0) (S' := [.arr 1 (flat (avI .u8) s_17), .arr 0 [(.int .i64 0), (.int .i64 0)]]) rfl rfl rfl ?_
        refine E_do (S' := [.arr 1 (flat (avI .u8) s_17), .arr 0 [(.int .i64 s_19.Reg), (.int .i64 s_19.Off)]]) rfl rfl ?_
        refine E_nil ?_
        refine E_nx ?_
        refine E_sq ?_
        refine E_reg ?_
        refine E_mv (v' := (.ref 0 1 0 (List.length s_17) none)) rfl ?_
        refine E_op0 (v' := (.ptr 1 0 0)) rfl rfl ?_
        refine E_op (v' := (.int .i64 s_19.Reg)) (S' := [.arr 1 (flat (avI .u8) s_17), .arr 0 [(.int .i64 s_19.Reg), (.int .i64 s_19.Off)]]) rfl rfl rfl ?_
        obtain ⟨put_21, hput_21, h⟩ := bd_some h
        refine E_callF (S' := [.arr 2 (flat (avI .u8) put_21), .arr 0 [(.int .i64 s_19.Reg), (.int .i64 s_19.Off)]]) (r' := (.ref 0 2 0 (List.length put_21) none)) (windlassref19_put_r_ev (fuel := fuel) hput_21) [0] rfl rfl (by decide) rfl rfl ⟨(fr_in rfl rfl (.refl ((encI .u8).blwf 0 _))), trivial⟩ ⟨(fr_out rfl rfl (.refl ((encI .u8).blwf 0 _)) rfl rfl), trivial⟩ ⟨.inl rfl, .inr rfl, trivial⟩ rfl (.cons (fi_ref rfl rfl rfl rfl) (.cons (.base rfl (.refl _)) (.nil (Nat.zero_le _)))) (fo_ref rfl rfl rfl rfl) ?_
        refine E_mv (v' := (.ref 0 2 0 (List.length put_21) none)) rfl ?_
        refine E_nil ?_
        refine E_nx ?_
        refine E_reg ?_
        refine E_mv (v' := (.ref 0 2 0 (List.length put_21) none)) rfl ?_
        refine E_op0 (v' := (.ptr 1 0 1)) rfl rfl ?_
        refine E_op (v' := (.int .i64 s_19.Off)) (S' := [.arr 2 (flat (avI .u8) put_21), .arr 0 [(.int .i64 s_19.Reg), (.int .i64 s_19.Off)]]) rfl rfl rfl ?_
        obtain ⟨put_22, hput_22, h⟩ := bd_some h
        refine E_callF (S' := [.arr 3 (flat (avI .u8) put_22), .arr 0 [(.int .i64 s_19.Reg), (.int .i64 s_19.Off)]]) (r' := (.ref 0 3 0 (List.length put_22) none)) (windlassref19_put_r_ev (fuel := fuel) hput_22) [0] rfl rfl (by decide) rfl rfl ⟨(fr_in rfl rfl (.refl ((encI .u8).blwf 0 _))), trivial⟩ ⟨(fr_out rfl rfl (.refl ((encI .u8).blwf 0 _)) rfl rfl), trivial⟩ ⟨.inl rfl, .inr rfl, trivial⟩ rfl (.cons (fi_ref rfl rfl rfl rfl) (.cons (.base rfl (.refl _)) (.nil (Nat.zero_le _)))) (fo_ref rfl rfl rfl rfl) ?_
        refine E_mv (v' := (.ref 0 3 0 (List.length put_22) none)) rfl ?_
        refine E_nil ?_
        cases h
        exact L_nn rfl (wk_rn [some (0, 0)] rfl (Nat.le_of_ble_eq_true rfl) ⟨(rn_ob rfl rfl (.refl ((encI .u8).blwf 0 _)) rfl), trivial⟩ ⟨(rn_b rfl), (rn_b rfl), (rn_b (cp_blw (Tables.enc.blw _ 0))), (rn_refL (encI .u8) rfl rfl rfl), (rn_b (FuncRow.enc.blws 0)), (rn_b rfl), (rn_b rfl), (rn_b (Save.enc.blws 0)), trivial⟩)
      · cases h
        exact X_nn rfl hw (wk_rn [some (0, 0)] rfl (Nat.le_of_ble_eq_true rfl) ⟨(rn_ob rfl rfl (.refl ((encI .u8).blwf 0 _)) rfl), trivial⟩ ⟨(rn_b rfl), (rn_b rfl), (rn_b (cp_blw (Tables.enc.blw _ 0))), (rn_refL (encI .u8) rfl rfl rfl), (rn_b (FuncRow.enc.blws 0)), trivial⟩)
  · refine X_nx hw ?_
    refine E_sq ?_
    refine E_reg ?_
    refine E_mv (v' := (.ref 0 1 0 (List.length s_2) none)) rfl ?_
    refine E_op0 (v' := (.cptr (Tables.av t_00).cells 1)) rfl rfl ?_
    refine E_op0 (v' := (.sl false 2 (List.map Site.av t_00.Sites))) rfl rfl ?_
    refine E_len rfl ?_
    obtain ⟨put_23, hput_23, h⟩ := bd_some h
    refine E_callF (S' := [.arr 2 (flat (avI .u8) put_23)]) (r' := (.ref 0 2 0 (List.length put_23) none)) (windlassref19_put_r_ev (fuel := fuel) hput_23) [0] rfl rfl (by decide) rfl rfl ⟨(fr_in rfl rfl (.refl ((encI .u8).blwf 0 _))), trivial⟩ ⟨(fr_out rfl rfl (.refl ((encI .u8).blwf 0 _)) rfl rfl), trivial⟩ ⟨.inl rfl, trivial⟩ rfl (.cons (fi_ref rfl rfl rfl rfl) (.cons (.base rfl (.refl _)) (.nil (Nat.zero_le _)))) (fo_ref rfl rfl rfl rfl) ?_
    refine E_mv (v' := (.ref 0 2 0 (List.length put_23) none)) rfl ?_
    refine E_nil ?_
    refine E_nx ?_
    refine E_as ?_
    refine E_sq ?_
    refine E_reg ?_
    refine E_op0 (v' := (.cptr (Tables.av t_00).cells 1)) rfl rfl ?_
    refine E_op0 (v' := (.sl false 2 (List.map Site.av t_00.Sites))) rfl rfl ?_
    refine E_len rfl ?_
    refine E_mv (v' := (.int .i64 0)) rfl ?_
    refine E_nil ?_
    refine E_nx ?_
    refine E_sq ?_
    refine E_rngO (fun s_24 => [(3, (.ref 0 1 0 (List.length s_24) none)), (87, (.sl false 2 (List.map Site.av t_00.Sites)))]) (fun s_24 => [.arr 1 (flat (avI .u8) s_24)]) h (by decide) (by decide) (fun _ => ⟨rfl, rfl, rfl, rfl⟩) (wk_rn [some (0, 0)] rfl (Nat.le_of_ble_eq_true rfl) ⟨(rn_ob rfl rfl (.refl ((encI .u8).blwf 0 _)) rfl), trivial⟩ ⟨(rn_b rfl), (rn_b rfl), (rn_refL (encI .u8) rfl rfl rfl), (rn_b (Site.enc.blws 0)), trivial⟩) (fun i_25 s_26 s_24 c hx_27 hlt h => ?_) (fun s_24 fr' S' h hw => ?_)
    · refine E_sq ?_
      refine E_reg ?_
      refine E_iadF rfl rfl (getI_of hx_27) ?_
      refine E_op0 (v' := (Site.av s_26)) rfl rfl ?_
      refine E_op (v' := .ptr 1 0 0) (S' := [.arr 1 (flat (avI .u8) s_24), .arr 0 [(.int .i64 0), .nils]]) rfl rfl rfl ?_
      refine E_do (S' := [.arr 1 (flat (avI .u8) s_24), .arr 0 [(.int .i64 s_26.At), (.sl false 1 (List.map (avI .i64) s_26.Live))]]) rfl rfl ?_
      refine E_nil ?_
      refine E_nx ?_
      refine E_sq ?_
      refine E_reg ?_
      refine E_mv (v' := (.ref 0 1 0 (List.length s_24) none)) rfl ?_
      refine E_op0 (v' := (.ptr 1 0 0)) rfl rfl ?_
      refine E_op (v' := (.int .i64 s_26.At)) (S' := [.arr 1 (flat (avI .u8) s_24), .arr 0 [(.int .i64 s_26.At), (.sl false 1 (List.map (avI .i64) s_26.Live))]]) rfl rfl rfl ?_
      obtain ⟨put_28, hput_28, h⟩ := bd_some h
      refine E_callF (S' := [.arr 2 (flat (avI .u8) put_28), .arr 0 [(.int .i64 s_26.At), (.sl false 1 (List.map (avI .i64) s_26.Live))]]) (r' := (.ref 0 2 0 (List.length put_28) none)) (windlassref19_put_r_ev (fuel := fuel) hput_28) [0] rfl rfl (by decide) rfl rfl ⟨(fr_in rfl rfl (.refl ((encI .u8).blwf 0 _))), trivial⟩ ⟨(fr_out rfl rfl (.refl ((encI .u8).blwf 0 _)) rfl rfl), trivial⟩ ⟨.inl rfl, .inr rfl, trivial⟩ rfl (.cons (fi_ref rfl rfl rfl rfl) (.cons (.base rfl (.refl _)) (.nil (Nat.zero_le _)))) (fo_ref rfl rfl rfl rfl) ?_
      refine E_mv (v' := (.ref 0 2 0 (List.length put_28) none)) rfl ?_
      refine E_nil ?_
      refine E_nx ?_
      refine E_sq ?_
      refine E_reg ?_
      refine E_mv (v' := (.ref 0 2 0 (List.length put_28) none)) rfl ?_
      refine E_op0 (v' := (.ptr 1 0 1)) rfl rfl ?_
      refine E_op (v' := (.sl false 1 (List.map (avI .i64) s_26.Live))) (S' := [.arr 2 (flat (avI .u8) put_28), .arr 0 [(.int .i64 s_26.At), (.sl false 1 (List.map (avI .i64) s_26.Live))]]) rfl rfl rfl ?_
      refine E_len rfl ?_
      obtain ⟨put_29, hput_29, h⟩ := bd_some h
      refine E_callF (S' := [.arr 3 (flat (avI .u8) put_29), .arr 0 [(.int .i64 s_26.At), (.sl false 1 (List.map (avI .i64) s_26.Live))]]) (r' := (.ref 0 3 0 (List.length put_29) none)) (windlassref19_put_r_ev (fuel := fuel) hput_29) [0] rfl rfl (by decide) rfl rfl ⟨(fr_in rfl rfl (.refl ((encI .u8).blwf 0 _))), trivial⟩ ⟨(fr_out rfl rfl (.refl ((encI .u8).blwf 0 _)) rfl rfl), trivial⟩ ⟨.inl rfl, .inr rfl, trivial⟩ rfl (.cons (fi_ref rfl rfl rfl rfl) (.cons (.base rfl (.refl _)) (.nil (Nat.zero_le _)))) (fo_ref rfl rfl rfl rfl) ?_
      refine E_mv (v' := (.ref 0 3 0 (List.length put_29) none)) rfl ?_
      refine E_nil ?_
      refine E_nx ?_
      refine E_sq ?_
      refine E_reg ?_
      refine E_op0 (v' := (.ptr 1 0 1)) rfl rfl ?_
      refine E_op (v' := (.sl false 1 (List.map (avI .i64) s_26.Live))) (S' := [.arr 3 (flat (avI .u8) put_29), .arr 0 [(.int .i64 s_26.At), (.sl false 1 (List.map (avI .i64) s_26.Live))]]) rfl rfl rfl ?_
      refine E_len rfl ?_
      refine E_mv (v' := (.int .i64 0)) rfl ?_
      refine E_nil ?_
      refine E_nx ?_
      refine E_rngO (fun s_30 => [(3, (.ref 0 1 0 (List.length s_30) none)), (87, (.sl false 2 (List.map Site.av t_00.Sites))), (88, (.int .i64 (List.length t_00.Sites : Int))), (89, (.int .i64 (i_25 : Int))), (103, (.sl false 1 (List.map (avI .i64) s_26.Live)))]) (fun s_30 => [.arr 1 (flat (avI .u8) s_30)]) h (by decide) (by decide) (fun _ => ⟨rfl, rfl, rfl, rfl⟩) (wk_rn [some (0, 0)] rfl (Nat.le_of_ble_eq_true rfl) ⟨(rn_ob rfl rfl (.refl ((encI .u8).blwf 0 _)) rfl), trivial⟩ ⟨(rn_b rfl), (rn_b rfl), (rn_refL (encI .u8) rfl rfl rfl), (rn_b (Site.enc.blws 0)), (rn_b rfl), (rn_b rfl), (rn_b ((encI .i64).blws 0)), trivial⟩) (fun i_31 o_32 s_30 c hx_33 hlt h => ?_) (fun s_30 fr' S' h hw => ?_)
      · refine E_sq ?_
        refine E_reg ?_
        refine E_iadF rfl rfl (getI_of hx_33) ?_
        refine E_op0 (v' := (.int .i64 o_32)) rfl rfl ?_
        refine E_mv (v' := (.int .i64 o_32)) rfl ?_
        refine E_nil ?_
        refine E_nx ?_
        refine E_reg ?_
        refine E_mv (v' := (.ref 0 1 0 (List.length s_30) none)) rfl ?_
        refine E_mv (v' := (.int .i64 o_32)) rfl ?_
        obtain ⟨put_34, hput_34, h⟩ := bd_some h
        refine E_callF (S' := [.arr 2 (flat (avI .u8) put_34)]) (r' := (.ref 0 2 0 (List.length put_34) none)) (windlassref19_put_r_ev (fuel := fuel) hput_34) [0] rfl rfl (by decide) rfl rfl ⟨(fr_in rfl rfl (.refl ((encI .u8).blwf 0 _))), trivial⟩ ⟨(fr_out rfl rfl (.refl ((encI .u8).blwf 0 _)) rfl rfl), trivial⟩ ⟨.inl rfl, trivial⟩ rfl (.cons (fi_ref rfl rfl rfl rfl) (.cons (.base rfl (.refl _)) (.nil (Nat.zero_le _)))) (fo_ref rfl rfl rfl rfl) ?_
        refine E_mv (v' := (.ref 0 2 0 (List.length put_34) none)) rfl ?_
        refine E_nil ?_
        cases h
        exact L_nn rfl (wk_rn [some (0, 0)] rfl (Nat.le_of_ble_eq_true rfl) ⟨(rn_ob rfl rfl (.refl ((encI .u8).blwf 0 _)) rfl), trivial⟩ ⟨(rn_b rfl), (rn_b rfl), (rn_refL (encI .u8) rfl rfl rfl), (rn_b (Site.enc.blws 0)), (rn_b rfl), (rn_b rfl), (rn_b ((encI .i64).blws 0)), trivial⟩)
      · cases h
        exact X_nn rfl hw (wk_rn [some (0, 0)] rfl (Nat.le_of_ble_eq_true rfl) ⟨(rn_ob rfl rfl (.refl ((encI .u8).blwf 0 _)) rfl), trivial⟩ ⟨(rn_b rfl), (rn_b rfl), (rn_refL (encI .u8) rfl rfl rfl), (rn_b (Site.enc.blws 0)), trivial⟩)
    · refine X_nx hw ?_
      refine E_sq ?_
      refine E_reg ?_
      refine E_mv (v' := (.ref 0 1 0 (List.length s_24) none)) rfl ?_
      refine E_mv (v' := (.ref 0 1 0 (List.length s_24) none)) rfl ?_
      refine E_nil ?_
      refine E_nx ?_
      refine E_ret ?_
      cases h
      exact ⟨trivial, _, rfl, (fz_ref (encI .u8) (Nat.zero_le _) rfl)⟩
/- windlass/windlasslaw19.TablesBytes -/
def fc5 : FC := (.seq (.reg [⟨(some 1), none, .op (.box (.t 0))⟩,
  ⟨(some 2), none, .op (.mv (.v (.bool false)))⟩] [])
  (.seq (.seq (.reg [⟨(some 7), none, .call 8 []⟩,
  ⟨(some 8), none, .op (.un .not (.t 7))⟩] [])
  (.cond (.t 8)
  (.seq (.reg [⟨(some 2), none, .op (.mv (.v (.bool false)))⟩] [])
  .ret)
  .skip))
  (.seq (.reg [⟨(some 10), none, .op (.load (some 2) (.t 1))⟩,
  ⟨(some 11), none, .call 15 [(.t 10)]⟩,
  ⟨(some 9), none, .op (.mv (.t 11))⟩,
  ⟨(some 12), none, .op (.ext 0 (.t 9))⟩,
  ⟨(some 13), none, .op (.ext 1 (.t 9))⟩,
  ⟨(some 3), none, .op (.mv (.t 12))⟩,
  ⟨(some 4), none, .op (.mv (.t 13))⟩] [])
  (.seq (.seq (.reg [⟨(some 14), none, .op (.load (some 2) (.t 1))⟩,
  ⟨(some 15), none, .call 11 [(.t 14)]⟩,
  ⟨(some 16), none, .op (.un .not (.t 15))⟩] [])
  (.cond (.t 16)
  (.seq (.reg [⟨(some 17), none, .op (.load (some 2) (.t 1))⟩,
  ⟨(some 18), none, .call 9 [(.t 17)]⟩,
  ⟨(some 19), none, .op (.bin .none .eql (.t 18) (.v (.int .i64 190)))⟩,
  ⟨(some 20), none, .op (.mv (.t 19))⟩,
  ⟨(some 21), some (20, true), .op (.mv (.t 4))⟩,
  ⟨(some 22), some (20, true), .op (.bin .none .eql (.t 21) (.v (.int .i64 190)))⟩,
  ⟨(some 23), none, .op (.pick (.t 20) (.t 22) (.v (.bool false)))⟩,
  ⟨(some 24), none, .op (.mv (.t 23))⟩,
  ⟨(some 25), some (24, true), .op (.mv (.t 3))⟩,
  ⟨(some 26), some (24, true), .op (.len .sl (.t 25))⟩,
  ⟨(some 27), some (24, true), .op (.bin .none .eql (.t 26) (.v (.int .i64 0)))⟩,
  ⟨(some 28), none, .op (.pick (.t 24) (.t 27) (.v (.bool false)))⟩,
  ⟨(some 2), none, .op (.mv (.t 28))⟩] [])
  .ret)
  .skip))
  (.seq (.reg [⟨(some 30), none, .op (.mv (.t 3))⟩,
  ⟨(some 31), none, .call 16 [(.t 30)]⟩,
  ⟨(some 29), none, .op (.mv (.t 31))⟩,
  ⟨(some 32), none, .op (.ext 0 (.t 29))⟩,
  ⟨(some 33), none, .op (.ext 1 (.t 29))⟩,
  ⟨(some 5), none, .op (.new [.nils, .nils])⟩,
  ⟨none, none, .op (.store 2 (.t 5) (.t 32))⟩,
  ⟨(some 6), none, .op (.mv (.t 33))⟩] [])
  (.seq (.reg [⟨(some 34), none, .op (.load (some 2) (.t 1))⟩,
  ⟨(some 35), none, .call 9 [(.t 34)]⟩,
  ⟨(some 36), none, .op (.bin .none .eql (.t 35) (.v (.int .i64 0)))⟩,
  ⟨(some 37), none, .op (.mv (.t 36))⟩,
  ⟨(some 38), some (37, true), .op (.mv (.t 4))⟩,
  ⟨(some 39), some (37, true), .op (.bin .none .eql (.t 38) (.v (.int .i64 0)))⟩,
  ⟨(some 40), none, .op (.pick (.t 37) (.t 39) (.v (.bool false)))⟩,
  ⟨(some 41), none, .op (.mv (.t 40))⟩,
  ⟨(some 42), some (41, true), .op (.mv (.t 3))⟩,
  ⟨(some 43), some (41, true), .op (.b2s (.t 42))⟩,
  ⟨(some 44), some (41, true), .op (.load (some 2) (.t 1))⟩,
  ⟨(some 45), some (41, true), .call 17 [(.t 44)]⟩,
  ⟨(some 46), some (41, true), .op (.b2s (.t 45))⟩,
  ⟨(some 47), some (41, true), .op (.bin .none .eql (.t 43) (.t 46))⟩,
  ⟨(some 48), none, .op (.pick (.t 41) (.t 47) (.v (.bool false)))⟩,
  ⟨(some 49), none, .op (.mv (.t 48))⟩,
  ⟨(some 50), some (49, true), .op (.mv (.t 6))⟩,
  ⟨(some 51), some (49, true), .op (.bin .none .eql (.t 50) (.v (.int .i64 0)))⟩,
  ⟨(some 52), none, .op (.pick (.t 49) (.t 51) (.v (.bool false)))⟩,
  ⟨(some 53), none, .op (.mv (.t 52))⟩,
  ⟨(some 54), some (53, true), .op (.load (some 2) (.t 5))⟩,
  ⟨(some 55), some (53, true), .call 11 [(.t 54)]⟩,
  ⟨(some 56), none, .op (.pick (.t 53) (.t 55) (.v (.bool false)))⟩,
  ⟨(some 57), none, .op (.mv (.t 56))⟩,
  ⟨(some 58), some (57, true), .op (.load (some 2) (.t 5))⟩,
  ⟨(some 59), some (57, true), .call 17 [(.t 58)]⟩,
  ⟨(some 60), some (57, true), .op (.b2s (.t 59))⟩,
  ⟨(some 61), some (57, true), .op (.mv (.t 3))⟩,
  ⟨(some 62), some (57, true), .op (.b2s (.t 61))⟩,
  ⟨(some 63), some (57, true), .op (.bin .none .eql (.t 60) (.t 62))⟩,
  ⟨(some 64), none, .op (.pick (.t 57) (.t 63) (.v (.bool false)))⟩,
  ⟨(some 2), none, .op (.mv (.t 64))⟩] [(9, 11), (25, 28)])
  .ret))))))
theorem fn5 : Fn3 Try.prog 5 65 [(2, none)] fc5 := ⟨_, _, Try.func5, rfl, rfl, rfl, by kernel_rfl⟩
def windlasslaw19_TablesBytes_s (fuel : Nat) (t_00 : Tables) : Option Bool :=
  ((windlasslaw19_first_s fuel).bind fun fir_1 => (if (!fir_1) then (some false) else ((tables_Encode_s t_00).bind fun enc_2 => ((windlassref19_Right_s t_00).bind fun rig_3 => (if (!rig_3) then (jp (fun (s_5 : Bool) => (some s_5)) (fun k_4 => ((tables_Check_s t_00).bind fun che_6 => (if (che_6 == 190) then (if (enc_2.2 == 190) then (k_4 ((List.length enc_2.1 : Int) == 0)) else (k_4 false)) else (k_4 false))))) else ((tables_Decode_s enc_2.1).bind fun dec_7 => (jp (fun (s_9 : Bool) => (some s_9)) (fun k_8 => ((tables_Check_s t_00).bind fun che_10 => (if (che_10 == 0) then (if (enc_2.2 == 0) then ((toStr enc_2.1).bind fun s_11 => ((windlassref19_Bytes_s fuel t_00).bind fun byt_12 => ((toStr byt_12).bind fun s_13 => (if (ByteArray.toList s_11 == ByteArray.toList s_13) then (if (dec_7.2 == 0) then ((windlassref19_Right_s dec_7.1).bind fun rig_14 => (if rig_14 then ((windlassref19_Bytes_s fuel dec_7.1).bind fun byt_15 => ((toStr byt_15).bind fun s_16 => ((toStr enc_2.1).bind fun s_17 => (k_8 (ByteArray.toList s_16 == ByteArray.toList s_17))))) else (k_8 false))) else (k_8 false)) else (k_8 false))))) else (k_8 false)) else (k_8 false)))))))))))
theorem windlasslaw19_TablesBytes_ev {fuel : Nat} {t_00 : Tables} {r : Bool} (h : windlasslaw19_TablesBytes_s fuel t_00 = some r) : PureEv Try.prog 5 [(Tables.av t_00)] (.bool r) := by
  unfold windlasslaw19_TablesBytes_s at h
  refine PureEv_end mixed fn5 (by simp) [5] 6 ?_
  unfold fc5
  refine E_sq ?_
  refine E_reg ?_
  refine E_op0 (v' := (.cptr (Tables.av t_00).cells 0)) rfl rfl ?_
  refine E_mv (v' := (.bool false)) rfl ?_
  refine E_nil ?_
  refine E_nx ?_
  refine E_as ?_
  refine E_sq ?_
  refine E_reg ?_
  obtain ⟨fir_1, hfir_1, h⟩ := bd_some h
  refine E_callW (windlasslaw19_first_ev (fuel := fuel)  hfir_1) rfl trivial (blwL_of trivial) rfl ?_
  refine E_op0 (v' := (.bool (!fir_1))) rfl rfl ?_
  refine E_nil ?_
  refine E_nx ?_
  refine E_sq ?_
  refine E_cs (t := (!fir_1)) rfl (fun hb => ?_) (fun hb => ?_)
  · rw [ite_t hb] at h
    refine E_sq ?_
    refine E_reg ?_
    refine E_mv (v' := (.bool false)) rfl ?_
    refine E_nil ?_
    refine E_nx ?_
    refine E_ret ?_
    refine E_thr ?_
    cases h
    exact ⟨trivial, _, rfl, (fz_b rfl (.refl _))⟩
  · rw [ite_f hb] at h
    refine E_skip ?_
    refine E_nx ?_
    refine E_sq ?_
    refine E_reg ?_
    refine E_op0 (v' := (Tables.av t_00)) rfl rfl ?_
    obtain ⟨enc_2, henc_2, h⟩ := bd_some h
    refine E_callW (tables_Encode_ev  henc_2) rfl ⟨(.refl _), trivial⟩ (blwL_of ⟨(Tables.enc.blw _ 0), trivial⟩) (tup_blw ⟨((encI .u8).blws 0), rfl, trivial⟩) ?_
    refine E_mv (v' := (.tup [(.sl false 1 (List.map (avI .u8) enc_2.1)), (.int .i64 enc_2.2)])) rfl ?_
    refine E_op0 (v' := (.sl false 1 (List.map (avI .u8) enc_2.1))) rfl rfl ?_
    refine E_op0 (v' := (.int .i64 enc_2.2)) rfl rfl ?_
    refine E_mv (v' := (.sl false 1 (List.map (avI .u8) enc_2.1))) rfl ?_
    refine E_mv (v' := (.int .i64 enc_2.2)) rfl ?_
    refine E_nil ?_
    refine E_nx ?_
    refine E_as ?_
    refine E_sq ?_
    refine E_reg ?_
    refine E_op0 (v' := (Tables.av t_00)) rfl rfl ?_
    obtain ⟨rig_3, hrig_3, h⟩ := bd_some h
    refine E_callW (windlassref19_Right_ev  hrig_3) rfl ⟨(.refl _), trivial⟩ (blwL_of ⟨(Tables.enc.blw _ 0), trivial⟩) rfl ?_
    refine E_op0 (v' := (.bool (!rig_3))) rfl rfl ?_
    refine E_nil ?_
    refine E_nx ?_
    refine E_sq ?_
    refine E_cs (t := (!rig_3)) rfl (fun hb => ?_) (fun hb => ?_)
    · rw [ite_t hb] at h
      refine E_jp h (fun s_5 => [(2, (.bool s_5))]) (fun s_5 => []) (fun k_4 h => ?_) (fun s_5 h => ?_)
      · refine E_reg ?_
        refine E_op0 (v' := (Tables.av t_00)) rfl rfl ?_
        obtain ⟨che_6, hche_6, h⟩ := bd_some h
        refine E_callW (tables_Check_ev  hche_6) rfl ⟨(.refl _), trivial⟩ (blwL_of ⟨(Tables.enc.blw _ 0), trivial⟩) rfl ?_
        refine E_op0 (v' := (.bool (che_6 == 190))) rfl rfl ?_
        refine E_mv (v' := (.bool (che_6 == 190))) rfl ?_
        refine E_gsT (b := (che_6 == 190)) rfl rfl rfl (fun hb => ?_) (fun hb => ?_)
        · rw [ite_t hb] at h
          refine E_mv (v' := (.int .i64 enc_2.2)) rfl ?_
          refine E_gh rfl ?_
          refine E_op0 (v' := (.bool (enc_2.2 == 190))) rfl rfl ?_
          refine E_pt rfl rfl ?_
          refine E_mv (v' := (.bool (enc_2.2 == 190))) rfl ?_
          refine E_gsT (b := (enc_2.2 == 190)) rfl rfl rfl (fun hb => ?_) (fun hb => ?_)
          · rw [ite_t hb] at h
            refine E_mv (v' := (.sl false 1 (List.map (avI .u8) enc_2.1))) rfl ?_
            refine E_gh rfl ?_
            refine E_len rfl ?_
            refine E_gh rfl ?_
            refine E_op0 (v' := (.bool ((List.length enc_2.1 : Int) == 0))) rfl rfl ?_
            refine E_pt rfl rfl ?_
            refine E_mv (v' := (.bool ((List.length enc_2.1 : Int) == 0))) rfl ?_
            refine E_nil ?_
            exact E_jx _ h (wk_aw ⟨(.refl _), trivial⟩)
          · rw [ite_f hb] at h
            refine E_gm rfl ?_
            refine E_gm rfl ?_
            refine E_pf rfl rfl ?_
            refine E_mv (v' := (.bool false)) rfl ?_
            refine E_nil ?_
            exact E_jx _ h (wk_aw ⟨(.refl _), trivial⟩)
        · rw [ite_f hb] at h
          refine E_gm rfl ?_
          refine E_pf rfl rfl ?_
          refine E_mv (v' := (.bool false)) rfl ?_
          refine E_gm rfl ?_
          refine E_gm rfl ?_
          refine E_gm rfl ?_
          refine E_pf rfl rfl ?_
          refine E_mv (v' := (.bool false)) rfl ?_
          refine E_nil ?_
          exact E_jx _ h (wk_aw ⟨(.refl _), trivial⟩)
      · refine E_ret ?_
        refine E_thr ?_
        cases h
        exact ⟨trivial, _, rfl, (fz_b rfl (.refl _))⟩
    · rw [ite_f hb] at h
      refine E_skip ?_
      refine E_nx ?_
      refine E_sq ?_
      refine E_reg ?_
      refine E_mv (v' := (.sl false 1 (List.map (avI .u8) enc_2.1))) rfl ?_
      obtain ⟨dec_7, hdec_7, h⟩ := bd_some h
      refine E_callW (tables_Decode_ev  hdec_7) rfl ⟨(.refl _), trivial⟩ (blwL_of ⟨((encI .u8).blws 0), trivial⟩) (tup_blw ⟨(Tables.enc.blw _ 0), rfl, trivial⟩) ?_
      refine E_mv (v' := (.tup [(Tables.av dec_7.1), (.int .i64 dec_7.2)])) rfl ?_
      refine E_op0 (v' := (Tables.av dec_7.1)) rfl rfl ?_
      refine E_op0 (v' := (.int .i64 dec_7.2)) rfl rfl ?_
      refine E_op (v' := .ptr 0 0 0) (S' := [.arr 0 [.nils, .nils]]) rfl rfl rfl ?_
      refine E_do (S' := [.arr 0 [(.sl false 6 (List.map FuncRow.av dec_7.1.Funcs)), (.sl false 2 (List.map Site.av dec_7.1.Sites))]]) rfl rfl ?_
      refine E_mv (v' := (.int .i64 dec_7.2)) rfl ?_
      refine E_nil ?_
      refine E_nx ?_
      refine E_jp h (fun s_9 => [(2, (.bool s_9))]) (fun s_9 => []) (fun k_8 h => ?_) (fun s_9 h => ?_)
      · refine E_regp ?_
        refine E_op0 (v' := (Tables.av t_00)) rfl rfl ?_
        obtain ⟨che_10, hche_10, h⟩ := bd_some h
        refine E_callW (tables_Check_ev  hche_10) rfl ⟨(.refl _), trivial⟩ (blwL_of ⟨(Tables.enc.blw _ 0), trivial⟩) rfl ?_
        refine E_op0 (v' := (.bool (che_10 == 0))) rfl rfl ?_
        refine E_mv (v' := (.bool (che_10 == 0))) rfl ?_
        refine E_gsT (b := (che_10 == 0)) rfl rfl rfl (fun hb => ?_) (fun hb => ?_)
        · rw [ite_t hb] at h
          refine E_mv (v' := (.int .i64 enc_2.2)) rfl ?_
          refine E_gh rfl ?_
          refine E_op0 (v' := (.bool (enc_2.2 == 0))) rfl rfl ?_
          refine E_pt rfl rfl ?_
          refine E_mv (v' := (.bool (enc_2.2 == 0))) rfl ?_
          refine E_gsT (b := (enc_2.2 == 0)) rfl rfl rfl (fun hb => ?_) (fun hb => ?_)
          · rw [ite_t hb] at h
            refine E_mv (v' := (.sl false 1 (List.map (avI .u8) enc_2.1))) rfl ?_
            refine E_gh rfl ?_
            obtain ⟨s_11, hs_11, h⟩ := bd_some h
            refine E_b2s rfl hs_11 ?_
            refine E_gh rfl ?_
            refine E_op0 (v' := (Tables.av t_00)) rfl rfl ?_
            refine E_gh rfl ?_
            obtain ⟨byt_12, hbyt_12, h⟩ := bd_some h
            refine E_callW (windlassref19_Bytes_ev (fuel := fuel)  hbyt_12) rfl ⟨(.refl _), trivial⟩ (blwL_of ⟨(Tables.enc.blw _ 0), trivial⟩) ((encI .u8).blws 0) ?_
            refine E_gh rfl ?_
            obtain ⟨s_13, hs_13, h⟩ := bd_some h
            refine E_b2s rfl hs_13 ?_
            refine E_gh rfl ?_
            refine E_op0 (v' := (.bool (ByteArray.toList s_11 == ByteArray.toList s_13))) rfl rfl ?_
            refine E_pt rfl rfl ?_
            refine E_mv (v' := (.bool (ByteArray.toList s_11 == ByteArray.toList s_13))) rfl ?_
            refine E_gsT (b := (ByteArray.toList s_11 == ByteArray.toList s_13)) rfl rfl rfl (fun hb => ?_) (fun hb => ?_)
            · rw [ite_t hb] at h
              refine E_mv (v' := (.int .i64 dec_7.2)) rfl ?_
              refine E_gh rfl ?_
              refine E_op0 (v' := (.bool (dec_7.2 == 0))) rfl rfl ?_
              refine E_pt rfl rfl ?_
              refine E_mv (v' := (.bool (dec_7.2 == 0))) rfl ?_
              refine E_gsT (b := (dec_7.2 == 0)) rfl rfl rfl (fun hb => ?_) (fun hb => ?_)
              · rw [ite_t hb] at h
                refine E_opw (v' := (Tables.av dec_7.1)) rfl (.aggL ⟨(.refl _), (.refl _), trivial⟩) rfl ?_
                refine E_gh rfl ?_
                obtain ⟨rig_14, hrig_14, h⟩ := bd_some h
                refine E_callW (windlassref19_Right_ev  hrig_14) rfl ⟨(.refl _), trivial⟩ (blwL_of ⟨(Tables.enc.blw _ 0), trivial⟩) rfl ?_
                refine E_pt rfl rfl ?_
                refine E_mv (v' := (.bool rig_14)) rfl ?_
                refine E_gsT (b := rig_14) rfl rfl rfl (fun hb => ?_) (fun hb => ?_)
                · rw [ite_t hb] at h
                  refine E_opw (v' := (Tables.av dec_7.1)) rfl (.aggL ⟨(.refl _), (.refl _), trivial⟩) rfl ?_
                  refine E_gh rfl ?_
                  obtain ⟨byt_15, hbyt_15, h⟩ := bd_some h
                  refine E_callW (windlassref19_Bytes_ev (fuel := fuel)  hbyt_15) rfl ⟨(.refl _), trivial⟩ (blwL_of ⟨(Tables.enc.blw _ 0), trivial⟩) ((encI .u8).blws 0) ?_
                  refine E_gh rfl ?_
                  obtain ⟨s_16, hs_16, h⟩ := bd_some h
                  refine E_b2s rfl hs_16 ?_
                  refine E_gh rfl ?_
                  refine E_mv (v' := (.sl false 1 (List.map (avI .u8) enc_2.1))) rfl ?_
                  refine E_gh rfl ?_
                  obtain ⟨s_17, hs_17, h⟩ := bd_some h
                  refine E_b2s rfl hs_17 ?_
                  refine E_gh rfl ?_
                  refine E_op0 (v' := (.bool (ByteArray.toList s_16 == ByteArray.toList s_17))) rfl rfl ?_
                  refine E_pt rfl rfl ?_
                  refine E_mv (v' := (.bool (ByteArray.toList s_16 == ByteArray.toList s_17))) rfl ?_
                  refine E_nil ?_
                  refine And.intro (by simp [okLog, nthL, okPair, hp, fpOf]) ?_
                  exact E_jx _ h (wk_rn [] rfl (Nat.le_of_ble_eq_true rfl) trivial ⟨(rn_b rfl), trivial⟩)
                · rw [ite_f hb] at h
                  refine E_gm rfl ?_
                  refine E_gm rfl ?_
                  refine E_gm rfl ?_
                  refine E_gm rfl ?_
                  refine E_gm rfl ?_
                  refine E_pf rfl rfl ?_
                  refine E_mv (v' := (.bool false)) rfl ?_
                  refine E_nil ?_
                  refine And.intro (by simp [okLog, nthL, okPair, hp, fpOf]) ?_
                  exact E_jx _ h (wk_rn [] rfl (Nat.le_of_ble_eq_true rfl) trivial ⟨(rn_b rfl), trivial⟩)
              · rw [ite_f hb] at h
                refine E_gm rfl ?_
                refine E_pf rfl rfl ?_
                refine E_mv (v' := (.bool false)) rfl ?_
                refine E_gm rfl ?_
                refine E_gm rfl ?_
                refine E_gm rfl ?_
                refine E_gm rfl ?_
                refine E_gm rfl ?_
                refine E_gm rfl ?_
                refine E_pf rfl rfl ?_
                refine E_mv (v' := (.bool false)) rfl ?_
                refine E_nil ?_
                refine And.intro (by simp [okLog, nthL, okPair, hp, fpOf]) ?_
                exact E_jx _ h (wk_rn [] rfl (Nat.le_of_ble_eq_true rfl) trivial ⟨(rn_b rfl), trivial⟩)
            · rw [ite_f hb] at h
              refine E_gm rfl ?_
              refine E_pf rfl rfl ?_
              refine E_mv (v' := (.bool false)) rfl ?_
              refine E_gm rfl ?_
              refine E_gm rfl ?_
              refine E_pf rfl rfl ?_
              refine E_mv (v' := (.bool false)) rfl ?_
              refine E_gm rfl ?_
              refine E_gm rfl ?_
              refine E_gm rfl ?_
              refine E_gm rfl ?_
              refine E_gm rfl ?_
              refine E_gm rfl ?_
              refine E_pf rfl rfl ?_
              refine E_mv (v' := (.bool false)) rfl ?_
              refine E_nil ?_
              refine And.intro (by simp [okLog, nthL, okPair, hp, fpOf]) ?_
              exact E_jx _ h (wk_rn [] rfl (Nat.le_of_ble_eq_true rfl) trivial ⟨(rn_b rfl), trivial⟩)
          · rw [ite_f hb] at h
            refine E_gm rfl ?_
            refine E_gm rfl ?_
            refine E_gm rfl ?_
            refine E_gm rfl ?_
            refine E_gm rfl ?_
            refine E_pf rfl rfl ?_
            refine E_mv (v' := (.bool false)) rfl ?_
            refine E_gm rfl ?_
            refine E_gm rfl ?_
            refine E_pf rfl rfl ?_
            refine E_mv (v' := (.bool false)) rfl ?_
            refine E_gm rfl ?_
            refine E_gm rfl ?_
            refine E_pf rfl rfl ?_
            refine E_mv (v' := (.bool false)) rfl ?_
            refine E_gm rfl ?_
            refine E_gm rfl ?_
            refine E_gm rfl ?_
            refine E_gm rfl ?_
            refine E_gm rfl ?_
            refine E_gm rfl ?_
            refine E_pf rfl rfl ?_
            refine E_mv (v' := (.bool false)) rfl ?_
            refine E_nil ?_
            refine And.intro (by simp [okLog, nthL, okPair, hp, fpOf]) ?_
            exact E_jx _ h (wk_rn [] rfl (Nat.le_of_ble_eq_true rfl) trivial ⟨(rn_b rfl), trivial⟩)
        · rw [ite_f hb] at h
          refine E_gm rfl ?_
          refine E_pf rfl rfl ?_
          refine E_mv (v' := (.bool false)) rfl ?_
          refine E_gm rfl ?_
          refine E_gm rfl ?_
          refine E_gm rfl ?_
          refine E_gm rfl ?_
          refine E_gm rfl ?_
          refine E_gm rfl ?_
          refine E_pf rfl rfl ?_
          refine E_mv (v' := (.bool false)) rfl ?_
          refine E_gm rfl ?_
          refine E_gm rfl ?_
          refine E_pf rfl rfl ?_
          refine E_mv (v' := (.bool false)) rfl ?_
          refine E_gm rfl ?_
          refine E_gm rfl ?_
          refine E_pf rfl rfl ?_
          refine E_mv (v' := (.bool false)) rfl ?_
          refine E_gm rfl ?_
          refine E_gm rfl ?_
          refine E_gm rfl ?_
          refine E_gm rfl ?_
          refine E_gm rfl ?_
          refine E_gm rfl ?_
          refine E_pf rfl rfl ?_
          refine E_mv (v' := (.bool false)) rfl ?_
          refine E_nil ?_
          refine And.intro (by simp [okLog, nthL, okPair, hp, fpOf]) ?_
          exact E_jx _ h (wk_rn [] rfl (Nat.le_of_ble_eq_true rfl) trivial ⟨(rn_b rfl), trivial⟩)
      · refine E_ret ?_
        cases h
        exact ⟨trivial, _, rfl, (fz_b rfl (.refl _))⟩
end Go.Proofs.Ytnmicfhdpnabcaa
