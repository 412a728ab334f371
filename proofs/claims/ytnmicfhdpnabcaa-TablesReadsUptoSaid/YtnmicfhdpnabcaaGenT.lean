/- What the functions compute, and that they do (printed by wip/gen/gen.py), part 3. -/
import Derived.Test.YtnmicfhdpnabcaaGenTb
namespace Go.Proofs.Ytnmicfhdpnabcaa
open Go Go.Ab
set_option maxRecDepth 20000
set_option linter.unusedVariables false
set_option linter.unusedSimpArgs false
def windlassref19_Bytes_s (fuel : Nat) (t_00 : Tables) : Option (List Int) :=
  ((windlassref19_put_n_s fuel (List.length t_00.Funcs : Int)).bind fun (put_1 : (List Int)) => ((rng (fun (i_3 : Nat) (r_4 : FuncRow) (s_2 : (List Int)) => (((windlassref19_put_r_s fuel s_2 r_4.Start).bind fun (put_6 : (List Int)) => ((windlassref19_put_r_s fuel put_6 r_4.Stop).bind fun (put_7 : (List Int)) => ((windlassref19_put_r_s fuel put_7 r_4.Size).bind fun (put_8 : (List Int)) => ((windlassref19_put_r_s fuel put_8 (I64 (r_4.Resume + 1))).bind fun (put_9 : (List Int)) => ((windlassref19_put_r_s fuel put_9 (List.length r_4.Params : Int)).bind fun (put_10 : (List Int)) => ((rng (fun (i_12 : Nat) (k_13 : Int) (s_11 : (List Int)) => (((windlassref19_put_r_s fuel s_11 (I64 k_13)).bind fun (put_15 : (List Int)) => (some (.nxt put_15))) : Option (Stp (List Int) (Option (Stp (List Int) (Option (List Int))))))) r_4.Params put_10).bind (oc (fun (s_11 : (List Int)) => ((windlassref19_put_r_s fuel s_11 (List.length r_4.Saves : Int)).bind fun (put_16 : (List Int)) => ((rng (fun (i_18 : Nat) (s_19 : Save) (s_17 : (List Int)) => (((windlassref19_put_r_s fuel s_17 s_19.Reg).bind fun (put_21 : (List Int)) => ((windlassref19_put_r_s fuel put_21 s_19.Off).bind fun (put_22 : (List Int)) => (some (.nxt put_22)))) : Option (Stp (List Int) (Option (Stp (List Int) (Option (List Int))))))) r_4.Saves put_16).bind (oc (fun (s_17 : (List Int)) => (some (.nxt s_17)))))))))))))) : Option (Stp (List Int) (Option (List Int))))) t_00.Funcs put_1).bind (oc (fun (s_2 : (List Int)) => ((windlassref19_put_r_s fuel s_2 (List.length t_00.Sites : Int)).bind fun (put_23 : (List Int)) => ((rng (fun (i_25 : Nat) (s_26 : Site) (s_24 : (List Int)) => (((windlassref19_put_r_s fuel s_24 s_26.At).bind fun (put_28 : (List Int)) => ((windlassref19_put_r_s fuel put_28 (List.length s_26.Live : Int)).bind fun (put_29 : (List Int)) => ((rng (fun (i_31 : Nat) (o_32 : Int) (s_30 : (List Int)) => (((windlassref19_put_r_s fuel s_30 o_32).bind fun (put_34 : (List Int)) => (some (.nxt put_34))) : Option (Stp (List Int) (Option (Stp (List Int) (Option (List Int))))))) s_26.Live put_29).bind (oc (fun (s_30 : (List Int)) => (some (.nxt s_30))))))) : Option (Stp (List Int) (Option (List Int))))) t_00.Sites put_23).bind (oc (fun (s_24 : (List Int)) => (some s_24)))))))))
theorem windlassref19_Bytes_ev {fuel : Nat} {t_00 : Tables} {r : (List Int)} (h : windlassref19_Bytes_s fuel t_00 = some r) : PureEv Try.prog 17 [(Tables.av t_00)] (.sl false 1 (List.map (avI .u8) r)) := by
  unfold windlassref19_Bytes_s at h
  refine PureEv_end mixed fn17 (by simp) [5, 9, 11] 6 ?_
  unfold fc17
  refine E_sq ?_
  refine E_reg ?_
  refine E_op0 (v' := (.cptr (Tables.av t_00).cells 0)) rfl rfl ?_
  refine E_mv (v' := .nils) rfl ?_
  refine E_nil ?_
  refine E_nx ?_
  refine E_sq ?_
  refine E_reg ?_
  refine E_op0 (v' := (.cptr (Tables.av t_00).cells 0)) rfl rfl ?_
  refine E_op0 (v' := (.sl false 6 (List.map FuncRow.av t_00.Funcs))) rfl rfl ?_
  refine E_len rfl ?_
  obtain ⟨put_1, hput_1, h⟩ := bd_some h
  refine E_callF (S' := [.arr 1 (flat (avI .u8) put_1)]) (r' := (.ref 0 1 0 (List.length put_1) none)) (windlassref19_put_n_ev (fuel := fuel) hput_1) [] rfl rfl (by decide) rfl rfl trivial ⟨(fr_outN rfl rfl (.refl ((encI .u8).blwf 0 _)) rfl), trivial⟩ trivial rfl (.cons (rn_b rfl) (.cons (.base rfl (.refl _)) (.nil (Nat.zero_le _)))) (fo_ref rfl rfl rfl rfl) ?_
  refine E_mv (v' := (.ref 0 1 0 (List.length put_1) none)) rfl ?_
  refine E_nil ?_
  refine E_nx ?_
  refine E_as ?_
  refine E_sq ?_
  refine E_reg ?_
  refine E_op0 (v' := (.cptr (Tables.av t_00).cells 0)) rfl rfl ?_
  refine E_op0 (v' := (.sl false 6 (List.map FuncRow.av t_00.Funcs))) rfl rfl ?_
  refine E_len rfl ?_
  refine E_mv (v' := (.int .i64 0)) rfl ?_
  refine E_nil ?_
  refine E_nx ?_
  refine E_sq ?_
  refine E_rngO (fun s_2 => [(1, (.cptr (Tables.av t_00).cells 0)), (3, (.ref 0 1 0 (List.length s_2) none)), (19, (.sl false 6 (List.map FuncRow.av t_00.Funcs)))]) (fun s_2 => [.arr 1 (flat (avI .u8) s_2)]) h (by decide) (by decide) (fun _ => ⟨rfl, rfl, rfl, rfl⟩) (wk_rn [some (0, 0)] rfl (Nat.le_of_ble_eq_true rfl) ⟨(rn_ob rfl rfl (.refl ((encI .u8).blwf 0 _)) rfl), trivial⟩ ⟨(rn_b rfl), (rn_b rfl), (rn_b (cp_blw (Tables.enc.blw _ 0))), (rn_refL (encI .u8) rfl rfl rfl), (rn_b (FuncRow.enc.blws 0)), trivial⟩) (fun i_3 r_4 s_2 c hx_5 hlt h => ?_) (fun s_2 fr' S' h hw => ?_)
  · refine E_sq ?_
    refine E_reg ?_
    refine E_iadF rfl rfl (getI_of hx_5) ?_
    refine E_op0 (v' := (FuncRow.av r_4)) rfl rfl ?_
    refine E_op (v' := .ptr 1 0 0) (S' := [.arr 1 (flat (avI .u8) s_2), .arr 0 [(.int .i64 0), (.int .i64 0), (.int .i64 0), .nils, .nils, (.int .i64 0)]]) rfl rfl rfl ?_
    refine E_do (S' := [.arr 1 (flat (avI .u8) s_2), .arr 0 [(.int .i64 r_4.Start), (.int .i64 r_4.Stop), (.int .i64 r_4.Size), (.sl false 1 (List.map (avI .u8) r_4.Params)), (.sl false 2 (List.map Save.av r_4.Saves)), (.int .i64 r_4.Resume)]]) rfl rfl ?_
    refine E_nil ?_
    refine E_nx ?_
    refine E_sq ?_
    refine E_reg ?_
    refine E_mv (v' := (.ref 0 1 0 (List.length s_2) none)) rfl ?_
    refine E_op0 (v' := (.ptr 1 0 0)) rfl rfl ?_
    refine E_op (v' := (.int .i64 r_4.Start)) (S' := [.arr 1 (flat (avI .u8) s_2), .arr 0 [(.int .i64 r_4.Start), (.int .i64 r_4.Stop), (.int .i64 r_4.Size), (.sl false 1 (List.map (avI .u8) r_4.Params)), (.sl false 2 (List.map Save.av r_4.Saves)), (.int .i64 r_4.Resume)]]) rfl rfl rfl ?_
    obtain ⟨put_6, hput_6, h⟩ := bd_some h
    refine E_callF (S' := [.arr 2 (flat (avI .u8) put_6), .arr 0 [(.int .i64 r_4.Start), (.int .i64 r_4.Stop), (.int .i64 r_4.Size), (.sl false 1 (List.map (avI .u8) r_4.Params)), (.sl false 2 (List.map Save.av r_4.Saves)), (.int .i64 r_4.Resume)]]) (r' := (.ref 0 2 0 (List.length put_6) none)) (windlassref19_put_r_ev (fuel := fuel) hput_6) [0] rfl rfl (by decide) rfl rfl ⟨(fr_in rfl rfl (.refl ((encI .u8).blwf 0 _))), trivial⟩ ⟨(fr_out rfl rfl (.refl ((encI .u8).blwf 0 _)) rfl rfl), trivial⟩ ⟨.inl rfl, .inr rfl, trivial⟩ rfl (.cons (fi_ref rfl rfl rfl rfl) (.cons (.base rfl (.refl _)) (.nil (Nat.zero_le _)))) (fo_ref rfl rfl rfl rfl) ?_
    refine E_mv (v' := (.ref 0 2 0 (List.length put_6) none)) rfl ?_
    refine E_nil ?_
    refine E_nx ?_
    refine E_sq ?_
    refine E_reg ?_
    refine E_mv (v' := (.ref 0 2 0 (List.length put_6) none)) rfl ?_
    refine E_op0 (v' := (.ptr 1 0 1)) rfl rfl ?_
    refine E_op (v' := (.int .i64 r_4.Stop)) (S' := [.arr 2 (flat (avI .u8) put_6), .arr 0 [(.int .i64 r_4.Start), (.int .i64 r_4.Stop), (.int .i64 r_4.Size), (.sl false 1 (List.map (avI .u8) r_4.Params)), (.sl false 2 (List.map Save.av r_4.Saves)), (.int .i64 r_4.Resume)]]) rfl rfl rfl ?_
    obtain ⟨put_7, hput_7, h⟩ := bd_some h
    refine E_callF (S' := [.arr 3 (flat (avI .u8) put_7), .arr 0 [(.int .i64 r_4.Start), (.int .i64 r_4.Stop), (.int .i64 r_4.Size), (.sl false 1 (List.map (avI .u8) r_4.Params)), (.sl false 2 (List.map Save.av r_4.Saves)), (.int .i64 r_4.Resume)]]) (r' := (.ref 0 3 0 (List.length put_7) none)) (windlassref19_put_r_ev (fuel := fuel) hput_7) [0] rfl rfl (by decide) rfl rfl ⟨(fr_in rfl rfl (.refl ((encI .u8).blwf 0 _))), trivial⟩ ⟨(fr_out rfl rfl (.refl ((encI .u8).blwf 0 _)) rfl rfl), trivial⟩ ⟨.inl rfl, .inr rfl, trivial⟩ rfl (.cons (fi_ref rfl rfl rfl rfl) (.cons (.base rfl (.refl _)) (.nil (Nat.zero_le _)))) (fo_ref rfl rfl rfl rfl) ?_
    refine E_mv (v' := (.ref 0 3 0 (List.length put_7) none)) rfl ?_
    refine E_nil ?_
    refine E_nx ?_
    refine E_sq ?_
    refine E_reg ?_
    refine E_mv (v' := (.ref 0 3 0 (List.length put_7) none)) rfl ?_
    refine E_op0 (v' := (.ptr 1 0 2)) rfl rfl ?_
    refine E_op (v' := (.int .i64 r_4.Size)) (S' := [.arr 3 (flat (avI .u8) put_7), .arr 0 [(.int .i64 r_4.Start), (.int .i64 r_4.Stop), (.int .i64 r_4.Size), (.sl false 1 (List.map (avI .u8) r_4.Params)), (.sl false 2 (List.map Save.av r_4.Saves)), (.int .i64 r_4.Resume)]]) rfl rfl rfl ?_
    obtain ⟨put_8, hput_8, h⟩ := bd_some h
    refine E_callF (S' := [.arr 4 (flat (avI .u8) put_8), .arr 0 [(.int .i64 r_4.Start), (.int .i64 r_4.Stop), (.int .i64 r_4.Size), (.sl false 1 (List.map (avI .u8) r_4.Params)), (.sl false 2 (List.map Save.av r_4.Saves)), (.int .i64 r_4.Resume)]]) (r' := (.ref 0 4 0 (List.length put_8) none)) (windlassref19_put_r_ev (fuel := fuel) hput_8) [0] rfl rfl (by decide) rfl rfl ⟨(fr_in rfl rfl (.refl ((encI .u8).blwf 0 _))), trivial⟩ ⟨(fr_out rfl rfl (.refl ((encI .u8).blwf 0 _)) rfl rfl), trivial⟩ ⟨.inl rfl, .inr rfl, trivial⟩ rfl (.cons (fi_ref rfl rfl rfl rfl) (.cons (.base rfl (.refl _)) (.nil (Nat.zero_le _)))) (fo_ref rfl rfl rfl rfl) ?_
    refine E_mv (v' := (.ref 0 4 0 (List.length put_8) none)) rfl ?_
    refine E_nil ?_
    refine E_nx ?_
    refine E_sq ?_
    refine E_reg ?_
    refine E_mv (v' := (.ref 0 4 0 (List.length put_8) none)) rfl ?_
    refine E_op0 (v' := (.ptr 1 0 5)) rfl rfl ?_
    refine E_op (v' := (.int .i64 r_4.Resume)) (S' := [.arr 4 (flat (avI .u8) put_8), .arr 0 [(.int .i64 r_4.Start), (.int .i64 r_4.Stop), (.int .i64 r_4.Size), (.sl false 1 (List.map (avI .u8) r_4.Params)), (.sl false 2 (List.map Save.av r_4.Saves)), (.int .i64 r_4.Resume)]]) rfl rfl rfl ?_
    refine E_op0 (v' := (.int .i64 (I64 (r_4.Resume + 1)))) rfl rfl ?_
    obtain ⟨put_9, hput_9, h⟩ := bd_some h
    refine E_callF (S' := [.arr 5 (flat (avI .u8) put_9), .arr 0 [(.int .i64 r_4.Start), (.int .i64 r_4.Stop), (.int .i64 r_4.Size), (.sl false 1 (List.map (avI .u8) r_4.Params)), (.sl false 2 (List.map Save.av r_4.Saves)), (.int .i64 r_4.Resume)]]) (r' := (.ref 0 5 0 (List.length put_9) none)) (windlassref19_put_r_ev (fuel := fuel) hput_9) [0] rfl rfl (by decide) rfl rfl ⟨(fr_in rfl rfl (.refl ((encI .u8).blwf 0 _))), trivial⟩ ⟨(fr_out rfl rfl (.refl ((encI .u8).blwf 0 _)) rfl rfl), trivial⟩ ⟨.inl rfl, .inr rfl, trivial⟩ rfl (.cons (fi_ref rfl rfl rfl rfl) (.cons (.base rfl (.refl _)) (.nil (Nat.zero_le _)))) (fo_ref rfl rfl rfl rfl) ?_
    refine E_mv (v' := (.ref 0 5 0 (List.length put_9) none)) rfl ?_
    refine E_nil ?_
    refine E_nx ?_
    refine E_sq ?_
    refine E_reg ?_
    refine E_mv (v' := (.ref 0 5 0 (List.length put_9) none)) rfl ?_
    refine E_op0 (v' := (.ptr 1 0 3)) rfl rfl ?_
    refine E_op (v' := (.sl false 1 (List.map (avI .u8) r_4.Params))) (S' := [.arr 5 (flat (avI .u8) put_9), .arr 0 [(.int .i64 r_4.Start), (.int .i64 r_4.Stop), (.int .i64 r_4.Size), (.sl false 1 (List.map (avI .u8) r_4.Params)), (.sl false 2 (List.map Save.av r_4.Saves)), (.int .i64 r_4.Resume)]]) rfl rfl rfl ?_
    refine E_len rfl ?_
    obtain ⟨put_10, hput_10, h⟩ := bd_some h
    refine E_callF (S' := [.arr 6 (flat (avI .u8) put_10), .arr 0 [(.int .i64 r_4.Start), (.int .i64 r_4.Stop), (.int .i64 r_4.Size), (.sl false 1 (List.map (avI .u8) r_4.Params)), (.sl false 2 (List.map Save.av r_4.Saves)), (.int .i64 r_4.Resume)]]) (r' := (.ref 0 6 0 (List.length put_10) none)) (windlassref19_put_r_ev (fuel := fuel) hput_10) [0] rfl rfl (by decide) rfl rfl ⟨(fr_in rfl rfl (.refl ((encI .u8).blwf 0 _))), trivial⟩ ⟨(fr_out rfl rfl (.refl ((encI .u8).blwf 0 _)) rfl rfl), trivial⟩ ⟨.inl rfl, .inr rfl, trivial⟩ rfl (.cons (fi_ref rfl rfl rfl rfl) (.cons (.base rfl (.refl _)) (.nil (Nat.zero_le _)))) (fo_ref rfl rfl rfl rfl) ?_
    refine E_mv (v' := (.ref 0 6 0 (List.length put_10) none)) rfl ?_
    refine E_nil ?_
    refine E_nx ?_
    refine E_as ?_
    refine E_sq ?_
    refine E_reg ?_
    refine E_op0 (v' := (.ptr 1 0 3)) rfl rfl ?_
    refine E_op (v' := (.sl false 1 (List.map (avI .u8) r_4.Params))) (S' := [.arr 6 (flat (avI .u8) put_10), .arr 0 [(.int .i64 r_4.Start), (.int .i64 r_4.Stop), (.int .i64 r_4.Size), (.sl false 1 (List.map (avI .u8) r_4.Params)), (.sl false 2 (List.map Save.av r_4.Saves)), (.int .i64 r_4.Resume)]]) rfl rfl rfl ?_
    refine E_len rfl ?_
    refine E_mv (v' := (.int .i64 0)) rfl ?_
    refine E_nil ?_
    refine E_nx ?_
    refine E_sq ?_
    refine E_rngO (fun s_11 => [(1, (.cptr (Tables.av t_00).cells 0)), (3, (.ref 0 1 0 (List.length s_11) none)), (5, (.ptr 1 0 0)), (19, (.sl false 6 (List.map FuncRow.av t_00.Funcs))), (20, (.int .i64 (List.length t_00.Funcs : Int))), (21, (.int .i64 (i_3 : Int))), (48, (.sl false 1 (List.map (avI .u8) r_4.Params)))]) (fun s_11 => [.arr 1 (flat (avI .u8) s_11), .arr 0 [(.int .i64 r_4.Start), (.int .i64 r_4.Stop), (.int .i64 r_4.Size), (.sl false 1 (List.map (avI .u8) r_4.Params)), (.sl false 2 (List.map Save.av r_4.Saves)), (.int .i64 r_4.Resume)]]) h (by decide) (by decide) (fun _ => ⟨rfl, rfl, rfl, rfl⟩) (wk_rn [some (0, 0), some (1, 0)] rfl (Nat.le_of_ble_eq_true rfl) ⟨(rn_ob rfl rfl (.refl ((encI .u8).blwf 0 _)) rfl), (rn_ob rfl rfl (.cons (rn_b rfl) (.cons (rn_b rfl) (.cons (rn_b rfl) (.cons (rn_b ((encI .u8).blws 0)) (.cons (rn_b (Save.enc.blws 0)) (.cons (rn_b rfl) (.nil (Nat.zero_le _)))))))) rfl), trivial⟩ ⟨(rn_b rfl), (rn_b rfl), (rn_b (cp_blw (Tables.enc.blw _ 0))), (rn_refL (encI .u8) rfl rfl rfl), (rn_ptr rfl rfl rfl rfl), (rn_b (FuncRow.enc.blws 0)), (rn_b rfl), (rn_b rfl), (rn_b ((encI .u8).blws 0)), trivial⟩) (fun i_12 k_13 s_11 c hx_14 hlt h => ?_) (fun s_11 fr' S' h hw => ?_)
    · refine E_sq ?_
      refine E_reg ?_
      refine E_iadF rfl rfl (getI_of hx_14) ?_
      refine E_op0 (v' := (.int .u8 k_13)) rfl rfl ?_
      refine E_mv (v' := (.int .u8 k_13)) rfl ?_
      refine E_nil ?_
      refine E_nx ?_
      refine E_reg ?_
      refine E_mv (v' := (.ref 0 1 0 (List.length s_11) none)) rfl ?_
      refine E_mv (v' := (.int .u8 k_13)) rfl ?_
      refine E_op0 (v' := (.int .i64 (I64 k_13))) rfl rfl ?_
      obtain ⟨put_15, hput_15, h⟩ := bd_some h
      refine E_callF (S' := [.arr 2 (flat (avI .u8) put_15), .arr 0 [(.int .i64 r_4.Start), (.int .i64 r_4.Stop), (.int .i64 r_4.Size), (.sl false 1 (List.map (avI .u8) r_4.Params)), (.sl false 2 (List.map Save.av r_4.Saves)), (.int .i64 r_4.Resume)]]) (r' := (.ref 0 2 0 (List.length put_15) none)) (windlassref19_put_r_ev (fuel := fuel) hput_15) [0] rfl rfl (by decide) rfl rfl ⟨(fr_in rfl rfl (.refl ((encI .u8).blwf 0 _))), trivial⟩ ⟨(fr_out rfl rfl (.refl ((encI .u8).blwf 0 _)) rfl rfl), trivial⟩ ⟨.inl rfl, .inr rfl, trivial⟩ rfl (.cons (fi_ref rfl rfl rfl rfl) (.cons (.base rfl (.refl _)) (.nil (Nat.zero_le _)))) (fo_ref rfl rfl rfl rfl) ?_
      refine E_mv (v' := (.ref 0 2 0 (List.length put_15) none)) rfl ?_
      refine E_nil ?_
      cases h
      exact L_nn rfl (wk_rn [some (0, 0), some (1, 0)] rfl (Nat.le_of_ble_eq_true rfl) ⟨(rn_ob rfl rfl (.refl ((encI .u8).blwf 0 _)) rfl), (rn_ob rfl rfl (.cons (rn_b rfl) (.cons (rn_b rfl) (.cons (rn_b rfl) (.cons (rn_b ((encI .u8).blws 0)) (.cons (rn_b (Save.enc.blws 0)) (.cons (rn_b rfl) (.nil (Nat.zero_le _)))))))) rfl), trivial⟩ ⟨(rn_b rfl), (rn_b rfl), (rn_b (cp_blw (Tables.enc.blw _ 0))), (rn_refL (encI .u8) rfl rfl rfl), (rn_ptr rfl rfl rfl rfl), (rn_b (FuncRow.enc.blws 0)), (rn_b rfl), (rn_b rfl), (rn_b ((encI .u8).blws 0)), trivial⟩)
    · refine X_nx hw ?_
      refine E_sq ?_
      refine E_reg ?_
      refine E_mv (v' := (.ref 0 1 0 (List.length s_11) none)) rfl ?_
      refine E_op0 (v' := (.ptr 1 0 4)) rfl rfl ?_
      refine E_op (v' := (.sl false 2 (List.map Save.av r_4.Saves))) (S' := [.arr 1 (flat (avI .u8) s_11), .arr 0 [(.int .i64 r_4.Start), (.int .i64 r_4.Stop), (.int .i64 r_4.Size), (.sl false 1 (List.map (avI .u8) r_4.Params)), (.sl false 2 (List.map Save.av r_4.Saves)), (.int .i64 r_4.Resume)]]) rfl rfl rfl ?_
      refine E_len rfl ?_
      obtain ⟨put_16, hput_16, h⟩ := bd_some h
      refine E_callF (S' := [.arr 2 (flat (avI .u8) put_16), .arr 0 [(.int .i64 r_4.Start), (.int .i64 r_4.Stop), (.int .i64 r_4.Size), (.sl false 1 (List.map (avI .u8) r_4.Params)), (.sl false 2 (List.map Save.av r_4.Saves)), (.int .i64 r_4.Resume)]]) (r' := (.ref 0 2 0 (List.length put_16) none)) (windlassref19_put_r_ev (fuel := fuel) hput_16) [0] rfl rfl (by decide) rfl rfl ⟨(fr_in rfl rfl (.refl ((encI .u8).blwf 0 _))), trivial⟩ ⟨(fr_out rfl rfl (.refl ((encI .u8).blwf 0 _)) rfl rfl), trivial⟩ ⟨.inl rfl, .inr rfl, trivial⟩ rfl (.cons (fi_ref rfl rfl rfl rfl) (.cons (.base rfl (.refl _)) (.nil (Nat.zero_le _)))) (fo_ref rfl rfl rfl rfl) ?_
      refine E_mv (v' := (.ref 0 2 0 (List.length put_16) none)) rfl ?_
      refine E_nil ?_
      refine E_nx ?_
      refine E_sq ?_
      refine E_reg ?_
      refine E_op0 (v' := (.ptr 1 0 4)) rfl rfl ?_
      refine E_op (v' := (.sl false 2 (List.map Save.av r_4.Saves))) (S' := [.arr 2 (flat (avI .u8) put_16), .arr 0 [(.int .i64 r_4.Start), (.int .i64 r_4.Stop), (.int .i64 r_4.Size), (.sl false 1 (List.map (avI .u8) r_4.Params)), (.sl false 2 (List.map Save.av r_4.Saves)), (.int .i64 r_4.Resume)]]) rfl rfl rfl ?_
      refine E_len rfl ?_
      refine E_mv (v' := (.int .i64 0)) rfl ?_
      refine E_nil ?_
      refine E_nx ?_
      refine E_rngO (fun s_17 => [(1, (.cptr (Tables.av t_00).cells 0)), (3, (.ref 0 1 0 (List.length s_17) none)), (19, (.sl false 6 (List.map FuncRow.av t_00.Funcs))), (20, (.int .i64 (List.length t_00.Funcs : Int))), (21, (.int .i64 (i_3 : Int))), (65, (.sl false 2 (List.map Save.av r_4.Saves)))]) (fun s_17 => [.arr 1 (flat (avI .u8) s_17)]) h (by decide) (by decide) (fun _ => ⟨rfl, rfl, rfl, rfl⟩) (wk_rn [some (0, 0)] rfl (Nat.le_of_ble_eq_true rfl) ⟨(rn_ob rfl rfl (.refl ((encI .u8).blwf 0 _)) rfl), trivial⟩ ⟨(rn_b rfl), (rn_b rfl), (rn_b (cp_blw (Tables.enc.blw _ 0))), (rn_refL (encI .u8) rfl rfl rfl), (rn_b (FuncRow.enc.blws 0)), (rn_b rfl), (rn_b rfl), (rn_b (Save.enc.blws 0)), trivial⟩) (fun i_18 s_19 s_17 c hx_20 hlt h => ?_) (fun s_17 fr' S' h hw => ?_)
      · refine E_sq ?_
        refine E_reg ?_
        refine E_iadF rfl rfl (getI_of hx_20) ?_
        refine E_op0 (v' := (Save.av s_19)) rfl rfl ?_
        refine E_op (v' := .ptr 1 0 0) (S' := [.arr 1 (flat (avI .u8) s_17), .arr 0 [(.int .i64 0), (.int .i64 0)]]) rfl rfl rfl ?_
        refine E_do (S' := [.arr 1 (flat (avI .u8) s_17), .arr 0 [(.int .i64 s_19.Reg), (.int .i64 s_19.Off)]]) rfl rfl ?_
        refine E_nil ?_
        refine E_nx ?_
        refine E_sq ?_
        refine E_reg ?_
        refine E_mv (v' := (.ref 0 1 0 (List.length s_17) none)) rfl ?_
        refine E_op0 (v' := (.ptr 1 0 0)) rfl rfl ?_
        refine E_op (v' := (.int .i64 s_19.Reg)) (S' := [.arr 1 (flat (avI .u8) s_17), .arr 0 [(.int .i64 s_19.Reg), (.int .i64 s_19.Off)]]) rfl rfl rfl ?_
        obtain ⟨put_21, hput_21, h⟩ := bd_some h
        refine E_callF (S' := [.arr 2 (flat (avI .u8) put_21), .arr 0 [(.int .i64 s_19.Reg), (.int .i64 s_19.Off)]]) (r' := (.ref 0 2 0 (List.length put_21) none)) (windlassref19_put_r_ev (fuel := fuel) hput_21) [0] rfl rfl (by decide) rfl rfl ⟨(fr_in rfl rfl (.refl ((encI .u8).blwf 0 _))), trivial⟩ ⟨(fr_out rfl rfl (.refl ((encI .u8).blwf 0 _)) rfl rfl), trivial⟩ ⟨.inl rfl, .inr rfl, trivial⟩ rfl (.cons (fi_ref rfl rfl rfl rfl) (.cons (.base rfl (.refl _)) (.nil (Nat.zero_le _)))) (fo_ref rfl rfl rfl rfl) ?_
        refine E_mv (v' := (.ref 0 2 0 (List.length put_21) none)) rfl ?_
        refine E_nil ?_
        refine E_nx ?_
        refine E_reg ?_
        refine E_mv (v' := (.ref 0 2 0 (List.length put_21) none)) rfl ?_
        refine E_op0 (v' := (.ptr 1 0 1)) rfl rfl ?_
        refine E_op (v' := (.int .i64 s_19.Off)) (S' := [.arr 2 (flat (avI .u8) put_21), .arr 0 [(.int .i64 s_19.Reg), (.int .i64 s_19.Off)]]) rfl rfl rfl ?_
        obtain ⟨put_22, hput_22, h⟩ := bd_some h
        refine E_callF (S' := [.arr 3 (flat (avI .u8) put_22), .arr 0 [(.int .i64 s_19.Reg), (.int .i64 s_19.Off)]]) (r' := (.ref 0 3 0 (List.length put_22) none)) (windlassref19_put_r_ev (fuel := fuel) hput_22) [0] rfl rfl (by decide) rfl rfl ⟨(fr_in rfl rfl (.refl ((encI .u8).blwf 0 _))), trivial⟩ ⟨(fr_out rfl rfl (.refl ((encI .u8).blwf 0 _)) rfl rfl), trivial⟩ ⟨.inl rfl, .inr rfl, trivial⟩ rfl (.cons (fi_ref rfl rfl rfl rfl) (.cons (.base rfl (.refl _)) (.nil (Nat.zero_le _)))) (fo_ref rfl rfl rfl rfl) ?_
        refine E_mv (v' := (.ref 0 3 0 (List.length put_22) none)) rfl ?_
        refine E_nil ?_
        cases h
        exact L_nn rfl (wk_rn [some (0, 0)] rfl (Nat.le_of_ble_eq_true rfl) ⟨(rn_ob rfl rfl (.refl ((encI .u8).blwf 0 _)) rfl), trivial⟩ ⟨(rn_b rfl), (rn_b rfl), (rn_b (cp_blw (Tables.enc.blw _ 0))), (rn_refL (encI .u8) rfl rfl rfl), (rn_b (FuncRow.enc.blws 0)), (rn_b rfl), (rn_b rfl), (rn_b (Save.enc.blws 0)), trivial⟩)
      · cases h
        exact X_nn rfl hw (wk_rn [some (0, 0)] rfl (Nat.le_of_ble_eq_true rfl) ⟨(rn_ob rfl rfl (.refl ((encI .u8).blwf 0 _)) rfl), trivial⟩ ⟨(rn_b rfl), (rn_b rfl), (rn_b (cp_blw (Tables.enc.blw _ 0))), (rn_refL (encI .u8) rfl rfl rfl), (rn_b (FuncRow.enc.blws 0)), trivial⟩)
  · refine X_nx hw ?_
    refine E_sq ?_
    refine E_reg ?_
    refine E_mv (v' := (.ref 0 1 0 (List.length s_2) none)) rfl ?_
    refine E_op0 (v' := (.cptr (Tables.av t_00).cells 1)) rfl rfl ?_
    refine E_op0 (v' := (.sl false 2 (List.map Site.av t_00.Sites))) rfl rfl ?_
    refine E_len rfl ?_
    obtain ⟨put_23, hput_23, h⟩ := bd_some h
    refine E_callF (S' := [.arr 2 (flat (avI .u8) put_23)]) (r' := (.ref 0 2 0 (List.length put_23) none)) (windlassref19_put_r_ev (fuel := fuel) hput_23) [0] rfl rfl (by decide) rfl rfl ⟨(fr_in rfl rfl (.refl ((encI .u8).blwf 0 _))), trivial⟩ ⟨(fr_out rfl rfl (.refl ((encI .u8).blwf 0 _)) rfl rfl), trivial⟩ ⟨.inl rfl, trivial⟩ rfl (.cons (fi_ref rfl rfl rfl rfl) (.cons (.base rfl (.refl _)) (.nil (Nat.zero_le _)))) (fo_ref rfl rfl rfl rfl) ?_
    refine E_mv (v' := (.ref 0 2 0 (List.length put_23) none)) rfl ?_
    refine E_nil ?_
    refine E_nx ?_
    refine E_as ?_
    refine E_sq ?_
    refine E_reg ?_
    refine E_op0 (v' := (.cptr (Tables.av t_00).cells 1)) rfl rfl ?_
    refine E_op0 (v' := (.sl false 2 (List.map Site.av t_00.Sites))) rfl rfl ?_
    refine E_len rfl ?_
    refine E_mv (v' := (.int .i64 0)) rfl ?_
    refine E_nil ?_
    refine E_nx ?_
    refine E_sq ?_
    refine E_rngO (fun s_24 => [(3, (.ref 0 1 0 (List.length s_24) none)), (87, (.sl false 2 (List.map Site.av t_00.Sites)))]) (fun s_24 => [.arr 1 (flat (avI .u8) s_24)]) h (by decide) (by decide) (fun _ => ⟨rfl, rfl, rfl, rfl⟩) (wk_rn [some (0, 0)] rfl (Nat.le_of_ble_eq_true rfl) ⟨(rn_ob rfl rfl (.refl ((encI .u8).blwf 0 _)) rfl), trivial⟩ ⟨(rn_b rfl), (rn_b rfl), (rn_refL (encI .u8) rfl rfl rfl), (rn_b (Site.enc.blws 0)), trivial⟩) (fun i_25 s_26 s_24 c hx_27 hlt h => ?_) (fun s_24 fr' S' h hw => ?_)
    · refine E_sq ?_
      refine E_reg ?_
      refine E_iadF rfl rfl (getI_of hx_27) ?_
      refine E_op0 (v' := (Site.av s_26)) rfl rfl ?_
      refine E_op (v' := .ptr 1 0 0) (S' := [.arr 1 (flat (avI .u8) s_24), .arr 0 [(.int .i64 0), .nils]]) rfl rfl rfl ?_
      refine E_do (S' := [.arr 1 (flat (avI .u8) s_24), .arr 0 [(.int .i64 s_26.At), (.sl false 1 (List.map (avI .i64) s_26.Live))]]) rfl rfl ?_
      refine E_nil ?_
      refine E_nx ?_
      refine E_sq ?_
      refine E_reg ?_
      refine E_mv (v' := (.ref 0 1 0 (List.length s_24) none)) rfl ?_
      refine E_op0 (v' := (.ptr 1 0 0)) rfl rfl ?_
      refine E_op (v' := (.int .i64 s_26.At)) (S' := [.arr 1 (flat (avI .u8) s_24), .arr 0 [(.int .i64 s_26.At), (.sl false 1 (List.map (avI .i64) s_26.Live))]]) rfl rfl rfl ?_
      obtain ⟨put_28, hput_28, h⟩ := bd_some h
      refine E_callF (S' := [.arr 2 (flat (avI .u8) put_28), .arr 0 [(.int .i64 s_26.At), (.sl false 1 (List.map (avI .i64) s_26.Live))]]) (r' := (.ref 0 2 0 (List.length put_28) none)) (windlassref19_put_r_ev (fuel := fuel) hput_28) [0] rfl rfl (by decide) rfl rfl ⟨(fr_in rfl rfl (.refl ((encI .u8).blwf 0 _))), trivial⟩ ⟨(fr_out rfl rfl (.refl ((encI .u8).blwf 0 _)) rfl rfl), trivial⟩ ⟨.inl rfl, .inr rfl, trivial⟩ rfl (.cons (fi_ref rfl rfl rfl rfl) (.cons (.base rfl (.refl _)) (.nil (Nat.zero_le _)))) (fo_ref rfl rfl rfl rfl) ?_
      refine E_mv (v' := (.ref 0 2 0 (List.length put_28) none)) rfl ?_
      refine E_nil ?_
      refine E_nx ?_
      refine E_sq ?_
      refine E_reg ?_
      refine E_mv (v' := (.ref 0 2 0 (List.length put_28) none)) rfl ?_
      refine E_op0 (v' := (.ptr 1 0 1)) rfl rfl ?_
      refine E_op (v' := (.sl false 1 (List.map (avI .i64) s_26.Live))) (S' := [.arr 2 (flat (avI .u8) put_28), .arr 0 [(.int .i64 s_26.At), (.sl false 1 (List.map (avI .i64) s_26.Live))]]) rfl rfl rfl ?_
      refine E_len rfl ?_
      obtain ⟨put_29, hput_29, h⟩ := bd_some h
      refine E_callF (S' := [.arr 3 (flat (avI .u8) put_29), .arr 0 [(.int .i64 s_26.At), (.sl false 1 (List.map (avI .i64) s_26.Live))]]) (r' := (.ref 0 3 0 (List.length put_29) none)) (windlassref19_put_r_ev (fuel := fuel) hput_29) [0] rfl rfl (by decide) rfl rfl ⟨(fr_in rfl rfl (.refl ((encI .u8).blwf 0 _))), trivial⟩ ⟨(fr_out rfl rfl (.refl ((encI .u8).blwf 0 _)) rfl rfl), trivial⟩ ⟨.inl rfl, .inr rfl, trivial⟩ rfl (.cons (fi_ref rfl rfl rfl rfl) (.cons (.base rfl (.refl _)) (.nil (Nat.zero_le _)))) (fo_ref rfl rfl rfl rfl) ?_
      refine E_mv (v' := (.ref 0 3 0 (List.length put_29) none)) rfl ?_
      refine E_nil ?_
      refine E_nx ?_
      refine E_sq ?_
      refine E_reg ?_
      refine E_op0 (v' := (.ptr 1 0 1)) rfl rfl ?_
      refine E_op (v' := (.sl false 1 (List.map (avI .i64) s_26.Live))) (S' := [.arr 3 (flat (avI .u8) put_29), .arr 0 [(.int .i64 s_26.At), (.sl false 1 (List.map (avI .i64) s_26.Live))]]) rfl rfl rfl ?_
      refine E_len rfl ?_
      refine E_mv (v' := (.int .i64 0)) rfl ?_
      refine E_nil ?_
      refine E_nx ?_
      refine E_rngO (fun s_30 => [(3, (.ref 0 1 0 (List.length s_30) none)), (87, (.sl false 2 (List.map Site.av t_00.Sites))), (88, (.int .i64 (List.length t_00.Sites : Int))), (89, (.int .i64 (i_25 : Int))), (103, (.sl false 1 (List.map (avI .i64) s_26.Live)))]) (fun s_30 => [.arr 1 (flat (avI .u8) s_30)]) h (by decide) (by decide) (fun _ => ⟨rfl, rfl, rfl, rfl⟩) (wk_rn [some (0, 0)] rfl (Nat.le_of_ble_eq_true rfl) ⟨(rn_ob rfl rfl (.refl ((encI .u8).blwf 0 _)) rfl), trivial⟩ ⟨(rn_b rfl), (rn_b rfl), (rn_refL (encI .u8) rfl rfl rfl), (rn_b (Site.enc.blws 0)), (rn_b rfl), (rn_b rfl), (rn_b ((encI .i64).blws 0)), trivial⟩) (fun i_31 o_32 s_30 c hx_33 hlt h => ?_) (fun s_30 fr' S' h hw => ?_)
      · refine E_sq ?_
        refine E_reg ?_
        refine E_iadF rfl rfl (getI_of hx_33) ?_
        refine E_op0 (v' := (.int .i64 o_32)) rfl rfl ?_
        refine E_mv (v' := (.int .i64 o_32)) rfl ?_
        refine E_nil ?_
        refine E_nx ?_
        refine E_reg ?_
        refine E_mv (v' := (.ref 0 1 0 (List.length s_30) none)) rfl ?_
        refine E_mv (v' := (.int .i64 o_32)) rfl ?_
        obtain ⟨put_34, hput_34, h⟩ := bd_some h
        refine E_callF (S' := [.arr 2 (flat (avI .u8) put_34)]) (r' := (.ref 0 2 0 (List.length put_34) none)) (windlassref19_put_r_ev (fuel := fuel) hput_34) [0] rfl rfl (by decide) rfl rfl ⟨(fr_in rfl rfl (.refl ((encI .u8).blwf 0 _))), trivial⟩ ⟨(fr_out rfl rfl (.refl ((encI .u8).blwf 0 _)) rfl rfl), trivial⟩ ⟨.inl rfl, trivial⟩ rfl (.cons (fi_ref rfl rfl rfl rfl) (.cons (.base rfl (.refl _)) (.nil (Nat.zero_le _)))) (fo_ref rfl rfl rfl rfl) ?_
        refine E_mv (v' := (.ref 0 2 0 (List.length put_34) none)) rfl ?_
        refine E_nil ?_
        cases h
        exact L_nn rfl (wk_rn [some (0, 0)] rfl (Nat.le_of_ble_eq_true rfl) ⟨(rn_ob rfl rfl (.refl ((encI .u8).blwf 0 _)) rfl), trivial⟩ ⟨(rn_b rfl), (rn_b rfl), (rn_refL (encI .u8) rfl rfl rfl), (rn_b (Site.enc.blws 0)), (rn_b rfl), (rn_b rfl), (rn_b ((encI .i64).blws 0)), trivial⟩)
      · cases h
        exact X_nn rfl hw (wk_rn [some (0, 0)] rfl (Nat.le_of_ble_eq_true rfl) ⟨(rn_ob rfl rfl (.refl ((encI .u8).blwf 0 _)) rfl), trivial⟩ ⟨(rn_b rfl), (rn_b rfl), (rn_refL (encI .u8) rfl rfl rfl), (rn_b (Site.enc.blws 0)), trivial⟩)
    · refine X_nx hw ?_
      refine E_sq ?_
      refine E_reg ?_
      refine E_mv (v' := (.ref 0 1 0 (List.length s_24) none)) rfl ?_
      refine E_mv (v' := (.ref 0 1 0 (List.length s_24) none)) rfl ?_
      refine E_nil ?_
      refine E_nx ?_
      refine E_ret ?_
      cases h
      exact ⟨trivial, _, rfl, (fz_ref (encI .u8) (Nat.zero_le _) rfl)⟩
/- windlass/windlasslaw19.TablesBytes -/
def fc5 : FC := (.seq (.reg [⟨(some 1), none, .op (.box (.t 0))⟩,
  ⟨(some 2), none, .op (.mv (.v (.bool false)))⟩] [])
  (.seq (.seq (.reg [⟨(some 7), none, .call 8 []⟩,
  ⟨(some 8), none, .op (.un .not (.t 7))⟩] [])
  (.cond (.t 8)
  (.seq (.reg [⟨(some 2), none, .op (.mv (.v (.bool false)))⟩] [])
  .ret)
  .skip))
  (.seq (.reg [⟨(some 10), none, .op (.load (some 2) (.t 1))⟩,
  ⟨(some 11), none, .call 15 [(.t 10)]⟩,
  ⟨(some 9), none, .op (.mv (.t 11))⟩,
  ⟨(some 12), none, .op (.ext 0 (.t 9))⟩,
  ⟨(some 13), none, .op (.ext 1 (.t 9))⟩,
  ⟨(some 3), none, .op (.mv (.t 12))⟩,
  ⟨(some 4), none, .op (.mv (.t 13))⟩] [])
  (.seq (.seq (.reg [⟨(some 14), none, .op (.load (some 2) (.t 1))⟩,
  ⟨(some 15), none, .call 11 [(.t 14)]⟩,
  ⟨(some 16), none, .op (.un .not (.t 15))⟩] [])
  (.cond (.t 16)
  (.seq (.reg [⟨(some 17), none, .op (.load (some 2) (.t 1))⟩,
  ⟨(some 18), none, .call 9 [(.t 17)]⟩,
  ⟨(some 19), none, .op (.bin .none .eql (.t 18) (.v (.int .i64 190)))⟩,
  ⟨(some 20), none, .op (.mv (.t 19))⟩,
  ⟨(some 21), some (20, true), .op (.mv (.t 4))⟩,
  ⟨(some 22), some (20, true), .op (.bin .none .eql (.t 21) (.v (.int .i64 190)))⟩,
  ⟨(some 23), none, .op (.pick (.t 20) (.t 22) (.v (.bool false)))⟩,
  ⟨(some 24), none, .op (.mv (.t 23))⟩,
  ⟨(some 25), some (24, true), .op (.mv (.t 3))⟩,
  ⟨(some 26), some (24, true), .op (.len .sl (.t 25))⟩,
  ⟨(some 27), some (24, true), .op (.bin .none .eql (.t 26) (.v (.int .i64 0)))⟩,
  ⟨(some 28), none, .op (.pick (.t 24) (.t 27) (.v (.bool false)))⟩,
  ⟨(some 2), none, .op (.mv (.t 28))⟩] [])
  .ret)
  .skip))
  (.seq (.reg [⟨(some 30), none, .op (.mv (.t 3))⟩,
  ⟨(some 31), none, .call 16 [(.t 30)]⟩,
  ⟨(some 29), none, .op (.mv (.t 31))⟩,
  ⟨(some 32), none, .op (.ext 0 (.t 29))⟩,
  ⟨(some 33), none, .op (.ext 1 (.t 29))⟩,
  ⟨(some 5), none, .op (.new [.nils, .nils])⟩,
  ⟨none, none, .op (.store 2 (.t 5) (.t 32))⟩,
  ⟨(some 6), none, .op (.mv (.t 33))⟩] [])
  (.seq (.reg [⟨(some 34), none, .op (.load (some 2) (.t 1))⟩,
  ⟨(some 35), none, .call 9 [(.t 34)]⟩,
  ⟨(some 36), none, .op (.bin .none .eql (.t 35) (.v (.int .i64 0)))⟩,
  ⟨(some 37), none, .op (.mv (.t 36))⟩,
  ⟨(some 38), some (37, true), .op (.mv (.t 4))⟩,
  ⟨(some 39), some (37, true), .op (.bin .none .eql (.t 38) (.v (.int .i64 0)))⟩,
  ⟨(some 40), none, .op (.pick (.t 37) (.t 39) (.v (.bool false)))⟩,
  ⟨(some 41), none, .op (.mv (.t 40))⟩,
  ⟨(some 42), some (41, true), .op (.mv (.t 3))⟩,
  ⟨(some 43), some (41, true), .op (.b2s (.t 42))⟩,
  ⟨(some 44), some (41, true), .op (.load (some 2) (.t 1))⟩,
  ⟨(some 45), some (41, true), .call 17 [(.t 44)]⟩,
  ⟨(some 46), some (41, true), .op (.b2s (.t 45))⟩,
  ⟨(some 47), some (41, true), .op (.bin .none .eql (.t 43) (.t 46))⟩,
  ⟨(some 48), none, .op (.pick (.t 41) (.t 47) (.v (.bool false)))⟩,
  ⟨(some 49), none, .op (.mv (.t 48))⟩,
  ⟨(some 50), some (49, true), .op (.mv (.t 6))⟩,
  ⟨(some 51), some (49, true), .op (.bin .none .eql (.t 50) (.v (.int .i64 0)))⟩,
  ⟨(some 52), none, .op (.pick (.t 49) (.t 51) (.v (.bool false)))⟩,
  ⟨(some 53), none, .op (.mv (.t 52))⟩,
  ⟨(some 54), some (53, true), .op (.load (some 2) (.t 5))⟩,
  ⟨(some 55), some (53, true), .call 11 [(.t 54)]⟩,
  ⟨(some 56), none, .op (.pick (.t 53) (.t 55) (.v (.bool false)))⟩,
  ⟨(some 57), none, .op (.mv (.t 56))⟩,
  ⟨(some 58), some (57, true), .op (.load (some 2) (.t 5))⟩,
  ⟨(some 59), some (57, true), .call 17 [(.t 58)]⟩,
  ⟨(some 60), some (57, true), .op (.b2s (.t 59))⟩,
  ⟨(some 61), some (57, true), .op (.mv (.t 3))⟩,
  ⟨(some 62), some (57, true), .op (.b2s (.t 61))⟩,
  ⟨(some 63), some (57, true), .op (.bin .none .eql (.t 60) (.t 62))⟩,
  ⟨(some 64), none, .op (.pick (.t 57) (.t 63) (.v (.bool false)))⟩,
  ⟨(some 2), none, .op (.mv (.t 64))⟩] [(9, 11), (25, 28)])
  .ret))))))
theorem fn5 : Fn3 Try.prog 5 65 [(2, none)] fc5 := ⟨_, _, Try.func5, rfl, rfl, rfl, by kernel_rfl⟩
def windlasslaw19_TablesBytes_s (fuel : Nat) (t_00 : Tables) : Option Bool :=
  ((windlasslaw19_first_s fuel).bind fun fir_1 => (if (!fir_1) then (some false) else ((tables_Encode_s t_00).bind fun enc_2 => ((windlassref19_Right_s t_00).bind fun rig_3 => (if (!rig_3) then (jp (fun (s_5 : Bool) => (some s_5)) (fun k_4 => ((tables_Check_s t_00).bind fun che_6 => (if (che_6 == 190) then (if (enc_2.2 == 190) then (k_4 ((List.length enc_2.1 : Int) == 0)) else (k_4 false)) else (k_4 false))))) else ((tables_Decode_s enc_2.1).bind fun dec_7 => (jp (fun (s_9 : Bool) => (some s_9)) (fun k_8 => ((tables_Check_s t_00).bind fun che_10 => (if (che_10 == 0) then (if (enc_2.2 == 0) then ((toStr enc_2.1).bind fun s_11 => ((windlassref19_Bytes_s fuel t_00).bind fun byt_12 => ((toStr byt_12).bind fun s_13 => (if (ByteArray.toList s_11 == ByteArray.toList s_13) then (if (dec_7.2 == 0) then ((windlassref19_Right_s dec_7.1).bind fun rig_14 => (if rig_14 then ((windlassref19_Bytes_s fuel dec_7.1).bind fun byt_15 => ((toStr byt_15).bind fun s_16 => ((toStr enc_2.1).bind fun s_17 => (k_8 (ByteArray.toList s_16 == ByteArray.toList s_17))))) else (k_8 false))) else (k_8 false)) else (k_8 false))))) else (k_8 false)) else (k_8 false)))))))))))
theorem windlasslaw19_TablesBytes_ev {fuel : Nat} {t_00 : Tables} {r : Bool} (h : windlasslaw19_TablesBytes_s fuel t_00 = some r) : PureEv Try.prog 5 [(Tables.av t_00)] (.bool r) := by
  unfold windlasslaw19_TablesBytes_s at h
  refine PureEv_end mixed fn5 (by simp) [5] 6 ?_
  unfold fc5
  refine E_sq ?_
  refine E_reg ?_
  refine E_op0 (v' := (.cptr (Tables.av t_00).cells 0)) rfl rfl ?_
  refine E_mv (v' := (.bool false)) rfl ?_
  refine E_nil ?_
  refine E_nx ?_
  refine E_as ?_
  refine E_sq ?_
  refine E_reg ?_
  obtain ⟨fir_1, hfir_1, h⟩ := bd_some h
  refine E_callW (windlasslaw19_first_ev (fuel := fuel)  hfir_1) rfl trivial (blwL_of trivial) rfl ?_
  refine E_op0 (v' := (.bool (!fir_1))) rfl rfl ?_
  refine E_nil ?_
  refine E_nx ?_
  refine E_sq ?_
  refine E_cs (t := (!fir_1)) rfl (fun hb => ?_) (fun hb => ?_)
  · rw [ite_t hb] at h
    refine E_sq ?_
    refine E_reg ?_
    refine E_mv (v' := (.bool false)) rfl ?_
    refine E_nil ?_
    refine E_nx ?_
    refine E_ret ?_
    refine E_thr ?_
    cases h
    exact ⟨trivial, _, rfl, (fz_b rfl (.refl _))⟩
  · rw [ite_f hb] at h
    refine E_skip ?_
    refine E_nx ?_
    refine E_sq ?_
    refine E_reg ?_
    refine E_op0 (v' := (Tables.av t_00)) rfl rfl ?_
    obtain ⟨enc_2, henc_2, h⟩ := bd_some h
    refine E_callW (tables_Encode_ev  henc_2) rfl ⟨(.refl _), trivial⟩ (blwL_of ⟨(Tables.enc.blw _ 0), trivial⟩) (tup_blw ⟨((encI .u8).blws 0), rfl, trivial⟩) ?_
    refine E_mv (v' := (.tup [(.sl false 1 (List.map (avI .u8) enc_2.1)), (.int .i64 enc_2.2)])) rfl ?_
    refine E_op0 (v' := (.sl false 1 (List.map (avI .u8) enc_2.1))) rfl rfl ?_
    refine E_op0 (v' := (.int .i64 enc_2.2)) rfl rfl ?_
    refine E_mv (v' := (.sl false 1 (List.map (avI .u8) enc_2.1))) rfl ?_
    refine E_mv (v' := (.int .i64 enc_2.2)) rfl ?_
    refine E_nil ?_
    refine E_nx ?_
    refine E_as ?_
    refine E_sq ?_
    refine E_reg ?_
    refine E_op0 (v' := (Tables.av t_00)) rfl rfl ?_
    obtain ⟨rig_3, hrig_3, h⟩ := bd_some h
    refine E_callW (windlassref19_Right_ev  hrig_3) rfl ⟨(.refl _), trivial⟩ (blwL_of ⟨(Tables.enc.blw _ 0), trivial⟩) rfl ?_
    refine E_op0 (v' := (.bool (!rig_3))) rfl rfl ?_
    refine E_nil ?_
    refine E_nx ?_
    refine E_sq ?_
    refine E_cs (t := (!rig_3)) rfl (fun hb => ?_) (fun hb => ?_)
    · rw [ite_t hb] at h
      refine E_jp h (fun s_5 => [(2, (.bool s_5))]) (fun s_5 => []) (fun k_4 h => ?_) (fun s_5 h => ?_)
      · refine E_reg ?_
        refine E_op0 (v' := (Tables.av t_00)) rfl rfl ?_
        obtain ⟨che_6, hche_6, h⟩ := bd_some h
        refine E_callW (tables_Check_ev  hche_6) rfl ⟨(.refl _), trivial⟩ (blwL_of ⟨(Tables.enc.blw _ 0), trivial⟩) rfl ?_
        refine E_op0 (v' := (.bool (che_6 == 190))) rfl rfl ?_
        refine E_mv (v' := (.bool (che_6 == 190))) rfl ?_
        refine E_gsT (b := (che_6 == 190)) rfl rfl rfl (fun hb => ?_) (fun hb => ?_)
        · rw [ite_t hb] at h
          refine E_mv (v' := (.int .i64 enc_2.2)) rfl ?_
          refine E_gh rfl ?_
          refine E_op0 (v' := (.bool (enc_2.2 == 190))) rfl rfl ?_
          refine E_pt rfl rfl ?_
          refine E_mv (v' := (.bool (enc_2.2 == 190))) rfl ?_
          refine E_gsT (b := (enc_2.2 == 190)) rfl rfl rfl (fun hb => ?_) (fun hb => ?_)
          · rw [ite_t hb] at h
            refine E_mv (v' := (.sl false 1 (List.map (avI .u8) enc_2.1))) rfl ?_
            refine E_gh rfl ?_
            refine E_len rfl ?_
            refine E_gh rfl ?_
            refine E_op0 (v' := (.bool ((List.length enc_2.1 : Int) == 0))) rfl rfl ?_
            refine E_pt rfl rfl ?_
            refine E_mv (v' := (.bool ((List.length enc_2.1 : Int) == 0))) rfl ?_
            refine E_nil ?_
            exact E_jx _ h (wk_aw ⟨(.refl _), trivial⟩)
          · rw [ite_f hb] at h
            refine E_gm rfl ?_
            refine E_gm rfl ?_
            refine E_pf rfl rfl ?_
            refine E_mv (v' := (.bool false)) rfl ?_
            refine E_nil ?_
            exact E_jx _ h (wk_aw ⟨(.refl _), trivial⟩)
        · rw [ite_f hb] at h
          refine E_gm rfl ?_
          refine E_pf rfl rfl ?_
          refine E_mv (v' := (.bool false)) rfl ?_
          refine E_gm rfl ?_
          refine E_gm rfl ?_
          refine E_gm rfl ?_
          refine E_pf rfl rfl ?_
          refine E_mv (v' := (.bool false)) rfl ?_
          refine E_nil ?_
          exact E_jx _ h (wk_aw ⟨(.refl _), trivial⟩)
      · refine E_ret ?_
        refine E_thr ?_
        cases h
        exact ⟨trivial, _, rfl, (fz_b rfl (.refl _))⟩
    · rw [ite_f hb] at h
      refine E_skip ?_
      refine E_nx ?_
      refine E_sq ?_
      refine E_reg ?_
      refine E_mv (v' := (.sl false 1 (List.map (avI .u8) enc_2.1))) rfl ?_
      obtain ⟨dec_7, hdec_7, h⟩ := bd_some h
      refine E_callW (tables_Decode_ev  hdec_7) rfl ⟨(.refl _), trivial⟩ (blwL_of ⟨((encI .u8).blws 0), trivial⟩) (tup_blw ⟨(Tables.enc.blw _ 0), rfl, trivial⟩) ?_
      refine E_mv (v' := (.tup [(Tables.av dec_7.1), (.int .i64 dec_7.2)])) rfl ?_
      refine E_op0 (v' := (Tables.av dec_7.1)) rfl rfl ?_
      refine E_op0 (v' := (.int .i64 dec_7.2)) rfl rfl ?_
      refine E_op (v' := .ptr 0 0 0) (S' := [.arr 0 [.nils, .nils]]) rfl rfl rfl ?_
      refine E_do (S' := [.arr 0 [(.sl false 6 (List.map FuncRow.av dec_7.1.Funcs)), (.sl false 2 (List.map Site.av dec_7.1.Sites))]]) rfl rfl ?_
      refine E_mv (v' := (.int .i64 dec_7.2)) rfl ?_
      refine E_nil ?_
      refine E_nx ?_
      refine E_jp h (fun s_9 => [(2, (.bool s_9))]) (fun s_9 => []) (fun k_8 h => ?_) (fun s_9 h => ?_)
      · refine E_regp ?_
        refine E_op0 (v' := (Tables.av t_00)) rfl rfl ?_
        obtain ⟨che_10, hche_10, h⟩ := bd_some h
        refine E_callW (tables_Check_ev  hche_10) rfl ⟨(.refl _), trivial⟩ (blwL_of ⟨(Tables.enc.blw _ 0), trivial⟩) rfl ?_
        refine E_op0 (v' := (.bool (che_10 == 0))) rfl rfl ?_
        refine E_mv (v' := (.bool (che_10 == 0))) rfl ?_
        refine E_gsT (b := (che_10 == 0)) rfl rfl rfl (fun hb => ?_) (fun hb => ?_)
        · rw [ite_t hb] at h
          refine E_mv (v' := (.int .i64 enc_2.2)) rfl ?_
          refine E_gh rfl ?_
          refine E_op0 (v' := (.bool (enc_2.2 == 0))) rfl rfl ?_
          refine E_pt rfl rfl ?_
          refine E_mv (v' := (.bool (enc_2.2 == 0))) rfl ?_
          refine E_gsT (b := (enc_2.2 == 0)) rfl rfl rfl (fun hb => ?_) (fun hb => ?_)
          · rw [ite_t hb] at h
            refine E_mv (v' := (.sl false 1 (List.map (avI .u8) enc_2.1))) rfl ?_
            refine E_gh rfl ?_
            obtain ⟨s_11, hs_11, h⟩ := bd_some h
            refine E_b2s rfl hs_11 ?_
            refine E_gh rfl ?_
            refine E_op0 (v' := (Tables.av t_00)) rfl rfl ?_
            refine E_gh rfl ?_
            obtain ⟨byt_12, hbyt_12, h⟩ := bd_some h
            refine E_callW (windlassref19_Bytes_ev (fuel := fuel)  hbyt_12) rfl ⟨(.refl _), trivial⟩ (blwL_of ⟨(Tables.enc.blw _ 0), trivial⟩) ((encI .u8).blws 0) ?_
            refine E_gh rfl ?_
            obtain ⟨s_13, hs_13, h⟩ := bd_some h
            refine E_b2s rfl hs_13 ?_
            refine E_gh rfl ?_
            refine E_op0 (v' := (.bool (ByteArray.toList s_11 == ByteArray.toList s_13))) rfl rfl ?_
            refine E_pt rfl rfl ?_
            refine E_mv (v' := (.bool (ByteArray.toList s_11 == ByteArray.toList s_13))) rfl ?_
            refine E_gsT (b := (ByteArray.toList s_11 == ByteArray.toList s_13)) rfl rfl rfl (fun hb => ?_) (fun hb => ?_)
            · rw [ite_t hb] at h
              refine E_mv (v' := (.int .i64 dec_7.2)) rfl ?_
              refine E_gh rfl ?_
              refine E_op0 (v' := (.bool (dec_7.2 == 0))) rfl rfl ?_
              refine E_pt rfl rfl ?_
              refine E_mv (v' := (.bool (dec_7.2 == 0))) rfl ?_
              refine E_gsT (b := (dec_7.2 == 0)) rfl rfl rfl (fun hb => ?_) (fun hb => ?_)
              · rw [ite_t hb] at h
                refine E_opw (v' := (Tables.av dec_7.1)) rfl (.aggL ⟨(.refl _), (.refl _), trivial⟩) rfl ?_
                refine E_gh rfl ?_
                obtain ⟨rig_14, hrig_14, h⟩ := bd_some h
                refine E_callW (windlassref19_Right_ev  hrig_14) rfl ⟨(.refl _), trivial⟩ (blwL_of ⟨(Tables.enc.blw _ 0), trivial⟩) rfl ?_
                refine E_pt rfl rfl ?_
                refine E_mv (v' := (.bool rig_14)) rfl ?_
                refine E_gsT (b := rig_14) rfl rfl rfl (fun hb => ?_) (fun hb => ?_)
                · rw [ite_t hb] at h
                  refine E_opw (v' := (Tables.av dec_7.1)) rfl (.aggL ⟨(.refl _), (.refl _), trivial⟩) rfl ?_
                  refine E_gh rfl ?_
                  obtain ⟨byt_15, hbyt_15, h⟩ := bd_some h
                  refine E_callW (windlassref19_Bytes_ev (fuel := fuel)  hbyt_15) rfl ⟨(.refl _), trivial⟩ (blwL_of ⟨(Tables.enc.blw _ 0), trivial⟩) ((encI .u8).blws 0) ?_
                  refine E_gh rfl ?_
                  obtain ⟨s_16, hs_16, h⟩ := bd_some h
                  refine E_b2s rfl hs_16 ?_
                  refine E_gh rfl ?_
                  refine E_mv (v' := (.sl false 1 (List.map (avI .u8) enc_2.1))) rfl ?_
                  refine E_gh rfl ?_
                  obtain ⟨s_17, hs_17, h⟩ := bd_some h
                  refine E_b2s rfl hs_17 ?_
                  refine E_gh rfl ?_
                  refine E_op0 (v' := (.bool (ByteArray.toList s_16 == ByteArray.toList s_17))) rfl rfl ?_
                  refine E_pt rfl rfl ?_
                  refine E_mv (v' := (.bool (ByteArray.toList s_16 == ByteArray.toList s_17))) rfl ?_
                  refine E_nil ?_
                  refine And.intro (by simp [okLog, nthL, okPair, hp, fpOf]) ?_
                  exact E_jx _ h (wk_rn [] rfl (Nat.le_of_ble_eq_true rfl) trivial ⟨(rn_b rfl), trivial⟩)
                · rw [ite_f hb] at h
                  refine E_gm rfl ?_
                  refine E_gm rfl ?_
                  refine E_gm rfl ?_
                  refine E_gm rfl ?_
                  refine E_gm rfl ?_
                  refine E_pf rfl rfl ?_
                  refine E_mv (v' := (.bool false)) rfl ?_
                  refine E_nil ?_
                  refine And.intro (by simp [okLog, nthL, okPair, hp, fpOf]) ?_
                  exact E_jx _ h (wk_rn [] rfl (Nat.le_of_ble_eq_true rfl) trivial ⟨(rn_b rfl), trivial⟩)
              · rw [ite_f hb] at h
                refine E_gm rfl ?_
                refine E_pf rfl rfl ?_
                refine E_mv (v' := (.bool false)) rfl ?_
                refine E_gm rfl ?_
                refine E_gm rfl ?_
                refine E_gm rfl ?_
                refine E_gm rfl ?_
                refine E_gm rfl ?_
                refine E_gm rfl ?_
                refine E_pf rfl rfl ?_
                refine E_mv (v' := (.bool false)) rfl ?_
                refine E_nil ?_
                refine And.intro (by simp [okLog, nthL, okPair, hp, fpOf]) ?_
                exact E_jx _ h (wk_rn [] rfl (Nat.le_of_ble_eq_true rfl) trivial ⟨(rn_b rfl), trivial⟩)
            · rw [ite_f hb] at h
              refine E_gm rfl ?_
              refine E_pf rfl rfl ?_
              refine E_mv (v' := (.bool false)) rfl ?_
              refine E_gm rfl ?_
              refine E_gm rfl ?_
              refine E_pf rfl rfl ?_
              refine E_mv (v' := (.bool false)) rfl ?_
              refine E_gm rfl ?_
              refine E_gm rfl ?_
              refine E_gm rfl ?_
              refine E_gm rfl ?_
              refine E_gm rfl ?_
              refine E_gm rfl ?_
              refine E_pf rfl rfl ?_
              refine E_mv (v' := (.bool false)) rfl ?_
              refine E_nil ?_
              refine And.intro (by simp [okLog, nthL, okPair, hp, fpOf]) ?_
              exact E_jx _ h (wk_rn [] rfl (Nat.le_of_ble_eq_true rfl) trivial ⟨(rn_b rfl), trivial⟩)
          · rw [ite_f hb] at h
            refine E_gm rfl ?_
            refine E_gm rfl ?_
            refine E_gm rfl ?_
            refine E_gm rfl ?_
            refine E_gm rfl ?_
            refine E_pf rfl rfl ?_
            refine E_mv (v' := (.bool false)) rfl ?_
            refine E_gm rfl ?_
            refine E_gm rfl ?_
            refine E_pf rfl rfl ?_
            refine E_mv (v' := (.bool false)) rfl ?_
            refine E_gm rfl ?_
            refine E_gm rfl ?_
            refine E_pf rfl rfl ?_
            refine E_mv (v' := (.bool false)) rfl ?_
            refine E_gm rfl ?_
            refine E_gm rfl ?_
            refine E_gm rfl ?_
            refine E_gm rfl ?_
            refine E_gm rfl ?_
            refine E_gm rfl ?_
            refine E_pf rfl rfl ?_
            refine E_mv (v' := (.bool false)) rfl ?_
            refine E_nil ?_
            refine And.intro (by simp [okLog, nthL, okPair, hp, fpOf]) ?_
            exact E_jx _ h (wk_rn [] rfl (Nat.le_of_ble_eq_true rfl) trivial ⟨(rn_b rfl), trivial⟩)
        · rw [ite_f hb] at h
          refine E_gm rfl ?_
          refine E_pf rfl rfl ?_
          refine E_mv (v' := (.bool false)) rfl ?_
          refine E_gm rfl ?_
          refine E_gm rfl ?_
          refine E_gm rfl ?_
          refine E_gm rfl ?_
          refine E_gm rfl ?_
          refine E_gm rfl ?_
          refine E_pf rfl rfl ?_
          refine E_mv (v' := (.bool false)) rfl ?_
          refine E_gm rfl ?_
          refine E_gm rfl ?_
          refine E_pf rfl rfl ?_
          refine E_mv (v' := (.bool false)) rfl ?_
          refine E_gm rfl ?_
          refine E_gm rfl ?_
          refine E_pf rfl rfl ?_
          refine E_mv (v' := (.bool false)) rfl ?_
          refine E_gm rfl ?_
          refine E_gm rfl ?_
          refine E_gm rfl ?_
          refine E_gm rfl ?_
          refine E_gm rfl ?_
          refine E_gm rfl ?_
          refine E_pf rfl rfl ?_
          refine E_mv (v' := (.bool false)) rfl ?_
          refine E_nil ?_
          refine And.intro (by simp [okLog, nthL, okPair, hp, fpOf]) ?_
          exact E_jx _ h (wk_rn [] rfl (Nat.le_of_ble_eq_true rfl) trivial ⟨(rn_b rfl), trivial⟩)
      · refine E_ret ?_
        cases h
        exact ⟨trivial, _, rfl, (fz_b rfl (.refl _))⟩
/- (*windlass/windlassref19.Tape).next -/
def fc33 : FC := (.seq (.reg [⟨(some 2), none, .op (.mv (.v (.int .i64 0)))⟩] [])
  (.seq (.seq (.reg [⟨(some 5), none, .op (.mv (.t 0))⟩,
  ⟨(some 6), none, .op (.nchk (.t 5))⟩,
  ⟨(some 7), none, .op (.fad 2 (.t 6))⟩,
  ⟨(some 8), none, .op (.load none (.t 7))⟩,
  ⟨(some 9), none, .op (.mv (.t 8))⟩,
  ⟨(some 10), some (9, false), .op (.mv (.t 0))⟩,
  ⟨(some 11), some (9, false), .op (.nchk (.t 10))⟩,
  ⟨(some 12), some (9, false), .op (.fad 1 (.t 11))⟩,
  ⟨(some 13), some (9, false), .op (.load none (.t 12))⟩,
  ⟨(some 14), some (9, false), .op (.bin .none .add (.t 13) (.v (.int .i64 4)))⟩,
  ⟨(some 15), some (9, false), .op (.mv (.t 0))⟩,
  ⟨(some 16), some (9, false), .op (.nchk (.t 15))⟩,
  ⟨(some 17), some (9, false), .op (.fad 0 (.t 16))⟩,
  ⟨(some 18), some (9, false), .op (.load none (.t 17))⟩,
  ⟨(some 19), some (9, false), .op (.len .sl (.t 18))⟩,
  ⟨(some 20), some (9, false), .op (.bin .none .gtr (.t 14) (.t 19))⟩,
  ⟨(some 21), none, .op (.pick (.t 9) (.v (.bool true)) (.t 20))⟩] [])
  (.cond (.t 21)
  (.seq (.reg [⟨(some 22), none, .op (.mv (.t 0))⟩,
  ⟨(some 23), none, .op (.nchk (.t 22))⟩,
  ⟨(some 24), none, .op (.fad 2 (.t 23))⟩,
  ⟨none, none, .op (.store 1 (.t 24) (.v (.bool true)))⟩] [])
  (.seq (.reg [⟨(some 2), none, .op (.mv (.v (.int .i64 0)))⟩] [])
  .ret))
  .skip))
  (.seq (.reg [⟨(some 3), none, .op (.mv (.v (.int .i64 0)))⟩] [])
  (.seq (.seq (.reg [⟨(some 4), none, .op (.mv (.v (.int .i64 3)))⟩] [])
  (.block 0 (.loop (.seq (.seq (.reg [⟨(some 25), none, .op (.mv (.t 4))⟩,
  ⟨(some 26), none, .op (.bin .none .geq (.t 25) (.v (.int .i64 0)))⟩] [])
  (.cond (.t 26)
  .skip
  (.exit 0)))
  (.seq (.block 1 (.reg [⟨(some 29), none, .op (.mv (.t 3))⟩,
  ⟨(some 30), none, .op (.bin .none .mul (.t 29) (.v (.int .i64 256)))⟩,
  ⟨(some 31), none, .op (.mv (.t 0))⟩,
  ⟨(some 32), none, .op (.nchk (.t 31))⟩,
  ⟨(some 33), none, .op (.fad 0 (.t 32))⟩,
  ⟨(some 34), none, .op (.load none (.t 33))⟩,
  ⟨(some 35), none, .op (.mv (.t 0))⟩,
  ⟨(some 36), none, .op (.nchk (.t 35))⟩,
  ⟨(some 37), none, .op (.fad 1 (.t 36))⟩,
  ⟨(some 38), none, .op (.load none (.t 37))⟩,
  ⟨(some 39), none, .op (.mv (.t 4))⟩,
  ⟨(some 40), none, .op (.bin .none .add (.t 38) (.t 39))⟩,
  ⟨(some 41), none, .op (.iad none none (.t 34) (.t 40))⟩,
  ⟨(some 42), none, .op (.load none (.t 41))⟩,
  ⟨(some 43), none, .op (.cint .i64 (.t 42))⟩,
  ⟨(some 44), none, .op (.bin .none .add (.t 30) (.t 43))⟩,
  ⟨(some 3), none, .op (.mv (.t 44))⟩] []))
  (.reg [⟨(some 27), none, .op (.mv (.t 4))⟩,
  ⟨(some 28), none, .op (.bin .none .sub (.t 27) (.v (.int .i64 1)))⟩,
  ⟨(some 4), none, .op (.mv (.t 28))⟩] []))))))
  (.seq (.reg [⟨(some 45), none, .op (.mv (.t 0))⟩,
  ⟨(some 46), none, .op (.nchk (.t 45))⟩,
  ⟨(some 47), none, .op (.fad 1 (.t 46))⟩,
  ⟨(some 48), none, .op (.load none (.t 47))⟩,
  ⟨(some 49), none, .op (.bin .none .add (.t 48) (.v (.int .i64 4)))⟩,
  ⟨(some 50), none, .op (.nchk (.t 45))⟩,
  ⟨(some 51), none, .op (.fad 1 (.t 50))⟩,
  ⟨none, none, .op (.store 1 (.t 51) (.t 49))⟩] [])
  (.seq (.reg [⟨(some 52), none, .op (.mv (.t 3))⟩,
  ⟨(some 2), none, .op (.mv (.t 52))⟩] [])
  .ret))))))
theorem fn33 : Fn3 Try.prog 33 53 [(2, none)] fc33 := ⟨_, _, Try.func33, rfl, rfl, rfl, by kernel_rfl⟩
def windlassref19_Tape_next_pNNN_s (fuel : Nat) (t_B_00 : (List Int)) (t_At_00 : Int) (t_Bad_00 : Bool) : Option (Int × (List Int) × Int × Bool) :=
  (jp (fun (s_2 : Bool) => (if s_2 then (some (0, t_B_00, t_At_00, true)) else ((whileN (fun (s_3 : (Int × Int)) => ((if (decide (s_3.2 ≥ 0)) then ((getI t_B_00 (I64 (t_At_00 + s_3.2))).bind fun y_4 => (some (.nxt ((I64 ((I64 (s_3.1 * 256)) + (I64 y_4))), (I64 (s_3.2 - 1)))))) else (some (.brk (s_3.1, s_3.2)))) : Option (Stp (Int × Int) (Option (Int × (List Int) × Int × Bool))))) fuel (0, 3)).bind (oc (fun (s_3 : (Int × Int)) => (some (s_3.1, t_B_00, (I64 (t_At_00 + 4)), t_Bad_00))))))) (fun k_1 => (if t_Bad_00 then (k_1 true) else (k_1 (decide ((I64 (t_At_00 + 4)) > (List.length t_B_00 : Int)))))))
theorem windlassref19_Tape_next_pNNN_ev {fuel : Nat} {t_B_00 : (List Int)} {t_At_00 : Int} {t_Bad_00 : Bool} {r : (Int × (List Int) × Int × Bool)} (h : windlassref19_Tape_next_pNNN_s fuel t_B_00 t_At_00 t_Bad_00 = some r) : Ev Try.prog 33 [(.ptr 0 0 0)] (hp [.arr 0 [(.sl false 1 (List.map (avI .u8) t_B_00)), (.int .i64 t_At_00), (.bool t_Bad_00)]]) (.int .i64 r.1) (hp [.arr 0 [(.sl false 1 (List.map (avI .u8) r.2.1)), (.int .i64 r.2.2.1), (.bool r.2.2.2)]]) := by
  unfold windlassref19_Tape_next_pNNN_s at h
  refine Ev_end mixed fn33 (by simp) [] ?_
  unfold fc33
  refine E_sq ?_
  refine E_reg ?_
  refine E_mv (v' := (.int .i64 0)) rfl ?_
  refine E_nil ?_
  refine E_nx ?_
  refine E_as ?_
  refine E_jp h (fun s_2 => [(0, (.ptr 0 0 0)), (21, (.bool s_2))]) (fun s_2 => [.arr 0 [(.sl false 1 (List.map (avI .u8) t_B_00)), (.int .i64 t_At_00), (.bool t_Bad_00)]]) (fun k_1 h => ?_) (fun s_2 h => ?_)
  · refine E_reg ?_
    refine E_mv (v' := (.ptr 0 0 0)) rfl ?_
    refine E_op0 (v' := (.ptr 0 0 0)) rfl rfl ?_
    refine E_op0 (v' := (.ptr 0 0 2)) rfl rfl ?_
    refine E_op (v' := (.bool t_Bad_00)) (S' := [.arr 0 [(.sl false 1 (List.map (avI .u8) t_B_00)), (.int .i64 t_At_00), (.bool t_Bad_00)]]) rfl rfl rfl ?_
    refine E_mv (v' := (.bool t_Bad_00)) rfl ?_
    refine E_gsT (b := t_Bad_00) rfl rfl rfl (fun hb => ?_) (fun hb => ?_)
    · rw [ite_f hb] at h
      refine E_mv (v' := (.ptr 0 0 0)) rfl ?_
      refine E_gh rfl ?_
      refine E_op0 (v' := (.ptr 0 0 0)) rfl rfl ?_
      refine E_gh rfl ?_
      refine E_op0 (v' := (.ptr 0 0 1)) rfl rfl ?_
      refine E_gh rfl ?_
      refine E_op (v' := (.int .i64 t_At_00)) (S' := [.arr 0 [(.sl false 1 (List.map (avI .u8) t_B_00)), (.int .i64 t_At_00), (.bool t_Bad_00)]]) rfl rfl rfl ?_
      refine E_gh rfl ?_
      refine E_op0 (v' := (.int .i64 (I64 (t_At_00 + 4)))) rfl rfl ?_
      refine E_gh rfl ?_
      refine E_mv (v' := (.ptr 0 0 0)) rfl ?_
      refine E_gh rfl ?_
      refine E_op0 (v' := (.ptr 0 0 0)) rfl rfl ?_
      refine E_gh rfl ?_
      refine E_op0 (v' := (.ptr 0 0 0)) rfl rfl ?_
      refine E_gh rfl ?_
      refine E_op (v' := (.sl false 1 (List.map (avI .u8) t_B_00))) (S' := [.arr 0 [(.sl false 1 (List.map (avI .u8) t_B_00)), (.int .i64 t_At_00), (.bool t_Bad_00)]]) rfl rfl rfl ?_
      refine E_gh rfl ?_
      refine E_len rfl ?_
      refine E_gh rfl ?_
      refine E_op0 (v' := (.bool (decide ((I64 (t_At_00 + 4)) > (List.length t_B_00 : Int))))) rfl rfl ?_
      refine E_pf rfl rfl ?_
      refine E_nil ?_
      exact E_jx _ h (wk_rn [some (0, 0)] rfl (Nat.le_of_ble_eq_true rfl) ⟨(rn_obS rfl rfl (.cons (rn_b ((encI .u8).blws 0)) (.cons (rn_b rfl) (.cons (rn_b rfl) (.nil (Nat.zero_le _))))) rfl), trivial⟩ ⟨(rn_ptr rfl rfl rfl rfl), (rn_b rfl), trivial⟩)
    · rw [ite_t hb] at h
      refine E_gm rfl ?_
      refine E_gm rfl ?_
      refine E_gm rfl ?_
      refine E_gm rfl ?_
      refine E_gm rfl ?_
      refine E_gm rfl ?_
      refine E_gm rfl ?_
      refine E_gm rfl ?_
      refine E_gm rfl ?_
      refine E_gm rfl ?_
      refine E_pt rfl rfl ?_
      refine E_nil ?_
      exact E_jx _ h (wk_rn [some (0, 0)] rfl (Nat.le_of_ble_eq_true rfl) ⟨(rn_obS rfl rfl (.cons (rn_b ((encI .u8).blws 0)) (.cons (rn_b rfl) (.cons (rn_b rfl) (.nil (Nat.zero_le _))))) rfl), trivial⟩ ⟨(rn_ptr rfl rfl rfl rfl), (rn_b rfl), trivial⟩)
  · refine E_sq ?_
    refine E_cs (t := s_2) rfl (fun hb => ?_) (fun hb => ?_)
    · rw [ite_t hb] at h
      refine E_sq ?_
      refine E_reg ?_
      refine E_mv (v' := (.ptr 0 0 0)) rfl ?_
      refine E_op0 (v' := (.ptr 0 0 0)) rfl rfl ?_
      refine E_op0 (v' := (.ptr 0 0 2)) rfl rfl ?_
      refine E_do (S' := [.arr 0 [(.sl false 1 (List.map (avI .u8) t_B_00)), (.int .i64 t_At_00), (.bool true)]]) rfl rfl ?_
      refine E_nil ?_
      refine E_nx ?_
      refine E_sq ?_
      refine E_reg ?_
      refine E_mv (v' := (.int .i64 0)) rfl ?_
      refine E_nil ?_
      refine E_nx ?_
      refine E_ret ?_
      refine E_thr ?_
      cases h
      exact ⟨trivial, _, _, rfl, gwk_rn [some (0, 0)] rfl (Nat.le_of_ble_eq_true rfl) ⟨(rn_obS rfl rfl (.cons (rn_b ((encI .u8).blws 0)) (.cons (rn_b rfl) (.cons (rn_b rfl) (.nil (Nat.zero_le _))))) rfl), trivial⟩, (rn_b rfl)⟩
    · rw [ite_f hb] at h
      refine E_skip ?_
      refine E_nx ?_
      refine E_sq ?_
      refine E_reg ?_
      refine E_mv (v' := (.int .i64 0)) rfl ?_
      refine E_nil ?_
      refine E_nx ?_
      refine E_as ?_
      refine E_sq ?_
      refine E_reg ?_
      refine E_mv (v' := (.int .i64 3)) rfl ?_
      refine E_nil ?_
      refine E_nx ?_
      refine E_sq ?_
      refine E_whileO (fun s_3 => [(0, (.ptr 0 0 0)), (3, (.int .i64 s_3.1)), (4, (.int .i64 s_3.2))]) (fun s_3 => [.arr 0 [(.sl false 1 (List.map (avI .u8) t_B_00)), (.int .i64 t_At_00), (.bool t_Bad_00)]]) h (wk_rn [some (0, 0)] rfl (Nat.le_of_ble_eq_true rfl) ⟨(rn_obS rfl rfl (.cons (rn_b ((encI .u8).blws 0)) (.cons (rn_b rfl) (.cons (rn_b rfl) (.nil (Nat.zero_le _))))) rfl), trivial⟩ ⟨(rn_ptr rfl rfl rfl rfl), (rn_b rfl), (rn_b rfl), trivial⟩) (fun s_3 c h => ?_) (fun s_3 fr' S' h hw => ?_)
      · refine E_as ?_
        refine E_sq ?_
        refine E_reg ?_
        refine E_mv (v' := (.int .i64 s_3.2)) rfl ?_
        refine E_op0 (v' := (.bool (decide (s_3.2 ≥ 0)))) rfl rfl ?_
        refine E_nil ?_
        refine E_nx ?_
        refine E_sq ?_
        refine E_cs (t := (decide (s_3.2 ≥ 0))) rfl (fun hb => ?_) (fun hb => ?_)
        · rw [ite_t hb] at h
          refine E_skip ?_
          refine E_nx ?_
          refine E_sq ?_
          refine E_block ?_
          refine E_reg ?_
          refine E_mv (v' := (.int .i64 s_3.1)) rfl ?_
          refine E_op0 (v' := (.int .i64 (I64 (s_3.1 * 256)))) rfl rfl ?_
          refine E_mv (v' := (.ptr 0 0 0)) rfl ?_
          refine E_op0 (v' := (.ptr 0 0 0)) rfl rfl ?_
          refine E_op0 (v' := (.ptr 0 0 0)) rfl rfl ?_
          refine E_op (v' := (.sl false 1 (List.map (avI .u8) t_B_00))) (S' := [.arr 0 [(.sl false 1 (List.map (avI .u8) t_B_00)), (.int .i64 t_At_00), (.bool t_Bad_00)]]) rfl rfl rfl ?_
          refine E_mv (v' := (.ptr 0 0 0)) rfl ?_
          refine E_op0 (v' := (.ptr 0 0 0)) rfl rfl ?_
          refine E_op0 (v' := (.ptr 0 0 1)) rfl rfl ?_
          refine E_op (v' := (.int .i64 t_At_00)) (S' := [.arr 0 [(.sl false 1 (List.map (avI .u8) t_B_00)), (.int .i64 t_At_00), (.bool t_Bad_00)]]) rfl rfl rfl ?_
          refine E_mv (v' := (.int .i64 s_3.2)) rfl ?_
          refine E_op0 (v' := (.int .i64 (I64 (t_At_00 + s_3.2)))) rfl rfl ?_
          obtain ⟨y_4, hy_4, h⟩ := bd_some h
          refine E_iadF rfl rfl hy_4 ?_
          refine E_op0 (v' := (.int .u8 y_4)) rfl rfl ?_
          refine E_op0 (v' := (.int .i64 (I64 y_4))) rfl rfl ?_
          refine E_op0 (v' := (.int .i64 (I64 ((I64 (s_3.1 * 256)) + (I64 y_4))))) rfl rfl ?_
          refine E_mv (v' := (.int .i64 (I64 ((I64 (s_3.1 * 256)) + (I64 y_4))))) rfl ?_
          refine E_nil ?_
          refine E_bln ?_
          refine E_nx ?_
          refine E_reg ?_
          refine E_mv (v' := (.int .i64 s_3.2)) rfl ?_
          refine E_op0 (v' := (.int .i64 (I64 (s_3.2 - 1)))) rfl rfl ?_
          refine E_mv (v' := (.int .i64 (I64 (s_3.2 - 1)))) rfl ?_
          refine E_nil ?_
          cases h
          exact L_nn rfl (wk_rn [some (0, 0)] rfl (Nat.le_of_ble_eq_true rfl) ⟨(rn_obS rfl rfl (.cons (rn_b ((encI .u8).blws 0)) (.cons (rn_b rfl) (.cons (rn_b rfl) (.nil (Nat.zero_le _))))) rfl), trivial⟩ ⟨(rn_ptr rfl rfl rfl rfl), (rn_b rfl), (rn_b rfl), trivial⟩)
        · rw [ite_f hb] at h
          refine E_exit ?_
          refine E_the ?_
          cases h
          exact L_bk rfl rfl rfl (wk_rn [some (0, 0)] rfl (Nat.le_of_ble_eq_true rfl) ⟨(rn_obS rfl rfl (.cons (rn_b ((encI .u8).blws 0)) (.cons (rn_b rfl) (.cons (rn_b rfl) (.nil (Nat.zero_le _))))) rfl), trivial⟩ ⟨(rn_ptr rfl rfl rfl rfl), (rn_b rfl), (rn_b rfl), trivial⟩)
      · refine X_nx hw ?_
        refine E_sq ?_
        refine E_reg ?_
        refine E_mv (v' := (.ptr 0 0 0)) rfl ?_
        refine E_op0 (v' := (.ptr 0 0 0)) rfl rfl ?_
        refine E_op0 (v' := (.ptr 0 0 1)) rfl rfl ?_
        refine E_op (v' := (.int .i64 t_At_00)) (S' := [.arr 0 [(.sl false 1 (List.map (avI .u8) t_B_00)), (.int .i64 t_At_00), (.bool t_Bad_00)]]) rfl rfl rfl ?_
        refine E_op0 (v' := (.int .i64 (I64 (t_At_00 + 4)))) rfl rfl ?_
        refine E_op0 (v' := (.ptr 0 0 0)) rfl rfl ?_
        refine E_op0 (v' := (.ptr 0 0 1)) rfl rfl ?_
        refine E_do (S' := [.arr 0 [(.sl false 1 (List.map (avI .u8) t_B_00)), (.int .i64 (I64 (t_At_00 + 4))), (.bool t_Bad_00)]]) rfl rfl ?_
        refine E_nil ?_
        refine E_nx ?_
        refine E_sq ?_
        refine E_reg ?_
        refine E_mv (v' := (.int .i64 s_3.1)) rfl ?_
        refine E_mv (v' := (.int .i64 s_3.1)) rfl ?_
        refine E_nil ?_
        refine E_nx ?_
        refine E_ret ?_
        cases h
        exact ⟨trivial, _, _, rfl, gwk_rn [some (0, 0)] rfl (Nat.le_of_ble_eq_true rfl) ⟨(rn_obS rfl rfl (.cons (rn_b ((encI .u8).blws 0)) (.cons (rn_b rfl) (.cons (rn_b rfl) (.nil (Nat.zero_le _))))) rfl), trivial⟩, (rn_b rfl)⟩
/- windlass/windlassref19.Read -/
def fc18 : FC := (.seq (.reg [⟨(some 2), none, .op (.new [.nils, .nils])⟩,
  ⟨(some 3), none, .op (.mv (.v (.bool false)))⟩] [])
  (.seq (.reg [⟨(some 18), none, .op (.mv (.t 0))⟩,
  ⟨(some 19), none, .op (.build [.nils, (.int .i64 0), (.bool false)] [(0, 1, (.t 18))])⟩,
  ⟨(some 20), none, .op (.box (.t 19))⟩,
  ⟨(some 4), none, .op (.mv (.t 20))⟩] [])
  (.seq (.reg [⟨(some 5), none, .op (.new [.nils, .nils])⟩] [])
  (.seq (.reg [⟨(some 21), none, .op (.mv (.t 4))⟩,
  ⟨(some 22), none, .call 33 [(.t 21)]⟩,
  ⟨(some 6), none, .op (.mv (.t 22))⟩] [])
  (.seq (.seq (.reg [⟨(some 7), none, .op (.mv (.v (.int .i64 0)))⟩] [])
  (.block 0 (.loop (.seq (.seq (.reg [⟨(some 23), none, .op (.mv (.t 7))⟩,
  ⟨(some 24), none, .op (.mv (.t 6))⟩,
  ⟨(some 25), none, .op (.bin .none .lss (.t 23) (.t 24))⟩,
  ⟨(some 26), none, .op (.mv (.t 25))⟩,
  ⟨(some 27), some (26, true), .op (.mv (.t 4))⟩,
  ⟨(some 28), some (26, true), .op (.nchk (.t 27))⟩,
  ⟨(some 29), some (26, true), .op (.fad 2 (.t 28))⟩,
  ⟨(some 30), some (26, true), .op (.load none (.t 29))⟩,
  ⟨(some 31), some (26, true), .op (.un .not (.t 30))⟩,
  ⟨(some 32), none, .op (.pick (.t 26) (.t 31) (.v (.bool false)))⟩] [])
  (.cond (.t 32)
  .skip
  (.exit 0)))
  (.seq (.block 1 (.seq (.reg [⟨(some 8), none, .op (.new [(.int .i64 0), (.int .i64 0), (.int .i64 0), .nils, .nils, (.int .i64 0)])⟩] [])
  (.seq (.reg [⟨(some 35), none, .op (.mv (.t 4))⟩,
  ⟨(some 36), none, .call 33 [(.t 35)]⟩,
  ⟨(some 37), none, .op (.fad 0 (.t 8))⟩,
  ⟨none, none, .op (.store 1 (.t 37) (.t 36))⟩] [])
  (.seq (.reg [⟨(some 38), none, .op (.mv (.t 4))⟩,
  ⟨(some 39), none, .call 33 [(.t 38)]⟩,
  ⟨(some 40), none, .op (.fad 1 (.t 8))⟩,
  ⟨none, none, .op (.store 1 (.t 40) (.t 39))⟩] [])
  (.seq (.reg [⟨(some 41), none, .op (.mv (.t 4))⟩,
  ⟨(some 42), none, .call 33 [(.t 41)]⟩,
  ⟨(some 43), none, .op (.fad 2 (.t 8))⟩,
  ⟨none, none, .op (.store 1 (.t 43) (.t 42))⟩] [])
  (.seq (.reg [⟨(some 44), none, .op (.mv (.t 4))⟩,
  ⟨(some 45), none, .call 33 [(.t 44)]⟩,
  ⟨(some 46), none, .op (.bin .none .sub (.t 45) (.v (.int .i64 1)))⟩,
  ⟨(some 47), none, .op (.fad 5 (.t 8))⟩,
  ⟨none, none, .op (.store 1 (.t 47) (.t 46))⟩] [])
  (.seq (.reg [⟨(some 48), none, .op (.mv (.t 4))⟩,
  ⟨(some 49), none, .call 33 [(.t 48)]⟩,
  ⟨(some 9), none, .op (.mv (.t 49))⟩] [])
  (.seq (.seq (.reg [⟨(some 10), none, .op (.mv (.v (.int .i64 0)))⟩] [])
  (.block 2 (.loop (.seq (.seq (.reg [⟨(some 50), none, .op (.mv (.t 10))⟩,
  ⟨(some 51), none, .op (.mv (.t 9))⟩,
  ⟨(some 52), none, .op (.bin .none .lss (.t 50) (.t 51))⟩,
  ⟨(some 53), none, .op (.mv (.t 52))⟩,
  ⟨(some 54), some (53, true), .op (.mv (.t 4))⟩,
  ⟨(some 55), some (53, true), .op (.nchk (.t 54))⟩,
  ⟨(some 56), some (53, true), .op (.fad 2 (.t 55))⟩,
  ⟨(some 57), some (53, true), .op (.load none (.t 56))⟩,
  ⟨(some 58), some (53, true), .op (.un .not (.t 57))⟩,
  ⟨(some 59), none, .op (.pick (.t 53) (.t 58) (.v (.bool false)))⟩] [])
  (.cond (.t 59)
  .skip
  (.exit 2)))
  (.seq (.block 3 (.seq (.reg [⟨(some 62), none, .op (.mv (.t 4))⟩,
  ⟨(some 63), none, .call 33 [(.t 62)]⟩,
  ⟨(some 11), none, .op (.mv (.t 63))⟩] [])
  (.seq (.seq (.reg [⟨(some 64), none, .op (.mv (.t 11))⟩,
  ⟨(some 65), none, .op (.bin .none .gtr (.t 64) (.v (.int .i64 1)))⟩] [])
  (.cond (.t 65)
  (.seq (.reg [⟨(some 66), none, .op (.build [.nils, .nils] [])⟩,
  ⟨none, none, .op (.store 2 (.t 2) (.t 66))⟩,
  ⟨(some 3), none, .op (.mv (.v (.bool false)))⟩] [])
  .ret)
  .skip))
  (.reg [⟨(some 67), none, .op (.fad 3 (.t 8))⟩,
  ⟨(some 68), none, .op (.load none (.t 67))⟩,
  ⟨(some 69), none, .op (.mv (.t 11))⟩,
  ⟨(some 70), none, .op (.cint .u8 (.t 69))⟩,
  ⟨(some 71), none, .op (.bsl none [(.int .u8 0)] 1 [(0, 1, (.t 70))])⟩,
  ⟨(some 72), none, .op (.app none 1 (.t 68) (.t 71))⟩,
  ⟨(some 73), none, .op (.fad 3 (.t 8))⟩,
  ⟨none, none, .op (.store 1 (.t 73) (.t 72))⟩] []))))
  (.reg [⟨(some 60), none, .op (.mv (.t 10))⟩,
  ⟨(some 61), none, .op (.bin .none .add (.t 60) (.v (.int .i64 1)))⟩,
  ⟨(some 10), none, .op (.mv (.t 61))⟩] []))))))
  (.seq (.reg [⟨(some 74), none, .op (.mv (.t 4))⟩,
  ⟨(some 75), none, .call 33 [(.t 74)]⟩,
  ⟨(some 9), none, .op (.mv (.t 75))⟩] [])
  (.seq (.seq (.reg [⟨(some 12), none, .op (.mv (.v (.int .i64 0)))⟩] [])
  (.block 4 (.loop (.seq (.seq (.reg [⟨(some 76), none, .op (.mv (.t 12))⟩,
  ⟨(some 77), none, .op (.mv (.t 9))⟩,
  ⟨(some 78), none, .op (.bin .none .lss (.t 76) (.t 77))⟩,
  ⟨(some 79), none, .op (.mv (.t 78))⟩,
  ⟨(some 80), some (79, true), .op (.mv (.t 4))⟩,
  ⟨(some 81), some (79, true), .op (.nchk (.t 80))⟩,
  ⟨(some 82), some (79, true), .op (.fad 2 (.t 81))⟩,
  ⟨(some 83), some (79, true), .op (.load none (.t 82))⟩,
  ⟨(some 84), some (79, true), .op (.un .not (.t 83))⟩,
  ⟨(some 85), none, .op (.pick (.t 79) (.t 84) (.v (.bool false)))⟩] [])
  (.cond (.t 85)
  .skip
  (.exit 4)))
  (.seq (.block 5 (.seq (.reg [⟨(some 88), none, .op (.mv (.t 4))⟩,
  ⟨(some 89), none, .call 33 [(.t 88)]⟩,
  ⟨(some 13), none, .op (.mv (.t 89))⟩] [])
  (.reg [⟨(some 90), none, .op (.fad 4 (.t 8))⟩,
  ⟨(some 91), none, .op (.load none (.t 90))⟩,
  ⟨(some 92), none, .op (.mv (.t 13))⟩,
  ⟨(some 93), none, .op (.mv (.t 4))⟩,
  ⟨(some 94), none, .call 33 [(.t 93)]⟩,
  ⟨(some 95), none, .op (.build [(.int .i64 0), (.int .i64 0)] [(0, 1, (.t 92)), (1, 1, (.t 94))])⟩,
  ⟨(some 96), none, .op (.bsl (some 2) [(.int .i64 0), (.int .i64 0)] 1 [(0, 2, (.t 95))])⟩,
  ⟨(some 97), none, .op (.app (some 2) 16 (.t 91) (.t 96))⟩,
  ⟨(some 98), none, .op (.fad 4 (.t 8))⟩,
  ⟨none, none, .op (.store 1 (.t 98) (.t 97))⟩] [(1, 4), (1, 6)])))
  (.reg [⟨(some 86), none, .op (.mv (.t 12))⟩,
  ⟨(some 87), none, .op (.bin .none .add (.t 86) (.v (.int .i64 1)))⟩,
  ⟨(some 12), none, .op (.mv (.t 87))⟩] []))))))
  (.reg [⟨(some 99), none, .op (.fad 0 (.t 5))⟩,
  ⟨(some 100), none, .op (.load none (.t 99))⟩,
  ⟨(some 101), none, .op (.load (some 6) (.t 8))⟩,
  ⟨(some 102), none, .op (.bsl (some 6) [(.int .i64 0), (.int .i64 0), (.int .i64 0), .nils, .nils, (.int .i64 0)] 1 [(0, 6, (.t 101))])⟩,
  ⟨(some 103), none, .op (.app (some 6) 80 (.t 100) (.t 102))⟩,
  ⟨(some 104), none, .op (.fad 0 (.t 5))⟩,
  ⟨none, none, .op (.store 1 (.t 104) (.t 103))⟩] [])))))))))))
  (.reg [⟨(some 33), none, .op (.mv (.t 7))⟩,
  ⟨(some 34), none, .op (.bin .none .add (.t 33) (.v (.int .i64 1)))⟩,
  ⟨(some 7), none, .op (.mv (.t 34))⟩] []))))))
  (.seq (.reg [⟨(some 105), none, .op (.mv (.t 4))⟩,
  ⟨(some 106), none, .call 33 [(.t 105)]⟩,
  ⟨(some 6), none, .op (.mv (.t 106))⟩] [])
  (.seq (.seq (.reg [⟨(some 14), none, .op (.mv (.v (.int .i64 0)))⟩] [])
  (.block 6 (.loop (.seq (.seq (.reg [⟨(some 107), none, .op (.mv (.t 14))⟩,
  ⟨(some 108), none, .op (.mv (.t 6))⟩,
  ⟨(some 109), none, .op (.bin .none .lss (.t 107) (.t 108))⟩,
  ⟨(some 110), none, .op (.mv (.t 109))⟩,
  ⟨(some 111), some (110, true), .op (.mv (.t 4))⟩,
  ⟨(some 112), some (110, true), .op (.nchk (.t 111))⟩,
  ⟨(some 113), some (110, true), .op (.fad 2 (.t 112))⟩,
  ⟨(some 114), some (110, true), .op (.load none (.t 113))⟩,
  ⟨(some 115), some (110, true), .op (.un .not (.t 114))⟩,
  ⟨(some 116), none, .op (.pick (.t 110) (.t 115) (.v (.bool false)))⟩] [])
  (.cond (.t 116)
  .skip
  (.exit 6)))
  (.seq (.block 7 (.seq (.reg [⟨(some 119), none, .op (.mv (.t 4))⟩,
  ⟨(some 120), none, .call 33 [(.t 119)]⟩,
  ⟨(some 121), none, .op (.build [(.int .i64 0), .nils] [(0, 1, (.t 120))])⟩,
  ⟨(some 15), none, .op (.new [(.int .i64 0), .nils])⟩,
  ⟨none, none, .op (.store 2 (.t 15) (.t 121))⟩] [])
  (.seq (.reg [⟨(some 122), none, .op (.mv (.t 4))⟩,
  ⟨(some 123), none, .call 33 [(.t 122)]⟩,
  ⟨(some 16), none, .op (.mv (.t 123))⟩] [])
  (.seq (.seq (.reg [⟨(some 17), none, .op (.mv (.v (.int .i64 0)))⟩] [])
  (.block 8 (.loop (.seq (.seq (.reg [⟨(some 124), none, .op (.mv (.t 17))⟩,
  ⟨(some 125), none, .op (.mv (.t 16))⟩,
  ⟨(some 126), none, .op (.bin .none .lss (.t 124) (.t 125))⟩,
  ⟨(some 127), none, .op (.mv (.t 126))⟩,
  ⟨(some 128), some (127, true), .op (.mv (.t 4))⟩,
  ⟨(some 129), some (127, true), .op (.nchk (.t 128))⟩,
  ⟨(some 130), some (127, true), .op (.fad 2 (.t 129))⟩,
  ⟨(some 131), some (127, true), .op (.load none (.t 130))⟩,
  ⟨(some 132), some (127, true), .op (.un .not (.t 131))⟩,
  ⟨(some 133), none, .op (.pick (.t 127) (.t 132) (.v (.bool false)))⟩] [])
  (.cond (.t 133)
  .skip
  (.exit 8)))
  (.seq (.block 9 (.reg [⟨(some 136), none, .op (.fad 1 (.t 15))⟩,
  ⟨(some 137), none, .op (.load none (.t 136))⟩,
  ⟨(some 138), none, .op (.mv (.t 4))⟩,
  ⟨(some 139), none, .call 33 [(.t 138)]⟩,
  ⟨(some 140), none, .op (.bsl none [(.int .i64 0)] 1 [(0, 1, (.t 139))])⟩,
  ⟨(some 141), none, .op (.app none 8 (.t 137) (.t 140))⟩,
  ⟨(some 142), none, .op (.fad 1 (.t 15))⟩,
  ⟨none, none, .op (.store 1 (.t 142) (.t 141))⟩] [(1, 3), (1, 4)]))
  (.reg [⟨(some 134), none, .op (.mv (.t 17))⟩,
  ⟨(some 135), none, .op (.bin .none .add (.t 134) (.v (.int .i64 1)))⟩,
  ⟨(some 17), none, .op (.mv (.t 135))⟩] []))))))
  (.reg [⟨(some 143), none, .op (.fad 1 (.t 5))⟩,
  ⟨(some 144), none, .op (.load none (.t 143))⟩,
  ⟨(some 145), none, .op (.load (some 2) (.t 15))⟩,
  ⟨(some 146), none, .op (.bsl (some 2) [(.int .i64 0), .nils] 1 [(0, 2, (.t 145))])⟩,
  ⟨(some 147), none, .op (.app (some 2) 32 (.t 144) (.t 146))⟩,
  ⟨(some 148), none, .op (.fad 1 (.t 5))⟩,
  ⟨none, none, .op (.store 1 (.t 148) (.t 147))⟩] [])))))
  (.reg [⟨(some 117), none, .op (.mv (.t 14))⟩,
  ⟨(some 118), none, .op (.bin .none .add (.t 117) (.v (.int .i64 1)))⟩,
  ⟨(some 14), none, .op (.mv (.t 118))⟩] []))))))
  (.seq (.seq (.reg [⟨(some 149), none, .op (.mv (.t 4))⟩,
  ⟨(some 150), none, .op (.nchk (.t 149))⟩,
  ⟨(some 151), none, .op (.fad 2 (.t 150))⟩,
  ⟨(some 152), none, .op (.load none (.t 151))⟩,
  ⟨(some 153), none, .op (.mv (.t 152))⟩,
  ⟨(some 154), some (153, false), .op (.mv (.t 4))⟩,
  ⟨(some 155), some (153, false), .op (.nchk (.t 154))⟩,
  ⟨(some 156), some (153, false), .op (.fad 1 (.t 155))⟩,
  ⟨(some 157), some (153, false), .op (.load none (.t 156))⟩,
  ⟨(some 158), some (153, false), .op (.mv (.t 0))⟩,
  ⟨(some 159), some (153, false), .op (.len .sl (.t 158))⟩,
  ⟨(some 160), some (153, false), .op (.bin .none .neq (.t 157) (.t 159))⟩,
  ⟨(some 161), none, .op (.pick (.t 153) (.v (.bool true)) (.t 160))⟩,
  ⟨(some 162), none, .op (.mv (.t 161))⟩,
  ⟨(some 163), some (162, false), .op (.load (some 2) (.t 5))⟩,
  ⟨(some 164), some (162, false), .call 11 [(.t 163)]⟩,
  ⟨(some 165), some (162, false), .op (.un .not (.t 164))⟩,
  ⟨(some 166), none, .op (.pick (.t 162) (.v (.bool true)) (.t 165))⟩] [])
  (.cond (.t 166)
  (.seq (.reg [⟨(some 167), none, .op (.build [.nils, .nils] [])⟩,
  ⟨none, none, .op (.store 2 (.t 2) (.t 167))⟩,
  ⟨(some 3), none, .op (.mv (.v (.bool false)))⟩] [])
  .ret)
  .skip))
  (.seq (.reg [⟨(some 168), none, .op (.load (some 2) (.t 5))⟩,
  ⟨none, none, .op (.store 2 (.t 2) (.t 168))⟩,
  ⟨(some 3), none, .op (.mv (.v (.bool true)))⟩] [])
  .ret)))))))))
theorem fn18 : Fn3 Try.prog 18 169 [(2, (some (some 2))), (3, none)] fc18 := ⟨_, _, Try.func18, rfl, rfl, rfl, by kernel_rfl⟩
def windlassref19_Read_s (fuel : Nat) (b_00 : (List Int)) : Option (Tables × Bool) :=
  ((windlassref19_Tape_next_pNNN_s fuel b_00 0 false).bind fun (nex_1 : (Int × (List Int) × Int × Bool)) => ((whileN (fun (s_2 : (Int × (List Int) × Int × Bool × (List FuncRow))) => ((jp (fun (s_4 : Bool) => (if s_4 then ((windlassref19_Tape_next_pNNN_s fuel s_2.2.1 s_2.2.2.1 s_2.2.2.2.1).bind fun (nex_5 : (Int × (List Int) × Int × Bool)) => ((windlassref19_Tape_next_pNNN_s fuel nex_5.2.1 nex_5.2.2.1 nex_5.2.2.2).bind fun (nex_6 : (Int × (List Int) × Int × Bool)) => ((windlassref19_Tape_next_pNNN_s fuel nex_6.2.1 nex_6.2.2.1 nex_6.2.2.2).bind fun (nex_7 : (Int × (List Int) × Int × Bool)) => ((windlassref19_Tape_next_pNNN_s fuel nex_7.2.1 nex_7.2.2.1 nex_7.2.2.2).bind fun (nex_8 : (Int × (List Int) × Int × Bool)) => ((windlassref19_Tape_next_pNNN_s fuel nex_8.2.1 nex_8.2.2.1 nex_8.2.2.2).bind fun (nex_9 : (Int × (List Int) × Int × Bool)) => ((whileN (fun (s_10 : (Int × (List Int) × Int × Bool × (List Int))) => ((jp (fun (s_12 : Bool) => (if s_12 then ((windlassref19_Tape_next_pNNN_s fuel s_10.2.1 s_10.2.2.1 s_10.2.2.2.1).bind fun (nex_13 : (Int × (List Int) × Int × Bool)) => (if (decide (nex_13.1 > 1)) then (some (.ret (some (.ret (some ((Tables.mk [] []), false)))))) else ((appL 1 s_10.2.2.2.2 [(U8 nex_13.1)]).bind fun l_14 => (some (.nxt ((I64 (s_10.1 + 1)), nex_13.2.1, nex_13.2.2.1, nex_13.2.2.2, l_14)))))) else (some (.brk (s_10.1, s_10.2.1, s_10.2.2.1, s_10.2.2.2.1, s_10.2.2.2.2))))) (fun k_11 => (if (decide (s_10.1 < nex_9.1)) then (k_11 (!s_10.2.2.2.1)) else (k_11 false)))) : Option (Stp (Int × (List Int) × Int × Bool × (List Int)) (Option (Stp (Int × (List Int) × Int × Bool × (List FuncRow)) (Option (Tables × Bool))))))) fuel (0, nex_9.2.1, nex_9.2.2.1, nex_9.2.2.2, [])).bind (oc (fun (s_10 : (Int × (List Int) × Int × Bool × (List Int))) => ((windlassref19_Tape_next_pNNN_s fuel s_10.2.1 s_10.2.2.1 s_10.2.2.2.1).bind fun (nex_15 : (Int × (List Int) × Int × Bool)) => ((whileN (fun (s_16 : (Int × (List Int) × Int × Bool × (List Save))) => ((jp (fun (s_18 : Bool) => (if s_18 then ((windlassref19_Tape_next_pNNN_s fuel s_16.2.1 s_16.2.2.1 s_16.2.2.2.1).bind fun (nex_19 : (Int × (List Int) × Int × Bool)) => ((windlassref19_Tape_next_pNNN_s fuel nex_19.2.1 nex_19.2.2.1 nex_19.2.2.2).bind fun (nex_20 : (Int × (List Int) × Int × Bool)) => ((appL 16 s_16.2.2.2.2 [(Save.mk nex_19.1 nex_20.1)]).bind fun l_21 => (some (.nxt ((I64 (s_16.1 + 1)), nex_20.2.1, nex_20.2.2.1, nex_20.2.2.2, l_21)))))) else (some (.brk (s_16.1, s_16.2.1, s_16.2.2.1, s_16.2.2.2.1, s_16.2.2.2.2))))) (fun k_17 => (if (decide (s_16.1 < nex_15.1)) then (k_17 (!s_16.2.2.2.1)) else (k_17 false)))) : Option (Stp (Int × (List Int) × Int × Bool × (List Save)) (Option (Stp (Int × (List Int) × Int × Bool × (List FuncRow)) (Option (Tables × Bool))))))) fuel (0, nex_15.2.1, nex_15.2.2.1, nex_15.2.2.2, [])).bind (oc (fun (s_16 : (Int × (List Int) × Int × Bool × (List Save))) => ((appL 80 s_2.2.2.2.2 [(FuncRow.mk nex_5.1 nex_6.1 nex_7.1 s_10.2.2.2.2 s_16.2.2.2.2 (I64 (nex_8.1 - 1)))]).bind fun l_22 => (some (.nxt ((I64 (s_2.1 + 1)), s_16.2.1, s_16.2.2.1, s_16.2.2.2.1, l_22)))))))))))))))) else (some (.brk (s_2.1, s_2.2.1, s_2.2.2.1, s_2.2.2.2.1, s_2.2.2.2.2))))) (fun k_3 => (if (decide (s_2.1 < nex_1.1)) then (k_3 (!s_2.2.2.2.1)) else (k_3 false)))) : Option (Stp (Int × (List Int) × Int × Bool × (List FuncRow)) (Option (Tables × Bool))))) fuel (0, nex_1.2.1, nex_1.2.2.1, nex_1.2.2.2, [])).bind (oc (fun (s_2 : (Int × (List Int) × Int × Bool × (List FuncRow))) => ((windlassref19_Tape_next_pNNN_s fuel s_2.2.1 s_2.2.2.1 s_2.2.2.2.1).bind fun (nex_23 : (Int × (List Int) × Int × Bool)) => ((whileN (fun (s_24 : (Int × (List Int) × Int × Bool × (List Site))) => ((jp (fun (s_26 : Bool) => (if s_26 then ((windlassref19_Tape_next_pNNN_s fuel s_24.2.1 s_24.2.2.1 s_24.2.2.2.1).bind fun (nex_27 : (Int × (List Int) × Int × Bool)) => ((windlassref19_Tape_next_pNNN_s fuel nex_27.2.1 nex_27.2.2.1 nex_27.2.2.2).bind fun (nex_28 : (Int × (List Int) × Int × Bool)) => ((whileN (fun (s_29 : (Int × (List Int) × Int × Bool × (List Int))) => ((jp (fun (s_31 : Bool) => (if s_31 then ((windlassref19_Tape_next_pNNN_s fuel s_29.2.1 s_29.2.2.1 s_29.2.2.2.1).bind fun (nex_32 : (Int × (List Int) × Int × Bool)) => ((appL 8 s_29.2.2.2.2 [nex_32.1]).bind fun l_33 => (some (.nxt ((I64 (s_29.1 + 1)), nex_32.2.1, nex_32.2.2.1, nex_32.2.2.2, l_33))))) else (some (.brk (s_29.1, s_29.2.1, s_29.2.2.1, s_29.2.2.2.1, s_29.2.2.2.2))))) (fun k_30 => (if (decide (s_29.1 < nex_28.1)) then (k_30 (!s_29.2.2.2.1)) else (k_30 false)))) : Option (Stp (Int × (List Int) × Int × Bool × (List Int)) (Option (Stp (Int × (List Int) × Int × Bool × (List Site)) (Option (Tables × Bool))))))) fuel (0, nex_28.2.1, nex_28.2.2.1, nex_28.2.2.2, [])).bind (oc (fun (s_29 : (Int × (List Int) × Int × Bool × (List Int))) => ((appL 32 s_24.2.2.2.2 [(Site.mk nex_27.1 s_29.2.2.2.2)]).bind fun l_34 => (some (.nxt ((I64 (s_24.1 + 1)), s_29.2.1, s_29.2.2.1, s_29.2.2.2.1, l_34))))))))) else (some (.brk (s_24.1, s_24.2.1, s_24.2.2.1, s_24.2.2.2.1, s_24.2.2.2.2))))) (fun k_25 => (if (decide (s_24.1 < nex_23.1)) then (k_25 (!s_24.2.2.2.1)) else (k_25 false)))) : Option (Stp (Int × (List Int) × Int × Bool × (List Site)) (Option (Tables × Bool))))) fuel (0, nex_23.2.1, nex_23.2.2.1, nex_23.2.2.2, [])).bind (oc (fun (s_24 : (Int × (List Int) × Int × Bool × (List Site))) => (jp (fun (s_36 : Bool) => (if s_36 then (some ((Tables.mk [] []), false)) else (some ((Tables.mk s_2.2.2.2.2 s_24.2.2.2.2), true)))) (fun k_35 => (if s_24.2.2.2.1 then (k_35 true) else (if (s_24.2.2.1 != (List.length b_00 : Int)) then (k_35 true) else ((windlassref19_Right_s (Tables.mk s_2.2.2.2.2 s_24.2.2.2.2)).bind fun rig_37 => (k_35 (!rig_37)))))))))))))))
theorem windlassref19_Read_ev {fuel : Nat} {b_00 : (List Int)} {r : (Tables × Bool)} (h : windlassref19_Read_s fuel b_00 = some r) : PureEv Try.prog 18 [(.sl false 1 (List.map (avI .u8) b_00))] (.tup [(Tables.av r.1), (.bool r.2)]) := by
  unfold windlassref19_Read_s at h
  refine PureEv_end mixed fn18 (by simp) [2, 5, 8, 15, 20, 72, 97, 103, 141, 147] 6 ?_
  unfold fc18
  refine E_sq ?_
  refine E_reg ?_
  refine E_op (v' := .ptr 0 0 0) (S' := [.arr 0 [.nils, .nils]]) rfl rfl rfl ?_
  refine E_mv (v' := (.bool false)) rfl ?_
  refine E_nil ?_
  refine E_nx ?_
  refine E_sq ?_
  refine E_reg ?_
  refine E_mv (v' := (.sl false 1 (List.map (avI .u8) b_00))) rfl ?_
  refine E_opw (v' := (Windlassref19_Tape.av (Windlassref19_Tape.mk b_00 0 false))) rfl (.aggL ⟨(.refl _), (.refl _), (.refl _), trivial⟩) rfl ?_
  refine E_op (v' := .ptr 1 0 0) (S' := [.arr 0 [.nils, .nils], .arr 0 [(.sl false 1 (List.map (avI .u8) b_00)), (.int .i64 0), (.bool false)]]) rfl rfl rfl ?_
  refine E_mv (v' := (.ptr 1 0 0)) rfl ?_
  refine E_nil ?_
  refine E_nx ?_
  refine E_sq ?_
  refine E_reg ?_
  refine E_op (v' := .ptr 2 0 0) (S' := [.arr 0 [.nils, .nils], .arr 0 [(.sl false 1 (List.map (avI .u8) b_00)), (.int .i64 0), (.bool false)], .arr 0 [.nils, .nils]]) rfl rfl rfl ?_
  refine E_nil ?_
  refine E_nx ?_
  refine E_sq ?_
  refine E_reg ?_
  refine E_mv (v' := (.ptr 1 0 0)) rfl ?_
  obtain ⟨nex_1, hnex_1, h⟩ := bd_some h
  refine E_callF (S' := [.arr 0 [.nils, .nils], .arr 0 [(.sl false 1 (List.map (avI .u8) nex_1.2.1)), (.int .i64 nex_1.2.2.1), (.bool nex_1.2.2.2)], .arr 0 [.nils, .nils]]) (r' := (.int .i64 nex_1.1)) (windlassref19_Tape_next_pNNN_ev (fuel := fuel) hnex_1) [1] rfl rfl (by decide) rfl rfl ⟨(fr_in rfl rfl (.cons (.base ((encI .u8).blws 0) (.refl _)) (.cons (.base rfl (.refl _)) (.cons (.base rfl (.refl _)) (.nil (Nat.zero_le _)))))), trivial⟩ ⟨(fr_outS rfl rfl (.cons (rn_b ((encI .u8).blws 0)) (.cons (rn_b rfl) (.cons (rn_b rfl) (.nil (Nat.zero_le _))))) rfl rfl), trivial⟩ ⟨.inr rfl, .inl rfl, .inr rfl, trivial⟩ rfl (.cons (fi_ptr rfl rfl rfl rfl) (.nil (Nat.zero_le _))) (rn_b rfl) ?_
  refine E_mv (v' := (.int .i64 nex_1.1)) rfl ?_
  refine E_nil ?_
  refine E_nx ?_
  refine E_as ?_
  refine E_sq ?_
  refine E_reg ?_
  refine E_mv (v' := (.int .i64 0)) rfl ?_
  refine E_nil ?_
  refine E_nx ?_
  refine E_sq ?_
  refine E_whileO (fun s_2 => [(0, (.sl false 1 (List.map (avI .u8) b_00))), (2, (.ptr 0 0 0)), (4, (.ptr 1 0 0)), (5, (.ptr 2 0 0)), (6, (.int .i64 nex_1.1)), (7, (.int .i64 s_2.1))]) (fun s_2 => [.arr 0 [.nils, .nils], .arr 0 [(.sl false 1 (List.map (avI .u8) s_2.2.1)), (.int .i64 s_2.2.2.1), (.bool s_2.2.2.2.1)], .arr 0 [(.ref 3 1 0 (List.length s_2.2.2.2.2) (some 6)), .nils], .arr 1 (flat FuncRow.av s_2.2.2.2.2)]) h (wk_rn [some (0, 0), some (1, 0), some (2, 0), none] rfl (Nat.le_of_ble_eq_true rfl) ⟨(rn_ob rfl rfl (.cons (rn_b rfl) (.cons (rn_b rfl) (.nil (Nat.zero_le _)))) rfl), (rn_ob rfl rfl (.cons (rn_b ((encI .u8).blws 0)) (.cons (rn_b rfl) (.cons (rn_b rfl) (.nil (Nat.zero_le _))))) rfl), (rn_ob rfl rfl (.cons (rn_nil rfl) (.cons (rn_b rfl) (.nil (Nat.zero_le _)))) rfl), (rn_obN rfl rfl rfl), trivial⟩ ⟨(rn_b ((encI .u8).blws 0)), (rn_ptr rfl rfl rfl rfl), (rn_ptr rfl rfl rfl rfl), (rn_ptr rfl rfl rfl rfl), (rn_b rfl), (rn_b rfl), trivial⟩) (fun s_2 c h => ?_) (fun s_2 fr' S' h hw => ?_)
  · refine E_as ?_
    refine E_jp h (fun s_4 => [(0, (.sl false 1 (List.map (avI .u8) b_00))), (2, (.ptr 0 0 0)), (4, (.ptr 1 0 0)), (5, (.ptr 2 0 0)), (6, (.int .i64 nex_1.1)), (7, (.int .i64 s_2.1)), (32, (.bool s_4))]) (fun s_4 => [.arr 0 [.nils, .nils], .arr 0 [(.sl false 1 (List.map (avI .u8) s_2.2.1)), (.int .i64 s_2.2.2.1), (.bool s_2.2.2.2.1)], .arr 0 [(.ref 3 1 0 (List.length s_2.2.2.2.2) (some 6)), .nils], .arr 1 (flat FuncRow.av s_2.2.2.2.2)]) (fun k_3 h => ?_) (fun s_4 h => ?_)
    · refine E_reg ?_
      refine E_mv (v' := (.int .i64 s_2.1)) rfl ?_
      refine E_mv (v' := (.int .i64 nex_1.1)) rfl ?_
      refine E_op0 (v' := (.bool (decide (s_2.1 < nex_1.1)))) rfl rfl ?_
      refine E_mv (v' := (.bool (decide (s_2.1 < nex_1.1)))) rfl ?_
      refine E_gsT (b := (decide (s_2.1 < nex_1.1))) rfl rfl rfl (fun hb => ?_) (fun hb => ?_)
      · rw [ite_t hb] at h
        refine E_mv (v' := (.ptr 1 0 0)) rfl ?_
        refine E_gh rfl ?_
        refine E_op0 (v' := (.ptr 1 0 0)) rfl rfl ?_
        refine E_gh rfl ?_
        refine E_op0 (v' := (.ptr 1 0 2)) rfl rfl ?_
        refine E_gh rfl ?_
        refine E_op (v' := (.bool s_2.2.2.2.1)) (S' := [.arr 0 [.nils, .nils], .arr 0 [(.sl false 1 (List.map (avI .u8) s_2.2.1)), (.int .i64 s_2.2.2.1), (.bool s_2.2.2.2.1)], .arr 0 [(.ref 3 1 0 (List.length s_2.2.2.2.2) (some 6)), .nils], .arr 1 (flat FuncRow.av s_2.2.2.2.2)]) rfl rfl rfl ?_
        refine E_gh rfl ?_
        refine E_op0 (v' := (.bool (!s_2.2.2.2.1))) rfl rfl ?_
        refine E_pt rfl rfl ?_
        refine E_nil ?_
        exact E_jx _ h (wk_rn [some (0, 0), some (1, 0), some (2, 0), some (3, 0)] rfl (Nat.le_of_ble_eq_true rfl) ⟨(rn_ob rfl rfl (.cons (rn_b rfl) (.cons (rn_b rfl) (.nil (Nat.zero_le _)))) rfl), (rn_ob rfl rfl (.cons (rn_b ((encI .u8).blws 0)) (.cons (rn_b rfl) (.cons (rn_b rfl) (.nil (Nat.zero_le _))))) rfl), (rn_ob rfl rfl (.cons (rn_refL FuncRow.enc rfl rfl rfl) (.cons (rn_b rfl) (.nil (Nat.zero_le _)))) rfl), (rn_ob rfl rfl (.refl (FuncRow.enc.blwf 0 _)) rfl), trivial⟩ ⟨(rn_b ((encI .u8).blws 0)), (rn_ptr rfl rfl rfl rfl), (rn_ptr rfl rfl rfl rfl), (rn_ptr rfl rfl rfl rfl), (rn_b rfl), (rn_b rfl), (rn_b rfl), trivial⟩)
      · rw [ite_f hb] at h
        refine E_gm rfl ?_
        refine E_gm rfl ?_
        refine E_gm rfl ?_
        refine E_gm rfl ?_
        refine E_pf rfl rfl ?_
        refine E_nil ?_
        exact E_jx _ h (wk_rn [some (0, 0), some (1, 0), some (2, 0), some (3, 0)] rfl (Nat.le_of_ble_eq_true rfl) ⟨(rn_ob rfl rfl (.cons (rn_b rfl) (.cons (rn_b rfl) (.nil (Nat.zero_le _)))) rfl), (rn_ob rfl rfl (.cons (rn_b ((encI .u8).blws 0)) (.cons (rn_b rfl) (.cons (rn_b rfl) (.nil (Nat.zero_le _))))) rfl), (rn_ob rfl rfl (.cons (rn_refL FuncRow.enc rfl rfl rfl) (.cons (rn_b rfl) (.nil (Nat.zero_le _)))) rfl), (rn_ob rfl rfl (.refl (FuncRow.enc.blwf 0 _)) rfl), trivial⟩ ⟨(rn_b ((encI .u8).blws 0)), (rn_ptr rfl rfl rfl rfl), (rn_ptr rfl rfl rfl rfl), (rn_ptr rfl rfl rfl rfl), (rn_b rfl), (rn_b rfl), (rn_b rfl), trivial⟩)
    · refine E_sq ?_
      refine E_cs (t := s_4) rfl (fun hb => ?_) (fun hb => ?_)
      · rw [ite_t hb] at h
        refine E_skip ?_
        refine E_nx ?_
        refine E_sq ?_
        refine E_block ?_
        refine E_sq ?_
        refine E_reg ?_
        refine E_op (v' := .ptr 4 0 0) (S' := [.arr 0 [.nils, .nils], .arr 0 [(.sl false 1 (List.map (avI .u8) s_2.2.1)), (.int .i64 s_2.2.2.1), (.bool s_2.2.2.2.1)], .arr 0 [(.ref 3 1 0 (List.length s_2.2.2.2.2) (some 6)), .nils], .arr 1 (flat FuncRow.av s_2.2.2.2.2), .arr 0 [(.int .i64 0), (.int .i64 0), (.int .i64 0), .nils, .nils, (.int .i64 0)]]) rfl rfl rfl ?_
        refine E_nil ?_
        refine E_nx ?_
        refine E_sq ?_
        refine E_reg ?_
        refine E_mv (v' := (.ptr 1 0 0)) rfl ?_
        obtain ⟨nex_5, hnex_5, h⟩ := bd_some h
        refine E_callF (S' := [.arr 0 [.nils, .nils], .arr 0 [(.sl false 1 (List.map (avI .u8) nex_5.2.1)), (.int .i64 nex_5.2.2.1), (.bool nex_5.2.2.2)], .arr 0 [(.ref 3 1 0 (List.length s_2.2.2.2.2) (some 6)), .nils], .arr 1 (flat FuncRow.av s_2.2.2.2.2), .arr 0 [(.int .i64 0), (.int .i64 0), (.int .i64 0), .nils, .nils, (.int .i64 0)]]) (r' := (.int .i64 nex_5.1)) (windlassref19_Tape_next_pNNN_ev (fuel := fuel) hnex_5) [1] rfl rfl (by decide) rfl rfl ⟨(fr_in rfl rfl (.cons (.base ((encI .u8).blws 0) (.refl _)) (.cons (.base rfl (.refl _)) (.cons (.base rfl (.refl _)) (.nil (Nat.zero_le _)))))), trivial⟩ ⟨(fr_outS rfl rfl (.cons (rn_b ((encI .u8).blws 0)) (.cons (rn_b rfl) (.cons (rn_b rfl) (.nil (Nat.zero_le _))))) rfl rfl), trivial⟩ ⟨.inr rfl, .inl rfl, .inr rfl, .inr rfl, .inr rfl, trivial⟩ rfl (.cons (fi_ptr rfl rfl rfl rfl) (.nil (Nat.zero_le _))) (rn_b rfl) ?_
        refine E_op0 (v' := (.ptr 4 0 0)) rfl rfl ?_
        refine E_do (S' := [.arr 0 [.nils, .nils], .arr 0 [(.sl false 1 (List.map (avI .u8) nex_5.2.1)), (.int .i64 nex_5.2.2.1), (.bool nex_5.2.2.2)], .arr 0 [(.ref 3 1 0 (List.length s_2.2.2.2.2) (some 6)), .nils], .arr 1 (flat FuncRow.av s_2.2.2.2.2), .arr 0 [(.int .i64 nex_5.1), (.int .i64 0), (.int .i64 0), .nils, .nils, (.int .i64 0)]]) rfl rfl ?_
        refine E_nil ?_
        refine E_nx ?_
        refine E_sq ?_
        refine E_reg ?_
        refine E_mv (v' := (.ptr 1 0 0)) rfl ?_
        obtain ⟨nex_6, hnex_6, h⟩ := bd_some h
        refine E_callF (S' := [.arr 0 [.nils, .nils], .arr 0 [(.sl false 1 (List.map (avI .u8) nex_6.2.1)), (.int .i64 nex_6.2.2.1), (.bool nex_6.2.2.2)], .arr 0 [(.ref 3 1 0 (List.length s_2.2.2.2.2) (some 6)), .nils], .arr 1 (flat FuncRow.av s_2.2.2.2.2), .arr 0 [(.int .i64 nex_5.1), (.int .i64 0), (.int .i64 0), .nils, .nils, (.int .i64 0)]]) (r' := (.int .i64 nex_6.1)) (windlassref19_Tape_next_pNNN_ev (fuel := fuel) hnex_6) [1] rfl rfl (by decide) rfl rfl ⟨(fr_in rfl rfl (.cons (.base ((encI .u8).blws 0) (.refl _)) (.cons (.base rfl (.refl _)) (.cons (.base rfl (.refl _)) (.nil (Nat.zero_le _)))))), trivial⟩ ⟨(fr_outS rfl rfl (.cons (rn_b ((encI .u8).blws 0)) (.cons (rn_b rfl) (.cons (rn_b rfl) (.nil (Nat.zero_le _))))) rfl rfl), trivial⟩ ⟨.inr rfl, .inl rfl, .inr rfl, .inr rfl, .inr rfl, trivial⟩ rfl (.cons (fi_ptr rfl rfl rfl rfl) (.nil (Nat.zero_le _))) (rn_b rfl) ?_
        refine E_op0 (v' := (.ptr 4 0 1)) rfl rfl ?_
        refine E_do (S' := [.arr 0 [.nils, .nils], .arr 0 [(.sl false 1 (List.map (avI .u8) nex_6.2.1)), (.int .i64 nex_6.2.2.1), (.bool nex_6.2.2.2)], .arr 0 [(.ref 3 1 0 (List.length s_2.2.2.2.2) (some 6)), .nils], .arr 1 (flat FuncRow.av s_2.2.2.2.2), .arr 0 [(.int .i64 nex_5.1), (.int .i64 nex_6.1), (.int .i64 0), .nils, .nils, (.int .i64 0)]]) rfl rfl ?_
        refine E_nil ?_
        refine E_nx ?_
        refine E_sq ?_
        refine E_reg ?_
        refine E_mv (v' := (.ptr 1 0 0)) rfl ?_
        obtain ⟨nex_7, hnex_7, h⟩ := bd_some h
        refine E_callF (S' := [.arr 0 [.nils, .nils], .arr 0 [(.sl false 1 (List.map (avI .u8) nex_7.2.1)), (.int .i64 nex_7.2.2.1), (.bool nex_7.2.2.2)], .arr 0 [(.ref 3 1 0 (List.length s_2.2.2.2.2) (some 6)), .nils], .arr 1 (flat FuncRow.av s_2.2.2.2.2), .arr 0 [(.int .i64 nex_5.1), (.int .i64 nex_6.1), (.int .i64 0), .nils, .nils, (.int .i64 0)]]) (r' := (.int .i64 nex_7.1)) (windlassref19_Tape_next_pNNN_ev (fuel := fuel) hnex_7) [1] rfl rfl (by decide) rfl rfl ⟨(fr_in rfl rfl (.cons (.base ((encI .u8).blws 0) (.refl _)) (.cons (.base rfl (.refl _)) (.cons (.base rfl (.refl _)) (.nil (Nat.zero_le _)))))), trivial⟩ ⟨(fr_outS rfl rfl (.cons (rn_b ((encI .u8).blws 0)) (.cons (rn_b rfl) (.cons (rn_b rfl) (.nil (Nat.zero_le _))))) rfl rfl), trivial⟩ ⟨.inr rfl, .inl rfl, .inr rfl, .inr rfl, .inr rfl, trivial⟩ rfl (.cons (fi_ptr rfl rfl rfl rfl) (.nil (Nat.zero_le _))) (rn_b rfl) ?_
        refine E_op0 (v' := (.ptr 4 0 2)) rfl rfl ?_
        refine E_do (S' := [.arr 0 [.nils, .nils], .arr 0 [(.sl false 1 (List.map (avI .u8) nex_7.2.1)), (.int .i64 nex_7.2.2.1), (.bool nex_7.2.2.2)], .arr 0 [(.ref 3 1 0 (List.length s_2.2.2.2.2) (some 6)), .nils], .arr 1 (flat FuncRow.av s_2.2.2.2.2), .arr 0 [(.int .i64 nex_5.1), (.int .i64 nex_6.1), (.int .i64 nex_7.1), .nils, .nils, (.int .i64 0)]]) rfl rfl ?_
        refine E_nil ?_
        refine E_nx ?_
        refine E_sq ?_
        refine E_reg ?_
        refine E_mv (v' := (.ptr 1 0 0)) rfl ?_
        obtain ⟨nex_8, hnex_8, h⟩ := bd_some h
        refine E_callF (S' := [.arr 0 [.nils, .nils], .arr 0 [(.sl false 1 (List.map (avI .u8) nex_8.2.1)), (.int .i64 nex_8.2.2.1), (.bool nex_8.2.2.2)], .arr 0 [(.ref 3 1 0 (List.length s_2.2.2.2.2) (some 6)), .nils], .arr 1 (flat FuncRow.av s_2.2.2.2.2), .arr 0 [(.int .i64 nex_5.1), (.int .i64 nex_6.1), (.int .i64 nex_7.1), .nils, .nils, (.int .i64 0)]]) (r' := (.int .i64 nex_8.1)) (windlassref19_Tape_next_pNNN_ev (fuel := fuel) hnex_8) [1] rfl rfl (by decide) rfl rfl ⟨(fr_in rfl rfl (.cons (.base ((encI .u8).blws 0) (.refl _)) (.cons (.base rfl (.refl _)) (.cons (.base rfl (.refl _)) (.nil (Nat.zero_le _)))))), trivial⟩ ⟨(fr_outS rfl rfl (.cons (rn_b ((encI .u8).blws 0)) (.cons (rn_b rfl) (.cons (rn_b rfl) (.nil (Nat.zero_le _))))) rfl rfl), trivial⟩ ⟨.inr rfl, .inl rfl, .inr rfl, .inr rfl, .inr rfl, trivial⟩ rfl (.cons (fi_ptr rfl rfl rfl rfl) (.nil (Nat.zero_le _))) (rn_b rfl) ?_
        refine E_op0 (v' := (.int .i64 (I64 (nex_8.1 - 1)))) rfl rfl ?_
        refine E_op0 (v' := (.ptr 4 0 5)) rfl rfl ?_
        refine E_do (S' := [.arr 0 [.nils, .nils], .arr 0 [(.sl false 1 (List.map (avI .u8) nex_8.2.1)), (.int .i64 nex_8.2.2.1), (.bool nex_8.2.2.2)], .arr 0 [(.ref 3 1 0 (List.length s_2.2.2.2.2) (some 6)), .nils], .arr 1 (flat FuncRow.av s_2.2.2.2.2), .arr 0 [(.int .i64 nex_5.1), (.int .i64 nex_6.1), (.int .i64 nex_7.1), .nils, .nils, (.int .i64 (I64 (nex_8.1 - 1)))]]) rfl rfl ?_
        refine E_nil ?_
        refine E_nx ?_
        refine E_sq ?_
        refine E_reg ?_
        refine E_mv (v' := (.ptr 1 0 0)) rfl ?_
        obtain ⟨nex_9, hnex_9, h⟩ := bd_some h
        refine E_callF (S' := [.arr 0 [.nils, .nils], .arr 0 [(.sl false 1 (List.map (avI .u8) nex_9.2.1)), (.int .i64 nex_9.2.2.1), (.bool nex_9.2.2.2)], .arr 0 [(.ref 3 1 0 (List.length s_2.2.2.2.2) (some 6)), .nils], .arr 1 (flat FuncRow.av s_2.2.2.2.2), .arr 0 [(.int .i64 nex_5.1), (.int .i64 nex_6.1), (.int .i64 nex_7.1), .nils, .nils, (.int .i64 (I64 (nex_8.1 - 1)))]]) (r' := (.int .i64 nex_9.1)) (windlassref19_Tape_next_pNNN_ev (fuel := fuel) hnex_9) [1] rfl rfl (by decide) rfl rfl ⟨(fr_in rfl rfl (.cons (.base ((encI .u8).blws 0) (.refl _)) (.cons (.base rfl (.refl _)) (.cons (.base rfl (.refl _)) (.nil (Nat.zero_le _)))))), trivial⟩ ⟨(fr_outS rfl rfl (.cons (rn_b ((encI .u8).blws 0)) (.cons (rn_b rfl) (.cons (rn_b rfl) (.nil (Nat.zero_le _))))) rfl rfl), trivial⟩ ⟨.inr rfl, .inl rfl, .inr rfl, .inr rfl, .inr rfl, trivial⟩ rfl (.cons (fi_ptr rfl rfl rfl rfl) (.nil (Nat.zero_le _))) (rn_b rfl) ?_
        refine E_mv (v' := (.int .i64 nex_9.1)) rfl ?_
        refine E_nil ?_
        refine E_nx ?_
        refine E_as ?_
        refine E_sq ?_
        refine E_reg ?_
        refine E_mv (v' := (.int .i64 0)) rfl ?_
        refine E_nil ?_
        refine E_nx ?_
        refine E_sq ?_
        refine E_whileO (fun s_10 => [(0, (.sl false 1 (List.map (avI .u8) b_00))), (2, (.ptr 0 0 0)), (4, (.ptr 1 0 0)), (5, (.ptr 2 0 0)), (6, (.int .i64 nex_1.1)), (7, (.int .i64 s_2.1)), (8, (.ptr 4 0 0)), (9, (.int .i64 nex_9.1)), (10, (.int .i64 s_10.1))]) (fun s_10 => [.arr 0 [.nils, .nils], .arr 0 [(.sl false 1 (List.map (avI .u8) s_10.2.1)), (.int .i64 s_10.2.2.1), (.bool s_10.2.2.2.1)], .arr 0 [(.ref 3 1 0 (List.length s_2.2.2.2.2) (some 6)), .nils], .arr 1 (flat FuncRow.av s_2.2.2.2.2), .arr 0 [(.int .i64 nex_5.1), (.int .i64 nex_6.1), (.int .i64 nex_7.1), (.ref 5 1 0 (List.length s_10.2.2.2.2) none), .nils, (.int .i64 (I64 (nex_8.1 - 1)))], .arr 1 (flat (avI .u8) s_10.2.2.2.2)]) h (wk_rn [some (0, 0), some (1, 0), some (2, 0), some (3, 0), some (4, 0), none] rfl (Nat.le_of_ble_eq_true rfl) ⟨(rn_ob rfl rfl (.cons (rn_b rfl) (.cons (rn_b rfl) (.nil (Nat.zero_le _)))) rfl), (rn_ob rfl rfl (.cons (rn_b ((encI .u8).blws 0)) (.cons (rn_b rfl) (.cons (rn_b rfl) (.nil (Nat.zero_le _))))) rfl), (rn_ob rfl rfl (.cons (rn_refL FuncRow.enc rfl rfl rfl) (.cons (rn_b rfl) (.nil (Nat.zero_le _)))) rfl), (rn_ob rfl rfl (.refl (FuncRow.enc.blwf 0 _)) rfl), (rn_ob rfl rfl (.cons (rn_b rfl) (.cons (rn_b rfl) (.cons (rn_b rfl) (.cons (rn_nil rfl) (.cons (rn_b rfl) (.cons (rn_b rfl) (.nil (Nat.zero_le _)))))))) rfl), (rn_obN rfl rfl rfl), trivial⟩ ⟨(rn_b ((encI .u8).blws 0)), (rn_ptr rfl rfl rfl rfl), (rn_ptr rfl rfl rfl rfl), (rn_ptr rfl rfl rfl rfl), (rn_b rfl), (rn_b rfl), (rn_ptr rfl rfl rfl rfl), (rn_b rfl), (rn_b rfl), trivial⟩) (fun s_10 c h => ?_) (fun s_10 fr' S' h hw => ?_)
        · refine E_as ?_
          refine E_jp h (fun s_12 => [(0, (.sl false 1 (List.map (avI .u8) b_00))), (2, (.ptr 0 0 0)), (4, (.ptr 1 0 0)), (5, (.ptr 2 0 0)), (6, (.int .i64 nex_1.1)), (7, (.int .i64 s_2.1)), (8, (.ptr 4 0 0)), (9, (.int .i64 nex_9.1)), (10, (.int .i64 s_10.1)), (59, (.bool s_12))]) (fun s_12 => [.arr 0 [.nils, .nils], .arr 0 [(.sl false 1 (List.map (avI .u8) s_10.2.1)), (.int .i64 s_10.2.2.1), (.bool s_10.2.2.2.1)], .arr 0 [(.ref 3 1 0 (List.length s_2.2.2.2.2) (some 6)), .nils], .arr 1 (flat FuncRow.av s_2.2.2.2.2), .arr 0 [(.int .i64 nex_5.1), (.int .i64 nex_6.1), (.int .i64 nex_7.1), (.ref 5 1 0 (List.length s_10.2.2.2.2) none), .nils, (.int .i64 (I64 (nex_8.1 - 1)))], .arr 1 (flat (avI .u8) s_10.2.2.2.2)]) (fun k_11 h => ?_) (fun s_12 h => ?_)
          · refine E_reg ?_
            refine E_mv (v' := (.int .i64 s_10.1)) rfl ?_
            refine E_mv (v' := (.int .i64 nex_9.1)) rfl ?_
            refine E_op0 (v' := (.bool (decide (s_10.1 < nex_9.1)))) rfl rfl ?_
            refine E_mv (v' := (.bool (decide (s_10.1 < nex_9.1)))) rfl ?_
            refine E_gsT (b := (decide (s_10.1 < nex_9.1))) rfl rfl rfl (fun hb => ?_) (fun hb => ?_)
            · rw [ite_t hb] at h
              refine E_mv (v' := (.ptr 1 0 0)) rfl ?_
              refine E_gh rfl ?_
              refine E_op0 (v' := (.ptr 1 0 0)) rfl rfl ?_
              refine E_gh rfl ?_
              refine E_op0 (v' := (.ptr 1 0 2)) rfl rfl ?_
              refine E_gh rfl ?_
              refine E_op (v' := (.bool s_10.2.2.2.1)) (S' := [.arr 0 [.nils, .nils], .arr 0 [(.sl false 1 (List.map (avI .u8) s_10.2.1)), (.int .i64 s_10.2.2.1), (.bool s_10.2.2.2.1)], .arr 0 [(.ref 3 1 0 (List.length s_2.2.2.2.2) (some 6)), .nils], .arr 1 (flat FuncRow.av s_2.2.2.2.2), .arr 0 [(.int .i64 nex_5.1), (.int .i64 nex_6.1), (.int .i64 nex_7.1), (.ref 5 1 0 (List.length s_10.2.2.2.2) none), .nils, (.int .i64 (I64 (nex_8.1 - 1)))], .arr 1 (flat (avI .u8) s_10.2.2.2.2)]) rfl rfl rfl ?_
              refine E_gh rfl ?_
              refine E_op0 (v' := (.bool (!s_10.2.2.2.1))) rfl rfl ?_
              refine E_pt rfl rfl ?_
              refine E_nil ?_
              exact E_jx _ h (wk_rn [some (0, 0), some (1, 0), some (2, 0), some (3, 0), some (4, 0), some (5, 0)] rfl (Nat.le_of_ble_eq_true rfl) ⟨(rn_ob rfl rfl (.cons (rn_b rfl) (.cons (rn_b rfl) (.nil (Nat.zero_le _)))) rfl), (rn_ob rfl rfl (.cons (rn_b ((encI .u8).blws 0)) (.cons (rn_b rfl) (.cons (rn_b rfl) (.nil (Nat.zero_le _))))) rfl), (rn_ob rfl rfl (.cons (rn_refL FuncRow.enc rfl rfl rfl) (.cons (rn_b rfl) (.nil (Nat.zero_le _)))) rfl), (rn_ob rfl rfl (.refl (FuncRow.enc.blwf 0 _)) rfl), (rn_ob rfl rfl (.cons (rn_b rfl) (.cons (rn_b rfl) (.cons (rn_b rfl) (.cons (rn_refL (encI .u8) rfl rfl rfl) (.cons (rn_b rfl) (.cons (rn_b rfl) (.nil (Nat.zero_le _)))))))) rfl), (rn_ob rfl rfl (.refl ((encI .u8).blwf 0 _)) rfl), trivial⟩ ⟨(rn_b ((encI .u8).blws 0)), (rn_ptr rfl rfl rfl rfl), (rn_ptr rfl rfl rfl rfl), (rn_ptr rfl rfl rfl rfl), (rn_b rfl), (rn_b rfl), (rn_ptr rfl rfl rfl rfl), (rn_b rfl), (rn_b rfl), (rn_b rfl), trivial⟩)
            · rw [ite_f hb] at h
              refine E_gm rfl ?_
              refine E_gm rfl ?_
              refine E_gm rfl ?_
              refine E_gm rfl ?_
              refine E_pf rfl rfl ?_
              refine E_nil ?_
              exact E_jx _ h (wk_rn [some (0, 0), some (1, 0), some (2, 0), some (3, 0), some (4, 0), some (5, 0)] rfl (Nat.le_of_ble_eq_true rfl) ⟨(rn_ob rfl rfl (.cons (rn_b rfl) (.cons (rn_b rfl) (.nil (Nat.zero_le _)))) rfl), (rn_ob rfl rfl (.cons (rn_b ((encI .u8).blws 0)) (.cons (rn_b rfl) (.cons (rn_b rfl) (.nil (Nat.zero_le _))))) rfl), (rn_ob rfl rfl (.cons (rn_refL FuncRow.enc rfl rfl rfl) (.cons (rn_b rfl) (.nil (Nat.zero_le _)))) rfl), (rn_ob rfl rfl (.refl (FuncRow.enc.blwf 0 _)) rfl), (rn_ob rfl rfl (.cons (rn_b rfl) (.cons (rn_b rfl) (.cons (rn_b rfl) (.cons (rn_refL (encI .u8) rfl rfl rfl) (.cons (rn_b rfl) (.cons (rn_b rfl) (.nil (Nat.zero_le _)))))))) rfl), (rn_ob rfl rfl (.refl ((encI .u8).blwf 0 _)) rfl), trivial⟩ ⟨(rn_b ((encI .u8).blws 0)), (rn_ptr rfl rfl rfl rfl), (rn_ptr rfl rfl rfl rfl), (rn_ptr rfl rfl rfl rfl), (rn_b rfl), (rn_b rfl), (rn_ptr rfl rfl rfl rfl), (rn_b rfl), (rn_b rfl), (rn_b rfl), trivial⟩)
          · refine E_sq ?_
            refine E_cs (t := s_12) rfl (fun hb => ?_) (fun hb => ?_)
            · rw [ite_t hb] at h
              refine E_skip ?_
              refine E_nx ?_
              refine E_sq ?_
              refine E_block ?_
              refine E_sq ?_
              refine E_reg ?_
              refine E_mv (v' := (.ptr 1 0 0)) rfl ?_
              obtain ⟨nex_13, hnex_13, h⟩ := bd_some h
              refine E_callF (S' := [.arr 0 [.nils, .nils], .arr 0 [(.sl false 1 (List.map (avI .u8) nex_13.2.1)), (.int .i64 nex_13.2.2.1), (.bool nex_13.2.2.2)], .arr 0 [(.ref 3 1 0 (List.length s_2.2.2.2.2) (some 6)), .nils], .arr 1 (flat FuncRow.av s_2.2.2.2.2), .arr 0 [(.int .i64 nex_5.1), (.int .i64 nex_6.1), (.int .i64 nex_7.1), (.ref 5 1 0 (List.length s_10.2.2.2.2) none), .nils, (.int .i64 (I64 (nex_8.1 - 1)))], .arr 1 (flat (avI .u8) s_10.2.2.2.2)]) (r' := (.int .i64 nex_13.1)) (windlassref19_Tape_next_pNNN_ev (fuel := fuel) hnex_13) [1] rfl rfl (by decide) rfl rfl ⟨(fr_in rfl rfl (.cons (.base ((encI .u8).blws 0) (.refl _)) (.cons (.base rfl (.refl _)) (.cons (.base rfl (.refl _)) (.nil (Nat.zero_le _)))))), trivial⟩ ⟨(fr_outS rfl rfl (.cons (rn_b ((encI .u8).blws 0)) (.cons (rn_b rfl) (.cons (rn_b rfl) (.nil (Nat.zero_le _))))) rfl rfl), trivial⟩ ⟨.inr rfl, .inl rfl, .inr rfl, .inr rfl, .inr rfl, .inr rfl, trivial⟩ rfl (.cons (fi_ptr rfl rfl rfl rfl) (.nil (Nat.zero_le _))) (rn_b rfl) ?_
              refine E_mv (v' := (.int .i64 nex_13.1)) rfl ?_
              refine E_nil ?_
              refine E_nx ?_
              refine E_as ?_
              refine E_sq ?_
              refine E_reg ?_
              refine E_mv (v' := (.int .i64 nex_13.1)) rfl ?_
              refine E_op0 (v' := (.bool (decide (nex_13.1 > 1)))) rfl rfl ?_
              refine E_nil ?_
              refine E_nx ?_
              refine E_sq ?_
              refine E_cs (t := (decide (nex_13.1 > 1))) rfl (fun hb => ?_) (fun hb => ?_)
              · rw [ite_t hb] at h
                refine E_sq ?_
                refine E_reg ?_
                refine E_op0 (v' := (.agg [.nils, .nils])) rfl rfl ?_
                refine E_do (S' := [.arr 0 [.nils, .nils], .arr 0 [(.sl false 1 (List.map (avI .u8) nex_13.2.1)), (.int .i64 nex_13.2.2.1), (.bool nex_13.2.2.2)], .arr 0 [(.ref 3 1 0 (List.length s_2.2.2.2.2) (some 6)), .nils], .arr 1 (flat FuncRow.av s_2.2.2.2.2), .arr 0 [(.int .i64 nex_5.1), (.int .i64 nex_6.1), (.int .i64 nex_7.1), (.ref 5 1 0 (List.length s_10.2.2.2.2) none), .nils, (.int .i64 (I64 (nex_8.1 - 1)))], .arr 1 (flat (avI .u8) s_10.2.2.2.2)]) rfl rfl ?_
                refine E_mv (v' := (.bool false)) rfl ?_
                refine E_nil ?_
                refine E_nx ?_
                refine E_ret ?_
                refine E_thr ?_
                refine E_blr ?_
                refine E_thr ?_
                cases h
                refine L_rrO rfl (fun h => ?_)
                refine E_thr ?_
                refine E_blr ?_
                refine E_thr ?_
                cases h
                refine L_rrO rfl (fun h => ?_)
                refine E_thr ?_
                cases h
                exact ⟨trivial, _, rfl, (fz_tup ⟨(fz_agg ⟨(fz_b rfl .nil), (fz_b rfl .nil), trivial⟩), (fz_b rfl (.refl _)), trivial⟩)⟩
              · rw [ite_f hb] at h
                refine E_skip ?_
                refine E_nx ?_
                refine E_reg ?_
                refine E_op0 (v' := (.ptr 4 0 3)) rfl rfl ?_
                refine E_op (v' := (.ref 5 1 0 (List.length s_10.2.2.2.2) none)) (S' := [.arr 0 [.nils, .nils], .arr 0 [(.sl false 1 (List.map (avI .u8) nex_13.2.1)), (.int .i64 nex_13.2.2.1), (.bool nex_13.2.2.2)], .arr 0 [(.ref 3 1 0 (List.length s_2.2.2.2.2) (some 6)), .nils], .arr 1 (flat FuncRow.av s_2.2.2.2.2), .arr 0 [(.int .i64 nex_5.1), (.int .i64 nex_6.1), (.int .i64 nex_7.1), (.ref 5 1 0 (List.length s_10.2.2.2.2) none), .nils, (.int .i64 (I64 (nex_8.1 - 1)))], .arr 1 (flat (avI .u8) s_10.2.2.2.2)]) rfl rfl rfl ?_
                refine E_mv (v' := (.int .i64 nex_13.1)) rfl ?_
                refine E_op0 (v' := (.int .u8 (U8 nex_13.1))) rfl rfl ?_
                refine E_opw (v' := (.sl true 1 (List.map (avI .u8) [(U8 nex_13.1)]))) rfl (.refl _) rfl ?_
                obtain ⟨l_14, hl_14, h⟩ := bd_some h
                refine E_apL (S' := [.arr 0 [.nils, .nils], .arr 0 [(.sl false 1 (List.map (avI .u8) nex_13.2.1)), (.int .i64 nex_13.2.2.1), (.bool nex_13.2.2.2)], .arr 0 [(.ref 3 1 0 (List.length s_2.2.2.2.2) (some 6)), .nils], .arr 1 (flat FuncRow.av s_2.2.2.2.2), .arr 0 [(.int .i64 nex_5.1), (.int .i64 nex_6.1), (.int .i64 nex_7.1), (.ref 5 1 0 (List.length s_10.2.2.2.2) none), .nils, (.int .i64 (I64 (nex_8.1 - 1)))], .arr 2 (flat (avI .u8) l_14)]) (encI .u8) rfl (src_sl [(U8 nex_13.1)]) rfl hl_14 rfl ?_
                refine E_op0 (v' := (.ptr 4 0 3)) rfl rfl ?_
                refine E_do (S' := [.arr 0 [.nils, .nils], .arr 0 [(.sl false 1 (List.map (avI .u8) nex_13.2.1)), (.int .i64 nex_13.2.2.1), (.bool nex_13.2.2.2)], .arr 0 [(.ref 3 1 0 (List.length s_2.2.2.2.2) (some 6)), .nils], .arr 1 (flat FuncRow.av s_2.2.2.2.2), .arr 0 [(.int .i64 nex_5.1), (.int .i64 nex_6.1), (.int .i64 nex_7.1), (.ref 5 2 0 (List.length l_14) none), .nils, (.int .i64 (I64 (nex_8.1 - 1)))], .arr 2 (flat (avI .u8) l_14)]) rfl rfl ?_
                refine E_nil ?_
                refine E_bln ?_
                refine E_nx ?_
                refine E_reg ?_
                refine E_mv (v' := (.int .i64 s_10.1)) rfl ?_
                refine E_op0 (v' := (.int .i64 (I64 (s_10.1 + 1)))) rfl rfl ?_
                refine E_mv (v' := (.int .i64 (I64 (s_10.1 + 1)))) rfl ?_
                refine E_nil ?_
                cases h
                exact L_nn rfl (wk_rn [some (0, 0), some (1, 0), some (2, 0), some (3, 0), some (4, 0), some (5, 0)] rfl (Nat.le_of_ble_eq_true rfl) ⟨(rn_ob rfl rfl (.cons (rn_b rfl) (.cons (rn_b rfl) (.nil (Nat.zero_le _)))) rfl), (rn_ob rfl rfl (.cons (rn_b ((encI .u8).blws 0)) (.cons (rn_b rfl) (.cons (rn_b rfl) (.nil (Nat.zero_le _))))) rfl), (rn_ob rfl rfl (.cons (rn_refL FuncRow.enc rfl rfl rfl) (.cons (rn_b rfl) (.nil (Nat.zero_le _)))) rfl), (rn_ob rfl rfl (.refl (FuncRow.enc.blwf 0 _)) rfl), (rn_ob rfl rfl (.cons (rn_b rfl) (.cons (rn_b rfl) (.cons (rn_b rfl) (.cons (rn_refL (encI .u8) rfl rfl rfl) (.cons (rn_b rfl) (.cons (rn_b rfl) (.nil (Nat.zero_le _)))))))) rfl), (rn_ob rfl rfl (.refl ((encI .u8).blwf 0 _)) rfl), trivial⟩ ⟨(rn_b ((encI .u8).blws 0)), (rn_ptr rfl rfl rfl rfl), (rn_ptr rfl rfl rfl rfl), (rn_ptr rfl rfl rfl rfl), (rn_b rfl), (rn_b rfl), (rn_ptr rfl rfl rfl rfl), (rn_b rfl), (rn_b rfl), trivial⟩)
            · rw [ite_f hb] at h
              refine E_exit ?_
              refine E_the ?_
              cases h
              exact L_bk rfl rfl rfl (wk_rn [some (0, 0), some (1, 0), some (2, 0), some (3, 0), some (4, 0), some (5, 0)] rfl (Nat.le_of_ble_eq_true rfl) ⟨(rn_ob rfl rfl (.cons (rn_b rfl) (.cons (rn_b rfl) (.nil (Nat.zero_le _)))) rfl), (rn_ob rfl rfl (.cons (rn_b ((encI .u8).blws 0)) (.cons (rn_b rfl) (.cons (rn_b rfl) (.nil (Nat.zero_le _))))) rfl), (rn_ob rfl rfl (.cons (rn_refL FuncRow.enc rfl rfl rfl) (.cons (rn_b rfl) (.nil (Nat.zero_le _)))) rfl), (rn_ob rfl rfl (.refl (FuncRow.enc.blwf 0 _)) rfl), (rn_ob rfl rfl (.cons (rn_b rfl) (.cons (rn_b rfl) (.cons (rn_b rfl) (.cons (rn_refL (encI .u8) rfl rfl rfl) (.cons (rn_b rfl) (.cons (rn_b rfl) (.nil (Nat.zero_le _)))))))) rfl), (rn_ob rfl rfl (.refl ((encI .u8).blwf 0 _)) rfl), trivial⟩ ⟨(rn_b ((encI .u8).blws 0)), (rn_ptr rfl rfl rfl rfl), (rn_ptr rfl rfl rfl rfl), (rn_ptr rfl rfl rfl rfl), (rn_b rfl), (rn_b rfl), (rn_ptr rfl rfl rfl rfl), (rn_b rfl), (rn_b rfl), trivial⟩)
        · refine X_nx hw ?_
          refine E_sq ?_
          refine E_reg ?_
          refine E_mv (v' := (.ptr 1 0 0)) rfl ?_
          obtain ⟨nex_15, hnex_15, h⟩ := bd_some h
          refine E_callF (S' := [.arr 0 [.nils, .nils], .arr 0 [(.sl false 1 (List.map (avI .u8) nex_15.2.1)), (.int .i64 nex_15.2.2.1), (.bool nex_15.2.2.2)], .arr 0 [(.ref 3 1 0 (List.length s_2.2.2.2.2) (some 6)), .nils], .arr 1 (flat FuncRow.av s_2.2.2.2.2), .arr 0 [(.int .i64 nex_5.1), (.int .i64 nex_6.1), (.int .i64 nex_7.1), (.ref 5 1 0 (List.length s_10.2.2.2.2) none), .nils, (.int .i64 (I64 (nex_8.1 - 1)))], .arr 1 (flat (avI .u8) s_10.2.2.2.2)]) (r' := (.int .i64 nex_15.1)) (windlassref19_Tape_next_pNNN_ev (fuel := fuel) hnex_15) [1] rfl rfl (by decide) rfl rfl ⟨(fr_in rfl rfl (.cons (.base ((encI .u8).blws 0) (.refl _)) (.cons (.base rfl (.refl _)) (.cons (.base rfl (.refl _)) (.nil (Nat.zero_le _)))))), trivial⟩ ⟨(fr_outS rfl rfl (.cons (rn_b ((encI .u8).blws 0)) (.cons (rn_b rfl) (.cons (rn_b rfl) (.nil (Nat.zero_le _))))) rfl rfl), trivial⟩ ⟨.inr rfl, .inl rfl, .inr rfl, .inr rfl, .inr rfl, .inr rfl, trivial⟩ rfl (.cons (fi_ptr rfl rfl rfl rfl) (.nil (Nat.zero_le _))) (rn_b rfl) ?_
          refine E_mv (v' := (.int .i64 nex_15.1)) rfl ?_
          refine E_nil ?_
          refine E_nx ?_
          refine E_as ?_
          refine E_sq ?_
          refine E_reg ?_
          refine E_mv (v' := (.int .i64 0)) rfl ?_
          refine E_nil ?_
          refine E_nx ?_
          refine E_sq ?_
          refine E_whileO (fun s_16 => [(0, (.sl false 1 (List.map (avI .u8) b_00))), (2, (.ptr 0 0 0)), (4, (.ptr 1 0 0)), (5, (.ptr 2 0 0)), (6, (.int .i64 nex_1.1)), (7, (.int .i64 s_2.1)), (8, (.ptr 4 0 0)), (9, (.int .i64 nex_15.1)), (12, (.int .i64 s_16.1))]) (fun s_16 => [.arr 0 [.nils, .nils], .arr 0 [(.sl false 1 (List.map (avI .u8) s_16.2.1)), (.int .i64 s_16.2.2.1), (.bool s_16.2.2.2.1)], .arr 0 [(.ref 3 1 0 (List.length s_2.2.2.2.2) (some 6)), .nils], .arr 1 (flat FuncRow.av s_2.2.2.2.2), .arr 0 [(.int .i64 nex_5.1), (.int .i64 nex_6.1), (.int .i64 nex_7.1), (.ref 5 1 0 (List.length s_10.2.2.2.2) none), (.ref 6 1 0 (List.length s_16.2.2.2.2) (some 2)), (.int .i64 (I64 (nex_8.1 - 1)))], .arr 1 (flat (avI .u8) s_10.2.2.2.2), .arr 1 (flat Save.av s_16.2.2.2.2)]) h (wk_rn [some (0, 0), some (1, 0), some (2, 0), some (3, 0), some (4, 0), some (5, 0), none] rfl (Nat.le_of_ble_eq_true rfl) ⟨(rn_ob rfl rfl (.cons (rn_b rfl) (.cons (rn_b rfl) (.nil (Nat.zero_le _)))) rfl), (rn_ob rfl rfl (.cons (rn_b ((encI .u8).blws 0)) (.cons (rn_b rfl) (.cons (rn_b rfl) (.nil (Nat.zero_le _))))) rfl), (rn_ob rfl rfl (.cons (rn_refL FuncRow.enc rfl rfl rfl) (.cons (rn_b rfl) (.nil (Nat.zero_le _)))) rfl), (rn_ob rfl rfl (.refl (FuncRow.enc.blwf 0 _)) rfl), (rn_ob rfl rfl (.cons (rn_b rfl) (.cons (rn_b rfl) (.cons (rn_b rfl) (.cons (rn_refL (encI .u8) rfl rfl rfl) (.cons (rn_nil rfl) (.cons (rn_b rfl) (.nil (Nat.zero_le _)))))))) rfl), (rn_ob rfl rfl (.refl ((encI .u8).blwf 0 _)) rfl), (rn_obN rfl rfl rfl), trivial⟩ ⟨(rn_b ((encI .u8).blws 0)), (rn_ptr rfl rfl rfl rfl), (rn_ptr rfl rfl rfl rfl), (rn_ptr rfl rfl rfl rfl), (rn_b rfl), (rn_b rfl), (rn_ptr rfl rfl rfl rfl), (rn_b rfl), (rn_b rfl), trivial⟩) (fun s_16 c h => ?_) (fun s_16 fr' S' h hw => ?_)
          · refine E_as ?_
            refine E_jp h (fun s_18 => [(0, (.sl false 1 (List.map (avI .u8) b_00))), (2, (.ptr 0 0 0)), (4, (.ptr 1 0 0)), (5, (.ptr 2 0 0)), (6, (.int .i64 nex_1.1)), (7, (.int .i64 s_2.1)), (8, (.ptr 4 0 0)), (9, (.int .i64 nex_15.1)), (12, (.int .i64 s_16.1)), (85, (.bool s_18))]) (fun s_18 => [.arr 0 [.nils, .nils], .arr 0 [(.sl false 1 (List.map (avI .u8) s_16.2.1)), (.int .i64 s_16.2.2.1), (.bool s_16.2.2.2.1)], .arr 0 [(.ref 3 1 0 (List.length s_2.2.2.2.2) (some 6)), .nils], .arr 1 (flat FuncRow.av s_2.2.2.2.2), .arr 0 [(.int .i64 nex_5.1), (.int .i64 nex_6.1), (.int .i64 nex_7.1), (.ref 5 1 0 (List.length s_10.2.2.2.2) none), (.ref 6 1 0 (List.length s_16.2.2.2.2) (some 2)), (.int .i64 (I64 (nex_8.1 - 1)))], .arr 1 (flat (avI .u8) s_10.2.2.2.2), .arr 1 (flat Save.av s_16.2.2.2.2)]) (fun k_17 h => ?_) (fun s_18 h => ?_)
            · refine E_reg ?_
              refine E_mv (v' := (.int .i64 s_16.1)) rfl ?_
              refine E_mv (v' := (.int .i64 nex_15.1)) rfl ?_
              refine E_op0 (v' := (.bool (decide (s_16.1 < nex_15.1)))) rfl rfl ?_
              refine E_mv (v' := (.bool (decide (s_16.1 < nex_15.1)))) rfl ?_
              refine E_gsT (b := (decide (s_16.1 < nex_15.1))) rfl rfl rfl (fun hb => ?_) (fun hb => ?_)
              · rw [ite_t hb] at h
                refine E_mv (v' := (.ptr 1 0 0)) rfl ?_
                refine E_gh rfl ?_
                refine E_op0 (v' := (.ptr 1 0 0)) rfl rfl ?_
                refine E_gh rfl ?_
                refine E_op0 (v' := (.ptr 1 0 2)) rfl rfl ?_
                refine E_gh rfl ?_
                refine E_op (v' := (.bool s_16.2.2.2.1)) (S' := [.arr 0 [.nils, .nils], .arr 0 [(.sl false 1 (List.map (avI .u8) s_16.2.1)), (.int .i64 s_16.2.2.1), (.bool s_16.2.2.2.1)], .arr 0 [(.ref 3 1 0 (List.length s_2.2.2.2.2) (some 6)), .nils], .arr 1 (flat FuncRow.av s_2.2.2.2.2), .arr 0 [(.int .i64 nex_5.1), (.int .i64 nex_6.1), (.int .i64 nex_7.1), (.ref 5 1 0 (List.length s_10.2.2.2.2) none), (.ref 6 1 0 (List.length s_16.2.2.2.2) (some 2)), (.int .i64 (I64 (nex_8.1 - 1)))], .arr 1 (flat (avI .u8) s_10.2.2.2.2), .arr 1 (flat Save.av s_16.2.2.2.2)]) rfl rfl rfl ?_
                refine E_gh rfl ?_
                refine E_op0 (v' := (.bool (!s_16.2.2.2.1))) rfl rfl ?_
                refine E_pt rfl rfl ?_
                refine E_nil ?_
                exact E_jx _ h (wk_rn [some (0, 0), some (1, 0), some (2, 0), some (3, 0), some (4, 0), some (5, 0), some (6, 0)] rfl (Nat.le_of_ble_eq_true rfl) ⟨(rn_ob rfl rfl (.cons (rn_b rfl) (.cons (rn_b rfl) (.nil (Nat.zero_le _)))) rfl), (rn_ob rfl rfl (.cons (rn_b ((encI .u8).blws 0)) (.cons (rn_b rfl) (.cons (rn_b rfl) (.nil (Nat.zero_le _))))) rfl), (rn_ob rfl rfl (.cons (rn_refL FuncRow.enc rfl rfl rfl) (.cons (rn_b rfl) (.nil (Nat.zero_le _)))) rfl), (rn_ob rfl rfl (.refl (FuncRow.enc.blwf 0 _)) rfl), (rn_ob rfl rfl (.cons (rn_b rfl) (.cons (rn_b rfl) (.cons (rn_b rfl) (.cons (rn_refL (encI .u8) rfl rfl rfl) (.cons (rn_refL Save.enc rfl rfl rfl) (.cons (rn_b rfl) (.nil (Nat.zero_le _)))))))) rfl), (rn_ob rfl rfl (.refl ((encI .u8).blwf 0 _)) rfl), (rn_ob rfl rfl (.refl (Save.enc.blwf 0 _)) rfl), trivial⟩ ⟨(rn_b ((encI .u8).blws 0)), (rn_ptr rfl rfl rfl rfl), (rn_ptr rfl rfl rfl rfl), (rn_ptr rfl rfl rfl rfl), (rn_b rfl), (rn_b rfl), (rn_ptr rfl rfl rfl rfl), (rn_b rfl), (rn_b rfl), (rn_b rfl), trivial⟩)
              · rw [ite_f hb] at h
                refine E_gm rfl ?_
                refine E_gm rfl ?_
                refine E_gm rfl ?_
                refine E_gm rfl ?_
                refine E_pf rfl rfl ?_
                refine E_nil ?_
                exact E_jx _ h (wk_rn [some (0, 0), some (1, 0), some (2, 0), some (3, 0), some (4, 0), some (5, 0), some (6, 0)] rfl (Nat.le_of_ble_eq_true rfl) ⟨(rn_ob rfl rfl (.cons (rn_b rfl) (.cons (rn_b rfl) (.nil (Nat.zero_le _)))) rfl), (rn_ob rfl rfl (.cons (rn_b ((encI .u8).blws 0)) (.cons (rn_b rfl) (.cons (rn_b rfl) (.nil (Nat.zero_le _))))) rfl), (rn_ob rfl rfl (.cons (rn_refL FuncRow.enc rfl rfl rfl) (.cons (rn_b rfl) (.nil (Nat.zero_le _)))) rfl), (rn_ob rfl rfl (.refl (FuncRow.enc.blwf 0 _)) rfl), (rn_ob rfl rfl (.cons (rn_b rfl) (.cons (rn_b rfl) (.cons (rn_b rfl) (.cons (rn_refL (encI .u8) rfl rfl rfl) (.cons (rn_refL Save.enc rfl rfl rfl) (.cons (rn_b rfl) (.nil (Nat.zero_le _)))))))) rfl), (rn_ob rfl rfl (.refl ((encI .u8).blwf 0 _)) rfl), (rn_ob rfl rfl (.refl (Save.enc.blwf 0 _)) rfl), trivial⟩ ⟨(rn_b ((encI .u8).blws 0)), (rn_ptr rfl rfl rfl rfl), (rn_ptr rfl rfl rfl rfl), (rn_ptr rfl rfl rfl rfl), (rn_b rfl), (rn_b rfl), (rn_ptr rfl rfl rfl rfl), (rn_b rfl), (rn_b rfl), (rn_b rfl), trivial⟩)
            · refine E_sq ?_
              refine E_cs (t := s_18) rfl (fun hb => ?_) (fun hb => ?_)
              · rw [ite_t hb] at h
                refine E_skip ?_
                refine E_nx ?_
                refine E_sq ?_
                refine E_block ?_
                refine E_sq ?_
                refine E_reg ?_
                refine E_mv (v' := (.ptr 1 0 0)) rfl ?_
                obtain ⟨nex_19, hnex_19, h⟩ := bd_some h
                refine E_callF (S' := [.arr 0 [.nils, .nils], .arr 0 [(.sl false 1 (List.map (avI .u8) nex_19.2.1)), (.int .i64 nex_19.2.2.1), (.bool nex_19.2.2.2)], .arr 0 [(.ref 3 1 0 (List.length s_2.2.2.2.2) (some 6)), .nils], .arr 1 (flat FuncRow.av s_2.2.2.2.2), .arr 0 [(.int .i64 nex_5.1), (.int .i64 nex_6.1), (.int .i64 nex_7.1), (.ref 5 1 0 (List.length s_10.2.2.2.2) none), (.ref 6 1 0 (List.length s_16.2.2.2.2) (some 2)), (.int .i64 (I64 (nex_8.1 - 1)))], .arr 1 (flat (avI .u8) s_10.2.2.2.2), .arr 1 (flat Save.av s_16.2.2.2.2)]) (r' := (.int .i64 nex_19.1)) (windlassref19_Tape_next_pNNN_ev (fuel := fuel) hnex_19) [1] rfl rfl (by decide) rfl rfl ⟨(fr_in rfl rfl (.cons (.base ((encI .u8).blws 0) (.refl _)) (.cons (.base rfl (.refl _)) (.cons (.base rfl (.refl _)) (.nil (Nat.zero_le _)))))), trivial⟩ ⟨(fr_outS rfl rfl (.cons (rn_b ((encI .u8).blws 0)) (.cons (rn_b rfl) (.cons (rn_b rfl) (.nil (Nat.zero_le _))))) rfl rfl), trivial⟩ ⟨.inr rfl, .inl rfl, .inr rfl, .inr rfl, .inr rfl, .inr rfl, .inr rfl, trivial⟩ rfl (.cons (fi_ptr rfl rfl rfl rfl) (.nil (Nat.zero_le _))) (rn_b rfl) ?_
                refine E_mv (v' := (.int .i64 nex_19.1)) rfl ?_
                refine E_nil ?_
                refine E_nx ?_
                refine E_regp ?_
                refine E_op0 (v' := (.ptr 4 0 4)) rfl rfl ?_
                refine E_op (v' := (.ref 6 1 0 (List.length s_16.2.2.2.2) (some 2))) (S' := [.arr 0 [.nils, .nils], .arr 0 [(.sl false 1 (List.map (avI .u8) nex_19.2.1)), (.int .i64 nex_19.2.2.1), (.bool nex_19.2.2.2)], .arr 0 [(.ref 3 1 0 (List.length s_2.2.2.2.2) (some 6)), .nils], .arr 1 (flat FuncRow.av s_2.2.2.2.2), .arr 0 [(.int .i64 nex_5.1), (.int .i64 nex_6.1), (.int .i64 nex_7.1), (.ref 5 1 0 (List.length s_10.2.2.2.2) none), (.ref 6 1 0 (List.length s_16.2.2.2.2) (some 2)), (.int .i64 (I64 (nex_8.1 - 1)))], .arr 1 (flat (avI .u8) s_10.2.2.2.2), .arr 1 (flat Save.av s_16.2.2.2.2)]) rfl rfl rfl ?_
                refine E_mv (v' := (.int .i64 nex_19.1)) rfl ?_
                refine E_mv (v' := (.ptr 1 0 0)) rfl ?_
                obtain ⟨nex_20, hnex_20, h⟩ := bd_some h
                refine E_callF (S' := [.arr 0 [.nils, .nils], .arr 0 [(.sl false 1 (List.map (avI .u8) nex_20.2.1)), (.int .i64 nex_20.2.2.1), (.bool nex_20.2.2.2)], .arr 0 [(.ref 3 1 0 (List.length s_2.2.2.2.2) (some 6)), .nils], .arr 1 (flat FuncRow.av s_2.2.2.2.2), .arr 0 [(.int .i64 nex_5.1), (.int .i64 nex_6.1), (.int .i64 nex_7.1), (.ref 5 1 0 (List.length s_10.2.2.2.2) none), (.ref 6 1 0 (List.length s_16.2.2.2.2) (some 2)), (.int .i64 (I64 (nex_8.1 - 1)))], .arr 1 (flat (avI .u8) s_10.2.2.2.2), .arr 1 (flat Save.av s_16.2.2.2.2)]) (r' := (.int .i64 nex_20.1)) (windlassref19_Tape_next_pNNN_ev (fuel := fuel) hnex_20) [1] rfl rfl (by decide) rfl rfl ⟨(fr_in rfl rfl (.cons (.base ((encI .u8).blws 0) (.refl _)) (.cons (.base rfl (.refl _)) (.cons (.base rfl (.refl _)) (.nil (Nat.zero_le _)))))), trivial⟩ ⟨(fr_outS rfl rfl (.cons (rn_b ((encI .u8).blws 0)) (.cons (rn_b rfl) (.cons (rn_b rfl) (.nil (Nat.zero_le _))))) rfl rfl), trivial⟩ ⟨.inr rfl, .inl rfl, .inr rfl, .inr rfl, .inr rfl, .inr rfl, .inr rfl, trivial⟩ rfl (.cons (fi_ptr rfl rfl rfl rfl) (.nil (Nat.zero_le _))) (rn_b rfl) ?_
                refine E_opw (v' := (Save.av (Save.mk nex_19.1 nex_20.1))) rfl (.aggL ⟨(.refl _), (.refl _), trivial⟩) rfl ?_
                refine E_opw (v' := (.sl true 2 (List.map Save.av [(Save.mk nex_19.1 nex_20.1)]))) rfl (.refl _) rfl ?_
                obtain ⟨l_21, hl_21, h⟩ := bd_some h
                refine E_apL (S' := [.arr 0 [.nils, .nils], .arr 0 [(.sl false 1 (List.map (avI .u8) nex_20.2.1)), (.int .i64 nex_20.2.2.1), (.bool nex_20.2.2.2)], .arr 0 [(.ref 3 1 0 (List.length s_2.2.2.2.2) (some 6)), .nils], .arr 1 (flat FuncRow.av s_2.2.2.2.2), .arr 0 [(.int .i64 nex_5.1), (.int .i64 nex_6.1), (.int .i64 nex_7.1), (.ref 5 1 0 (List.length s_10.2.2.2.2) none), (.ref 6 1 0 (List.length s_16.2.2.2.2) (some 2)), (.int .i64 (I64 (nex_8.1 - 1)))], .arr 1 (flat (avI .u8) s_10.2.2.2.2), .arr 2 (flat Save.av l_21)]) Save.enc rfl (src_sl [(Save.mk nex_19.1 nex_20.1)]) rfl hl_21 rfl ?_
                refine E_op0 (v' := (.ptr 4 0 4)) rfl rfl ?_
                refine E_do (S' := [.arr 0 [.nils, .nils], .arr 0 [(.sl false 1 (List.map (avI .u8) nex_20.2.1)), (.int .i64 nex_20.2.2.1), (.bool nex_20.2.2.2)], .arr 0 [(.ref 3 1 0 (List.length s_2.2.2.2.2) (some 6)), .nils], .arr 1 (flat FuncRow.av s_2.2.2.2.2), .arr 0 [(.int .i64 nex_5.1), (.int .i64 nex_6.1), (.int .i64 nex_7.1), (.ref 5 1 0 (List.length s_10.2.2.2.2) none), (.ref 6 2 0 (List.length l_21) (some 2)), (.int .i64 (I64 (nex_8.1 - 1)))], .arr 1 (flat (avI .u8) s_10.2.2.2.2), .arr 2 (flat Save.av l_21)]) rfl rfl ?_
                refine E_nil ?_
                refine And.intro (by simp [okLog, nthL, okPair, hp, fpOf]) ?_
                refine E_bln ?_
                refine E_nx ?_
                refine E_reg ?_
                refine E_mv (v' := (.int .i64 s_16.1)) rfl ?_
                refine E_op0 (v' := (.int .i64 (I64 (s_16.1 + 1)))) rfl rfl ?_
                refine E_mv (v' := (.int .i64 (I64 (s_16.1 + 1)))) rfl ?_
                refine E_nil ?_
                cases h
                exact L_nn rfl (wk_rn [some (0, 0), some (1, 0), some (2, 0), some (3, 0), some (4, 0), some (5, 0), some (6, 0)] rfl (Nat.le_of_ble_eq_true rfl) ⟨(rn_ob rfl rfl (.cons (rn_b rfl) (.cons (rn_b rfl) (.nil (Nat.zero_le _)))) rfl), (rn_ob rfl rfl (.cons (rn_b ((encI .u8).blws 0)) (.cons (rn_b rfl) (.cons (rn_b rfl) (.nil (Nat.zero_le _))))) rfl), (rn_ob rfl rfl (.cons (rn_refL FuncRow.enc rfl rfl rfl) (.cons (rn_b rfl) (.nil (Nat.zero_le _)))) rfl), (rn_ob rfl rfl (.refl (FuncRow.enc.blwf 0 _)) rfl), (rn_ob rfl rfl (.cons (rn_b rfl) (.cons (rn_b rfl) (.cons (rn_b rfl) (.cons (rn_refL (encI .u8) rfl rfl rfl) (.cons (rn_refL Save.enc rfl rfl rfl) (.cons (rn_b rfl) (.nil (Nat.zero_le _)))))))) rfl), (rn_ob rfl rfl (.refl ((encI .u8).blwf 0 _)) rfl), (rn_ob rfl rfl (.refl (Save.enc.blwf 0 _)) rfl), trivial⟩ ⟨(rn_b ((encI .u8).blws 0)), (rn_ptr rfl rfl rfl rfl), (rn_ptr rfl rfl rfl rfl), (rn_ptr rfl rfl rfl rfl), (rn_b rfl), (rn_b rfl), (rn_ptr rfl rfl rfl rfl), (rn_b rfl), (rn_b rfl), trivial⟩)
              · rw [ite_f hb] at h
                refine E_exit ?_
                refine E_the ?_
                cases h
                exact L_bk rfl rfl rfl (wk_rn [some (0, 0), some (1, 0), some (2, 0), some (3, 0), some (4, 0), some (5, 0), some (6, 0)] rfl (Nat.le_of_ble_eq_true rfl) ⟨(rn_ob rfl rfl (.cons (rn_b rfl) (.cons (rn_b rfl) (.nil (Nat.zero_le _)))) rfl), (rn_ob rfl rfl (.cons (rn_b ((encI .u8).blws 0)) (.cons (rn_b rfl) (.cons (rn_b rfl) (.nil (Nat.zero_le _))))) rfl), (rn_ob rfl rfl (.cons (rn_refL FuncRow.enc rfl rfl rfl) (.cons (rn_b rfl) (.nil (Nat.zero_le _)))) rfl), (rn_ob rfl rfl (.refl (FuncRow.enc.blwf 0 _)) rfl), (rn_ob rfl rfl (.cons (rn_b rfl) (.cons (rn_b rfl) (.cons (rn_b rfl) (.cons (rn_refL (encI .u8) rfl rfl rfl) (.cons (rn_refL Save.enc rfl rfl rfl) (.cons (rn_b rfl) (.nil (Nat.zero_le _)))))))) rfl), (rn_ob rfl rfl (.refl ((encI .u8).blwf 0 _)) rfl), (rn_ob rfl rfl (.refl (Save.enc.blwf 0 _)) rfl), trivial⟩ ⟨(rn_b ((encI .u8).blws 0)), (rn_ptr rfl rfl rfl rfl), (rn_ptr rfl rfl rfl rfl), (rn_ptr rfl rfl rfl rfl), (rn_b rfl), (rn_b rfl), (rn_ptr rfl rfl rfl rfl), (rn_b rfl), (rn_b rfl), trivial⟩)
          · refine E_nxw (F := [(0, (.sl false 1 (List.map (avI .u8) b_00))), (2, (.ptr 0 0 0)), (4, (.ptr 1 0 0)), (5, (.ptr 2 0 0)), (6, (.int .i64 nex_1.1)), (7, (.int .i64 s_2.1)), (8, (.ptr 4 0 0))]) (T := [.arr 0 [.nils, .nils], .arr 0 [(.sl false 1 (List.map (avI .u8) s_16.2.1)), (.int .i64 s_16.2.2.1), (.bool s_16.2.2.2.1)], .arr 0 [(.ref 3 1 0 (List.length s_2.2.2.2.2) (some 6)), .nils], .arr 1 (flat FuncRow.av s_2.2.2.2.2), .arr 0 [(.int .i64 nex_5.1), (.int .i64 nex_6.1), (.int .i64 nex_7.1), (.sl false 1 (List.map (avI .u8) s_10.2.2.2.2)), (.sl false 2 (List.map Save.av s_16.2.2.2.2)), (.int .i64 (I64 (nex_8.1 - 1)))]]) (wk_trans hw (wk_trans (wk_trans (fr'' := [(0, (.sl false 1 (List.map (avI .u8) b_00))), (2, (.ptr 0 0 0)), (4, (.ptr 1 0 0)), (5, (.ptr 2 0 0)), (6, (.int .i64 nex_1.1)), (7, (.int .i64 s_2.1)), (8, (.ptr 4 0 0))]) (S'' := [.arr 0 [.nils, .nils], .arr 0 [(.sl false 1 (List.map (avI .u8) s_16.2.1)), (.int .i64 s_16.2.2.1), (.bool s_16.2.2.2.1)], .arr 0 [(.ref 3 1 0 (List.length s_2.2.2.2.2) (some 6)), .nils], .arr 1 (flat FuncRow.av s_2.2.2.2.2), .arr 0 [(.int .i64 nex_5.1), (.int .i64 nex_6.1), (.int .i64 nex_7.1), (.sl false 1 (List.map (avI .u8) s_10.2.2.2.2)), (.ref 5 1 0 (List.length s_16.2.2.2.2) (some 2)), (.int .i64 (I64 (nex_8.1 - 1)))], .arr 1 (flat Save.av s_16.2.2.2.2)]) (wk_rn (fr' := [(0, (.sl false 1 (List.map (avI .u8) b_00))), (2, (.ptr 0 0 0)), (4, (.ptr 1 0 0)), (5, (.ptr 2 0 0)), (6, (.int .i64 nex_1.1)), (7, (.int .i64 s_2.1)), (8, (.ptr 4 0 0))]) (S' := [.arr 0 [.nils, .nils], .arr 0 [(.sl false 1 (List.map (avI .u8) s_16.2.1)), (.int .i64 s_16.2.2.1), (.bool s_16.2.2.2.1)], .arr 0 [(.ref 3 1 0 (List.length s_2.2.2.2.2) (some 6)), .nils], .arr 1 (flat FuncRow.av s_2.2.2.2.2), .arr 0 [(.int .i64 nex_5.1), (.int .i64 nex_6.1), (.int .i64 nex_7.1), (.ref 6 1 0 (List.length s_10.2.2.2.2) none), (.ref 5 1 0 (List.length s_16.2.2.2.2) (some 2)), (.int .i64 (I64 (nex_8.1 - 1)))], .arr 1 (flat Save.av s_16.2.2.2.2), .arr 1 (flat (avI .u8) s_10.2.2.2.2)]) [some (0, 0), some (1, 0), some (2, 0), some (3, 0), some (4, 0), some (6, 0), some (5, 0)] rfl (Nat.le_of_ble_eq_true rfl) ⟨(rn_ob rfl rfl (.cons (rn_b rfl) (.cons (rn_b rfl) (.nil (Nat.zero_le _)))) rfl), (rn_ob rfl rfl (.cons (rn_b ((encI .u8).blws 0)) (.cons (rn_b rfl) (.cons (rn_b rfl) (.nil (Nat.zero_le _))))) rfl), (rn_ob rfl rfl (.cons (rn_refL FuncRow.enc rfl rfl rfl) (.cons (rn_b rfl) (.nil (Nat.zero_le _)))) rfl), (rn_ob rfl rfl (.refl (FuncRow.enc.blwf 0 _)) rfl), (rn_ob rfl rfl (.cons (rn_b rfl) (.cons (rn_b rfl) (.cons (rn_b rfl) (.cons (rn_refL (encI .u8) rfl rfl rfl) (.cons (rn_refL Save.enc rfl rfl rfl) (.cons (rn_b rfl) (.nil (Nat.zero_le _)))))))) rfl), (rn_ob rfl rfl (.refl (Save.enc.blwf 0 _)) rfl), (rn_ob rfl rfl (.refl ((encI .u8).blwf 0 _)) rfl), trivial⟩ ⟨(rn_b ((encI .u8).blws 0)), (rn_ptr rfl rfl rfl rfl), (rn_ptr rfl rfl rfl rfl), (rn_ptr rfl rfl rfl rfl), (rn_b rfl), (rn_b rfl), (rn_ptr rfl rfl rfl rfl), trivial⟩) (wk_fz 6 6 rfl ⟨⟨rfl, ⟨(fz_b rfl (.refl _)), (fz_b rfl (.refl _)), trivial⟩⟩, ⟨rfl, ⟨(fz_b ((encI .u8).blws 6) (.refl _)), (fz_b rfl (.refl _)), (fz_b rfl (.refl _)), trivial⟩⟩, ⟨rfl, ⟨(fz_b rfl (.refl _)), (fz_b rfl (.refl _)), trivial⟩⟩, ⟨rfl, fzL_id (FuncRow.enc.blwf 6 _)⟩, ⟨rfl, ⟨(fz_b rfl (.refl _)), (fz_b rfl (.refl _)), (fz_b rfl (.refl _)), (fz_ref (encI .u8) (Nat.le_of_ble_eq_true rfl) rfl), (fz_b rfl (.refl _)), (fz_b rfl (.refl _)), trivial⟩⟩, ⟨rfl, fzL_id (Save.enc.blwf 6 _)⟩, trivial⟩ ⟨(fz_b ((encI .u8).blws 6) (.refl _)), (fz_b rfl (.refl _)), (fz_b rfl (.refl _)), (fz_b rfl (.refl _)), (fz_b rfl (.refl _)), (fz_b rfl (.refl _)), (fz_b rfl (.refl _)), trivial⟩)) (wk_trans (fr'' := [(0, (.sl false 1 (List.map (avI .u8) b_00))), (2, (.ptr 0 0 0)), (4, (.ptr 1 0 0)), (5, (.ptr 2 0 0)), (6, (.int .i64 nex_1.1)), (7, (.int .i64 s_2.1)), (8, (.ptr 4 0 0))]) (S'' := [.arr 0 [.nils, .nils], .arr 0 [(.sl false 1 (List.map (avI .u8) s_16.2.1)), (.int .i64 s_16.2.2.1), (.bool s_16.2.2.2.1)], .arr 0 [(.ref 3 1 0 (List.length s_2.2.2.2.2) (some 6)), .nils], .arr 1 (flat FuncRow.av s_2.2.2.2.2), .arr 0 [(.int .i64 nex_5.1), (.int .i64 nex_6.1), (.int .i64 nex_7.1), (.sl false 1 (List.map (avI .u8) s_10.2.2.2.2)), (.sl false 2 (List.map Save.av s_16.2.2.2.2)), (.int .i64 (I64 (nex_8.1 - 1)))]]) (wk_rn (fr' := [(0, (.sl false 1 (List.map (avI .u8) b_00))), (2, (.ptr 0 0 0)), (4, (.ptr 1 0 0)), (5, (.ptr 2 0 0)), (6, (.int .i64 nex_1.1)), (7, (.int .i64 s_2.1)), (8, (.ptr 4 0 0))]) (S' := [.arr 0 [.nils, .nils], .arr 0 [(.sl false 1 (List.map (avI .u8) s_16.2.1)), (.int .i64 s_16.2.2.1), (.bool s_16.2.2.2.1)], .arr 0 [(.ref 3 1 0 (List.length s_2.2.2.2.2) (some 6)), .nils], .arr 1 (flat FuncRow.av s_2.2.2.2.2), .arr 0 [(.int .i64 nex_5.1), (.int .i64 nex_6.1), (.int .i64 nex_7.1), (.sl false 1 (List.map (avI .u8) s_10.2.2.2.2)), (.ref 5 1 0 (List.length s_16.2.2.2.2) (some 2)), (.int .i64 (I64 (nex_8.1 - 1)))], .arr 1 (flat Save.av s_16.2.2.2.2)]) [some (0, 0), some (1, 0), some (2, 0), some (3, 0), some (4, 0), some (5, 0)] rfl (Nat.le_of_ble_eq_true rfl) ⟨(rn_ob rfl rfl (.cons (rn_b rfl) (.cons (rn_b rfl) (.nil (Nat.zero_le _)))) rfl), (rn_ob rfl rfl (.cons (rn_b ((encI .u8).blws 0)) (.cons (rn_b rfl) (.cons (rn_b rfl) (.nil (Nat.zero_le _))))) rfl), (rn_ob rfl rfl (.cons (rn_refL FuncRow.enc rfl rfl rfl) (.cons (rn_b rfl) (.nil (Nat.zero_le _)))) rfl), (rn_ob rfl rfl (.refl (FuncRow.enc.blwf 0 _)) rfl), (rn_ob rfl rfl (.cons (rn_b rfl) (.cons (rn_b rfl) (.cons (rn_b rfl) (.cons (rn_b ((encI .u8).blws 0)) (.cons (rn_refL Save.enc rfl rfl rfl) (.cons (rn_b rfl) (.nil (Nat.zero_le _)))))))) rfl), (rn_ob rfl rfl (.refl (Save.enc.blwf 0 _)) rfl), trivial⟩ ⟨(rn_b ((encI .u8).blws 0)), (rn_ptr rfl rfl rfl rfl), (rn_ptr rfl rfl rfl rfl), (rn_ptr rfl rfl rfl rfl), (rn_b rfl), (rn_b rfl), (rn_ptr rfl rfl rfl rfl), trivial⟩) (wk_fz 5 6 rfl ⟨⟨rfl, ⟨(fz_b rfl (.refl _)), (fz_b rfl (.refl _)), trivial⟩⟩, ⟨rfl, ⟨(fz_b ((encI .u8).blws 5) (.refl _)), (fz_b rfl (.refl _)), (fz_b rfl (.refl _)), trivial⟩⟩, ⟨rfl, ⟨(fz_b rfl (.refl _)), (fz_b rfl (.refl _)), trivial⟩⟩, ⟨rfl, fzL_id (FuncRow.enc.blwf 5 _)⟩, ⟨rfl, ⟨(fz_b rfl (.refl _)), (fz_b rfl (.refl _)), (fz_b rfl (.refl _)), (fz_b ((encI .u8).blws 5) (.refl _)), (fz_ref Save.enc (Nat.le_of_ble_eq_true rfl) rfl), (fz_b rfl (.refl _)), trivial⟩⟩, trivial⟩ ⟨(fz_b ((encI .u8).blws 5) (.refl _)), (fz_b rfl (.refl _)), (fz_b rfl (.refl _)), (fz_b rfl (.refl _)), (fz_b rfl (.refl _)), (fz_b rfl (.refl _)), (fz_b rfl (.refl _)), trivial⟩)))) ?_
            refine E_reg ?_
            refine E_op0 (v' := (.ptr 2 0 0)) rfl rfl ?_
            refine E_op (v' := (.ref 3 1 0 (List.length s_2.2.2.2.2) (some 6))) (S' := [.arr 0 [.nils, .nils], .arr 0 [(.sl false 1 (List.map (avI .u8) s_16.2.1)), (.int .i64 s_16.2.2.1), (.bool s_16.2.2.2.1)], .arr 0 [(.ref 3 1 0 (List.length s_2.2.2.2.2) (some 6)), .nils], .arr 1 (flat FuncRow.av s_2.2.2.2.2), .arr 0 [(.int .i64 nex_5.1), (.int .i64 nex_6.1), (.int .i64 nex_7.1), (.sl false 1 (List.map (avI .u8) s_10.2.2.2.2)), (.sl false 2 (List.map Save.av s_16.2.2.2.2)), (.int .i64 (I64 (nex_8.1 - 1)))]]) rfl rfl rfl ?_
            refine E_opw (v' := (FuncRow.av (FuncRow.mk nex_5.1 nex_6.1 nex_7.1 s_10.2.2.2.2 s_16.2.2.2.2 (I64 (nex_8.1 - 1))))) rfl (.aggL ⟨(.refl _), (.refl _), (.refl _), (.refl _), (.refl _), (.refl _), trivial⟩) rfl ?_
            refine E_opw (v' := (.sl true 6 (List.map FuncRow.av [(FuncRow.mk nex_5.1 nex_6.1 nex_7.1 s_10.2.2.2.2 s_16.2.2.2.2 (I64 (nex_8.1 - 1)))]))) rfl (.refl _) rfl ?_
            obtain ⟨l_22, hl_22, h⟩ := bd_some h
            refine E_apL (S' := [.arr 0 [.nils, .nils], .arr 0 [(.sl false 1 (List.map (avI .u8) s_16.2.1)), (.int .i64 s_16.2.2.1), (.bool s_16.2.2.2.1)], .arr 0 [(.ref 3 1 0 (List.length s_2.2.2.2.2) (some 6)), .nils], .arr 2 (flat FuncRow.av l_22), .arr 0 [(.int .i64 nex_5.1), (.int .i64 nex_6.1), (.int .i64 nex_7.1), (.sl false 1 (List.map (avI .u8) s_10.2.2.2.2)), (.sl false 2 (List.map Save.av s_16.2.2.2.2)), (.int .i64 (I64 (nex_8.1 - 1)))]]) FuncRow.enc rfl (src_sl [(FuncRow.mk nex_5.1 nex_6.1 nex_7.1 s_10.2.2.2.2 s_16.2.2.2.2 (I64 (nex_8.1 - 1)))]) rfl hl_22 rfl ?_
            refine E_op0 (v' := (.ptr 2 0 0)) rfl rfl ?_
            refine E_do (S' := [.arr 0 [.nils, .nils], .arr 0 [(.sl false 1 (List.map (avI .u8) s_16.2.1)), (.int .i64 s_16.2.2.1), (.bool s_16.2.2.2.1)], .arr 0 [(.ref 3 2 0 (List.length l_22) (some 6)), .nils], .arr 2 (flat FuncRow.av l_22), .arr 0 [(.int .i64 nex_5.1), (.int .i64 nex_6.1), (.int .i64 nex_7.1), (.sl false 1 (List.map (avI .u8) s_10.2.2.2.2)), (.sl false 2 (List.map Save.av s_16.2.2.2.2)), (.int .i64 (I64 (nex_8.1 - 1)))]]) rfl rfl ?_
            refine E_nil ?_
            refine E_bln ?_
            refine E_nx ?_
            refine E_reg ?_
            refine E_mv (v' := (.int .i64 s_2.1)) rfl ?_
            refine E_op0 (v' := (.int .i64 (I64 (s_2.1 + 1)))) rfl rfl ?_
            refine E_mv (v' := (.int .i64 (I64 (s_2.1 + 1)))) rfl ?_
            refine E_nil ?_
            cases h
            exact L_nn rfl (wk_rn [some (0, 0), some (1, 0), some (2, 0), some (3, 0)] rfl (Nat.le_of_ble_eq_true rfl) ⟨(rn_ob rfl rfl (.cons (rn_b rfl) (.cons (rn_b rfl) (.nil (Nat.zero_le _)))) rfl), (rn_ob rfl rfl (.cons (rn_b ((encI .u8).blws 0)) (.cons (rn_b rfl) (.cons (rn_b rfl) (.nil (Nat.zero_le _))))) rfl), (rn_ob rfl rfl (.cons (rn_refL FuncRow.enc rfl rfl rfl) (.cons (rn_b rfl) (.nil (Nat.zero_le _)))) rfl), (rn_ob rfl rfl (.refl (FuncRow.enc.blwf 0 _)) rfl), trivial⟩ ⟨(rn_b ((encI .u8).blws 0)), (rn_ptr rfl rfl rfl rfl), (rn_ptr rfl rfl rfl rfl), (rn_ptr rfl rfl rfl rfl), (rn_b rfl), (rn_b rfl), trivial⟩)
      · rw [ite_f hb] at h
        refine E_exit ?_
        refine E_the ?_
        cases h
        exact L_bk rfl rfl rfl (wk_rn [some (0, 0), some (1, 0), some (2, 0), some (3, 0)] rfl (Nat.le_of_ble_eq_true rfl) ⟨(rn_ob rfl rfl (.cons (rn_b rfl) (.cons (rn_b rfl) (.nil (Nat.zero_le _)))) rfl), (rn_ob rfl rfl (.cons (rn_b ((encI .u8).blws 0)) (.cons (rn_b rfl) (.cons (rn_b rfl) (.nil (Nat.zero_le _))))) rfl), (rn_ob rfl rfl (.cons (rn_refL FuncRow.enc rfl rfl rfl) (.cons (rn_b rfl) (.nil (Nat.zero_le _)))) rfl), (rn_ob rfl rfl (.refl (FuncRow.enc.blwf 0 _)) rfl), trivial⟩ ⟨(rn_b ((encI .u8).blws 0)), (rn_ptr rfl rfl rfl rfl), (rn_ptr rfl rfl rfl rfl), (rn_ptr rfl rfl rfl rfl), (rn_b rfl), (rn_b rfl), trivial⟩)
  · refine X_nx hw ?_
    refine E_sq ?_
    refine E_reg ?_
    refine E_mv (v' := (.ptr 1 0 0)) rfl ?_
    obtain ⟨nex_23, hnex_23, h⟩ := bd_some h
    refine E_callF (S' := [.arr 0 [.nils, .nils], .arr 0 [(.sl false 1 (List.map (avI .u8) nex_23.2.1)), (.int .i64 nex_23.2.2.1), (.bool nex_23.2.2.2)], .arr 0 [(.ref 3 1 0 (List.length s_2.2.2.2.2) (some 6)), .nils], .arr 1 (flat FuncRow.av s_2.2.2.2.2)]) (r' := (.int .i64 nex_23.1)) (windlassref19_Tape_next_pNNN_ev (fuel := fuel) hnex_23) [1] rfl rfl (by decide) rfl rfl ⟨(fr_in rfl rfl (.cons (.base ((encI .u8).blws 0) (.refl _)) (.cons (.base rfl (.refl _)) (.cons (.base rfl (.refl _)) (.nil (Nat.zero_le _)))))), trivial⟩ ⟨(fr_outS rfl rfl (.cons (rn_b ((encI .u8).blws 0)) (.cons (rn_b rfl) (.cons (rn_b rfl) (.nil (Nat.zero_le _))))) rfl rfl), trivial⟩ ⟨.inr rfl, .inl rfl, .inr rfl, .inr rfl, trivial⟩ rfl (.cons (fi_ptr rfl rfl rfl rfl) (.nil (Nat.zero_le _))) (rn_b rfl) ?_
    refine E_mv (v' := (.int .i64 nex_23.1)) rfl ?_
    refine E_nil ?_
    refine E_nx ?_
    refine E_as ?_
    refine E_sq ?_
    refine E_reg ?_
    refine E_mv (v' := (.int .i64 0)) rfl ?_
    refine E_nil ?_
    refine E_nx ?_
    refine E_sq ?_
    refine E_whileO (fun s_24 => [(0, (.sl false 1 (List.map (avI .u8) b_00))), (2, (.ptr 0 0 0)), (4, (.ptr 1 0 0)), (5, (.ptr 2 0 0)), (6, (.int .i64 nex_23.1)), (14, (.int .i64 s_24.1))]) (fun s_24 => [.arr 0 [.nils, .nils], .arr 0 [(.sl false 1 (List.map (avI .u8) s_24.2.1)), (.int .i64 s_24.2.2.1), (.bool s_24.2.2.2.1)], .arr 0 [(.ref 3 1 0 (List.length s_2.2.2.2.2) (some 6)), (.ref 4 1 0 (List.length s_24.2.2.2.2) (some 2))], .arr 1 (flat FuncRow.av s_2.2.2.2.2), .arr 1 (flat Site.av s_24.2.2.2.2)]) h (wk_rn [some (0, 0), some (1, 0), some (2, 0), some (3, 0), none] rfl (Nat.le_of_ble_eq_true rfl) ⟨(rn_ob rfl rfl (.cons (rn_b rfl) (.cons (rn_b rfl) (.nil (Nat.zero_le _)))) rfl), (rn_ob rfl rfl (.cons (rn_b ((encI .u8).blws 0)) (.cons (rn_b rfl) (.cons (rn_b rfl) (.nil (Nat.zero_le _))))) rfl), (rn_ob rfl rfl (.cons (rn_refL FuncRow.enc rfl rfl rfl) (.cons (rn_nil rfl) (.nil (Nat.zero_le _)))) rfl), (rn_ob rfl rfl (.refl (FuncRow.enc.blwf 0 _)) rfl), (rn_obN rfl rfl rfl), trivial⟩ ⟨(rn_b ((encI .u8).blws 0)), (rn_ptr rfl rfl rfl rfl), (rn_ptr rfl rfl rfl rfl), (rn_ptr rfl rfl rfl rfl), (rn_b rfl), (rn_b rfl), trivial⟩) (fun s_24 c h => ?_) (fun s_24 fr' S' h hw => ?_)
    · refine E_as ?_
      refine E_jp h (fun s_26 => [(0, (.sl false 1 (List.map (avI .u8) b_00))), (2, (.ptr 0 0 0)), (4, (.ptr 1 0 0)), (5, (.ptr 2 0 0)), (6, (.int .i64 nex_23.1)), (14, (.int .i64 s_24.1)), (116, (.bool s_26))]) (fun s_26 => [.arr 0 [.nils, .nils], .arr 0 [(.sl false 1 (List.map (avI .u8) s_24.2.1)), (.int .i64 s_24.2.2.1), (.bool s_24.2.2.2.1)], .arr 0 [(.ref 3 1 0 (List.length s_2.2.2.2.2) (some 6)), (.ref 4 1 0 (List.length s_24.2.2.2.2) (some 2))], .arr 1 (flat FuncRow.av s_2.2.2.2.2), .arr 1 (flat Site.av s_24.2.2.2.2)]) (fun k_25 h => ?_) (fun s_26 h => ?_)
      · refine E_reg ?_
        refine E_mv (v' := (.int .i64 s_24.1)) rfl ?_
        refine E_mv (v' := (.int .i64 nex_23.1)) rfl ?_
        refine E_op0 (v' := (.bool (decide (s_24.1 < nex_23.1)))) rfl rfl ?_
        refine E_mv (v' := (.bool (decide (s_24.1 < nex_23.1)))) rfl ?_
        refine E_gsT (b := (decide (s_24.1 < nex_23.1))) rfl rfl rfl (fun hb => ?_) (fun hb => ?_)
        · rw [ite_t hb] at h
          refine E_mv (v' := (.ptr 1 0 0)) rfl ?_
          refine E_gh rfl ?_
          refine E_op0 (v' := (.ptr 1 0 0)) rfl rfl ?_
          refine E_gh rfl ?_
          refine E_op0 (v' := (.ptr 1 0 2)) rfl rfl ?_
          refine E_gh rfl ?_
          refine E_op (v' := (.bool s_24.2.2.2.1)) (S' := [.arr 0 [.nils, .nils], .arr 0 [(.sl false 1 (List.map (avI .u8) s_24.2.1)), (.int .i64 s_24.2.2.1), (.bool s_24.2.2.2.1)], .arr 0 [(.ref 3 1 0 (List.length s_2.2.2.2.2) (some 6)), (.ref 4 1 0 (List.length s_24.2.2.2.2) (some 2))], .arr 1 (flat FuncRow.av s_2.2.2.2.2), .arr 1 (flat Site.av s_24.2.2.2.2)]) rfl rfl rfl ?_
          refine E_gh rfl ?_
          refine E_op0 (v' := (.bool (!s_24.2.2.2.1))) rfl rfl ?_
          refine E_pt rfl rfl ?_
          refine E_nil ?_
          exact E_jx _ h (wk_rn [some (0, 0), some (1, 0), some (2, 0), some (3, 0), some (4, 0)] rfl (Nat.le_of_ble_eq_true rfl) ⟨(rn_ob rfl rfl (.cons (rn_b rfl) (.cons (rn_b rfl) (.nil (Nat.zero_le _)))) rfl), (rn_ob rfl rfl (.cons (rn_b ((encI .u8).blws 0)) (.cons (rn_b rfl) (.cons (rn_b rfl) (.nil (Nat.zero_le _))))) rfl), (rn_ob rfl rfl (.cons (rn_refL FuncRow.enc rfl rfl rfl) (.cons (rn_refL Site.enc rfl rfl rfl) (.nil (Nat.zero_le _)))) rfl), (rn_ob rfl rfl (.refl (FuncRow.enc.blwf 0 _)) rfl), (rn_ob rfl rfl (.refl (Site.enc.blwf 0 _)) rfl), trivial⟩ ⟨(rn_b ((encI .u8).blws 0)), (rn_ptr rfl rfl rfl rfl), (rn_ptr rfl rfl rfl rfl), (rn_ptr rfl rfl rfl rfl), (rn_b rfl), (rn_b rfl), (rn_b rfl), trivial⟩)
        · rw [ite_f hb] at h
          refine E_gm rfl ?_
          refine E_gm rfl ?_
          refine E_gm rfl ?_
          refine E_gm rfl ?_
          refine E_pf rfl rfl ?_
          refine E_nil ?_
          exact E_jx _ h (wk_rn [some (0, 0), some (1, 0), some (2, 0), some (3, 0), some (4, 0)] rfl (Nat.le_of_ble_eq_true rfl) ⟨(rn_ob rfl rfl (.cons (rn_b rfl) (.cons (rn_b rfl) (.nil (Nat.zero_le _)))) rfl), (rn_ob rfl rfl (.cons (rn_b ((encI .u8).blws 0)) (.cons (rn_b rfl) (.cons (rn_b rfl) (.nil (Nat.zero_le _))))) rfl), (rn_ob rfl rfl (.cons (rn_refL FuncRow.enc rfl rfl rfl) (.cons (rn_refL Site.enc rfl rfl rfl) (.nil (Nat.zero_le _)))) rfl), (rn_ob rfl rfl (.refl (FuncRow.enc.blwf 0 _)) rfl), (rn_ob rfl rfl (.refl (Site.enc.blwf 0 _)) rfl), trivial⟩ ⟨(rn_b ((encI .u8).blws 0)), (rn_ptr rfl rfl rfl rfl), (rn_ptr rfl rfl rfl rfl), (rn_ptr rfl rfl rfl rfl), (rn_b rfl), (rn_b rfl), (rn_b rfl), trivial⟩)
      · refine E_sq ?_
        refine E_cs (t := s_26) rfl (fun hb => ?_) (fun hb => ?_)
        · rw [ite_t hb] at h
          refine E_skip ?_
          refine E_nx ?_
          refine E_sq ?_
          refine E_block ?_
          refine E_sq ?_
          refine E_reg ?_
          refine E_mv (v' := (.ptr 1 0 0)) rfl ?_
          obtain ⟨nex_27, hnex_27, h⟩ := bd_some h
          refine E_callF (S' := [.arr 0 [.nils, .nils], .arr 0 [(.sl false 1 (List.map (avI .u8) nex_27.2.1)), (.int .i64 nex_27.2.2.1), (.bool nex_27.2.2.2)], .arr 0 [(.ref 3 1 0 (List.length s_2.2.2.2.2) (some 6)), (.ref 4 1 0 (List.length s_24.2.2.2.2) (some 2))], .arr 1 (flat FuncRow.av s_2.2.2.2.2), .arr 1 (flat Site.av s_24.2.2.2.2)]) (r' := (.int .i64 nex_27.1)) (windlassref19_Tape_next_pNNN_ev (fuel := fuel) hnex_27) [1] rfl rfl (by decide) rfl rfl ⟨(fr_in rfl rfl (.cons (.base ((encI .u8).blws 0) (.refl _)) (.cons (.base rfl (.refl _)) (.cons (.base rfl (.refl _)) (.nil (Nat.zero_le _)))))), trivial⟩ ⟨(fr_outS rfl rfl (.cons (rn_b ((encI .u8).blws 0)) (.cons (rn_b rfl) (.cons (rn_b rfl) (.nil (Nat.zero_le _))))) rfl rfl), trivial⟩ ⟨.inr rfl, .inl rfl, .inr rfl, .inr rfl, .inr rfl, trivial⟩ rfl (.cons (fi_ptr rfl rfl rfl rfl) (.nil (Nat.zero_le _))) (rn_b rfl) ?_
          refine E_op0 (v' := (.agg [(.int .i64 nex_27.1), .nils])) rfl rfl ?_
          refine E_op (v' := .ptr 5 0 0) (S' := [.arr 0 [.nils, .nils], .arr 0 [(.sl false 1 (List.map (avI .u8) nex_27.2.1)), (.int .i64 nex_27.2.2.1), (.bool nex_27.2.2.2)], .arr 0 [(.ref 3 1 0 (List.length s_2.2.2.2.2) (some 6)), (.ref 4 1 0 (List.length s_24.2.2.2.2) (some 2))], .arr 1 (flat FuncRow.av s_2.2.2.2.2), .arr 1 (flat Site.av s_24.2.2.2.2), .arr 0 [(.int .i64 0), .nils]]) rfl rfl rfl ?_
          refine E_do (S' := [.arr 0 [.nils, .nils], .arr 0 [(.sl false 1 (List.map (avI .u8) nex_27.2.1)), (.int .i64 nex_27.2.2.1), (.bool nex_27.2.2.2)], .arr 0 [(.ref 3 1 0 (List.length s_2.2.2.2.2) (some 6)), (.ref 4 1 0 (List.length s_24.2.2.2.2) (some 2))], .arr 1 (flat FuncRow.av s_2.2.2.2.2), .arr 1 (flat Site.av s_24.2.2.2.2), .arr 0 [(.int .i64 nex_27.1), .nils]]) rfl rfl ?_
          refine E_nil ?_
          refine E_nx ?_
          refine E_sq ?_
          refine E_reg ?_
          refine E_mv (v' := (.ptr 1 0 0)) rfl ?_
          obtain ⟨nex_28, hnex_28, h⟩ := bd_some h
          refine E_callF (S' := [.arr 0 [.nils, .nils], .arr 0 [(.sl false 1 (List.map (avI .u8) nex_28.2.1)), (.int .i64 nex_28.2.2.1), (.bool nex_28.2.2.2)], .arr 0 [(.ref 3 1 0 (List.length s_2.2.2.2.2) (some 6)), (.ref 4 1 0 (List.length s_24.2.2.2.2) (some 2))], .arr 1 (flat FuncRow.av s_2.2.2.2.2), .arr 1 (flat Site.av s_24.2.2.2.2), .arr 0 [(.int .i64 nex_27.1), .nils]]) (r' := (.int .i64 nex_28.1)) (windlassref19_Tape_next_pNNN_ev (fuel := fuel) hnex_28) [1] rfl rfl (by decide) rfl rfl ⟨(fr_in rfl rfl (.cons (.base ((encI .u8).blws 0) (.refl _)) (.cons (.base rfl (.refl _)) (.cons (.base rfl (.refl _)) (.nil (Nat.zero_le _)))))), trivial⟩ ⟨(fr_outS rfl rfl (.cons (rn_b ((encI .u8).blws 0)) (.cons (rn_b rfl) (.cons (rn_b rfl) (.nil (Nat.zero_le _))))) rfl rfl), trivial⟩ ⟨.inr rfl, .inl rfl, .inr rfl, .inr rfl, .inr rfl, .inr rfl, trivial⟩ rfl (.cons (fi_ptr rfl rfl rfl rfl) (.nil (Nat.zero_le _))) (rn_b rfl) ?_
          refine E_mv (v' := (.int .i64 nex_28.1)) rfl ?_
          refine E_nil ?_
          refine E_nx ?_
          refine E_as ?_
          refine E_sq ?_
          refine E_reg ?_
          refine E_mv (v' := (.int .i64 0)) rfl ?_
          refine E_nil ?_
          refine E_nx ?_
          refine E_sq ?_
          refine E_whileO (fun s_29 => [(0, (.sl false 1 (List.map (avI .u8) b_00))), (2, (.ptr 0 0 0)), (4, (.ptr 1 0 0)), (5, (.ptr 2 0 0)), (6, (.int .i64 nex_23.1)), (14, (.int .i64 s_24.1)), (15, (.ptr 5 0 0)), (16, (.int .i64 nex_28.1)), (17, (.int .i64 s_29.1))]) (fun s_29 => [.arr 0 [.nils, .nils], .arr 0 [(.sl false 1 (List.map (avI .u8) s_29.2.1)), (.int .i64 s_29.2.2.1), (.bool s_29.2.2.2.1)], .arr 0 [(.ref 3 1 0 (List.length s_2.2.2.2.2) (some 6)), (.ref 4 1 0 (List.length s_24.2.2.2.2) (some 2))], .arr 1 (flat FuncRow.av s_2.2.2.2.2), .arr 1 (flat Site.av s_24.2.2.2.2), .arr 0 [(.int .i64 nex_27.1), (.ref 6 1 0 (List.length s_29.2.2.2.2) none)], .arr 1 (flat (avI .i64) s_29.2.2.2.2)]) h (wk_rn [some (0, 0), some (1, 0), some (2, 0), some (3, 0), some (4, 0), some (5, 0), none] rfl (Nat.le_of_ble_eq_true rfl) ⟨(rn_ob rfl rfl (.cons (rn_b rfl) (.cons (rn_b rfl) (.nil (Nat.zero_le _)))) rfl), (rn_ob rfl rfl (.cons (rn_b ((encI .u8).blws 0)) (.cons (rn_b rfl) (.cons (rn_b rfl) (.nil (Nat.zero_le _))))) rfl), (rn_ob rfl rfl (.cons (rn_refL FuncRow.enc rfl rfl rfl) (.cons (rn_refL Site.enc rfl rfl rfl) (.nil (Nat.zero_le _)))) rfl), (rn_ob rfl rfl (.refl (FuncRow.enc.blwf 0 _)) rfl), (rn_ob rfl rfl (.refl (Site.enc.blwf 0 _)) rfl), (rn_ob rfl rfl (.cons (rn_b rfl) (.cons (rn_nil rfl) (.nil (Nat.zero_le _)))) rfl), (rn_obN rfl rfl rfl), trivial⟩ ⟨(rn_b ((encI .u8).blws 0)), (rn_ptr rfl rfl rfl rfl), (rn_ptr rfl rfl rfl rfl), (rn_ptr rfl rfl rfl rfl), (rn_b rfl), (rn_b rfl), (rn_ptr rfl rfl rfl rfl), (rn_b rfl), (rn_b rfl), trivial⟩) (fun s_29 c h => ?_) (fun s_29 fr' S' h hw => ?_)
          · refine E_as ?_
            refine E_jp h (fun s_31 => [(0, (.sl false 1 (List.map (avI .u8) b_00))), (2, (.ptr 0 0 0)), (4, (.ptr 1 0 0)), (5, (.ptr 2 0 0)), (6, (.int .i64 nex_23.1)), (14, (.int .i64 s_24.1)), (15, (.ptr 5 0 0)), (16, (.int .i64 nex_28.1)), (17, (.int .i64 s_29.1)), (133, (.bool s_31))]) (fun s_31 => [.arr 0 [.nils, .nils], .arr 0 [(.sl false 1 (List.map (avI .u8) s_29.2.1)), (.int .i64 s_29.2.2.1), (.bool s_29.2.2.2.1)], .arr 0 [(.ref 3 1 0 (List.length s_2.2.2.2.2) (some 6)), (.ref 4 1 0 (List.length s_24.2.2.2.2) (some 2))], .arr 1 (flat FuncRow.av s_2.2.2.2.2), .arr 1 (flat Site.av s_24.2.2.2.2), .arr 0 [(.int .i64 nex_27.1), (.ref 6 1 0 (List.length s_29.2.2.2.2) none)], .arr 1 (flat (avI .i64) s_29.2.2.2.2)]) (fun k_30 h => ?_) (fun s_31 h => ?_)
            · refine E_reg ?_
              refine E_mv (v' := (.int .i64 s_29.1)) rfl ?_
              refine E_mv (v' := (.int .i64 nex_28.1)) rfl ?_
              refine E_op0 (v' := (.bool (decide (s_29.1 < nex_28.1)))) rfl rfl ?_
              refine E_mv (v' := (.bool (decide (s_29.1 < nex_28.1)))) rfl ?_
              refine E_gsT (b := (decide (s_29.1 < nex_28.1))) rfl rfl rfl (fun hb => ?_) (fun hb => ?_)
              · rw [ite_t hb] at h
                refine E_mv (v' := (.ptr 1 0 0)) rfl ?_
                refine E_gh rfl ?_
                refine E_op0 (v' := (.ptr 1 0 0)) rfl rfl ?_
                refine E_gh rfl ?_
                refine E_op0 (v' := (.ptr 1 0 2)) rfl rfl ?_
                refine E_gh rfl ?_
                refine E_op (v' := (.bool s_29.2.2.2.1)) (S' := [.arr 0 [.nils, .nils], .arr 0 [(.sl false 1 (List.map (avI .u8) s_29.2.1)), (.int .i64 s_29.2.2.1), (.bool s_29.2.2.2.1)], .arr 0 [(.ref 3 1 0 (List.length s_2.2.2.2.2) (some 6)), (.ref 4 1 0 (List.length s_24.2.2.2.2) (some 2))], .arr 1 (flat FuncRow.av s_2.2.2.2.2), .arr 1 (flat Site.av s_24.2.2.2.2), .arr 0 [(.int .i64 nex_27.1), (.ref 6 1 0 (List.length s_29.2.2.2.2) none)], .arr 1 (flat (avI .i64) s_29.2.2.2.2)]) rfl rfl rfl ?_
                refine E_gh rfl ?_
                refine E_op0 (v' := (.bool (!s_29.2.2.2.1))) rfl rfl ?_
                refine E_pt rfl rfl ?_
                refine E_nil ?_
                exact E_jx _ h (wk_rn [some (0, 0), some (1, 0), some (2, 0), some (3, 0), some (4, 0), some (5, 0), some (6, 0)] rfl (Nat.le_of_ble_eq_true rfl) ⟨(rn_ob rfl rfl (.cons (rn_b rfl) (.cons (rn_b rfl) (.nil (Nat.zero_le _)))) rfl), (rn_ob rfl rfl (.cons (rn_b ((encI .u8).blws 0)) (.cons (rn_b rfl) (.cons (rn_b rfl) (.nil (Nat.zero_le _))))) rfl), (rn_ob rfl rfl (.cons (rn_refL FuncRow.enc rfl rfl rfl) (.cons (rn_refL Site.enc rfl rfl rfl) (.nil (Nat.zero_le _)))) rfl), (rn_ob rfl rfl (.refl (FuncRow.enc.blwf 0 _)) rfl), (rn_ob rfl rfl (.refl (Site.enc.blwf 0 _)) rfl), (rn_ob rfl rfl (.cons (rn_b rfl) (.cons (rn_refL (encI .i64) rfl rfl rfl) (.nil (Nat.zero_le _)))) rfl), (rn_ob rfl rfl (.refl ((encI .i64).blwf 0 _)) rfl), trivial⟩ ⟨(rn_b ((encI .u8).blws 0)), (rn_ptr rfl rfl rfl rfl), (rn_ptr rfl rfl rfl rfl), (rn_ptr rfl rfl rfl rfl), (rn_b rfl), (rn_b rfl), (rn_ptr rfl rfl rfl rfl), (rn_b rfl), (rn_b rfl), (rn_b rfl), trivial⟩)
              · rw [ite_f hb] at h
                refine E_gm rfl ?_
                refine E_gm rfl ?_
                refine E_gm rfl ?_
                refine E_gm rfl ?_
                refine E_pf rfl rfl ?_
                refine E_nil ?_
                exact E_jx _ h (wk_rn [some (0, 0), some (1, 0), some (2, 0), some (3, 0), some (4, 0), some (5, 0), some (6, 0)] rfl (Nat.le_of_ble_eq_true rfl) ⟨(rn_ob rfl rfl (.cons (rn_b rfl) (.cons (rn_b rfl) (.nil (Nat.zero_le _)))) rfl), (rn_ob rfl rfl (.cons (rn_b ((encI .u8).blws 0)) (.cons (rn_b rfl) (.cons (rn_b rfl) (.nil (Nat.zero_le _))))) rfl), (rn_ob rfl rfl (.cons (rn_refL FuncRow.enc rfl rfl rfl) (.cons (rn_refL Site.enc rfl rfl rfl) (.nil (Nat.zero_le _)))) rfl), (rn_ob rfl rfl (.refl (FuncRow.enc.blwf 0 _)) rfl), (rn_ob rfl rfl (.refl (Site.enc.blwf 0 _)) rfl), (rn_ob rfl rfl (.cons (rn_b rfl) (.cons (rn_refL (encI .i64) rfl rfl rfl) (.nil (Nat.zero_le _)))) rfl), (rn_ob rfl rfl (.refl ((encI .i64).blwf 0 _)) rfl), trivial⟩ ⟨(rn_b ((encI .u8).blws 0)), (rn_ptr rfl rfl rfl rfl), (rn_ptr rfl rfl rfl rfl), (rn_ptr rfl rfl rfl rfl), (rn_b rfl), (rn_b rfl), (rn_ptr rfl rfl rfl rfl), (rn_b rfl), (rn_b rfl), (rn_b rfl), trivial⟩)
            · refine E_sq ?_
              refine E_cs (t := s_31) rfl (fun hb => ?_) (fun hb => ?_)
              · rw [ite_t hb] at h
                refine E_skip ?_
                refine E_nx ?_
                refine E_sq ?_
                refine E_block ?_
                refine E_regp ?_
                refine E_op0 (v' := (.ptr 5 0 1)) rfl rfl ?_
                refine E_op (v' := (.ref 6 1 0 (List.length s_29.2.2.2.2) none)) (S' := [.arr 0 [.nils, .nils], .arr 0 [(.sl false 1 (List.map (avI .u8) s_29.2.1)), (.int .i64 s_29.2.2.1), (.bool s_29.2.2.2.1)], .arr 0 [(.ref 3 1 0 (List.length s_2.2.2.2.2) (some 6)), (.ref 4 1 0 (List.length s_24.2.2.2.2) (some 2))], .arr 1 (flat FuncRow.av s_2.2.2.2.2), .arr 1 (flat Site.av s_24.2.2.2.2), .arr 0 [(.int .i64 nex_27.1), (.ref 6 1 0 (List.length s_29.2.2.2.2) none)], .arr 1 (flat (avI .i64) s_29.2.2.2.2)]) rfl rfl rfl ?_
                refine E_mv (v' := (.ptr 1 0 0)) rfl ?_
                obtain ⟨nex_32, hnex_32, h⟩ := bd_some h
                refine E_callF (S' := [.arr 0 [.nils, .nils], .arr 0 [(.sl false 1 (List.map (avI .u8) nex_32.2.1)), (.int .i64 nex_32.2.2.1), (.bool nex_32.2.2.2)], .arr 0 [(.ref 3 1 0 (List.length s_2.2.2.2.2) (some 6)), (.ref 4 1 0 (List.length s_24.2.2.2.2) (some 2))], .arr 1 (flat FuncRow.av s_2.2.2.2.2), .arr 1 (flat Site.av s_24.2.2.2.2), .arr 0 [(.int .i64 nex_27.1), (.ref 6 1 0 (List.length s_29.2.2.2.2) none)], .arr 1 (flat (avI .i64) s_29.2.2.2.2)]) (r' := (.int .i64 nex_32.1)) (windlassref19_Tape_next_pNNN_ev (fuel := fuel) hnex_32) [1] rfl rfl (by decide) rfl rfl ⟨(fr_in rfl rfl (.cons (.base ((encI .u8).blws 0) (.refl _)) (.cons (.base rfl (.refl _)) (.cons (.base rfl (.refl _)) (.nil (Nat.zero_le _)))))), trivial⟩ ⟨(fr_outS rfl rfl (.cons (rn_b ((encI .u8).blws 0)) (.cons (rn_b rfl) (.cons (rn_b rfl) (.nil (Nat.zero_le _))))) rfl rfl), trivial⟩ ⟨.inr rfl, .inl rfl, .inr rfl, .inr rfl, .inr rfl, .inr rfl, .inr rfl, trivial⟩ rfl (.cons (fi_ptr rfl rfl rfl rfl) (.nil (Nat.zero_le _))) (rn_b rfl) ?_
                refine E_opw (v' := (.sl true 1 (List.map (avI .i64) [nex_32.1]))) rfl (.refl _) rfl ?_
                obtain ⟨l_33, hl_33, h⟩ := bd_some h
                refine E_apL (S' := [.arr 0 [.nils, .nils], .arr 0 [(.sl false 1 (List.map (avI .u8) nex_32.2.1)), (.int .i64 nex_32.2.2.1), (.bool nex_32.2.2.2)], .arr 0 [(.ref 3 1 0 (List.length s_2.2.2.2.2) (some 6)), (.ref 4 1 0 (List.length s_24.2.2.2.2) (some 2))], .arr 1 (flat FuncRow.av s_2.2.2.2.2), .arr 1 (flat Site.av s_24.2.2.2.2), .arr 0 [(.int .i64 nex_27.1), (.ref 6 1 0 (List.length s_29.2.2.2.2) none)], .arr 2 (flat (avI .i64) l_33)]) (encI .i64) rfl (src_sl [nex_32.1]) rfl hl_33 rfl ?_
                refine E_op0 (v' := (.ptr 5 0 1)) rfl rfl ?_
                refine E_do (S' := [.arr 0 [.nils, .nils], .arr 0 [(.sl false 1 (List.map (avI .u8) nex_32.2.1)), (.int .i64 nex_32.2.2.1), (.bool nex_32.2.2.2)], .arr 0 [(.ref 3 1 0 (List.length s_2.2.2.2.2) (some 6)), (.ref 4 1 0 (List.length s_24.2.2.2.2) (some 2))], .arr 1 (flat FuncRow.av s_2.2.2.2.2), .arr 1 (flat Site.av s_24.2.2.2.2), .arr 0 [(.int .i64 nex_27.1), (.ref 6 2 0 (List.length l_33) none)], .arr 2 (flat (avI .i64) l_33)]) rfl rfl ?_
                refine E_nil ?_
                refine And.intro (by simp [okLog, nthL, okPair, hp, fpOf]) ?_
                refine E_bln ?_
                refine E_nx ?_
                refine E_reg ?_
                refine E_mv (v' := (.int .i64 s_29.1)) rfl ?_
                refine E_op0 (v' := (.int .i64 (I64 (s_29.1 + 1)))) rfl rfl ?_
                refine E_mv (v' := (.int .i64 (I64 (s_29.1 + 1)))) rfl ?_
                refine E_nil ?_
                cases h
                exact L_nn rfl (wk_rn [some (0, 0), some (1, 0), some (2, 0), some (3, 0), some (4, 0), some (5, 0), some (6, 0)] rfl (Nat.le_of_ble_eq_true rfl) ⟨(rn_ob rfl rfl (.cons (rn_b rfl) (.cons (rn_b rfl) (.nil (Nat.zero_le _)))) rfl), (rn_ob rfl rfl (.cons (rn_b ((encI .u8).blws 0)) (.cons (rn_b rfl) (.cons (rn_b rfl) (.nil (Nat.zero_le _))))) rfl), (rn_ob rfl rfl (.cons (rn_refL FuncRow.enc rfl rfl rfl) (.cons (rn_refL Site.enc rfl rfl rfl) (.nil (Nat.zero_le _)))) rfl), (rn_ob rfl rfl (.refl (FuncRow.enc.blwf 0 _)) rfl), (rn_ob rfl rfl (.refl (Site.enc.blwf 0 _)) rfl), (rn_ob rfl rfl (.cons (rn_b rfl) (.cons (rn_refL (encI .i64) rfl rfl rfl) (.nil (Nat.zero_le _)))) rfl), (rn_ob rfl rfl (.refl ((encI .i64).blwf 0 _)) rfl), trivial⟩ ⟨(rn_b ((encI .u8).blws 0)), (rn_ptr rfl rfl rfl rfl), (rn_ptr rfl rfl rfl rfl), (rn_ptr rfl rfl rfl rfl), (rn_b rfl), (rn_b rfl), (rn_ptr rfl rfl rfl rfl), (rn_b rfl), (rn_b rfl), trivial⟩)
              · rw [ite_f hb] at h
                refine E_exit ?_
                refine E_the ?_
                cases h
                exact L_bk rfl rfl rfl (wk_rn [some (0, 0), some (1, 0), some (2, 0), some (3, 0), some (4, 0), some (5, 0), some (6, 0)] rfl (Nat.le_of_ble_eq_true rfl) ⟨(rn_ob rfl rfl (.cons (rn_b rfl) (.cons (rn_b rfl) (.nil (Nat.zero_le _)))) rfl), (rn_ob rfl rfl (.cons (rn_b ((encI .u8).blws 0)) (.cons (rn_b rfl) (.cons (rn_b rfl) (.nil (Nat.zero_le _))))) rfl), (rn_ob rfl rfl (.cons (rn_refL FuncRow.enc rfl rfl rfl) (.cons (rn_refL Site.enc rfl rfl rfl) (.nil (Nat.zero_le _)))) rfl), (rn_ob rfl rfl (.refl (FuncRow.enc.blwf 0 _)) rfl), (rn_ob rfl rfl (.refl (Site.enc.blwf 0 _)) rfl), (rn_ob rfl rfl (.cons (rn_b rfl) (.cons (rn_refL (encI .i64) rfl rfl rfl) (.nil (Nat.zero_le _)))) rfl), (rn_ob rfl rfl (.refl ((encI .i64).blwf 0 _)) rfl), trivial⟩ ⟨(rn_b ((encI .u8).blws 0)), (rn_ptr rfl rfl rfl rfl), (rn_ptr rfl rfl rfl rfl), (rn_ptr rfl rfl rfl rfl), (rn_b rfl), (rn_b rfl), (rn_ptr rfl rfl rfl rfl), (rn_b rfl), (rn_b rfl), trivial⟩)
          · refine E_nxw (F := [(0, (.sl false 1 (List.map (avI .u8) b_00))), (2, (.ptr 0 0 0)), (4, (.ptr 1 0 0)), (5, (.ptr 2 0 0)), (6, (.int .i64 nex_23.1)), (14, (.int .i64 s_24.1)), (15, (.ptr 5 0 0))]) (T := [.arr 0 [.nils, .nils], .arr 0 [(.sl false 1 (List.map (avI .u8) s_29.2.1)), (.int .i64 s_29.2.2.1), (.bool s_29.2.2.2.1)], .arr 0 [(.ref 3 1 0 (List.length s_2.2.2.2.2) (some 6)), (.ref 4 1 0 (List.length s_24.2.2.2.2) (some 2))], .arr 1 (flat FuncRow.av s_2.2.2.2.2), .arr 1 (flat Site.av s_24.2.2.2.2), .arr 0 [(.int .i64 nex_27.1), (.sl false 1 (List.map (avI .i64) s_29.2.2.2.2))]]) (wk_trans hw (wk_trans (fr'' := [(0, (.sl false 1 (List.map (avI .u8) b_00))), (2, (.ptr 0 0 0)), (4, (.ptr 1 0 0)), (5, (.ptr 2 0 0)), (6, (.int .i64 nex_23.1)), (14, (.int .i64 s_24.1)), (15, (.ptr 5 0 0))]) (S'' := [.arr 0 [.nils, .nils], .arr 0 [(.sl false 1 (List.map (avI .u8) s_29.2.1)), (.int .i64 s_29.2.2.1), (.bool s_29.2.2.2.1)], .arr 0 [(.ref 3 1 0 (List.length s_2.2.2.2.2) (some 6)), (.ref 4 1 0 (List.length s_24.2.2.2.2) (some 2))], .arr 1 (flat FuncRow.av s_2.2.2.2.2), .arr 1 (flat Site.av s_24.2.2.2.2), .arr 0 [(.int .i64 nex_27.1), (.sl false 1 (List.map (avI .i64) s_29.2.2.2.2))]]) (wk_rn (fr' := [(0, (.sl false 1 (List.map (avI .u8) b_00))), (2, (.ptr 0 0 0)), (4, (.ptr 1 0 0)), (5, (.ptr 2 0 0)), (6, (.int .i64 nex_23.1)), (14, (.int .i64 s_24.1)), (15, (.ptr 5 0 0))]) (S' := [.arr 0 [.nils, .nils], .arr 0 [(.sl false 1 (List.map (avI .u8) s_29.2.1)), (.int .i64 s_29.2.2.1), (.bool s_29.2.2.2.1)], .arr 0 [(.ref 3 1 0 (List.length s_2.2.2.2.2) (some 6)), (.ref 4 1 0 (List.length s_24.2.2.2.2) (some 2))], .arr 1 (flat FuncRow.av s_2.2.2.2.2), .arr 1 (flat Site.av s_24.2.2.2.2), .arr 0 [(.int .i64 nex_27.1), (.ref 6 1 0 (List.length s_29.2.2.2.2) none)], .arr 1 (flat (avI .i64) s_29.2.2.2.2)]) [some (0, 0), some (1, 0), some (2, 0), some (3, 0), some (4, 0), some (5, 0), some (6, 0)] rfl (Nat.le_of_ble_eq_true rfl) ⟨(rn_ob rfl rfl (.cons (rn_b rfl) (.cons (rn_b rfl) (.nil (Nat.zero_le _)))) rfl), (rn_ob rfl rfl (.cons (rn_b ((encI .u8).blws 0)) (.cons (rn_b rfl) (.cons (rn_b rfl) (.nil (Nat.zero_le _))))) rfl), (rn_ob rfl rfl (.cons (rn_refL FuncRow.enc rfl rfl rfl) (.cons (rn_refL Site.enc rfl rfl rfl) (.nil (Nat.zero_le _)))) rfl), (rn_ob rfl rfl (.refl (FuncRow.enc.blwf 0 _)) rfl), (rn_ob rfl rfl (.refl (Site.enc.blwf 0 _)) rfl), (rn_ob rfl rfl (.cons (rn_b rfl) (.cons (rn_refL (encI .i64) rfl rfl rfl) (.nil (Nat.zero_le _)))) rfl), (rn_ob rfl rfl (.refl ((encI .i64).blwf 0 _)) rfl), trivial⟩ ⟨(rn_b ((encI .u8).blws 0)), (rn_ptr rfl rfl rfl rfl), (rn_ptr rfl rfl rfl rfl), (rn_ptr rfl rfl rfl rfl), (rn_b rfl), (rn_b rfl), (rn_ptr rfl rfl rfl rfl), trivial⟩) (wk_fz 6 6 rfl ⟨⟨rfl, ⟨(fz_b rfl (.refl _)), (fz_b rfl (.refl _)), trivial⟩⟩, ⟨rfl, ⟨(fz_b ((encI .u8).blws 6) (.refl _)), (fz_b rfl (.refl _)), (fz_b rfl (.refl _)), trivial⟩⟩, ⟨rfl, ⟨(fz_b rfl (.refl _)), (fz_b rfl (.refl _)), trivial⟩⟩, ⟨rfl, fzL_id (FuncRow.enc.blwf 6 _)⟩, ⟨rfl, fzL_id (Site.enc.blwf 6 _)⟩, ⟨rfl, ⟨(fz_b rfl (.refl _)), (fz_ref (encI .i64) (Nat.le_of_ble_eq_true rfl) rfl), trivial⟩⟩, trivial⟩ ⟨(fz_b ((encI .u8).blws 6) (.refl _)), (fz_b rfl (.refl _)), (fz_b rfl (.refl _)), (fz_b rfl (.refl _)), (fz_b rfl (.refl _)), (fz_b rfl (.refl _)), (fz_b rfl (.refl _)), trivial⟩))) ?_
            refine E_reg ?_
            refine E_op0 (v' := (.ptr 2 0 1)) rfl rfl ?_
            refine E_op (v' := (.ref 4 1 0 (List.length s_24.2.2.2.2) (some 2))) (S' := [.arr 0 [.nils, .nils], .arr 0 [(.sl false 1 (List.map (avI .u8) s_29.2.1)), (.int .i64 s_29.2.2.1), (.bool s_29.2.2.2.1)], .arr 0 [(.ref 3 1 0 (List.length s_2.2.2.2.2) (some 6)), (.ref 4 1 0 (List.length s_24.2.2.2.2) (some 2))], .arr 1 (flat FuncRow.av s_2.2.2.2.2), .arr 1 (flat Site.av s_24.2.2.2.2), .arr 0 [(.int .i64 nex_27.1), (.sl false 1 (List.map (avI .i64) s_29.2.2.2.2))]]) rfl rfl rfl ?_
            refine E_opw (v' := (Site.av (Site.mk nex_27.1 s_29.2.2.2.2))) rfl (.aggL ⟨(.refl _), (.refl _), trivial⟩) rfl ?_
            refine E_opw (v' := (.sl true 2 (List.map Site.av [(Site.mk nex_27.1 s_29.2.2.2.2)]))) rfl (.refl _) rfl ?_
            obtain ⟨l_34, hl_34, h⟩ := bd_some h
            refine E_apL (S' := [.arr 0 [.nils, .nils], .arr 0 [(.sl false 1 (List.map (avI .u8) s_29.2.1)), (.int .i64 s_29.2.2.1), (.bool s_29.2.2.2.1)], .arr 0 [(.ref 3 1 0 (List.length s_2.2.2.2.2) (some 6)), (.ref 4 1 0 (List.length s_24.2.2.2.2) (some 2))], .arr 1 (flat FuncRow.av s_2.2.2.2.2), .arr 2 (flat Site.av l_34), .arr 0 [(.int .i64 nex_27.1), (.sl false 1 (List.map (avI .i64) s_29.2.2.2.2))]]) Site.enc rfl (src_sl [(Site.mk nex_27.1 s_29.2.2.2.2)]) rfl hl_34 rfl ?_
            refine E_op0 (v' := (.ptr 2 0 1)) rfl rfl ?_
            refine E_do (S' := [.arr 0 [.nils, .nils], .arr 0 [(.sl false 1 (List.map (avI .u8) s_29.2.1)), (.int .i64 s_29.2.2.1), (.bool s_29.2.2.2.1)], .arr 0 [(.ref 3 1 0 (List.length s_2.2.2.2.2) (some 6)), (.ref 4 2 0 (List.length l_34) (some 2))], .arr 1 (flat FuncRow.av s_2.2.2.2.2), .arr 2 (flat Site.av l_34), .arr 0 [(.int .i64 nex_27.1), (.sl false 1 (List.map (avI .i64) s_29.2.2.2.2))]]) rfl rfl ?_
            refine E_nil ?_
            refine E_bln ?_
            refine E_nx ?_
            refine E_reg ?_
            refine E_mv (v' := (.int .i64 s_24.1)) rfl ?_
            refine E_op0 (v' := (.int .i64 (I64 (s_24.1 + 1)))) rfl rfl ?_
            refine E_mv (v' := (.int .i64 (I64 (s_24.1 + 1)))) rfl ?_
            refine E_nil ?_
            cases h
            exact L_nn rfl (wk_rn [some (0, 0), some (1, 0), some (2, 0), some (3, 0), some (4, 0)] rfl (Nat.le_of_ble_eq_true rfl) ⟨(rn_ob rfl rfl (.cons (rn_b rfl) (.cons (rn_b rfl) (.nil (Nat.zero_le _)))) rfl), (rn_ob rfl rfl (.cons (rn_b ((encI .u8).blws 0)) (.cons (rn_b rfl) (.cons (rn_b rfl) (.nil (Nat.zero_le _))))) rfl), (rn_ob rfl rfl (.cons (rn_refL FuncRow.enc rfl rfl rfl) (.cons (rn_refL Site.enc rfl rfl rfl) (.nil (Nat.zero_le _)))) rfl), (rn_ob rfl rfl (.refl (FuncRow.enc.blwf 0 _)) rfl), (rn_ob rfl rfl (.refl (Site.enc.blwf 0 _)) rfl), trivial⟩ ⟨(rn_b ((encI .u8).blws 0)), (rn_ptr rfl rfl rfl rfl), (rn_ptr rfl rfl rfl rfl), (rn_ptr rfl rfl rfl rfl), (rn_b rfl), (rn_b rfl), trivial⟩)
        · rw [ite_f hb] at h
          refine E_exit ?_
          refine E_the ?_
          cases h
          exact L_bk rfl rfl rfl (wk_rn [some (0, 0), some (1, 0), some (2, 0), some (3, 0), some (4, 0)] rfl (Nat.le_of_ble_eq_true rfl) ⟨(rn_ob rfl rfl (.cons (rn_b rfl) (.cons (rn_b rfl) (.nil (Nat.zero_le _)))) rfl), (rn_ob rfl rfl (.cons (rn_b ((encI .u8).blws 0)) (.cons (rn_b rfl) (.cons (rn_b rfl) (.nil (Nat.zero_le _))))) rfl), (rn_ob rfl rfl (.cons (rn_refL FuncRow.enc rfl rfl rfl) (.cons (rn_refL Site.enc rfl rfl rfl) (.nil (Nat.zero_le _)))) rfl), (rn_ob rfl rfl (.refl (FuncRow.enc.blwf 0 _)) rfl), (rn_ob rfl rfl (.refl (Site.enc.blwf 0 _)) rfl), trivial⟩ ⟨(rn_b ((encI .u8).blws 0)), (rn_ptr rfl rfl rfl rfl), (rn_ptr rfl rfl rfl rfl), (rn_ptr rfl rfl rfl rfl), (rn_b rfl), (rn_b rfl), trivial⟩)
    · refine E_nxw (F := [(0, (.sl false 1 (List.map (avI .u8) b_00))), (2, (.ptr 0 0 0)), (4, (.ptr 1 0 0)), (5, (.ptr 2 0 0))]) (T := [.arr 0 [.nils, .nils], .arr 0 [(.sl false 1 (List.map (avI .u8) s_24.2.1)), (.int .i64 s_24.2.2.1), (.bool s_24.2.2.2.1)], .arr 0 [(.sl false 6 (List.map FuncRow.av s_2.2.2.2.2)), (.sl false 2 (List.map Site.av s_24.2.2.2.2))]]) (wk_trans hw (wk_trans (wk_trans (fr'' := [(0, (.sl false 1 (List.map (avI .u8) b_00))), (2, (.ptr 0 0 0)), (4, (.ptr 1 0 0)), (5, (.ptr 2 0 0))]) (S'' := [.arr 0 [.nils, .nils], .arr 0 [(.sl false 1 (List.map (avI .u8) s_24.2.1)), (.int .i64 s_24.2.2.1), (.bool s_24.2.2.2.1)], .arr 0 [(.sl false 6 (List.map FuncRow.av s_2.2.2.2.2)), (.ref 3 1 0 (List.length s_24.2.2.2.2) (some 2))], .arr 1 (flat Site.av s_24.2.2.2.2)]) (wk_rn (fr' := [(0, (.sl false 1 (List.map (avI .u8) b_00))), (2, (.ptr 0 0 0)), (4, (.ptr 1 0 0)), (5, (.ptr 2 0 0))]) (S' := [.arr 0 [.nils, .nils], .arr 0 [(.sl false 1 (List.map (avI .u8) s_24.2.1)), (.int .i64 s_24.2.2.1), (.bool s_24.2.2.2.1)], .arr 0 [(.ref 4 1 0 (List.length s_2.2.2.2.2) (some 6)), (.ref 3 1 0 (List.length s_24.2.2.2.2) (some 2))], .arr 1 (flat Site.av s_24.2.2.2.2), .arr 1 (flat FuncRow.av s_2.2.2.2.2)]) [some (0, 0), some (1, 0), some (2, 0), some (4, 0), some (3, 0)] rfl (Nat.le_of_ble_eq_true rfl) ⟨(rn_ob rfl rfl (.cons (rn_b rfl) (.cons (rn_b rfl) (.nil (Nat.zero_le _)))) rfl), (rn_ob rfl rfl (.cons (rn_b ((encI .u8).blws 0)) (.cons (rn_b rfl) (.cons (rn_b rfl) (.nil (Nat.zero_le _))))) rfl), (rn_ob rfl rfl (.cons (rn_refL FuncRow.enc rfl rfl rfl) (.cons (rn_refL Site.enc rfl rfl rfl) (.nil (Nat.zero_le _)))) rfl), (rn_ob rfl rfl (.refl (Site.enc.blwf 0 _)) rfl), (rn_ob rfl rfl (.refl (FuncRow.enc.blwf 0 _)) rfl), trivial⟩ ⟨(rn_b ((encI .u8).blws 0)), (rn_ptr rfl rfl rfl rfl), (rn_ptr rfl rfl rfl rfl), (rn_ptr rfl rfl rfl rfl), trivial⟩) (wk_fz 4 6 rfl ⟨⟨rfl, ⟨(fz_b rfl (.refl _)), (fz_b rfl (.refl _)), trivial⟩⟩, ⟨rfl, ⟨(fz_b ((encI .u8).blws 4) (.refl _)), (fz_b rfl (.refl _)), (fz_b rfl (.refl _)), trivial⟩⟩, ⟨rfl, ⟨(fz_ref FuncRow.enc (Nat.le_of_ble_eq_true rfl) rfl), (fz_b rfl (.refl _)), trivial⟩⟩, ⟨rfl, fzL_id (Site.enc.blwf 4 _)⟩, trivial⟩ ⟨(fz_b ((encI .u8).blws 4) (.refl _)), (fz_b rfl (.refl _)), (fz_b rfl (.refl _)), (fz_b rfl (.refl _)), trivial⟩)) (wk_trans (fr'' := [(0, (.sl false 1 (List.map (avI .u8) b_00))), (2, (.ptr 0 0 0)), (4, (.ptr 1 0 0)), (5, (.ptr 2 0 0))]) (S'' := [.arr 0 [.nils, .nils], .arr 0 [(.sl false 1 (List.map (avI .u8) s_24.2.1)), (.int .i64 s_24.2.2.1), (.bool s_24.2.2.2.1)], .arr 0 [(.sl false 6 (List.map FuncRow.av s_2.2.2.2.2)), (.sl false 2 (List.map Site.av s_24.2.2.2.2))]]) (wk_rn (fr' := [(0, (.sl false 1 (List.map (avI .u8) b_00))), (2, (.ptr 0 0 0)), (4, (.ptr 1 0 0)), (5, (.ptr 2 0 0))]) (S' := [.arr 0 [.nils, .nils], .arr 0 [(.sl false 1 (List.map (avI .u8) s_24.2.1)), (.int .i64 s_24.2.2.1), (.bool s_24.2.2.2.1)], .arr 0 [(.sl false 6 (List.map FuncRow.av s_2.2.2.2.2)), (.ref 3 1 0 (List.length s_24.2.2.2.2) (some 2))], .arr 1 (flat Site.av s_24.2.2.2.2)]) [some (0, 0), some (1, 0), some (2, 0), some (3, 0)] rfl (Nat.le_of_ble_eq_true rfl) ⟨(rn_ob rfl rfl (.cons (rn_b rfl) (.cons (rn_b rfl) (.nil (Nat.zero_le _)))) rfl), (rn_ob rfl rfl (.cons (rn_b ((encI .u8).blws 0)) (.cons (rn_b rfl) (.cons (rn_b rfl) (.nil (Nat.zero_le _))))) rfl), (rn_ob rfl rfl (.cons (rn_b (FuncRow.enc.blws 0)) (.cons (rn_refL Site.enc rfl rfl rfl) (.nil (Nat.zero_le _)))) rfl), (rn_ob rfl rfl (.refl (Site.enc.blwf 0 _)) rfl), trivial⟩ ⟨(rn_b ((encI .u8).blws 0)), (rn_ptr rfl rfl rfl rfl), (rn_ptr rfl rfl rfl rfl), (rn_ptr rfl rfl rfl rfl), trivial⟩) (wk_fz 3 6 rfl ⟨⟨rfl, ⟨(fz_b rfl (.refl _)), (fz_b rfl (.refl _)), trivial⟩⟩, ⟨rfl, ⟨(fz_b ((encI .u8).blws 3) (.refl _)), (fz_b rfl (.refl _)), (fz_b rfl (.refl _)), trivial⟩⟩, ⟨rfl, ⟨(fz_b (FuncRow.enc.blws 3) (.refl _)), (fz_ref Site.enc (Nat.le_of_ble_eq_true rfl) rfl), trivial⟩⟩, trivial⟩ ⟨(fz_b ((encI .u8).blws 3) (.refl _)), (fz_b rfl (.refl _)), (fz_b rfl (.refl _)), (fz_b rfl (.refl _)), trivial⟩)))) ?_
      refine E_as ?_
      refine E_jp h (fun s_36 => [(2, (.ptr 0 0 0)), (5, (.ptr 1 0 0)), (166, (.bool s_36))]) (fun s_36 => [.arr 0 [.nils, .nils], .arr 0 [(.sl false 6 (List.map FuncRow.av s_2.2.2.2.2)), (.sl false 2 (List.map Site.av s_24.2.2.2.2))]]) (fun k_35 h => ?_) (fun s_36 h => ?_)
      · refine E_reg ?_
        refine E_mv (v' := (.ptr 1 0 0)) rfl ?_
        refine E_op0 (v' := (.ptr 1 0 0)) rfl rfl ?_
        refine E_op0 (v' := (.ptr 1 0 2)) rfl rfl ?_
        refine E_op (v' := (.bool s_24.2.2.2.1)) (S' := [.arr 0 [.nils, .nils], .arr 0 [(.sl false 1 (List.map (avI .u8) s_24.2.1)), (.int .i64 s_24.2.2.1), (.bool s_24.2.2.2.1)], .arr 0 [(.sl false 6 (List.map FuncRow.av s_2.2.2.2.2)), (.sl false 2 (List.map Site.av s_24.2.2.2.2))]]) rfl rfl rfl ?_
        refine E_mv (v' := (.bool s_24.2.2.2.1)) rfl ?_
        refine E_gsT (b := s_24.2.2.2.1) rfl rfl rfl (fun hb => ?_) (fun hb => ?_)
        · rw [ite_f hb] at h
          refine E_mv (v' := (.ptr 1 0 0)) rfl ?_
          refine E_gh rfl ?_
          refine E_op0 (v' := (.ptr 1 0 0)) rfl rfl ?_
          refine E_gh rfl ?_
          refine E_op0 (v' := (.ptr 1 0 1)) rfl rfl ?_
          refine E_gh rfl ?_
          refine E_op (v' := (.int .i64 s_24.2.2.1)) (S' := [.arr 0 [.nils, .nils], .arr 0 [(.sl false 1 (List.map (avI .u8) s_24.2.1)), (.int .i64 s_24.2.2.1), (.bool s_24.2.2.2.1)], .arr 0 [(.sl false 6 (List.map FuncRow.av s_2.2.2.2.2)), (.sl false 2 (List.map Site.av s_24.2.2.2.2))]]) rfl rfl rfl ?_
          refine E_gh rfl ?_
          refine E_mv (v' := (.sl false 1 (List.map (avI .u8) b_00))) rfl ?_
          refine E_gh rfl ?_
          refine E_len rfl ?_
          refine E_gh rfl ?_
          refine E_op0 (v' := (.bool (s_24.2.2.1 != (List.length b_00 : Int)))) rfl rfl ?_
          refine E_pf rfl rfl ?_
          refine E_mv (v' := (.bool (s_24.2.2.1 != (List.length b_00 : Int)))) rfl ?_
          refine E_gsT (b := (s_24.2.2.1 != (List.length b_00 : Int))) rfl rfl rfl (fun hb => ?_) (fun hb => ?_)
          · rw [ite_f hb] at h
            refine E_opw (v' := (Tables.av (Tables.mk s_2.2.2.2.2 s_24.2.2.2.2))) rfl (.aggL ⟨(.refl _), (.refl _), trivial⟩) rfl ?_
            refine E_gh rfl ?_
            obtain ⟨rig_37, hrig_37, h⟩ := bd_some h
            refine E_callW (windlassref19_Right_ev  hrig_37) rfl ⟨(.refl _), trivial⟩ (blwL_of ⟨(Tables.enc.blw _ 0), trivial⟩) rfl ?_
            refine E_gh rfl ?_
            refine E_op0 (v' := (.bool (!rig_37))) rfl rfl ?_
            refine E_pf rfl rfl ?_
            refine E_nil ?_
            exact E_jx _ h (wk_rn [some (0, 0), some (2, 0)] rfl (Nat.le_of_ble_eq_true rfl) ⟨(rn_ob rfl rfl (.cons (rn_b rfl) (.cons (rn_b rfl) (.nil (Nat.zero_le _)))) rfl), (rn_ob rfl rfl (.cons (rn_b (FuncRow.enc.blws 0)) (.cons (rn_b (Site.enc.blws 0)) (.nil (Nat.zero_le _)))) rfl), trivial⟩ ⟨(rn_ptr rfl rfl rfl rfl), (rn_ptr rfl rfl rfl rfl), (rn_b rfl), trivial⟩)
          · rw [ite_t hb] at h
            refine E_gm rfl ?_
            refine E_gm rfl ?_
            refine E_pt rfl rfl ?_
            refine E_nil ?_
            exact E_jx _ h (wk_rn [some (0, 0), some (2, 0)] rfl (Nat.le_of_ble_eq_true rfl) ⟨(rn_ob rfl rfl (.cons (rn_b rfl) (.cons (rn_b rfl) (.nil (Nat.zero_le _)))) rfl), (rn_ob rfl rfl (.cons (rn_b (FuncRow.enc.blws 0)) (.cons (rn_b (Site.enc.blws 0)) (.nil (Nat.zero_le _)))) rfl), trivial⟩ ⟨(rn_ptr rfl rfl rfl rfl), (rn_ptr rfl rfl rfl rfl), (rn_b rfl), trivial⟩)
        · rw [ite_t hb] at h
          refine E_gm rfl ?_
          refine E_gm rfl ?_
          refine E_gm rfl ?_
          refine E_gm rfl ?_
          refine E_gm rfl ?_
          refine E_gm rfl ?_
          refine E_pt rfl rfl ?_
          refine E_mv (v' := (.bool true)) rfl ?_
          refine E_gm rfl ?_
          refine E_gm rfl ?_
          refine E_gm rfl ?_
          refine E_pt rfl rfl ?_
          refine E_nil ?_
          exact E_jx _ h (wk_rn [some (0, 0), some (2, 0)] rfl (Nat.le_of_ble_eq_true rfl) ⟨(rn_ob rfl rfl (.cons (rn_b rfl) (.cons (rn_b rfl) (.nil (Nat.zero_le _)))) rfl), (rn_ob rfl rfl (.cons (rn_b (FuncRow.enc.blws 0)) (.cons (rn_b (Site.enc.blws 0)) (.nil (Nat.zero_le _)))) rfl), trivial⟩ ⟨(rn_ptr rfl rfl rfl rfl), (rn_ptr rfl rfl rfl rfl), (rn_b rfl), trivial⟩)
      · refine E_sq ?_
        refine E_cs (t := s_36) rfl (fun hb => ?_) (fun hb => ?_)
        · rw [ite_t hb] at h
          refine E_sq ?_
          refine E_reg ?_
          refine E_op0 (v' := (.agg [.nils, .nils])) rfl rfl ?_
          refine E_do (S' := [.arr 0 [.nils, .nils], .arr 0 [(.sl false 6 (List.map FuncRow.av s_2.2.2.2.2)), (.sl false 2 (List.map Site.av s_24.2.2.2.2))]]) rfl rfl ?_
          refine E_mv (v' := (.bool false)) rfl ?_
          refine E_nil ?_
          refine E_nx ?_
          refine E_ret ?_
          refine E_thr ?_
          cases h
          exact ⟨trivial, _, rfl, (fz_tup ⟨(fz_agg ⟨(fz_b rfl .nil), (fz_b rfl .nil), trivial⟩), (fz_b rfl (.refl _)), trivial⟩)⟩
        · rw [ite_f hb] at h
          refine E_skip ?_
          refine E_nx ?_
          refine E_sq ?_
          refine E_reg ?_
          refine E_opw (v' := (Tables.av (Tables.mk s_2.2.2.2.2 s_24.2.2.2.2))) rfl (.aggL ⟨(.refl _), (.refl _), trivial⟩) rfl ?_
          refine E_do (S' := [.arr 0 [(.sl false 6 (List.map FuncRow.av s_2.2.2.2.2)), (.sl false 2 (List.map Site.av s_24.2.2.2.2))], .arr 0 [(.sl false 6 (List.map FuncRow.av s_2.2.2.2.2)), (.sl false 2 (List.map Site.av s_24.2.2.2.2))]]) rfl rfl ?_
          refine E_mv (v' := (.bool true)) rfl ?_
          refine E_nil ?_
          refine E_nx ?_
          refine E_ret ?_
          cases h
          exact ⟨trivial, _, rfl, (fz_tup ⟨(fz_agg ⟨(fz_b (FuncRow.enc.blws 0) (.refl _)), (fz_b (Site.enc.blws 0) (.refl _)), trivial⟩), (fz_b rfl (.refl _)), trivial⟩)⟩
/- windlass/windlasslaw19.TablesReads -/
def fc6 : FC := (.seq (.reg [⟨(some 2), none, .op (.mv (.v (.bool false)))⟩] [])
  (.seq (.seq (.reg [⟨(some 8), none, .call 8 []⟩,
  ⟨(some 9), none, .op (.un .not (.t 8))⟩] [])
  (.cond (.t 9)
  (.seq (.reg [⟨(some 2), none, .op (.mv (.v (.bool false)))⟩] [])
  .ret)
  .skip))
  (.seq (.reg [⟨(some 10), none, .op (.mv (.t 0))⟩,
  ⟨(some 11), none, .op (.b2s (.t 10))⟩,
  ⟨(some 3), none, .op (.mv (.t 11))⟩] [])
  (.seq (.reg [⟨(some 13), none, .op (.mv (.t 0))⟩,
  ⟨(some 14), none, .call 16 [(.t 13)]⟩,
  ⟨(some 12), none, .op (.mv (.t 14))⟩,
  ⟨(some 15), none, .op (.ext 0 (.t 12))⟩,
  ⟨(some 16), none, .op (.ext 1 (.t 12))⟩,
  ⟨(some 4), none, .op (.new [.nils, .nils])⟩,
  ⟨none, none, .op (.store 2 (.t 4) (.t 15))⟩,
  ⟨(some 5), none, .op (.mv (.t 16))⟩] [])
  (.seq (.reg [⟨(some 18), none, .op (.mv (.t 3))⟩,
  ⟨(some 19), none, .op (.s2b (.t 18))⟩,
  ⟨(some 20), none, .call 18 [(.t 19)]⟩,
  ⟨(some 17), none, .op (.mv (.t 20))⟩,
  ⟨(some 21), none, .op (.ext 0 (.t 17))⟩,
  ⟨(some 22), none, .op (.ext 1 (.t 17))⟩,
  ⟨(some 6), none, .op (.new [.nils, .nils])⟩,
  ⟨none, none, .op (.store 2 (.t 6) (.t 21))⟩,
  ⟨(some 7), none, .op (.mv (.t 22))⟩] [])
  (.seq (.seq (.reg [⟨(some 23), none, .op (.mv (.t 0))⟩,
  ⟨(some 24), none, .op (.b2s (.t 23))⟩,
  ⟨(some 25), none, .op (.mv (.t 3))⟩,
  ⟨(some 26), none, .op (.bin .none .neq (.t 24) (.t 25))⟩] [])
  (.cond (.t 26)
  (.seq (.reg [⟨(some 2), none, .op (.mv (.v (.bool false)))⟩] [])
  .ret)
  .skip))
  (.seq (.seq (.reg [⟨(some 27), none, .op (.mv (.t 7))⟩,
  ⟨(some 28), none, .op (.un .not (.t 27))⟩] [])
  (.cond (.t 28)
  (.seq (.reg [⟨(some 29), none, .op (.mv (.t 5))⟩,
  ⟨(some 30), none, .op (.bin .none .eql (.t 29) (.v (.int .i64 190)))⟩,
  ⟨(some 31), none, .op (.mv (.t 30))⟩,
  ⟨(some 32), some (31, true), .op (.fad 0 (.t 4))⟩,
  ⟨(some 33), some (31, true), .op (.load none (.t 32))⟩,
  ⟨(some 34), some (31, true), .op (.len .sl (.t 33))⟩,
  ⟨(some 35), some (31, true), .op (.fad 1 (.t 4))⟩,
  ⟨(some 36), some (31, true), .op (.load none (.t 35))⟩,
  ⟨(some 37), some (31, true), .op (.len .sl (.t 36))⟩,
  ⟨(some 38), some (31, true), .op (.bin .none .add (.t 34) (.t 37))⟩,
  ⟨(some 39), some (31, true), .op (.bin .none .eql (.t 38) (.v (.int .i64 0)))⟩,
  ⟨(some 40), none, .op (.pick (.t 31) (.t 39) (.v (.bool false)))⟩,
  ⟨(some 2), none, .op (.mv (.t 40))⟩] [])
  .ret)
  .skip))
  (.seq (.reg [⟨(some 41), none, .op (.mv (.t 5))⟩,
  ⟨(some 42), none, .op (.bin .none .eql (.t 41) (.v (.int .i64 0)))⟩,
  ⟨(some 43), none, .op (.mv (.t 42))⟩,
  ⟨(some 44), some (43, true), .op (.load (some 2) (.t 4))⟩,
  ⟨(some 45), some (43, true), .call 11 [(.t 44)]⟩,
  ⟨(some 46), none, .op (.pick (.t 43) (.t 45) (.v (.bool false)))⟩,
  ⟨(some 47), none, .op (.mv (.t 46))⟩,
  ⟨(some 48), some (47, true), .op (.load (some 2) (.t 4))⟩,
  ⟨(some 49), some (47, true), .call 17 [(.t 48)]⟩,
  ⟨(some 50), some (47, true), .op (.b2s (.t 49))⟩,
  ⟨(some 51), some (47, true), .op (.load (some 2) (.t 6))⟩,
  ⟨(some 52), some (47, true), .call 17 [(.t 51)]⟩,
  ⟨(some 53), some (47, true), .op (.b2s (.t 52))⟩,
  ⟨(some 54), some (47, true), .op (.bin .none .eql (.t 50) (.t 53))⟩,
  ⟨(some 55), none, .op (.pick (.t 47) (.t 54) (.v (.bool false)))⟩,
  ⟨(some 56), none, .op (.mv (.t 55))⟩,
  ⟨(some 57), some (56, true), .op (.load (some 2) (.t 4))⟩,
  ⟨(some 58), some (56, true), .call 17 [(.t 57)]⟩,
  ⟨(some 59), some (56, true), .op (.b2s (.t 58))⟩,
  ⟨(some 60), some (56, true), .op (.mv (.t 3))⟩,
  ⟨(some 61), some (56, true), .op (.bin .none .eql (.t 59) (.t 60))⟩,
  ⟨(some 62), none, .op (.pick (.t 56) (.t 61) (.v (.bool false)))⟩,
  ⟨(some 2), none, .op (.mv (.t 62))⟩] [(8, 10), (9, 11)])
  .ret))))))))
theorem fn6 : Fn3 Try.prog 6 63 [(2, none)] fc6 := ⟨_, _, Try.func6, rfl, rfl, rfl, by kernel_rfl⟩
def windlasslaw19_TablesReads_s (fuel : Nat) (b_00 : (List Int)) : Option Bool :=
  ((windlasslaw19_first_s fuel).bind fun fir_1 => (if (!fir_1) then (some false) else ((toStr b_00).bind fun s_2 => ((tables_Decode_s b_00).bind fun dec_3 => ((windlassref19_Read_s fuel (ofStr s_2)).bind fun rea_4 => ((toStr b_00).bind fun s_5 => (if (!(ByteArray.toList s_5 == ByteArray.toList s_2)) then (some false) else (if (!rea_4.2) then (jp (fun (s_7 : Bool) => (some s_7)) (fun k_6 => (if (dec_3.2 == 190) then (k_6 ((I64 ((List.length dec_3.1.Funcs : Int) + (List.length dec_3.1.Sites : Int))) == 0)) else (k_6 false)))) else (jp (fun (s_9 : Bool) => (some s_9)) (fun k_8 => (if (dec_3.2 == 0) then ((windlassref19_Right_s dec_3.1).bind fun rig_10 => (if rig_10 then ((windlassref19_Bytes_s fuel dec_3.1).bind fun byt_11 => ((toStr byt_11).bind fun s_12 => ((windlassref19_Bytes_s fuel rea_4.1).bind fun byt_13 => ((toStr byt_13).bind fun s_14 => (if (ByteArray.toList s_12 == ByteArray.toList s_14) then ((windlassref19_Bytes_s fuel dec_3.1).bind fun byt_15 => ((toStr byt_15).bind fun s_16 => (k_8 (ByteArray.toList s_16 == ByteArray.toList s_2)))) else (k_8 false)))))) else (k_8 false))) else (k_8 false))))))))))))
theorem windlasslaw19_TablesReads_ev {fuel : Nat} {b_00 : (List Int)} {r : Bool} (h : windlasslaw19_TablesReads_s fuel b_00 = some r) : PureEv Try.prog 6 [(.sl false 1 (List.map (avI .u8) b_00))] (.bool r) := by
  unfold windlasslaw19_TablesReads_s at h
  refine PureEv_end mixed fn6 (by simp) [4, 6] 6 ?_
  unfold fc6
  refine E_sq ?_
  refine E_reg ?_
  refine E_mv (v' := (.bool false)) rfl ?_
  refine E_nil ?_
  refine E_nx ?_
  refine E_as ?_
  refine E_sq ?_
  refine E_reg ?_
  obtain ⟨fir_1, hfir_1, h⟩ := bd_some h
  refine E_callW (windlasslaw19_first_ev (fuel := fuel)  hfir_1) rfl trivial (blwL_of trivial) rfl ?_
  refine E_op0 (v' := (.bool (!fir_1))) rfl rfl ?_
  refine E_nil ?_
  refine E_nx ?_
  refine E_sq ?_
  refine E_cs (t := (!fir_1)) rfl (fun hb => ?_) (fun hb => ?_)
  · rw [ite_t hb] at h
    refine E_sq ?_
    refine E_reg ?_
    refine E_mv (v' := (.bool false)) rfl ?_
    refine E_nil ?_
    refine E_nx ?_
    refine E_ret ?_
    refine E_thr ?_
    cases h
    exact ⟨trivial, _, rfl, (fz_b rfl (.refl _))⟩
  · rw [ite_f hb] at h
    refine E_skip ?_
    refine E_nx ?_
    refine E_sq ?_
    refine E_reg ?_
    refine E_mv (v' := (.sl false 1 (List.map (avI .u8) b_00))) rfl ?_
    obtain ⟨s_2, hs_2, h⟩ := bd_some h
    refine E_b2s rfl hs_2 ?_
    refine E_mv (v' := (.str s_2)) rfl ?_
    refine E_nil ?_
    refine E_nx ?_
    refine E_sq ?_
    refine E_reg ?_
    refine E_mv (v' := (.sl false 1 (List.map (avI .u8) b_00))) rfl ?_
    obtain ⟨dec_3, hdec_3, h⟩ := bd_some h
    refine E_callW (tables_Decode_ev  hdec_3) rfl ⟨(.refl _), trivial⟩ (blwL_of ⟨((encI .u8).blws 0), trivial⟩) (tup_blw ⟨(Tables.enc.blw _ 0), rfl, trivial⟩) ?_
    refine E_mv (v' := (.tup [(Tables.av dec_3.1), (.int .i64 dec_3.2)])) rfl ?_
    refine E_op0 (v' := (Tables.av dec_3.1)) rfl rfl ?_
    refine E_op0 (v' := (.int .i64 dec_3.2)) rfl rfl ?_
    refine E_op (v' := .ptr 0 0 0) (S' := [.arr 0 [.nils, .nils]]) rfl rfl rfl ?_
    refine E_do (S' := [.arr 0 [(.sl false 6 (List.map FuncRow.av dec_3.1.Funcs)), (.sl false 2 (List.map Site.av dec_3.1.Sites))]]) rfl rfl ?_
    refine E_mv (v' := (.int .i64 dec_3.2)) rfl ?_
    refine E_nil ?_
    refine E_nx ?_
    refine E_sq ?_
    refine E_reg ?_
    refine E_mv (v' := (.str s_2)) rfl ?_
    refine E_s2b rfl ?_
    obtain ⟨rea_4, hrea_4, h⟩ := bd_some h
    refine E_callW (windlassref19_Read_ev (fuel := fuel)  hrea_4) rfl ⟨(.refl _), trivial⟩ (blwL_of ⟨((encI .u8).blws 0), trivial⟩) (tup_blw ⟨(Tables.enc.blw _ 0), rfl, trivial⟩) ?_
    refine E_mv (v' := (.tup [(Tables.av rea_4.1), (.bool rea_4.2)])) rfl ?_
    refine E_op0 (v' := (Tables.av rea_4.1)) rfl rfl ?_
    refine E_op0 (v' := (.bool rea_4.2)) rfl rfl ?_
    refine E_op (v' := .ptr 1 0 0) (S' := [.arr 0 [(.sl false 6 (List.map FuncRow.av dec_3.1.Funcs)), (.sl false 2 (List.map Site.av dec_3.1.Sites))], .arr 0 [.nils, .nils]]) rfl rfl rfl ?_
    refine E_do (S' := [.arr 0 [(.sl false 6 (List.map FuncRow.av dec_3.1.Funcs)), (.sl false 2 (List.map Site.av dec_3.1.Sites))], .arr 0 [(.sl false 6 (List.map FuncRow.av rea_4.1.Funcs)), (.sl false 2 (List.map Site.av rea_4.1.Sites))]]) rfl rfl ?_
    refine E_mv (v' := (.bool rea_4.2)) rfl ?_
    refine E_nil ?_
    refine E_nx ?_
    refine E_as ?_
    refine E_sq ?_
    refine E_reg ?_
    refine E_mv (v' := (.sl false 1 (List.map (avI .u8) b_00))) rfl ?_
    obtain ⟨s_5, hs_5, h⟩ := bd_some h
    refine E_b2s rfl hs_5 ?_
    refine E_mv (v' := (.str s_2)) rfl ?_
    refine E_op0 (v' := (.bool (!(ByteArray.toList s_5 == ByteArray.toList s_2)))) rfl rfl ?_
    refine E_nil ?_
    refine E_nx ?_
    refine E_sq ?_
    refine E_cs (t := (!(ByteArray.toList s_5 == ByteArray.toList s_2))) rfl (fun hb => ?_) (fun hb => ?_)
    · rw [ite_t hb] at h
      refine E_sq ?_
      refine E_reg ?_
      refine E_mv (v' := (.bool false)) rfl ?_
      refine E_nil ?_
      refine E_nx ?_
      refine E_ret ?_
      refine E_thr ?_
      cases h
      exact ⟨trivial, _, rfl, (fz_b rfl (.refl _))⟩
    · rw [ite_f hb] at h
      refine E_skip ?_
      refine E_nx ?_
      refine E_as ?_
      refine E_sq ?_
      refine E_reg ?_
      refine E_mv (v' := (.bool rea_4.2)) rfl ?_
      refine E_op0 (v' := (.bool (!rea_4.2))) rfl rfl ?_
      refine E_nil ?_
      refine E_nx ?_
      refine E_sq ?_
      refine E_cs (t := (!rea_4.2)) rfl (fun hb => ?_) (fun hb => ?_)
      · rw [ite_t hb] at h
        refine E_jp h (fun s_7 => [(2, (.bool s_7))]) (fun s_7 => []) (fun k_6 h => ?_) (fun s_7 h => ?_)
        · refine E_reg ?_
          refine E_mv (v' := (.int .i64 dec_3.2)) rfl ?_
          refine E_op0 (v' := (.bool (dec_3.2 == 190))) rfl rfl ?_
          refine E_mv (v' := (.bool (dec_3.2 == 190))) rfl ?_
          refine E_gsT (b := (dec_3.2 == 190)) rfl rfl rfl (fun hb => ?_) (fun hb => ?_)
          · rw [ite_t hb] at h
            refine E_op0 (v' := (.ptr 0 0 0)) rfl rfl ?_
            refine E_gh rfl ?_
            refine E_op (v' := (.sl false 6 (List.map FuncRow.av dec_3.1.Funcs))) (S' := [.arr 0 [(.sl false 6 (List.map FuncRow.av dec_3.1.Funcs)), (.sl false 2 (List.map Site.av dec_3.1.Sites))], .arr 0 [(.sl false 6 (List.map FuncRow.av rea_4.1.Funcs)), (.sl false 2 (List.map Site.av rea_4.1.Sites))]]) rfl rfl rfl ?_
            refine E_gh rfl ?_
            refine E_len rfl ?_
            refine E_gh rfl ?_
            refine E_op0 (v' := (.ptr 0 0 1)) rfl rfl ?_
            refine E_gh rfl ?_
            refine E_op (v' := (.sl false 2 (List.map Site.av dec_3.1.Sites))) (S' := [.arr 0 [(.sl false 6 (List.map FuncRow.av dec_3.1.Funcs)), (.sl false 2 (List.map Site.av dec_3.1.Sites))], .arr 0 [(.sl false 6 (List.map FuncRow.av rea_4.1.Funcs)), (.sl false 2 (List.map Site.av rea_4.1.Sites))]]) rfl rfl rfl ?_
            refine E_gh rfl ?_
            refine E_len rfl ?_
            refine E_gh rfl ?_
            refine E_op0 (v' := (.int .i64 (I64 ((List.length dec_3.1.Funcs : Int) + (List.length dec_3.1.Sites : Int))))) rfl rfl ?_
            refine E_gh rfl ?_
            refine E_op0 (v' := (.bool ((I64 ((List.length dec_3.1.Funcs : Int) + (List.length dec_3.1.Sites : Int))) == 0))) rfl rfl ?_
            refine E_pt rfl rfl ?_
            refine E_mv (v' := (.bool ((I64 ((List.length dec_3.1.Funcs : Int) + (List.length dec_3.1.Sites : Int))) == 0))) rfl ?_
            refine E_nil ?_
            exact E_jx _ h (wk_rn [] rfl (Nat.le_of_ble_eq_true rfl) trivial ⟨(rn_b rfl), trivial⟩)
          · rw [ite_f hb] at h
            refine E_gm rfl ?_
            refine E_gm rfl ?_
            refine E_gm rfl ?_
            refine E_gm rfl ?_
            refine E_gm rfl ?_
            refine E_gm rfl ?_
            refine E_gm rfl ?_
            refine E_pf rfl rfl ?_
            refine E_mv (v' := (.bool false)) rfl ?_
            refine E_nil ?_
            exact E_jx _ h (wk_rn [] rfl (Nat.le_of_ble_eq_true rfl) trivial ⟨(rn_b rfl), trivial⟩)
        · refine E_ret ?_
          refine E_thr ?_
          cases h
          exact ⟨trivial, _, rfl, (fz_b rfl (.refl _))⟩
      · rw [ite_f hb] at h
        refine E_skip ?_
        refine E_nx ?_
        refine E_jp h (fun s_9 => [(2, (.bool s_9))]) (fun s_9 => []) (fun k_8 h => ?_) (fun s_9 h => ?_)
        · refine E_regp ?_
          refine E_mv (v' := (.int .i64 dec_3.2)) rfl ?_
          refine E_op0 (v' := (.bool (dec_3.2 == 0))) rfl rfl ?_
          refine E_mv (v' := (.bool (dec_3.2 == 0))) rfl ?_
          refine E_gsT (b := (dec_3.2 == 0)) rfl rfl rfl (fun hb => ?_) (fun hb => ?_)
          · rw [ite_t hb] at h
            refine E_opw (v' := (Tables.av dec_3.1)) rfl (.aggL ⟨(.refl _), (.refl _), trivial⟩) rfl ?_
            refine E_gh rfl ?_
            obtain ⟨rig_10, hrig_10, h⟩ := bd_some h
            refine E_callW (windlassref19_Right_ev  hrig_10) rfl ⟨(.refl _), trivial⟩ (blwL_of ⟨(Tables.enc.blw _ 0), trivial⟩) rfl ?_
            refine E_pt rfl rfl ?_
            refine E_mv (v' := (.bool rig_10)) rfl ?_
            refine E_gsT (b := rig_10) rfl rfl rfl (fun hb => ?_) (fun hb => ?_)
            · rw [ite_t hb] at h
              refine E_opw (v' := (Tables.av dec_3.1)) rfl (.aggL ⟨(.refl _), (.refl _), trivial⟩) rfl ?_
              refine E_gh rfl ?_
              obtain ⟨byt_11, hbyt_11, h⟩ := bd_some h
              refine E_callW (windlassref19_Bytes_ev (fuel := fuel)  hbyt_11) rfl ⟨(.refl _), trivial⟩ (blwL_of ⟨(Tables.enc.blw _ 0), trivial⟩) ((encI .u8).blws 0) ?_
              refine E_gh rfl ?_
              obtain ⟨s_12, hs_12, h⟩ := bd_some h
              refine E_b2s rfl hs_12 ?_
              refine E_gh rfl ?_
              refine E_opw (v' := (Tables.av rea_4.1)) rfl (.aggL ⟨(.refl _), (.refl _), trivial⟩) rfl ?_
              refine E_gh rfl ?_
              obtain ⟨byt_13, hbyt_13, h⟩ := bd_some h
              refine E_callW (windlassref19_Bytes_ev (fuel := fuel)  hbyt_13) rfl ⟨(.refl _), trivial⟩ (blwL_of ⟨(Tables.enc.blw _ 0), trivial⟩) ((encI .u8).blws 0) ?_
              refine E_gh rfl ?_
              obtain ⟨s_14, hs_14, h⟩ := bd_some h
              refine E_b2s rfl hs_14 ?_
              refine E_gh rfl ?_
              refine E_op0 (v' := (.bool (ByteArray.toList s_12 == ByteArray.toList s_14))) rfl rfl ?_
              refine E_pt rfl rfl ?_
              refine E_mv (v' := (.bool (ByteArray.toList s_12 == ByteArray.toList s_14))) rfl ?_
              refine E_gsT (b := (ByteArray.toList s_12 == ByteArray.toList s_14)) rfl rfl rfl (fun hb => ?_) (fun hb => ?_)
              · rw [ite_t hb] at h
                refine E_opw (v' := (Tables.av dec_3.1)) rfl (.aggL ⟨(.refl _), (.refl _), trivial⟩) rfl ?_
                refine E_gh rfl ?_
                obtain ⟨byt_15, hbyt_15, h⟩ := bd_some h
                refine E_callW (windlassref19_Bytes_ev (fuel := fuel)  hbyt_15) rfl ⟨(.refl _), trivial⟩ (blwL_of ⟨(Tables.enc.blw _ 0), trivial⟩) ((encI .u8).blws 0) ?_
                refine E_gh rfl ?_
                obtain ⟨s_16, hs_16, h⟩ := bd_some h
                refine E_b2s rfl hs_16 ?_
                refine E_gh rfl ?_
                refine E_mv (v' := (.str s_2)) rfl ?_
                refine E_gh rfl ?_
                refine E_op0 (v' := (.bool (ByteArray.toList s_16 == ByteArray.toList s_2))) rfl rfl ?_
                refine E_pt rfl rfl ?_
                refine E_mv (v' := (.bool (ByteArray.toList s_16 == ByteArray.toList s_2))) rfl ?_
                refine E_nil ?_
                refine And.intro (by simp [okLog, nthL, okPair, hp, fpOf]) ?_
                exact E_jx _ h (wk_rn [] rfl (Nat.le_of_ble_eq_true rfl) trivial ⟨(rn_b rfl), trivial⟩)
              · rw [ite_f hb] at h
                refine E_gm rfl ?_
                refine E_gm rfl ?_
                refine E_gm rfl ?_
                refine E_gm rfl ?_
                refine E_pf rfl rfl ?_
                refine E_mv (v' := (.bool false)) rfl ?_
                refine E_nil ?_
                refine And.intro (by simp [okLog, nthL, okPair, hp, fpOf]) ?_
                exact E_jx _ h (wk_rn [] rfl (Nat.le_of_ble_eq_true rfl) trivial ⟨(rn_b rfl), trivial⟩)
            · rw [ite_f hb] at h
              refine E_gm rfl ?_
              refine E_gm rfl ?_
              refine E_gm rfl ?_
              refine E_gm rfl ?_
              refine E_gm rfl ?_
              refine E_gm rfl ?_
              refine E_pf rfl rfl ?_
              refine E_mv (v' := (.bool false)) rfl ?_
              refine E_gm rfl ?_
              refine E_gm rfl ?_
              refine E_gm rfl ?_
              refine E_gm rfl ?_
              refine E_gm rfl ?_
              refine E_pf rfl rfl ?_
              refine E_mv (v' := (.bool false)) rfl ?_
              refine E_nil ?_
              refine And.intro (by simp [okLog, nthL, okPair, hp, fpOf]) ?_
              exact E_jx _ h (wk_rn [] rfl (Nat.le_of_ble_eq_true rfl) trivial ⟨(rn_b rfl), trivial⟩)
          · rw [ite_f hb] at h
            refine E_gm rfl ?_
            refine E_pf rfl rfl ?_
            refine E_mv (v' := (.bool false)) rfl ?_
            refine E_gm rfl ?_
            refine E_gm rfl ?_
            refine E_gm rfl ?_
            refine E_gm rfl ?_
            refine E_gm rfl ?_
            refine E_gm rfl ?_
            refine E_gm rfl ?_
            refine E_pf rfl rfl ?_
            refine E_mv (v' := (.bool false)) rfl ?_
            refine E_gm rfl ?_
            refine E_gm rfl ?_
            refine E_gm rfl ?_
            refine E_gm rfl ?_
            refine E_gm rfl ?_
            refine E_pf rfl rfl ?_
            refine E_mv (v' := (.bool false)) rfl ?_
            refine E_nil ?_
            refine And.intro (by simp [okLog, nthL, okPair, hp, fpOf]) ?_
            exact E_jx _ h (wk_rn [] rfl (Nat.le_of_ble_eq_true rfl) trivial ⟨(rn_b rfl), trivial⟩)
        · refine E_ret ?_
          cases h
          exact ⟨trivial, _, rfl, (fz_b rfl (.refl _))⟩
end Go.Proofs.Ytnmicfhdpnabcaa
