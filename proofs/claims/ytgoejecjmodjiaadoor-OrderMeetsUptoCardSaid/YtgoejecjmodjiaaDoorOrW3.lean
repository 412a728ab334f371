/- The parts of order.Spans: the walks. -/
import Derived.Test.YtgoejecjmodjiaaDoorGenO
import Derived.Test.YtgoejecjmodjiaaDoorLvC2
namespace Go.Proofs.YtgoejecjmodjiaaDoor
open Go Go.Ab
set_option maxRecDepth 20000
set_option maxHeartbeats 2000000
set_option linter.unusedVariables false
set_option linter.unusedSimpArgs false
def c46_1 : FC := .reg [⟨(some 7), none, .op (.mv (.t 1))⟩,  ⟨(some 8), none, .op (.len .sl (.t 7))⟩,  ⟨(some 9), none, .op (.mv (.v (.int .i64 0)))⟩] []
def c46_2 : FC := .reg [⟨(some 11), none, .op (.iad none none (.t 7) (.t 9))⟩,  ⟨(some 12), none, .op (.load none (.t 11))⟩,  ⟨(some 6), none, .op (.mv (.t 12))⟩] []
def c46_3 : FC := .reg [⟨(some 13), none, .op (.load none (.t 2))⟩,  ⟨(some 14), none, .op (.mv (.t 6))⟩,  ⟨(some 15), none, .op (.load none (.t 2))⟩,  ⟨(some 16), none, .op (.mv (.t 6))⟩,  ⟨(some 17), none, .op (.load none (.t 2))⟩,  ⟨(some 18), none, .op (.mv (.t 6))⟩,  ⟨(some 19), none, .op (.iad none (some 4) (.t 17) (.t 18))⟩,  ⟨(some 20), none, .op (.fad 1 (.t 19))⟩,  ⟨(some 21), none, .op (.load none (.t 20))⟩,  ⟨(some 22), none, .op (.mv (.t 0))⟩,  ⟨(some 23), none, .op (.mn false (.t 21) (.t 22))⟩,  ⟨(some 24), none, .op (.load none (.t 2))⟩,  ⟨(some 25), none, .op (.mv (.t 6))⟩,  ⟨(some 26), none, .op (.iad none (some 4) (.t 24) (.t 25))⟩,  ⟨(some 27), none, .op (.fad 2 (.t 26))⟩,  ⟨(some 28), none, .op (.load none (.t 27))⟩,  ⟨(some 29), none, .op (.mv (.t 0))⟩,  ⟨(some 30), none, .op (.mn true (.t 28) (.t 29))⟩,  ⟨(some 31), none, .op (.iad none (some 4) (.t 13) (.t 14))⟩,  ⟨(some 32), none, .op (.fad 1 (.t 31))⟩,  ⟨none, none, .op (.store 1 (.t 32) (.t 23))⟩,  ⟨(some 33), none, .op (.iad none (some 4) (.t 15) (.t 16))⟩,  ⟨(some 34), none, .op (.fad 2 (.t 33))⟩,  ⟨none, none, .op (.store 1 (.t 34) (.t 30))⟩] [(2, 20)]
def c46_4 : FC := .seq c46_2 c46_3
def c46_5 : FC := .loop (.seq (.reg [⟨(some 10), none, .op (.bin .none .lss (.t 9) (.t 8))⟩] []) (.seq (.cond (.t 10) .skip (.exit 0)) (.seq (.block 1 c46_4) (.reg [⟨(some 35), none, .op (.bin .none .add (.t 9) (.v (.int .i64 1)))⟩,  ⟨(some 9), none, .op (.mv (.t 35))⟩] []))))
def c46_6 : FC := .block 0 c46_5
def c46_7 : FC := .seq c46_1 c46_6
def fc46 : FC := c46_7
theorem fn46 : Fn3 Tryd.prog 46 36 [] fc46 := ⟨_, _, Tryd.func46, rfl, rfl, rfl, by kernel_rfl⟩
def c75_1 : FC := .reg [⟨(some 4), none, .op (.mv (.v (.int .i64 0)))⟩] []
def c75_2 : FC := .reg [⟨(some 6), none, .op (.mv (.t 0))⟩,  ⟨(some 7), none, .op (.len .sl (.t 6))⟩,  ⟨(some 8), none, .op (.mv (.v (.int .i64 0)))⟩] []
def c75_3 : FC := .reg [⟨(some 10), none, .op (.mv (.t 8))⟩,  ⟨(some 5), none, .op (.mv (.t 10))⟩] []
def c75_4 : FC := .reg [⟨(some 11), none, .op (.mv (.t 1))⟩,  ⟨(some 12), none, .op (.mv (.t 0))⟩,  ⟨(some 13), none, .op (.mv (.t 5))⟩,  ⟨(some 14), none, .op (.iad none (some 4) (.t 12) (.t 13))⟩,  ⟨(some 15), none, .op (.load (some 4) (.t 14))⟩,  ⟨(some 16), none, .callv (.t 11) [(.t 15)]⟩] []
def c75_5 : FC := .reg [⟨(some 17), none, .op (.mv (.t 5))⟩,  ⟨(some 4), none, .op (.mv (.t 17))⟩] []
def c75_6 : FC := .seq c75_5 FC.ret
def c75_7 : FC := .cond (.t 16) c75_6 FC.skip
def c75_8 : FC := .seq c75_4 c75_7
def c75_9 : FC := .seq c75_3 c75_8
def c75_10 : FC := .loop (.seq (.reg [⟨(some 9), none, .op (.bin .none .lss (.t 8) (.t 7))⟩] []) (.seq (.cond (.t 9) .skip (.exit 0)) (.seq (.block 1 c75_9) (.reg [⟨(some 18), none, .op (.bin .none .add (.t 8) (.v (.int .i64 1)))⟩,  ⟨(some 8), none, .op (.mv (.t 18))⟩] []))))
def c75_11 : FC := .block 0 c75_10
def c75_12 : FC := .seq c75_2 c75_11
def c75_13 : FC := .reg [⟨(some 4), none, .op (.mv (.v (.int .i64 (-1))))⟩] []
def c75_14 : FC := .seq c75_13 FC.ret
def c75_15 : FC := .seq c75_12 c75_14
def c75_16 : FC := .seq c75_1 c75_15
def fc75 : FC := c75_16
theorem fn75 : Fn3 Tryd.prog 75 19 [(4, none)] fc75 := ⟨_, _, Tryd.func75, rfl, rfl, rfl, by kernel_rfl⟩
def c49_1 : FC := .reg [⟨(some 4), none, .op (.mv (.v .nils))⟩] []
def c49_2 : FC := .reg [⟨(some 8), none, .op (.mv (.t 0))⟩,  ⟨(some 9), none, .op (.mv (.t 1))⟩,  ⟨(some 10), none, .call 75 [(.t 8), (.t 9)]⟩,  ⟨(some 5), none, .op (.mv (.t 10))⟩] []
def c49_3 : FC := .reg [⟨(some 11), none, .op (.mv (.t 5))⟩,  ⟨(some 12), none, .op (.bin .none .eql (.t 11) (.v (.int .i64 (-1))))⟩] []
def c49_4 : FC := .reg [⟨(some 13), none, .op (.mv (.t 0))⟩,  ⟨(some 4), none, .op (.mv (.t 13))⟩] []
def c49_5 : FC := .seq c49_4 FC.ret
def c49_6 : FC := .cond (.t 12) c49_5 FC.skip
def c49_7 : FC := .seq c49_3 c49_6
def c49_8 : FC := .reg [⟨(some 14), none, .op (.mv (.t 5))⟩,  ⟨(some 15), none, .op (.bin .none .add (.t 14) (.v (.int .i64 1)))⟩,  ⟨(some 6), none, .op (.mv (.t 15))⟩] []
def c49_9 : FC := .reg [⟨(some 16), none, .op (.mv (.t 6))⟩,  ⟨(some 17), none, .op (.mv (.t 0))⟩,  ⟨(some 18), none, .op (.len .sl (.t 17))⟩,  ⟨(some 19), none, .op (.bin .none .lss (.t 16) (.t 18))⟩] []
def c49_10 : FC := .cond (.t 19) FC.skip (FC.exit 0)
def c49_11 : FC := .seq c49_9 c49_10
def c49_12 : FC := .reg [⟨(some 22), none, .op (.mv (.t 0))⟩,  ⟨(some 23), none, .op (.mv (.t 6))⟩,  ⟨(some 24), none, .op (.iad none (some 4) (.t 22) (.t 23))⟩,  ⟨(some 25), none, .op (.load (some 4) (.t 24))⟩,  ⟨(some 7), none, .op (.new [(.int .i64 0), (.int .i64 0), (.int .i64 0), (.bool false)])⟩,  ⟨none, none, .op (.store 4 (.t 7) (.t 25))⟩] []
def c49_13 : FC := .reg [⟨(some 26), none, .op (.mv (.t 1))⟩,  ⟨(some 27), none, .op (.load (some 4) (.t 7))⟩,  ⟨(some 28), none, .callv (.t 26) [(.t 27)]⟩,  ⟨(some 29), none, .op (.un .not (.t 28))⟩] []
def c49_14 : FC := .reg [⟨(some 30), none, .op (.mv (.t 0))⟩,  ⟨(some 31), none, .op (.mv (.t 5))⟩,  ⟨(some 32), none, .op (.load (some 4) (.t 7))⟩,  ⟨(some 33), none, .op (.iad none (some 4) (.t 30) (.t 31))⟩,  ⟨none, none, .op (.store 4 (.t 33) (.t 32))⟩] []
def c49_15 : FC := .reg [⟨(some 34), none, .op (.mv (.t 5))⟩,  ⟨(some 35), none, .op (.bin .none .add (.t 34) (.v (.int .i64 1)))⟩,  ⟨(some 5), none, .op (.mv (.t 35))⟩] []
def c49_16 : FC := .seq c49_14 c49_15
def c49_17 : FC := .cond (.t 29) c49_16 FC.skip
def c49_18 : FC := .seq c49_13 c49_17
def c49_19 : FC := .seq c49_12 c49_18
def c49_20 : FC := .block 1 c49_19
def c49_21 : FC := .reg [⟨(some 20), none, .op (.mv (.t 6))⟩,  ⟨(some 21), none, .op (.bin .none .add (.t 20) (.v (.int .i64 1)))⟩,  ⟨(some 6), none, .op (.mv (.t 21))⟩] []
def c49_22 : FC := .seq c49_20 c49_21
def c49_23 : FC := .seq c49_11 c49_22
def c49_24 : FC := .loop c49_23
def c49_25 : FC := .block 0 c49_24
def c49_26 : FC := .seq c49_8 c49_25
def c49_27 : FC := .reg [⟨(some 36), none, .op (.mv (.t 0))⟩,  ⟨(some 37), none, .op (.mv (.t 5))⟩,  ⟨(some 38), none, .op (.slc (some 4) (.t 36) (some (.t 37)) none none)⟩,  ⟨none, none, .op (.clr (some 4) [(.int .i64 0), (.int .i64 0), (.int .i64 0), (.bool false)] (.t 38))⟩] []
def c49_28 : FC := .reg [⟨(some 39), none, .op (.mv (.t 0))⟩,  ⟨(some 40), none, .op (.mv (.t 5))⟩,  ⟨(some 41), none, .op (.slc (some 4) (.t 39) none (some (.t 40)) none)⟩,  ⟨(some 4), none, .op (.mv (.t 41))⟩] []
def c49_29 : FC := .seq c49_28 FC.ret
def c49_30 : FC := .seq c49_27 c49_29
def c49_31 : FC := .seq c49_26 c49_30
def c49_32 : FC := .seq c49_7 c49_31
def c49_33 : FC := .seq c49_2 c49_32
def c49_34 : FC := .seq c49_1 c49_33
def fc49 : FC := c49_34
theorem fn49 : Fn3 Tryd.prog 49 42 [(4, none)] fc49 := ⟨_, _, Tryd.func49, rfl, rfl, rfl, by kernel_rfl⟩

def wk1 (a : Int) (x : Interval) : Interval := ⟨x.Place, if a < x.From then a else x.From, if a > x.To then a else x.To, x.Held⟩
def wkP (a : Int) (all : List Interval) (p : Int) : List Interval := all.modify p.toNat (wk1 a)
theorem wkP_len (a : Int) (all : List Interval) (p : Int) : (wkP a all p).length = all.length := by unfold wkP; simp
theorem wkF_len (a : Int) : ∀ (ps : List Int) (all : List Interval), (ps.foldl (wkP a) all).length = all.length
  | [], _ => rfl
  | p :: ps, all => by rw [List.foldl_cons, wkF_len a ps, wkP_len]
theorem modify_set {α : Type} {l : List α} {i : Nat} {x : α} {f : α → α} (h : l[i]? = some x) : l.modify i f = l.set i (f x) := by
  apply List.ext_getElem?
  intro k
  have hi := (List.getElem?_eq_some_iff.1 h).1
  rw [List.getElem?_modify, List.getElem?_set]
  by_cases e : i = k
  · subst e; rw [if_pos rfl, if_pos hi, h]; simp
  · rw [if_neg e]; simp [e]
theorem work_tri {all : List Interval} {oc oa va : Nat} {a : Int} {ps : List Int} (hp : ∀ p ∈ ps, 0 ≤ p ∧ p < all.length) (hl : ps.length ≤ 4611686018427387904) :
    Tri Tryd.prog 46 [.int .i64 a, .sl false 1 (ps.map (avI .i64)), .ptr oc 0 0] [(oc, 0, [.ref oa va 0 all.length (some 4)]), (oa, va, flat Interval.av all)]
      (fun _ L' => L' = [(oc, 0, [.ref oa va 0 all.length (some 4)]), (oa, va, flat Interval.av (ps.foldl (wkP a) all))]) := by
  refine Tri_of mixed fn46 (by simp) [] (fun R S hS => ?_)
  have hne : oa ≠ oc := by
    have := hS.2
    simp at this
    intro e; exact this.1.1 e.symm
  (repeat (first | refine E_mv (by conv => lhs; whnf) ?_ | refine E_lenR rfl ?_ | refine E_len rfl ?_ | refine E_op0 rfl (by conv => lhs; whnf) ?_ | refine E_nil ?_ | refine E_nx ?_ | refine E_as ?_ | refine E_sq ?_ | refine E_reg ?_ | refine E_skip ?_ | refine E_gh rfl ?_ | refine E_gm rfl ?_ | refine E_gz rfl ?_))
  refine EL_rni ps.length (fun s : List Interval => [(0, .int .i64 a), (7, .sl false 1 (ps.map (avI .i64))), (2, .ptr oc 0 0)]) (fun s => (oc, 0, [.ref oa va 0 all.length (some 4)]) :: (oa, va, flat Interval.av s) :: R) (fun i s => s.length = all.length ∧ (ps.drop i).foldl (wkP a) s = ps.foldl (wkP a) all) all hS ⟨rfl, rfl⟩
    (wk_fr ⟨.refl _, .refl _, .refl _, .refl _, .refl _, trivial⟩) hl (by decide) (by decide) (fun _ => ⟨rfl, rfl, rfl, rfl⟩) (fun i s S hi hI hS => ?_) (fun s fr' S hI hS hw => ?_)
  · obtain ⟨hsl, hI⟩ := hI
    obtain ⟨p, hpi⟩ : ∃ p, ps[i]? = some p := ⟨ps[i], List.getElem?_eq_getElem hi⟩
    obtain ⟨hp0, hp1⟩ := hp p (List.mem_of_getElem? hpi)
    obtain ⟨x, hx⟩ : ∃ x, s[p.toNat]? = some x := ⟨s[p.toNat]'(by omega), List.getElem?_eq_getElem _⟩
    (repeat (first | refine E_mv (by conv => lhs; whnf) ?_ | refine E_lenR rfl ?_ | refine E_len rfl ?_ | refine E_op0 rfl (by conv => lhs; whnf) ?_ | refine E_nil ?_ | refine E_nx ?_ | refine E_as ?_ | refine E_sq ?_ | refine E_reg ?_ | refine E_skip ?_ | refine E_gh rfl ?_ | refine E_gm rfl ?_ | refine E_gz rfl ?_))
    refine E_iadF rfl rfl (getI_N hpi) ?_
    refine E_op0 (v' := .int .i64 p) rfl rfl ?_
    (repeat (first | refine E_mv (by conv => lhs; whnf) ?_ | refine E_lenR rfl ?_ | refine E_len rfl ?_ | refine E_op0 rfl (by conv => lhs; whnf) ?_ | refine E_nil ?_ | refine E_nx ?_ | refine E_as ?_ | refine E_sq ?_ | refine E_reg ?_ | refine E_skip ?_ | refine E_gh rfl ?_ | refine E_gm rfl ?_ | refine E_gz rfl ?_))
    refine E_regp ?_
    have h11 : (oc, 0, [AV.ref oa va 0 all.length (some 4)]) ∈ (oc, 0, [AV.ref oa va 0 all.length (some 4)]) :: (oa, va, flat Interval.av s) :: R := .head _
    refine E_ldS hS rfl (by first | exact .head _ | exact .tail _ (.head _) | exact .tail _ (.tail _ (.head _)) | simp) rfl ?_
    refine E_mv (by conv => lhs; whnf) ?_
    refine E_ldS hS rfl (by first | exact .head _ | exact .tail _ (.head _) | exact .tail _ (.tail _ (.head _)) | simp) rfl ?_
    refine E_mv (by conv => lhs; whnf) ?_
    refine E_ldS hS rfl (by first | exact .head _ | exact .tail _ (.head _) | exact .tail _ (.tail _ (.head _)) | simp) rfl ?_
    refine E_mv (by conv => lhs; whnf) ?_
    refine E_iadR rfl rfl ⟨by omega, by omega⟩ ?_
    (repeat (first | refine E_mv (by conv => lhs; whnf) ?_ | refine E_lenR rfl ?_ | refine E_len rfl ?_ | refine E_op0 rfl (by conv => lhs; whnf) ?_))
    refine E_ldL0 hS Interval.enc rfl (by first | exact .head _ | exact .tail _ (.head _) | exact .tail _ (.tail _ (.head _)) | simp) (n := p.toNat) (fo := 1) (y := x) (v := .int .i64 x.From) (by simp [szOf]) hx rfl ?_
    (repeat (first | refine E_mv (by conv => lhs; whnf) ?_ | refine E_lenR rfl ?_ | refine E_len rfl ?_ | refine E_op0 rfl (by conv => lhs; whnf) ?_))
    refine E_ldS hS rfl (by first | exact .head _ | exact .tail _ (.head _) | exact .tail _ (.tail _ (.head _)) | simp) rfl ?_
    refine E_mv (by conv => lhs; whnf) ?_
    refine E_iadR rfl rfl ⟨by omega, by omega⟩ ?_
    (repeat (first | refine E_mv (by conv => lhs; whnf) ?_ | refine E_lenR rfl ?_ | refine E_len rfl ?_ | refine E_op0 rfl (by conv => lhs; whnf) ?_))
    refine E_ldL0 hS Interval.enc rfl (by first | exact .head _ | exact .tail _ (.head _) | exact .tail _ (.tail _ (.head _)) | simp) (n := p.toNat) (fo := 2) (y := x) (v := .int .i64 x.To) (by simp [szOf]) hx rfl ?_
    (repeat (first | refine E_mv (by conv => lhs; whnf) ?_ | refine E_lenR rfl ?_ | refine E_len rfl ?_ | refine E_op0 rfl (by conv => lhs; whnf) ?_))
    refine E_iadR rfl rfl ⟨by omega, by omega⟩ ?_
    (repeat (first | refine E_mv (by conv => lhs; whnf) ?_ | refine E_lenR rfl ?_ | refine E_len rfl ?_ | refine E_op0 rfl (by conv => lhs; whnf) ?_))
    refine E_stL0 hS Interval.enc rfl (by conv => lhs; whnf) (n := p.toNat) (fo := 1) (y := x) (y' := ⟨x.Place, if a < x.From then a else x.From, x.To, x.Held⟩) (by simp [szOf]) hx (by first | exact Rp.here | (repeat (first | exact Rp.here | apply Rp.there | apply Rp.skip))) rfl rfl (by simp [szOf]) rfl (fun S hS => ?_)
    refine E_iadR rfl rfl ⟨by omega, by omega⟩ ?_
    (repeat (first | refine E_mv (by conv => lhs; whnf) ?_ | refine E_lenR rfl ?_ | refine E_len rfl ?_ | refine E_op0 rfl (by conv => lhs; whnf) ?_))
    refine E_stL0 (l := s.set p.toNat ⟨x.Place, if a < x.From then a else x.From, x.To, x.Held⟩) hS Interval.enc rfl (by conv => lhs; whnf) (n := p.toNat) (fo := 2) (y := ⟨x.Place, if a < x.From then a else x.From, x.To, x.Held⟩) (y' := wk1 a x) (by simp [szOf]) (by rw [List.getElem?_set_self (by omega)]) (by first | exact Rp.here | (repeat (first | exact Rp.here | apply Rp.there | apply Rp.skip))) rfl rfl (by simp [szOf]) rfl (fun S hS => ?_)
    refine E_nil ?_
    refine And.intro (by simp [okLog, nthL, okPair, fpOf, hne]) ?_
    have hw : wkP a s p = s.set p.toNat (wk1 a x) := modify_set hx
    refine R_n (wkP a s p) ⟨by rw [wkP_len]; exact hsl, ?_⟩ (by rw [hw]; simpa using hS) (wk_fr ⟨.refl _, .refl _, .refl _, .refl _, .refl _, trivial⟩)
    rw [drop_cons hpi, List.foldl_cons] at hI
    exact hI
  · obtain ⟨hsl, hI⟩ := hI
    rw [List.drop_length] at hI
    simp only [List.foldl_nil] at hI
    subst hI
    (repeat (first | refine E_the ?_ | refine E_ble ?_ | refine E_blo rfl ?_ | refine E_thr ?_ | refine E_blr ?_ | refine E_bln ?_))
    exact ⟨trivial, _, rfl, _, rfl, hS⟩
def gone (x : Interval) : Bool := decide (x.To < 0)
theorem gone_ev (x : Interval) : PureEv Tryd.prog 50 [(Interval.av x)] (.bool (gone x)) := order_Spans_2_ev rfl
theorem call50 : callable Tryd.prog 50 = true := by kernel_rfl
def ixV (all : List Interval) : Int := match all.findIdx? gone with | some i => (i : Int) | none => -1
theorem index_tri {all : List Interval} {oa va : Nat} (hl : all.length ≤ 4611686018427387904) :
    Tri Tryd.prog 75 [.ref oa va 0 all.length (some 4), .fn (.func 50) [] []] [(oa, va, flat Interval.av all)] (fun r L' => r = .int .i64 (ixV all) ∧ L' = [(oa, va, flat Interval.av all)]) := by
  refine Tri_of mixed fn75 (by simp) [] (fun R S hS => ?_)
  (repeat (first | refine E_mv (by conv => lhs; whnf) ?_ | refine E_lenR rfl ?_ | refine E_len rfl ?_ | refine E_op0 rfl (by conv => lhs; whnf) ?_ | refine E_nil ?_ | refine E_nx ?_ | refine E_as ?_ | refine E_sq ?_ | refine E_reg ?_ | refine E_skip ?_ | refine E_gh rfl ?_ | refine E_gm rfl ?_ | refine E_gz rfl ?_))
  refine EL_rni all.length (fun _ : Unit => [(0, .ref oa va 0 all.length (some 4)), (1, .fn (.func 50) [] [])]) (fun _ => (oa, va, flat Interval.av all) :: R) (fun i _ => ∀ k, k < i → ∀ x, all[k]? = some x → gone x = false) () hS (fun k hk => absurd hk (Nat.not_lt_zero k))
    (wk_fr ⟨.refl _, .refl _, .refl _, .refl _, trivial⟩) hl (by decide) (by decide) (fun _ => ⟨rfl, rfl, rfl, rfl⟩) (fun i s S hi hI hS => ?_) (fun s fr' S hI hS hw => ?_)
  · obtain ⟨x, hx⟩ : ∃ x, all[i]? = some x := ⟨all[i], List.getElem?_eq_getElem hi⟩
    (repeat (first | refine E_mv (by conv => lhs; whnf) ?_ | refine E_lenR rfl ?_ | refine E_len rfl ?_ | refine E_op0 rfl (by conv => lhs; whnf) ?_ | refine E_nil ?_ | refine E_nx ?_ | refine E_as ?_ | refine E_sq ?_ | refine E_reg ?_ | refine E_skip ?_ | refine E_gh rfl ?_ | refine E_gm rfl ?_ | refine E_gz rfl ?_))
    refine E_iadR rfl rfl ⟨by omega, by omega⟩ ?_
    refine E_ldL0 hS Interval.enc rfl (by first | exact .head _ | exact .tail _ (.head _) | exact .tail _ (.tail _ (.head _)) | simp) (n := i) (fo := 0) (y := x) (v := Interval.av x) (by simp [szOf]) hx rfl ?_
    refine E_callvW rfl call50 (gone_ev x) rfl ⟨(.refl _), trivial⟩ (blwL_of ⟨(Interval.enc.blw _ 0), trivial⟩) rfl ?_
    (repeat (first | refine E_mv (by conv => lhs; whnf) ?_ | refine E_lenR rfl ?_ | refine E_len rfl ?_ | refine E_op0 rfl (by conv => lhs; whnf) ?_ | refine E_nil ?_ | refine E_nx ?_ | refine E_as ?_ | refine E_sq ?_ | refine E_reg ?_ | refine E_skip ?_ | refine E_gh rfl ?_ | refine E_gm rfl ?_ | refine E_gz rfl ?_))
    refine E_cs rfl (fun hb => ?_) (fun hb => ?_)
    · (repeat (first | refine E_mv (by conv => lhs; whnf) ?_ | refine E_lenR rfl ?_ | refine E_len rfl ?_ | refine E_op0 rfl (by conv => lhs; whnf) ?_ | refine E_nil ?_ | refine E_nx ?_ | refine E_as ?_ | refine E_sq ?_ | refine E_reg ?_ | refine E_skip ?_ | refine E_gh rfl ?_ | refine E_gm rfl ?_ | refine E_gz rfl ?_))
      refine E_ret ?_
      (repeat (first | refine E_the ?_ | refine E_ble ?_ | refine E_blo rfl ?_ | refine E_thr ?_ | refine E_blr ?_ | refine E_bln ?_))
      refine R_r ?_
      (repeat (first | refine E_the ?_ | refine E_ble ?_ | refine E_blo rfl ?_ | refine E_thr ?_ | refine E_blr ?_ | refine E_bln ?_))
      refine ⟨trivial, _, rfl, _, ⟨?_, rfl⟩, hS⟩
      have : all.findIdx? gone = some i := by
        rw [List.findIdx?_eq_some_iff_getElem]
        obtain ⟨h1, h2⟩ := List.getElem?_eq_some_iff.1 hx
        refine ⟨h1, by rw [h2]; exact hb, fun k hk => ?_⟩
        have := hI k hk _ (List.getElem?_eq_getElem (by omega))
        simp [this]
      simp only [ixV, this]; rfl
    · (repeat (first | refine E_mv (by conv => lhs; whnf) ?_ | refine E_lenR rfl ?_ | refine E_len rfl ?_ | refine E_op0 rfl (by conv => lhs; whnf) ?_ | refine E_nil ?_ | refine E_nx ?_ | refine E_as ?_ | refine E_sq ?_ | refine E_reg ?_ | refine E_skip ?_ | refine E_gh rfl ?_ | refine E_gm rfl ?_ | refine E_gz rfl ?_))
      refine R_n () (fun k hk y hy => ?_) hS (wk_fr ⟨.refl _, .refl _, .refl _, .refl _, trivial⟩)
      by_cases e : k = i
      · subst e; rw [hx] at hy; cases hy; exact hb
      · exact hI k (by omega) y hy
  · refine E_nxw hw ?_
    (repeat (first | refine E_mv (by conv => lhs; whnf) ?_ | refine E_lenR rfl ?_ | refine E_len rfl ?_ | refine E_op0 rfl (by conv => lhs; whnf) ?_ | refine E_nil ?_ | refine E_nx ?_ | refine E_as ?_ | refine E_sq ?_ | refine E_reg ?_ | refine E_skip ?_ | refine E_gh rfl ?_ | refine E_gm rfl ?_ | refine E_gz rfl ?_))
    refine E_ret ?_
    refine ⟨trivial, _, rfl, _, ⟨?_, rfl⟩, hS⟩
    have : all.findIdx? gone = none := by
      rw [List.findIdx?_eq_none_iff]
      intro x hx
      obtain ⟨k, hk, rfl⟩ := List.mem_iff_getElem.1 hx
      exact hI k hk _ (List.getElem?_eq_getElem hk)
    simp only [ixV, this]; rfl
structure DelI (all c : List Interval) (i k : Nat) : Prop where
  len : c.length = all.length
  ik : i < k
  ki : k ≤ all.length
  fst : c.take i = (all.take k).filter (fun x => !gone x)
  rst : c.drop k = all.drop k
def DelQ (all : List Interval) (oa va : Nat) (r : AV) (L' : List It) : Prop := ∃ j, r = .ref oa va 0 (all.filter fun x => !gone x).length (some 4) ∧ L' = [(oa, va, flat Interval.av (all.filter fun x => !gone x) ++ j)] ∧ blwL 0 j = true ∧ j.all AV.one = true
theorem del_tri {all : List Interval} {oa va : Nat} (hl : all.length ≤ 4096) :
    Tri Tryd.prog 49 [.ref oa va 0 all.length (some 4), .fn (.func 50) [] []] [(oa, va, flat Interval.av all)] (DelQ all oa va) := by
  refine Tri_of mixed fn49 (by simp) [7] (fun R S hS => ?_)
  (repeat (first | refine E_mv (by conv => lhs; whnf) ?_ | refine E_lenR rfl ?_ | refine E_len rfl ?_ | refine E_op0 rfl (by conv => lhs; whnf) ?_ | refine E_nil ?_ | refine E_nx ?_ | refine E_as ?_ | refine E_sq ?_ | refine E_reg ?_ | refine E_skip ?_ | refine E_gh rfl ?_ | refine E_gm rfl ?_ | refine E_gz rfl ?_))
  refine E_cT (index_tri (by omega)) hS rfl (by repeat (first | exact Spl.nil | refine Spl.cons (by repeat (first | exact Pk.here | apply Pk.there | apply Pk.skip)) ?_ | refine Spl.app (by repeat (first | exact PkC.here | apply PkC.there | apply PkC.skip)) ?_)) (fun v S L' hv hS => ?_)
  obtain ⟨rfl, rfl⟩ := hv
  (repeat (first | refine E_mv (by conv => lhs; whnf) ?_ | refine E_lenR rfl ?_ | refine E_len rfl ?_ | refine E_op0 rfl (by conv => lhs; whnf) ?_ | refine E_nil ?_ | refine E_nx ?_ | refine E_as ?_ | refine E_sq ?_ | refine E_reg ?_ | refine E_skip ?_ | refine E_gh rfl ?_ | refine E_gm rfl ?_ | refine E_gz rfl ?_))
  cases hi : all.findIdx? gone with
  | none =>
    have e : ixV all = -1 := by simp only [ixV, hi]
    rw [e]
    refine E_ct rfl ?_
    (repeat (first | refine E_mv (by conv => lhs; whnf) ?_ | refine E_lenR rfl ?_ | refine E_len rfl ?_ | refine E_op0 rfl (by conv => lhs; whnf) ?_ | refine E_nil ?_ | refine E_nx ?_ | refine E_as ?_ | refine E_sq ?_ | refine E_reg ?_ | refine E_skip ?_ | refine E_gh rfl ?_ | refine E_gm rfl ?_ | refine E_gz rfl ?_))
    refine E_ret ?_
    (repeat (first | refine E_the ?_ | refine E_ble ?_ | refine E_blo rfl ?_ | refine E_thr ?_ | refine E_blr ?_ | refine E_bln ?_))
    rw [List.findIdx?_eq_none_iff] at hi
    have hf : (all.filter fun x => !gone x) = all := List.filter_eq_self.2 (fun x hx => by rw [hi x hx]; rfl)
    exact ⟨trivial, _, rfl, _, ⟨[], by rw [hf]; rfl, by rw [hf, List.append_nil], rfl, rfl⟩, hS⟩
  | some i0 =>
    have e : ixV all = (i0 : Int) := by simp only [ixV, hi]
    rw [e]
    rw [List.findIdx?_eq_some_iff_getElem] at hi
    obtain ⟨hi0, hg0, hlt0⟩ := hi
    refine E_cf (by simp [ev, Fr.get]) ?_
    (repeat (first | refine E_mv (by conv => lhs; whnf) ?_ | refine E_lenR rfl ?_ | refine E_len rfl ?_ | refine E_op0 rfl (by conv => lhs; whnf) ?_ | refine E_nil ?_ | refine E_nx ?_ | refine E_as ?_ | refine E_sq ?_ | refine E_reg ?_ | refine E_skip ?_ | refine E_gh rfl ?_ | refine E_gm rfl ?_ | refine E_gz rfl ?_))
    have hwi : IntKind.i64.wrap ((i0 : Int) + 1) = ((i0 + 1 : Nat) : Int) := by rw [wrap_i64 (by omega)]; omega
    refine E_block (EL_loop (σ := List Interval × Nat × Nat) (fun s => [(0, .ref oa va 0 all.length (some 4)), (1, .fn (.func 50) [] []), (5, .int .i64 s.2.1), (6, .int .i64 s.2.2)]) (fun s => (oa, va, flat Interval.av s.1) :: R) (fun s => DelI all s.1 s.2.1 s.2.2) (fun s => all.length - s.2.2) (all, i0, i0 + 1) hS ?_
      (wk_fr ⟨.refl _, .refl _, .refl _, by rw [← hwi]; exact .refl _, trivial⟩) (fun s S hI hS => ?_))
    · refine ⟨rfl, Nat.lt_succ_self _, hi0, ?_, rfl⟩
      rw [List.take_succ_eq_append_getElem hi0, List.filter_append]
      have h1 : (all.take i0).filter (fun x => !gone x) = all.take i0 := List.filter_eq_self.2 (fun x hx => by
        obtain ⟨k, hk, rfl⟩ := List.mem_iff_getElem.1 hx
        have hk' : k < i0 := by rw [List.length_take] at hk; omega
        rw [List.getElem_take]
        have := hlt0 k hk'
        simp at this; simp [this])
      rw [h1]
      simp [hg0]
    · obtain ⟨c, i, k⟩ := s
      dsimp only at hI hS
      (repeat (first | refine E_mv (by conv => lhs; whnf) ?_ | refine E_lenR rfl ?_ | refine E_len rfl ?_ | refine E_op0 rfl (by conv => lhs; whnf) ?_ | refine E_nil ?_ | refine E_nx ?_ | refine E_as ?_ | refine E_sq ?_ | refine E_reg ?_ | refine E_skip ?_ | refine E_gh rfl ?_ | refine E_gm rfl ?_ | refine E_gz rfl ?_))
      dsimp only
      refine E_cs rfl (fun hb => ?_) (fun hb => ?_)
      · have hk : k < all.length := by simpa using hb
        obtain ⟨x, hx⟩ : ∃ x, all[k]? = some x := ⟨all[k], List.getElem?_eq_getElem hk⟩
        have hcx : c[k]? = some x := by
          have := congrArg (fun l => l[0]?) hI.rst
          simp only [List.getElem?_drop, Nat.add_zero] at this
          rw [this]; exact hx
        have hwk : IntKind.i64.wrap ((k : Int) + 1) = ((k + 1 : Nat) : Int) := by rw [wrap_i64 (by omega)]; omega
        have hwi2 : IntKind.i64.wrap ((i : Int) + 1) = ((i + 1 : Nat) : Int) := by have := hI.ik; rw [wrap_i64 (by omega)]; omega
        have htk : all.take (k + 1) = all.take k ++ [x] := by
          obtain ⟨h1, h2⟩ := List.getElem?_eq_some_iff.1 hx
          rw [List.take_succ_eq_append_getElem h1, h2]
        have hlen := hI.len
        have hik := hI.ik
        (repeat (first | refine E_mv (by conv => lhs; whnf) ?_ | refine E_lenR rfl ?_ | refine E_len rfl ?_ | refine E_op0 rfl (by conv => lhs; whnf) ?_ | refine E_nil ?_ | refine E_nx ?_ | refine E_as ?_ | refine E_sq ?_ | refine E_reg ?_ | refine E_skip ?_ | refine E_gh rfl ?_ | refine E_gm rfl ?_ | refine E_gz rfl ?_))
        refine E_block ?_
        (repeat (first | refine E_mv (by conv => lhs; whnf) ?_ | refine E_lenR rfl ?_ | refine E_len rfl ?_ | refine E_op0 rfl (by conv => lhs; whnf) ?_ | refine E_nil ?_ | refine E_nx ?_ | refine E_as ?_ | refine E_sq ?_ | refine E_reg ?_ | refine E_skip ?_ | refine E_gh rfl ?_ | refine E_gm rfl ?_ | refine E_gz rfl ?_))
        refine E_iadR rfl rfl ⟨by omega, by omega⟩ ?_
        refine E_ldL0 hS Interval.enc rfl (by first | exact .head _ | exact .tail _ (.head _) | exact .tail _ (.tail _ (.head _)) | simp) (n := k) (fo := 0) (y := x) (v := Interval.av x) (by simp [szOf]) hcx rfl ?_
        refine E_nwS hS rfl (fun o7 S hS => ?_)
        refine E_stS hS rfl (by conv => lhs; whnf) (by first | exact Rp.here | (repeat (first | exact Rp.here | apply Rp.there | apply Rp.skip))) rfl rfl (by first | exact Nat.le_of_ble_eq_true rfl | (simp; omega) | omega) (fun S hS => ?_)
        (repeat (first | refine E_mv (by conv => lhs; whnf) ?_ | refine E_lenR rfl ?_ | refine E_len rfl ?_ | refine E_op0 rfl (by conv => lhs; whnf) ?_ | refine E_nil ?_ | refine E_nx ?_ | refine E_as ?_ | refine E_sq ?_ | refine E_reg ?_ | refine E_skip ?_ | refine E_gh rfl ?_ | refine E_gm rfl ?_ | refine E_gz rfl ?_))
        replace hS : Sep S ((o7, 0, (Interval.av x).cells) :: (oa, va, flat Interval.av c) :: R) := hS
        refine E_ldS hS rfl (by first | exact .head _ | exact .tail _ (.head _) | exact .tail _ (.tail _ (.head _)) | simp) (v := Interval.av x) rfl ?_
        refine E_callvW rfl call50 (gone_ev x) rfl ⟨(.refl _), trivial⟩ (blwL_of ⟨(Interval.enc.blw _ 0), trivial⟩) rfl ?_
        (repeat (first | refine E_mv (by conv => lhs; whnf) ?_ | refine E_lenR rfl ?_ | refine E_len rfl ?_ | refine E_op0 rfl (by conv => lhs; whnf) ?_ | refine E_nil ?_ | refine E_nx ?_ | refine E_as ?_ | refine E_sq ?_ | refine E_reg ?_ | refine E_skip ?_ | refine E_gh rfl ?_ | refine E_gm rfl ?_ | refine E_gz rfl ?_))
        cases hgx : gone x with
        | true =>
          refine E_cf rfl ?_
          (repeat (first | refine E_mv (by conv => lhs; whnf) ?_ | refine E_lenR rfl ?_ | refine E_len rfl ?_ | refine E_op0 rfl (by conv => lhs; whnf) ?_ | refine E_nil ?_ | refine E_nx ?_ | refine E_as ?_ | refine E_sq ?_ | refine E_reg ?_ | refine E_skip ?_ | refine E_gh rfl ?_ | refine E_gm rfl ?_ | refine E_gz rfl ?_))
          (repeat (first | refine E_the ?_ | refine E_ble ?_ | refine E_blo rfl ?_ | refine E_thr ?_ | refine E_blr ?_ | refine E_bln ?_))
          (repeat (first | refine E_mv (by conv => lhs; whnf) ?_ | refine E_lenR rfl ?_ | refine E_len rfl ?_ | refine E_op0 rfl (by conv => lhs; whnf) ?_ | refine E_nil ?_ | refine E_nx ?_ | refine E_as ?_ | refine E_sq ?_ | refine E_reg ?_ | refine E_skip ?_ | refine E_gh rfl ?_ | refine E_gm rfl ?_ | refine E_gz rfl ?_))
          refine ⟨(c, i, k + 1), ⟨hlen, by simp only; omega, hk, ?_, ?_⟩, by simp only; omega, hS.sub (List.sublist_cons_self _ _), wk_fr ⟨.refl _, .refl _, .refl _, by simp only; rw [← hwk]; exact .refl _, trivial⟩⟩
          · rw [htk, List.filter_append, hI.fst]; simp [hgx]
          · have := congrArg (List.drop 1) hI.rst
            simpa [List.drop_drop] using this
        | false =>
          refine E_ct rfl ?_
          (repeat (first | refine E_mv (by conv => lhs; whnf) ?_ | refine E_lenR rfl ?_ | refine E_len rfl ?_ | refine E_op0 rfl (by conv => lhs; whnf) ?_ | refine E_nil ?_ | refine E_nx ?_ | refine E_as ?_ | refine E_sq ?_ | refine E_reg ?_ | refine E_skip ?_ | refine E_gh rfl ?_ | refine E_gm rfl ?_ | refine E_gz rfl ?_))
          refine E_ldS hS rfl (by first | exact .head _ | exact .tail _ (.head _) | exact .tail _ (.tail _ (.head _)) | simp) (v := Interval.av x) rfl ?_
          obtain ⟨y, hy⟩ : ∃ y, c[i]? = some y := ⟨c[i]'(by omega), List.getElem?_eq_getElem _⟩
          refine E_iadR rfl rfl ⟨by omega, by omega⟩ ?_
          refine E_stL0 (l := c) hS Interval.enc rfl (by conv => lhs; whnf) (n := i) (fo := 0) (y := y) (y' := x) (by simp [szOf]) hy (by first | exact Rp.here | (repeat (first | exact Rp.here | apply Rp.there | apply Rp.skip))) rfl rfl (by simp [szOf]) rfl (fun S hS => ?_)
          (repeat (first | refine E_mv (by conv => lhs; whnf) ?_ | refine E_lenR rfl ?_ | refine E_len rfl ?_ | refine E_op0 rfl (by conv => lhs; whnf) ?_ | refine E_nil ?_ | refine E_nx ?_ | refine E_as ?_ | refine E_sq ?_ | refine E_reg ?_ | refine E_skip ?_ | refine E_gh rfl ?_ | refine E_gm rfl ?_ | refine E_gz rfl ?_))
          (repeat (first | refine E_the ?_ | refine E_ble ?_ | refine E_blo rfl ?_ | refine E_thr ?_ | refine E_blr ?_ | refine E_bln ?_))
          (repeat (first | refine E_mv (by conv => lhs; whnf) ?_ | refine E_lenR rfl ?_ | refine E_len rfl ?_ | refine E_op0 rfl (by conv => lhs; whnf) ?_ | refine E_nil ?_ | refine E_nx ?_ | refine E_as ?_ | refine E_sq ?_ | refine E_reg ?_ | refine E_skip ?_ | refine E_gh rfl ?_ | refine E_gm rfl ?_ | refine E_gz rfl ?_))
          refine ⟨(c.set i x, i + 1, k + 1), ⟨by simp [hlen], by simp only; omega, hk, ?_, ?_⟩, by simp only; omega, hS.sub (List.sublist_cons_self _ _), wk_fr ⟨.refl _, .refl _, by simp only; rw [← hwi2]; exact .refl _, by simp only; rw [← hwk]; exact .refl _, trivial⟩⟩
          · rw [htk, List.filter_append, ← hI.fst]
            rw [List.take_succ_eq_append_getElem (by simp; omega), List.take_set_of_le (Nat.le_refl _)]
            simp [hgx]
          · simp only; rw [List.drop_set_of_lt (by omega)]
            have := congrArg (List.drop 1) hI.rst
            simpa [List.drop_drop] using this
      · have hk : k = all.length := by have := hI.ki; simp at hb; omega
        subst hk
        refine E_exit ?_
        (repeat (first | refine E_the ?_ | refine E_ble ?_ | refine E_blo rfl ?_ | refine E_thr ?_ | refine E_blr ?_ | refine E_bln ?_))
        (repeat (first | refine E_mv (by conv => lhs; whnf) ?_ | refine E_lenR rfl ?_ | refine E_len rfl ?_ | refine E_op0 rfl (by conv => lhs; whnf) ?_ | refine E_nil ?_ | refine E_nx ?_ | refine E_as ?_ | refine E_sq ?_ | refine E_reg ?_ | refine E_skip ?_ | refine E_gh rfl ?_ | refine E_gm rfl ?_ | refine E_gz rfl ?_))
        have hik := hI.ik
        have hlen := hI.len
        refine E_slcR (a := i) (b := all.length) rfl (by simp [evO, ev, Fr.get, loN]) rfl ⟨by omega, by omega, .inr hik⟩ ?_
        have hfst : c.take i = all.filter (fun x => !gone x) := by rw [hI.fst, List.take_length]
        have hfl : (all.filter fun x => !gone x).length = i := by rw [← hfst, List.length_take]; omega
        have hsp : splice (flat Interval.av c) (0 + i * szOf (some 4)) (repl (all.length - i) [(.int .i64 0), (.int .i64 0), (.int .i64 0), (.bool false)]) = flat Interval.av (all.filter fun x => !gone x) ++ repl (all.length - i) [(.int .i64 0), (.int .i64 0), (.int .i64 0), (.bool false)] := by
          have e1 : flat Interval.av c = flat Interval.av (c.take i) ++ flat Interval.av (c.drop i) := by rw [← flat_append, List.take_append_drop]
          have e2 : 0 + i * szOf (some 4) = (flat Interval.av (c.take i)).length := by rw [Interval.enc.length, hfst, hfl]; omega
          rw [e1, e2, splice_all _ _ _ (by rw [repl_length, Interval.enc.length, List.length_drop, hlen]; simp [szOf]), hfst]
        refine E_clS hS rfl (by omega) rfl (by rw [hsp]; exact Rp.here) (fun S hS => ?_)
        (repeat (first | refine E_mv (by conv => lhs; whnf) ?_ | refine E_lenR rfl ?_ | refine E_len rfl ?_ | refine E_op0 rfl (by conv => lhs; whnf) ?_ | refine E_nil ?_ | refine E_nx ?_ | refine E_as ?_ | refine E_sq ?_ | refine E_reg ?_ | refine E_skip ?_ | refine E_gh rfl ?_ | refine E_gm rfl ?_ | refine E_gz rfl ?_))
        refine E_slcR (a := 0) (b := i) rfl rfl (by simp [evO, ev, Fr.get, hiN]) ⟨by omega, by omega, .inl rfl⟩ ?_
        (repeat (first | refine E_mv (by conv => lhs; whnf) ?_ | refine E_lenR rfl ?_ | refine E_len rfl ?_ | refine E_op0 rfl (by conv => lhs; whnf) ?_ | refine E_nil ?_ | refine E_nx ?_ | refine E_as ?_ | refine E_sq ?_ | refine E_reg ?_ | refine E_skip ?_ | refine E_gh rfl ?_ | refine E_gm rfl ?_ | refine E_gz rfl ?_))
        refine E_ret ?_
        refine ⟨trivial, _, rfl, _, ⟨_, ?_, rfl, ?_, ?_⟩, hS⟩
        · rw [hfl]; simp only [Nat.zero_mul, Nat.zero_add, Nat.sub_zero]; rfl
        · rw [blwL_iff]
          intro x hx
          unfold repl at hx
          rw [List.mem_flatten] at hx
          obtain ⟨l, hl1, hl2⟩ := hx
          rw [List.mem_replicate] at hl1
          obtain ⟨_, rfl⟩ := hl1
          simp at hl2
          rcases hl2 with rfl | rfl <;> rfl
        · rw [List.all_eq_true]
          intro x hx
          unfold repl at hx
          rw [List.mem_flatten] at hx
          obtain ⟨l, hl1, hl2⟩ := hx
          rw [List.mem_replicate] at hl1
          obtain ⟨_, rfl⟩ := hl1
          simp at hl2
          rcases hl2 with rfl | rfl <;> rfl
end Go.Proofs.YtgoejecjmodjiaaDoor

/- order.Spans: the walk. -/
namespace Go.Proofs.YtgoejecjmodjiaaDoor
open Go Go.Ab
set_option maxRecDepth 20000
set_option maxHeartbeats 2000000
set_option linter.unusedVariables false
set_option linter.unusedSimpArgs false
def c24_1 : FC := .reg [⟨(some 2), none, .op (.box (.t 0))⟩,  ⟨(some 4), none, .op (.mv (.v .nils))⟩,  ⟨(some 5), none, .op (.mv (.v (.int .i64 0)))⟩] []
def c24_2 : FC := .reg [⟨(some 20), none, .op (.load (some 1) (.t 2))⟩,  ⟨(some 21), none, .op (.mv (.t 1))⟩,  ⟨(some 22), none, .call 10 [(.t 20), (.t 21)]⟩,  ⟨(some 19), none, .op (.mv (.t 22))⟩,  ⟨(some 23), none, .op (.ext 0 (.t 19))⟩,  ⟨(some 24), none, .op (.ext 1 (.t 19))⟩,  ⟨(some 6), none, .op (.mv (.t 23))⟩,  ⟨(some 7), none, .op (.mv (.t 24))⟩] []
def c24_3 : FC := .reg [⟨(some 25), none, .op (.mv (.t 7))⟩,  ⟨(some 26), none, .op (.bin .none .neq (.t 25) (.v (.int .i64 0)))⟩] []
def c24_4 : FC := .reg [⟨(some 27), none, .op (.mv (.t 7))⟩,  ⟨(some 4), none, .op (.mv (.v .nils))⟩,  ⟨(some 5), none, .op (.mv (.t 27))⟩] []
def c24_5 : FC := .seq c24_4 FC.ret
def c24_6 : FC := .cond (.t 26) c24_5 FC.skip
def c24_7 : FC := .seq c24_3 c24_6
def c24_8 : FC := .reg [⟨(some 29), none, .op (.load (some 1) (.t 2))⟩,  ⟨(some 30), none, .op (.mv (.t 1))⟩,  ⟨(some 31), none, .call 11 [(.t 29), (.t 30)]⟩,  ⟨(some 28), none, .op (.mv (.t 31))⟩,  ⟨(some 32), none, .op (.ext 0 (.t 28))⟩,  ⟨(some 33), none, .op (.ext 1 (.t 28))⟩,  ⟨(some 8), none, .op (.mv (.t 32))⟩,  ⟨(some 9), none, .op (.mv (.t 33))⟩] []
def c24_9 : FC := .reg [⟨(some 34), none, .op (.fad 0 (.t 2))⟩,  ⟨(some 35), none, .op (.load none (.t 34))⟩,  ⟨(some 36), none, .op (.mv (.t 1))⟩,  ⟨(some 37), none, .op (.iad none (some 8) (.t 35) (.t 36))⟩,  ⟨(some 10), none, .op (.mv (.t 37))⟩] []
def c24_10 : FC := .reg [⟨(some 38), none, .op (.mv (.t 10))⟩,  ⟨(some 39), none, .op (.nchk (.t 38))⟩,  ⟨(some 40), none, .op (.fad 1 (.t 39))⟩,  ⟨(some 41), none, .op (.load none (.t 40))⟩,  ⟨(some 42), none, .op (.len .sl (.t 41))⟩,  ⟨(some 43), none, .op (.mksl (some 4) 32 [(.int .i64 0), (.int .i64 0), (.int .i64 0), (.bool false)] (.t 42) (.t 42))⟩,  ⟨(some 11), none, .op (.new [.nils])⟩,  ⟨none, none, .op (.store 1 (.t 11) (.t 43))⟩] []
def c24_11 : FC := .reg [⟨(some 44), none, .op (.load none (.t 11))⟩,  ⟨(some 45), none, .op (.len .sl (.t 44))⟩,  ⟨(some 46), none, .op (.mv (.v (.int .i64 0)))⟩] []
def c24_12 : FC := .reg [⟨(some 48), none, .op (.mv (.t 46))⟩,  ⟨(some 12), none, .op (.mv (.t 48))⟩] []
def c24_13 : FC := .reg [⟨(some 49), none, .op (.load none (.t 11))⟩,  ⟨(some 50), none, .op (.mv (.t 12))⟩,  ⟨(some 51), none, .op (.mv (.t 12))⟩,  ⟨(some 52), none, .op (.mv (.t 10))⟩,  ⟨(some 53), none, .op (.nchk (.t 52))⟩,  ⟨(some 54), none, .op (.fad 6 (.t 53))⟩,  ⟨(some 55), none, .op (.load none (.t 54))⟩,  ⟨(some 56), none, .op (.len .sl (.t 55))⟩,  ⟨(some 57), none, .op (.build [(.int .i64 0), (.int .i64 0), (.int .i64 0), (.bool false)] [(0, 1, (.t 51)), (1, 1, (.t 56)), (2, 1, (.v (.int .i64 (-1))))])⟩,  ⟨(some 58), none, .op (.iad none (some 4) (.t 49) (.t 50))⟩,  ⟨none, none, .op (.store 4 (.t 58) (.t 57))⟩] []
def c24_14 : FC := .seq c24_12 c24_13
def c24_15 : FC := .loop (.seq (.reg [⟨(some 47), none, .op (.bin .none .lss (.t 46) (.t 45))⟩] []) (.seq (.cond (.t 47) .skip (.exit 0)) (.seq (.block 1 c24_14) (.reg [⟨(some 59), none, .op (.bin .none .add (.t 46) (.v (.int .i64 1)))⟩,  ⟨(some 46), none, .op (.mv (.t 59))⟩] []))))
def c24_16 : FC := .block 0 c24_15
def c24_17 : FC := .seq c24_11 c24_16
def c24_18 : FC := .reg [⟨(some 60), none, .op (.mkf (.func 46) [] [(.t 11)])⟩,  ⟨(some 13), none, .op (.mv (.t 60))⟩] []
def c24_19 : FC := .reg [⟨(some 61), none, .op (.mv (.t 13))⟩,  ⟨(some 62), none, .op (.mv (.t 10))⟩,  ⟨(some 63), none, .op (.nchk (.t 62))⟩,  ⟨(some 64), none, .op (.fad 0 (.t 63))⟩,  ⟨(some 65), none, .op (.load none (.t 64))⟩,  ⟨(some 66), none, .callv (.t 61) [(.v (.int .i64 0)), (.t 65)]⟩] []
def c24_20 : FC := .reg [⟨(some 67), none, .op (.mv (.t 10))⟩,  ⟨(some 68), none, .call 45 [(.t 67)]⟩,  ⟨(some 69), none, .op (.len .sl (.t 68))⟩,  ⟨(some 70), none, .op (.mv (.v (.int .i64 0)))⟩] []
def c24_21 : FC := .reg [⟨(some 72), none, .op (.mv (.t 70))⟩,  ⟨(some 73), none, .op (.iad none none (.t 68) (.t 70))⟩,  ⟨(some 74), none, .op (.load none (.t 73))⟩,  ⟨(some 14), none, .op (.mv (.t 72))⟩,  ⟨(some 15), none, .op (.mv (.t 74))⟩] []
def c24_22 : FC := .reg [⟨(some 75), none, .op (.mv (.t 10))⟩,  ⟨(some 76), none, .op (.nchk (.t 75))⟩,  ⟨(some 77), none, .op (.fad 6 (.t 76))⟩,  ⟨(some 78), none, .op (.load none (.t 77))⟩,  ⟨(some 79), none, .op (.mv (.t 15))⟩,  ⟨(some 80), none, .op (.iad none (some 12) (.t 78) (.t 79))⟩,  ⟨(some 81), none, .op (.load (some 12) (.t 80))⟩,  ⟨(some 16), none, .op (.new [(.int .u8 0), (.int .u8 0), (.int .i64 0), (.int .i64 0), (.int .i64 0), (.int .i64 0), (.int .i64 0), (.int .i64 0), (.int .u64 0), .nils, (.int .i64 0), (.int .i64 0)])⟩,  ⟨none, none, .op (.store 12 (.t 16) (.t 81))⟩] []
def c24_23 : FC := .reg [⟨(some 82), none, .op (.mv (.t 13))⟩,  ⟨(some 83), none, .op (.mv (.t 14))⟩,  ⟨(some 84), none, .op (.mv (.t 6))⟩,  ⟨(some 85), none, .op (.mv (.t 15))⟩,  ⟨(some 86), none, .op (.iad none none (.t 84) (.t 85))⟩,  ⟨(some 87), none, .op (.load none (.t 86))⟩,  ⟨(some 88), none, .callv (.t 82) [(.t 83), (.t 87)]⟩] []
def c24_24 : FC := .reg [⟨(some 89), none, .op (.mv (.t 13))⟩,  ⟨(some 90), none, .op (.mv (.t 14))⟩,  ⟨(some 91), none, .op (.load (some 12) (.t 16))⟩,  ⟨(some 92), none, .call 47 [(.t 91)]⟩,  ⟨(some 93), none, .callv (.t 89) [(.t 90), (.t 92)]⟩] []
def c24_25 : FC := .reg [⟨(some 94), none, .op (.fad 0 (.t 16))⟩,  ⟨(some 95), none, .op (.load none (.t 94))⟩,  ⟨(some 96), none, .op (.bin .none .neq (.t 95) (.v (.int .u8 11)))⟩,  ⟨(some 97), none, .op (.mv (.t 96))⟩,  ⟨(some 98), some (97, true), .op (.fad 0 (.t 16))⟩,  ⟨(some 99), some (97, true), .op (.load none (.t 98))⟩,  ⟨(some 100), some (97, true), .op (.bin .none .neq (.t 99) (.v (.int .u8 13)))⟩,  ⟨(some 101), none, .op (.pick (.t 97) (.t 100) (.v (.bool false)))⟩] []
def c24_26 : FC := .cond (.t 101) (FC.exit 3) FC.skip
def c24_27 : FC := .seq c24_25 c24_26
def c24_28 : FC := .reg [⟨(some 102), none, .op (.mv (.t 8))⟩,  ⟨(some 103), none, .op (.mv (.t 15))⟩,  ⟨(some 104), none, .op (.iad none none (.t 102) (.t 103))⟩,  ⟨(some 105), none, .op (.load none (.t 104))⟩,  ⟨(some 106), none, .op (.len .sl (.t 105))⟩,  ⟨(some 107), none, .op (.mv (.v (.int .i64 0)))⟩] []
def c24_29 : FC := .reg [⟨(some 109), none, .op (.iad none none (.t 105) (.t 107))⟩,  ⟨(some 110), none, .op (.load none (.t 109))⟩,  ⟨(some 18), none, .op (.mv (.t 110))⟩] []
def c24_30 : FC := .reg [⟨(some 111), none, .op (.load (some 12) (.t 16))⟩,  ⟨(some 112), none, .call 47 [(.t 111)]⟩,  ⟨(some 113), none, .op (.mv (.t 18))⟩,  ⟨(some 114), none, .call 48 [(.t 112), (.t 113)]⟩,  ⟨(some 115), none, .op (.un .not (.t 114))⟩] []
def c24_31 : FC := .reg [⟨(some 116), none, .op (.load none (.t 11))⟩,  ⟨(some 117), none, .op (.mv (.t 18))⟩,  ⟨(some 118), none, .op (.iad none (some 4) (.t 116) (.t 117))⟩,  ⟨(some 119), none, .op (.fad 3 (.t 118))⟩,  ⟨none, none, .op (.store 1 (.t 119) (.v (.bool true)))⟩] []
def c24_32 : FC := .cond (.t 115) c24_31 FC.skip
def c24_33 : FC := .seq c24_30 c24_32
def c24_34 : FC := .seq c24_29 c24_33
def c24_35 : FC := .loop (.seq (.reg [⟨(some 108), none, .op (.bin .none .lss (.t 107) (.t 106))⟩] []) (.seq (.cond (.t 108) .skip (.exit 4)) (.seq (.block 5 c24_34) (.reg [⟨(some 120), none, .op (.bin .none .add (.t 107) (.v (.int .i64 1)))⟩,  ⟨(some 107), none, .op (.mv (.t 120))⟩] []))))
def c24_36 : FC := .block 4 c24_35
def c24_37 : FC := .seq c24_28 c24_36
def c24_38 : FC := .seq c24_27 c24_37
def c24_39 : FC := .seq c24_24 c24_38
def c24_40 : FC := .seq c24_23 c24_39
def c24_41 : FC := .seq c24_22 c24_40
def c24_42 : FC := .seq c24_21 c24_41
def c24_43 : FC := .loop (.seq (.reg [⟨(some 71), none, .op (.bin .none .lss (.t 70) (.t 69))⟩] []) (.seq (.cond (.t 71) .skip (.exit 2)) (.seq (.block 3 c24_42) (.reg [⟨(some 121), none, .op (.bin .none .add (.t 70) (.v (.int .i64 1)))⟩,  ⟨(some 70), none, .op (.mv (.t 121))⟩] []))))
def c24_44 : FC := .block 2 c24_43
def c24_45 : FC := .seq c24_20 c24_44
def c24_46 : FC := .reg [⟨(some 122), none, .op (.load none (.t 11))⟩,  ⟨(some 123), none, .call 49 [(.t 122), (.v (.fn (.func 50) [] []))]⟩,  ⟨(some 4), none, .op (.mv (.t 123))⟩,  ⟨(some 5), none, .op (.mv (.v (.int .i64 0)))⟩] []
def c24_47 : FC := .seq c24_46 FC.ret
def c24_48 : FC := .seq c24_45 c24_47
def c24_49 : FC := .seq c24_19 c24_48
def c24_50 : FC := .seq c24_18 c24_49
def c24_51 : FC := .seq c24_17 c24_50
def c24_52 : FC := .seq c24_10 c24_51
def c24_53 : FC := .seq c24_9 c24_52
def c24_54 : FC := .seq c24_8 c24_53
def c24_55 : FC := .seq c24_7 c24_54
def c24_56 : FC := .seq c24_2 c24_55
def c24_57 : FC := .seq c24_1 c24_56
def fc24 : FC := c24_57
theorem fn24 : Fn3 Tryd.prog 24 124 [(4, none), (5, none)] fc24 := ⟨_, _, Tryd.func24, rfl, rfl, rfl, by kernel_rfl⟩

theorem call46 : callable Tryd.prog 46 = true := by kernel_rfl
noncomputable def wrS (n : Node) : List Int := Classical.choose (Writes_eq n)
theorem wrS_eq (n : Node) : ir_Writes_s n = some (wrS n) := (Classical.choose_spec (Writes_eq n)).1
theorem wrS_len (n : Node) : (wrS n).length ≤ 10000000 := (Classical.choose_spec (Writes_eq n)).2.1
theorem wrS_mem (n : Node) (x : Int) : x ∈ wrS n ↔ (x ∈ rawW n ∧ 0 ≤ x) := (Classical.choose_spec (Writes_eq n)).2.2 x
theorem isB_mem {g : Graph} {k : Int} {ps : List Int} (h : isB g k ps = true) : ∀ p ∈ ps, 0 ≤ p ∧ p < g.Kinds.length := by
  intro p hp
  have := List.all_eq_true.1 h p hp
  unfold fitB at this
  simp only [Bool.and_eq_true, decide_eq_true_eq] at this
  exact this.1
theorem raw_range {all : List Graph} {g : Graph} {n : Node} (h : nodeB all g n = true) : ∀ p ∈ rawW n, 0 ≤ p → p < g.Kinds.length := by
  unfold nodeB at h
  simp only [Bool.and_eq_true] at h
  have ho := h.2
  intro p hp h0
  unfold rawW at hp
  unfold opB at ho
  have one : ∀ k ps, isB g k ps = true → p ∈ ps → p < g.Kinds.length := fun k ps a b => (isB_mem a p b).2
  by_cases h1 : n.Op = 1 ∨ n.Op = 16
  · rw [if_pos h1] at ho
    rw [if_pos (by omega)] at hp
    exact one _ _ ho hp
  rw [if_neg h1] at ho
  by_cases h2 : n.Op = 2
  · rw [if_pos h2] at ho; rw [if_pos (by omega)] at hp
    simp only [Bool.or_eq_true] at ho
    simp at hp; subst hp
    rcases ho with a | a <;> exact one _ _ a (by simp)
  rw [if_neg h2] at ho
  by_cases h3 : n.Op = 3
  · rw [if_pos h3] at ho; rw [if_pos (by omega)] at hp
    simp only [Bool.and_eq_true] at ho
    simp at hp; subst hp
    exact one _ _ ho.2 (by simp)
  rw [if_neg h3] at ho
  by_cases h4 : n.Op = 4
  · rw [if_pos h4] at ho; rw [if_pos (by omega)] at hp
    simp only [Bool.and_eq_true] at ho
    exact one _ _ ho.2 hp
  rw [if_neg h4] at ho
  by_cases h5 : n.Op = 5
  · rw [if_neg (by omega), if_neg (by omega)] at hp; cases hp
  rw [if_neg h5] at ho
  by_cases h6 : n.Op = 6
  · rw [if_pos h6] at ho; rw [if_pos (by omega)] at hp
    simp only [Bool.and_eq_true] at ho
    exact one _ _ ho.2 hp
  rw [if_neg h6] at ho
  by_cases h7 : n.Op = 7
  · rw [if_pos h7] at ho; rw [if_pos (by omega)] at hp
    simp only [Bool.and_eq_true] at ho
    exact one _ _ ho.1 hp
  rw [if_neg h7] at ho
  by_cases h15 : n.Op = 15
  · rw [if_neg (by omega), if_neg (by omega), if_neg (by omega), if_pos h15] at ho
    rw [if_neg (by omega), if_pos h15] at hp
    simp only [Bool.and_eq_true] at ho
    exact one _ _ ho.2 hp
  by_cases h11 : n.Op = 11
  · rw [if_neg (by omega), if_neg (by omega), if_neg (by omega), if_neg (by omega), if_neg (by omega), if_pos h11] at ho
    rw [if_pos (by omega)] at hp
    simp only [Bool.and_eq_true, Bool.or_eq_true, decide_eq_true_eq] at ho
    simp at hp; subst hp
    rcases ho.2 with a | a
    · omega
    · exact one _ _ a.1 (by simp)
  rw [if_neg (by omega), if_neg (by omega)] at hp; cases hp
def hold1 (x : Interval) : Interval := ⟨x.Place, x.From, x.To, true⟩
def hldP (w : List Int) (all : List Interval) (p : Int) : List Interval := if p ∈ w then all else all.modify p.toNat hold1
theorem hldF_len (w : List Int) : ∀ (ps : List Int) (all : List Interval), (ps.foldl (hldP w) all).length = all.length
  | [], _ => rfl
  | p :: ps, all => by rw [List.foldl_cons, hldF_len w ps]; unfold hldP; split <;> simp
noncomputable def lvI (g : Graph) (i : Nat) : List Int := setL g.Kinds.length (lvB g i)
noncomputable def bhI (g : Graph) (i : Nat) : List Int := setL g.Kinds.length (bhB g i)
noncomputable def wrN (g : Graph) (i : Nat) : List Int := match g.Nodes[i]? with | some n => wrS n | none => []
def isCall (g : Graph) (i : Nat) : Bool := match g.Nodes[i]? with | some n => n.Op == 11 || n.Op == 13 | none => false
noncomputable def nodeS (g : Graph) (a : Nat) (all : List Interval) (i : Nat) : List Interval :=
  let a2 := (wrN g i).foldl (wkP a) ((lvI g i).foldl (wkP a) all)
  if isCall g i = true then (bhI g i).foldl (hldP (wrN g i)) a2 else a2
noncomputable def nodesS (g : Graph) : Nat → List Nat → List Interval → List Interval
  | _, [], all => all
  | a, i :: l, all => nodesS g (a + 1) l (nodeS g a all i)
theorem nodeS_len (g : Graph) (a i : Nat) (all : List Interval) : (nodeS g a all i).length = all.length := by
  unfold nodeS
  simp only
  split
  · rw [hldF_len, wkF_len, wkF_len]
  · rw [wkF_len, wkF_len]
def init0 (g : Graph) : List Interval := (List.range g.Kinds.length).map fun (p : Nat) => ⟨(p : Int), (g.Nodes.length : Int), -1, false⟩
noncomputable def allS (g : Graph) : List Interval := nodesS g 0 ((lineL g).map Int.toNat) (g.Params.foldl (wkP 0) (init0 g))
noncomputable def spansL (g : Graph) : List Interval := (allS g).filter fun x => !gone x
noncomputable def order_Spans_s (fuel : Nat) (G : Graphs) (f : Int) : Option (List Interval × Int) :=
  if 100000000000 ≤ fuel then (if RightB G = true then (match getI G.Funcs f with | some g => some (spansL g, 0) | none => some ([], 2)) else some ([], 70)) else none
theorem setL_rng {K : Nat} {A : Nat → Bool} : ∀ x ∈ setL K A, 0 ≤ x ∧ x < K := by
  intro x hx
  unfold setL at hx
  obtain ⟨k, hk, rfl⟩ := List.mem_map.1 hx
  have := (List.mem_filter.1 hk).1
  simp at this; omega
theorem setL_le {K : Nat} {A : Nat → Bool} : (setL K A).length ≤ K := by
  unfold setL; rw [List.length_map]; exact Nat.le_trans (List.length_filter_le _ _) (by simp)
theorem order_Spans_ev {fuel : Nat} {g_00 : Graphs} {f_01 : Int} {r : ((List Interval) × Int)} (h : order_Spans_s fuel g_00 f_01 = some r) : PureEv Tryd.prog 24 [(Graphs.av g_00), (.int .i64 f_01)] (.tup [(.sl false 4 (List.map Interval.av r.1)), (.int .i64 r.2)]) := by
  unfold order_Spans_s at h
  split at h
  case isFalse => cases h
  rename_i hfuel
  refine PureEv_end mixed fn24 (by simp) [11, 16, 43] 2 ?_
  have hS : Sep [] [] := Sep.nil
  refine E_sq (E_reg ?_)
  refine E_op0 (v' := .cptr (Graphs.av g_00).cells 0) rfl rfl ?_
  (repeat (first | refine E_mv (by conv => lhs; whnf) ?_ | refine E_lenR rfl ?_ | refine E_len rfl ?_ | refine E_op0 rfl (by conv => lhs; whnf) ?_ | refine E_nil ?_ | refine E_nx ?_ | refine E_as ?_ | refine E_sq ?_ | refine E_reg ?_ | refine E_skip ?_ | refine E_gh rfl ?_ | refine E_gm rfl ?_ | refine E_gz rfl ?_))
  have hck := live_check_eq g_00 f_01
  by_cases hR : RightB g_00 = true
  case neg =>
    rw [if_neg hR] at h hck
    cases h
    obtain ⟨e1, _⟩ := In_err hck (by decide) (fuel := fuel)
    refine E_callW (as' := [Graphs.av g_00, .int .i64 f_01]) (live_In_ev e1) rfl ⟨(.refl _), (.refl _), trivial⟩ (blwL_of ⟨(Graphs.enc.blw _ 0), rfl, trivial⟩) (tup_blw ⟨((encL (encI .i64) 1).blws 0), rfl, trivial⟩) ?_
    (repeat (first | refine E_mv (by conv => lhs; whnf) ?_ | refine E_lenR rfl ?_ | refine E_len rfl ?_ | refine E_op0 rfl (by conv => lhs; whnf) ?_ | refine E_nil ?_ | refine E_nx ?_ | refine E_as ?_ | refine E_sq ?_ | refine E_reg ?_ | refine E_skip ?_ | refine E_gh rfl ?_ | refine E_gm rfl ?_ | refine E_gz rfl ?_))
    refine E_ct rfl ?_
    (repeat (first | refine E_mv (by conv => lhs; whnf) ?_ | refine E_lenR rfl ?_ | refine E_len rfl ?_ | refine E_op0 rfl (by conv => lhs; whnf) ?_ | refine E_nil ?_ | refine E_nx ?_ | refine E_as ?_ | refine E_sq ?_ | refine E_reg ?_ | refine E_skip ?_ | refine E_gh rfl ?_ | refine E_gm rfl ?_ | refine E_gz rfl ?_))
    refine E_ret ?_
    (repeat (first | refine E_the ?_ | refine E_ble ?_ | refine E_blo rfl ?_ | refine E_thr ?_ | refine E_blr ?_ | refine E_bln ?_))
    exact ⟨trivial, _, rfl, (fz_tup ⟨(fz_b rfl .nil), (fz_b rfl (.refl _)), trivial⟩)⟩
  rw [if_pos hR] at h hck
  cases hgf : getI g_00.Funcs f_01 with
  | none =>
    rw [hgf] at h
    cases h
    have hnr : ¬ (0 ≤ f_01 ∧ f_01 < g_00.Funcs.length) := by
      rintro ⟨a, b⟩
      rw [getI_lt a (by omega)] at hgf; cases hgf
    rw [if_neg hnr] at hck
    obtain ⟨e1, _⟩ := In_err hck (by decide) (fuel := fuel)
    refine E_callW (as' := [Graphs.av g_00, .int .i64 f_01]) (live_In_ev e1) rfl ⟨(.refl _), (.refl _), trivial⟩ (blwL_of ⟨(Graphs.enc.blw _ 0), rfl, trivial⟩) (tup_blw ⟨((encL (encI .i64) 1).blws 0), rfl, trivial⟩) ?_
    (repeat (first | refine E_mv (by conv => lhs; whnf) ?_ | refine E_lenR rfl ?_ | refine E_len rfl ?_ | refine E_op0 rfl (by conv => lhs; whnf) ?_ | refine E_nil ?_ | refine E_nx ?_ | refine E_as ?_ | refine E_sq ?_ | refine E_reg ?_ | refine E_skip ?_ | refine E_gh rfl ?_ | refine E_gm rfl ?_ | refine E_gz rfl ?_))
    refine E_ct rfl ?_
    (repeat (first | refine E_mv (by conv => lhs; whnf) ?_ | refine E_lenR rfl ?_ | refine E_len rfl ?_ | refine E_op0 rfl (by conv => lhs; whnf) ?_ | refine E_nil ?_ | refine E_nx ?_ | refine E_as ?_ | refine E_sq ?_ | refine E_reg ?_ | refine E_skip ?_ | refine E_gh rfl ?_ | refine E_gm rfl ?_ | refine E_gz rfl ?_))
    refine E_ret ?_
    (repeat (first | refine E_the ?_ | refine E_ble ?_ | refine E_blo rfl ?_ | refine E_thr ?_ | refine E_blr ?_ | refine E_bln ?_))
    exact ⟨trivial, _, rfl, (fz_tup ⟨(fz_b rfl .nil), (fz_b rfl (.refl _)), trivial⟩)⟩
  | some g =>
    rw [hgf] at h
    cases h
    obtain ⟨h0, h1, h2⟩ := getI_some hgf
    rw [if_pos ⟨h0, h1⟩] at hck
    obtain ⟨hg, hhd, hnd⟩ := RightB_good hR g (List.mem_of_getElem? h2)
    obtain ⟨hK, hp4, hpar, hn1, hN, he0, heN⟩ := headB_facts hhd
    have hIn := In_ok hck hgf hg hfuel
    have hOut := Out_ok hck hgf hg hfuel
    refine E_callW (as' := [Graphs.av g_00, .int .i64 f_01]) (live_In_ev hIn) rfl ⟨(.refl _), (.refl _), trivial⟩ (blwL_of ⟨(Graphs.enc.blw _ 0), rfl, trivial⟩) (tup_blw ⟨((encL (encI .i64) 1).blws 0), rfl, trivial⟩) ?_
    (repeat (first | refine E_mv (by conv => lhs; whnf) ?_ | refine E_lenR rfl ?_ | refine E_len rfl ?_ | refine E_op0 rfl (by conv => lhs; whnf) ?_ | refine E_nil ?_ | refine E_nx ?_ | refine E_as ?_ | refine E_sq ?_ | refine E_reg ?_ | refine E_skip ?_ | refine E_gh rfl ?_ | refine E_gm rfl ?_ | refine E_gz rfl ?_))
    refine E_cf rfl ?_
    (repeat (first | refine E_mv (by conv => lhs; whnf) ?_ | refine E_lenR rfl ?_ | refine E_len rfl ?_ | refine E_op0 rfl (by conv => lhs; whnf) ?_ | refine E_nil ?_ | refine E_nx ?_ | refine E_as ?_ | refine E_sq ?_ | refine E_reg ?_ | refine E_skip ?_ | refine E_gh rfl ?_ | refine E_gm rfl ?_ | refine E_gz rfl ?_))
    refine E_callW (as' := [Graphs.av g_00, .int .i64 f_01]) (live_Out_ev hOut) rfl ⟨(.refl _), (.refl _), trivial⟩ (blwL_of ⟨(Graphs.enc.blw _ 0), rfl, trivial⟩) (tup_blw ⟨((encL (encI .i64) 1).blws 0), rfl, trivial⟩) ?_
    (repeat (first | refine E_mv (by conv => lhs; whnf) ?_ | refine E_lenR rfl ?_ | refine E_len rfl ?_ | refine E_op0 rfl (by conv => lhs; whnf) ?_ | refine E_nil ?_ | refine E_nx ?_ | refine E_as ?_ | refine E_sq ?_ | refine E_reg ?_ | refine E_skip ?_ | refine E_gh rfl ?_ | refine E_gm rfl ?_ | refine E_gz rfl ?_))
    refine E_iadF rfl rfl hgf ?_
    (repeat (first | refine E_mv (by conv => lhs; whnf) ?_ | refine E_lenR rfl ?_ | refine E_len rfl ?_ | refine E_op0 rfl (by conv => lhs; whnf) ?_ | refine E_nil ?_ | refine E_nx ?_ | refine E_as ?_ | refine E_sq ?_ | refine E_reg ?_ | refine E_skip ?_ | refine E_gh rfl ?_ | refine E_gm rfl ?_ | refine E_gz rfl ?_))
    refine E_mkS (f := Interval.av) (x := ⟨0, 0, 0, false⟩) hS Interval.enc rfl rfl rfl rfl (by omega) (fun oa S hS => ?_)
    simp only [Int.toNat_natCast] at hS ⊢
    refine E_nwS hS rfl (fun oc S hS => ?_)
    refine E_stS hS rfl (by conv => lhs; whnf) (by first | exact Rp.here | (repeat (first | exact Rp.here | apply Rp.there | apply Rp.skip))) rfl rfl (by first | exact Nat.le_of_ble_eq_true rfl | (simp; omega) | omega) (fun S hS => ?_)
    replace hS : Sep S [(oc, 0, [.ref oa 0 0 g.Kinds.length (some 4)]), (oa, 0, flat Interval.av (List.replicate g.Kinds.length ⟨0, 0, 0, false⟩))] := hS
    (repeat (first | refine E_mv (by conv => lhs; whnf) ?_ | refine E_lenR rfl ?_ | refine E_len rfl ?_ | refine E_op0 rfl (by conv => lhs; whnf) ?_ | refine E_nil ?_ | refine E_nx ?_ | refine E_as ?_ | refine E_sq ?_ | refine E_reg ?_ | refine E_skip ?_ | refine E_gh rfl ?_ | refine E_gm rfl ?_ | refine E_gz rfl ?_))
    refine E_ldS hS rfl (by first | exact .head _ | exact .tail _ (.head _) | exact .tail _ (.tail _ (.head _)) | simp) rfl ?_
    (repeat (first | refine E_mv (by conv => lhs; whnf) ?_ | refine E_lenR rfl ?_ | refine E_len rfl ?_ | refine E_op0 rfl (by conv => lhs; whnf) ?_ | refine E_nil ?_ | refine E_nx ?_ | refine E_as ?_ | refine E_sq ?_ | refine E_reg ?_ | refine E_skip ?_ | refine E_gh rfl ?_ | refine E_gm rfl ?_ | refine E_gz rfl ?_))
    refine EL_rni g.Kinds.length (fun _ : List Interval => [(6, .sl false 1 (List.map (avL 1 (avI .i64)) (inL g))), (8, .sl false 1 (List.map (avL 1 (avI .i64)) (outL g))), (10, gR g), (11, .ptr oc 0 0)]) (fun s => (oc, 0, [.ref oa 0 0 g.Kinds.length (some 4)]) :: (oa, 0, flat Interval.av s) :: [])
      (fun i s => s.length = g.Kinds.length ∧ ∀ k, k < i → s[k]? = (init0 g)[k]?) (List.replicate g.Kinds.length ⟨0, 0, 0, false⟩) hS ⟨by simp, fun k hk => absurd hk (Nat.not_lt_zero k)⟩ (wk_fr ⟨.refl _, .refl _, .refl _, .refl _, .refl _, .refl _, trivial⟩) (by omega) (by decide) (by decide) (fun _ => ⟨rfl, rfl, rfl, rfl⟩) (fun i s S hi hI hS => ?_) (fun s fr' S hI hS hw => ?_)
    · obtain ⟨hsl, hI⟩ := hI
      obtain ⟨x, hx⟩ : ∃ x, s[i]? = some x := ⟨s[i]'(by omega), List.getElem?_eq_getElem _⟩
      (repeat (first | refine E_mv (by conv => lhs; whnf) ?_ | refine E_lenR rfl ?_ | refine E_len rfl ?_ | refine E_op0 rfl (by conv => lhs; whnf) ?_ | refine E_nil ?_ | refine E_nx ?_ | refine E_as ?_ | refine E_sq ?_ | refine E_reg ?_ | refine E_skip ?_ | refine E_gh rfl ?_ | refine E_gm rfl ?_ | refine E_gz rfl ?_))
      refine E_ldS hS rfl (by first | exact .head _ | exact .tail _ (.head _) | exact .tail _ (.tail _ (.head _)) | simp) rfl ?_
      (repeat (first | refine E_mv (by conv => lhs; whnf) ?_ | refine E_lenR rfl ?_ | refine E_len rfl ?_ | refine E_op0 rfl (by conv => lhs; whnf) ?_ | refine E_nil ?_ | refine E_nx ?_ | refine E_as ?_ | refine E_sq ?_ | refine E_reg ?_ | refine E_skip ?_ | refine E_gh rfl ?_ | refine E_gm rfl ?_ | refine E_gz rfl ?_))
      refine E_iadR rfl rfl ⟨by omega, by omega⟩ ?_
      refine E_stL0 (l := s) hS Interval.enc rfl (by conv => lhs; whnf) (n := i) (fo := 0) (y := x) (y' := ⟨(i : Int), (g.Nodes.length : Int), -1, false⟩) (by simp [szOf]) hx (by first | exact Rp.here | (repeat (first | exact Rp.here | apply Rp.there | apply Rp.skip))) rfl rfl (by simp [szOf]) rfl (fun S hS => ?_)
      (repeat (first | refine E_mv (by conv => lhs; whnf) ?_ | refine E_lenR rfl ?_ | refine E_len rfl ?_ | refine E_op0 rfl (by conv => lhs; whnf) ?_ | refine E_nil ?_ | refine E_nx ?_ | refine E_as ?_ | refine E_sq ?_ | refine E_reg ?_ | refine E_skip ?_ | refine E_gh rfl ?_ | refine E_gm rfl ?_ | refine E_gz rfl ?_))
      refine R_n (s.set i ⟨(i : Int), (g.Nodes.length : Int), -1, false⟩) ⟨by simp [hsl], fun k hk => ?_⟩ hS (wk_fr ⟨.refl _, .refl _, .refl _, .refl _, .refl _, .refl _, trivial⟩)
      rw [List.getElem?_set]
      by_cases e : i = k
      · subst e
        rw [if_pos rfl, if_pos (by omega)]
        simp [init0, hi]
      · rw [if_neg e]; exact hI k (by omega)
    · obtain ⟨hsl, hI⟩ := hI
      have hs0 : s = init0 g := by
        apply List.ext_getElem?
        intro k
        by_cases hk : k < g.Kinds.length
        · exact hI k hk
        · rw [List.getElem?_eq_none (by omega), List.getElem?_eq_none (by simp [init0]; omega)]
      subst hs0
      refine E_nxw hw ?_
      refine E_sq (E_reg ?_)
      refine E_op0 (v' := .fn (.func 46) [] [.ptr oc 0 0]) rfl rfl ?_
      (repeat (first | refine E_mv (by conv => lhs; whnf) ?_ | refine E_lenR rfl ?_ | refine E_len rfl ?_ | refine E_op0 rfl (by conv => lhs; whnf) ?_ | refine E_nil ?_ | refine E_nx ?_ | refine E_as ?_ | refine E_sq ?_ | refine E_reg ?_ | refine E_skip ?_ | refine E_gh rfl ?_ | refine E_gm rfl ?_ | refine E_gz rfl ?_))
      have hparR : ∀ p ∈ g.Params, 0 ≤ p ∧ p < (init0 g).length := fun p hp => by rw [hsl]; exact hpar p hp
      refine E_callvT (work_tri (ps := g.Params) (a := 0) (all := init0 g) hparR (by omega)) hS rfl call46 rfl (by rw [hsl]; exact Spl.cons Pk.here (Spl.cons Pk.here Spl.nil)) (fun v S L' hL hS => ?_)
      subst hL
      rw [hsl] at hS
      (repeat (first | refine E_mv (by conv => lhs; whnf) ?_ | refine E_lenR rfl ?_ | refine E_len rfl ?_ | refine E_op0 rfl (by conv => lhs; whnf) ?_ | refine E_nil ?_ | refine E_nx ?_ | refine E_as ?_ | refine E_sq ?_ | refine E_reg ?_ | refine E_skip ?_ | refine E_gh rfl ?_ | refine E_gm rfl ?_ | refine E_gz rfl ?_))
      have hline : order_line_s g = some (lineL g) := if_pos ⟨hg, he0, heN⟩
      refine E_callW (order_line_ev hline) rfl ⟨(.refl _), trivial⟩ (blwL_of ⟨(cp_blw (Graph.enc.blw _ 0)), trivial⟩) ((encI .i64).blws 0) ?_
      (repeat (first | refine E_mv (by conv => lhs; whnf) ?_ | refine E_lenR rfl ?_ | refine E_len rfl ?_ | refine E_op0 rfl (by conv => lhs; whnf) ?_ | refine E_nil ?_ | refine E_nx ?_ | refine E_as ?_ | refine E_sq ?_ | refine E_reg ?_ | refine E_skip ?_ | refine E_gh rfl ?_ | refine E_gm rfl ?_ | refine E_gz rfl ?_))
      have hlo := line_ok hg (by omega)
      obtain ⟨w, hw1, hw2, hw3, _⟩ := hlo.w
      have hwl : w.length = (lineL g).length := by rw [hw1]; simp
      have hll : (lineL g).length ≤ g.Nodes.length := by
        rw [← hwl]
        exact nodup_bd _ _ hw2 hw3
      have hmapN : (lineL g).map Int.toNat = w := by rw [hw1, List.map_map]; exact (List.map_congr_left (fun x _ => by simp)).trans (List.map_id w)
      refine EL_rni (lineL g).length (fun _ : List Interval => [(6, .sl false 1 (List.map (avL 1 (avI .i64)) (inL g))), (8, .sl false 1 (List.map (avL 1 (avI .i64)) (outL g))), (10, gR g), (11, .ptr oc 0 0), (13, .fn (.func 46) [] [.ptr oc 0 0]), (68, .sl false 1 (List.map (avI .i64) (lineL g)))]) (fun s => (oc, 0, [.ref oa 0 0 g.Kinds.length (some 4)]) :: (oa, 0, flat Interval.av s) :: [])
        (fun i s => s.length = g.Kinds.length ∧ nodesS g i (w.drop i) s = allS g) (g.Params.foldl (wkP 0) (init0 g)) hS ⟨by rw [wkF_len]; exact hsl, by rw [← hmapN]; rfl⟩ (wk_fr ⟨.refl _, .refl _, .refl _, .refl _, .refl _, .refl _, .refl _, .refl _, trivial⟩) (by omega) (by decide) (by decide) (fun _ => ⟨rfl, rfl, rfl, rfl⟩) (fun a s S ha hI hS => ?_) (fun s fr' S hI hS hw => ?_)
      · obtain ⟨hsl, hI⟩ := hI
        obtain ⟨i, hi⟩ : ∃ i, w[a]? = some i := ⟨w[a]'(by omega), List.getElem?_eq_getElem _⟩
        have hiN : i < g.Nodes.length := hw3 i (List.mem_of_getElem? hi)
        have hli : (lineL g)[a]? = some (i : Int) := by rw [hw1, List.getElem?_map, hi]; rfl
        obtain ⟨nd, hnd1⟩ : ∃ n, g.Nodes[i]? = some n := ⟨g.Nodes[i], List.getElem?_eq_getElem hiN⟩
        have hwr : wrN g i = wrS nd := by unfold wrN; rw [hnd1]
        have hin : getI (inL g) (i : Int) = some (lvI g i) := by rw [getI_n]; unfold inL; simp [hiN, lvI]
        have hout : getI (outL g) (i : Int) = some (bhI g i) := by rw [getI_n]; unfold outL; simp [hiN, bhI]
        have hwrR : ∀ p ∈ wrS nd, 0 ≤ p ∧ p < g.Kinds.length := fun p hp => by
          obtain ⟨q1, q2⟩ := (wrS_mem nd p).1 hp
          exact ⟨q2, raw_range (hnd nd (List.mem_of_getElem? hnd1)) p q1 q2⟩
        rw [drop_cons hi] at hI
        (repeat (first | refine E_mv (by conv => lhs; whnf) ?_ | refine E_lenR rfl ?_ | refine E_len rfl ?_ | refine E_op0 rfl (by conv => lhs; whnf) ?_ | refine E_nil ?_ | refine E_nx ?_ | refine E_as ?_ | refine E_sq ?_ | refine E_reg ?_ | refine E_skip ?_ | refine E_gh rfl ?_ | refine E_gm rfl ?_ | refine E_gz rfl ?_))
        refine E_iadF rfl rfl (getI_N hli) ?_
        refine E_op0 (v' := .int .i64 (i : Int)) rfl rfl ?_
        (repeat (first | refine E_mv (by conv => lhs; whnf) ?_ | refine E_lenR rfl ?_ | refine E_len rfl ?_ | refine E_op0 rfl (by conv => lhs; whnf) ?_ | refine E_nil ?_ | refine E_nx ?_ | refine E_as ?_ | refine E_sq ?_ | refine E_reg ?_ | refine E_skip ?_ | refine E_gh rfl ?_ | refine E_gm rfl ?_ | refine E_gz rfl ?_))
        refine E_iadF rfl rfl (getI_N hnd1) ?_
        refine E_op0 (v' := Node.av nd) rfl rfl ?_
        refine E_nwS hS rfl (fun o16 S hS => ?_)
        refine E_stS hS rfl (by conv => lhs; whnf) (by first | exact Rp.here | (repeat (first | exact Rp.here | apply Rp.there | apply Rp.skip))) rfl rfl (by first | exact Nat.le_of_ble_eq_true rfl | (simp; omega) | omega) (fun S hS => ?_)
        replace hS : Sep S ((o16, 0, (Node.av nd).cells) :: (oc, 0, [.ref oa 0 0 g.Kinds.length (some 4)]) :: (oa, 0, flat Interval.av s) :: []) := hS
        (repeat (first | refine E_mv (by conv => lhs; whnf) ?_ | refine E_lenR rfl ?_ | refine E_len rfl ?_ | refine E_op0 rfl (by conv => lhs; whnf) ?_ | refine E_nil ?_ | refine E_nx ?_ | refine E_as ?_ | refine E_sq ?_ | refine E_reg ?_ | refine E_skip ?_ | refine E_gh rfl ?_ | refine E_gm rfl ?_ | refine E_gz rfl ?_))
        refine E_iadF rfl rfl hin ?_
        refine E_op0 (v' := .sl false 1 ((lvI g i).map (avI .i64))) rfl rfl ?_
        refine E_callvT (work_tri (ps := lvI g i) (a := (a : Int)) (all := s) (oc := oc) (oa := oa) (va := 0) (fun p hp => by rw [hsl]; exact setL_rng p hp) (Nat.le_trans setL_le (by omega))) hS rfl call46 rfl (by rw [hsl]; exact Spl.cons (Pk.there Pk.here) (Spl.cons (Pk.there Pk.here) Spl.nil)) (fun v S L' hL hS => ?_)
        subst hL
        have hl1 := wkF_len (a : Int) (lvI g i) s
        (repeat (first | refine E_mv (by conv => lhs; whnf) ?_ | refine E_lenR rfl ?_ | refine E_len rfl ?_ | refine E_op0 rfl (by conv => lhs; whnf) ?_ | refine E_nil ?_ | refine E_nx ?_ | refine E_as ?_ | refine E_sq ?_ | refine E_reg ?_ | refine E_skip ?_ | refine E_gh rfl ?_ | refine E_gm rfl ?_ | refine E_gz rfl ?_))
        refine E_ldS hS rfl (.tail _ (.tail _ (.head _))) (v := Node.av nd) rfl ?_
        refine E_callW (ir_Writes_ev (wrS_eq nd)) rfl ⟨(.refl _), trivial⟩ (blwL_of ⟨(Node.enc.blw _ 0), trivial⟩) ((encI .i64).blws 0) ?_
        refine E_callvT (work_tri (ps := wrS nd) (a := (a : Int)) (all := (lvI g i).foldl (wkP a) s) (oc := oc) (oa := oa) (va := 0) (fun p hp => by rw [hl1, hsl]; exact hwrR p hp) (Nat.le_trans (wrS_len nd) (by omega))) hS rfl call46 rfl (by rw [hl1]; exact Spl.cons Pk.here (Spl.cons Pk.here Spl.nil)) (fun v S L' hL hS => ?_)
        subst hL
        rw [hl1, hsl] at hS
        (repeat (first | refine E_mv (by conv => lhs; whnf) ?_ | refine E_lenR rfl ?_ | refine E_len rfl ?_ | refine E_op0 rfl (by conv => lhs; whnf) ?_ | refine E_nil ?_ | refine E_nx ?_ | refine E_as ?_ | refine E_sq ?_ | refine E_reg ?_ | refine E_skip ?_ | refine E_gh rfl ?_ | refine E_gm rfl ?_ | refine E_gz rfl ?_))
        refine E_ldS hS rfl (.tail _ (.tail _ (.head _))) (v := .int .u8 nd.Op) rfl ?_
        (repeat (first | refine E_mv (by conv => lhs; whnf) ?_ | refine E_lenR rfl ?_ | refine E_len rfl ?_ | refine E_op0 rfl (by conv => lhs; whnf) ?_ | refine E_nil ?_ | refine E_nx ?_ | refine E_as ?_ | refine E_sq ?_ | refine E_reg ?_ | refine E_skip ?_ | refine E_gh rfl ?_ | refine E_gm rfl ?_ | refine E_gz rfl ?_))
        have hl2 := wkF_len (a : Int) (wrS nd) ((lvI g i).foldl (wkP a) s)
        have hic : isCall g i = (nd.Op == 11 || nd.Op == 13) := by unfold isCall; rw [hnd1]
        have e3 : w.drop (a + 1) = w.drop (a + 1) := rfl
        generalize ha2 : (wrS nd).foldl (wkP (a : Int)) ((lvI g i).foldl (wkP a) s) = a2 at hS hl2
        have hnode : nodeS g a s i = if isCall g i = true then (bhI g i).foldl (hldP (wrS nd)) a2 else a2 := by unfold nodeS; simp only [hwr, ha2]
        have hlen2 : a2.length = g.Kinds.length := by rw [hl2, hl1, hsl]
        replace hI : nodesS g (a + 1) (w.drop (a + 1)) (nodeS g a s i) = allS g := hI
        replace hS : Sep S ((oc, 0, [.ref oa 0 0 g.Kinds.length (some 4)]) :: (oa, 0, flat Interval.av a2) :: (o16, 0, (Node.av nd).cells) :: []) := hS
        have hloop : ∀ (S1 : List Ob) (K : Post), Sep S1 ((oc, 0, [.ref oa 0 0 g.Kinds.length (some 4)]) :: (oa, 0, flat Interval.av a2) :: (o16, 0, (Node.av nd).cells) :: []) →
            (∀ fr' S', Wk [] fr' S' [(6, .sl false 1 (List.map (avL 1 (avI .i64)) (inL g))), (8, .sl false 1 (List.map (avL 1 (avI .i64)) (outL g))), (10, gR g), (11, .ptr oc 0 0), (13, .fn (.func 46) [] [.ptr oc 0 0]), (15, .int .i64 (i : Int)), (16, .ptr o16 0 0), (68, .sl false 1 (List.map (avI .i64) (lineL g))), (70, .int .i64 (a : Int)), (69, .int .i64 ((lineL g).length : Int))] S' → Sep S' ((oc, 0, [.ref oa 0 0 g.Kinds.length (some 4)]) :: (oa, 0, flat Interval.av ((bhI g i).foldl (hldP (wrS nd)) a2)) :: (o16, 0, (Node.av nd).cells) :: []) → K .normal fr' S') →
            VT Tryd.prog [] [11, 16, 43] c24_37 [(6, .sl false 1 (List.map (avL 1 (avI .i64)) (inL g))), (8, .sl false 1 (List.map (avL 1 (avI .i64)) (outL g))), (10, gR g), (11, .ptr oc 0 0), (13, .fn (.func 46) [] [.ptr oc 0 0]), (15, .int .i64 (i : Int)), (16, .ptr o16 0 0), (68, .sl false 1 (List.map (avI .i64) (lineL g))), (70, .int .i64 (a : Int)), (69, .int .i64 ((lineL g).length : Int))] S1 K := by
          intro S1 K hS1 hK
          (repeat (first | refine E_mv (by conv => lhs; whnf) ?_ | refine E_lenR rfl ?_ | refine E_len rfl ?_ | refine E_op0 rfl (by conv => lhs; whnf) ?_ | refine E_nil ?_ | refine E_nx ?_ | refine E_as ?_ | refine E_sq ?_ | refine E_reg ?_ | refine E_skip ?_ | refine E_gh rfl ?_ | refine E_gm rfl ?_ | refine E_gz rfl ?_))
          refine E_iadF rfl rfl hout ?_
          refine E_op0 (v' := .sl false 1 ((bhI g i).map (avI .i64))) rfl rfl ?_
          (repeat (first | refine E_mv (by conv => lhs; whnf) ?_ | refine E_lenR rfl ?_ | refine E_len rfl ?_ | refine E_op0 rfl (by conv => lhs; whnf) ?_ | refine E_nil ?_ | refine E_nx ?_ | refine E_as ?_ | refine E_sq ?_ | refine E_reg ?_ | refine E_skip ?_ | refine E_gh rfl ?_ | refine E_gm rfl ?_ | refine E_gz rfl ?_))
          have hbl : (bhI g i).length ≤ g.Kinds.length := setL_le
          refine EL_rni (bhI g i).length (fun _ : List Interval => [(6, .sl false 1 (List.map (avL 1 (avI .i64)) (inL g))), (8, .sl false 1 (List.map (avL 1 (avI .i64)) (outL g))), (10, gR g), (11, .ptr oc 0 0), (13, .fn (.func 46) [] [.ptr oc 0 0]), (15, .int .i64 (i : Int)), (16, .ptr o16 0 0), (68, .sl false 1 (List.map (avI .i64) (lineL g))), (70, .int .i64 (a : Int)), (69, .int .i64 ((lineL g).length : Int)), (105, .sl false 1 (List.map (avI .i64) (bhI g i)))]) (fun s => (oc, 0, [.ref oa 0 0 g.Kinds.length (some 4)]) :: (oa, 0, flat Interval.av s) :: (o16, 0, (Node.av nd).cells) :: [])
            (fun k s => s.length = g.Kinds.length ∧ ((bhI g i).drop k).foldl (hldP (wrS nd)) s = (bhI g i).foldl (hldP (wrS nd)) a2) a2 hS1 ⟨hlen2, rfl⟩ (wk_fr ⟨.refl _, .refl _, .refl _, .refl _, .refl _, .refl _, .refl _, .refl _, .refl _, .refl _, .refl _, .refl _, .refl _, trivial⟩) (by omega) (by decide) (by decide) (fun _ => ⟨rfl, rfl, rfl, rfl⟩) (fun k s S hk hI hS => ?_) (fun s fr' S hI hS hw => ?_)
          · obtain ⟨hsl, hI⟩ := hI
            obtain ⟨p, hp⟩ : ∃ p, (bhI g i)[k]? = some p := ⟨(bhI g i)[k], List.getElem?_eq_getElem hk⟩
            obtain ⟨hp0, hp1⟩ := setL_rng p (List.mem_of_getElem? hp)
            obtain ⟨x, hx⟩ : ∃ x, s[p.toNat]? = some x := ⟨s[p.toNat]'(by omega), List.getElem?_eq_getElem _⟩
            rw [drop_cons hp, List.foldl_cons] at hI
            (repeat (first | refine E_mv (by conv => lhs; whnf) ?_ | refine E_lenR rfl ?_ | refine E_len rfl ?_ | refine E_op0 rfl (by conv => lhs; whnf) ?_ | refine E_nil ?_ | refine E_nx ?_ | refine E_as ?_ | refine E_sq ?_ | refine E_reg ?_ | refine E_skip ?_ | refine E_gh rfl ?_ | refine E_gm rfl ?_ | refine E_gz rfl ?_))
            refine E_iadF rfl rfl (getI_N hp) ?_
            refine E_op0 (v' := .int .i64 p) rfl rfl ?_
            (repeat (first | refine E_mv (by conv => lhs; whnf) ?_ | refine E_lenR rfl ?_ | refine E_len rfl ?_ | refine E_op0 rfl (by conv => lhs; whnf) ?_ | refine E_nil ?_ | refine E_nx ?_ | refine E_as ?_ | refine E_sq ?_ | refine E_reg ?_ | refine E_skip ?_ | refine E_gh rfl ?_ | refine E_gm rfl ?_ | refine E_gz rfl ?_))
            refine E_ldS hS rfl (.tail _ (.tail _ (.head _))) (v := Node.av nd) rfl ?_
            refine E_callW (ir_Writes_ev (wrS_eq nd)) rfl ⟨(.refl _), trivial⟩ (blwL_of ⟨(Node.enc.blw _ 0), trivial⟩) ((encI .i64).blws 0) ?_
            (repeat (first | refine E_mv (by conv => lhs; whnf) ?_ | refine E_lenR rfl ?_ | refine E_len rfl ?_ | refine E_op0 rfl (by conv => lhs; whnf) ?_ | refine E_nil ?_ | refine E_nx ?_ | refine E_as ?_ | refine E_sq ?_ | refine E_reg ?_ | refine E_skip ?_ | refine E_gh rfl ?_ | refine E_gm rfl ?_ | refine E_gz rfl ?_))
            refine E_callW (slices_Contains_ev (containsF_eq (wrS nd) p (by have := wrS_len nd; omega))) rfl ⟨(.refl _), (.refl _), trivial⟩ (blwL_of ⟨((encI .i64).blws 0), rfl, trivial⟩) rfl ?_
            (repeat (first | refine E_mv (by conv => lhs; whnf) ?_ | refine E_lenR rfl ?_ | refine E_len rfl ?_ | refine E_op0 rfl (by conv => lhs; whnf) ?_ | refine E_nil ?_ | refine E_nx ?_ | refine E_as ?_ | refine E_sq ?_ | refine E_reg ?_ | refine E_skip ?_ | refine E_gh rfl ?_ | refine E_gm rfl ?_ | refine E_gz rfl ?_))
            by_cases hmem : p ∈ wrS nd
            · refine E_cf (by simp [ev, Fr.get, hmem]) ?_
              (repeat (first | refine E_mv (by conv => lhs; whnf) ?_ | refine E_lenR rfl ?_ | refine E_len rfl ?_ | refine E_op0 rfl (by conv => lhs; whnf) ?_ | refine E_nil ?_ | refine E_nx ?_ | refine E_as ?_ | refine E_sq ?_ | refine E_reg ?_ | refine E_skip ?_ | refine E_gh rfl ?_ | refine E_gm rfl ?_ | refine E_gz rfl ?_))
              refine R_n s ⟨hsl, by rw [show hldP (wrS nd) s p = s from if_pos hmem] at hI; exact hI⟩ hS (wk_fr ⟨.refl _, .refl _, .refl _, .refl _, .refl _, .refl _, .refl _, .refl _, .refl _, .refl _, .refl _, .refl _, .refl _, trivial⟩)
            · refine E_ct (by simp [ev, Fr.get, hmem]) ?_
              (repeat (first | refine E_mv (by conv => lhs; whnf) ?_ | refine E_lenR rfl ?_ | refine E_len rfl ?_ | refine E_op0 rfl (by conv => lhs; whnf) ?_ | refine E_nil ?_ | refine E_nx ?_ | refine E_as ?_ | refine E_sq ?_ | refine E_reg ?_ | refine E_skip ?_ | refine E_gh rfl ?_ | refine E_gm rfl ?_ | refine E_gz rfl ?_))
              refine E_ldS hS rfl (.head _) rfl ?_
              (repeat (first | refine E_mv (by conv => lhs; whnf) ?_ | refine E_lenR rfl ?_ | refine E_len rfl ?_ | refine E_op0 rfl (by conv => lhs; whnf) ?_ | refine E_nil ?_ | refine E_nx ?_ | refine E_as ?_ | refine E_sq ?_ | refine E_reg ?_ | refine E_skip ?_ | refine E_gh rfl ?_ | refine E_gm rfl ?_ | refine E_gz rfl ?_))
              refine E_iadR rfl rfl ⟨by omega, by omega⟩ ?_
              (repeat (first | refine E_mv (by conv => lhs; whnf) ?_ | refine E_lenR rfl ?_ | refine E_len rfl ?_ | refine E_op0 rfl (by conv => lhs; whnf) ?_ | refine E_nil ?_ | refine E_nx ?_ | refine E_as ?_ | refine E_sq ?_ | refine E_reg ?_ | refine E_skip ?_ | refine E_gh rfl ?_ | refine E_gm rfl ?_ | refine E_gz rfl ?_))
              refine E_stL0 (l := s) hS Interval.enc rfl (by conv => lhs; whnf) (n := p.toNat) (fo := 3) (y := x) (y' := hold1 x) (by simp [szOf]) hx (by first | exact Rp.here | (repeat (first | exact Rp.here | apply Rp.there | apply Rp.skip))) rfl rfl (by simp [szOf]) rfl (fun S hS => ?_)
              (repeat (first | refine E_mv (by conv => lhs; whnf) ?_ | refine E_lenR rfl ?_ | refine E_len rfl ?_ | refine E_op0 rfl (by conv => lhs; whnf) ?_ | refine E_nil ?_ | refine E_nx ?_ | refine E_as ?_ | refine E_sq ?_ | refine E_reg ?_ | refine E_skip ?_ | refine E_gh rfl ?_ | refine E_gm rfl ?_ | refine E_gz rfl ?_))
              have hh : hldP (wrS nd) s p = s.set p.toNat (hold1 x) := by unfold hldP; rw [if_neg hmem, modify_set hx]
              rw [hh] at hI
              exact R_n (s.set p.toNat (hold1 x)) ⟨by simp [hsl], hI⟩ hS (wk_fr ⟨.refl _, .refl _, .refl _, .refl _, .refl _, .refl _, .refl _, .refl _, .refl _, .refl _, .refl _, .refl _, .refl _, trivial⟩)
          · obtain ⟨hsl, hI⟩ := hI
            rw [List.drop_length] at hI
            have hI : s = (bhI g i).foldl (hldP (wrS nd)) a2 := hI
            rw [hI] at hS
            exact hK _ _ (wk_trans hw (wk_fr ⟨.refl _, .refl _, .refl _, .refl _, .refl _, .refl _, .refl _, .refl _, .refl _, .refl _, trivial⟩)) hS
        have hfin : isCall g i = true → ∀ fr' S', Wk [] fr' S' [(6, .sl false 1 (List.map (avL 1 (avI .i64)) (inL g))), (8, .sl false 1 (List.map (avL 1 (avI .i64)) (outL g))), (10, gR g), (11, .ptr oc 0 0), (13, .fn (.func 46) [] [.ptr oc 0 0]), (15, .int .i64 (i : Int)), (16, .ptr o16 0 0), (68, .sl false 1 (List.map (avI .i64) (lineL g))), (70, .int .i64 (a : Int)), (69, .int .i64 ((lineL g).length : Int))] S' → Sep S' ((oc, 0, [.ref oa 0 0 g.Kinds.length (some 4)]) :: (oa, 0, flat Interval.av ((bhI g i).foldl (hldP (wrS nd)) a2)) :: (o16, 0, (Node.av nd).cells) :: []) →
            ∃ s', (List.length s' = g.Kinds.length ∧ nodesS g (a + 1) (w.drop (a + 1)) s' = allS g) ∧ Sep S' ((oc, 0, [.ref oa 0 0 g.Kinds.length (some 4)]) :: (oa, 0, flat Interval.av s') :: []) ∧ Wk [] fr' S' ((70, .int .i64 (a : Int)) :: (69, .int .i64 ((lineL g).length : Int)) :: [(6, .sl false 1 (List.map (avL 1 (avI .i64)) (inL g))), (8, .sl false 1 (List.map (avL 1 (avI .i64)) (outL g))), (10, gR g), (11, .ptr oc 0 0), (13, .fn (.func 46) [] [.ptr oc 0 0]), (68, .sl false 1 (List.map (avI .i64) (lineL g)))]) S' := fun hc fr' S' hw hS' =>
          ⟨_, ⟨by rw [hldF_len]; exact hlen2, by rw [hnode, if_pos hc] at hI; exact hI⟩, hS'.sub (.cons_cons _ (.cons_cons _ (List.sublist_cons_self _ _))), wk_trans hw (wk_fr ⟨.refl _, .refl _, .refl _, .refl _, .refl _, .refl _, .refl _, .refl _, trivial⟩)⟩
        cases h11 : nd.Op != 11 with
        | false =>
          have h11' : nd.Op = 11 := by simpa using h11
          have hc : isCall g i = true := by rw [hic, h11']; rfl
          (repeat (first | refine E_mv (by conv => lhs; whnf) ?_ | refine E_lenR rfl ?_ | refine E_len rfl ?_ | refine E_op0 rfl (by conv => lhs; whnf) ?_ | refine E_nil ?_ | refine E_nx ?_ | refine E_as ?_ | refine E_sq ?_ | refine E_reg ?_ | refine E_skip ?_ | refine E_gh rfl ?_ | refine E_gm rfl ?_ | refine E_gz rfl ?_))
          refine E_cf rfl (E_skip (E_nxw (by exact wk_fr ⟨.refl _, .refl _, .refl _, .refl _, .refl _, .refl _, .refl _, .refl _, .refl _, .refl _, trivial⟩) (hloop _ _ hS (fun fr' S' hw hS' => ?_))))
          obtain ⟨s', q1, q2, q3⟩ := hfin hc fr' S' hw hS'
          exact R_n s' q1 q2 q3
        | true =>
          have h11' : nd.Op ≠ 11 := by simpa using h11
          (repeat (first | refine E_mv (by conv => lhs; whnf) ?_ | refine E_lenR rfl ?_ | refine E_len rfl ?_ | refine E_op0 rfl (by conv => lhs; whnf) ?_ | refine E_nil ?_ | refine E_nx ?_ | refine E_as ?_ | refine E_sq ?_ | refine E_reg ?_ | refine E_skip ?_ | refine E_gh rfl ?_ | refine E_gm rfl ?_ | refine E_gz rfl ?_))
          refine E_ldS hS rfl (.tail _ (.tail _ (.head _))) (v := .int .u8 nd.Op) rfl ?_
          (repeat (first | refine E_mv (by conv => lhs; whnf) ?_ | refine E_lenR rfl ?_ | refine E_len rfl ?_ | refine E_op0 rfl (by conv => lhs; whnf) ?_ | refine E_nil ?_ | refine E_nx ?_ | refine E_as ?_ | refine E_sq ?_ | refine E_reg ?_ | refine E_skip ?_ | refine E_gh rfl ?_ | refine E_gm rfl ?_ | refine E_gz rfl ?_))
          cases h13 : nd.Op != 13 with
          | false =>
            have h13' : nd.Op = 13 := by simpa using h13
            have hc : isCall g i = true := by rw [hic, h13']; rfl
            refine E_cf rfl (E_skip (E_nxw (by exact wk_fr ⟨.refl _, .refl _, .refl _, .refl _, .refl _, .refl _, .refl _, .refl _, .refl _, .refl _, trivial⟩) (hloop _ _ hS (fun fr' S' hw hS' => ?_))))
            obtain ⟨s', q1, q2, q3⟩ := hfin hc fr' S' hw hS'
            exact R_n s' q1 q2 q3
          | true =>
            have h13' : nd.Op ≠ 13 := by simpa using h13
            have hc : isCall g i = false := by rw [hic]; simp [h11', h13']
            refine E_ct rfl (E_exit ?_)
            refine E_the ?_
            rw [hnode, hc] at hI
            exact R_c a2 ⟨hlen2, hI⟩ (hS.sub (.cons_cons _ (.cons_cons _ (List.sublist_cons_self _ _)))) (wk_fr ⟨.refl _, .refl _, .refl _, .refl _, .refl _, .refl _, .refl _, .refl _, trivial⟩)
      · obtain ⟨hsl, hI⟩ := hI
        rw [← hwl, List.drop_length] at hI
        have hI : s = allS g := hI
        subst hI
        refine E_nxw hw ?_
        (repeat (first | refine E_mv (by conv => lhs; whnf) ?_ | refine E_lenR rfl ?_ | refine E_len rfl ?_ | refine E_op0 rfl (by conv => lhs; whnf) ?_ | refine E_nil ?_ | refine E_nx ?_ | refine E_as ?_ | refine E_sq ?_ | refine E_reg ?_ | refine E_skip ?_ | refine E_gh rfl ?_ | refine E_gm rfl ?_ | refine E_gz rfl ?_))
        refine E_ldS hS rfl (by first | exact .head _ | exact .tail _ (.head _) | exact .tail _ (.tail _ (.head _)) | simp) rfl ?_
        refine E_cT (del_tri (all := allS g) (oa := oa) (va := 0) (by omega)) hS (by rw [hsl]; rfl) (Spl.cons (Pk.there Pk.here) Spl.nil) (fun v S L' hv hS => ?_)
        obtain ⟨j, rfl, rfl, hj1, hj2⟩ := hv
        (repeat (first | refine E_mv (by conv => lhs; whnf) ?_ | refine E_lenR rfl ?_ | refine E_len rfl ?_ | refine E_op0 rfl (by conv => lhs; whnf) ?_ | refine E_nil ?_ | refine E_nx ?_ | refine E_as ?_ | refine E_sq ?_ | refine E_reg ?_ | refine E_skip ?_ | refine E_gh rfl ?_ | refine E_gm rfl ?_ | refine E_gz rfl ?_))
        refine E_ret ?_
        refine ⟨trivial, _, rfl, ?_⟩
        have := fz_list (k := 0) Interval.enc hj1 hj2 (hS.at (.head _))
        refine fz_tup ⟨?_, (fz_b rfl (.refl _)), trivial⟩
        show AVw (frz 0 S (0 + 1) (.ref oa 0 0 (spansL g).length (some 4))) _
        unfold spansL
        rw [this]
        exact .refl _
end Go.Proofs.YtgoejecjmodjiaaDoor

