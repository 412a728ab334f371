/- live.solve: what it computes, and that it does. -/
import Derived.Test.YtgoejecjmodjiaaDoorLvS5
namespace Go.Proofs.YtgoejecjmodjiaaDoor
open Go Go.Ab
set_option maxRecDepth 20000
set_option maxHeartbeats 2000000
set_option linter.unusedVariables false
set_option linter.unusedSimpArgs false
def fc29 : FC := (.seq (.reg [oO 2 (.mv (.v .nils)), oO 3 (.mv (.v .nils))] []) (.seq (.reg [oO 24 (.mv (.t 0)), oO 25 (.nchk (.t 24)), oO 26 (.fad 6 (.t 25)), oO 27 (.load none (.t 26)), oO 28 (.len .sl (.t 27)), oO 29 (.mksl none 8 [.nilp] (.t 28) (.t 28)), oO 30 (.mv (.t 0)), oO 31 (.nchk (.t 30)), oO 32 (.fad 6 (.t 31)), oO 33 (.load none (.t 32)), oO 34 (.len .sl (.t 33)), oO 35 (.mksl none 8 [.nilp] (.t 34) (.t 34)), oO 4 (.mv (.t 29)), oO 5 (.mv (.t 35))] [(5, 9), (3, 11), (5, 11)]) (.seq (.reg [oO 36 (.mv (.t 0)), oO 37 (.nchk (.t 36)), oO 38 (.fad 6 (.t 37)), oO 39 (.load none (.t 38)), oO 40 (.len .sl (.t 39)), oO 41 (.mksl none 24 [.nils] (.t 40) (.t 40)), oO 6 (.mv (.t 41))] []) (.seq (.reg [oO 42 (.mv (.t 0)), oO 43 (.nchk (.t 42)), oO 44 (.fad 6 (.t 43)), oO 45 (.load none (.t 44)), oO 46 (.len .sl (.t 45)), oO 47 (.mksl none 8 [(.int .i64 0)] (.v (.int .i64 0)) (.t 46)), oO 7 (.mv (.t 47))] []) (.seq (.seq (.reg [oO 48 (.mv (.t 0)), oO 49 (.nchk (.t 48)), oO 50 (.fad 6 (.t 49)), oO 51 (.load none (.t 50)), oO 52 (.len .sl (.t 51)), oO 53 (.mv (.v (.int .i64 0)))] []) (.block 0 (.loop (.seq (.reg [oO 54 (.bin .none .lss (.t 53) (.t 52))] []) (.seq (.cond (.t 54) .skip (.exit 0)) (.seq (.block 1 (.seq (.reg [oO 55 (.mv (.t 53)), oO 56 (.iad none (some 12) (.t 51) (.t 53)), oO 57 (.load (some 12) (.t 56)), oO 9 (.new [(.int .u8 0), (.int .u8 0), (.int .i64 0), (.int .i64 0), (.int .i64 0), (.int .i64 0), (.int .i64 0), (.int .i64 0), (.int .u64 0), .nils, (.int .i64 0), (.int .i64 0)]), oO 8 (.mv (.t 55)), ⟨none, none, .op (.store 12 (.t 9) (.t 57))⟩] []) (.seq (.reg [oO 58 (.mv (.t 4)), oO 59 (.mv (.t 8)), oO 60 (.mv (.t 5)), oO 61 (.mv (.t 8)), oO 62 (.mv (.t 0)), oO 63 (.nchk (.t 62)), oO 64 (.fad 1 (.t 63)), oO 65 (.load none (.t 64)), oO 66 (.len .sl (.t 65)), ⟨(some 67), none, .call 54 [(.t 66)]⟩, oO 68 (.mv (.t 0)), oO 69 (.nchk (.t 68)), oO 70 (.fad 1 (.t 69)), oO 71 (.load none (.t 70)), oO 72 (.len .sl (.t 71)), ⟨(some 73), none, .call 54 [(.t 72)]⟩, oO 74 (.iad none none (.t 58) (.t 59)), ⟨none, none, .op (.store 1 (.t 74) (.t 67))⟩, oO 75 (.iad none none (.t 60) (.t 61)), ⟨none, none, .op (.store 1 (.t 75) (.t 73))⟩] [(9, 13)]) (.seq (.seq (.reg [oO 76 (.load (some 12) (.t 9)), ⟨(some 77), none, .call 55 [(.t 76)]⟩, oO 78 (.len .sl (.t 77)), oO 79 (.mv (.v (.int .i64 0)))] []) (.block 2 (.loop (.seq (.reg [oO 80 (.bin .none .lss (.t 79) (.t 78))] []) (.seq (.cond (.t 80) .skip (.exit 2)) (.seq (.block 3 (.seq (.reg [oO 81 (.iad none none (.t 77) (.t 79)), oO 82 (.load none (.t 81)), oO 11 (.mv (.t 82))] []) (.reg [oO 83 (.mv (.t 6)), oO 84 (.mv (.t 11)), oO 85 (.mv (.t 6)), oO 86 (.mv (.t 11)), oO 87 (.iad none none (.t 85) (.t 86)), oO 88 (.load none (.t 87)), oO 89 (.mv (.t 8)), oO 90 (.bsl none [(.int .i64 0)] 1 [(0, 1, (.t 89))]), oO 91 (.app none 8 (.t 88) (.t 90)), oO 92 (.iad none none (.t 83) (.t 84)), ⟨none, none, .op (.store 1 (.t 92) (.t 91))⟩] []))) (.reg [oO 93 (.bin .none .add (.t 79) (.v (.int .i64 1))), oO 79 (.mv (.t 93))] []))))))) (.reg [oO 94 (.mv (.t 7)), oO 95 (.mv (.t 8)), oO 96 (.bsl none [(.int .i64 0)] 1 [(0, 1, (.t 95))]), oO 97 (.app none 8 (.t 94) (.t 96)), oO 7 (.mv (.t 97))] []))))) (.reg [oO 98 (.bin .none .add (.t 53) (.v (.int .i64 1))), oO 53 (.mv (.t 98))] []))))))) (.seq (.reg [oO 99 (.mv (.t 0)), oO 100 (.nchk (.t 99)), oO 101 (.fad 6 (.t 100)), oO 102 (.load none (.t 101)), oO 103 (.len .sl (.t 102)), oO 104 (.mksl none 1 [(.bool false)] (.t 103) (.t 103)), oO 12 (.mv (.t 104))] []) (.seq (.seq (.reg [oO 105 (.mv (.t 12)), oO 106 (.len .sl (.t 105)), oO 107 (.mv (.v (.int .i64 0)))] []) (.block 4 (.loop (.seq (.reg [oO 108 (.bin .none .lss (.t 107) (.t 106))] []) (.seq (.cond (.t 108) .skip (.exit 4)) (.seq (.block 5 (.seq (.reg [oO 109 (.mv (.t 107)), oO 13 (.mv (.t 109))] []) (.reg [oO 110 (.mv (.t 12)), oO 111 (.mv (.t 13)), oO 112 (.iad none none (.t 110) (.t 111)), ⟨none, none, .op (.store 1 (.t 112) (.v (.bool true)))⟩] []))) (.reg [oO 113 (.bin .none .add (.t 107) (.v (.int .i64 1))), oO 107 (.mv (.t 113))] []))))))) (.seq (.block 6 (.loop (.seq (.seq (.reg [oO 114 (.mv (.t 7)), oO 115 (.len .sl (.t 114)), oO 116 (.bin .none .gtr (.t 115) (.v (.int .i64 0)))] []) (.cond (.t 116) .skip (.exit 6))) (.block 7 (.seq (.reg [oO 117 (.mv (.t 7)), oO 118 (.mv (.t 7)), oO 119 (.len .sl (.t 118)), oO 120 (.bin .none .sub (.t 119) (.v (.int .i64 1))), oO 121 (.iad none none (.t 117) (.t 120)), oO 122 (.load none (.t 121)), oO 14 (.mv (.t 122))] []) (.seq (.reg [oO 123 (.mv (.t 12)), oO 124 (.mv (.t 14)), oO 125 (.mv (.t 7)), oO 126 (.mv (.t 7)), oO 127 (.len .sl (.t 126)), oO 128 (.bin .none .sub (.t 127) (.v (.int .i64 1))), oO 129 (.slc none (.t 125) none (some (.t 128)) none), oO 7 (.mv (.t 129)), oO 130 (.iad none none (.t 123) (.t 124)), ⟨none, none, .op (.store 1 (.t 130) (.v (.bool false)))⟩] []) (.seq (.seq (.reg [oO 131 (.mv (.t 0)), oO 132 (.nchk (.t 131)), oO 133 (.fad 6 (.t 132)), oO 134 (.load none (.t 133)), oO 135 (.mv (.t 14)), oO 136 (.iad none (some 12) (.t 134) (.t 135)), oO 137 (.load (some 12) (.t 136)), ⟨(some 138), none, .call 55 [(.t 137)]⟩, oO 139 (.len .sl (.t 138)), oO 140 (.mv (.v (.int .i64 0)))] []) (.block 8 (.loop (.seq (.reg [oO 141 (.bin .none .lss (.t 140) (.t 139))] []) (.seq (.cond (.t 141) .skip (.exit 8)) (.seq (.block 9 (.seq (.reg [oO 142 (.iad none none (.t 138) (.t 140)), oO 143 (.load none (.t 142)), oO 16 (.mv (.t 143))] []) (.reg [oO 144 (.mv (.t 5)), oO 145 (.mv (.t 14)), oO 146 (.iad none none (.t 144) (.t 145)), oO 147 (.load none (.t 146)), oO 148 (.mv (.t 4)), oO 149 (.mv (.t 16)), oO 150 (.iad none none (.t 148) (.t 149)), oO 151 (.load none (.t 150)), ⟨(some 152), none, .call 56 [(.t 147), (.t 151)]⟩] []))) (.reg [oO 153 (.bin .none .add (.t 140) (.v (.int .i64 1))), oO 140 (.mv (.t 153))] []))))))) (.seq (.reg [oO 154 (.mv (.t 5)), oO 155 (.mv (.t 14)), oO 156 (.iad none none (.t 154) (.t 155)), oO 157 (.load none (.t 156)), ⟨(some 158), none, .call 57 [(.t 157)]⟩, oO 17 (.mv (.t 158))] []) (.seq (.seq (.reg [oO 159 (.mv (.t 0)), oO 160 (.nchk (.t 159)), oO 161 (.fad 6 (.t 160)), oO 162 (.load none (.t 161)), oO 163 (.mv (.t 14)), oO 164 (.iad none (some 12) (.t 162) (.t 163)), oO 165 (.load (some 12) (.t 164)), ⟨(some 166), none, .call 47 [(.t 165)]⟩, oO 167 (.len .sl (.t 166)), oO 168 (.mv (.v (.int .i64 0)))] []) (.block 10 (.loop (.seq (.reg [oO 169 (.bin .none .lss (.t 168) (.t 167))] []) (.seq (.cond (.t 169) .skip (.exit 10)) (.seq (.block 11 (.seq (.reg [oO 170 (.iad none none (.t 166) (.t 168)), oO 171 (.load none (.t 170)), oO 19 (.mv (.t 171))] []) (.reg [oO 172 (.mv (.t 17)), oO 173 (.mv (.t 19)), ⟨(some 174), none, .call 58 [(.t 172), (.t 173)]⟩] []))) (.reg [oO 175 (.bin .none .add (.t 168) (.v (.int .i64 1))), oO 168 (.mv (.t 175))] []))))))) (.seq (.seq (.reg [oO 176 (.mv (.t 0)), oO 177 (.nchk (.t 176)), oO 178 (.fad 6 (.t 177)), oO 179 (.load none (.t 178)), oO 180 (.mv (.t 14)), oO 181 (.iad none (some 12) (.t 179) (.t 180)), oO 182 (.load (some 12) (.t 181)), ⟨(some 183), none, .call 59 [(.t 182)]⟩, oO 184 (.len .sl (.t 183)), oO 185 (.mv (.v (.int .i64 0)))] []) (.block 12 (.loop (.seq (.reg [oO 186 (.bin .none .lss (.t 185) (.t 184))] []) (.seq (.cond (.t 186) .skip (.exit 12)) (.seq (.block 13 (.seq (.reg [oO 187 (.iad none none (.t 183) (.t 185)), oO 188 (.load none (.t 187)), oO 21 (.mv (.t 188))] []) (.reg [oO 189 (.mv (.t 17)), oO 190 (.mv (.t 21)), ⟨(some 191), none, .call 60 [(.t 189), (.t 190)]⟩] []))) (.reg [oO 192 (.bin .none .add (.t 185) (.v (.int .i64 1))), oO 185 (.mv (.t 192))] []))))))) (.seq (.seq (.reg [oO 193 (.mv (.t 4)), oO 194 (.mv (.t 14)), oO 195 (.iad none none (.t 193) (.t 194)), oO 196 (.load none (.t 195)), oO 197 (.mv (.t 17)), ⟨(some 198), none, .call 56 [(.t 196), (.t 197)]⟩, oO 199 (.un .not (.t 198))] []) (.cond (.t 199) (.exit 7) .skip)) (.seq (.reg [oO 200 (.mv (.t 6)), oO 201 (.mv (.t 14)), oO 202 (.iad none none (.t 200) (.t 201)), oO 203 (.load none (.t 202)), oO 204 (.len .sl (.t 203)), oO 205 (.mv (.v (.int .i64 0)))] []) (.block 14 (.loop (.seq (.reg [oO 206 (.bin .none .lss (.t 205) (.t 204))] []) (.seq (.cond (.t 206) .skip (.exit 14)) (.seq (.block 15 (.seq (.reg [oO 207 (.iad none none (.t 203) (.t 205)), oO 208 (.load none (.t 207)), oO 23 (.mv (.t 208))] []) (.seq (.reg [oO 209 (.mv (.t 12)), oO 210 (.mv (.t 23)), oO 211 (.iad none none (.t 209) (.t 210)), oO 212 (.load none (.t 211)), oO 213 (.un .not (.t 212))] []) (.cond (.t 213) (.reg [oO 214 (.mv (.t 12)), oO 215 (.mv (.t 23)), oO 216 (.mv (.t 7)), oO 217 (.mv (.t 23)), oO 218 (.bsl none [(.int .i64 0)] 1 [(0, 1, (.t 217))]), oO 219 (.app none 8 (.t 216) (.t 218)), oO 7 (.mv (.t 219)), oO 220 (.iad none none (.t 214) (.t 215)), ⟨none, none, .op (.store 1 (.t 220) (.v (.bool true)))⟩] []) .skip)))) (.reg [oO 221 (.bin .none .add (.t 205) (.v (.int .i64 1))), oO 205 (.mv (.t 221))] [])))))))))))))))))) (.seq (.reg [oO 222 (.mv (.t 4)), oO 223 (.mv (.t 5)), oO 2 (.mv (.t 222)), oO 3 (.mv (.t 223))] []) .ret)))))))))
theorem fn29 : Fn3 Tryd.prog 29 224 [(2, none), (3, none)] fc29 := ⟨_, _, Tryd.func29, rfl, rfl, rfl, by kernel_rfl⟩
def setNew (n : Int) : Option Bits_Set := (bits_New_o_s n).bind fun r => some ⟨r.1, r.2⟩
def setOr (fuel : Nat) (a b : Bits_Set) : Option (Bool × Bits_Set) := (bits_Set_Or_pNR_pNR_s fuel a.n a.words b.n b.words).bind fun r => gd (r.2.2.2 = b.n) (some (r.1, ⟨r.2.1, r.2.2.1⟩))
def setCopy (a : Bits_Set) : Option Bits_Set := (bits_Set_Copy_pNR_o_s a.n a.words).bind fun r => gd (r.1 = a.n) (some ⟨r.2.1, r.2.2⟩)
def setDel (a : Bits_Set) (i : Int) : Option Bits_Set := (bits_Set_Del_pNR_s a.n a.words i).bind fun r => some ⟨r.2.1, r.2.2⟩
def setAdd (a : Bits_Set) (i : Int) : Option Bits_Set := (bits_Set_Add_pNR_s a.n a.words i).bind fun r => some ⟨r.2.1, r.2.2⟩
section
variable {S : List Ob} {p pw q qw v vq : Nat} {s t u : Bits_Set}
theorem evNew {n : Int} (h : setNew n = some u) : Ev Tryd.prog 54 [.int .i64 n] (hp S) (.ptr S.length 0 0) (hp (putS S S.length (S.length + 1) 1 u)) := by
  obtain ⟨r, hr, e⟩ := bd_some h
  cases e
  exact ev_new hr
theorem evCopy (h : setCopy s = some u) (hs : isS S p pw v s) (hne : p ≠ pw) : Ev Tryd.prog 57 [.ptr p 0 0] (hp S) (.ptr S.length 0 0) (hp (putS S S.length (S.length + 1) 1 u)) := by
  obtain ⟨r, hr, e⟩ := bd_some h
  obtain ⟨e1, e2⟩ := gd_some e
  cases e2
  exact ev_copy hr e1 hs hne
theorem evDel {i : Int} (h : setDel s i = some u) (hs : isS S p pw v s) (hne : p ≠ pw) : ∃ b, Ev Tryd.prog 58 [.ptr p 0 0, .int .i64 i] (hp S) (.bool b) (hp (putS S p pw (v + 1) u)) := by
  obtain ⟨r, hr, e⟩ := bd_some h
  cases e
  exact ⟨_, ev_del hr hs hne⟩
theorem evAdd {i : Int} (h : setAdd s i = some u) (hs : isS S p pw v s) (hne : p ≠ pw) : ∃ b, Ev Tryd.prog 60 [.ptr p 0 0, .int .i64 i] (hp S) (.bool b) (hp (putS S p pw (v + 1) u)) := by
  obtain ⟨r, hr, e⟩ := bd_some h
  cases e
  exact ⟨_, ev_add hr hs hne⟩
theorem evOr {fuel : Nat} {r : Bool × Bits_Set} (h : setOr fuel s t = some r) (hs : isS S p pw v s) (ht : isS S q qw vq t) (hnd : [p, pw, q, qw].Nodup) : Ev Tryd.prog 56 [.ptr p 0 0, .ptr q 0 0] (hp S) (.bool r.1) (hp (putS S p pw (v + 1) r.2)) := by
  obtain ⟨k, hk, e⟩ := bd_some h
  obtain ⟨e1, e2⟩ := gd_some e
  cases e2
  exact ev_or hk e1 hs ht hnd
end
abbrev R0 := List Bits_Set × List Bits_Set
abbrev T1 := List Bits_Set × List Bits_Set × List (List Int) × List Int
abbrev T2 := List Bits_Set × List Bits_Set × List Int × List Bool
def sv_bef (N i : Nat) (_ : Nat) (to : Int) (s : List (List Int)) : Option (Stp (List (List Int)) (Option (Stp T1 (Option R0)))) :=
  gd (s.length = N) ((getI s to).bind fun y => (appL 8 y [(i : Int)]).bind fun l => some (.nxt (s.set to.toNat l)))
def sv_one (g : Graph) (i : Nat) (n : Node) (s : T1) : Option (Stp T1 (Option R0)) :=
  gd (s.1.length = i ∧ s.2.1.length = i) ((setNew (List.length g.Kinds : Int)).bind fun a => (setNew (List.length g.Kinds : Int)).bind fun b => (ir_Next_s n).bind fun nx =>
    (rng (sv_bef g.Nodes.length i) nx s.2.2.1).bind (oc fun bf => (appL 8 s.2.2.2 [(i : Int)]).bind fun l => some (.nxt (s.1 ++ [a], s.2.1 ++ [b], bf, l))))
def sv_wait (i : Nat) (s : List Bool) : Option (Stp (List Bool) (Option R0)) := (getI s (i : Int)).bind fun _ => some (.nxt (s.set (i : Int).toNat true))
def sv_or (fuel : Nat) (ins : List Bits_Set) (i : Int) (_ : Nat) (to : Int) (outs : List Bits_Set) : Option (Stp (List Bits_Set) (Option (Stp T2 (Option R0)))) :=
  gd (outs.length = ins.length) ((getI outs i).bind fun a => (getI ins to).bind fun b => (setOr fuel a b).bind fun r => some (.nxt (outs.set i.toNat r.2)))
def sv_del (_ : Nat) (p : Int) (s : Bits_Set) : Option (Stp Bits_Set (Option (Stp T2 (Option R0)))) := (setDel s p).bind fun d => some (.nxt d)
def sv_add (_ : Nat) (p : Int) (s : Bits_Set) : Option (Stp Bits_Set (Option (Stp T2 (Option R0)))) := (setAdd s p).bind fun d => some (.nxt d)
def sv_put (_ : Nat) (b : Int) (s : List Int × List Bool) : Option (Stp (List Int × List Bool) (Option (Stp T2 (Option R0)))) :=
  (getI s.2 b).bind fun y => if (!y) = true then (appL 8 s.1 [b]).bind fun l => (getI s.2 b).bind fun _ => some (.nxt (l, s.2.set b.toNat true)) else some (.nxt s)
def sv_step (fuel : Nat) (g : Graph) (bef : List (List Int)) (s : T2) : Option (Stp T2 (Option R0)) :=
  gd (s.1.length = g.Nodes.length ∧ s.2.1.length = g.Nodes.length ∧ bef.length = g.Nodes.length) (if (decide ((List.length s.2.2.1 : Int) > 0)) = true then
    (getI s.2.2.1 (I64 ((List.length s.2.2.1 : Int) - 1))).bind fun i => (subL s.2.2.1 0 (I64 ((List.length s.2.2.1 : Int) - 1))).bind fun td => (getI s.2.2.2 i).bind fun _ =>
    (getI g.Nodes i).bind fun nd => (ir_Next_s nd).bind fun nx => (rng (sv_or fuel s.1 i) nx s.2.1).bind (oc fun outs => gd (outs.length = g.Nodes.length) ((getI outs i).bind fun oi => (setCopy oi).bind fun c =>
    (getI g.Nodes i).bind fun nd2 => (ir_Writes_s nd2).bind fun wr => (rng sv_del wr c).bind (oc fun c1 => (getI g.Nodes i).bind fun nd3 => (ir_Reads_s nd3).bind fun rd => (rng sv_add rd c1).bind (oc fun c2 =>
    (getI s.1 i).bind fun ii => (setOr fuel ii c2).bind fun r => (if (!r.1) = true then some (.nxt (s.1.set i.toNat r.2, outs, td, s.2.2.2.set i.toNat false)) else
    (getI bef i).bind fun bs => (rng sv_put bs (td, s.2.2.2.set i.toNat false)).bind (oc fun q => some (.nxt (s.1.set i.toNat r.2, outs, q.1, q.2))))))))
  else some (.brk s))
def live_solve0_s (fuel : Nat) (g : Graph) : Option R0 :=
  (mkL 8 (List.length g.Nodes : Int) (List.length g.Nodes : Int) ()).bind fun m1 => (mkL 8 (List.length g.Nodes : Int) (List.length g.Nodes : Int) ()).bind fun m2 => (mkL 24 (List.length g.Nodes : Int) (List.length g.Nodes : Int) []).bind fun m3 => (mkL 8 0 (List.length g.Nodes : Int) 0).bind fun m4 =>
  (rng (sv_one g) g.Nodes ([], [], m3, m4)).bind (oc fun s => gd (s.1.length = g.Nodes.length ∧ s.2.1.length = g.Nodes.length ∧ s.2.2.1.length = g.Nodes.length) ((mkL 1 (List.length g.Nodes : Int) (List.length g.Nodes : Int) false).bind fun w =>
  (rni sv_wait (List.length w : Int) w).bind (oc fun w2 => (whileN (sv_step fuel g s.2.2.1) fuel (s.1, s.2.1, s.2.2.2, w2)).bind (oc fun e => gd (e.1.length = g.Nodes.length ∧ e.2.1.length = g.Nodes.length) (some (e.1, e.2.1))))))
theorem E_newN {P : Program} {ow : List Nat} {fr : Fr} {S : List Ob} {log : List LE} {d n rs} {cs : List AV} {S' : List Ob} {K : Fr → List Ob → List LE → Prop} (how : ow.contains d = true) (hn : S.length = n) (hS : setAt S n (.arr 0 cs) = S')
    (h : VTops P ow rs ((d, .ptr n 0 0) :: fr) S' (.acc [n] (some n) :: log) K) : VTops P ow (⟨some d, none, .op (.new cs)⟩ :: rs) fr S log K := by
  subst hn
  refine E_op (v := .ptr S.length 0 0) (rd := []) (δ := some (S.length, .arr 0 cs)) ?_ rfl hS h
  simp only [opV, vNew, how, if_true]
theorem putS_lenN {S : List Ob} {n v : Nat} {s : Bits_Set} (hn : S.length = n) : (putS S n (n + 1) v s).length = n + 2 := by subst hn; exact putS_newlen
section
variable {g : Graph} {r : R0} {fuel : Nat}
theorem E_mkLn {P : Program} {ow : List Nat} {fr : Fr} {S : List Ob} {log : List LE} {α : Type} {f : α → AV} {esh : Option Nat} {d o} {bytes : Nat} {z l c rs} {K : Fr → List Ob → List LE → Prop} {k k' n n'} {S' : List Ob} {x : α} {v : List α} (hn : S.length = o) (he : Enc f esh) (how : ow.contains d = true) (e : ev (Fr.get fr) l = .int k n) (e1 : ev (Fr.get fr) c = .int k' n') (hz : (f x).cells = z) (hv : mkL bytes n n' x = some v)
    (hS : setAt S o (.arr 0 (flat f v)) = S')
    (h : VTops P ow rs ((d, .ref o 0 0 v.length esh) :: fr) S' (.acc [o] (some o) :: log) K) : VTops P ow (⟨some d, none, .op (.mksl esh bytes z l c)⟩ :: rs) fr S log K := by
  subst hn
  exact E_mkL he how e e1 hz hv hS h
theorem encN : Enc (fun (_ : Unit) => AV.nilp) none := ⟨fun _ => rfl, fun _ => rfl, fun _ => rfl, fun _ _ => rfl⟩
theorem encZ : Enc (fun (_ : List Int) => AV.nils) none := ⟨fun _ => rfl, fun _ => rfl, fun _ => rfl, fun _ _ => rfl⟩
theorem getI_lt' {α : Type} {l : List α} {i : Int} {y : α} (h : getI l i = some y) : 0 ≤ i ∧ i.toNat < l.length ∧ i = (i.toNat : Int) ∧ l[i.toNat]? = some y := by
  obtain ⟨h1, h2, h3⟩ := getI_some h
  exact ⟨h1, by omega, by omega, h3⟩
abbrev gR (g : Graph) : AV := .cptr (Graph.av g).cells 0
theorem gb {R : Rn} {g : Graph} : RnV R (gR g) (gR g) := rn_b (cp_blw (Graph.enc.blw _ 0))
theorem live_solve0_ev (h : live_solve0_s fuel g = some r) : PureEv Tryd.prog 29 [(.cptr (Graph.av g).cells 0)] (.tup [(.sl false 1 ((r.1.map some).map (avP Bits_Set.av))), (.sl false 1 ((r.2.map some).map (avP Bits_Set.av)))]) := by
  unfold live_solve0_s at h
  refine PureEv_end mixed fn29 (by simp) [9, 29, 35, 41, 47, 104] 6 ?_
  unfold fc29
  refine E_sq ?_
  refine E_reg ?_
  refine E_mv (v' := .nils) rfl ?_
  refine E_mv (v' := .nils) rfl ?_
  refine E_nil ?_
  refine E_nx ?_
  refine E_sq ?_
  refine E_regp ?_
  refine E_mv (v' := (.cptr (Graph.av g).cells 0)) rfl ?_
  refine E_op0 (v' := (.cptr (Graph.av g).cells 0)) rfl rfl ?_
  refine E_op0 (v' := (.cptr (Graph.av g).cells 6)) rfl rfl ?_
  refine E_op0 (v' := (.sl false 12 (List.map Node.av g.Nodes))) rfl rfl ?_
  refine E_len rfl ?_
  obtain ⟨m1, hm1, h⟩ := bd_some h
  refine E_mkL (f := (fun (_ : Unit) => AV.nilp)) (x := ()) (S' := [.arr 0 (flat (fun (_ : Unit) => AV.nilp) m1)]) encN rfl rfl rfl rfl hm1 rfl ?_
  refine E_mv (v' := (.cptr (Graph.av g).cells 0)) rfl ?_
  refine E_op0 (v' := (.cptr (Graph.av g).cells 0)) rfl rfl ?_
  refine E_op0 (v' := (.cptr (Graph.av g).cells 6)) rfl rfl ?_
  refine E_op0 (v' := (.sl false 12 (List.map Node.av g.Nodes))) rfl rfl ?_
  refine E_len rfl ?_
  obtain ⟨m2, hm2, h⟩ := bd_some h
  refine E_mkL (f := (fun (_ : Unit) => AV.nilp)) (x := ()) (S' := [.arr 0 (flat (fun (_ : Unit) => AV.nilp) m1), .arr 0 (flat (fun (_ : Unit) => AV.nilp) m2)]) encN rfl rfl rfl rfl hm2 rfl ?_
  refine E_mv (v' := (.ref 0 0 0 (List.length m1) none)) rfl ?_
  refine E_mv (v' := (.ref 1 0 0 (List.length m2) none)) rfl ?_
  refine E_nil ?_
  refine And.intro (by simp [okLog, nthL, okPair, hp, fpOf]) ?_
  refine E_nx ?_
  refine E_sq ?_
  refine E_reg ?_
  refine E_mv (v' := (.cptr (Graph.av g).cells 0)) rfl ?_
  refine E_op0 (v' := (.cptr (Graph.av g).cells 0)) rfl rfl ?_
  refine E_op0 (v' := (.cptr (Graph.av g).cells 6)) rfl rfl ?_
  refine E_op0 (v' := (.sl false 12 (List.map Node.av g.Nodes))) rfl rfl ?_
  refine E_len rfl ?_
  obtain ⟨m3, hm3, h⟩ := bd_some h
  refine E_mkL (f := (fun (_ : List Int) => AV.nils)) (x := []) (S' := [.arr 0 (flat (fun (_ : Unit) => AV.nilp) m1), .arr 0 (flat (fun (_ : Unit) => AV.nilp) m2), .arr 0 (flat (fun (_ : List Int) => AV.nils) m3)]) encZ rfl rfl rfl rfl hm3 rfl ?_
  refine E_mv (v' := (.ref 2 0 0 (List.length m3) none)) rfl ?_
  refine E_nil ?_
  refine E_nx ?_
  refine E_sq ?_
  refine E_reg ?_
  refine E_mv (v' := (.cptr (Graph.av g).cells 0)) rfl ?_
  refine E_op0 (v' := (.cptr (Graph.av g).cells 0)) rfl rfl ?_
  refine E_op0 (v' := (.cptr (Graph.av g).cells 6)) rfl rfl ?_
  refine E_op0 (v' := (.sl false 12 (List.map Node.av g.Nodes))) rfl rfl ?_
  refine E_len rfl ?_
  obtain ⟨m4, hm4, h⟩ := bd_some h
  refine E_mkL (x := 0) (S' := [.arr 0 (flat (fun (_ : Unit) => AV.nilp) m1), .arr 0 (flat (fun (_ : Unit) => AV.nilp) m2), .arr 0 (flat (fun (_ : List Int) => AV.nils) m3), .arr 0 (flat (avI .i64) m4)]) (encI .i64) rfl rfl rfl rfl hm4 rfl ?_
  obtain ⟨_, q1⟩ := mkL_some hm1
  obtain ⟨_, q2⟩ := mkL_some hm2
  obtain ⟨_, q3⟩ := mkL_some hm3
  obtain ⟨_, q4⟩ := mkL_some hm4
  have l1 : m1.length = g.Nodes.length := by rw [q1]; simp
  have l2 : m2.length = g.Nodes.length := by rw [q2]; simp
  have l3 : m3.length = g.Nodes.length := by rw [q3]; simp
  have q3' : m3 = List.replicate g.Nodes.length [] := by rw [q3]; simp
  obtain rfl : m4 = [] := by rw [q4]; rfl
  refine E_mv (v' := (.ref 3 0 0 (List.length ([] : List Int)) none)) rfl ?_
  refine E_nil ?_
  refine E_nx ?_
  refine E_as ?_
  refine E_sq ?_
  refine E_reg ?_
  refine E_mv (v' := (.cptr (Graph.av g).cells 0)) rfl ?_
  refine E_op0 (v' := (.cptr (Graph.av g).cells 0)) rfl rfl ?_
  refine E_op0 (v' := (.cptr (Graph.av g).cells 6)) rfl rfl ?_
  refine E_op0 (v' := (.sl false 12 (List.map Node.av g.Nodes))) rfl rfl ?_
  refine E_len rfl ?_
  refine E_mv (v' := (.int .i64 0)) rfl ?_
  refine E_nil ?_
  refine E_nx ?_
  refine E_sq ?_
  refine E_rngO (fun s : T1 => [(0, gR g), (4, (.ref 0 0 0 g.Nodes.length none)), (5, (.ref 1 0 0 g.Nodes.length none)), (6, (.ref 2 0 0 g.Nodes.length none)), (7, (.ref 3 0 0 (List.length s.2.2.2) none)), (51, (.sl false 12 (List.map Node.av g.Nodes)))]) (fun s : T1 => HS g.Nodes.length s.1 s.2.1 s.2.2.1 s.2.2.2 []) h (by decide) (by decide) (fun _ => ⟨rfl, rfl, rfl, rfl⟩)
    (wk_init l1 l2 q3' ⟨(rn_b rfl), (rn_b rfl), gb, wr_refE l1 (by omega) rfl rfl rfl (by rw [ptrsC_len]; simp [szOf]), wr_refE l2 (by omega) rfl rfl rfl (by rw [ptrsC_len]; simp [szOf]), wr_refE l3 (by omega) rfl rfl rfl (by rw [befC_len]; simp [szOf]), wr_ref (by omega) rfl rfl rfl (by simp), (rn_b (Node.enc.blws 0)), trivial⟩) (fun i n s c hx hlt h => ?_) (fun s fr' S' h hw => ?_)
  · unfold sv_one at h
    obtain ⟨⟨hi, ho⟩, h⟩ := gd_some h
    have h0 : HasSt (HS g.Nodes.length s.1 s.2.1 s.2.2.1 s.2.2.2 []) id g.Nodes.length s.1 s.2.1 s.2.2.1 0 s.2.2.2 [] := hs_st (by omega) (by omega)
    have hl0 : (HS g.Nodes.length s.1 s.2.1 s.2.2.1 s.2.2.2 []).length = 5 + 5 * g.Nodes.length := ofF_len
    generalize hS0 : HS g.Nodes.length s.1 s.2.1 s.2.2.1 s.2.2.2 [] = S0 at h0 hl0
    refine E_sq ?_
    refine E_reg ?_
    refine E_mv (v' := (.int .i64 (i : Int))) rfl ?_
    refine E_iadF rfl rfl (getI_of hx) ?_
    refine E_op0 (v' := (Node.av n)) rfl rfl ?_
    refine E_newN rfl hl0 rfl ?_
    refine E_mv (v' := (.int .i64 (i : Int))) rfl ?_
    refine E_stV (S' := setAt S0 (5 + 5 * g.Nodes.length) (.arr 0 (Node.cells n))) (xv := Node.av n) rfl rfl (by rw [hp_setAt, upd_eq]) rfl rfl (Nat.le_of_ble_eq_true rfl) (by rw [setAt_twice]; rfl) ?_
    refine E_nil ?_
    refine E_nx ?_
    have hl1 : (setAt S0 (5 + 5 * g.Nodes.length) (.arr 0 (Node.cells n))).length = 5 + 5 * g.Nodes.length + 1 := by rw [setAt_len _ _ _ (by omega)]; omega
    have k1 : ∀ k, k < 5 + 5 * g.Nodes.length → hp (setAt S0 (5 + 5 * g.Nodes.length) (.arr 0 (Node.cells n))) k = hp S0 k := fun k hk => by rw [hp_setAt, upd_no (by omega)]
    have k1n : hp (setAt S0 (5 + 5 * g.Nodes.length) (.arr 0 (Node.cells n))) (5 + 5 * g.Nodes.length) = .arr 0 (Node.cells n) := by rw [hp_setAt, upd_eq]
    generalize hS1 : setAt S0 (5 + 5 * g.Nodes.length) (.arr 0 (Node.cells n)) = S1 at hl1 k1 k1n
    refine E_sq ?_
    refine E_regp ?_
    refine E_mv (v' := (.ref 0 0 0 g.Nodes.length none)) rfl ?_
    refine E_mv (v' := (.int .i64 (i : Int))) rfl ?_
    refine E_mv (v' := (.ref 1 0 0 g.Nodes.length none)) rfl ?_
    refine E_mv (v' := (.int .i64 (i : Int))) rfl ?_
    refine E_mv (v' := (.cptr (Graph.av g).cells 0)) rfl ?_
    refine E_op0 (v' := (.cptr (Graph.av g).cells 0)) rfl rfl ?_
    refine E_op0 (v' := (.cptr (Graph.av g).cells 1)) rfl rfl ?_
    refine E_op0 (v' := (.sl false 1 (List.map (avI .u8) g.Kinds))) rfl rfl ?_
    refine E_len rfl ?_
    obtain ⟨a, ha, h⟩ := bd_some h
    have eA := evNew (S := S1) ha
    rw [hl1] at eA
    refine E_callE eA rfl ?_
    have hl2 : (putS S1 (5 + 5 * g.Nodes.length + 1) (5 + 5 * g.Nodes.length + 1 + 1) 1 a).length = 5 + 5 * g.Nodes.length + 3 := putS_lenN hl1
    have k2 : ∀ k, k < 5 + 5 * g.Nodes.length + 1 → hp (putS S1 (5 + 5 * g.Nodes.length + 1) (5 + 5 * g.Nodes.length + 1 + 1) 1 a) k = hp S1 k := fun k hk => hp_putS (by omega) (by omega)
    have sA : isS (putS S1 (5 + 5 * g.Nodes.length + 1) (5 + 5 * g.Nodes.length + 1 + 1) 1 a) (5 + 5 * g.Nodes.length + 1) (5 + 5 * g.Nodes.length + 2) 1 a := isS_put (by omega)
    generalize hS2 : putS S1 (5 + 5 * g.Nodes.length + 1) (5 + 5 * g.Nodes.length + 1 + 1) 1 a = S2 at hl2 k2 sA
    refine E_mv (v' := (.cptr (Graph.av g).cells 0)) rfl ?_
    refine E_op0 (v' := (.cptr (Graph.av g).cells 0)) rfl rfl ?_
    refine E_op0 (v' := (.cptr (Graph.av g).cells 1)) rfl rfl ?_
    refine E_op0 (v' := (.sl false 1 (List.map (avI .u8) g.Kinds))) rfl rfl ?_
    refine E_len rfl ?_
    obtain ⟨b, hb, h⟩ := bd_some h
    have eB := evNew (S := S2) hb
    rw [hl2] at eB
    refine E_callE eB rfl ?_
    have k3 : ∀ k, k < 5 + 5 * g.Nodes.length + 3 → hp (putS S2 (5 + 5 * g.Nodes.length + 3) (5 + 5 * g.Nodes.length + 3 + 1) 1 b) k = hp S2 k := fun k hk => hp_putS (by omega) (by omega)
    have sB : isS (putS S2 (5 + 5 * g.Nodes.length + 3) (5 + 5 * g.Nodes.length + 3 + 1) 1 b) (5 + 5 * g.Nodes.length + 3) (5 + 5 * g.Nodes.length + 4) 1 b := isS_put (by omega)
    generalize hS3 : putS S2 (5 + 5 * g.Nodes.length + 3) (5 + 5 * g.Nodes.length + 3 + 1) 1 b = S3 at k3 sB
    obtain ⟨cs0, c01, c02, _⟩ := h0.c0
    obtain ⟨cs1, c11, c12, _⟩ := h0.c1
    have d0 : hp S3 0 = .arr 0 cs0 := by rw [k3 _ (by omega), k2 _ (by omega), k1 _ (by omega)]; exact c01
    have d1 : hp S3 1 = .arr 0 cs1 := by rw [k3 _ (by omega), k2 _ (by omega), k1 _ (by omega)]; exact c11
    refine E_iadR rfl rfl ⟨by omega, by omega⟩ ?_
    refine E_stV (S' := setAt S3 0 (.arr 0 (cs0.set i (.ptr (5 + 5 * g.Nodes.length + 1) 0 0)))) (xv := .ptr (5 + 5 * g.Nodes.length + 1) 0 0) rfl rfl d0 rfl rfl (by simp [szOf]; omega) (by simp [szOf, splice, AV.cells]) ?_
    refine E_iadR rfl rfl ⟨by omega, by omega⟩ ?_
    refine E_stV (S' := setAt (setAt S3 0 (.arr 0 (cs0.set i (.ptr (5 + 5 * g.Nodes.length + 1) 0 0)))) 1 (.arr 0 (cs1.set i (.ptr (5 + 5 * g.Nodes.length + 3) 0 0)))) (xv := .ptr (5 + 5 * g.Nodes.length + 3) 0 0) rfl rfl (by rw [hp_setAt, upd_no (by decide)]; exact d1) rfl rfl (by simp [szOf]; omega) (by simp [szOf, splice, AV.cells]) ?_
    have k5 : ∀ k, k ≠ 0 → k ≠ 1 → hp (setAt (setAt S3 0 (.arr 0 (cs0.set i (.ptr (5 + 5 * g.Nodes.length + 1) 0 0)))) 1 (.arr 0 (cs1.set i (.ptr (5 + 5 * g.Nodes.length + 3) 0 0)))) k = hp S3 k := fun k a b => by rw [hp_setAt, upd_no b, hp_setAt, upd_no a]
    have k50 : hp (setAt (setAt S3 0 (.arr 0 (cs0.set i (.ptr (5 + 5 * g.Nodes.length + 1) 0 0)))) 1 (.arr 0 (cs1.set i (.ptr (5 + 5 * g.Nodes.length + 3) 0 0)))) 0 = .arr 0 (cs0.set i (.ptr (5 + 5 * g.Nodes.length + 1) 0 0)) := by rw [hp_setAt, upd_no (by decide), hp_setAt, upd_eq]
    have k51 : hp (setAt (setAt S3 0 (.arr 0 (cs0.set i (.ptr (5 + 5 * g.Nodes.length + 1) 0 0)))) 1 (.arr 0 (cs1.set i (.ptr (5 + 5 * g.Nodes.length + 3) 0 0)))) 1 = .arr 0 (cs1.set i (.ptr (5 + 5 * g.Nodes.length + 3) 0 0)) := by rw [hp_setAt, upd_eq]
    generalize hS5 : setAt (setAt S3 0 (.arr 0 (cs0.set i (.ptr (5 + 5 * g.Nodes.length + 1) 0 0)))) 1 (.arr 0 (cs1.set i (.ptr (5 + 5 * g.Nodes.length + 3) 0 0))) = S5 at k5 k50 k51
    refine E_nil ?_
    refine And.intro (by simp [okLog, nthL, okPair]) ?_
    refine E_nx ?_
    have hP : HasSt S5 (pushM (5 + 5 * g.Nodes.length) i) g.Nodes.length (s.1 ++ [a]) (s.2.1 ++ [b]) s.2.2.1 0 s.2.2.2 [] :=
      h0.push hi ho hlt c01 c11 (fun k a b c => by rw [k5 k b c, k3 k (by omega), k2 k (by omega), k1 k a]) k50 k51 (isS_congr sA (by rw [k5 _ (by omega) (by omega), k3 _ (by omega)]) (by rw [k5 _ (by omega) (by omega), k3 _ (by omega)])) (isS_congr sB (k5 _ (by omega) (by omega)) (k5 _ (by omega) (by omega)))
    refine E_as ?_
    refine E_sq ?_
    refine E_reg ?_
    refine E_ldV (v := Node.av n) rfl (by rw [k5 _ (by omega) (by omega), k3 _ (by omega), k2 _ (by omega)]; exact k1n) rfl ?_
    obtain ⟨nx, hnx, h⟩ := bd_some h
    refine E_callW (ir_Next_ev hnx) rfl ⟨(.refl _), trivial⟩ (blwL_of ⟨(Node.enc.blw _ 0), trivial⟩) ((encI .i64).blws 0) ?_
    refine E_len rfl ?_
    refine E_mv (v' := (.int .i64 0)) rfl ?_
    refine E_nil ?_
    refine E_nx ?_
    refine E_sq ?_
    refine E_rngO (fun bf => [(0, gR g), (4, (.ref 0 0 0 g.Nodes.length none)), (5, (.ref 1 0 0 g.Nodes.length none)), (6, (.ref 2 0 0 g.Nodes.length none)), (7, (.ref 3 0 0 (List.length s.2.2.2) none)), (8, (.int .i64 (i : Int))), (51, (.sl false 12 (List.map Node.av g.Nodes))), (52, (.int .i64 (List.length g.Nodes : Int))), (53, (.int .i64 (i : Int))), (77, (.sl false 1 (List.map (avI .i64) nx)))]) (fun bf => HS g.Nodes.length (s.1 ++ [a]) (s.2.1 ++ [b]) bf s.2.2.2 []) h (by decide) (by decide) (fun _ => ⟨rfl, rfl, rfl, rfl⟩)
      (hP.wkM pushM_inj ⟨(rn_b rfl), (rn_b rfl), gb, hP.r4 (Nat.le_refl _) rfl rfl (pushM_no (by omega) (by omega) (by omega) (by omega)), hP.r5 (Nat.le_refl _) rfl rfl (pushM_no (by omega) (by omega) (by omega) (by omega)), hP.r6 (Nat.le_refl _) rfl rfl (pushM_no (by omega) (by omega) (by omega) (by omega)), hP.r7 (Nat.le_refl _) rfl rfl rfl (pushM_no (by omega) (by omega) (by omega) (by omega)), (rn_b rfl), (rn_b (Node.enc.blws 0)), (rn_b rfl), (rn_b rfl), (rn_b ((encI .i64).blws 0)), trivial⟩) (fun i2 to bf c hx2 hlt2 h => ?_) (fun bf fr' S' h hw => ?_)
    · unfold sv_bef at h
      obtain ⟨hbl, h⟩ := gd_some h
      obtain ⟨y, hy, h⟩ := bd_some h
      obtain ⟨l, hl, h⟩ := bd_some h
      obtain ⟨y0, y1, y2, y3⟩ := getI_lt' hy
      have hB : HasSt (HS g.Nodes.length (s.1 ++ [a]) (s.2.1 ++ [b]) bf s.2.2.2 []) id g.Nodes.length (s.1 ++ [a]) (s.2.1 ++ [b]) bf 0 s.2.2.2 [] := hs_st (by simp; omega) (by simp; omega)
      generalize hSB : HS g.Nodes.length (s.1 ++ [a]) (s.2.1 ++ [b]) bf s.2.2.2 [] = SB at hB
      obtain ⟨cs, v, b1, b2, b3, b4⟩ := hB.befAt (j := to.toNat) (by omega)
      have ey : bf.getD to.toNat [] = y := by simp [List.getD_eq_getElem?_getD, y3]
      rw [ey] at b3 b4
      refine E_sq ?_
      refine E_reg ?_
      refine E_iadF rfl rfl (getI_of hx2) ?_
      refine E_op0 (v' := (.int .i64 to)) rfl rfl ?_
      refine E_mv (v' := (.int .i64 to)) rfl ?_
      refine E_nil ?_
      refine E_nx ?_
      refine E_reg ?_
      refine E_mv (v' := (.ref 2 0 0 g.Nodes.length none)) rfl ?_
      refine E_mv (v' := (.int .i64 to)) rfl ?_
      refine E_mv (v' := (.ref 2 0 0 g.Nodes.length none)) rfl ?_
      refine E_mv (v' := (.int .i64 to)) rfl ?_
      refine E_iadR rfl rfl ⟨by omega, by omega⟩ ?_
      refine E_ldV rfl b1 (by simpa [szOf] using b3) ?_
      refine E_mv (v' := (.int .i64 (i : Int))) rfl ?_
      refine E_opw (v' := (.sl true 1 (List.map (avI .i64) [(i : Int)]))) rfl (.refl _) rfl ?_
      refine E_apL (S' := setAt SB (9 + 5 * to.toNat) (.arr (v + 1) (flat (avI .i64) l))) (encI .i64) rfl (src_sl [(i : Int)]) b4 hl rfl ?_
      refine E_iadR rfl rfl ⟨by omega, by omega⟩ ?_
      refine E_stV (S' := setAt (setAt SB (9 + 5 * to.toNat) (.arr (v + 1) (flat (avI .i64) l))) 2 (.arr 0 (cs.set to.toNat (.ref (9 + 5 * to.toNat) (v + 1) 0 l.length none)))) (xv := .ref (9 + 5 * to.toNat) (v + 1) 0 l.length none) rfl rfl (by rw [hp_setAt, upd_no (by omega)]; exact b1) rfl rfl (by simp [szOf]; omega) (by simp [szOf, splice, AV.cells]) ?_
      refine E_nil ?_
      have hC := hB.setBef (j := to.toNat) (v := v + 1) (l := l) (by omega) y1 b1
      cases h
      exact L_nn rfl (hC.wkI ⟨(rn_b rfl), (rn_b rfl), gb, hC.r4 (Nat.le_refl _) rfl rfl rfl, hC.r5 (Nat.le_refl _) rfl rfl rfl, hC.r6 (Nat.le_refl _) rfl rfl rfl, hC.r7 (Nat.le_refl _) rfl rfl rfl rfl, (rn_b rfl), (rn_b (Node.enc.blws 0)), (rn_b rfl), (rn_b rfl), (rn_b ((encI .i64).blws 0)), trivial⟩)
    · refine X_nx hw ?_
      have hB : HasSt (HS g.Nodes.length (s.1 ++ [a]) (s.2.1 ++ [b]) bf s.2.2.2 []) id g.Nodes.length (s.1 ++ [a]) (s.2.1 ++ [b]) bf 0 s.2.2.2 [] := hs_st (by simp; omega) (by simp; omega)
      have e3 : hp (HS g.Nodes.length (s.1 ++ [a]) (s.2.1 ++ [b]) bf s.2.2.2 []) 3 = .arr 0 (flat (avI .i64) s.2.2.2) := hp_ofF (by omega)
      generalize hSB : HS g.Nodes.length (s.1 ++ [a]) (s.2.1 ++ [b]) bf s.2.2.2 [] = SB at hB e3
      refine E_reg ?_
      refine E_mv (v' := (.ref 3 0 0 (List.length s.2.2.2) none)) rfl ?_
      refine E_mv (v' := (.int .i64 (i : Int))) rfl ?_
      refine E_opw (v' := (.sl true 1 (List.map (avI .i64) [(i : Int)]))) rfl (.refl _) rfl ?_
      obtain ⟨l, hl, h⟩ := bd_some h
      refine E_apL (S' := setAt SB 3 (.arr 1 (flat (avI .i64) l))) (encI .i64) rfl (src_sl [(i : Int)]) e3 hl rfl ?_
      refine E_mv (v' := (.ref 3 1 0 (List.length l) none)) rfl ?_
      refine E_nil ?_
      have hC := hB.setTodo (v := 1) (todo' := l)
      cases h
      exact L_nn rfl (hC.wkI ⟨(rn_b rfl), (rn_b rfl), gb, hC.r4 (Nat.le_refl _) rfl rfl rfl, hC.r5 (Nat.le_refl _) rfl rfl rfl, hC.r6 (Nat.le_refl _) rfl rfl rfl, hC.r7 (Nat.le_refl _) rfl rfl rfl rfl, (rn_b (Node.enc.blws 0)), trivial⟩)
  · refine X_nx hw ?_
    obtain ⟨⟨li, lo, lb⟩, h⟩ := gd_some h
    have h0 : HasSt (HS g.Nodes.length s.1 s.2.1 s.2.2.1 s.2.2.2 []) id g.Nodes.length s.1 s.2.1 s.2.2.1 0 s.2.2.2 [] := hs_st (by omega) (by omega)
    have hl0 : (HS g.Nodes.length s.1 s.2.1 s.2.2.1 s.2.2.2 []).length = 5 + 5 * g.Nodes.length := ofF_len
    generalize hS0 : HS g.Nodes.length s.1 s.2.1 s.2.2.1 s.2.2.2 [] = S0 at h0 hl0
    refine E_sq ?_
    refine E_reg ?_
    refine E_mv (v' := (.cptr (Graph.av g).cells 0)) rfl ?_
    refine E_op0 (v' := (.cptr (Graph.av g).cells 0)) rfl rfl ?_
    refine E_op0 (v' := (.cptr (Graph.av g).cells 6)) rfl rfl ?_
    refine E_op0 (v' := (.sl false 12 (List.map Node.av g.Nodes))) rfl rfl ?_
    refine E_len rfl ?_
    obtain ⟨w, hw1, h⟩ := bd_some h
    refine E_mkLn (x := false) (S' := setAt S0 (5 + 5 * g.Nodes.length) (.arr 0 (flat avB w))) hl0 encB rfl rfl rfl rfl hw1 rfl ?_
    refine E_mv (v' := (.ref (5 + 5 * g.Nodes.length) 0 0 (List.length w) none)) rfl ?_
    refine E_nil ?_
    refine E_nx ?_
    have hP : HasSt (setAt S0 (5 + 5 * g.Nodes.length) (.arr 0 (flat avB w))) (waitM (5 + 5 * g.Nodes.length)) g.Nodes.length s.1 s.2.1 s.2.2.1 0 s.2.2.2 w := h0.newWaits (fun k hk => by rw [hp_setAt, upd_no (by omega)]) (by rw [hp_setAt, upd_eq])
    refine E_as ?_
    refine E_sq ?_
    refine E_reg ?_
    refine E_mv (v' := (.ref (5 + 5 * g.Nodes.length) 0 0 (List.length w) none)) rfl ?_
    refine E_lenR rfl ?_
    refine E_mv (v' := (.int .i64 0)) rfl ?_
    refine E_nil ?_
    refine E_nx ?_
    refine E_sq ?_
    refine E_rniO (fun w => [(0, gR g), (4, (.ref 0 0 0 g.Nodes.length none)), (5, (.ref 1 0 0 g.Nodes.length none)), (6, (.ref 2 0 0 g.Nodes.length none)), (7, (.ref 3 0 0 (List.length s.2.2.2) none)), (12, (.ref 4 0 0 (List.length w) none))]) (fun w => HS g.Nodes.length s.1 s.2.1 s.2.2.1 s.2.2.2 w) h (by decide) (by decide) (fun _ => ⟨rfl, rfl, rfl, rfl⟩)
      (hP.wkM waitM_inj ⟨(rn_b rfl), (rn_b rfl), gb, hP.r4 (m' := fun i => some (waitM (5 + 5 * g.Nodes.length) i)) (Nat.le_refl _) rfl rfl (waitM_no (by omega)), hP.r5 (m' := fun i => some (waitM (5 + 5 * g.Nodes.length) i)) (Nat.le_refl _) rfl rfl (waitM_no (by omega)), hP.r6 (m' := fun i => some (waitM (5 + 5 * g.Nodes.length) i)) (Nat.le_refl _) rfl rfl (waitM_no (by omega)), hP.r7 (m' := fun i => some (waitM (5 + 5 * g.Nodes.length) i)) (Nat.le_refl _) rfl rfl rfl (waitM_no (by omega)), hP.r12 (Nat.le_refl _) rfl rfl rfl waitM_4, trivial⟩) (fun i w c hlt h => ?_) (fun w fr' S' h hw => ?_)
    · unfold sv_wait at h
      obtain ⟨y, hy, h⟩ := bd_some h
      have hB : HasSt (HS g.Nodes.length s.1 s.2.1 s.2.2.1 s.2.2.2 w) id g.Nodes.length s.1 s.2.1 s.2.2.1 0 s.2.2.2 w := hs_st (by omega) (by omega)
      generalize hSB : HS g.Nodes.length s.1 s.2.1 s.2.2.1 s.2.2.2 w = SB at hB
      refine E_sq ?_
      refine E_reg ?_
      refine E_mv (v' := (.int .i64 (i : Int))) rfl ?_
      refine E_mv (v' := (.int .i64 (i : Int))) rfl ?_
      refine E_nil ?_
      refine E_nx ?_
      refine E_reg ?_
      refine E_mv (v' := (.ref 4 0 0 (List.length w) none)) rfl ?_
      refine E_mv (v' := (.int .i64 (i : Int))) rfl ?_
      refine E_iadR rfl rfl ⟨(getI_some hy).1, (getI_some hy).2.1⟩ ?_
      refine E_stR (y := y) (y' := true) (S' := setAt SB 4 (.arr 0 (flat avB (List.set w (Int.toNat (i : Int)) true)))) encB rfl rfl hB.c4 (by first | rfl | exact (Nat.add_zero _).symm | (simp only [Nat.zero_add]; exact (Nat.add_zero _).symm) | (simp only [Nat.zero_add, Nat.add_zero])) (getI_some hy).2.2 rfl rfl (Nat.le_of_ble_eq_true rfl) rfl rfl ?_
      refine E_nil ?_
      have hC := hB.setWaits (waits' := List.set w (Int.toNat (i : Int)) true)
      cases h
      exact L_nn rfl (hC.wkI ⟨(rn_b rfl), (rn_b rfl), gb, hC.r4 (Nat.le_refl _) rfl rfl rfl, hC.r5 (Nat.le_refl _) rfl rfl rfl, hC.r6 (Nat.le_refl _) rfl rfl rfl, hC.r7 (Nat.le_refl _) rfl rfl rfl rfl, hC.r12 (Nat.le_refl _) rfl rfl (by rw [List.length_set]) rfl, trivial⟩)
    · refine X_nx hw ?_
      have hQ : HasSt (HS g.Nodes.length s.1 s.2.1 s.2.2.1 s.2.2.2 w) id g.Nodes.length s.1 s.2.1 s.2.2.1 0 s.2.2.2 w := hs_st (by omega) (by omega)
      refine E_sq ?_
      refine E_whileO (fun q : T2 => [(0, gR g), (4, (.ref 0 0 0 g.Nodes.length none)), (5, (.ref 1 0 0 g.Nodes.length none)), (6, (.ref 2 0 0 g.Nodes.length none)), (7, (.ref 3 0 0 (List.length q.2.2.1) none)), (12, (.ref 4 0 0 (List.length q.2.2.2) none))]) (fun q : T2 => HS g.Nodes.length q.1 q.2.1 s.2.2.1 q.2.2.1 q.2.2.2) h
        (hQ.wkI ⟨gb, hQ.r4 (Nat.le_refl _) rfl rfl rfl, hQ.r5 (Nat.le_refl _) rfl rfl rfl, hQ.r6 (Nat.le_refl _) rfl rfl rfl, hQ.r7 (Nat.le_refl _) rfl rfl rfl rfl, hQ.r12 (Nat.le_refl _) rfl rfl rfl rfl, trivial⟩) (fun q c h => ?_) (fun q fr' S' h hw => ?_)
      · unfold sv_step at h
        obtain ⟨⟨li, lo, lb⟩, h⟩ := gd_some h
        have h0 : HasSt (HS g.Nodes.length q.1 q.2.1 s.2.2.1 q.2.2.1 q.2.2.2) id g.Nodes.length q.1 q.2.1 s.2.2.1 0 q.2.2.1 q.2.2.2 := hs_st (by omega) (by omega)
        have e3 : hp (HS g.Nodes.length q.1 q.2.1 s.2.2.1 q.2.2.1 q.2.2.2) 3 = .arr 0 (flat (avI .i64) q.2.2.1) := hp_ofF (by omega)
        generalize hS0 : HS g.Nodes.length q.1 q.2.1 s.2.2.1 q.2.2.1 q.2.2.2 = S0 at h0 e3
        refine E_as ?_
        refine E_sq ?_
        refine E_reg ?_
        refine E_mv (v' := (.ref 3 0 0 (List.length q.2.2.1) none)) rfl ?_
        refine E_lenR rfl ?_
        refine E_op0 (v' := (.bool (decide ((List.length q.2.2.1 : Int) > 0)))) rfl rfl ?_
        refine E_nil ?_
        refine E_nx ?_
        refine E_sq ?_
        refine E_cs (t := (decide ((List.length q.2.2.1 : Int) > 0))) rfl (fun hb => ?_) (fun hb => ?_)
        · rw [ite_t hb] at h
          refine E_skip ?_
          refine E_nx ?_
          refine E_block ?_
          refine E_sq ?_
          refine E_reg ?_
          refine E_mv (v' := (.ref 3 0 0 (List.length q.2.2.1) none)) rfl ?_
          refine E_mv (v' := (.ref 3 0 0 (List.length q.2.2.1) none)) rfl ?_
          refine E_lenR rfl ?_
          refine E_op0 (v' := (.int .i64 (I64 ((List.length q.2.2.1 : Int) - 1)))) rfl rfl ?_
          obtain ⟨i, hi, h⟩ := bd_some h
          refine E_iadR rfl rfl ⟨(getI_some hi).1, (getI_some hi).2.1⟩ ?_
          refine E_ldR (encI .i64) rfl e3 (by first | rfl | exact (Nat.add_zero _).symm | (simp only [Nat.zero_add]; exact (Nat.add_zero _).symm) | (simp only [Nat.zero_add, Nat.add_zero])) (getI_some hi).2.2 rfl (.refl _) ?_
          refine E_mv (v' := (.int .i64 i)) rfl ?_
          refine E_nil ?_
          refine E_nx ?_
          refine E_sq ?_
          refine E_reg ?_
          refine E_mv (v' := (.ref 4 0 0 (List.length q.2.2.2) none)) rfl ?_
          refine E_mv (v' := (.int .i64 i)) rfl ?_
          refine E_mv (v' := (.ref 3 0 0 (List.length q.2.2.1) none)) rfl ?_
          refine E_mv (v' := (.ref 3 0 0 (List.length q.2.2.1) none)) rfl ?_
          refine E_lenR rfl ?_
          refine E_op0 (v' := (.int .i64 (I64 ((List.length q.2.2.1 : Int) - 1)))) rfl rfl ?_
          obtain ⟨td, htd, h⟩ := bd_some h
          refine E_slcP rfl rfl htd ?_
          refine E_mv (v' := (.ref 3 0 (0 + 0 * szOf none) (Int.toNat (I64 ((List.length q.2.2.1 : Int) - 1))) none)) rfl ?_
          obtain ⟨y, hy, h⟩ := bd_some h
          refine E_iadR rfl rfl ⟨(getI_some hy).1, (getI_some hy).2.1⟩ ?_
          refine E_stR (y := y) (y' := false) (S' := setAt S0 4 (.arr 0 (flat avB (List.set q.2.2.2 (Int.toNat i) false)))) encB rfl rfl h0.c4 (by first | rfl | exact (Nat.add_zero _).symm | (simp only [Nat.zero_add]; exact (Nat.add_zero _).symm) | (simp only [Nat.zero_add, Nat.add_zero])) (getI_some hy).2.2 rfl rfl (Nat.le_of_ble_eq_true rfl) rfl rfl ?_
          refine E_nil ?_
          refine E_nx ?_
          obtain ⟨t1, t2⟩ := subL_some htd
          have tl : (I64 ((List.length q.2.2.1 : Int) - 1)).toNat = td.length := by rw [t2]; simp; omega
          have tp : ∃ r, q.2.2.1 = td ++ r := ⟨q.2.2.1.drop (I64 ((List.length q.2.2.1 : Int) - 1)).toNat, by rw [t2]; simp⟩
          have hA := (h0.setWaits (waits' := List.set q.2.2.2 (Int.toNat i) false)).popTodo tp
          refine E_as ?_
          refine E_sq ?_
          refine E_reg ?_
          refine E_mv (v' := (.cptr (Graph.av g).cells 0)) rfl ?_
          refine E_op0 (v' := (.cptr (Graph.av g).cells 0)) rfl rfl ?_
          refine E_op0 (v' := (.cptr (Graph.av g).cells 6)) rfl rfl ?_
          refine E_op0 (v' := (.sl false 12 (List.map Node.av g.Nodes))) rfl rfl ?_
          refine E_mv (v' := (.int .i64 i)) rfl ?_
          obtain ⟨nd, hnd, h⟩ := bd_some h
          refine E_iadF rfl rfl hnd ?_
          refine E_op0 (v' := (Node.av nd)) rfl rfl ?_
          obtain ⟨nx, hnx, h⟩ := bd_some h
          refine E_callW (ir_Next_ev hnx) rfl ⟨(.refl _), trivial⟩ (blwL_of ⟨(Node.enc.blw _ 0), trivial⟩) ((encI .i64).blws 0) ?_
          refine E_len rfl ?_
          refine E_mv (v' := (.int .i64 0)) rfl ?_
          refine E_nil ?_
          refine E_nx ?_
          refine E_sq ?_
          refine E_rngO (fun outs => [(0, gR g), (4, (.ref 0 0 0 g.Nodes.length none)), (5, (.ref 1 0 0 g.Nodes.length none)), (6, (.ref 2 0 0 g.Nodes.length none)), (7, (.ref 3 0 0 (List.length td) none)), (12, (.ref 4 0 0 (List.length (List.set q.2.2.2 (Int.toNat i) false)) none)), (14, (.int .i64 i)), (138, (.sl false 1 (List.map (avI .i64) nx)))]) (fun outs => HS g.Nodes.length q.1 outs s.2.2.1 td (List.set q.2.2.2 (Int.toNat i) false)) h (by decide) (by decide) (fun _ => ⟨rfl, rfl, rfl, rfl⟩)
            (hA.wkI ⟨(rn_b rfl), (rn_b rfl), gb, hA.r4 (Nat.le_refl _) rfl rfl rfl, hA.r5 (Nat.le_refl _) rfl rfl rfl, hA.r6 (Nat.le_refl _) rfl rfl rfl, hA.r7 (Nat.le_refl _) rfl rfl tl rfl, hA.r12 (Nat.le_refl _) rfl rfl (by rw [List.length_set]) rfl, (rn_b rfl), (rn_b ((encI .i64).blws 0)), trivial⟩) (fun i2 to outs c hx hlt h => ?_) (fun outs fr' S' h hw => ?_)
          · unfold sv_or at h
            obtain ⟨hol, h⟩ := gd_some h
            obtain ⟨a, ha, h⟩ := bd_some h
            obtain ⟨b, hb, h⟩ := bd_some h
            obtain ⟨o, ho, h⟩ := bd_some h
            obtain ⟨a0, a1, a2, a3⟩ := getI_lt' ha
            obtain ⟨b0, b1, b2, b3⟩ := getI_lt' hb
            have hB : HasSt (HS g.Nodes.length q.1 outs s.2.2.1 td (List.set q.2.2.2 (Int.toNat i) false)) id g.Nodes.length q.1 outs s.2.2.1 0 td (List.set q.2.2.2 (Int.toNat i) false) := hs_st (by omega) (by omega)
            generalize hSB : HS g.Nodes.length q.1 outs s.2.2.1 td (List.set q.2.2.2 (Int.toNat i) false) = SB at hB
            refine E_sq ?_
            refine E_reg ?_
            refine E_iadF rfl rfl (getI_of hx) ?_
            refine E_op0 (v' := (.int .i64 to)) rfl rfl ?_
            refine E_mv (v' := (.int .i64 to)) rfl ?_
            refine E_nil ?_
            refine E_nx ?_
            refine E_reg ?_
            refine E_mv (v' := (.ref 1 0 0 g.Nodes.length none)) rfl ?_
            refine E_mv (v' := (.int .i64 i)) rfl ?_
            refine E_iadR rfl rfl ⟨by omega, by omega⟩ ?_
            obtain ⟨cs1, u1, u2⟩ := hB.outAt (j := i.toNat) a1
            refine E_ldV rfl u1 (by simpa [szOf] using u2) ?_
            refine E_mv (v' := (.ref 0 0 0 g.Nodes.length none)) rfl ?_
            refine E_mv (v' := (.int .i64 to)) rfl ?_
            refine E_iadR rfl rfl ⟨by omega, by omega⟩ ?_
            obtain ⟨cs0, w1, w2⟩ := hB.inAt (j := to.toNat) b1
            refine E_ldV rfl w1 (by simpa [szOf] using w2) ?_
            obtain ⟨va, sa⟩ := hB.c6 _ _ a3
            obtain ⟨vb, sb⟩ := hB.c5 _ _ b3
            refine E_callE (evOr ho sa sb (by simp [id]; omega)) rfl ?_
            refine E_nil ?_
            have hC := hB.setOut (j := i.toNat) (v := va) (v' := va + 1) (t := o.2) a3
            cases h
            exact L_nn rfl (hC.wkI ⟨(rn_b rfl), (rn_b rfl), gb, hC.r4 (Nat.le_refl _) rfl rfl rfl, hC.r5 (Nat.le_refl _) rfl rfl rfl, hC.r6 (Nat.le_refl _) rfl rfl rfl, hC.r7 (Nat.le_refl _) rfl rfl rfl rfl, hC.r12 (Nat.le_refl _) rfl rfl rfl rfl, (rn_b rfl), (rn_b ((encI .i64).blws 0)), trivial⟩)
          · refine X_nx hw ?_
            obtain ⟨hoN, h⟩ := gd_some h
            obtain ⟨oi, hoi, h⟩ := bd_some h
            obtain ⟨c0, hc0, h⟩ := bd_some h
            obtain ⟨nd2, hnd2, h⟩ := bd_some h
            obtain ⟨wr, hwr, h⟩ := bd_some h
            obtain ⟨a0, a1, a2, a3⟩ := getI_lt' hoi
            have hloN : outs.length ≤ g.Nodes.length := by omega
            have hB : HasSt (HS g.Nodes.length q.1 outs s.2.2.1 td (List.set q.2.2.2 (Int.toNat i) false)) id g.Nodes.length q.1 outs s.2.2.1 0 td (List.set q.2.2.2 (Int.toNat i) false) := hs_st (by omega) hloN
            have hlB : (HS g.Nodes.length q.1 outs s.2.2.1 td (List.set q.2.2.2 (Int.toNat i) false)).length = 5 + 5 * g.Nodes.length := ofF_len
            generalize hSB : HS g.Nodes.length q.1 outs s.2.2.1 td (List.set q.2.2.2 (Int.toNat i) false) = SB at hB hlB
            refine E_sq ?_
            refine E_reg ?_
            refine E_mv (v' := (.ref 1 0 0 g.Nodes.length none)) rfl ?_
            refine E_mv (v' := (.int .i64 i)) rfl ?_
            refine E_iadR rfl rfl ⟨by omega, by omega⟩ ?_
            obtain ⟨cs1, u1, u2⟩ := hB.outAt (j := i.toNat) a1
            refine E_ldV rfl u1 (by simpa [szOf] using u2) ?_
            obtain ⟨va, sa⟩ := hB.c6 _ _ a3
            have eC := evCopy hc0 sa (by simp only [id]; omega)
            rw [hlB] at eC
            refine E_callE eC rfl ?_
            refine E_mv (v' := (.ptr (5 + 5 * g.Nodes.length) 0 0)) rfl ?_
            refine E_nil ?_
            refine E_nx ?_
            have sC : isS (putS SB (5 + 5 * g.Nodes.length) (5 + 5 * g.Nodes.length + 1) 1 c0) (5 + 5 * g.Nodes.length) (5 + 5 * g.Nodes.length + 1) 1 c0 := isS_put (by omega)
            have hC : HasSt (putS SB (5 + 5 * g.Nodes.length) (5 + 5 * g.Nodes.length + 1) 1 c0) id g.Nodes.length q.1 outs s.2.2.1 0 td (List.set q.2.2.2 (Int.toNat i) false) := hB.ext (fun k hk => hp_putS (by omega) (by omega))
            generalize hSC : putS SB (5 + 5 * g.Nodes.length) (5 + 5 * g.Nodes.length + 1) 1 c0 = SC at sC hC
            refine E_as ?_
            refine E_sq ?_
            refine E_reg ?_
            refine E_mv (v' := (.cptr (Graph.av g).cells 0)) rfl ?_
            refine E_op0 (v' := (.cptr (Graph.av g).cells 0)) rfl rfl ?_
            refine E_op0 (v' := (.cptr (Graph.av g).cells 6)) rfl rfl ?_
            refine E_op0 (v' := (.sl false 12 (List.map Node.av g.Nodes))) rfl rfl ?_
            refine E_mv (v' := (.int .i64 i)) rfl ?_
            refine E_iadF rfl rfl hnd2 ?_
            refine E_op0 (v' := (Node.av nd2)) rfl rfl ?_
            refine E_callW (ir_Writes_ev hwr) rfl ⟨(.refl _), trivial⟩ (blwL_of ⟨(Node.enc.blw _ 0), trivial⟩) ((encI .i64).blws 0) ?_
            refine E_len rfl ?_
            refine E_mv (v' := (.int .i64 0)) rfl ?_
            refine E_nil ?_
            refine E_nx ?_
            refine E_sq ?_
            refine E_rngO (fun _ => [(0, gR g), (4, (.ref 0 0 0 g.Nodes.length none)), (5, (.ref 1 0 0 g.Nodes.length none)), (6, (.ref 2 0 0 g.Nodes.length none)), (7, (.ref 3 0 0 (List.length td) none)), (12, (.ref 4 0 0 (List.length (List.set q.2.2.2 (Int.toNat i) false)) none)), (14, (.int .i64 i)), (17, (.ptr (5 + 5 * g.Nodes.length) 0 0)), (166, (.sl false 1 (List.map (avI .i64) wr)))]) (fun c => HT g.Nodes.length q.1 outs s.2.2.1 td (List.set q.2.2.2 (Int.toNat i) false) c) h (by decide) (by decide) (fun _ => ⟨rfl, rfl, rfl, rfl⟩)
              (hC.wkT sC ⟨(rn_b rfl), (rn_b rfl), gb, hC.r4 (Nat.le_add_right _ _) rfl (tmpF_lt (by omega)) rfl, hC.r5 (Nat.le_add_right _ _) rfl (tmpF_lt (by omega)) rfl, hC.r6 (Nat.le_add_right _ _) rfl (tmpF_lt (by omega)) rfl, hC.r7 (Nat.le_add_right _ _) rfl (tmpF_lt (by omega)) rfl rfl, hC.r12 (Nat.le_add_right _ _) rfl (tmpF_lt (by omega)) rfl rfl, (rn_b rfl), HasSt.r17 sC, (rn_b ((encI .i64).blws 0)), trivial⟩) (fun i2 p c1 c hx hlt h => ?_) (fun c1 fr' S' h hw => ?_)
            · unfold sv_del at h
              obtain ⟨d, hd, h⟩ := bd_some h
              have hD : HasSt (HT g.Nodes.length q.1 outs s.2.2.1 td (List.set q.2.2.2 (Int.toNat i) false) c1) id g.Nodes.length q.1 outs s.2.2.1 0 td (List.set q.2.2.2 (Int.toNat i) false) := ht_st (by omega) hloN
              have sD : isS (HT g.Nodes.length q.1 outs s.2.2.1 td (List.set q.2.2.2 (Int.toNat i) false) c1) (5 + 5 * g.Nodes.length) (5 + 5 * g.Nodes.length + 1) 0 c1 := ht_s
              generalize hSD : HT g.Nodes.length q.1 outs s.2.2.1 td (List.set q.2.2.2 (Int.toNat i) false) c1 = SD at hD sD
              refine E_sq ?_
              refine E_reg ?_
              refine E_iadF rfl rfl (getI_of hx) ?_
              refine E_op0 (v' := (.int .i64 p)) rfl rfl ?_
              refine E_mv (v' := (.int .i64 p)) rfl ?_
              refine E_nil ?_
              refine E_nx ?_
              refine E_reg ?_
              refine E_mv (v' := (.ptr (5 + 5 * g.Nodes.length) 0 0)) rfl ?_
              refine E_mv (v' := (.int .i64 p)) rfl ?_
              obtain ⟨_, eD⟩ := evDel hd sD (by omega)
              refine E_callE eD rfl ?_
              refine E_nil ?_
              have sE : isS (putS SD (5 + 5 * g.Nodes.length) (5 + 5 * g.Nodes.length + 1) (0 + 1) d) (5 + 5 * g.Nodes.length) (5 + 5 * g.Nodes.length + 1) 1 d := isS_put (by omega)
              have hE : HasSt (putS SD (5 + 5 * g.Nodes.length) (5 + 5 * g.Nodes.length + 1) (0 + 1) d) id g.Nodes.length q.1 outs s.2.2.1 0 td (List.set q.2.2.2 (Int.toNat i) false) := hD.ext (fun k hk => hp_putS (by omega) (by omega))
              cases h
              exact L_nn rfl (hE.wkT sE ⟨(rn_b rfl), (rn_b rfl), gb, hE.r4 (Nat.le_add_right _ _) rfl (tmpF_lt (by omega)) rfl, hE.r5 (Nat.le_add_right _ _) rfl (tmpF_lt (by omega)) rfl, hE.r6 (Nat.le_add_right _ _) rfl (tmpF_lt (by omega)) rfl, hE.r7 (Nat.le_add_right _ _) rfl (tmpF_lt (by omega)) rfl rfl, hE.r12 (Nat.le_add_right _ _) rfl (tmpF_lt (by omega)) rfl rfl, (rn_b rfl), HasSt.r17 sE, (rn_b ((encI .i64).blws 0)), trivial⟩)
            · refine X_nx hw ?_
              obtain ⟨nd3, hnd3, h⟩ := bd_some h
              obtain ⟨rd, hrd, h⟩ := bd_some h
              have hC : HasSt (HT g.Nodes.length q.1 outs s.2.2.1 td (List.set q.2.2.2 (Int.toNat i) false) c1) id g.Nodes.length q.1 outs s.2.2.1 0 td (List.set q.2.2.2 (Int.toNat i) false) := ht_st (by omega) hloN
              have sC : isS (HT g.Nodes.length q.1 outs s.2.2.1 td (List.set q.2.2.2 (Int.toNat i) false) c1) (5 + 5 * g.Nodes.length) (5 + 5 * g.Nodes.length + 1) 0 c1 := ht_s
              generalize hSD : HT g.Nodes.length q.1 outs s.2.2.1 td (List.set q.2.2.2 (Int.toNat i) false) c1 = SD at hC sC
              refine E_as ?_
              refine E_sq ?_
              refine E_reg ?_
              refine E_mv (v' := (.cptr (Graph.av g).cells 0)) rfl ?_
              refine E_op0 (v' := (.cptr (Graph.av g).cells 0)) rfl rfl ?_
              refine E_op0 (v' := (.cptr (Graph.av g).cells 6)) rfl rfl ?_
              refine E_op0 (v' := (.sl false 12 (List.map Node.av g.Nodes))) rfl rfl ?_
              refine E_mv (v' := (.int .i64 i)) rfl ?_
              refine E_iadF rfl rfl hnd3 ?_
              refine E_op0 (v' := (Node.av nd3)) rfl rfl ?_
              refine E_callW (ir_Reads_ev hrd) rfl ⟨(.refl _), trivial⟩ (blwL_of ⟨(Node.enc.blw _ 0), trivial⟩) ((encI .i64).blws 0) ?_
              refine E_len rfl ?_
              refine E_mv (v' := (.int .i64 0)) rfl ?_
              refine E_nil ?_
              refine E_nx ?_
              refine E_sq ?_
              refine E_rngO (fun _ => [(0, gR g), (4, (.ref 0 0 0 g.Nodes.length none)), (5, (.ref 1 0 0 g.Nodes.length none)), (6, (.ref 2 0 0 g.Nodes.length none)), (7, (.ref 3 0 0 (List.length td) none)), (12, (.ref 4 0 0 (List.length (List.set q.2.2.2 (Int.toNat i) false)) none)), (14, (.int .i64 i)), (17, (.ptr (5 + 5 * g.Nodes.length) 0 0)), (183, (.sl false 1 (List.map (avI .i64) rd)))]) (fun c => HT g.Nodes.length q.1 outs s.2.2.1 td (List.set q.2.2.2 (Int.toNat i) false) c) h (by decide) (by decide) (fun _ => ⟨rfl, rfl, rfl, rfl⟩)
                (hC.wkT sC ⟨(rn_b rfl), (rn_b rfl), gb, hC.r4 (Nat.le_add_right _ _) rfl (tmpF_lt (by omega)) rfl, hC.r5 (Nat.le_add_right _ _) rfl (tmpF_lt (by omega)) rfl, hC.r6 (Nat.le_add_right _ _) rfl (tmpF_lt (by omega)) rfl, hC.r7 (Nat.le_add_right _ _) rfl (tmpF_lt (by omega)) rfl rfl, hC.r12 (Nat.le_add_right _ _) rfl (tmpF_lt (by omega)) rfl rfl, (rn_b rfl), HasSt.r17 sC, (rn_b ((encI .i64).blws 0)), trivial⟩) (fun i2 p c1 c hx hlt h => ?_) (fun c1 fr' S' h hw => ?_)
              · unfold sv_add at h
                obtain ⟨d, hd, h⟩ := bd_some h
                have hD : HasSt (HT g.Nodes.length q.1 outs s.2.2.1 td (List.set q.2.2.2 (Int.toNat i) false) c1) id g.Nodes.length q.1 outs s.2.2.1 0 td (List.set q.2.2.2 (Int.toNat i) false) := ht_st (by omega) hloN
                have sD : isS (HT g.Nodes.length q.1 outs s.2.2.1 td (List.set q.2.2.2 (Int.toNat i) false) c1) (5 + 5 * g.Nodes.length) (5 + 5 * g.Nodes.length + 1) 0 c1 := ht_s
                generalize hSE : HT g.Nodes.length q.1 outs s.2.2.1 td (List.set q.2.2.2 (Int.toNat i) false) c1 = SE at hD sD
                refine E_sq ?_
                refine E_reg ?_
                refine E_iadF rfl rfl (getI_of hx) ?_
                refine E_op0 (v' := (.int .i64 p)) rfl rfl ?_
                refine E_mv (v' := (.int .i64 p)) rfl ?_
                refine E_nil ?_
                refine E_nx ?_
                refine E_reg ?_
                refine E_mv (v' := (.ptr (5 + 5 * g.Nodes.length) 0 0)) rfl ?_
                refine E_mv (v' := (.int .i64 p)) rfl ?_
                obtain ⟨_, eD⟩ := evAdd hd sD (by omega)
                refine E_callE eD rfl ?_
                refine E_nil ?_
                have sE : isS (putS SE (5 + 5 * g.Nodes.length) (5 + 5 * g.Nodes.length + 1) (0 + 1) d) (5 + 5 * g.Nodes.length) (5 + 5 * g.Nodes.length + 1) 1 d := isS_put (by omega)
                have hE : HasSt (putS SE (5 + 5 * g.Nodes.length) (5 + 5 * g.Nodes.length + 1) (0 + 1) d) id g.Nodes.length q.1 outs s.2.2.1 0 td (List.set q.2.2.2 (Int.toNat i) false) := hD.ext (fun k hk => hp_putS (by omega) (by omega))
                cases h
                exact L_nn rfl (hE.wkT sE ⟨(rn_b rfl), (rn_b rfl), gb, hE.r4 (Nat.le_add_right _ _) rfl (tmpF_lt (by omega)) rfl, hE.r5 (Nat.le_add_right _ _) rfl (tmpF_lt (by omega)) rfl, hE.r6 (Nat.le_add_right _ _) rfl (tmpF_lt (by omega)) rfl, hE.r7 (Nat.le_add_right _ _) rfl (tmpF_lt (by omega)) rfl rfl, hE.r12 (Nat.le_add_right _ _) rfl (tmpF_lt (by omega)) rfl rfl, (rn_b rfl), HasSt.r17 sE, (rn_b ((encI .i64).blws 0)), trivial⟩)
              · refine X_nx hw ?_
                obtain ⟨ii, hii, h⟩ := bd_some h
                obtain ⟨o, ho, h⟩ := bd_some h
                obtain ⟨d0, d1, d2, d3⟩ := getI_lt' hii
                have hC : HasSt (HT g.Nodes.length q.1 outs s.2.2.1 td (List.set q.2.2.2 (Int.toNat i) false) c1) id g.Nodes.length q.1 outs s.2.2.1 0 td (List.set q.2.2.2 (Int.toNat i) false) := ht_st (by omega) hloN
                have sC : isS (HT g.Nodes.length q.1 outs s.2.2.1 td (List.set q.2.2.2 (Int.toNat i) false) c1) (5 + 5 * g.Nodes.length) (5 + 5 * g.Nodes.length + 1) 0 c1 := ht_s
                generalize hSD : HT g.Nodes.length q.1 outs s.2.2.1 td (List.set q.2.2.2 (Int.toNat i) false) c1 = SD at hC sC
                refine E_as ?_
                refine E_sq ?_
                refine E_reg ?_
                refine E_mv (v' := (.ref 0 0 0 g.Nodes.length none)) rfl ?_
                refine E_mv (v' := (.int .i64 i)) rfl ?_
                refine E_iadR rfl rfl ⟨by omega, by omega⟩ ?_
                obtain ⟨cs0, w1, w2⟩ := hC.inAt (j := i.toNat) d1
                refine E_ldV rfl w1 (by simpa [szOf] using w2) ?_
                refine E_mv (v' := (.ptr (5 + 5 * g.Nodes.length) 0 0)) rfl ?_
                obtain ⟨vi, si⟩ := hC.c5 _ _ d3
                refine E_callE (evOr ho si sC (by simp [id]; omega)) rfl ?_
                have hE := hC.setIn (j := i.toNat) (v := vi) (v' := vi + 1) (t := o.2) d3
                simp only [id] at hE ⊢
                generalize hSE : putS SD (5 + 5 * i.toNat) (6 + 5 * i.toNat) (vi + 1) o.2 = SE at hE ⊢
                refine E_op0 (v' := (.bool (!o.1))) rfl rfl ?_
                refine E_nil ?_
                refine E_nx ?_
                refine E_sq ?_
                refine E_cs (t := (!o.1)) rfl (fun hb => ?_) (fun hb => ?_)
                · rw [ite_t hb] at h
                  refine E_exit ?_
                  refine E_the ?_
                  refine E_ble ?_
                  cases h
                  exact L_nn rfl (hE.wkI ⟨gb, hE.r4 (Nat.le_refl _) rfl rfl rfl, hE.r5 (Nat.le_refl _) rfl rfl rfl, hE.r6 (Nat.le_refl _) rfl rfl rfl, hE.r7 (Nat.le_refl _) rfl rfl rfl rfl, hE.r12 (Nat.le_refl _) rfl rfl rfl rfl, trivial⟩)
                · rw [ite_f hb] at h
                  refine E_skip ?_
                  refine E_nx ?_
                  obtain ⟨bs, hbs, h⟩ := bd_some h
                  obtain ⟨e0, e1, e2, e4⟩ := getI_lt' hbs
                  obtain ⟨cs2, v2, g1, g2, g3, g4⟩ := hE.befAt (j := i.toNat) (by omega)
                  have ey : s.2.2.1.getD i.toNat [] = bs := by simp [List.getD_eq_getElem?_getD, e4]
                  rw [ey] at g3 g4
                  refine E_sq ?_
                  refine E_reg ?_
                  refine E_mv (v' := (.ref 2 0 0 g.Nodes.length none)) rfl ?_
                  refine E_mv (v' := (.int .i64 i)) rfl ?_
                  refine E_iadR rfl rfl ⟨by omega, by omega⟩ ?_
                  refine E_ldV rfl g1 (by simpa [szOf] using g3) ?_
                  refine E_lenR rfl ?_
                  refine E_mv (v' := (.int .i64 0)) rfl ?_
                  refine E_nil ?_
                  refine E_nx ?_
                  have r9 : obF g.Nodes.length (q.1.set i.toNat o.2) outs s.2.2.1 td (List.set q.2.2.2 (Int.toNat i) false) (9 + 5 * i.toNat) = .arr 0 (flat (avI .i64) bs) := by rw [obF_9, ey]
                  refine E_rngO (xs := bs) (fun p : List Int × List Bool => [(0, gR g), (4, (.ref 0 0 0 g.Nodes.length none)), (5, (.ref 1 0 0 g.Nodes.length none)), (6, (.ref 2 0 0 g.Nodes.length none)), (7, (.ref 3 0 0 (List.length p.1) none)), (12, (.ref 4 0 0 (List.length p.2) none)), (203, (.ref (9 + 5 * i.toNat) 0 0 (List.length bs) none))]) (fun p => HS g.Nodes.length (q.1.set i.toNat o.2) outs s.2.2.1 p.1 p.2) h (by decide) (by decide) (fun _ => ⟨rfl, rfl, rfl, rfl⟩)
                    (hE.wkI ⟨(rn_b rfl), (rn_b rfl), gb, hE.r4 (Nat.le_refl _) rfl rfl rfl, hE.r5 (Nat.le_refl _) rfl rfl rfl, hE.r6 (Nat.le_refl _) rfl rfl rfl, hE.r7 (Nat.le_refl _) rfl rfl rfl rfl, hE.r12 (Nat.le_refl _) rfl rfl rfl rfl, wr_ref (by omega) rfl g4 r9 (by rw [(encI .i64).length]; exact Nat.le_refl _), trivial⟩) (fun i2 b p c hx hlt h => ?_) (fun p fr' S' h hw => ?_)
                  · unfold sv_put at h
                    obtain ⟨y2, hy2, h⟩ := bd_some h
                    have hB : HasSt (HS g.Nodes.length (q.1.set i.toNat o.2) outs s.2.2.1 p.1 p.2) id g.Nodes.length (q.1.set i.toNat o.2) outs s.2.2.1 0 p.1 p.2 := hs_st (by rw [List.length_set]; omega) hloN
                    have e3 : hp (HS g.Nodes.length (q.1.set i.toNat o.2) outs s.2.2.1 p.1 p.2) 3 = .arr 0 (flat (avI .i64) p.1) := hp_ofF (by omega)
                    have e9 : hp (HS g.Nodes.length (q.1.set i.toNat o.2) outs s.2.2.1 p.1 p.2) (9 + 5 * i.toNat) = .arr 0 (flat (avI .i64) bs) := by rw [hp_ofF (by omega), obF_9, ey]
                    have f9 : ∀ l w, obF g.Nodes.length (q.1.set i.toNat o.2) outs s.2.2.1 l w (9 + 5 * i.toNat) = .arr 0 (flat (avI .i64) bs) := fun l w => by rw [obF_9, ey]
                    generalize hSB : HS g.Nodes.length (q.1.set i.toNat o.2) outs s.2.2.1 p.1 p.2 = SB at hB e3 e9
                    refine E_sq ?_
                    refine E_reg ?_
                    refine E_iadR rfl rfl ⟨by omega, by omega⟩ ?_
                    refine E_ldR (encI .i64) (y := b) (n := i2) (fo := 0) rfl e9 (by simp) hx rfl (.refl _) ?_
                    refine E_mv (v' := (.int .i64 b)) rfl ?_
                    refine E_nil ?_
                    refine E_nx ?_
                    refine E_sq ?_
                    refine E_reg ?_
                    refine E_mv (v' := (.ref 4 0 0 (List.length p.2) none)) rfl ?_
                    refine E_mv (v' := (.int .i64 b)) rfl ?_
                    refine E_iadR rfl rfl ⟨(getI_some hy2).1, (getI_some hy2).2.1⟩ ?_
                    refine E_ldR encB rfl hB.c4 (by first | rfl | exact (Nat.add_zero _).symm | (simp only [Nat.zero_add]; exact (Nat.add_zero _).symm) | (simp only [Nat.zero_add, Nat.add_zero])) (getI_some hy2).2.2 rfl (.refl _) ?_
                    refine E_op0 (v' := (.bool (!y2))) rfl rfl ?_
                    refine E_nil ?_
                    refine E_nx ?_
                    refine E_cs (t := (!y2)) rfl (fun hb2 => ?_) (fun hb2 => ?_)
                    · rw [ite_t hb2] at h
                      refine E_reg ?_
                      refine E_mv (v' := (.ref 4 0 0 (List.length p.2) none)) rfl ?_
                      refine E_mv (v' := (.int .i64 b)) rfl ?_
                      refine E_mv (v' := (.ref 3 0 0 (List.length p.1) none)) rfl ?_
                      refine E_mv (v' := (.int .i64 b)) rfl ?_
                      refine E_opw (v' := (.sl true 1 (List.map (avI .i64) [b]))) rfl (.refl _) rfl ?_
                      obtain ⟨l, hl, h⟩ := bd_some h
                      refine E_apL (S' := setAt SB 3 (.arr 1 (flat (avI .i64) l))) (encI .i64) rfl (src_sl [b]) e3 hl rfl ?_
                      refine E_mv (v' := (.ref 3 1 0 (List.length l) none)) rfl ?_
                      obtain ⟨y3, hy3, h⟩ := bd_some h
                      have hC1 := hB.setTodo (v := 1) (todo' := l)
                      refine E_iadR rfl rfl ⟨(getI_some hy3).1, (getI_some hy3).2.1⟩ ?_
                      refine E_stR (y := y3) (y' := true) (S' := setAt (setAt SB 3 (.arr 1 (flat (avI .i64) l))) 4 (.arr 0 (flat avB (List.set p.2 (Int.toNat b) true)))) encB rfl rfl hC1.c4 (by first | rfl | exact (Nat.add_zero _).symm | (simp only [Nat.zero_add]; exact (Nat.add_zero _).symm) | (simp only [Nat.zero_add, Nat.add_zero])) (getI_some hy3).2.2 rfl rfl (Nat.le_of_ble_eq_true rfl) rfl rfl ?_
                      refine E_nil ?_
                      have hC := hC1.setWaits (waits' := List.set p.2 (Int.toNat b) true)
                      have e9' : hp (setAt (setAt SB 3 (.arr 1 (flat (avI .i64) l))) 4 (.arr 0 (flat avB (List.set p.2 (Int.toNat b) true)))) (9 + 5 * i.toNat) = .arr 0 (flat (avI .i64) bs) := by rw [hp_setAt, upd_no (by omega), hp_setAt, upd_no (by omega)]; exact e9
                      cases h
                      exact L_nn rfl (hC.wkI ⟨(rn_b rfl), (rn_b rfl), gb, hC.r4 (Nat.le_refl _) rfl rfl rfl, hC.r5 (Nat.le_refl _) rfl rfl rfl, hC.r6 (Nat.le_refl _) rfl rfl rfl, hC.r7 (Nat.le_refl _) rfl rfl rfl rfl, hC.r12 (Nat.le_refl _) rfl rfl (by rw [List.length_set]) rfl, wr_ref (by omega) rfl e9' (f9 _ _) (by rw [(encI .i64).length]; exact Nat.le_refl _), trivial⟩)
                    · rw [ite_f hb2] at h
                      refine E_skip ?_
                      cases h
                      exact L_nn rfl (hB.wkI ⟨(rn_b rfl), (rn_b rfl), gb, hB.r4 (Nat.le_refl _) rfl rfl rfl, hB.r5 (Nat.le_refl _) rfl rfl rfl, hB.r6 (Nat.le_refl _) rfl rfl rfl, hB.r7 (Nat.le_refl _) rfl rfl rfl rfl, hB.r12 (Nat.le_refl _) rfl rfl rfl rfl, wr_ref (by omega) rfl e9 (f9 _ _) (by rw [(encI .i64).length]; exact Nat.le_refl _), trivial⟩)
                  · refine E_bln ?_
                    have hQ : HasSt (HS g.Nodes.length (q.1.set i.toNat o.2) outs s.2.2.1 p.1 p.2) id g.Nodes.length (q.1.set i.toNat o.2) outs s.2.2.1 0 p.1 p.2 := hs_st (by rw [List.length_set]; omega) hloN
                    cases h
                    exact X_nn rfl hw (hQ.wkI ⟨gb, hQ.r4 (Nat.le_refl _) rfl rfl rfl, hQ.r5 (Nat.le_refl _) rfl rfl rfl, hQ.r6 (Nat.le_refl _) rfl rfl rfl, hQ.r7 (Nat.le_refl _) rfl rfl rfl rfl, hQ.r12 (Nat.le_refl _) rfl rfl rfl rfl, trivial⟩)
        · rw [ite_f hb] at h
          refine E_exit ?_
          refine E_the ?_
          cases h
          have hQ := h0
          exact L_bk rfl rfl rfl (hQ.wkI ⟨gb, hQ.r4 (Nat.le_refl _) rfl rfl rfl, hQ.r5 (Nat.le_refl _) rfl rfl rfl, hQ.r6 (Nat.le_refl _) rfl rfl rfl, hQ.r7 (Nat.le_refl _) rfl rfl rfl rfl, hQ.r12 (Nat.le_refl _) rfl rfl rfl rfl, trivial⟩)
      · refine X_nx hw ?_
        obtain ⟨⟨li, lo⟩, h⟩ := gd_some h
        have hQ : HasSt (HS g.Nodes.length q.1 q.2.1 s.2.2.1 q.2.2.1 q.2.2.2) id g.Nodes.length q.1 q.2.1 s.2.2.1 0 q.2.2.1 q.2.2.2 := hs_st (by omega) (by omega)
        refine E_sq ?_
        refine E_reg ?_
        refine E_mv (v' := (.ref 0 0 0 g.Nodes.length none)) rfl ?_
        refine E_mv (v' := (.ref 1 0 0 g.Nodes.length none)) rfl ?_
        refine E_mv (v' := (.ref 0 0 0 g.Nodes.length none)) rfl ?_
        refine E_mv (v' := (.ref 1 0 0 g.Nodes.length none)) rfl ?_
        refine E_nil ?_
        refine E_nx ?_
        refine E_ret ?_
        cases h
        exact ⟨trivial, _, rfl, fz_res hQ li lo⟩
def live_solve_s (fuel : Nat) (g : Graph) : Option (List (Option Bits_Set) × List (Option Bits_Set)) := (live_solve0_s fuel g).map fun r => (r.1.map some, r.2.map some)
theorem live_solve_ev {fuel : Nat} {g : Graph} {r : List (Option Bits_Set) × List (Option Bits_Set)} (h : live_solve_s fuel g = some r) : PureEv Tryd.prog 29 [(.cptr (Graph.av g).cells 0)] (.tup [(.sl false 1 (List.map (avP Bits_Set.av) r.1)), (.sl false 1 (List.map (avP Bits_Set.av) r.2))]) := by
  unfold live_solve_s at h
  obtain ⟨r0, h0, rfl⟩ := Option.map_eq_some_iff.1 h
  exact live_solve0_ev h0
end
end Go.Proofs.YtgoejecjmodjiaaDoor

