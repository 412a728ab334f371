/- ref8's settle: the walk. -/
import Derived.Test.YtipeiholgieclaaDoorRfW4
set_option linter.unusedVariables false
set_option linter.unusedSimpArgs false
namespace Go.Proofs.YtipeiholgieclaaDoor
open Go Go.Ab
set_option maxRecDepth 20000
set_option maxHeartbeats 2000000
def c6s : FC := .reg [⟨(some 6), none, .op (.mv (.t 0))⟩,  ⟨(some 7), none, .op (.nchk (.t 6))⟩,  ⟨(some 8), none, .op (.fad 7 (.t 7))⟩,  ⟨(some 9), none, .op (.fad 0 (.t 8))⟩,  ⟨(some 10), none, .op (.load none (.t 9))⟩,  ⟨(some 11), none, .op (.bin .none .eql (.t 10) (.v (.int .i64 0)))⟩,  ⟨(some 12), none, .op (.mv (.t 11))⟩,  ⟨(some 13), some (12, true), .op (.mv (.t 0))⟩,  ⟨(some 14), some (12, true), .op (.nchk (.t 13))⟩,  ⟨(some 15), some (12, true), .op (.fad 3 (.t 14))⟩,  ⟨(some 16), some (12, true), .op (.load none (.t 15))⟩,  ⟨(some 17), some (12, true), .op (.mv (.t 0))⟩,  ⟨(some 18), some (12, true), .op (.nchk (.t 17))⟩,  ⟨(some 19), some (12, true), .op (.fad 3 (.t 18))⟩,  ⟨(some 20), some (12, true), .op (.load none (.t 19))⟩,  ⟨(some 21), some (12, true), .op (.len .sl (.t 20))⟩,  ⟨(some 22), some (12, true), .op (.bin .none .sub (.t 21) (.v (.int .i64 1)))⟩,  ⟨(some 23), some (12, true), .op (.iad none (some 9) (.t 16) (.t 22))⟩,  ⟨(some 24), some (12, true), .op (.fad 6 (.t 23))⟩,  ⟨(some 25), some (12, true), .op (.load none (.t 24))⟩,  ⟨(some 26), none, .op (.pick (.t 12) (.t 25) (.v (.bool false)))⟩] []
def c6t : FC := .cond (.t 26) FC.skip (FC.exit 0)
def c6u : FC := .seq c6s c6t
def c6v : FC := .reg [⟨(some 27), none, .op (.mv (.t 0))⟩,  ⟨(some 28), none, .call 46 [(.t 27), (.v (.int .i64 1))]⟩] []
def c6w : FC := .cond (.t 28) FC.ret FC.skip
def c6x : FC := .seq c6v c6w
def c6y : FC := .reg [⟨(some 29), none, .op (.mv (.t 0))⟩,  ⟨(some 30), none, .op (.nchk (.t 29))⟩,  ⟨(some 31), none, .op (.fad 3 (.t 30))⟩,  ⟨(some 32), none, .op (.load none (.t 31))⟩,  ⟨(some 33), none, .op (.mv (.t 0))⟩,  ⟨(some 34), none, .op (.nchk (.t 33))⟩,  ⟨(some 35), none, .op (.fad 3 (.t 34))⟩,  ⟨(some 36), none, .op (.load none (.t 35))⟩,  ⟨(some 37), none, .op (.len .sl (.t 36))⟩,  ⟨(some 38), none, .op (.bin .none .sub (.t 37) (.v (.int .i64 1)))⟩,  ⟨(some 39), none, .op (.iad none (some 9) (.t 32) (.t 38))⟩,  ⟨(some 40), none, .op (.load (some 9) (.t 39))⟩,  ⟨(some 2), none, .op (.new [(.int .i64 0), (.int .i64 0), (.int .i64 0), .nils, .nils, .nils, (.bool false), (.int .u64 0), .nils])⟩,  ⟨none, none, .op (.store 9 (.t 2) (.t 40))⟩] [(3, 12), (7, 12), (11, 12)]
def c6z : FC := .reg [⟨(some 41), none, .op (.mv (.t 0))⟩,  ⟨(some 42), none, .op (.mv (.t 0))⟩,  ⟨(some 43), none, .op (.nchk (.t 42))⟩,  ⟨(some 44), none, .op (.fad 3 (.t 43))⟩,  ⟨(some 45), none, .op (.load none (.t 44))⟩,  ⟨(some 46), none, .op (.mv (.t 0))⟩,  ⟨(some 47), none, .op (.nchk (.t 46))⟩,  ⟨(some 48), none, .op (.fad 3 (.t 47))⟩,  ⟨(some 49), none, .op (.load none (.t 48))⟩,  ⟨(some 50), none, .op (.len .sl (.t 49))⟩,  ⟨(some 51), none, .op (.bin .none .sub (.t 50) (.v (.int .i64 1)))⟩,  ⟨(some 52), none, .op (.slc (some 9) (.t 45) none (some (.t 51)) none)⟩,  ⟨(some 53), none, .op (.nchk (.t 41))⟩,  ⟨(some 54), none, .op (.fad 3 (.t 53))⟩,  ⟨none, none, .op (.store 1 (.t 54) (.t 52))⟩] []
def c6A : FC := .reg [⟨(some 55), none, .op (.mv (.t 0))⟩,  ⟨(some 56), none, .op (.nchk (.t 55))⟩,  ⟨(some 57), none, .op (.fad 3 (.t 56))⟩,  ⟨(some 58), none, .op (.load none (.t 57))⟩,  ⟨(some 59), none, .op (.len .sl (.t 58))⟩,  ⟨(some 60), none, .op (.bin .none .eql (.t 59) (.v (.int .i64 0)))⟩] []
def c1N : FC := .reg [⟨(some 61), none, .op (.mv (.t 0))⟩,  ⟨(some 62), none, .op (.build [(.int .i64 0), (.int .u64 0)] [(0, 1, (.v (.int .i64 1)))])⟩,  ⟨(some 63), none, .op (.nchk (.t 61))⟩,  ⟨(some 64), none, .op (.fad 7 (.t 63))⟩,  ⟨none, none, .op (.store 2 (.t 64) (.t 62))⟩] []
def c1O : FC := .seq c1N FC.ret
def c1P : FC := .cond (.t 60) c1O FC.skip
def c1Q : FC := .seq c6A c1P
def c1R : FC := .reg [⟨(some 65), none, .op (.mv (.t 0))⟩,  ⟨(some 66), none, .op (.nchk (.t 65))⟩,  ⟨(some 67), none, .op (.fad 3 (.t 66))⟩,  ⟨(some 68), none, .op (.load none (.t 67))⟩,  ⟨(some 69), none, .op (.mv (.t 0))⟩,  ⟨(some 70), none, .op (.nchk (.t 69))⟩,  ⟨(some 71), none, .op (.fad 3 (.t 70))⟩,  ⟨(some 72), none, .op (.load none (.t 71))⟩,  ⟨(some 73), none, .op (.len .sl (.t 72))⟩,  ⟨(some 74), none, .op (.bin .none .sub (.t 73) (.v (.int .i64 1)))⟩,  ⟨(some 75), none, .op (.iad none (some 9) (.t 68) (.t 74))⟩,  ⟨(some 3), none, .op (.mv (.t 75))⟩] []
def c1S : FC := .reg [⟨(some 76), none, .op (.fad 2 (.t 2))⟩,  ⟨(some 77), none, .op (.load none (.t 76))⟩] []
def c1T : FC := .reg [⟨(some 79), none, .op (.bin .none .eql (.t 77) (.v (.int .i64 0)))⟩,  ⟨(some 78), none, .op (.mv (.t 79))⟩] []
def c1U : FC := .reg [⟨(some 80), none, .op (.mv (.t 0))⟩,  ⟨(some 81), none, .op (.fad 7 (.t 2))⟩,  ⟨(some 82), none, .op (.load none (.t 81))⟩,  ⟨(some 83), none, .call 47 [(.t 80), (.t 82)]⟩] []
def c1V : FC := .reg [⟨(some 85), none, .op (.bin .none .eql (.t 77) (.v (.int .i64 2)))⟩,  ⟨(some 84), none, .op (.mv (.t 85))⟩] []
def c1W : FC := .reg [⟨(some 86), none, .op (.mv (.t 0))⟩,  ⟨(some 87), none, .op (.nchk (.t 86))⟩,  ⟨(some 88), none, .op (.fad 4 (.t 87))⟩,  ⟨(some 89), none, .op (.load none (.t 88))⟩,  ⟨(some 90), none, .op (.len .sl (.t 89))⟩,  ⟨(some 91), none, .op (.bin .none .sub (.t 90) (.v (.int .i64 1)))⟩,  ⟨(some 4), none, .op (.mv (.t 91))⟩] []
def c1X : FC := .reg [⟨(some 92), none, .op (.mv (.t 0))⟩,  ⟨(some 93), none, .op (.nchk (.t 92))⟩,  ⟨(some 94), none, .op (.fad 4 (.t 93))⟩,  ⟨(some 95), none, .op (.load none (.t 94))⟩,  ⟨(some 96), none, .op (.mv (.t 4))⟩,  ⟨(some 97), none, .op (.iad none (some 2) (.t 95) (.t 96))⟩,  ⟨(some 98), none, .op (.fad 1 (.t 97))⟩,  ⟨(some 99), none, .op (.load none (.t 98))⟩,  ⟨(some 100), none, .op (.un .not (.t 99))⟩] []
def c1Y : FC := .reg [⟨(some 101), none, .op (.mv (.t 0))⟩,  ⟨(some 102), none, .call 45 [(.t 101)]⟩] []
def c1Z : FC := .seq c1Y FC.ret
def c2a : FC := .cond (.t 100) c1Z FC.skip
def c2b : FC := .seq c1X c2a
def c2c : FC := .reg [⟨(some 103), none, .op (.mv (.t 0))⟩,  ⟨(some 104), none, .op (.mv (.t 0))⟩,  ⟨(some 105), none, .op (.nchk (.t 104))⟩,  ⟨(some 106), none, .op (.fad 4 (.t 105))⟩,  ⟨(some 107), none, .op (.load none (.t 106))⟩,  ⟨(some 108), none, .op (.mv (.t 4))⟩,  ⟨(some 109), none, .op (.slc (some 2) (.t 107) none (some (.t 108)) none)⟩,  ⟨(some 110), none, .op (.nchk (.t 103))⟩,  ⟨(some 111), none, .op (.fad 4 (.t 110))⟩,  ⟨none, none, .op (.store 1 (.t 111) (.t 109))⟩] []
def c2d : FC := .reg [⟨(some 112), none, .op (.mv (.t 3))⟩,  ⟨(some 113), none, .op (.nchk (.t 112))⟩,  ⟨(some 114), none, .op (.fad 6 (.t 113))⟩,  ⟨none, none, .op (.store 1 (.t 114) (.v (.bool true)))⟩] []
def c2e : FC := .reg [⟨(some 115), none, .op (.mv (.t 3))⟩,  ⟨(some 116), none, .op (.nchk (.t 115))⟩,  ⟨(some 117), none, .op (.fad 7 (.t 116))⟩,  ⟨none, none, .op (.store 1 (.t 117) (.v (.int .u64 0)))⟩] []
def c2f : FC := .reg [⟨(some 118), none, .op (.mv (.t 0))⟩,  ⟨(some 119), none, .op (.nchk (.t 118))⟩,  ⟨(some 120), none, .op (.fad 0 (.t 119))⟩,  ⟨(some 121), none, .op (.fad 0 (.t 120))⟩,  ⟨(some 122), none, .op (.load none (.t 121))⟩,  ⟨(some 123), none, .op (.mv (.t 3))⟩,  ⟨(some 124), none, .op (.nchk (.t 123))⟩,  ⟨(some 125), none, .op (.fad 0 (.t 124))⟩,  ⟨(some 126), none, .op (.load none (.t 125))⟩,  ⟨(some 127), none, .op (.iad none (some 8) (.t 122) (.t 126))⟩,  ⟨(some 128), none, .op (.fad 5 (.t 127))⟩,  ⟨(some 129), none, .op (.load none (.t 128))⟩,  ⟨(some 5), none, .op (.mv (.t 129))⟩] []
def c2g : FC := .reg [⟨(some 130), none, .op (.mv (.t 5))⟩,  ⟨(some 131), none, .op (.bin .none .geq (.t 130) (.v (.int .i64 0)))⟩] []
def c2h : FC := .reg [⟨(some 132), none, .op (.mv (.t 3))⟩,  ⟨(some 133), none, .op (.mv (.t 3))⟩,  ⟨(some 134), none, .op (.nchk (.t 133))⟩,  ⟨(some 135), none, .op (.fad 4 (.t 134))⟩,  ⟨(some 136), none, .op (.load none (.t 135))⟩,  ⟨(some 137), none, .op (.mv (.t 5))⟩,  ⟨(some 138), none, .op (.iad none none (.t 136) (.t 137))⟩,  ⟨(some 139), none, .op (.load none (.t 138))⟩,  ⟨(some 140), none, .op (.nchk (.t 132))⟩,  ⟨(some 141), none, .op (.fad 7 (.t 140))⟩,  ⟨none, none, .op (.store 1 (.t 141) (.t 139))⟩] []
def c2i : FC := .cond (.t 131) c2h FC.skip
def c2j : FC := .seq c2g c2i
def c2k : FC := .seq c2f c2j
def c2l : FC := .seq c2e c2k
def c2m : FC := .seq c2d c2l
def c2n : FC := .seq c2c c2m
def c2o : FC := .seq c2b c2n
def c2p : FC := .seq c1W c2o
def c2q : FC := .cond (.t 84) c2p FC.skip
def c2r : FC := .seq c1V c2q
def c2s : FC := .cond (.t 78) c1U c2r
def c2t : FC := .seq c1T c2s
def c2u : FC := .block 2 c2t
def c2v : FC := .seq c1S c2u
def c2w : FC := .seq c1R c2v
def c2x : FC := .seq c1Q c2w
def c2y : FC := .seq c6z c2x
def c2z : FC := .seq c6y c2y
def c2A : FC := .seq c6x c2z
def c2B : FC := .block 1 c2A
def c2C : FC := .seq c6u c2B
def c2D : FC := .loop c2C
def c2E : FC := .block 0 c2D
def d0O : FC := c2E
theorem d0P : Fn3 Tryd.prog 25 142 [] d0O := ⟨_, _, Tryd.func25, rfl, rfl, rfl, by kernel_rfl⟩

def a9M (gs : List b5) (y : F8) : Option Int := (m0 gs y.f).bind fun g => if 0 <= g.Keep then m0 y.ce g.Keep else some 0
structure RO8 where
 en : Option (Int × Int)
 push : Bool
 A : List F8
 ps : List a1c
def a2M (gs : List b5) : List F8 -> List a1c -> Option RO8
 | [], _ => none
 | z :: r, ps => if z.ends = false then some ⟨none, false, z :: r, ps⟩ else
   match z.wa with
   | x :: wa => (a8x gs x.f x.args 1).map fun F => ⟨none, true, F :: { z with wa := wa } :: r, ps⟩
   | [] => match r with
     | [] => some ⟨some (1, 0), false, [], ps⟩
     | y :: t =>
       if z.why = 0 then match y.back gs z.ret with | some y1 => a2M gs (y1 :: t) ps | none => none
       else if z.why = 2 then (match ps with
        | [] => none
        | a :: l => if a.rcv then (a9M gs y).bind fun v => a2M gs ({ y with ends := true, ret := v } :: t) l
          else (a7b gs (y :: t) (a :: l)).map fun u => ⟨u.1.map fun v => (2, v), u.1.isNone, u.2.1, u.2.2⟩)
       else a2M gs (y :: t) ps
 termination_by rows => rows.length
theorem b1O {gs : List b5} {z : F8} {r : List F8} {ps : List a1c} {u : RO8} (hz : z.ends = false) (h : a2M gs (z :: r) ps = some u) : u = ⟨none, false, z :: r, ps⟩ := by
 unfold a2M at h; rw [if_pos hz] at h; cases h; rfl
theorem a9N {gs : List b5} {z : F8} {r : List F8} {ps : List a1c} {u : RO8} {x wa} (hz : z.ends = true) (hw : z.wa = x :: wa) (h : a2M gs (z :: r) ps = some u) : ∃ F, a8x gs x.f x.args 1 = some F /\ u = ⟨none, true, F :: { z with wa := wa } :: r, ps⟩ := by
 unfold a2M at h; rw [if_neg (by simp [hz]), hw] at h
 obtain ⟨F, h1, h2⟩ := Option.map_eq_some_iff.1 h
 exact ⟨F, h1, h2.symm⟩
theorem a9O {gs : List b5} {z : F8} {ps : List a1c} {u : RO8} (hz : z.ends = true) (hw : z.wa = []) (h : a2M gs [z] ps = some u) : u = ⟨some (1, 0), false, [], ps⟩ := by
 unfold a2M at h; rw [if_neg (by simp [hz]), hw] at h; cases h; rfl
theorem a9P {gs : List b5} {z y : F8} {t : List F8} {ps : List a1c} {u : RO8} (hz : z.ends = true) (hw : z.wa = []) (h : a2M gs (z :: y :: t) ps = some u) :
  (z.why = 0 /\ ∃ y1, y.back gs z.ret = some y1 /\ a2M gs (y1 :: t) ps = some u) \/
  (z.why = 2 /\ ∃ a l, ps = a :: l /\ ((a.rcv = true /\ ∃ v, a9M gs y = some v /\ a2M gs ({ y with ends := true, ret := v } :: t) l = some u) \/
   (a.rcv = false /\ ∃ w, a7b gs (y :: t) (a :: l) = some w /\ u = ⟨w.1.map fun v => (2, v), w.1.isNone, w.2.1, w.2.2⟩))) \/
  (z.why ≠ 0 /\ z.why ≠ 2 /\ a2M gs (y :: t) ps = some u) := by
 unfold a2M at h; rw [if_neg (by simp [hz]), hw] at h
 dsimp only at h
 split at h
 ·rename_i h0
  split at h
  ·rename_i y1 h1
   exact .inl ⟨h0, y1, h1, h⟩
  ·cases h
 ·rename_i h0
  split at h
  ·rename_i h2
   cases ps with
   | nil => cases h
   | cons a l =>
     dsimp only at h
     split at h
     ·rename_i ha
      obtain ⟨v, h3, h4⟩ := Option.bind_eq_some_iff.1 h
      exact .inr (.inl ⟨h2, a, l, rfl, .inl ⟨ha, v, h3, h4⟩⟩)
     ·rename_i ha
      obtain ⟨w, h3, h4⟩ := Option.map_eq_some_iff.1 h
      exact .inr (.inl ⟨h2, a, l, rfl, .inr ⟨by simpa using ha, w, h3, h4.symm⟩⟩)
  ·rename_i h2
   exact .inr (.inr ⟨h0, h2, h⟩)
section
variable {gs : List b5} {o : O8} {s : S8} {z : Q8} {r : List Q8} {rj pj : List AV}
theorem c2F {z y : F8} {k v : Int} (h : z.set k v = some y) : y.wa = z.wa := by
 unfold F8.set at h
 split at h
 ·split at h
  ·cases h; rfl
  ·cases h
 ·cases h; rfl
theorem b8s {z y : F8} {v : Int} (h : z.back gs v = some y) : y.wa = z.wa := by
 unfold F8.back at h
 obtain ⟨g, h1, h⟩ := Option.bind_eq_some_iff.1 h
 obtain ⟨n, h2, h⟩ := Option.bind_eq_some_iff.1 h
 exact c2F (z := { z with pc := n.Next }) h
def S8.ret (s : S8) (u : RO8) : S8 := { s with pans := u.ps, ek := u.en.elim s.ek (·.1), ev := u.en.elim s.ev (·.2), depth := if u.push then max s.depth (u.A.length : Int) else s.depth }
theorem a7Q {rows : List Q8} {u : RO8} (hv : a2M gs (ab8 rows) s.pans = some u) (hok : ∀ g ∈ gs, okG g) (hek : s.ek = 0) (hn : rows.length < 9999999) (hp : s.pans.length < 9999999) (hd : 0 <= s.depth /\ s.depth < 1000000000) (hw : ∀ z ∈ rows, z.wa.length < 100000000) :
  Tri Tryd.prog 25 [.ptr o.r 0 0] (L8 gs o s rows rj pj)
   (fun _ L' => ∃ rv lv rows' rj' pj', ab8 rows' = u.A /\ L' = L8 gs { o with rv := rv, lv := lv } (s.ret u) rows' rj' pj') := by
 refine x4 mixed d0P zS [2] (fun R S hS => ?_)
 refine z6 (a6O (σ := List Q8 × List a1c × List AV × List AV) (fun _ => [(0, .ptr o.r 0 0)]) (fun q => L8 gs o { s with pans := q.2.1 } q.1 q.2.2.1 q.2.2.2 ++ R)
  (fun q => a2M gs (ab8 q.1) q.2.1 = some u /\ q.1.length < 9999999 /\ q.2.1.length < 9999999 /\ ∀ z ∈ q.1, z.wa.length < 100000000) (fun q => q.1.length) (rows, s.pans, rj, pj) hS ⟨hv, hn, hp, hw⟩
  wF (fun q S hI hS => ?_))
 obtain ⟨rows1, ps1, rj1, pj1⟩ := q
 obtain ⟨i1, i2, i3, i4⟩ := hI
 dsimp only at i1 i2 i3 i4 hS
 cases rows1 with
 | nil => unfold a2M at i1; cases i1
 | cons z r =>
 have hrl : r.length < 9999998 := by simp at i2; omega
 refine aU ?_
 refine f7 hS rfl (.head _) (v := .int .i64 0) (by show a1y none (h8 gs o { s with pans := ps1 } (r.length + 1)) (0 + 7 + 0) = _; rw [show h8 gs o { s with pans := ps1 } (r.length + 1) = h8 gs o { s with pans := ps1, ek := 0 } (r.length + 1) by rw [<- hek]]; rfl) ?_
 refine aU ?_
 refine f7 hS rfl (.head _) (v := .ref o.ro o.rv 0 (r.length + 1) (some 9)) rfl ?_
 refine aU ?_
 refine f7 hS rfl (.head _) (v := .ref o.ro o.rv 0 (r.length + 1) (some 9)) rfl ?_
 refine aU ?_
 refine a0e rfl rfl r.length (a2m zO) zO ?_
 refine aU ?_
 refine f7 hS rfl (.tail _ (.head _)) (v := .bool z.ends) (by rw [u0]; exact vT (y9 r) rfl) ?_
 refine aU ?_
 refine E_cs (t := z.ends) rfl (fun hE => ?_) (fun hE => ?_)
 rotate_left
 ·-- it goes on
  refine a3E ?_
  refine aE ?_
  cases b1O hE i1
  exact ⟨trivial, _, rfl, _, ⟨o.rv, o.lv, z :: r, rj1, pj1, rfl, by simp [S8.ret]⟩, hS⟩
 refine aU ?_
 refine z6 ?_
 cases hz : z.wa with
 | cons x wa =>
   obtain ⟨F, h1, h2⟩ := a9N (z := z.toF8) (r := ab8 r) hE hz i1
   have hwz := (i4 z (.head _))
   rw [hz] at hwz
   refine aU ?_
   refine a3l (a9J (s := { s with pans := ps1 }) (r := r) (w := 1) hz h1 hok zO hd (by simp at hwz; omega)) hS rfl (.refl _) (fun r0 S L' hL hS => ?_)
   obtain ⟨rfl, z1, hz1, rfl⟩ := hL
   refine aU ?_
   refine E_cs (t := true) rfl (fun _ => ?_) (fun h => by cases h)
   refine g8 ?_
   refine aE ?_
   refine ⟨trivial, _, rfl, _, ⟨o.rv + 1, o.lv, z1 :: { z with wa := wa, wj := x.cells ++ z.wj } :: r, [], pj1, by rw [h2, <- hz1]; rfl, rfl⟩, ?_⟩
   have e1 : s.ret u = { s with pans := ps1, depth := max s.depth ((r.length : Int) + 2) } := by
    rw [h2]; simp [S8.ret, ab8]; omega
   rw [e1]
   exact hS
 | nil =>
 refine aU ?_
 refine a3l (a9I (s := { s with pans := ps1 }) (r := r) (w := 1) hz zO) hS rfl (.refl _) (fun r0 S L' hL hS => ?_)
 obtain ⟨rfl, rfl⟩ := hL
 refine aU ?_
 refine E_cs (t := false) rfl (fun h => by cases h) (fun _ => ?_)
 refine aU ?_
 refine a1D ?_
 refine aU ?_
 refine f7 hS rfl (.head _) (v := .ref o.ro o.rv 0 (r.length + 1) (some 9)) rfl ?_
 refine aU ?_
 refine f7 hS rfl (.head _) (v := .ref o.ro o.rv 0 (r.length + 1) (some 9)) rfl ?_
 refine aU ?_
 refine a0e rfl rfl r.length (a2m zO) zO ?_
 refine f7 hS rfl (.tail _ (.head _)) (v := .agg (c8 z)) (by rw [u0]; exact vT0 (y9 r) rfl) ?_
 refine b0r hS rfl (fun oi S hS => ?_)
 have h1 : o.r ≠ oi := fun e => (List.nodup_cons.1 hS.2).1 (by rw [<- e]; exact List.mem_map.2 ⟨_, .head _, rfl⟩)
 have h2 : o.ro ≠ oi := fun e => (List.nodup_cons.1 hS.2).1 (by rw [<- e]; exact List.mem_map.2 ⟨_, .tail _ (.head _), rfl⟩)
 refine E_stS hS rfl (xv := .agg (c8 z)) rfl Rp.here rfl (b6X z) zqV (fun S hS => ?_)
 refine b6 ?_
 refine And.intro (by simp [a1i, a5b, a0y, a1R, h1, h2, Ne.symm h1, Ne.symm h2]) ?_
 refine aU ?_
 refine f7 hS rfl (.tail _ (.head _)) (v := .ref o.ro o.rv 0 (r.length + 1) (some 9)) rfl ?_
 refine aU ?_
 refine f7 hS rfl (.tail _ (.head _)) (v := .ref o.ro o.rv 0 (r.length + 1) (some 9)) rfl ?_
 refine aU ?_
 refine a7D (a := 0) (b := r.length) rfl rfl (by show hiN (r.length + 1) (some (.int .i64 (IntKind.i64.wrap (((r.length + 1 : Nat) : Int) - 1)))) = _; rw [a2m zO, a4i zO]; simp) ⟨by omega, by omega, .inl rfl⟩ ?_
 refine aU ?_
 refine E_stS hS rfl (xv := .ref o.ro o.rv 0 r.length (some 9)) (by show AV.ref o.ro o.rv (0 + 0 * g6 (some 9)) (r.length - 0) (some 9) = _; simp) (Rp.there Rp.here) rfl rfl zqV (fun S hS => ?_)
 have hS2 : Ab.Sep S (L8 gs o { s with pans := ps1 } r (c8 z ++ rj1) pj1 ++ ((oi, 0, c8 z) :: R)) := c1M (R := (oi, 0, c8 z) :: R) (hS.perm (by
  refine (List.perm_middle (l₁ := (o.r, 0, h8 gs o { s with pans := ps1 } r.length) :: (o.ro, o.rv, rC (z :: r) ++ rj1) :: (x8 o { s with pans := ps1 } pj1 ++ (z :: r).flatMap o8)) (l₂ := R)).symm))
 clear hS
 refine aU ?_
 refine f7 hS2 rfl (.head _) (v := .ref o.ro o.rv 0 r.length (some 9)) rfl ?_
 refine aU ?_
 refine E_cs (t := ((r.length : Int) == 0)) rfl (fun hr => ?_) (fun hr => ?_)
 ·have hr0 : r = [] := by
   have : (r.length : Int) = 0 := by simpa using hr
   exact List.length_eq_zero_iff.1 zO
  subst hr0
  cases a9O hE hz i1
  refine aU ?_
  refine E_stS hS2 rfl (xv := .agg [.int .i64 1, .int .u64 0]) rfl Rp.here rfl rfl zqV (fun S hS => ?_)
  refine aU ?_
  refine g8 ?_
  refine aE ?_
  exact ⟨trivial, _, rfl, _, ⟨o.rv, o.lv, [], c8 z ++ rj1, pj1, rfl, rfl⟩, hS.sub (List.Sublist.append_left (List.sublist_cons_self _ _) _)⟩
 cases r with
 | nil => cases hr
 | cons y t =>
 have htl : t.length < 9999998 := by simp at hrl; omega
 refine aU ?_
 refine f7 hS2 rfl (.head _) (v := .ref o.ro o.rv 0 (t.length + 1) (some 9)) rfl ?_
 refine aU ?_
 refine f7 hS2 rfl (.head _) (v := .ref o.ro o.rv 0 (t.length + 1) (some 9)) rfl ?_
 refine aU ?_
 refine a0e rfl rfl t.length (a2m zO) zO ?_
 refine aU ?_
 refine f7 hS2 rfl (List.mem_append_right _ (.head _)) (v := .int .i64 z.why) rfl ?_
 refine aU ?_
 have hstp := a9P (z := z.toF8) (y := y.toF8) (t := ab8 t) hE hz i1
 have hoi : oi ∉ (L8 gs o { s with pans := ps1 } (y :: t) (c8 z ++ rj1) pj1).map (·.1) := fun hm => by
  have hS3 := hS2.perm List.perm_middle
  exact (List.nodup_cons.1 hS3.2).1 (by rw [List.map_append]; exact List.mem_append_left _ hm)
 have i5 : ∀ q ∈ y :: t, q.wa.length < 100000000 := fun q hq => i4 q (.tail _ hq)
 refine z6 ?_
 refine aU ?_
 refine E_cs (t := z.why == 0) rfl (fun hb => ?_) (fun hb => ?_)
 ·have hw0 : z.why = 0 := by simpa using hb
  obtain ⟨y1, hb1, hg2⟩ : ∃ y1, y.toF8.back gs z.ret = some y1 /\ a2M gs (y1 :: ab8 t) ps1 = some u := by
   rcases hstp with ⟨_, g, h3, h4⟩ | ⟨h3, _⟩ | ⟨h3, _⟩
   ·exact ⟨g, h3, h4⟩
   ·exact absurd (hw0.symm.trans h3) zD
   ·exact absurd hw0 h3
  refine aU ?_
  refine f7 hS2 rfl (List.mem_append_right _ (.head _)) (v := .int .u64 z.ret) rfl ?_
  refine aU ?_
  refine a3l (b6a (s := { s with pans := ps1 }) hb1 zO) hS2 rfl (.refl _) (fun x S L' hL hS => ?_)
  obtain ⟨q1, rfl, rfl⟩ := hL
  refine aU ?_
  refine aE ?_
  have hq1 : q1.wa.length < 100000000 := by
   have hb2 := b8s hb1
   rw [show q1.wa = y.wa from hb2]
   exact i5 y (.head _)
  exact a1u ⟨(q1 :: t, ps1, c8 z ++ rj1, pj1), ⟨hg2, by show t.length + 1 < _; omega, i3, fun q hq => (List.mem_cons.1 hq).elim (fun e => by rw [e]; exact hq1) (fun e => i5 q (.tail _ e))⟩, by show t.length + 1 < (z :: y :: t).length; simp, hS.sub (List.Sublist.append_left (List.sublist_cons_self _ _) _), wF⟩
 ·have hw0 : z.why ≠ 0 := by simpa using hb
  refine aU ?_
  refine E_cs (t := z.why == 2) rfl (fun hb => ?_) (fun hb => ?_)
  ·have hw2 : z.why = 2 := by simpa using hb
   obtain ⟨a, l, rfl, h4⟩ : ∃ a l, ps1 = a :: l /\ ((a.rcv = true /\ ∃ v, a9M gs y.toF8 = some v /\ a2M gs ({ y.toF8 with ends := true, ret := v } :: ab8 t) l = some u) \/
     (a.rcv = false /\ ∃ w, a7b gs (y.toF8 :: ab8 t) (a :: l) = some w /\ u = ⟨w.1.map fun v => (2, v), w.1.isNone, w.2.1, w.2.2⟩)) := by
    rcases hstp with ⟨h3, _⟩ | ⟨_, a, l, h3, h4⟩ | ⟨_, h3, _⟩
    ·exact absurd h3 hw0
    ·exact ⟨a, l, h3, h4⟩
    ·exact absurd hw2 h3
   have hll : l.length < 9999998 := by simp at i3; omega
   have hxa : (a :: l).reverse[l.length]? = some a := by simp
   refine aU ?_
   refine f7 hS2 rfl (.head _) (v := .ref o.li o.lv 0 (l.length + 1) (some 2)) rfl ?_
   refine aU ?_
   refine f7 hS2 rfl (.head _) (v := .ref o.li o.lv 0 (l.length + 1) (some 2)) rfl ?_
   refine aU ?_
   refine a0e rfl rfl l.length (a2m zO) zO ?_
   refine aU ?_
   refine b0s hS2 a1c.enc rfl (.tail _ (.tail _ (.head _))) (n := l.length) (fo := 1) (y := a) zS hxa (v := .bool a.rcv) rfl ?_
   refine aU ?_
   refine E_cs (t := !a.rcv) rfl (fun hq => ?_) (fun hq => ?_)
   ·have hq' : a.rcv = false := by simpa using hq
    obtain ⟨w, h5, h8⟩ : ∃ w, a7b gs (y.toF8 :: ab8 t) (a :: l) = some w /\ u = ⟨w.1.map fun v => (2, v), w.1.isNone, w.2.1, w.2.2⟩ := by
     rcases h4 with ⟨h4, _⟩ | ⟨_, w, h5, h8⟩
     ·rw [hq'] at h4; cases h4
     ·exact ⟨w, h5, h8⟩
    refine aU ?_
    refine a3l (a7P (rows := y :: t) (s := { s with pans := a :: l }) h5 hok (by show t.length + 1 < _; omega) (by show l.length + 1 < _; omega) hd i5) hS2 rfl (.refl _) (fun x S L' hL hS => ?_)
    refine aU ?_
    refine g8 ?_
    refine aE ?_
    obtain ⟨rv, lv, rows', rj', pj', h7, rfl⟩ := hL
    obtain ⟨en, A', ps'⟩ := w
    refine ⟨trivial, _, rfl, _, ⟨rv, lv, rows', rj', pj', by rw [h8, h7], ?_⟩, hS.sub (List.Sublist.append_left (List.sublist_cons_self _ _) _)⟩
    rw [h8]
    cases en <;> rfl
   ·have hq' : a.rcv = true := by simpa using hq
    obtain ⟨v, h5, hk6⟩ : ∃ v, a9M gs y.toF8 = some v /\ a2M gs ({ y.toF8 with ends := true, ret := v } :: ab8 t) l = some u := by
     rcases h4 with ⟨_, v, h5, hk6⟩ | ⟨h4, _⟩
     ·exact ⟨v, h5, hk6⟩
     ·rw [hq'] at h4; cases h4
    obtain ⟨g, h7, h8⟩ := Option.bind_eq_some_iff.1 h5
    refine aU ?_
    refine f7 hS2 rfl (.head _) (v := .ref o.li o.lv 0 (l.length + 1) (some 2)) rfl ?_
    refine aU ?_
    refine a7D (a := 0) (b := l.length) rfl rfl (by show hiN (l.length + 1) (some (.int .i64 (IntKind.i64.wrap (((l.length + 1 : Nat) : Int) - 1)))) = _; rw [a2m zO, a4i zO]; simp) ⟨by omega, by omega, .inl rfl⟩ ?_
    refine aU ?_
    refine E_stS hS2 rfl (xv := .ref o.li o.lv 0 l.length (some 2)) (by show AV.ref o.li o.lv (0 + 0 * g6 (some 2)) (l.length - 0) (some 2) = _; simp) Rp.here rfl rfl zqV (fun S hS => ?_)
    have e4 : flat a1c.av (a :: l).reverse ++ pj1 = flat a1c.av l.reverse ++ (a.cells ++ pj1) := by
     rw [List.reverse_cons, a0t, List.append_assoc]; rfl
    have hS3 : Ab.Sep S (L8 gs o { s with pans := l } (y :: t) (c8 z ++ rj1) (a.cells ++ pj1) ++ ((oi, 0, c8 z) :: R)) := by
     unfold L8
     show Ab.Sep S (_ :: _ :: (o.li, o.lv, flat a1c.av l.reverse ++ (a.cells ++ pj1)) :: _)
     rw [<- e4]
     exact hS
    clear hS
    refine aU ?_
    refine E_stS hS3 rfl (xv := .bool true) rfl (a4M (z' := { y with ends := true }) zO rfl rfl rfl) rfl rfl (a2J zO) (fun S hS => ?_)
    refine aU ?_
    refine E_stS hS rfl (xv := .int .u64 0) rfl (a4M (z' := { y with ends := true, ret := 0 }) zO rfl rfl rfl) rfl rfl (a2J zO) (fun S hS => ?_)
    refine aU ?_
    refine f7 hS rfl (.head _) (v := .sl false 8 (List.map b5.av gs)) rfl ?_
    refine aU ?_
    refine f7 hS rfl (.tail _ (.head _)) (v := .int .i64 y.f) (by rw [u0]; exact vT (y9 t) rfl) ?_
    refine aU ?_
    refine j6 (esh := some 8) (f := b5.av) (ys := gs) (y := g) rfl rfl h7 ?_
    refine aU ?_
    refine E_cs (t := decide (g.Keep >= 0)) rfl (fun hk => ?_) (fun hk => ?_)
    ·have hk' := of_decide_eq_true hk
     rw [if_pos hk'] at h8
     obtain ⟨k1, k2, k3⟩ := i8 h8
     refine aU ?_
     refine f7 hS rfl (.tail _ (.head _)) (v := .ref y.cl 0 0 y.ce.length none) (by rw [u0]; exact vT (y9 t) rfl) ?_
     refine aU ?_
     refine a0e rfl rfl g.Keep.toNat zO zO ?_
     refine b1s hS (j3 .u64) rfl b6W (n := g.Keep.toNat) (fo := 0) (y := v) (by simp [g6]) k3 (v := .int .u64 v) rfl ?_
     refine aU ?_
     refine E_stS hS rfl (xv := .int .u64 v) rfl (a4M (z' := { y with ends := true, ret := v }) zO rfl rfl rfl) rfl rfl (a2J zO) (fun S hS => ?_)
     refine aU ?_
     refine aE ?_
     exact a1u ⟨({ y with ends := true, ret := v } :: t, l, c8 z ++ rj1, a.cells ++ pj1), ⟨hk6, by show t.length + 1 < _; omega, by show l.length < _; omega, fun q hq => (List.mem_cons.1 hq).elim (fun e => by rw [e]; exact i5 y (.head _)) (fun e => i5 q (.tail _ e))⟩, by show t.length + 1 < (z :: y :: t).length; simp, hS.sub (List.Sublist.append_left (List.sublist_cons_self _ _) _), wF⟩
    ·have hk' := of_decide_eq_false hk
     rw [if_neg hk'] at h8
     cases h8
     refine aU ?_
     refine aE ?_
     exact a1u ⟨({ y with ends := true, ret := 0 } :: t, l, c8 z ++ rj1, a.cells ++ pj1), ⟨hk6, by show t.length + 1 < _; omega, by show l.length < _; omega, fun q hq => (List.mem_cons.1 hq).elim (fun e => by rw [e]; exact i5 y (.head _)) (fun e => i5 q (.tail _ e))⟩, by show t.length + 1 < (z :: y :: t).length; simp, hS.sub (List.Sublist.append_left (List.sublist_cons_self _ _) _), wF⟩
  ·have hw2 : z.why ≠ 2 := by simpa using hb
   have h5 : a2M gs (y.toF8 :: ab8 t) ps1 = some u := by
    rcases hstp with ⟨h3, _⟩ | ⟨h3, _⟩ | ⟨_, _, h5⟩
    ·exact absurd h3 hw0
    ·exact absurd h3 hw2
    ·exact h5
   refine aU ?_
   refine aE ?_
   exact a1u ⟨(y :: t, ps1, c8 z ++ rj1, pj1), ⟨h5, by show t.length + 1 < _; omega, i3, i5⟩, by show t.length + 1 < (z :: y :: t).length; simp, hS2.sub (List.Sublist.append_left (List.sublist_cons_self _ _) _), wF⟩
end
end Go.Proofs.YtipeiholgieclaaDoor

/- ref8's Step: what comes ahead of its operations, and behind. -/
namespace Go.Proofs.YtipeiholgieclaaDoor
open Go Go.Ab
set_option maxRecDepth 20000
set_option maxHeartbeats 2000000
def c6B : FC := .reg [⟨(some 14), none, .op (.mv (.t 0))⟩,  ⟨(some 15), none, .op (.nchk (.t 14))⟩,  ⟨(some 16), none, .op (.fad 9 (.t 15))⟩,  ⟨(some 17), none, .op (.load none (.t 16))⟩,  ⟨(some 18), none, .op (.bin .none .add (.t 17) (.v (.int .i64 1)))⟩,  ⟨(some 19), none, .op (.nchk (.t 14))⟩,  ⟨(some 20), none, .op (.fad 9 (.t 19))⟩,  ⟨none, none, .op (.store 1 (.t 20) (.t 18))⟩] []
def c6C : FC := .reg [⟨(some 21), none, .op (.mv (.t 0))⟩,  ⟨(some 22), none, .op (.nchk (.t 21))⟩,  ⟨(some 23), none, .op (.fad 3 (.t 22))⟩,  ⟨(some 24), none, .op (.load none (.t 23))⟩,  ⟨(some 25), none, .op (.mv (.t 0))⟩,  ⟨(some 26), none, .op (.nchk (.t 25))⟩,  ⟨(some 27), none, .op (.fad 3 (.t 26))⟩,  ⟨(some 28), none, .op (.load none (.t 27))⟩,  ⟨(some 29), none, .op (.len .sl (.t 28))⟩,  ⟨(some 30), none, .op (.bin .none .sub (.t 29) (.v (.int .i64 1)))⟩,  ⟨(some 31), none, .op (.iad none (some 9) (.t 24) (.t 30))⟩,  ⟨(some 2), none, .op (.mv (.t 31))⟩] []
def c6D : FC := .reg [⟨(some 32), none, .op (.mv (.t 0))⟩,  ⟨(some 33), none, .op (.nchk (.t 32))⟩,  ⟨(some 34), none, .op (.fad 0 (.t 33))⟩,  ⟨(some 35), none, .op (.fad 0 (.t 34))⟩,  ⟨(some 36), none, .op (.load none (.t 35))⟩,  ⟨(some 37), none, .op (.mv (.t 2))⟩,  ⟨(some 38), none, .op (.nchk (.t 37))⟩,  ⟨(some 39), none, .op (.fad 0 (.t 38))⟩,  ⟨(some 40), none, .op (.load none (.t 39))⟩,  ⟨(some 41), none, .op (.iad none (some 8) (.t 36) (.t 40))⟩,  ⟨(some 42), none, .op (.fad 6 (.t 41))⟩,  ⟨(some 43), none, .op (.load none (.t 42))⟩,  ⟨(some 44), none, .op (.mv (.t 2))⟩,  ⟨(some 45), none, .op (.nchk (.t 44))⟩,  ⟨(some 46), none, .op (.fad 1 (.t 45))⟩,  ⟨(some 47), none, .op (.load none (.t 46))⟩,  ⟨(some 48), none, .op (.iad none (some 12) (.t 43) (.t 47))⟩,  ⟨(some 49), none, .op (.load (some 12) (.t 48))⟩,  ⟨(some 3), none, .op (.new [(.int .u8 0), (.int .u8 0), (.int .i64 0), (.int .i64 0), (.int .i64 0), (.int .i64 0), (.int .i64 0), (.int .i64 0), (.int .u64 0), .nils, (.int .i64 0), (.int .i64 0)])⟩,  ⟨none, none, .op (.store 12 (.t 3) (.t 49))⟩] [(4, 18), (8, 18), (11, 18), (15, 18), (17, 18)]
def c6E : FC := .reg [⟨(some 50), none, .op (.fad 10 (.t 3))⟩,  ⟨(some 51), none, .op (.load none (.t 50))⟩,  ⟨(some 4), none, .op (.mv (.t 51))⟩] []
def c6F : FC := .reg [⟨(some 52), none, .op (.fad 0 (.t 3))⟩,  ⟨(some 53), none, .op (.load none (.t 52))⟩] []
def c6G : FC := .reg [⟨(some 63), none, .op (.bin .none .eql (.t 53) (.v (.int .u8 1)))⟩,  ⟨(some 62), none, .op (.mv (.t 63))⟩] []
def c6H : FC := .reg [⟨(some 64), none, .op (.mv (.t 0))⟩,  ⟨(some 65), none, .op (.fad 2 (.t 3))⟩,  ⟨(some 66), none, .op (.load none (.t 65))⟩,  ⟨(some 67), none, .op (.fad 8 (.t 3))⟩,  ⟨(some 68), none, .op (.load none (.t 67))⟩,  ⟨(some 69), none, .call 19 [(.t 64), (.t 66), (.t 68)]⟩] []
def c6I : FC := .reg [⟨(some 71), none, .op (.bin .none .eql (.t 53) (.v (.int .u8 2)))⟩,  ⟨(some 70), none, .op (.mv (.t 71))⟩] []
def c6J : FC := .reg [⟨(some 72), none, .op (.mv (.t 0))⟩,  ⟨(some 73), none, .op (.fad 2 (.t 3))⟩,  ⟨(some 74), none, .op (.load none (.t 73))⟩,  ⟨(some 75), none, .op (.mv (.t 0))⟩,  ⟨(some 76), none, .op (.fad 4 (.t 3))⟩,  ⟨(some 77), none, .op (.load none (.t 76))⟩,  ⟨(some 78), none, .call 20 [(.t 75), (.t 77)]⟩,  ⟨(some 79), none, .call 19 [(.t 72), (.t 74), (.t 78)]⟩] [(2, 6)]
def c2G : FC := .reg [⟨(some 81), none, .op (.bin .none .eql (.t 53) (.v (.int .u8 3)))⟩,  ⟨(some 80), none, .op (.mv (.t 81))⟩] []
def c2H : FC := .reg [⟨(some 83), none, .op (.fad 1 (.t 3))⟩,  ⟨(some 84), none, .op (.load none (.t 83))⟩,  ⟨(some 85), none, .op (.mv (.t 0))⟩,  ⟨(some 86), none, .op (.fad 4 (.t 3))⟩,  ⟨(some 87), none, .op (.load none (.t 86))⟩,  ⟨(some 88), none, .call 20 [(.t 85), (.t 87)]⟩,  ⟨(some 89), none, .op (.mv (.t 0))⟩,  ⟨(some 90), none, .op (.fad 5 (.t 3))⟩,  ⟨(some 91), none, .op (.load none (.t 90))⟩,  ⟨(some 92), none, .call 20 [(.t 89), (.t 91)]⟩,  ⟨(some 93), none, .call 21 [(.t 84), (.t 88), (.t 92)]⟩,  ⟨(some 82), none, .op (.mv (.t 93))⟩,  ⟨(some 94), none, .op (.ext 0 (.t 82))⟩,  ⟨(some 95), none, .op (.ext 1 (.t 82))⟩,  ⟨(some 5), none, .op (.mv (.t 94))⟩,  ⟨(some 6), none, .op (.mv (.t 95))⟩] [(1, 5), (5, 8), (1, 9)]
def c2I : FC := .reg [⟨(some 96), none, .op (.mv (.t 6))⟩,  ⟨(some 97), none, .op (.bin .none .neq (.t 96) (.v (.int .i64 0)))⟩] []
def c2J : FC := .reg [⟨(some 98), none, .op (.mv (.t 0))⟩,  ⟨(some 99), none, .call 22 [(.t 98), (.v (.int .u64 18446744073709551615))]⟩] []
def c2K : FC := .seq c2J FC.ret
def c2L : FC := .cond (.t 97) c2K FC.skip
def c2M : FC := .seq c2I c2L
def c2N : FC := .reg [⟨(some 100), none, .op (.mv (.t 0))⟩,  ⟨(some 101), none, .op (.fad 2 (.t 3))⟩,  ⟨(some 102), none, .op (.load none (.t 101))⟩,  ⟨(some 103), none, .op (.mv (.t 5))⟩,  ⟨(some 104), none, .call 19 [(.t 100), (.t 102), (.t 103)]⟩] []
def c2O : FC := .seq c2M c2N
def c2P : FC := .seq c2H c2O
def c2Q : FC := .reg [⟨(some 106), none, .op (.bin .none .eql (.t 53) (.v (.int .u8 4)))⟩,  ⟨(some 105), none, .op (.mv (.t 106))⟩] []
def c2R : FC := .reg [⟨(some 107), none, .op (.mv (.t 0))⟩,  ⟨(some 108), none, .op (.fad 2 (.t 3))⟩,  ⟨(some 109), none, .op (.load none (.t 108))⟩,  ⟨(some 110), none, .op (.mv (.t 2))⟩,  ⟨(some 111), none, .op (.nchk (.t 110))⟩,  ⟨(some 112), none, .op (.fad 4 (.t 111))⟩,  ⟨(some 113), none, .op (.load none (.t 112))⟩,  ⟨(some 114), none, .op (.fad 7 (.t 3))⟩,  ⟨(some 115), none, .op (.load none (.t 114))⟩,  ⟨(some 116), none, .op (.iad none none (.t 113) (.t 115))⟩,  ⟨(some 117), none, .op (.load none (.t 116))⟩,  ⟨(some 118), none, .call 19 [(.t 107), (.t 109), (.t 117)]⟩] []
def c2S : FC := .reg [⟨(some 120), none, .op (.bin .none .eql (.t 53) (.v (.int .u8 5)))⟩,  ⟨(some 119), none, .op (.mv (.t 120))⟩] []
def c2T : FC := .reg [⟨(some 121), none, .op (.mv (.t 2))⟩,  ⟨(some 122), none, .op (.nchk (.t 121))⟩,  ⟨(some 123), none, .op (.fad 4 (.t 122))⟩,  ⟨(some 124), none, .op (.load none (.t 123))⟩,  ⟨(some 125), none, .op (.fad 7 (.t 3))⟩,  ⟨(some 126), none, .op (.load none (.t 125))⟩,  ⟨(some 127), none, .op (.mv (.t 0))⟩,  ⟨(some 128), none, .op (.fad 4 (.t 3))⟩,  ⟨(some 129), none, .op (.load none (.t 128))⟩,  ⟨(some 130), none, .call 20 [(.t 127), (.t 129)]⟩,  ⟨(some 131), none, .op (.iad none none (.t 124) (.t 126))⟩,  ⟨none, none, .op (.store 1 (.t 131) (.t 130))⟩] [(3, 9), (5, 9)]
def c2U : FC := .reg [⟨(some 133), none, .op (.bin .none .eql (.t 53) (.v (.int .u8 6)))⟩,  ⟨(some 132), none, .op (.mv (.t 133))⟩] []
def c2V : FC := .reg [⟨(some 134), none, .op (.mv (.t 0))⟩,  ⟨(some 135), none, .op (.fad 2 (.t 3))⟩,  ⟨(some 136), none, .op (.load none (.t 135))⟩,  ⟨(some 137), none, .op (.mv (.t 0))⟩,  ⟨(some 138), none, .op (.nchk (.t 137))⟩,  ⟨(some 139), none, .op (.fad 3 (.t 138))⟩,  ⟨(some 140), none, .op (.load none (.t 139))⟩,  ⟨(some 141), none, .op (.len .sl (.t 140))⟩,  ⟨(some 142), none, .op (.bin .none .sub (.t 141) (.v (.int .i64 1)))⟩,  ⟨(some 143), none, .op (.cint .u64 (.t 142))⟩,  ⟨(some 144), none, .op (.bin .none .mul (.t 143) (.v (.int .u64 65536)))⟩,  ⟨(some 145), none, .op (.bin .none .add (.v (.int .u64 4611686018427387904)) (.t 144))⟩,  ⟨(some 146), none, .op (.fad 7 (.t 3))⟩,  ⟨(some 147), none, .op (.load none (.t 146))⟩,  ⟨(some 148), none, .op (.cint .u64 (.t 147))⟩,  ⟨(some 149), none, .op (.bin .none .add (.t 145) (.t 148))⟩,  ⟨(some 150), none, .call 19 [(.t 134), (.t 136), (.t 149)]⟩] []
def c2W : FC := .reg [⟨(some 152), none, .op (.bin .none .eql (.t 53) (.v (.int .u8 7)))⟩,  ⟨(some 151), none, .op (.mv (.t 152))⟩] []
def c2X : FC := .reg [⟨(some 153), none, .op (.bin .none .eql (.t 53) (.v (.int .u8 8)))⟩,  ⟨(some 151), none, .op (.mv (.t 153))⟩] []
def c2Y : FC := .cond (.t 151) FC.skip c2X
def c2Z : FC := .seq c2W c2Y
def c3a : FC := .reg [⟨(some 155), none, .op (.mv (.t 0))⟩,  ⟨(some 156), none, .op (.mv (.t 0))⟩,  ⟨(some 157), none, .op (.fad 4 (.t 3))⟩,  ⟨(some 158), none, .op (.load none (.t 157))⟩,  ⟨(some 159), none, .call 20 [(.t 156), (.t 158)]⟩,  ⟨(some 160), none, .call 23 [(.t 155), (.t 159)]⟩,  ⟨(some 154), none, .op (.mv (.t 160))⟩,  ⟨(some 161), none, .op (.ext 0 (.t 154))⟩,  ⟨(some 162), none, .op (.ext 1 (.t 154))⟩,  ⟨(some 7), none, .op (.mv (.t 161))⟩,  ⟨(some 8), none, .op (.mv (.t 162))⟩] []
def c3b : FC := .reg [⟨(some 163), none, .op (.mv (.t 7))⟩,  ⟨(some 164), none, .op (.bin .none .lss (.t 163) (.v (.int .i64 0)))⟩] []
def c3c : FC := .reg [⟨(some 165), none, .op (.mv (.t 0))⟩,  ⟨(some 166), none, .call 22 [(.t 165), (.v (.int .u64 18446744073709551614))]⟩] []
def c3d : FC := .seq c3c FC.ret
def c3e : FC := .cond (.t 164) c3d FC.skip
def c3f : FC := .seq c3b c3e
def c3g : FC := .reg [⟨(some 167), none, .op (.fad 0 (.t 3))⟩,  ⟨(some 168), none, .op (.load none (.t 167))⟩,  ⟨(some 169), none, .op (.bin .none .eql (.t 168) (.v (.int .u8 7)))⟩] []
def c3h : FC := .reg [⟨(some 170), none, .op (.mv (.t 0))⟩,  ⟨(some 171), none, .op (.fad 2 (.t 3))⟩,  ⟨(some 172), none, .op (.load none (.t 171))⟩,  ⟨(some 173), none, .op (.mv (.t 0))⟩,  ⟨(some 174), none, .op (.nchk (.t 173))⟩,  ⟨(some 175), none, .op (.fad 3 (.t 174))⟩,  ⟨(some 176), none, .op (.load none (.t 175))⟩,  ⟨(some 177), none, .op (.mv (.t 7))⟩,  ⟨(some 178), none, .op (.iad none (some 9) (.t 176) (.t 177))⟩,  ⟨(some 179), none, .op (.fad 4 (.t 178))⟩,  ⟨(some 180), none, .op (.load none (.t 179))⟩,  ⟨(some 181), none, .op (.mv (.t 8))⟩,  ⟨(some 182), none, .op (.iad none none (.t 180) (.t 181))⟩,  ⟨(some 183), none, .op (.load none (.t 182))⟩,  ⟨(some 184), none, .call 19 [(.t 170), (.t 172), (.t 183)]⟩] []
def c3i : FC := .reg [⟨(some 185), none, .op (.mv (.t 0))⟩,  ⟨(some 186), none, .op (.nchk (.t 185))⟩,  ⟨(some 187), none, .op (.fad 3 (.t 186))⟩,  ⟨(some 188), none, .op (.load none (.t 187))⟩,  ⟨(some 189), none, .op (.mv (.t 7))⟩,  ⟨(some 190), none, .op (.iad none (some 9) (.t 188) (.t 189))⟩,  ⟨(some 191), none, .op (.fad 4 (.t 190))⟩,  ⟨(some 192), none, .op (.load none (.t 191))⟩,  ⟨(some 193), none, .op (.mv (.t 8))⟩,  ⟨(some 194), none, .op (.mv (.t 0))⟩,  ⟨(some 195), none, .op (.fad 5 (.t 3))⟩,  ⟨(some 196), none, .op (.load none (.t 195))⟩,  ⟨(some 197), none, .call 20 [(.t 194), (.t 196)]⟩,  ⟨(some 198), none, .op (.iad none none (.t 192) (.t 193))⟩,  ⟨none, none, .op (.store 1 (.t 198) (.t 197))⟩] [(3, 12), (7, 12)]
def c3j : FC := .cond (.t 169) c3h c3i
def c3k : FC := .seq c3g c3j
def c3l : FC := .seq c3f c3k
def c3m : FC := .seq c3a c3l
def c3n : FC := .reg [⟨(some 200), none, .op (.bin .none .eql (.t 53) (.v (.int .u8 9)))⟩,  ⟨(some 199), none, .op (.mv (.t 200))⟩] []
def c3o : FC := .reg [⟨(some 201), none, .op (.mv (.t 0))⟩,  ⟨(some 202), none, .op (.fad 4 (.t 3))⟩,  ⟨(some 203), none, .op (.load none (.t 202))⟩,  ⟨(some 204), none, .call 20 [(.t 201), (.t 203)]⟩,  ⟨(some 205), none, .op (.bin .none .eql (.t 204) (.v (.int .u64 0)))⟩] []
def c3p : FC := .reg [⟨(some 206), none, .op (.fad 11 (.t 3))⟩,  ⟨(some 207), none, .op (.load none (.t 206))⟩,  ⟨(some 4), none, .op (.mv (.t 207))⟩] []
def c3q : FC := .cond (.t 205) c3p FC.skip
def c3r : FC := .seq c3o c3q
def c3s : FC := .reg [⟨(some 209), none, .op (.bin .none .eql (.t 53) (.v (.int .u8 10)))⟩,  ⟨(some 208), none, .op (.mv (.t 209))⟩] []
def c3t : FC := .reg [⟨(some 211), none, .op (.bin .none .eql (.t 53) (.v (.int .u8 11)))⟩,  ⟨(some 210), none, .op (.mv (.t 211))⟩] []
def c3u : FC := .reg [⟨(some 212), none, .op (.mv (.t 2))⟩,  ⟨(some 213), none, .op (.bsl none [(.int .u64 0)] 0 [])⟩,  ⟨(some 214), none, .op (.mv (.t 0))⟩,  ⟨(some 215), none, .op (.nchk (.t 214))⟩,  ⟨(some 216), none, .op (.fad 2 (.t 215))⟩,  ⟨(some 217), none, .op (.load none (.t 216))⟩,  ⟨(some 218), none, .op (.app none 8 (.t 213) (.t 217))⟩,  ⟨(some 219), none, .op (.nchk (.t 212))⟩,  ⟨(some 220), none, .op (.fad 8 (.t 219))⟩,  ⟨none, none, .op (.store 1 (.t 220) (.t 218))⟩] []
def c3v : FC := .reg [⟨(some 221), none, .op (.mv (.t 0))⟩,  ⟨(some 222), none, .op (.fad 6 (.t 3))⟩,  ⟨(some 223), none, .op (.load none (.t 222))⟩,  ⟨(some 224), none, .op (.mv (.t 0))⟩,  ⟨(some 225), none, .op (.load (some 12) (.t 3))⟩,  ⟨(some 226), none, .call 24 [(.t 224), (.t 225)]⟩,  ⟨(some 227), none, .call 18 [(.t 221), (.t 223), (.t 226), (.v (.int .i64 0))]⟩] [(2, 5)]
def c3w : FC := .seq c3v FC.ret
def c3x : FC := .seq c3u c3w
def c3y : FC := .reg [⟨(some 229), none, .op (.bin .none .eql (.t 53) (.v (.int .u8 12)))⟩,  ⟨(some 228), none, .op (.mv (.t 229))⟩] []
def c3z : FC := .reg [⟨(some 230), none, .op (.fad 4 (.t 3))⟩,  ⟨(some 231), none, .op (.load none (.t 230))⟩,  ⟨(some 232), none, .op (.bin .none .geq (.t 231) (.v (.int .i64 0)))⟩] []
def c3A : FC := .reg [⟨(some 233), none, .op (.mv (.t 2))⟩,  ⟨(some 234), none, .op (.mv (.t 0))⟩,  ⟨(some 235), none, .op (.fad 4 (.t 3))⟩,  ⟨(some 236), none, .op (.load none (.t 235))⟩,  ⟨(some 237), none, .call 20 [(.t 234), (.t 236)]⟩,  ⟨(some 238), none, .op (.nchk (.t 233))⟩,  ⟨(some 239), none, .op (.fad 7 (.t 238))⟩,  ⟨none, none, .op (.store 1 (.t 239) (.t 237))⟩] []
def c3B : FC := .cond (.t 232) c3A FC.skip
def c3C : FC := .seq c3z c3B
def c3D : FC := .reg [⟨(some 240), none, .op (.mv (.t 2))⟩,  ⟨(some 241), none, .op (.nchk (.t 240))⟩,  ⟨(some 242), none, .op (.fad 6 (.t 241))⟩,  ⟨none, none, .op (.store 1 (.t 242) (.v (.bool true)))⟩] []
def c3E : FC := .reg [⟨(some 243), none, .op (.mv (.t 0))⟩,  ⟨(some 244), none, .call 25 [(.t 243)]⟩] []
def c3F : FC := .seq c3E FC.ret
def c3G : FC := .seq c3D c3F
def c3H : FC := .seq c3C c3G
def c3I : FC := .reg [⟨(some 246), none, .op (.bin .none .eql (.t 53) (.v (.int .u8 13)))⟩,  ⟨(some 245), none, .op (.mv (.t 246))⟩] []
def c3J : FC := .reg [⟨(some 247), none, .op (.mv (.t 2))⟩,  ⟨(some 248), none, .op (.mv (.t 2))⟩,  ⟨(some 249), none, .op (.nchk (.t 248))⟩,  ⟨(some 250), none, .op (.fad 5 (.t 249))⟩,  ⟨(some 251), none, .op (.load none (.t 250))⟩,  ⟨(some 252), none, .op (.fad 6 (.t 3))⟩,  ⟨(some 253), none, .op (.load none (.t 252))⟩,  ⟨(some 254), none, .op (.mv (.t 0))⟩,  ⟨(some 255), none, .op (.load (some 12) (.t 3))⟩,  ⟨(some 256), none, .call 24 [(.t 254), (.t 255)]⟩,  ⟨(some 257), none, .op (.build [(.int .i64 0), .nils] [(0, 1, (.t 253)), (1, 1, (.t 256))])⟩,  ⟨(some 258), none, .op (.bsl (some 2) [(.int .i64 0), .nils] 1 [(0, 2, (.t 257))])⟩,  ⟨(some 259), none, .op (.app (some 2) 32 (.t 251) (.t 258))⟩,  ⟨(some 260), none, .op (.nchk (.t 247))⟩,  ⟨(some 261), none, .op (.fad 5 (.t 260))⟩,  ⟨none, none, .op (.store 1 (.t 261) (.t 259))⟩] [(4, 9), (6, 9), (4, 11)]
def c3K : FC := .reg [⟨(some 262), none, .op (.mv (.t 0))⟩,  ⟨(some 263), none, .call 26 [(.t 262)]⟩,  ⟨(some 9), none, .op (.mv (.t 263))⟩] []
def c3L : FC := .reg [⟨(some 264), none, .op (.mv (.t 9))⟩,  ⟨(some 265), none, .op (.mv (.t 0))⟩,  ⟨(some 266), none, .op (.nchk (.t 265))⟩,  ⟨(some 267), none, .op (.fad 11 (.t 266))⟩,  ⟨(some 268), none, .op (.load none (.t 267))⟩,  ⟨(some 269), none, .op (.bin .none .gtr (.t 264) (.t 268))⟩] []
def c3M : FC := .reg [⟨(some 270), none, .op (.mv (.t 0))⟩,  ⟨(some 271), none, .op (.mv (.t 9))⟩,  ⟨(some 272), none, .op (.nchk (.t 270))⟩,  ⟨(some 273), none, .op (.fad 11 (.t 272))⟩,  ⟨none, none, .op (.store 1 (.t 273) (.t 271))⟩] []
def c3N : FC := .cond (.t 269) c3M FC.skip
def c3O : FC := .seq c3L c3N
def c3P : FC := .seq c3K c3O
def c3Q : FC := .seq c3J c3P
def c3R : FC := .reg [⟨(some 275), none, .op (.bin .none .eql (.t 53) (.v (.int .u8 14)))⟩,  ⟨(some 274), none, .op (.mv (.t 275))⟩] []
def c3S : FC := .reg [⟨(some 276), none, .op (.mv (.t 0))⟩,  ⟨(some 277), none, .op (.mv (.t 0))⟩,  ⟨(some 278), none, .op (.fad 4 (.t 3))⟩,  ⟨(some 279), none, .op (.load none (.t 278))⟩,  ⟨(some 280), none, .call 20 [(.t 277), (.t 279)]⟩,  ⟨(some 281), none, .call 22 [(.t 276), (.t 280)]⟩] []
def c3T : FC := .seq c3S FC.ret
def c3U : FC := .reg [⟨(some 283), none, .op (.bin .none .eql (.t 53) (.v (.int .u8 15)))⟩,  ⟨(some 282), none, .op (.mv (.t 283))⟩] []
def c3V : FC := .reg [⟨(some 10), none, .op (.mv (.v (.int .u64 0)))⟩,  ⟨(some 11), none, .op (.mv (.v (.int .u64 0)))⟩] []
def c3W : FC := .reg [⟨(some 284), none, .op (.mv (.t 0))⟩,  ⟨(some 285), none, .op (.nchk (.t 284))⟩,  ⟨(some 286), none, .op (.fad 4 (.t 285))⟩,  ⟨(some 287), none, .op (.load none (.t 286))⟩,  ⟨(some 288), none, .op (.len .sl (.t 287))⟩,  ⟨(some 289), none, .op (.bin .none .sub (.t 288) (.v (.int .i64 1)))⟩,  ⟨(some 12), none, .op (.mv (.t 289))⟩] []
def c3X : FC := .reg [⟨(some 290), none, .op (.mv (.t 2))⟩,  ⟨(some 291), none, .op (.nchk (.t 290))⟩,  ⟨(some 292), none, .op (.fad 2 (.t 291))⟩,  ⟨(some 293), none, .op (.load none (.t 292))⟩,  ⟨(some 294), none, .op (.bin .none .eql (.t 293) (.v (.int .i64 2)))⟩,  ⟨(some 295), none, .op (.mv (.t 294))⟩,  ⟨(some 296), some (295, true), .op (.mv (.t 0))⟩,  ⟨(some 297), some (295, true), .op (.nchk (.t 296))⟩,  ⟨(some 298), some (295, true), .op (.fad 4 (.t 297))⟩,  ⟨(some 299), some (295, true), .op (.load none (.t 298))⟩,  ⟨(some 300), some (295, true), .op (.mv (.t 12))⟩,  ⟨(some 301), some (295, true), .op (.iad none (some 2) (.t 299) (.t 300))⟩,  ⟨(some 302), some (295, true), .op (.fad 1 (.t 301))⟩,  ⟨(some 303), some (295, true), .op (.load none (.t 302))⟩,  ⟨(some 304), some (295, true), .op (.un .not (.t 303))⟩,  ⟨(some 305), none, .op (.pick (.t 295) (.t 304) (.v (.bool false)))⟩] []
def c3Y : FC := .reg [⟨(some 306), none, .op (.mv (.t 0))⟩,  ⟨(some 307), none, .op (.nchk (.t 306))⟩,  ⟨(some 308), none, .op (.fad 4 (.t 307))⟩,  ⟨(some 309), none, .op (.load none (.t 308))⟩,  ⟨(some 310), none, .op (.mv (.t 12))⟩,  ⟨(some 311), none, .op (.iad none (some 2) (.t 309) (.t 310))⟩,  ⟨(some 312), none, .op (.fad 1 (.t 311))⟩,  ⟨none, none, .op (.store 1 (.t 312) (.v (.bool true)))⟩] []
def c3Z : FC := .reg [⟨(some 313), none, .op (.mv (.t 0))⟩,  ⟨(some 314), none, .op (.nchk (.t 313))⟩,  ⟨(some 315), none, .op (.fad 4 (.t 314))⟩,  ⟨(some 316), none, .op (.load none (.t 315))⟩,  ⟨(some 317), none, .op (.mv (.t 12))⟩,  ⟨(some 318), none, .op (.iad none (some 2) (.t 316) (.t 317))⟩,  ⟨(some 319), none, .op (.fad 0 (.t 318))⟩,  ⟨(some 320), none, .op (.load none (.t 319))⟩,  ⟨(some 10), none, .op (.mv (.t 320))⟩,  ⟨(some 11), none, .op (.mv (.v (.int .u64 1)))⟩] []
def c4a : FC := .seq c3Y c3Z
def c4b : FC := .cond (.t 305) c4a FC.skip
def c4c : FC := .seq c3X c4b
def c4d : FC := .reg [⟨(some 321), none, .op (.mv (.t 0))⟩,  ⟨(some 322), none, .op (.fad 2 (.t 3))⟩,  ⟨(some 323), none, .op (.load none (.t 322))⟩,  ⟨(some 324), none, .op (.mv (.t 10))⟩,  ⟨(some 325), none, .call 19 [(.t 321), (.t 323), (.t 324)]⟩] []
def c4e : FC := .reg [⟨(some 326), none, .op (.mv (.t 0))⟩,  ⟨(some 327), none, .op (.fad 3 (.t 3))⟩,  ⟨(some 328), none, .op (.load none (.t 327))⟩,  ⟨(some 329), none, .op (.mv (.t 11))⟩,  ⟨(some 330), none, .call 19 [(.t 326), (.t 328), (.t 329)]⟩] []
def c4f : FC := .seq c4d c4e
def c4g : FC := .seq c4c c4f
def c4h : FC := .seq c3W c4g
def c4i : FC := .seq c3V c4h
def c4j : FC := .reg [⟨(some 332), none, .op (.bin .none .eql (.t 53) (.v (.int .u8 16)))⟩,  ⟨(some 331), none, .op (.mv (.t 332))⟩] []
def c4k : FC := .reg [⟨(some 13), none, .op (.mv (.v (.int .u64 0)))⟩] []
def c4l : FC := .reg [⟨(some 333), none, .op (.mv (.t 0))⟩,  ⟨(some 334), none, .op (.nchk (.t 333))⟩,  ⟨(some 335), none, .op (.fad 5 (.t 334))⟩,  ⟨(some 336), none, .op (.load none (.t 335))⟩,  ⟨(some 337), none, .op (.len .sl (.t 336))⟩,  ⟨(some 338), none, .op (.bin .none .gtr (.t 337) (.v (.int .i64 0)))⟩] []
def c4m : FC := .reg [⟨(some 339), none, .op (.mv (.t 0))⟩,  ⟨(some 340), none, .op (.nchk (.t 339))⟩,  ⟨(some 341), none, .op (.fad 5 (.t 340))⟩,  ⟨(some 342), none, .op (.load none (.t 341))⟩,  ⟨(some 343), none, .op (.iad none none (.t 342) (.v (.int .i64 0)))⟩,  ⟨(some 344), none, .op (.load none (.t 343))⟩,  ⟨(some 13), none, .op (.mv (.t 344))⟩] []
def c4n : FC := .reg [⟨(some 345), none, .op (.mv (.t 0))⟩,  ⟨(some 346), none, .op (.mv (.t 0))⟩,  ⟨(some 347), none, .op (.nchk (.t 346))⟩,  ⟨(some 348), none, .op (.fad 5 (.t 347))⟩,  ⟨(some 349), none, .op (.load none (.t 348))⟩,  ⟨(some 350), none, .op (.slc none (.t 349) (some (.v (.int .i64 1))) none none)⟩,  ⟨(some 351), none, .op (.nchk (.t 345))⟩,  ⟨(some 352), none, .op (.fad 5 (.t 351))⟩,  ⟨none, none, .op (.store 1 (.t 352) (.t 350))⟩] []
def c4o : FC := .seq c4m c4n
def c4p : FC := .cond (.t 338) c4o FC.skip
def c4q : FC := .seq c4l c4p
def c4r : FC := .reg [⟨(some 353), none, .op (.mv (.t 0))⟩,  ⟨(some 354), none, .op (.mv (.t 0))⟩,  ⟨(some 355), none, .op (.nchk (.t 354))⟩,  ⟨(some 356), none, .op (.fad 6 (.t 355))⟩,  ⟨(some 357), none, .op (.load none (.t 356))⟩,  ⟨(some 358), none, .op (.mv (.t 13))⟩,  ⟨(some 359), none, .op (.build [(.int .i64 0), (.int .u64 0)] [(0, 1, (.v (.int .i64 2))), (1, 1, (.t 358))])⟩,  ⟨(some 360), none, .op (.bsl (some 2) [(.int .i64 0), (.int .u64 0)] 1 [(0, 2, (.t 359))])⟩,  ⟨(some 361), none, .op (.app (some 2) 16 (.t 357) (.t 360))⟩,  ⟨(some 362), none, .op (.nchk (.t 353))⟩,  ⟨(some 363), none, .op (.fad 6 (.t 362))⟩,  ⟨none, none, .op (.store 1 (.t 363) (.t 361))⟩] []
def b8t : FC := .reg [⟨(some 364), none, .op (.mv (.t 0))⟩,  ⟨(some 365), none, .op (.fad 2 (.t 3))⟩,  ⟨(some 366), none, .op (.load none (.t 365))⟩,  ⟨(some 367), none, .op (.mv (.t 13))⟩,  ⟨(some 368), none, .call 19 [(.t 364), (.t 366), (.t 367)]⟩] []
def b8u : FC := .seq c4r b8t
def b8v : FC := .seq c4q b8u
def b8w : FC := .seq c4k b8v
def b8x : FC := .reg [⟨(some 370), none, .op (.bin .none .eql (.t 53) (.v (.int .u8 17)))⟩,  ⟨(some 369), none, .op (.mv (.t 370))⟩] []
def b8y : FC := .reg [⟨(some 371), none, .op (.mv (.t 0))⟩,  ⟨(some 372), none, .op (.mv (.t 0))⟩,  ⟨(some 373), none, .op (.nchk (.t 372))⟩,  ⟨(some 374), none, .op (.fad 6 (.t 373))⟩,  ⟨(some 375), none, .op (.load none (.t 374))⟩,  ⟨(some 376), none, .op (.mv (.t 0))⟩,  ⟨(some 377), none, .op (.fad 4 (.t 3))⟩,  ⟨(some 378), none, .op (.load none (.t 377))⟩,  ⟨(some 379), none, .call 20 [(.t 376), (.t 378)]⟩,  ⟨(some 380), none, .op (.build [(.int .i64 0), (.int .u64 0)] [(0, 1, (.v (.int .i64 1))), (1, 1, (.t 379))])⟩,  ⟨(some 381), none, .op (.bsl (some 2) [(.int .i64 0), (.int .u64 0)] 1 [(0, 2, (.t 380))])⟩,  ⟨(some 382), none, .op (.app (some 2) 16 (.t 375) (.t 381))⟩,  ⟨(some 383), none, .op (.nchk (.t 371))⟩,  ⟨(some 384), none, .op (.fad 6 (.t 383))⟩,  ⟨none, none, .op (.store 1 (.t 384) (.t 382))⟩] [(4, 8), (4, 10)]
def b8z : FC := .reg [⟨(some 54), none, .op (.mv (.t 0))⟩,  ⟨(some 55), none, .op (.mv (.t 0))⟩,  ⟨(some 56), none, .op (.fad 4 (.t 3))⟩,  ⟨(some 57), none, .op (.load none (.t 56))⟩,  ⟨(some 58), none, .call 20 [(.t 55), (.t 57)]⟩,  ⟨(some 59), none, .op (.build [(.int .i64 0), (.int .u64 0)] [(0, 1, (.v (.int .i64 1))), (1, 1, (.t 58))])⟩,  ⟨(some 60), none, .op (.nchk (.t 54))⟩,  ⟨(some 61), none, .op (.fad 7 (.t 60))⟩,  ⟨none, none, .op (.store 2 (.t 61) (.t 59))⟩] []
def b8A : FC := .seq b8z FC.ret
def b8B : FC := .cond (.t 369) b8y b8A
def b8C : FC := .seq b8x b8B
def b8D : FC := .cond (.t 331) b8w b8C
def b8E : FC := .seq c4j b8D
def b8F : FC := .cond (.t 282) c4i b8E
def b8G : FC := .seq c3U b8F
def b8H : FC := .cond (.t 274) c3T b8G
def b8I : FC := .seq c3R b8H
def b8J : FC := .cond (.t 245) c3Q b8I
def b8K : FC := .seq c3I b8J
def b8L : FC := .cond (.t 228) c3H b8K
def b8M : FC := .seq c3y b8L
def b8N : FC := .cond (.t 210) c3x b8M
def b8O : FC := .seq c3t b8N
def b8P : FC := .cond (.t 208) FC.skip b8O
def b8Q : FC := .seq c3s b8P
def b8R : FC := .cond (.t 199) c3r b8Q
def b8S : FC := .seq c3n b8R
def b8T : FC := .cond (.t 151) c3m b8S
def b8U : FC := .seq c2Z b8T
def b8V : FC := .cond (.t 132) c2V b8U
def b8W : FC := .seq c2U b8V
def b8X : FC := .cond (.t 119) c2T b8W
def b8Y : FC := .seq c2S b8X
def b8Z : FC := .cond (.t 105) c2R b8Y
def b9a : FC := .seq c2Q b8Z
def b9b : FC := .cond (.t 80) c2P b9a
def b9c : FC := .seq c2G b9b
def b9d : FC := .cond (.t 70) c6J b9c
def b9e : FC := .seq c6I b9d
def b9f : FC := .cond (.t 62) c6H b9e
def b4y : FC := .seq c6G b9f
def b9g : FC := .block 0 b4y
def b9h : FC := .seq c6F b9g
def b0H : FC := .reg [⟨(some 385), none, .op (.mv (.t 0))⟩,  ⟨(some 386), none, .op (.nchk (.t 385))⟩,  ⟨(some 387), none, .op (.fad 3 (.t 386))⟩,  ⟨(some 388), none, .op (.load none (.t 387))⟩,  ⟨(some 389), none, .op (.mv (.t 0))⟩,  ⟨(some 390), none, .op (.nchk (.t 389))⟩,  ⟨(some 391), none, .op (.fad 3 (.t 390))⟩,  ⟨(some 392), none, .op (.load none (.t 391))⟩,  ⟨(some 393), none, .op (.len .sl (.t 392))⟩,  ⟨(some 394), none, .op (.bin .none .sub (.t 393) (.v (.int .i64 1)))⟩,  ⟨(some 395), none, .op (.mv (.t 4))⟩,  ⟨(some 396), none, .op (.iad none (some 9) (.t 388) (.t 394))⟩,  ⟨(some 397), none, .op (.fad 1 (.t 396))⟩,  ⟨none, none, .op (.store 1 (.t 397) (.t 395))⟩] []
def b9i : FC := .seq b9h b0H
def b9j : FC := .seq c6E b9i
def b9k : FC := .seq c6D b9j
def b9l : FC := .seq c6C b9k
def b9m : FC := .seq c6B b9l
def c9k : FC := b9m
theorem a6r : Fn3 Tryd.prog 10 398 [] c9k := ⟨_, _, Tryd.func10, rfl, rfl, rfl, by kernel_rfl⟩

section
variable {gs : List b5} {o : O8} {s : S8} {z : Q8} {r : List Q8} {rj pj : List AV}
theorem u7 {g : b5} {n : f6} {R : List It} {S : List Ob} {K : Post} (hg : m0 gs z.f = some g) (hi : m0 g.Nodes z.pc = some n) (hst : 0 <= s.steps /\ s.steps < 4611686018427387904) (hn : r.length < 100000000) (hS : Ab.Sep S (L8 gs o s (z :: r) rj pj ++ R))
  (h : ∀ oi S', Ab.Sep S' (L8 gs o { s with steps := s.steps + 1 } (z :: r) rj pj ++ ((oi, 0, n.cells) :: R)) -> VT Tryd.prog S [3] b4y [(53, .int .u8 n.Op), (4, .int .i64 n.Next), (0, .ptr o.r 0 0), (2, .ptr o.ro o.rv (0 + r.length * g6 (some 9))), (3, .ptr oi 0 0)] S' (Post.blk 0 (Post.thn (fun fr' S' => ∃ F T, Wk S fr' S' F T /\ VT Tryd.prog S [3] b0H F T K) K))) :
  VT Tryd.prog S [3] c9k (a3Y 0 [.ptr o.r 0 0]) S K := by
 refine d9 ?_
 refine b8 ?_
 refine aS ?_
 refine f7 hS rfl (.head _) (v := .int .i64 s.steps) rfl ?_
 refine aS ?_
 refine E_stS hS rfl (xv := .int .i64 (s.steps + 1)) (by show AV.int .i64 (IntKind.i64.wrap (s.steps + 1)) = _; rw [a2c zO]) Rp.here rfl rfl zqV (fun S hS => ?_)
 have hS0 : Ab.Sep S (L8 gs o { s with steps := s.steps + 1 } (z :: r) rj pj ++ R) := hS
 clear hS
 refine aU ?_
 refine f7 hS0 rfl (.head _) (v := .ref o.ro o.rv 0 (r.length + 1) (some 9)) rfl ?_
 refine aU ?_
 refine f7 hS0 rfl (.head _) (v := .ref o.ro o.rv 0 (r.length + 1) (some 9)) rfl ?_
 refine aU ?_
 refine a0e rfl rfl r.length (a2m zO) zO ?_
 refine aU ?_
 refine a1D ?_
 refine aS ?_
 refine f7 hS0 rfl (.head _) (v := .sl false 8 (List.map b5.av gs)) rfl ?_
 refine aU ?_
 refine f7 hS0 rfl (.tail _ (.head _)) (v := .int .i64 z.f) (by rw [u0]; exact vT (y9 r) rfl) ?_
 refine aU ?_
 refine j6 (esh := some 8) (f := b5.av) (ys := gs) (y := g) rfl rfl hg ?_
 refine aU ?_
 refine f7 hS0 rfl (.tail _ (.head _)) (v := .int .i64 z.pc) (by rw [u0]; exact vT (y9 r) rfl) ?_
 refine aU ?_
 refine j6 (esh := some 12) (f := f6.av) (ys := g.Nodes) (y := n) rfl rfl hi ?_
 refine aU ?_
 refine b0r hS0 rfl (fun oi S hS => ?_)
 have hgr : o.r ≠ oi := fun e => (List.nodup_cons.1 hS.2).1 (by rw [<- e]; exact List.mem_map.2 ⟨_, .head _, rfl⟩)
 have hgo : o.ro ≠ oi := fun e => (List.nodup_cons.1 hS.2).1 (by rw [<- e]; exact List.mem_map.2 ⟨_, .tail _ (.head _), rfl⟩)
 refine E_stS hS rfl (xv := n.av) rfl Rp.here rfl rfl zqV (fun S hS => ?_)
 refine b6 ?_
 refine And.intro (by simp [a1i, a5b, a0y, a1R, hgr, hgo, Ne.symm hgr, Ne.symm hgo]) ?_
 refine aU ?_
 refine f7 hS rfl (.head _) (v := .int .i64 n.Next) rfl ?_
 refine aU ?_
 refine f7 hS rfl (.head _) (v := .int .u8 n.Op) rfl ?_
 refine b6 ?_
 refine a1q (F := [(53, .int .u8 n.Op), (4, .int .i64 n.Next), (0, .ptr o.r 0 0), (2, .ptr o.ro o.rv (0 + r.length * g6 (some 9))), (3, .ptr oi 0 0)]) wF ?_
 exact d9 (z6 (h oi S (Sep.perm (L := (oi, 0, n.cells) :: (L8 gs o { s with steps := s.steps + 1 } (z :: r) rj pj ++ R)) hS List.perm_middle.symm)))
theorem a3C {nx : Int} {R : List It} {S0 S : List Ob} {K : Post} (hn : r.length < 100000000) (hS : Ab.Sep S (L8 gs o s (z :: r) rj pj ++ R)) (h : ∀ fr' S', Ab.Sep S' (L8 gs o s ({ z with pc := nx } :: r) rj pj ++ R) -> K .normal fr' S') :
  VT Tryd.prog S0 [3] b0H [(0, .ptr o.r 0 0), (4, .int .i64 nx)] S K := by
 refine b8 ?_
 refine aS ?_
 refine f7 hS rfl (.head _) (v := .ref o.ro o.rv 0 (r.length + 1) (some 9)) rfl ?_
 refine aS ?_
 refine f7 hS rfl (.head _) (v := .ref o.ro o.rv 0 (r.length + 1) (some 9)) rfl ?_
 refine aS ?_
 refine a0e rfl rfl r.length (a2m zO) zO ?_
 refine aS ?_
 refine E_stS hS rfl (xv := .int .i64 nx) rfl (a4M (z' := { z with pc := nx }) zO rfl rfl rfl) rfl rfl (a2J zO) (fun S hS => ?_)
 exact b6 (h _ _ hS)
def At8 (gs : List b5) (r0 : Nat) (t : S8 × List F8) (L : List It) : Prop := ∃ (o : O8) (rows : List Q8) (rj pj : List AV), o.r = r0 /\ ab8 rows = t.2 /\ L = L8 gs o t.1 rows rj pj
theorem a2a {a : It} {A R : List It} {S : List Ob} (h : Ab.Sep S (A ++ (a :: R))) : Ab.Sep S (A ++ R) := h.sub (List.Sublist.append_left (List.sublist_cons_self _ _) _)
structure B8 (s : S8) (r : List Q8) : Prop where
 st : 0 <= s.steps /\ s.steps < 4611686018427387904
 n : r.length < 9999998
end
end Go.Proofs.YtipeiholgieclaaDoor

/- ref8's Step, operation by operation (printed by mkF7.py). -/
namespace Go.Proofs.YtipeiholgieclaaDoor
open Go Go.Ab
set_option maxRecDepth 20000
set_option maxHeartbeats 2000000
def b2D (gs : List b5) (s : S8) (rows : List F8) (v : Int) : Option (S8 × List F8) := (a7b gs rows (⟨v, false⟩ :: s.pans)).map fun u =>
 ({ s with pans := u.2.2, panics := max s.panics ((s.pans.length : Int) + 1), ek := if u.1.isSome then 2 else s.ek, ev := u.1.getD s.ev, depth := if u.1.isSome then s.depth else max s.depth (u.2.1.length : Int) }, u.2.1)
def pt8 (n : Nat) (k : Int) : Int := IntKind.u64.wrap (IntKind.u64.wrap (4611686018427387904 + IntKind.u64.wrap (IntKind.u64.wrap (IntKind.i64.wrap ((n : Int) - 1)) * 65536)) + IntKind.u64.wrap k)
def c4s (op : Int) : Prop := (op == 1) = false /\ (op == 2) = false /\ (op == 3) = false /\ (op == 4) = false /\ (op == 5) = false /\ (op == 6) = false /\ (op == 7) = false /\ (op == 8) = false /\ (op == 9) = false /\ (op == 10) = false /\ (op == 11) = false /\ (op == 12) = false /\ (op == 13) = false /\ (op == 14) = false /\ (op == 15) = false /\ (op == 16) = false /\ (op == 17) = false
section
variable {gs : List b5} {o : O8} {s : S8} {z : Q8} {r : List Q8} {rj pj : List AV}
theorem c6K {g : b5} {n : f6} {z1 : F8} (B : B8 s r) (hg : m0 gs z.f = some g) (hi : m0 g.Nodes z.pc = some n) (hop : n.Op = 1) (hs : z.toF8.set n.D n.Imm = some z1) :
  Tri Tryd.prog 10 [.ptr o.r 0 0] (L8 gs o s (z :: r) rj pj) (fun _ L' => At8 gs o.r ({ s with steps := s.steps + 1 }, { z1 with pc := n.Next } :: ab8 r) L') := by
 have hn := B.n
 refine x4 mixed a6r zS [3] (fun R S hS => u7 hg hi B.st zO hS (fun oi S hS => ?_))
 rw [hop]
 (repeat refine a0k rfl rfl ?_)
 refine a3v rfl rfl ?_
 refine aU ?_
 refine f7 hS rfl (List.mem_append_right _ (.head _)) (v := .int .i64 n.D) rfl ?_
 refine aU ?_
 refine f7 hS rfl (List.mem_append_right _ (.head _)) (v := .int .u64 n.Imm) rfl ?_
 refine aU ?_
 refine a3l (a0J (z := z) (s := { s with steps := s.steps + 1 }) hs zO) hS rfl (.refl _) (fun x S L' hL hS => ?_)
 obtain ⟨l, hl, rfl⟩ := hL
 refine aU ?_
 refine aE ?_
 refine a1q (F := [(0, .ptr o.r 0 0), (4, .int .i64 n.Next)]) wF ?_
 refine a3C (o := o) (z := { z with lo := l }) zO hS (fun fr' S hS => ?_)
 exact ⟨trivial, _, rfl, _, ⟨o, _, _, _, rfl, (by rw [<- hl]; rfl), rfl⟩, a2a hS⟩
theorem c6L {g : b5} {n : f6} {z1 : F8} {v : Int} (B : B8 s r) (hg : m0 gs z.f = some g) (hi : m0 g.Nodes z.pc = some n) (hop : n.Op = 2) (hv : z.toF8.get n.A = some v) (hs : z.toF8.set n.D v = some z1) :
  Tri Tryd.prog 10 [.ptr o.r 0 0] (L8 gs o s (z :: r) rj pj) (fun _ L' => At8 gs o.r ({ s with steps := s.steps + 1 }, { z1 with pc := n.Next } :: ab8 r) L') := by
 have hn := B.n
 refine x4 mixed a6r zS [3] (fun R S hS => u7 hg hi B.st zO hS (fun oi S hS => ?_))
 rw [hop]
 (repeat refine a0k rfl rfl ?_)
 refine a3v rfl rfl ?_
 refine a1D ?_
 refine aU ?_
 refine f7 hS rfl (List.mem_append_right _ (.head _)) (v := .int .i64 n.D) rfl ?_
 refine aU ?_
 refine f7 hS rfl (List.mem_append_right _ (.head _)) (v := .int .i64 n.A) rfl ?_
 refine aU ?_
 refine a7l (a0G (z := z) (s := { s with steps := s.steps + 1 }) hv zO) hS rfl (.refl _) ?_
 refine aU ?_
 refine a3l (a0J (z := z) (s := { s with steps := s.steps + 1 }) hs zO) hS rfl (.refl _) (fun x S L' hL hS => ?_)
 obtain ⟨l, hl, rfl⟩ := hL
 refine aU ?_
 refine And.intro (by simp [a1i, a5b, a0y, a1R]) ?_
 refine aE ?_
 refine a1q (F := [(0, .ptr o.r 0 0), (4, .int .i64 n.Next)]) wF ?_
 refine a3C (o := o) (z := { z with lo := l }) zO hS (fun fr' S hS => ?_)
 exact ⟨trivial, _, rfl, _, ⟨o, _, _, _, rfl, (by rw [<- hl]; rfl), rfl⟩, a2a hS⟩
theorem c6M {g : b5} {n : f6} {z1 : F8} {a b v : Int} {fuel : Nat} (B : B8 s r) (hg : m0 gs z.f = some g) (hi : m0 g.Nodes z.pc = some n) (hop : n.Op = 3) (ha : z.toF8.get n.A = some a) (hb : z.toF8.get n.B = some b) (hv : m7 fuel n.By a b = some (v, 0)) (hs : z.toF8.set n.D v = some z1) :
  Tri Tryd.prog 10 [.ptr o.r 0 0] (L8 gs o s (z :: r) rj pj) (fun _ L' => At8 gs o.r ({ s with steps := s.steps + 1 }, { z1 with pc := n.Next } :: ab8 r) L') := by
 have hn := B.n
 refine x4 mixed a6r zS [3] (fun R S hS => u7 hg hi B.st zO hS (fun oi S hS => ?_))
 rw [hop]
 (repeat refine a0k rfl rfl ?_)
 refine a3v rfl rfl ?_
 refine d9 ?_
 refine a1D ?_
 refine aU ?_
 refine f7 hS rfl (List.mem_append_right _ (.head _)) (v := .int .u8 n.By) rfl ?_
 refine aU ?_
 refine f7 hS rfl (List.mem_append_right _ (.head _)) (v := .int .i64 n.A) rfl ?_
 refine aU ?_
 refine a7l (a0G (z := z) (s := { s with steps := s.steps + 1 }) ha zO) hS rfl (.refl _) ?_
 refine aU ?_
 refine f7 hS rfl (List.mem_append_right _ (.head _)) (v := .int .i64 n.B) rfl ?_
 refine aU ?_
 refine a7l (a0G (z := z) (s := { s with steps := s.steps + 1 }) hb zO) hS rfl (.refl _) ?_
 refine aU ?_
 refine a4b (a2I hv) rfl rfl rfl ?_
 refine aU ?_
 refine And.intro (by simp [a1i, a5b, a0y, a1R]) ?_
 refine aU ?_
 refine E_cs (t := false) rfl (fun h => by cases h) (fun _ => ?_)
 refine aU ?_
 refine f7 hS rfl (List.mem_append_right _ (.head _)) (v := .int .i64 n.D) rfl ?_
 refine aU ?_
 refine a3l (a0J (z := z) (s := { s with steps := s.steps + 1 }) hs zO) hS rfl (.refl _) (fun x S L' hL hS => ?_)
 obtain ⟨l, hl, rfl⟩ := hL
 refine aU ?_
 refine aE ?_
 refine a1q (F := [(0, .ptr o.r 0 0), (4, .int .i64 n.Next)]) wF ?_
 refine a3C (o := o) (z := { z with lo := l }) zO hS (fun fr' S hS => ?_)
 exact ⟨trivial, _, rfl, _, ⟨o, _, _, _, rfl, (by rw [<- hl]; rfl), rfl⟩, a2a hS⟩
theorem c4t {g : b5} {n : f6} {a b v e : Int} {fuel : Nat} {t : S8 × List F8} (B : B8 s r) (hg : m0 gs z.f = some g) (hi : m0 g.Nodes z.pc = some n) (hop : n.Op = 3) (ha : z.toF8.get n.A = some a) (hb : z.toF8.get n.B = some b) (hv : m7 fuel n.By a b = some (v, e)) (he : e ≠ 0) (hok : ∀ g ∈ gs, okG g) (hp : s.pans.length < 9999999) (hd : 0 <= s.depth /\ s.depth < 1000000000) (hw : ∀ y ∈ z :: r, y.wa.length < 100000000) (hp8 : b2D gs { s with steps := s.steps + 1 } (z.toF8 :: ab8 r) 18446744073709551615 = some t) :
  Tri Tryd.prog 10 [.ptr o.r 0 0] (L8 gs o s (z :: r) rj pj) (fun _ L' => At8 gs o.r t L') := by
 have hn := B.n
 refine x4 mixed a6r zS [3] (fun R S hS => u7 hg hi B.st zO hS (fun oi S hS => ?_))
 rw [hop]
 (repeat refine a0k rfl rfl ?_)
 obtain ⟨u, hu, rfl⟩ := Option.map_eq_some_iff.1 hp8
 refine a3v rfl rfl ?_
 refine d9 ?_
 refine a1D ?_
 refine aU ?_
 refine f7 hS rfl (List.mem_append_right _ (.head _)) (v := .int .u8 n.By) rfl ?_
 refine aU ?_
 refine f7 hS rfl (List.mem_append_right _ (.head _)) (v := .int .i64 n.A) rfl ?_
 refine aU ?_
 refine a7l (a0G (z := z) (s := { s with steps := s.steps + 1 }) ha zO) hS rfl (.refl _) ?_
 refine aU ?_
 refine f7 hS rfl (List.mem_append_right _ (.head _)) (v := .int .i64 n.B) rfl ?_
 refine aU ?_
 refine a7l (a0G (z := z) (s := { s with steps := s.steps + 1 }) hb zO) hS rfl (.refl _) ?_
 refine aU ?_
 refine a4b (a2I hv) rfl rfl rfl ?_
 refine aU ?_
 refine And.intro (by simp [a1i, a5b, a0y, a1R]) ?_
 refine aU ?_
 refine E_cs (t := true) (by show AV.bool (e != 0) = _; simp [he]) (fun _ => ?_) (fun h => by cases h)
 refine aU ?_
 refine a3l (a5s (rows := z :: r) (s := { s with steps := s.steps + 1 }) (v := 18446744073709551615) (ps' := u.2.2) (en := u.1) (A' := u.2.1) hu hok zE hp hd hw) hS rfl (.refl _) (fun x S L' hL hS => ?_)
 refine aU ?_
 refine g8 ?_
 refine aE ?_
 obtain ⟨rv, lv, rows', rj', pj', h7, rfl⟩ := hL
 exact ⟨trivial, _, rfl, _, ⟨{ o with rv := rv, lv := lv }, rows', rj', pj', rfl, h7, rfl⟩, a2a hS⟩
theorem c6N {g : b5} {n : f6} {z1 : F8} {v : Int} (B : B8 s r) (hg : m0 gs z.f = some g) (hi : m0 g.Nodes z.pc = some n) (hop : n.Op = 4) (hv : m0 z.ce n.Cell = some v) (hs : z.toF8.set n.D v = some z1) :
  Tri Tryd.prog 10 [.ptr o.r 0 0] (L8 gs o s (z :: r) rj pj) (fun _ L' => At8 gs o.r ({ s with steps := s.steps + 1 }, { z1 with pc := n.Next } :: ab8 r) L') := by
 have hn := B.n
 refine x4 mixed a6r zS [3] (fun R S hS => u7 hg hi B.st zO hS (fun oi S hS => ?_))
 rw [hop]
 (repeat refine a0k rfl rfl ?_)
 obtain ⟨h1, h2, h3⟩ := i8 hv
 refine a3v rfl rfl ?_
 refine aU ?_
 refine f7 hS rfl (List.mem_append_right _ (.head _)) (v := .int .i64 n.D) rfl ?_
 refine aU ?_
 refine f7 hS rfl (.tail _ (.head _)) (v := .ref z.cl 0 0 z.ce.length none) (by rw [u0]; exact vT (y9 r) rfl) ?_
 refine aU ?_
 refine f7 hS rfl (List.mem_append_right _ (.head _)) (v := .int .i64 n.Cell) rfl ?_
 refine aU ?_
 refine a0e rfl rfl n.Cell.toNat zO zO ?_
 refine b1s hS (j3 .u64) rfl b6W (n := n.Cell.toNat) (fo := 0) (y := v) (by simp [g6]) h3 (v := .int .u64 v) rfl ?_
 refine aU ?_
 refine a3l (a0J (z := z) (s := { s with steps := s.steps + 1 }) hs zO) hS rfl (.refl _) (fun x S L' hL hS => ?_)
 obtain ⟨l, hl, rfl⟩ := hL
 refine aU ?_
 refine aE ?_
 refine a1q (F := [(0, .ptr o.r 0 0), (4, .int .i64 n.Next)]) wF ?_
 refine a3C (o := o) (z := { z with lo := l }) zO hS (fun fr' S hS => ?_)
 exact ⟨trivial, _, rfl, _, ⟨o, _, _, _, rfl, (by rw [<- hl]; rfl), rfl⟩, a2a hS⟩
theorem c6O {g : b5} {n : f6} {v w : Int} (B : B8 s r) (hg : m0 gs z.f = some g) (hi : m0 g.Nodes z.pc = some n) (hop : n.Op = 5) (hv : z.toF8.get n.A = some v) (hw : m0 z.ce n.Cell = some w) :
  Tri Tryd.prog 10 [.ptr o.r 0 0] (L8 gs o s (z :: r) rj pj) (fun _ L' => At8 gs o.r ({ s with steps := s.steps + 1 }, { z.toF8 with ce := z.ce.set n.Cell.toNat v, pc := n.Next } :: ab8 r) L') := by
 have hn := B.n
 refine x4 mixed a6r zS [3] (fun R S hS => u7 hg hi B.st zO hS (fun oi S hS => ?_))
 rw [hop]
 (repeat refine a0k rfl rfl ?_)
 obtain ⟨h1, h2, h3⟩ := i8 hw
 refine a3v rfl rfl ?_
 refine a1D ?_
 refine aU ?_
 refine f7 hS rfl (.tail _ (.head _)) (v := .ref z.cl 0 0 z.ce.length none) (by rw [u0]; exact vT (y9 r) rfl) ?_
 refine aU ?_
 refine f7 hS rfl (List.mem_append_right _ (.head _)) (v := .int .i64 n.Cell) rfl ?_
 refine aU ?_
 refine f7 hS rfl (List.mem_append_right _ (.head _)) (v := .int .i64 n.A) rfl ?_
 refine aU ?_
 refine a7l (a0G (z := z) (s := { s with steps := s.steps + 1 }) hv zO) hS rfl (.refl _) ?_
 refine aU ?_
 refine a0e rfl rfl n.Cell.toNat zO zO ?_
 refine a9o (y' := v) (l := z.ce) hS (j3 .u64) rfl (xv := .int .u64 v) rfl (n := n.Cell.toNat) (fo := 0) (y := w) (by simp [g6]) h3 c1u rfl rfl (by simp [g6]) rfl (fun S hS => ?_)
 refine aU ?_
 refine And.intro (by simp [a1i, a5b, a0y, a1R]) ?_
 refine aE ?_
 refine a1q (F := [(0, .ptr o.r 0 0), (4, .int .i64 n.Next)]) wF ?_
 refine a3C (o := o) (z := { z with ce := z.ce.set n.Cell.toNat v }) zO hS (fun fr' S hS => ?_)
 exact ⟨trivial, _, rfl, _, ⟨o, _, _, _, rfl, rfl, rfl⟩, a2a hS⟩
theorem c6P {g : b5} {n : f6} {z1 : F8} (B : B8 s r) (hg : m0 gs z.f = some g) (hi : m0 g.Nodes z.pc = some n) (hop : n.Op = 6) (hs : z.toF8.set n.D (pt8 (r.length + 1) n.Cell) = some z1) :
  Tri Tryd.prog 10 [.ptr o.r 0 0] (L8 gs o s (z :: r) rj pj) (fun _ L' => At8 gs o.r ({ s with steps := s.steps + 1 }, { z1 with pc := n.Next } :: ab8 r) L') := by
 have hn := B.n
 refine x4 mixed a6r zS [3] (fun R S hS => u7 hg hi B.st zO hS (fun oi S hS => ?_))
 rw [hop]
 (repeat refine a0k rfl rfl ?_)
 refine a3v rfl rfl ?_
 refine aU ?_
 refine f7 hS rfl (List.mem_append_right _ (.head _)) (v := .int .i64 n.D) rfl ?_
 refine aU ?_
 refine f7 hS rfl (.head _) (v := .ref o.ro o.rv 0 (r.length + 1) (some 9)) rfl ?_
 refine aU ?_
 refine f7 hS rfl (List.mem_append_right _ (.head _)) (v := .int .i64 n.Cell) rfl ?_
 refine aU ?_
 refine a3l (a0J (z := z) (s := { s with steps := s.steps + 1 }) hs zO) hS rfl (.refl _) (fun x S L' hL hS => ?_)
 obtain ⟨l, hl, rfl⟩ := hL
 refine aU ?_
 refine aE ?_
 refine a1q (F := [(0, .ptr o.r 0 0), (4, .int .i64 n.Next)]) wF ?_
 refine a3C (o := o) (z := { z with lo := l }) zO hS (fun fr' S hS => ?_)
 exact ⟨trivial, _, rfl, _, ⟨o, _, _, _, rfl, (by rw [<- hl]; rfl), rfl⟩, a2a hS⟩
theorem c4u {g : b5} {n : f6} (B : B8 s r) (hg : m0 gs z.f = some g) (hi : m0 g.Nodes z.pc = some n) (hop : n.Op = 10) :
  Tri Tryd.prog 10 [.ptr o.r 0 0] (L8 gs o s (z :: r) rj pj) (fun _ L' => At8 gs o.r ({ s with steps := s.steps + 1 }, { z.toF8 with pc := n.Next } :: ab8 r) L') := by
 have hn := B.n
 refine x4 mixed a6r zS [3] (fun R S hS => u7 hg hi B.st zO hS (fun oi S hS => ?_))
 rw [hop]
 (repeat refine a0k rfl rfl ?_)
 refine a4W rfl zD zD rfl rfl (fun h => by cases h) (fun _ => ?_)
 (repeat refine a0k rfl rfl ?_)
 refine a3v rfl rfl ?_
 refine aU ?_
 refine aE ?_
 refine a1q (F := [(0, .ptr o.r 0 0), (4, .int .i64 n.Next)]) wF ?_
 refine a3C (o := o) (z := z) zO hS (fun fr' S hS => ?_)
 exact ⟨trivial, _, rfl, _, ⟨o, _, _, _, rfl, rfl, rfl⟩, a2a hS⟩
theorem c6Q {g : b5} {n : f6} {v : Int} (B : B8 s r) (hg : m0 gs z.f = some g) (hi : m0 g.Nodes z.pc = some n) (hop : n.Op = 9) (hv : z.toF8.get n.A = some v) :
  Tri Tryd.prog 10 [.ptr o.r 0 0] (L8 gs o s (z :: r) rj pj) (fun _ L' => At8 gs o.r ({ s with steps := s.steps + 1 }, { z.toF8 with pc := if v = 0 then n.Else else n.Next } :: ab8 r) L') := by
 have hn := B.n
 refine x4 mixed a6r zS [3] (fun R S hS => u7 hg hi B.st zO hS (fun oi S hS => ?_))
 rw [hop]
 (repeat refine a0k rfl rfl ?_)
 refine a4W rfl zD zD rfl rfl (fun h => by cases h) (fun _ => ?_)
 (repeat refine a0k rfl rfl ?_)
 refine a3v rfl rfl ?_
 refine aU ?_
 refine f7 hS rfl (List.mem_append_right _ (.head _)) (v := .int .i64 n.A) rfl ?_
 refine aU ?_
 refine a7l (a0G (z := z) (s := { s with steps := s.steps + 1 }) hv zO) hS rfl (.refl _) ?_
 refine aU ?_
 refine E_cs (t := v == 0) rfl (fun h => ?_) (fun h => ?_)
 ·rw [if_pos (show v = 0 by simpa using h)]
  refine aU ?_
  refine f7 hS rfl (List.mem_append_right _ (.head _)) (v := .int .i64 n.Else) rfl ?_
  refine aU ?_
  refine aE ?_
  refine a1q (F := [(0, .ptr o.r 0 0), (4, .int .i64 n.Else)]) wF ?_
  refine a3C (o := o) (z := z) zO hS (fun fr' S hS => ?_)
  exact ⟨trivial, _, rfl, _, ⟨o, _, _, _, rfl, rfl, rfl⟩, a2a hS⟩
 ·rw [if_neg (show ¬ v = 0 by simpa using h)]
  refine aU ?_
  refine aE ?_
  refine a1q (F := [(0, .ptr o.r 0 0), (4, .int .i64 n.Next)]) wF ?_
  refine a3C (o := o) (z := z) zO hS (fun fr' S hS => ?_)
  exact ⟨trivial, _, rfl, _, ⟨o, _, _, _, rfl, rfl, rfl⟩, a2a hS⟩
theorem c4v {g : b5} {n : f6} {v : Int} (B : B8 s r) (hg : m0 gs z.f = some g) (hi : m0 g.Nodes z.pc = some n) (hop : c4s n.Op) (hv : z.toF8.get n.A = some v) :
  Tri Tryd.prog 10 [.ptr o.r 0 0] (L8 gs o s (z :: r) rj pj) (fun _ L' => At8 gs o.r ({ s with steps := s.steps + 1, ek := 1, ev := v }, z.toF8 :: ab8 r) L') := by
 have hn := B.n
 refine x4 mixed a6r zS [3] (fun R S hS => u7 hg hi B.st zO hS (fun oi S hS => ?_))
 obtain ⟨o1, o2, o3, o4, o5, o6, o7, o8, o9, o10, o11, o12, o13, o14, o15, o16, o17⟩ := hop
 refine a0k rfl o1 (a0k rfl o2 (a0k rfl o3 (a0k rfl o4 (a0k rfl o5 (a0k rfl o6 (a4W rfl zD zD o7 o8 (fun h => by cases h) (fun _ => a0k rfl o9 (a0k rfl o10 (a0k rfl o11 (a0k rfl o12 (a0k rfl o13 (a0k rfl o14 (a0k rfl o15 (a0k rfl o16 (a0k rfl o17 ?_)))))))))))))))
 refine aU ?_
 refine f7 hS rfl (List.mem_append_right _ (.head _)) (v := .int .i64 n.A) rfl ?_
 refine aU ?_
 refine a7l (a0G (z := z) (s := { s with steps := s.steps + 1 }) hv zO) hS rfl (.refl _) ?_
 refine aU ?_
 refine E_stS hS rfl (xv := .agg [.int .i64 1, .int .u64 v]) rfl Rp.here rfl rfl zqV (fun S hS => ?_)
 refine aU ?_
 refine g8 ?_
 refine aE ?_
 exact ⟨trivial, _, rfl, _, ⟨o, z :: r, rj, pj, rfl, rfl, rfl⟩, a2a hS⟩
end
end Go.Proofs.YtipeiholgieclaaDoor

/- ref8's point: the walk. -/
namespace Go.Proofs.YtipeiholgieclaaDoor
open Go Go.Ab
set_option maxRecDepth 20000
set_option maxHeartbeats 2000000
noncomputable def d0Q : FC := fcO 23
theorem c9l : Fn3 Tryd.prog 23 43 [(4, none), (5, none)] d0Q := ⟨_, _, Tryd.func23, rfl, rfl, rfl, by kernel_rfl⟩

def a2K (rows : List F8) (p : Int) : Option (Nat × Nat × Int) := if 4611686018427387904 <= p /\ p < 4611967493404098560 then (rows.reverse[((p - 4611686018427387904) / 65536).toNat]?).bind fun y => (y.ce[(p % 65536).toNat]?).map fun w => (((p - 4611686018427387904) / 65536).toNat, (p % 65536).toNat, w) else none
theorem b1P {α β : Type} {f : α -> β} {g : α -> α} {h : β -> β} (e : ∀ x, f (g x) = h (f x)) : ∀ (l : List α) (j : Nat), (l.modify j g).map f = (l.map f).modify j h
 | [], 0 => rfl
 | [], _ + 1 => rfl
 | x :: l, 0 => by simp [List.modify_zero_cons, e]
 | x :: l, j + 1 => by simp [List.modify_succ_cons, b1P e l j]
theorem b6b {x : Int} (h : 0 <= x /\ x <= 18446744073709551615) : IntKind.u64.wrap x = x := by rw [IntKind.wrap_u64]; omega
section
variable {gs : List b5} {o : O8} {s : S8} {rows : List Q8} {rj pj : List AV} {p : Int}
theorem vM8 {J : List AV} {k : Nat} {x : AV} : ∀ {rows : List Q8} {a : Nat} {y : Q8}, rows.reverse[a]? = some y -> (c8 y)[k]? = some x -> a1y none (rC rows ++ J) (0 + a * g6 (some 9) + k) = some x := by
 intro rows
 induction rows generalizing J with
 | nil => intro a y h; simp at h
 | cons z r ih =>
   intro a y h hx
   rw [u0]
   rw [List.reverse_cons] at h
   by_cases ha : a < r.length
   ·rw [List.getElem?_append_left (by simpa using ha)] at h
    exact ih h hx
   ·have e : a = r.length := by
     have := (List.getElem?_eq_some_iff.1 h).1
     simp at this; omega
    subst e
    rw [List.getElem?_append_right zS] at h
    simp at h; subst h
    exact vT (y9 r) hx
theorem a7R {c} (h : a2K (ab8 rows) p = some c) (hn : rows.length < 100000000) : b6O Tryd.prog 23 [.ptr o.r 0 0, .int .u64 p] (L8 gs o s rows rj pj) (.tup [.int .i64 c.1, .int .i64 c.2.1]) := by
 unfold a2K at h
 split at h
 case isFalse => cases h
 rename_i hc
 obtain ⟨y, h1, h2⟩ := Option.bind_eq_some_iff.1 h
 obtain ⟨w, h3, rfl⟩ := Option.map_eq_some_iff.1 h2
 unfold ab8 at h1
 rw [<- List.map_reverse, List.getElem?_map] at h1
 obtain ⟨q, h4, rfl⟩ := Option.map_eq_some_iff.1 h1
 have hl := (List.getElem?_eq_some_iff.1 h4).1
 rw [List.length_reverse] at hl
 have hl2 := (List.getElem?_eq_some_iff.1 h3).1
 have e1 : IntKind.i64.wrap (IntKind.u64.wrap (Int.tdiv (IntKind.u64.wrap (p - 4611686018427387904)) 65536)) = (((p - 4611686018427387904) / 65536).toNat : Int) := by
  rw [b6b (x := p - 4611686018427387904) zO, Int.tdiv_eq_ediv_of_nonneg zO, b6b zO, a2c zO]; omega
 have e2 : IntKind.i64.wrap (Int.tmod p 65536) = ((p % 65536).toNat : Int) := by
  rw [Int.tmod_eq_emod_of_nonneg zO, a2c zO]; omega
 refine b0u mixed c9l zS [] (fun R S hS => ?_)
 refine aU ?_
 rw [show decide (p < 4611686018427387904) = false by simp; omega]
 refine aU ?_
 refine E_cs (t := false) (by show AV.bool (decide _) = _; simp; omega) (fun h => by cases h) (fun _ => ?_)
 refine aU ?_
 refine f7 hS rfl (.head _) (v := .ref o.ro o.rv 0 rows.length (some 9)) rfl ?_
 refine aU ?_
 rw [e1]
 rw [show decide ((((p - 4611686018427387904) / 65536).toNat : Int) >= (rows.length : Int)) = false by simp; omega]
 refine aU ?_
 refine f7 hS rfl (.head _) (v := .ref o.ro o.rv 0 rows.length (some 9)) rfl ?_
 refine aU ?_
 refine a0e rfl rfl ((p - 4611686018427387904) / 65536).toNat rfl hl ?_
 refine aU ?_
 refine f7 hS rfl (.tail _ (.head _)) (v := .ref q.cl 0 0 q.ce.length none) (vM8 h4 rfl) ?_
 refine aU ?_
 rw [e2]
 refine E_cs (t := false) (by show AV.bool (decide _) = _; simp; omega) (fun h => by cases h) (fun _ => ?_)
 refine aU ?_
 refine g8 ?_
 refine aE ?_
 exact ⟨trivial, _, rfl, rfl, rfl⟩
theorem a7S (hp : 0 <= p /\ p <= 18446744073709551615) (h : a2K (ab8 rows) p = none) (hn : rows.length < 100000000) : b6O Tryd.prog 23 [.ptr o.r 0 0, .int .u64 p] (L8 gs o s rows rj pj) (.tup [.int .i64 (-1), .int .i64 0]) := by
 refine b0u mixed c9l zS [] (fun R S hS => ?_)
 refine aU ?_
 by_cases h1 : p < 4611686018427387904
 ·rw [show decide (p < 4611686018427387904) = true by simp; omega]
  refine aU ?_
  refine E_cs (t := true) rfl (fun _ => ?_) (fun h => by cases h)
  refine aU ?_
  refine g8 ?_
  refine aE ?_
  exact ⟨trivial, _, rfl, rfl, rfl⟩
 rw [show decide (p < 4611686018427387904) = false by simp; omega]
 refine aU ?_
 by_cases h2 : p >= 4611967493404098560
 ·refine E_cs (t := true) (by show AV.bool (decide _) = _; simp; omega) (fun _ => ?_) (fun h => by cases h)
  refine aU ?_
  refine g8 ?_
  refine aE ?_
  exact ⟨trivial, _, rfl, rfl, rfl⟩
 refine E_cs (t := false) (by show AV.bool (decide _) = _; simp; omega) (fun h => by cases h) (fun _ => ?_)
 have e1 : IntKind.i64.wrap (IntKind.u64.wrap (Int.tdiv (IntKind.u64.wrap (p - 4611686018427387904)) 65536)) = (((p - 4611686018427387904) / 65536).toNat : Int) := by
  rw [b6b (x := p - 4611686018427387904) zO, Int.tdiv_eq_ediv_of_nonneg zO, b6b zO, a2c zO]; omega
 have e2 : IntKind.i64.wrap (Int.tmod p 65536) = ((p % 65536).toNat : Int) := by
  rw [Int.tmod_eq_emod_of_nonneg zO, a2c zO]; omega
 unfold a2K at h
 rw [if_pos zO] at h
 refine aU ?_
 refine f7 hS rfl (.head _) (v := .ref o.ro o.rv 0 rows.length (some 9)) rfl ?_
 refine aU ?_
 rw [e1]
 by_cases h3 : rows.length <= ((p - 4611686018427387904) / 65536).toNat
 ·rw [show decide ((((p - 4611686018427387904) / 65536).toNat : Int) >= (rows.length : Int)) = true by simp; omega]
  refine aU ?_
  refine E_cs (t := true) rfl (fun _ => ?_) (fun h => by cases h)
  refine aU ?_
  refine g8 ?_
  refine aE ?_
  exact ⟨trivial, _, rfl, rfl, rfl⟩
 rw [show decide ((((p - 4611686018427387904) / 65536).toNat : Int) >= (rows.length : Int)) = false by simp; omega]
 obtain ⟨q, hq⟩ : ∃ q, rows.reverse[((p - 4611686018427387904) / 65536).toNat]? = some q := ⟨_, List.getElem?_eq_getElem zE⟩
 have hce : q.ce.length <= (p % 65536).toNat := by
  unfold ab8 at h
  rw [<- List.map_reverse, List.getElem?_map, hq] at h
  simp only [Option.map_some, Option.bind_some, Option.map_eq_none_iff, List.getElem?_eq_none_iff] at h
  exact h
 refine aU ?_
 refine f7 hS rfl (.head _) (v := .ref o.ro o.rv 0 rows.length (some 9)) rfl ?_
 refine aU ?_
 refine a0e rfl rfl ((p - 4611686018427387904) / 65536).toNat rfl zO ?_
 refine aU ?_
 refine f7 hS rfl (.tail _ (.head _)) (v := .ref q.cl 0 0 q.ce.length none) (vM8 hq rfl) ?_
 refine aU ?_
 rw [e2]
 refine E_cs (t := true) (by show AV.bool (decide _) = _; simp; omega) (fun _ => ?_) (fun h => by cases h)
 refine aU ?_
 refine g8 ?_
 refine aE ?_
 exact ⟨trivial, _, rfl, rfl, rfl⟩
def b1Q (k : Nat) (v : Int) (y : Q8) : Q8 := { y with ce := y.ce.set k v }
def b0I (k : Nat) (v : Int) (y : F8) : F8 := { y with ce := y.ce.set k v }
def a4p (l : List F8) (i k : Nat) (v : Int) : List F8 := l.modify (l.length - 1 - i) (b0I k v)
theorem c4w {k : Nat} {v : Int} {y : Q8} : c8 (b1Q k v y) = c8 y := by
 show [AV.int .i64 y.f, .int .i64 y.pc, .int .i64 y.why, .ref y.pl 0 0 y.lo.length none, .ref y.cl 0 0 (y.ce.set k v).length none, _, _, _, _] = _
 rw [List.length_set]; rfl
theorem b6Y {k : Nat} {v : Int} : ∀ (rows : List Q8) (j : Nat), rC (rows.modify j (b1Q k v)) = rC rows
 | [], 0 => rfl
 | [], _ + 1 => rfl
 | x :: l, 0 => by rw [List.modify_zero_cons]; unfold rC; rw [c4w]
 | x :: l, j + 1 => by rw [List.modify_succ_cons]; unfold rC; rw [b6Y l j]
theorem b6Z {k : Nat} {v : Int} {R : List It} : ∀ (rows : List Q8) (j : Nat) {y : Q8}, rows[j]? = some y -> Rp (rows.flatMap o8 ++ R) (y.cl, 0, flat (avI .u64) y.ce) (y.cl, 0, flat (avI .u64) (y.ce.set k v)) ((rows.modify j (b1Q k v)).flatMap o8 ++ R)
 | [], _, _, h => by simp at h
 | x :: t, 0, y, h => by
   simp at h; subst h
   have e1 : (x :: t).flatMap o8 ++ R = o8 x ++ (t.flatMap o8 ++ R) := by simp
   have e2 : ((x :: t).modify 0 (b1Q k v)).flatMap o8 ++ R = o8 (b1Q k v x) ++ (t.flatMap o8 ++ R) := by simp
   rw [e1, e2]
   exact Rp.there Rp.here
 | x :: t, j + 1, y, h => by
   have e1 : (x :: t).flatMap o8 ++ R = o8 x ++ (t.flatMap o8 ++ R) := by simp
   have e2 : ((x :: t).modify (j + 1) (b1Q k v)).flatMap o8 ++ R = o8 x ++ ((t.modify j (b1Q k v)).flatMap o8 ++ R) := by simp
   rw [e1, e2]
   exact Rp.skip (b6Z t j (by simpa using h))
theorem c4x {k : Nat} {v : Int} {R : List It} {a : Nat} {y : Q8} (h : rows.reverse[a]? = some y) : Rp (L8 gs o s rows rj pj ++ R) (y.cl, 0, flat (avI .u64) y.ce) (y.cl, 0, flat (avI .u64) (y.ce.set k v)) (L8 gs o s (rows.modify (rows.length - 1 - a) (b1Q k v)) rj pj ++ R) := by
 have ha := (List.getElem?_eq_some_iff.1 h).1
 rw [List.length_reverse] at ha
 rw [List.getElem?_reverse ha] at h
 have e : L8 gs o s (rows.modify (rows.length - 1 - a) (b1Q k v)) rj pj = (o.r, 0, h8 gs o s rows.length) :: (o.ro, o.rv, rC rows ++ rj) :: (x8 o s pj ++ (rows.modify (rows.length - 1 - a) (b1Q k v)).flatMap o8) := by
  unfold L8
  rw [List.length_modify, b6Y]
 rw [e]
 have h2 := b6Z (k := k) (v := v) (R := R) rows _ h
 exact Rp.there (Rp.there (Rp.there (Rp.there (Rp.there h2))))
theorem b9n {k : Nat} {v : Int} {a : Nat} : ab8 (rows.modify (rows.length - 1 - a) (b1Q k v)) = a4p (ab8 rows) a k v := by
 unfold ab8 a4p
 rw [b1P (f := Q8.toF8) (g := b1Q k v) (h := b0I k v) (fun x => rfl), List.length_map]
theorem b9o {R : List It} {a : Nat} {y : Q8} (h : rows.reverse[a]? = some y) : (y.cl, 0, flat (avI .u64) y.ce) ∈ L8 gs o s rows rj pj ++ R := by
 have hm : y ∈ rows := List.mem_reverse.1 (List.mem_of_getElem? h)
 unfold L8
 exact List.mem_append_left _ (.tail _ (.tail _ (List.mem_append_right _ (List.mem_flatMap.2 ⟨y, hm, .tail _ (.head _)⟩))))
theorem a7T {c} (h : a2K (ab8 rows) p = some c) : ∃ y, rows.reverse[c.1]? = some y /\ y.ce[c.2.1]? = some c.2.2 := by
 unfold a2K at h
 split at h
 case isFalse => cases h
 obtain ⟨y, h1, h2⟩ := Option.bind_eq_some_iff.1 h
 obtain ⟨w, h3, rfl⟩ := Option.map_eq_some_iff.1 h2
 unfold ab8 at h1
 rw [<- List.map_reverse, List.getElem?_map] at h1
 obtain ⟨q, h4, rfl⟩ := Option.map_eq_some_iff.1 h1
 exact ⟨q, h4, h3⟩
end
end Go.Proofs.YtipeiholgieclaaDoor

/- ref8's Step, operation by operation (printed by mkF8.py). -/
namespace Go.Proofs.YtipeiholgieclaaDoor
open Go Go.Ab
set_option maxRecDepth 20000
set_option maxHeartbeats 2000000
def a5t (k : Int) : List F8 -> List F8
 | [] => []
 | x :: l => { x with pc := k } :: l
section
variable {gs : List b5} {o : O8} {s : S8} {z : Q8} {r : List Q8} {rj pj : List AV}
theorem c4y {g : b5} {n : f6} {p : Int} {t : S8 × List F8} (B : B8 s r) (hg : m0 gs z.f = some g) (hi : m0 g.Nodes z.pc = some n) (hop : n.Op = 7) (ha : z.toF8.get n.A = some p) (hp0 : 0 <= p /\ p <= 18446744073709551615) (hc : a2K (z.toF8 :: ab8 r) p = none) (hok : ∀ g ∈ gs, okG g) (hp : s.pans.length < 9999999) (hd : 0 <= s.depth /\ s.depth < 1000000000) (hw : ∀ y ∈ z :: r, y.wa.length < 100000000) (hp8 : b2D gs { s with steps := s.steps + 1 } (z.toF8 :: ab8 r) 18446744073709551614 = some t) :
  Tri Tryd.prog 10 [.ptr o.r 0 0] (L8 gs o s (z :: r) rj pj) (fun _ L' => At8 gs o.r t L') := by
 have hn := B.n
 refine x4 mixed a6r zS [3] (fun R S hS => u7 hg hi B.st zO hS (fun oi S hS => ?_))
 rw [hop]
 (repeat refine a0k rfl rfl ?_)
 obtain ⟨u, hu, rfl⟩ := Option.map_eq_some_iff.1 hp8
 refine c0D rfl rfl ?_
 refine aU ?_
 refine f7 hS rfl (List.mem_append_right _ (.head _)) (v := .int .i64 n.A) rfl ?_
 refine aU ?_
 refine a7l (a0G (z := z) (s := { s with steps := s.steps + 1 }) ha zO) hS rfl (.refl _) ?_
 refine aU ?_
 refine a7l (a7S (rows := z :: r) (s := { s with steps := s.steps + 1 }) hp0 hc zE) hS rfl (.refl _) ?_
 refine aU ?_
 refine E_cs (t := true) rfl (fun _ => ?_) (fun h => by cases h)
 refine aU ?_
 refine a3l (a5s (rows := z :: r) (s := { s with steps := s.steps + 1 }) (v := 18446744073709551614) (ps' := u.2.2) (en := u.1) (A' := u.2.1) hu hok zE hp hd hw) hS rfl (.refl _) (fun x S L' hL hS => ?_)
 refine aU ?_
 refine g8 ?_
 refine aE ?_
 obtain ⟨rv, lv, rows', rj', pj', h7, rfl⟩ := hL
 exact ⟨trivial, _, rfl, _, ⟨{ o with rv := rv, lv := lv }, rows', rj', pj', rfl, h7, rfl⟩, a2a hS⟩
theorem c6R {g : b5} {n : f6} {p : Int} {c : Nat × Nat × Int} {z1 : F8} (B : B8 s r) (hg : m0 gs z.f = some g) (hi : m0 g.Nodes z.pc = some n) (hop : n.Op = 7) (ha : z.toF8.get n.A = some p) (hc : a2K (z.toF8 :: ab8 r) p = some c) (hs : z.toF8.set n.D c.2.2 = some z1) :
  Tri Tryd.prog 10 [.ptr o.r 0 0] (L8 gs o s (z :: r) rj pj) (fun _ L' => At8 gs o.r ({ s with steps := s.steps + 1 }, { z1 with pc := n.Next } :: ab8 r) L') := by
 have hn := B.n
 refine x4 mixed a6r zS [3] (fun R S hS => u7 hg hi B.st zO hS (fun oi S hS => ?_))
 rw [hop]
 (repeat refine a0k rfl rfl ?_)
 obtain ⟨y, c5, c6'⟩ := a7T (rows := z :: r) hc
 have hca := (List.getElem?_eq_some_iff.1 c5).1
 have hcb := (List.getElem?_eq_some_iff.1 c6').1
 rw [List.length_reverse] at hca
 refine c0D rfl rfl ?_
 refine aU ?_
 refine f7 hS rfl (List.mem_append_right _ (.head _)) (v := .int .i64 n.A) rfl ?_
 refine aU ?_
 refine a7l (a0G (z := z) (s := { s with steps := s.steps + 1 }) ha zO) hS rfl (.refl _) ?_
 refine aU ?_
 refine a7l (a7R (rows := z :: r) (s := { s with steps := s.steps + 1 }) hc zE) hS rfl (.refl _) ?_
 refine aU ?_
 refine E_cs (t := false) (by show AV.bool (decide ((c.1 : Int) < 0)) = _; simp) (fun h => by cases h) (fun _ => ?_)
 refine aU ?_
 refine f7 hS rfl (List.mem_append_right _ (.head _)) (v := .int .u8 n.Op) rfl ?_
 refine aU ?_
 refine E_cs (t := true) (by show AV.bool (n.Op == 7) = _; rw [hop]; rfl) (fun _ => ?_) (fun h => by cases h)
 refine aU ?_
 refine f7 hS rfl (List.mem_append_right _ (.head _)) (v := .int .i64 n.D) rfl ?_
 refine aU ?_
 refine f7 hS rfl (.head _) (v := .ref o.ro o.rv 0 (r.length + 1) (some 9)) rfl ?_
 refine aU ?_
 refine a0e rfl rfl c.1 rfl (by simpa using hca) ?_
 refine aU ?_
 refine f7 hS rfl (.tail _ (.head _)) (v := .ref y.cl 0 0 y.ce.length none) (vM8 c5 rfl) ?_
 refine aU ?_
 refine a0e rfl rfl c.2.1 rfl hcb ?_
 refine b1s hS (j3 .u64) rfl (b9o c5) (n := c.2.1) (fo := 0) (y := c.2.2) (by simp [g6]) c6' (v := .int .u64 c.2.2) rfl ?_
 refine aU ?_
 refine a3l (a0J (z := z) (s := { s with steps := s.steps + 1 }) hs zO) hS rfl (.refl _) (fun x S L' hL hS => ?_)
 obtain ⟨l, hl, rfl⟩ := hL
 refine aU ?_
 refine aE ?_
 refine a1q (F := [(0, .ptr o.r 0 0), (4, .int .i64 n.Next)]) wF ?_
 refine a3C (o := o) (z := { z with lo := l }) zO hS (fun fr' S hS => ?_)
 exact ⟨trivial, _, rfl, _, ⟨o, _, _, _, rfl, (by rw [<- hl]; rfl), rfl⟩, a2a hS⟩
theorem c4z {g : b5} {n : f6} {p : Int} {t : S8 × List F8} (B : B8 s r) (hg : m0 gs z.f = some g) (hi : m0 g.Nodes z.pc = some n) (hop : n.Op = 8) (ha : z.toF8.get n.A = some p) (hp0 : 0 <= p /\ p <= 18446744073709551615) (hc : a2K (z.toF8 :: ab8 r) p = none) (hok : ∀ g ∈ gs, okG g) (hp : s.pans.length < 9999999) (hd : 0 <= s.depth /\ s.depth < 1000000000) (hw : ∀ y ∈ z :: r, y.wa.length < 100000000) (hp8 : b2D gs { s with steps := s.steps + 1 } (z.toF8 :: ab8 r) 18446744073709551614 = some t) :
  Tri Tryd.prog 10 [.ptr o.r 0 0] (L8 gs o s (z :: r) rj pj) (fun _ L' => At8 gs o.r t L') := by
 have hn := B.n
 refine x4 mixed a6r zS [3] (fun R S hS => u7 hg hi B.st zO hS (fun oi S hS => ?_))
 rw [hop]
 (repeat refine a0k rfl rfl ?_)
 obtain ⟨u, hu, rfl⟩ := Option.map_eq_some_iff.1 hp8
 refine a4W rfl zD zD rfl rfl (fun _ => ?_) (fun h => by cases h)
 refine aU ?_
 refine f7 hS rfl (List.mem_append_right _ (.head _)) (v := .int .i64 n.A) rfl ?_
 refine aU ?_
 refine a7l (a0G (z := z) (s := { s with steps := s.steps + 1 }) ha zO) hS rfl (.refl _) ?_
 refine aU ?_
 refine a7l (a7S (rows := z :: r) (s := { s with steps := s.steps + 1 }) hp0 hc zE) hS rfl (.refl _) ?_
 refine aU ?_
 refine E_cs (t := true) rfl (fun _ => ?_) (fun h => by cases h)
 refine aU ?_
 refine a3l (a5s (rows := z :: r) (s := { s with steps := s.steps + 1 }) (v := 18446744073709551614) (ps' := u.2.2) (en := u.1) (A' := u.2.1) hu hok zE hp hd hw) hS rfl (.refl _) (fun x S L' hL hS => ?_)
 refine aU ?_
 refine g8 ?_
 refine aE ?_
 obtain ⟨rv, lv, rows', rj', pj', h7, rfl⟩ := hL
 exact ⟨trivial, _, rfl, _, ⟨{ o with rv := rv, lv := lv }, rows', rj', pj', rfl, h7, rfl⟩, a2a hS⟩
theorem c6S {g : b5} {n : f6} {p v : Int} {c : Nat × Nat × Int} (B : B8 s r) (hg : m0 gs z.f = some g) (hi : m0 g.Nodes z.pc = some n) (hop : n.Op = 8) (ha : z.toF8.get n.A = some p) (hb : z.toF8.get n.B = some v) (hc : a2K (z.toF8 :: ab8 r) p = some c) :
  Tri Tryd.prog 10 [.ptr o.r 0 0] (L8 gs o s (z :: r) rj pj) (fun _ L' => At8 gs o.r ({ s with steps := s.steps + 1 }, a5t n.Next (a4p (z.toF8 :: ab8 r) c.1 c.2.1 v)) L') := by
 have hn := B.n
 refine x4 mixed a6r zS [3] (fun R S hS => u7 hg hi B.st zO hS (fun oi S hS => ?_))
 rw [hop]
 (repeat refine a0k rfl rfl ?_)
 obtain ⟨y, c5, c6'⟩ := a7T (rows := z :: r) hc
 have hca := (List.getElem?_eq_some_iff.1 c5).1
 have hcb := (List.getElem?_eq_some_iff.1 c6').1
 rw [List.length_reverse] at hca
 refine a4W rfl zD zD rfl rfl (fun _ => ?_) (fun h => by cases h)
 refine aU ?_
 refine f7 hS rfl (List.mem_append_right _ (.head _)) (v := .int .i64 n.A) rfl ?_
 refine aU ?_
 refine a7l (a0G (z := z) (s := { s with steps := s.steps + 1 }) ha zO) hS rfl (.refl _) ?_
 refine aU ?_
 refine a7l (a7R (rows := z :: r) (s := { s with steps := s.steps + 1 }) hc zE) hS rfl (.refl _) ?_
 refine aU ?_
 refine E_cs (t := false) (by show AV.bool (decide ((c.1 : Int) < 0)) = _; simp) (fun h => by cases h) (fun _ => ?_)
 refine aU ?_
 refine f7 hS rfl (List.mem_append_right _ (.head _)) (v := .int .u8 n.Op) rfl ?_
 refine aU ?_
 refine E_cs (t := false) (by show AV.bool (n.Op == 7) = _; rw [hop]; rfl) (fun h => by cases h) (fun _ => ?_)
 refine a1D ?_
 refine aU ?_
 refine f7 hS rfl (.head _) (v := .ref o.ro o.rv 0 (r.length + 1) (some 9)) rfl ?_
 refine aU ?_
 refine a0e rfl rfl c.1 rfl (by simpa using hca) ?_
 refine aU ?_
 refine f7 hS rfl (.tail _ (.head _)) (v := .ref y.cl 0 0 y.ce.length none) (vM8 c5 rfl) ?_
 refine aU ?_
 refine f7 hS rfl (List.mem_append_right _ (.head _)) (v := .int .i64 n.B) rfl ?_
 refine aU ?_
 refine a7l (a0G (z := z) (s := { s with steps := s.steps + 1 }) hb zO) hS rfl (.refl _) ?_
 refine aU ?_
 refine a0e rfl rfl c.2.1 rfl hcb ?_
 refine a9o (y' := v) (l := y.ce) hS (j3 .u64) rfl (xv := .int .u64 v) rfl (n := c.2.1) (fo := 0) (y := c.2.2) (by simp [g6]) c6' (c4x (k := c.2.1) (v := v) c5) rfl rfl (by simp [g6]) rfl (fun S hS => ?_)
 refine aU ?_
 refine And.intro (by simp [a1i, a5b, a0y, a1R]) ?_
 refine aE ?_
 refine a1q (F := [(0, .ptr o.r 0 0), (4, .int .i64 n.Next)]) wF ?_
 obtain ⟨z2, r2, e2⟩ : ∃ z2 r2, (z :: r).modify ((z :: r).length - 1 - c.1) (b1Q c.2.1 v) = z2 :: r2 := by
  cases hm : (z :: r).modify ((z :: r).length - 1 - c.1) (b1Q c.2.1 v) with
  | nil => have := congrArg List.length hm; simp at this
  | cons z2 r2 => exact ⟨z2, r2, rfl⟩
 have hl2 : r2.length = r.length := by have := congrArg List.length e2; simp at this; omega
 have ha2 := b9n (rows := z :: r) (a := c.1) (k := c.2.1) (v := v)
 rw [e2] at hS ha2
 refine a3C (o := o) (z := z2) (r := r2) zO hS (fun fr' S hS => ?_)
 refine ⟨trivial, _, rfl, _, ⟨o, _, _, _, rfl, ?_, rfl⟩, a2a hS⟩
 show _ = a5t n.Next (a4p (ab8 (z :: r)) c.1 c.2.1 v)
 rw [<- ha2]; rfl
end
end Go.Proofs.YtipeiholgieclaaDoor

/- ref8's Step, operation by operation (printed by mkF10.py). -/
namespace Go.Proofs.YtipeiholgieclaaDoor
open Go Go.Ab
set_option maxRecDepth 20000
set_option maxHeartbeats 2000000
theorem b6c {k : Nat} {x : AV} {hd : It} {T : List It} {r : List Q8} {z : Q8} {rj : List AV} {a : Nat} {v : Nat} (hk : k < 9) (hx : x.cells = [x]) :
  Rp (hd :: (a, v, rC (z :: r) ++ rj) :: T) (a, v, rC (z :: r) ++ rj) (a, v, splice (rC (z :: r) ++ rj) (0 + r.length * g6 (some 9) + k) x.cells) (hd :: (a, v, rC r ++ ((c8 z).set k x ++ rj)) :: T) := by
 rw [u0, spT (y9 r) (by simpa using hk) hx]
 exact Rp.there Rp.here
theorem b1R {z : F8} {k : Option (List Int)} : ∀ l, a4H { z with kp := k } l = a4H z l
 | [] => rfl
 | a :: l => by unfold a4H; rw [b1R l]; rfl
def inV (tape : List Int) : Int := tape.headD 0
theorem b4z {S : List Ob} {K v : Int} : b0e (some 2) (.sl true 2 [.agg [.int .i64 K, .int .u64 v]]) S = some (1, flat m8.av [(⟨K, v⟩ : m8)], []) := a2z (f := m8.av) (esh := some 2) [(⟨K, v⟩ : m8)]
section
variable {gs : List b5} {o : O8} {s : S8} {z : Q8} {r : List Q8} {rj pj : List AV}
theorem c4A {g : b5} {n : f6} {ag : List Int} {F : F8} (B : B8 s r) (hg : m0 gs z.f = some g) (hi : m0 g.Nodes z.pc = some n) (hop : n.Op = 11) (hok : ∀ g ∈ gs, okG g) (hd : 0 <= s.depth /\ s.depth < 1000000000) (hl : n.Args.length < 100000000) (ha : a4H z.toF8 n.Args = some ag) (hF : a8x gs n.F ag 0 = some F) :
  Tri Tryd.prog 10 [.ptr o.r 0 0] (L8 gs o s (z :: r) rj pj) (fun _ L' => At8 gs o.r ({ s with steps := s.steps + 1, depth := max s.depth ((r.length : Int) + 2) }, F :: { z.toF8 with kp := some (List.replicate 16 0) } :: ab8 r) L') := by
 have hn := B.n
 refine x4 mixed a6r zS [3] (fun R S hS => u7 hg hi B.st zO hS (fun oi S hS => ?_))
 rw [hop]
 (repeat refine a0k rfl rfl ?_)
 refine a4W rfl zD zD rfl rfl (fun h => by cases h) (fun _ => ?_)
 (repeat refine a0k rfl rfl ?_)
 refine a3v rfl rfl ?_
 refine aU ?_
 refine f7 hS rfl (.head _) (v := .ref o.rg 0 0 16 none) rfl ?_
 refine b3B (l := []) (m := List.replicate 16 (0 : Int)) (j3 .u64) rfl (.inr rfl) (b3A (j3 .u64) (m := List.replicate 16 (0 : Int)) (hS.at (.tail _ (.tail _ (.tail _ (.tail _ (.head _))))))) ⟨by decide, by decide⟩ ?_
 refine aU ?_
 refine E_stS hS rfl (xv := kpA (some (List.replicate 16 0))) rfl (a4M (z' := { z with kp := some (List.replicate 16 0) }) zO rfl rfl rfl) rfl rfl (a2J zO) (fun S hS => ?_)
 refine aU ?_
 refine a1D ?_
 refine aU ?_
 refine f7 hS rfl (List.mem_append_right _ (.head _)) (v := .int .i64 n.F) rfl ?_
 refine aU ?_
 refine f7 hS rfl (List.mem_append_right _ (.head _)) (v := f6.av n) rfl ?_
 refine aU ?_
 have hm1 := hS.at (List.mem_append_right _ (.head _))
 refine a3l (b1J (n := n) (z := { z with kp := some (List.replicate 16 0) }) (s := { s with steps := s.steps + 1 }) ((b1R (z := z.toF8) n.Args).trans ha) hl zO) hS rfl (.refl _) (fun x S L' hL hS => ?_)
 obtain ⟨rfl, rfl⟩ := hL
 have hm2 := hS.at (List.mem_append_right _ (.head _))
 refine aU ?_
 refine a3l (b1K (r := { z with kp := some (List.replicate 16 0) } :: r) (s := { s with steps := s.steps + 1 }) hF hok (by show r.length + 1 < _; omega) hd) hS rfl (.refl _) (fun x S L' hL hS => ?_)
 obtain ⟨q, rfl, rfl⟩ := hL
 refine aU ?_
 refine And.intro ⟨⟨rfl, fun x hx => by rw [List.mem_singleton.1 hx]; exact hm2.trans hm1.symm⟩, trivial⟩ ?_
 refine aU ?_
 refine g8 ?_
 refine aE ?_
 refine ⟨trivial, _, rfl, _, ⟨{ o with rv := o.rv + 1 }, q :: { z with kp := some (List.replicate 16 0) } :: r, [], pj, rfl, rfl, rfl⟩, ?_⟩
 have e1 : max s.depth (((({ z with kp := some (List.replicate 16 0) } :: r : List Q8).length : Nat) : Int) + 1) = max s.depth ((r.length : Int) + 2) := by simp; omega
 rw [e1] at hS
 exact a2a hS
theorem c4B {g : b5} {n : f6} {v : Int} {u : RO8} (B : B8 s r) (hg : m0 gs z.f = some g) (hi : m0 g.Nodes z.pc = some n) (hop : n.Op = 12) (hok : ∀ g ∈ gs, okG g) (hd : 0 <= s.depth /\ s.depth < 1000000000) (hek : s.ek = 0) (hp : s.pans.length < 9999999) (hw : ∀ y ∈ z :: r, y.wa.length < 100000000) (hA : 0 <= n.A) (hv : z.toF8.get n.A = some v) (h2 : a2M gs ({ z.toF8 with ret := v, ends := true } :: ab8 r) s.pans = some u) :
  Tri Tryd.prog 10 [.ptr o.r 0 0] (L8 gs o s (z :: r) rj pj) (fun _ L' => At8 gs o.r (S8.ret { s with steps := s.steps + 1 } u, u.A) L') := by
 have hn := B.n
 refine x4 mixed a6r zS [3] (fun R S hS => u7 hg hi B.st zO hS (fun oi S hS => ?_))
 rw [hop]
 (repeat refine a0k rfl rfl ?_)
 refine a4W rfl zD zD rfl rfl (fun h => by cases h) (fun _ => ?_)
 (repeat refine a0k rfl rfl ?_)
 refine a3v rfl rfl ?_
 refine aU ?_
 refine f7 hS rfl (List.mem_append_right _ (.head _)) (v := .int .i64 n.A) rfl ?_
 refine aU ?_
 refine E_cs (t := true) (by show AV.bool (decide (n.A >= 0)) = _; simp [hA]) (fun _ => ?_) (fun h => by cases h)
 refine aU ?_
 refine f7 hS rfl (List.mem_append_right _ (.head _)) (v := .int .i64 n.A) rfl ?_
 refine aU ?_
 refine a7l (a0G (z := z) (s := { s with steps := s.steps + 1 }) hv zO) hS rfl (.refl _) ?_
 refine aU ?_
 refine E_stS hS rfl (xv := .int .u64 v) rfl (a4M (z' := { z with ret := v }) zO rfl rfl rfl) rfl rfl (a2J zO) (fun S hS => ?_)
 refine aU ?_
 refine E_stS hS rfl (xv := .bool true) rfl (a4M (z' := { z with ret := v, ends := true }) zO rfl rfl rfl) rfl rfl (a2J zO) (fun S hS => ?_)
 refine aU ?_
 refine a3l (a7Q (rows := { z with ret := v, ends := true } :: r) (s := { s with steps := s.steps + 1 }) (u := u) h2 hok hek (by show r.length + 1 < _; omega) hp hd (fun y hy => by
  rcases List.mem_cons.1 hy with rfl | hy
  ·exact hw z (.head _)
  ·exact hw y (.tail _ hy))) hS rfl (.refl _) (fun x S L' hL hS => ?_)
 obtain ⟨rv, lv, rows', rj', pj', h7, rfl⟩ := hL
 refine aU ?_
 refine g8 ?_
 refine aE ?_
 exact ⟨trivial, _, rfl, _, ⟨{ o with rv := rv, lv := lv }, rows', rj', pj', rfl, h7, rfl⟩, a2a hS⟩
theorem b9p {g : b5} {n : f6} {u : RO8} (B : B8 s r) (hg : m0 gs z.f = some g) (hi : m0 g.Nodes z.pc = some n) (hop : n.Op = 12) (hok : ∀ g ∈ gs, okG g) (hd : 0 <= s.depth /\ s.depth < 1000000000) (hek : s.ek = 0) (hp : s.pans.length < 9999999) (hw : ∀ y ∈ z :: r, y.wa.length < 100000000) (hA : n.A < 0) (h2 : a2M gs ({ z.toF8 with ends := true } :: ab8 r) s.pans = some u) :
  Tri Tryd.prog 10 [.ptr o.r 0 0] (L8 gs o s (z :: r) rj pj) (fun _ L' => At8 gs o.r (S8.ret { s with steps := s.steps + 1 } u, u.A) L') := by
 have hn := B.n
 refine x4 mixed a6r zS [3] (fun R S hS => u7 hg hi B.st zO hS (fun oi S hS => ?_))
 rw [hop]
 (repeat refine a0k rfl rfl ?_)
 refine a4W rfl zD zD rfl rfl (fun h => by cases h) (fun _ => ?_)
 (repeat refine a0k rfl rfl ?_)
 refine a3v rfl rfl ?_
 refine aU ?_
 refine f7 hS rfl (List.mem_append_right _ (.head _)) (v := .int .i64 n.A) rfl ?_
 refine aU ?_
 refine E_cs (t := false) (by show AV.bool (decide (n.A >= 0)) = _; simp; omega) (fun h => by cases h) (fun _ => ?_)
 refine aU ?_
 refine E_stS hS rfl (xv := .bool true) rfl (a4M (z' := { z with ends := true }) zO rfl rfl rfl) rfl rfl (a2J zO) (fun S hS => ?_)
 refine aU ?_
 refine a3l (a7Q (rows := { z with ends := true } :: r) (s := { s with steps := s.steps + 1 }) (u := u) h2 hok hek (by show r.length + 1 < _; omega) hp hd (fun y hy => by
  rcases List.mem_cons.1 hy with rfl | hy
  ·exact hw z (.head _)
  ·exact hw y (.tail _ hy))) hS rfl (.refl _) (fun x S L' hL hS => ?_)
 obtain ⟨rv, lv, rows', rj', pj', h7, rfl⟩ := hL
 refine aU ?_
 refine g8 ?_
 refine aE ?_
 exact ⟨trivial, _, rfl, _, ⟨{ o with rv := rv, lv := lv }, rows', rj', pj', rfl, h7, rfl⟩, a2a hS⟩
theorem c4C {g : b5} {n : f6} {v : Int} {t : S8 × List F8} (B : B8 s r) (hg : m0 gs z.f = some g) (hi : m0 g.Nodes z.pc = some n) (hop : n.Op = 14) (hv : z.toF8.get n.A = some v) (hok : ∀ g ∈ gs, okG g) (hp : s.pans.length < 9999999) (hd : 0 <= s.depth /\ s.depth < 1000000000) (hw : ∀ y ∈ z :: r, y.wa.length < 100000000) (hp8 : b2D gs { s with steps := s.steps + 1 } (z.toF8 :: ab8 r) v = some t) :
  Tri Tryd.prog 10 [.ptr o.r 0 0] (L8 gs o s (z :: r) rj pj) (fun _ L' => At8 gs o.r t L') := by
 have hn := B.n
 refine x4 mixed a6r zS [3] (fun R S hS => u7 hg hi B.st zO hS (fun oi S hS => ?_))
 rw [hop]
 (repeat refine a0k rfl rfl ?_)
 refine a4W rfl zD zD rfl rfl (fun h => by cases h) (fun _ => ?_)
 (repeat refine a0k rfl rfl ?_)
 obtain ⟨u, hu, rfl⟩ := Option.map_eq_some_iff.1 hp8
 refine a3v rfl rfl ?_
 refine aU ?_
 refine f7 hS rfl (List.mem_append_right _ (.head _)) (v := .int .i64 n.A) rfl ?_
 refine aU ?_
 refine a7l (a0G (z := z) (s := { s with steps := s.steps + 1 }) hv zO) hS rfl (.refl _) ?_
 refine aU ?_
 refine a3l (a5s (rows := z :: r) (s := { s with steps := s.steps + 1 }) (v := v) (ps' := u.2.2) (en := u.1) (A' := u.2.1) hu hok zE hp hd hw) hS rfl (.refl _) (fun x S L' hL hS => ?_)
 refine aU ?_
 refine g8 ?_
 refine aE ?_
 obtain ⟨rv, lv, rows', rj', pj', h7, rfl⟩ := hL
 exact ⟨trivial, _, rfl, _, ⟨{ o with rv := rv, lv := lv }, rows', rj', pj', rfl, h7, rfl⟩, a2a hS⟩
end
end Go.Proofs.YtipeiholgieclaaDoor

