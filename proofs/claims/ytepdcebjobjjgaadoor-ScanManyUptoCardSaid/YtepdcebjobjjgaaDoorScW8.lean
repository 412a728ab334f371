/- slices.symMergeCmpFunc: the walk. -/
import Derived.Test.YtepdcebjobjjgaaDoorScW2
import Derived.Test.YtepdcebjobjjgaaDoorWlTz
set_option linter.unusedVariables false
set_option linter.unusedSimpArgs false
namespace Go.Ab
universe u
variable {α : Type u} {key : α → Int} {a b : Nat} {L : List α}
def upI (a k t : Nat) : Nat := if a ≤ t ∧ t < k then t + 1 else if t = k then a else t
def dnI (c k t : Nat) : Nat := if k < t ∧ t ≤ c then t - 1 else if t = k then c else t
theorem b5f {a t : Nat} : upI a a t = t := by unfold upI; split; exact absurd ‹_› zO; split <;> omega
theorem b5g {c t : Nat} : dnI c c t = t := by unfold dnI; split; exact absurd ‹_› zO; split <;> omega
theorem b5h {a k t : Nat} (h : a ≤ k) : upI a (k + 1) t = if t = k + 1 then upI a k k else if t = k then upI a k (k + 1) else upI a k t := by
 unfold upI; repeat' split
 all_goals omega
theorem b5i {c k t : Nat} (h : k ≤ c) (h0 : 0 < k) : dnI c (k - 1) t = if t = k - 1 then dnI c k k else if t = k then dnI c k (k - 1) else dnI c k t := by
 unfold dnI; repeat' split
 all_goals omega
theorem c2j {i b : Nat} {L L' : List α} (hab : a + 1 ≤ i) (hib : i ≤ b) (hbl : b ≤ L.length) (h2 : SrtR key (a + 1) b L) {x : α} (hx : L[a]? = some x) (hr : ∀ t, L'[t]? = L[upI a (i - 1) t]?)
  (h3 : ∀ k y, a + 1 ≤ k → k < i → L[k]? = some y → key y < key x) (h4 : ∀ k y, i ≤ k → k < b → L[k]? = some y → key x ≤ key y) : SrtR key a b L' := by
 intro p q y z p1 p2 p3 e1 e2
 rw [hr] at e1 e2
 unfold upI at e1 e2
 by_cases c1 : q < i - 1
 ·rw [if_pos zO] at e1 e2
  exact h2 _ _ y z zO zO zO e1 e2
 ·rw [if_neg zO] at e2
  by_cases c2 : q = i - 1
  ·rw [if_pos c2, hx] at e2; cases e2
   by_cases c3 : p < i - 1
   ·rw [if_pos zO] at e1
    have := h3 _ y zO zO e1
    omega
   ·rw [if_neg zO, if_pos zO, hx] at e1; cases e1; exact Int.le_refl _
  ·rw [if_neg c2] at e2
   by_cases c3 : p < i - 1
   ·rw [if_pos zO] at e1
    exact h2 _ _ y z zO zO p3 e1 e2
   ·rw [if_neg zO] at e1
    by_cases c4 : p = i - 1
    ·rw [if_pos c4, hx] at e1; cases e1
     exact h4 q z zO p3 e2
    ·rw [if_neg c4] at e1
     exact h2 _ _ y z zO p2 p3 e1 e2
theorem c2k {i c : Nat} {L L' : List α} (hai : a ≤ i) (hic : i ≤ c) (hbl : c < L.length) (h1 : SrtR key a c L) {x : α} (hx : L[c]? = some x) (hr : ∀ t, L'[t]? = L[dnI c i t]?)
  (h3 : ∀ k y, a ≤ k → k < i → L[k]? = some y → key y ≤ key x) (h4 : ∀ k y, i ≤ k → k < c → L[k]? = some y → key x < key y) : SrtR key a (c + 1) L' := by
 intro p q y z p1 p2 p3 e1 e2
 rw [hr] at e1 e2
 unfold dnI at e1 e2
 by_cases c1 : i < p
 ·rw [if_pos zO] at e1 e2
  exact h1 _ _ y z zO zO zO e1 e2
 ·rw [if_neg zO] at e1
  by_cases c2 : p = i
  ·rw [if_pos c2, hx] at e1; cases e1
   by_cases c3 : i < q
   ·rw [if_pos zO] at e2
    have := h4 _ z zO zO e2
    omega
   ·rw [if_neg zO, if_pos zO, hx] at e2; cases e2; exact Int.le_refl _
  ·rw [if_neg c2] at e1
   by_cases c3 : i < q
   ·rw [if_pos zO] at e2
    exact h1 _ _ y z p1 zO zO e1 e2
   ·rw [if_neg zO] at e2
    by_cases c4 : q = i
    ·rw [if_pos c4, hx] at e2; cases e2
     exact h3 p y p1 zO e1
    ·rw [if_neg c4] at e2
     exact h1 _ _ y z p1 p2 zO e1 e2
end Go.Ab
namespace Go.Proofs.YtepdcebjobjjgaaDoor
open Go Go.Ab
set_option maxRecDepth 20000
set_option maxHeartbeats 4000000
def c9o : FC := .reg [⟨(some 25), none, .op (.mv (.t 2))⟩,  ⟨(some 26), none, .op (.mv (.t 1))⟩,  ⟨(some 27), none, .op (.bin .none .sub (.t 25) (.t 26))⟩,  ⟨(some 28), none, .op (.bin .none .eql (.t 27) (.v (.int .i64 1)))⟩] []
def c9p : FC := .reg [⟨(some 29), none, .op (.mv (.t 2))⟩,  ⟨(some 10), none, .op (.mv (.t 29))⟩] []
def c9q : FC := .reg [⟨(some 30), none, .op (.mv (.t 3))⟩,  ⟨(some 11), none, .op (.mv (.t 30))⟩] []
def c9r : FC := .reg [⟨(some 31), none, .op (.mv (.t 10))⟩,  ⟨(some 32), none, .op (.mv (.t 11))⟩,  ⟨(some 33), none, .op (.bin .none .lss (.t 31) (.t 32))⟩] []
def c9s : FC := .cond (.t 33) FC.skip (FC.exit 0)
def c9t : FC := .seq c9r c9s
def c9u : FC := .reg [⟨(some 34), none, .op (.mv (.t 10))⟩,  ⟨(some 35), none, .op (.mv (.t 11))⟩,  ⟨(some 36), none, .op (.bin .none .add (.t 34) (.t 35))⟩,  ⟨(some 37), none, .op (.cint .u64 (.t 36))⟩,  ⟨(some 38), none, .op (.bin .none .shr (.t 37) (.v (.int .u64 1)))⟩,  ⟨(some 39), none, .op (.cint .i64 (.t 38))⟩,  ⟨(some 12), none, .op (.mv (.t 39))⟩] []
def c9v : FC := .reg [⟨(some 40), none, .op (.mv (.t 4))⟩,  ⟨(some 41), none, .op (.mv (.t 0))⟩,  ⟨(some 42), none, .op (.mv (.t 12))⟩,  ⟨(some 43), none, .op (.iad none (some 4) (.t 41) (.t 42))⟩,  ⟨(some 44), none, .op (.load (some 4) (.t 43))⟩,  ⟨(some 45), none, .op (.mv (.t 0))⟩,  ⟨(some 46), none, .op (.mv (.t 1))⟩,  ⟨(some 47), none, .op (.iad none (some 4) (.t 45) (.t 46))⟩,  ⟨(some 48), none, .op (.load (some 4) (.t 47))⟩,  ⟨(some 49), none, .callv (.t 40) [(.t 44), (.t 48)]⟩,  ⟨(some 50), none, .op (.bin .none .lss (.t 49) (.v (.int .i64 0)))⟩] []
def c9w : FC := .reg [⟨(some 51), none, .op (.mv (.t 12))⟩,  ⟨(some 52), none, .op (.bin .none .add (.t 51) (.v (.int .i64 1)))⟩,  ⟨(some 10), none, .op (.mv (.t 52))⟩] []
def c2l : FC := .reg [⟨(some 53), none, .op (.mv (.t 12))⟩,  ⟨(some 11), none, .op (.mv (.t 53))⟩] []
def c2m : FC := .cond (.t 50) c9w c2l
def c2n : FC := .seq c9v c2m
def c2o : FC := .seq c9u c2n
def c2p : FC := .block 1 c2o
def c2q : FC := .seq c9t c2p
def c2r : FC := .loop c2q
def c2s : FC := .block 0 c2r
def c2t : FC := .reg [⟨(some 54), none, .op (.mv (.t 1))⟩,  ⟨(some 13), none, .op (.mv (.t 54))⟩] []
def c2u : FC := .reg [⟨(some 55), none, .op (.mv (.t 13))⟩,  ⟨(some 56), none, .op (.mv (.t 10))⟩,  ⟨(some 57), none, .op (.bin .none .sub (.t 56) (.v (.int .i64 1)))⟩,  ⟨(some 58), none, .op (.bin .none .lss (.t 55) (.t 57))⟩] []
def c2v : FC := .cond (.t 58) FC.skip (FC.exit 2)
def c2w : FC := .seq c2u c2v
def c2x : FC := .reg [⟨(some 61), none, .op (.mv (.t 0))⟩,  ⟨(some 62), none, .op (.mv (.t 13))⟩,  ⟨(some 63), none, .op (.mv (.t 0))⟩,  ⟨(some 64), none, .op (.mv (.t 13))⟩,  ⟨(some 65), none, .op (.bin .none .add (.t 64) (.v (.int .i64 1)))⟩,  ⟨(some 66), none, .op (.mv (.t 0))⟩,  ⟨(some 67), none, .op (.mv (.t 13))⟩,  ⟨(some 68), none, .op (.bin .none .add (.t 67) (.v (.int .i64 1)))⟩,  ⟨(some 69), none, .op (.iad none (some 4) (.t 66) (.t 68))⟩,  ⟨(some 70), none, .op (.load (some 4) (.t 69))⟩,  ⟨(some 71), none, .op (.mv (.t 0))⟩,  ⟨(some 72), none, .op (.mv (.t 13))⟩,  ⟨(some 73), none, .op (.iad none (some 4) (.t 71) (.t 72))⟩,  ⟨(some 74), none, .op (.load (some 4) (.t 73))⟩,  ⟨(some 75), none, .op (.iad none (some 4) (.t 61) (.t 62))⟩,  ⟨none, none, .op (.store 4 (.t 75) (.t 70))⟩,  ⟨(some 76), none, .op (.iad none (some 4) (.t 63) (.t 65))⟩,  ⟨none, none, .op (.store 4 (.t 76) (.t 74))⟩] []
def c2y : FC := .block 3 c2x
def c2z : FC := .reg [⟨(some 59), none, .op (.mv (.t 13))⟩,  ⟨(some 60), none, .op (.bin .none .add (.t 59) (.v (.int .i64 1)))⟩,  ⟨(some 13), none, .op (.mv (.t 60))⟩] []
def c2A : FC := .seq c2y c2z
def c2B : FC := .seq c2w c2A
def c2C : FC := .loop c2B
def c2D : FC := .block 2 c2C
def c2E : FC := .seq c2t c2D
def c2F : FC := .seq c2E FC.ret
def c2G : FC := .seq c2s c2F
def c2H : FC := .seq c9q c2G
def c2I : FC := .seq c9p c2H
def c2J : FC := .cond (.t 28) c2I FC.skip
def c2K : FC := .seq c9o c2J
def c2L : FC := .reg [⟨(some 77), none, .op (.mv (.t 3))⟩,  ⟨(some 78), none, .op (.mv (.t 2))⟩,  ⟨(some 79), none, .op (.bin .none .sub (.t 77) (.t 78))⟩,  ⟨(some 80), none, .op (.bin .none .eql (.t 79) (.v (.int .i64 1)))⟩] []
def c2M : FC := .reg [⟨(some 81), none, .op (.mv (.t 1))⟩,  ⟨(some 14), none, .op (.mv (.t 81))⟩] []
def c2N : FC := .reg [⟨(some 82), none, .op (.mv (.t 2))⟩,  ⟨(some 15), none, .op (.mv (.t 82))⟩] []
def c2O : FC := .reg [⟨(some 83), none, .op (.mv (.t 14))⟩,  ⟨(some 84), none, .op (.mv (.t 15))⟩,  ⟨(some 85), none, .op (.bin .none .lss (.t 83) (.t 84))⟩] []
def c2P : FC := .cond (.t 85) FC.skip (FC.exit 4)
def c2Q : FC := .seq c2O c2P
def c2R : FC := .reg [⟨(some 86), none, .op (.mv (.t 14))⟩,  ⟨(some 87), none, .op (.mv (.t 15))⟩,  ⟨(some 88), none, .op (.bin .none .add (.t 86) (.t 87))⟩,  ⟨(some 89), none, .op (.cint .u64 (.t 88))⟩,  ⟨(some 90), none, .op (.bin .none .shr (.t 89) (.v (.int .u64 1)))⟩,  ⟨(some 91), none, .op (.cint .i64 (.t 90))⟩,  ⟨(some 16), none, .op (.mv (.t 91))⟩] []
def c2S : FC := .reg [⟨(some 92), none, .op (.mv (.t 4))⟩,  ⟨(some 93), none, .op (.mv (.t 0))⟩,  ⟨(some 94), none, .op (.mv (.t 2))⟩,  ⟨(some 95), none, .op (.iad none (some 4) (.t 93) (.t 94))⟩,  ⟨(some 96), none, .op (.load (some 4) (.t 95))⟩,  ⟨(some 97), none, .op (.mv (.t 0))⟩,  ⟨(some 98), none, .op (.mv (.t 16))⟩,  ⟨(some 99), none, .op (.iad none (some 4) (.t 97) (.t 98))⟩,  ⟨(some 100), none, .op (.load (some 4) (.t 99))⟩,  ⟨(some 101), none, .callv (.t 92) [(.t 96), (.t 100)]⟩,  ⟨(some 102), none, .op (.bin .none .lss (.t 101) (.v (.int .i64 0)))⟩,  ⟨(some 103), none, .op (.un .not (.t 102))⟩] []
def c2T : FC := .reg [⟨(some 104), none, .op (.mv (.t 16))⟩,  ⟨(some 105), none, .op (.bin .none .add (.t 104) (.v (.int .i64 1)))⟩,  ⟨(some 14), none, .op (.mv (.t 105))⟩] []
def c2U : FC := .reg [⟨(some 106), none, .op (.mv (.t 16))⟩,  ⟨(some 15), none, .op (.mv (.t 106))⟩] []
def c2V : FC := .cond (.t 103) c2T c2U
def c2W : FC := .seq c2S c2V
def c2X : FC := .seq c2R c2W
def c2Y : FC := .block 5 c2X
def c2Z : FC := .seq c2Q c2Y
def c3a : FC := .loop c2Z
def c3b : FC := .block 4 c3a
def c3c : FC := .reg [⟨(some 107), none, .op (.mv (.t 2))⟩,  ⟨(some 17), none, .op (.mv (.t 107))⟩] []
def c3d : FC := .reg [⟨(some 108), none, .op (.mv (.t 17))⟩,  ⟨(some 109), none, .op (.mv (.t 14))⟩,  ⟨(some 110), none, .op (.bin .none .gtr (.t 108) (.t 109))⟩] []
def c3e : FC := .cond (.t 110) FC.skip (FC.exit 6)
def c3f : FC := .seq c3d c3e
def c3g : FC := .reg [⟨(some 113), none, .op (.mv (.t 0))⟩,  ⟨(some 114), none, .op (.mv (.t 17))⟩,  ⟨(some 115), none, .op (.mv (.t 0))⟩,  ⟨(some 116), none, .op (.mv (.t 17))⟩,  ⟨(some 117), none, .op (.bin .none .sub (.t 116) (.v (.int .i64 1)))⟩,  ⟨(some 118), none, .op (.mv (.t 0))⟩,  ⟨(some 119), none, .op (.mv (.t 17))⟩,  ⟨(some 120), none, .op (.bin .none .sub (.t 119) (.v (.int .i64 1)))⟩,  ⟨(some 121), none, .op (.iad none (some 4) (.t 118) (.t 120))⟩,  ⟨(some 122), none, .op (.load (some 4) (.t 121))⟩,  ⟨(some 123), none, .op (.mv (.t 0))⟩,  ⟨(some 124), none, .op (.mv (.t 17))⟩,  ⟨(some 125), none, .op (.iad none (some 4) (.t 123) (.t 124))⟩,  ⟨(some 126), none, .op (.load (some 4) (.t 125))⟩,  ⟨(some 127), none, .op (.iad none (some 4) (.t 113) (.t 114))⟩,  ⟨none, none, .op (.store 4 (.t 127) (.t 122))⟩,  ⟨(some 128), none, .op (.iad none (some 4) (.t 115) (.t 117))⟩,  ⟨none, none, .op (.store 4 (.t 128) (.t 126))⟩] []
def c3h : FC := .block 7 c3g
def c3i : FC := .reg [⟨(some 111), none, .op (.mv (.t 17))⟩,  ⟨(some 112), none, .op (.bin .none .sub (.t 111) (.v (.int .i64 1)))⟩,  ⟨(some 17), none, .op (.mv (.t 112))⟩] []
def c3j : FC := .seq c3h c3i
def c3k : FC := .seq c3f c3j
def c3l : FC := .loop c3k
def c3m : FC := .block 6 c3l
def c3n : FC := .seq c3c c3m
def c3o : FC := .seq c3n FC.ret
def c3p : FC := .seq c3b c3o
def c3q : FC := .seq c2N c3p
def c3r : FC := .seq c2M c3q
def c3s : FC := .cond (.t 80) c3r FC.skip
def c3t : FC := .seq c2L c3s
def c3u : FC := .reg [⟨(some 129), none, .op (.mv (.t 1))⟩,  ⟨(some 130), none, .op (.mv (.t 3))⟩,  ⟨(some 131), none, .op (.bin .none .add (.t 129) (.t 130))⟩,  ⟨(some 132), none, .op (.cint .u64 (.t 131))⟩,  ⟨(some 133), none, .op (.bin .none .shr (.t 132) (.v (.int .u64 1)))⟩,  ⟨(some 134), none, .op (.cint .i64 (.t 133))⟩,  ⟨(some 18), none, .op (.mv (.t 134))⟩] []
def c3v : FC := .reg [⟨(some 135), none, .op (.mv (.t 18))⟩,  ⟨(some 136), none, .op (.mv (.t 2))⟩,  ⟨(some 137), none, .op (.bin .none .add (.t 135) (.t 136))⟩,  ⟨(some 19), none, .op (.mv (.t 137))⟩] []
def c3w : FC := .reg [⟨(some 20), none, .op (.mv (.v (.int .i64 0)))⟩,  ⟨(some 21), none, .op (.mv (.v (.int .i64 0)))⟩] []
def c3x : FC := .reg [⟨(some 138), none, .op (.mv (.t 2))⟩,  ⟨(some 139), none, .op (.mv (.t 18))⟩,  ⟨(some 140), none, .op (.bin .none .gtr (.t 138) (.t 139))⟩] []
def c3y : FC := .reg [⟨(some 141), none, .op (.mv (.t 19))⟩,  ⟨(some 142), none, .op (.mv (.t 3))⟩,  ⟨(some 143), none, .op (.bin .none .sub (.t 141) (.t 142))⟩,  ⟨(some 20), none, .op (.mv (.t 143))⟩] []
def c3z : FC := .reg [⟨(some 144), none, .op (.mv (.t 18))⟩,  ⟨(some 21), none, .op (.mv (.t 144))⟩] []
def c3A : FC := .seq c3y c3z
def c3B : FC := .reg [⟨(some 145), none, .op (.mv (.t 1))⟩,  ⟨(some 20), none, .op (.mv (.t 145))⟩] []
def c3C : FC := .reg [⟨(some 146), none, .op (.mv (.t 2))⟩,  ⟨(some 21), none, .op (.mv (.t 146))⟩] []
def c3D : FC := .seq c3B c3C
def c3E : FC := .cond (.t 140) c3A c3D
def c3F : FC := .seq c3x c3E
def c3G : FC := .reg [⟨(some 147), none, .op (.mv (.t 19))⟩,  ⟨(some 148), none, .op (.bin .none .sub (.t 147) (.v (.int .i64 1)))⟩,  ⟨(some 22), none, .op (.mv (.t 148))⟩] []
def c3H : FC := .reg [⟨(some 149), none, .op (.mv (.t 20))⟩,  ⟨(some 150), none, .op (.mv (.t 21))⟩,  ⟨(some 151), none, .op (.bin .none .lss (.t 149) (.t 150))⟩] []
def c3I : FC := .cond (.t 151) FC.skip (FC.exit 8)
def c3J : FC := .seq c3H c3I
def c3K : FC := .reg [⟨(some 152), none, .op (.mv (.t 20))⟩,  ⟨(some 153), none, .op (.mv (.t 21))⟩,  ⟨(some 154), none, .op (.bin .none .add (.t 152) (.t 153))⟩,  ⟨(some 155), none, .op (.cint .u64 (.t 154))⟩,  ⟨(some 156), none, .op (.bin .none .shr (.t 155) (.v (.int .u64 1)))⟩,  ⟨(some 157), none, .op (.cint .i64 (.t 156))⟩,  ⟨(some 23), none, .op (.mv (.t 157))⟩] []
def c3L : FC := .reg [⟨(some 158), none, .op (.mv (.t 4))⟩,  ⟨(some 159), none, .op (.mv (.t 0))⟩,  ⟨(some 160), none, .op (.mv (.t 22))⟩,  ⟨(some 161), none, .op (.mv (.t 23))⟩,  ⟨(some 162), none, .op (.bin .none .sub (.t 160) (.t 161))⟩,  ⟨(some 163), none, .op (.iad none (some 4) (.t 159) (.t 162))⟩,  ⟨(some 164), none, .op (.load (some 4) (.t 163))⟩,  ⟨(some 165), none, .op (.mv (.t 0))⟩,  ⟨(some 166), none, .op (.mv (.t 23))⟩,  ⟨(some 167), none, .op (.iad none (some 4) (.t 165) (.t 166))⟩,  ⟨(some 168), none, .op (.load (some 4) (.t 167))⟩,  ⟨(some 169), none, .callv (.t 158) [(.t 164), (.t 168)]⟩,  ⟨(some 170), none, .op (.bin .none .lss (.t 169) (.v (.int .i64 0)))⟩,  ⟨(some 171), none, .op (.un .not (.t 170))⟩] []
def c3M : FC := .reg [⟨(some 172), none, .op (.mv (.t 23))⟩,  ⟨(some 173), none, .op (.bin .none .add (.t 172) (.v (.int .i64 1)))⟩,  ⟨(some 20), none, .op (.mv (.t 173))⟩] []
def c3N : FC := .reg [⟨(some 174), none, .op (.mv (.t 23))⟩,  ⟨(some 21), none, .op (.mv (.t 174))⟩] []
def c3O : FC := .cond (.t 171) c3M c3N
def c3P : FC := .seq c3L c3O
def c3Q : FC := .seq c3K c3P
def c3R : FC := .block 9 c3Q
def c3S : FC := .seq c3J c3R
def c3T : FC := .loop c3S
def c3U : FC := .block 8 c3T
def c3V : FC := .reg [⟨(some 175), none, .op (.mv (.t 19))⟩,  ⟨(some 176), none, .op (.mv (.t 20))⟩,  ⟨(some 177), none, .op (.bin .none .sub (.t 175) (.t 176))⟩,  ⟨(some 24), none, .op (.mv (.t 177))⟩] []
def c3W : FC := .reg [⟨(some 178), none, .op (.mv (.t 20))⟩,  ⟨(some 179), none, .op (.mv (.t 2))⟩,  ⟨(some 180), none, .op (.bin .none .lss (.t 178) (.t 179))⟩,  ⟨(some 181), none, .op (.mv (.t 180))⟩,  ⟨(some 182), some (181, true), .op (.mv (.t 2))⟩,  ⟨(some 183), some (181, true), .op (.mv (.t 24))⟩,  ⟨(some 184), some (181, true), .op (.bin .none .lss (.t 182) (.t 183))⟩,  ⟨(some 185), none, .op (.pick (.t 181) (.t 184) (.v (.bool false)))⟩] []
def b7m : FC := .reg [⟨(some 186), none, .op (.mv (.t 0))⟩,  ⟨(some 187), none, .op (.mv (.t 20))⟩,  ⟨(some 188), none, .op (.mv (.t 2))⟩,  ⟨(some 189), none, .op (.mv (.t 24))⟩,  ⟨(some 190), none, .op (.mv (.t 4))⟩,  ⟨(some 191), none, .call 73 [(.t 186), (.t 187), (.t 188), (.t 189), (.t 190)]⟩] []
def b7n : FC := .cond (.t 185) b7m FC.skip
def b7o : FC := .seq c3W b7n
def b7p : FC := .reg [⟨(some 192), none, .op (.mv (.t 1))⟩,  ⟨(some 193), none, .op (.mv (.t 20))⟩,  ⟨(some 194), none, .op (.bin .none .lss (.t 192) (.t 193))⟩,  ⟨(some 195), none, .op (.mv (.t 194))⟩,  ⟨(some 196), some (195, true), .op (.mv (.t 20))⟩,  ⟨(some 197), some (195, true), .op (.mv (.t 18))⟩,  ⟨(some 198), some (195, true), .op (.bin .none .lss (.t 196) (.t 197))⟩,  ⟨(some 199), none, .op (.pick (.t 195) (.t 198) (.v (.bool false)))⟩] []
def b7q : FC := .reg [⟨(some 200), none, .op (.mv (.t 0))⟩,  ⟨(some 201), none, .op (.mv (.t 1))⟩,  ⟨(some 202), none, .op (.mv (.t 20))⟩,  ⟨(some 203), none, .op (.mv (.t 18))⟩,  ⟨(some 204), none, .op (.mv (.t 4))⟩,  ⟨(some 205), none, .call 60 [(.t 200), (.t 201), (.t 202), (.t 203), (.t 204)]⟩] []
def b7r : FC := .cond (.t 199) b7q FC.skip
def b7s : FC := .seq b7p b7r
def b7t : FC := .reg [⟨(some 206), none, .op (.mv (.t 18))⟩,  ⟨(some 207), none, .op (.mv (.t 24))⟩,  ⟨(some 208), none, .op (.bin .none .lss (.t 206) (.t 207))⟩,  ⟨(some 209), none, .op (.mv (.t 208))⟩,  ⟨(some 210), some (209, true), .op (.mv (.t 24))⟩,  ⟨(some 211), some (209, true), .op (.mv (.t 3))⟩,  ⟨(some 212), some (209, true), .op (.bin .none .lss (.t 210) (.t 211))⟩,  ⟨(some 213), none, .op (.pick (.t 209) (.t 212) (.v (.bool false)))⟩] []
def b7u : FC := .reg [⟨(some 214), none, .op (.mv (.t 0))⟩,  ⟨(some 215), none, .op (.mv (.t 18))⟩,  ⟨(some 216), none, .op (.mv (.t 24))⟩,  ⟨(some 217), none, .op (.mv (.t 3))⟩,  ⟨(some 218), none, .op (.mv (.t 4))⟩,  ⟨(some 219), none, .call 60 [(.t 214), (.t 215), (.t 216), (.t 217), (.t 218)]⟩] []
def b7v : FC := .cond (.t 213) b7u FC.skip
def b7w : FC := .seq b7t b7v
def b7x : FC := .seq b7s b7w
def b7y : FC := .seq b7o b7x
def b7z : FC := .seq c3V b7y
def b7A : FC := .seq c3U b7z
def b7B : FC := .seq c3G b7A
def b7C : FC := .seq c3F b7B
def b7D : FC := .seq c3w b7C
def b7E : FC := .seq c3v b7D
def b7F : FC := .seq c3u b7E
def b7G : FC := .seq c3t b7F
def b7H : FC := .seq c2K b7G
def d4t : FC := b7H
theorem c9x : Fn3 Tryd.prog 60 220 [] d4t := ⟨_, _, Tryd.func60, rfl, rfl, rfl, by kernel_rfl⟩

section
variable {α : Type} {f : α → AV} {key : α → Int}
theorem c6S {i j : Nat} (h : i + j ≤ 4611686018427387904) : IntKind.i64.wrap (Int.fdiv (IntKind.u64.wrap (IntKind.i64.wrap ((i : Int) + (j : Int)))) (2 ^ (min (1 : Int).toNat IntKind.u64.bits))) = (((i + j) / 2 : Nat) : Int) := by
 rw [a9U zO]
 have e1 : IntKind.u64.wrap (((i + j : Nat) : Int)) = ((i + j : Nat) : Int) := by simp [IntKind.wrap, IntKind.bits, IntKind.signed]; omega
 rw [e1]
 have e2 : (2 : Int) ^ (min (1 : Int).toNat IntKind.u64.bits) = 2 := by decide
 rw [e2, Int.fdiv_eq_ediv_of_nonneg _ zO, s3 zO]
 omega
theorem d4u (he : Enc f (some 4)) (hc : a9i f key) {l : List α} {o v a b : Nat} {j : List AV} (hl : l.length ≤ 1000000000) (h1 : a + 1 < b) (h2 : b ≤ l.length) (s2 : SrtR key (a + 1) b l) :
  Tri Tryd.prog 60 [.ref o v 0 l.length (some 4), .int .i64 a, .int .i64 (a + 1 : Nat), .int .i64 b, cvF] [(o, v, flat f l ++ j)] (fun _ L' => ∃ l' : List α, Mv a b l l' ∧ SrtR key a b l' ∧ L' = [(o, v, flat f l' ++ j)]) := by
 obtain ⟨x0, hx0⟩ : ∃ x, l[a]? = some x := ⟨l[a], List.getElem?_eq_getElem zO⟩
 refine y6 mixed c9x zS [] (fun R S hS => ?_)
 refine aU ?_
 refine n6 (t := true) (by show AV.bool (decide (IntKind.i64.wrap (((a + 1 : Nat) : Int) - (a : Int)) = 1)) = _; rw [a9o zO zO]; simp) (fun hb => ?_) (fun hb => by cases hb)
 refine aU ?_
 refine j7 (a0e (σ := Nat × Nat) (fun s => [(0, .ref o v 0 l.length (some 4)), (1, .int .i64 a), (2, .int .i64 (a + 1 : Nat)), (3, .int .i64 b), (4, cvF), (10, .int .i64 (s.1 : Int)), (11, .int .i64 (s.2 : Int))]) (fun s => (o, v, flat f l ++ j) :: R)
  (fun s => a + 1 ≤ s.1 ∧ s.1 ≤ s.2 ∧ s.2 ≤ b ∧ (∀ k y, a + 1 ≤ k → k < s.1 → l[k]? = some y → key y < key x0) ∧ (∀ k y, s.2 ≤ k → k < b → l[k]? = some y → key x0 ≤ key y)) (fun s => s.2 - s.1) (a + 1, b) hS ⟨Nat.le_refl _, by simp only; omega, Nat.le_refl _, fun k y p q => by simp only at q; omega, fun k y p q => by simp only at p; omega⟩
  (k9 ⟨.refl _, .refl _, .refl _, .refl _, .refl _, .refl _, .refl _, trivial⟩) (fun s S hI hS => ?_))
 obtain ⟨i, e⟩ := s
 obtain ⟨i1, i2, i3, i4, i5⟩ := hI
 dsimp only at i1 i2 i3 i4 i5 hS
 refine aU ?_
 dsimp only
 refine n6 rfl (fun hb => ?_) (fun hb => ?_)
 ·have hlt : i < e := by simp only [decide_eq_true_eq] at hb; omega
  have hmw := c6S (i := i) (j := e) zO
  obtain ⟨y, hy⟩ : ∃ y, l[(i + e) / 2]? = some y := ⟨l[(i + e) / 2], List.getElem?_eq_getElem zO⟩
  refine aU ?_
  refine j7 ?_
  refine aU ?_
  refine w5 rfl rfl ((i + e) / 2) hmw zO ?_
  refine a0N hS he rfl zM (n := (i + e) / 2) (fo := 0) (y := y) (by simp [f4]) hy (he.part y) ?_
  refine aU ?_
  refine w5 rfl rfl a rfl zO ?_
  refine a0N hS he rfl zM (n := a) (fo := 0) (y := x0) (by simp [f4]) hx0 (he.part x0) ?_
  refine a2D (a7Z he hc y x0) hS rfl b0R rfl (by repeat (first | exact Spl.nil | refine Spl.cons (by repeat (first | exact Pk.here | apply Pk.there | apply Pk.skip)) ?_ | refine Spl.app (by repeat (first | exact PkC.here | apply PkC.there | apply PkC.skip)) ?_)) (fun r S L' hL hS => ?_)
  obtain ⟨rfl, rfl⟩ := hL
  refine aU ?_
  refine n6 rfl (fun hb => ?_) (fun hb => ?_)
  ·have hlt2 : key y < key x0 := by simp only [decide_eq_true_eq] at hb; exact a1U.1 hb
   refine aU ?_
   refine k8 ?_
   refine aU ?_
   refine ⟨((i + e) / 2 + 1, e), ⟨by simp only; omega, by simp only; omega, i3, fun k z p q r => ?_, i5⟩, by simp only; omega, hS, k9 ⟨.refl _, .refl _, .refl _, .refl _, .refl _, a2P (by rw [hmw]; exact a5q zO), .refl _, trivial⟩⟩
   simp only at q
   have := s2 k _ z y p (by omega : k ≤ (i + e) / 2) zO r hy
   omega
  ·have hge : key x0 ≤ key y := by simp only [decide_eq_false_iff_not] at hb; have := mt a1U.2 hb; omega
   refine aU ?_
   refine k8 ?_
   refine aU ?_
   refine ⟨(i, (i + e) / 2), ⟨i1, by simp only; omega, by simp only; omega, i4, fun k z p q r => ?_⟩, by simp only; omega, hS, k9 ⟨.refl _, .refl _, .refl _, .refl _, .refl _, .refl _, a2P hmw, trivial⟩⟩
   simp only at p
   have := s2 _ k y z (by omega : a + 1 ≤ (i + e) / 2) p q hy r
   omega
 ·have hge : e = i := by simp only [decide_eq_false_iff_not] at hb; omega
  subst hge
  refine x6 ?_
  (repeat (first | refine n8 ?_ | refine r8 ?_ | refine s4 rfl ?_ | refine j4 ?_ | refine l6 ?_ | refine k8 ?_))
  refine aU ?_
  refine j7 (a0e (σ := Nat × List α) (fun s => [(0, .ref o v 0 l.length (some 4)), (10, .int .i64 (e : Int)), (13, .int .i64 (s.1 : Int))]) (fun s => (o, v, flat f s.2 ++ j) :: R)
   (fun s => a ≤ s.1 ∧ s.1 ≤ e - 1 ∧ Mv a b l s.2 ∧ ∀ t, s.2[t]? = l[upI a s.1 t]?) (fun s => e - 1 - s.1) (a, l) hS ⟨Nat.le_refl _, by simp only; omega, .refl, fun t => by rw [b5f]⟩
   (k9 ⟨.refl _, .refl _, .refl _, trivial⟩) (fun s S hI hS => ?_))
  obtain ⟨k, m⟩ := s
  obtain ⟨k1, k2, hM, hI⟩ := hI
  dsimp only at k1 k2 hM hI hS
  have hm := hM.len
  have we : IntKind.i64.wrap ((e : Int) - 1) = ((e - 1 : Nat) : Int) := b8Q zO zO
  refine aU ?_
  dsimp only
  rw [we]
  refine n6 rfl (fun hb => ?_) (fun hb => ?_)
  ·have hlt : k < e - 1 := by simp only [decide_eq_true_eq] at hb; omega
   obtain ⟨x, hx⟩ : ∃ x, m[k]? = some x := ⟨m[k], List.getElem?_eq_getElem zO⟩
   obtain ⟨y, hy⟩ : ∃ y, m[k + 1]? = some y := ⟨m[k + 1], List.getElem?_eq_getElem zO⟩
   have wk1 : IntKind.i64.wrap ((k : Int) + 1) = ((k + 1 : Nat) : Int) := a5q zO
   refine aU ?_
   refine j7 ?_
   refine aU ?_
   refine w5 rfl rfl (k + 1) wk1 zO ?_
   refine a0N hS he rfl zM (n := k + 1) (fo := 0) (y := y) (by simp [f4]) hy (he.part y) ?_
   refine aU ?_
   refine w5 rfl rfl k rfl zO ?_
   refine a0N hS he rfl zM (n := k) (fo := 0) (y := x) (by simp [f4]) hx (he.part x) ?_
   refine w5 rfl rfl k rfl zO ?_
   refine a4G (l := m) (j := j) hS he rfl zC (n := k) (fo := 0) (y := x) (y' := y) (by simp [f4]) hx (by first | exact Rp.here | (repeat (first | exact Rp.here | apply Rp.there | apply Rp.skip))) (he.sz _) (he.one _) (by simp [f4]) (by rw [a0M (he.sz _) (he.sz _)]) (fun S hS => ?_)
   refine w5 rfl rfl (k + 1) wk1 zO ?_
   refine a4G (l := m.set k y) (j := j) hS he rfl zC (n := k + 1) (fo := 0) (y := y) (y' := x) (by simp [f4]) (by rw [List.getElem?_set_ne zO]; exact hy) (by first | exact Rp.here | (repeat (first | exact Rp.here | apply Rp.there | apply Rp.skip))) (he.sz _) (he.one _) (by simp [f4]) (by rw [a0M (he.sz _) (he.sz _)]) (fun S hS => ?_)
   refine aU ?_
   refine k8 ?_
   refine aU ?_
   refine ⟨(k + 1, (m.set k y).set (k + 1) x), ⟨by simp only; omega, by simp only; omega, hM.trans (.swap hx hy zO zO zO zO), fun t => ?_⟩, by simp only; omega, hS, k9 ⟨.refl _, .refl _, a2P wk1, trivial⟩⟩
   simp only
   rw [a0t hx hy, b5h k1]
   by_cases c1 : t = k + 1
   ·rw [if_pos c1, if_pos c1, hI]
   ·rw [if_neg c1, if_neg c1]
    by_cases c2 : t = k
    ·rw [if_pos c2, if_pos c2, hI]
    ·rw [if_neg c2, if_neg c2, hI]
  ·have hge : k = e - 1 := by simp only [decide_eq_false_iff_not] at hb; omega
   subst hge
   refine x6 ?_
   (repeat (first | refine n8 ?_ | refine r8 ?_ | refine s4 rfl ?_ | refine j4 ?_ | refine l6 ?_ | refine k8 ?_))
   refine aU ?_
   refine i9 ?_
   (repeat (first | refine n8 ?_ | refine r8 ?_ | refine s4 rfl ?_ | refine j4 ?_ | refine l6 ?_ | refine k8 ?_))
   exact ⟨trivial, _, rfl, _, ⟨m, hM, c2j i1 i3 h2 s2 hx0 hI i4 i5, rfl⟩, hS⟩
theorem d4v (he : Enc f (some 4)) (hc : a9i f key) {l : List α} {o v a c : Nat} {j : List AV} (hl : l.length ≤ 1000000000) (h0 : a + 1 < c) (h2 : c < l.length) (s1 : SrtR key a c l) :
  Tri Tryd.prog 60 [.ref o v 0 l.length (some 4), .int .i64 a, .int .i64 c, .int .i64 (c + 1 : Nat), cvF] [(o, v, flat f l ++ j)] (fun _ L' => ∃ l' : List α, Mv a (c + 1) l l' ∧ SrtR key a (c + 1) l' ∧ L' = [(o, v, flat f l' ++ j)]) := by
 obtain ⟨x0, hx0⟩ : ∃ x, l[c]? = some x := ⟨l[c], List.getElem?_eq_getElem zO⟩
 refine y6 mixed c9x zS [] (fun R S hS => ?_)
 refine aU ?_
 refine n6 (t := false) (by show AV.bool (decide (IntKind.i64.wrap ((c : Int) - (a : Int)) = 1)) = _; rw [a9o zO zO]; congr 1; simp only [decide_eq_false_iff_not]; omega) (fun hb => by cases hb) (fun hb => ?_)
 refine aU ?_
 refine n6 (t := true) (by show AV.bool (decide (IntKind.i64.wrap (((c + 1 : Nat) : Int) - (c : Int)) = 1)) = _; rw [a9o zO zO]; simp) (fun hb => ?_) (fun hb => by cases hb)
 refine aU ?_
 refine j7 (a0e (σ := Nat × Nat) (fun s => [(0, .ref o v 0 l.length (some 4)), (1, .int .i64 a), (2, .int .i64 c), (3, .int .i64 (c + 1 : Nat)), (4, cvF), (14, .int .i64 (s.1 : Int)), (15, .int .i64 (s.2 : Int))]) (fun s => (o, v, flat f l ++ j) :: R)
  (fun s => a ≤ s.1 ∧ s.1 ≤ s.2 ∧ s.2 ≤ c ∧ (∀ k y, a ≤ k → k < s.1 → l[k]? = some y → key y ≤ key x0) ∧ (∀ k y, s.2 ≤ k → k < c → l[k]? = some y → key x0 < key y)) (fun s => s.2 - s.1) (a, c) hS ⟨Nat.le_refl _, by simp only; omega, Nat.le_refl _, fun k y p q => by simp only at q; omega, fun k y p q => by simp only at p; omega⟩
  (k9 ⟨.refl _, .refl _, .refl _, .refl _, .refl _, .refl _, .refl _, trivial⟩) (fun s S hI hS => ?_))
 obtain ⟨i, e⟩ := s
 obtain ⟨i1, i2, i3, i4, i5⟩ := hI
 dsimp only at i1 i2 i3 i4 i5 hS
 refine aU ?_
 dsimp only
 refine n6 rfl (fun hb => ?_) (fun hb => ?_)
 ·have hlt : i < e := by simp only [decide_eq_true_eq] at hb; omega
  have hmw := c6S (i := i) (j := e) zO
  obtain ⟨y, hy⟩ : ∃ y, l[(i + e) / 2]? = some y := ⟨l[(i + e) / 2], List.getElem?_eq_getElem zO⟩
  refine aU ?_
  refine j7 ?_
  refine aU ?_
  refine w5 rfl rfl c rfl zO ?_
  refine a0N hS he rfl zM (n := c) (fo := 0) (y := x0) (by simp [f4]) hx0 (he.part x0) ?_
  refine aU ?_
  refine w5 rfl rfl ((i + e) / 2) hmw zO ?_
  refine a0N hS he rfl zM (n := (i + e) / 2) (fo := 0) (y := y) (by simp [f4]) hy (he.part y) ?_
  refine a2D (a7Z he hc x0 y) hS rfl b0R rfl (by repeat (first | exact Spl.nil | refine Spl.cons (by repeat (first | exact Pk.here | apply Pk.there | apply Pk.skip)) ?_ | refine Spl.app (by repeat (first | exact PkC.here | apply PkC.there | apply PkC.skip)) ?_)) (fun r S L' hL hS => ?_)
  obtain ⟨rfl, rfl⟩ := hL
  refine aU ?_
  refine n6 rfl (fun hb => ?_) (fun hb => ?_)
  ·have hge : key y ≤ key x0 := by
    simp only [Bool.not_eq_true', decide_eq_false_iff_not] at hb
    have := mt a1U.2 hb
    omega
   refine aU ?_
   refine k8 ?_
   refine aU ?_
   refine ⟨((i + e) / 2 + 1, e), ⟨by simp only; omega, by simp only; omega, i3, fun k z p q r => ?_, i5⟩, by simp only; omega, hS, k9 ⟨.refl _, .refl _, .refl _, .refl _, .refl _, a2P (by rw [hmw]; exact a5q zO), .refl _, trivial⟩⟩
   simp only at q
   have := s1 k _ z y p (by omega : k ≤ (i + e) / 2) zO r hy
   omega
  ·have hlt2 : key x0 < key y := by
    simp only [Bool.not_eq_false', decide_eq_true_eq] at hb
    exact a1U.1 hb
   refine aU ?_
   refine k8 ?_
   refine aU ?_
   refine ⟨(i, (i + e) / 2), ⟨i1, by simp only; omega, by simp only; omega, i4, fun k z p q r => ?_⟩, by simp only; omega, hS, k9 ⟨.refl _, .refl _, .refl _, .refl _, .refl _, .refl _, a2P hmw, trivial⟩⟩
   simp only at p
   have := s1 _ k y z (by omega : a ≤ (i + e) / 2) p q hy r
   omega
 ·have hge : e = i := by simp only [decide_eq_false_iff_not] at hb; omega
  subst hge
  refine x6 ?_
  (repeat (first | refine n8 ?_ | refine r8 ?_ | refine s4 rfl ?_ | refine j4 ?_ | refine l6 ?_ | refine k8 ?_))
  refine aU ?_
  refine j7 (a0e (σ := Nat × List α) (fun s => [(0, .ref o v 0 l.length (some 4)), (14, .int .i64 (e : Int)), (17, .int .i64 (s.1 : Int))]) (fun s => (o, v, flat f s.2 ++ j) :: R)
   (fun s => e ≤ s.1 ∧ s.1 ≤ c ∧ Mv a (c + 1) l s.2 ∧ ∀ t, s.2[t]? = l[dnI c s.1 t]?) (fun s => s.1) (c, l) hS ⟨by simp only; omega, Nat.le_refl _, .refl, fun t => by rw [b5g]⟩
   (k9 ⟨.refl _, .refl _, .refl _, trivial⟩) (fun s S hI hS => ?_))
  obtain ⟨k, m⟩ := s
  obtain ⟨k1, k2, hM, hI⟩ := hI
  dsimp only at k1 k2 hM hI hS
  have hm := hM.len
  refine aU ?_
  dsimp only
  refine n6 rfl (fun hb => ?_) (fun hb => ?_)
  ·have hlt : e < k := by simp only [decide_eq_true_eq] at hb; omega
   obtain ⟨x, hx⟩ : ∃ x, m[k]? = some x := ⟨m[k], List.getElem?_eq_getElem zO⟩
   obtain ⟨y, hy⟩ : ∃ y, m[k - 1]? = some y := ⟨m[k - 1], List.getElem?_eq_getElem zO⟩
   have wk1 : IntKind.i64.wrap ((k : Int) - 1) = ((k - 1 : Nat) : Int) := b8Q zO zO
   refine aU ?_
   refine j7 ?_
   refine aU ?_
   refine w5 rfl rfl (k - 1) wk1 zO ?_
   refine a0N hS he rfl zM (n := k - 1) (fo := 0) (y := y) (by simp [f4]) hy (he.part y) ?_
   refine aU ?_
   refine w5 rfl rfl k rfl zO ?_
   refine a0N hS he rfl zM (n := k) (fo := 0) (y := x) (by simp [f4]) hx (he.part x) ?_
   refine w5 rfl rfl k rfl zO ?_
   refine a4G (l := m) (j := j) hS he rfl zC (n := k) (fo := 0) (y := x) (y' := y) (by simp [f4]) hx (by first | exact Rp.here | (repeat (first | exact Rp.here | apply Rp.there | apply Rp.skip))) (he.sz _) (he.one _) (by simp [f4]) (by rw [a0M (he.sz _) (he.sz _)]) (fun S hS => ?_)
   refine w5 rfl rfl (k - 1) wk1 zO ?_
   refine a4G (l := m.set k y) (j := j) hS he rfl zC (n := k - 1) (fo := 0) (y := y) (y' := x) (by simp [f4]) (by rw [List.getElem?_set_ne zO]; exact hy) (by first | exact Rp.here | (repeat (first | exact Rp.here | apply Rp.there | apply Rp.skip))) (he.sz _) (he.one _) (by simp [f4]) (by rw [a0M (he.sz _) (he.sz _)]) (fun S hS => ?_)
   refine aU ?_
   refine k8 ?_
   refine aU ?_
   refine ⟨(k - 1, (m.set k y).set (k - 1) x), ⟨by simp only; omega, by simp only; omega, hM.trans (.swap hx hy zO zO zO zO), fun t => ?_⟩, by simp only; omega, hS, k9 ⟨.refl _, .refl _, a2P wk1, trivial⟩⟩
   simp only
   rw [a0t hx hy, b5i k2 zO]
   by_cases c1 : t = k - 1
   ·rw [if_pos c1, if_pos c1, hI]
   ·rw [if_neg c1, if_neg c1]
    by_cases c2 : t = k
    ·rw [if_pos c2, if_pos c2, hI]
    ·rw [if_neg c2, if_neg c2, hI]
  ·have hge : k = e := by simp only [decide_eq_false_iff_not] at hb; omega
   subst hge
   refine x6 ?_
   (repeat (first | refine n8 ?_ | refine r8 ?_ | refine s4 rfl ?_ | refine j4 ?_ | refine l6 ?_ | refine k8 ?_))
   refine aU ?_
   refine i9 ?_
   (repeat (first | refine n8 ?_ | refine r8 ?_ | refine s4 rfl ?_ | refine j4 ?_ | refine l6 ?_ | refine k8 ?_))
   exact ⟨trivial, _, rfl, _, ⟨m, hM, c2k i1 i3 h2 s1 hx0 hI i4 i5, rfl⟩, hS⟩
end
end Go.Proofs.YtepdcebjobjjgaaDoor

/- slices.symMergeCmpFunc: the general case. -/
namespace Go.Ab
universe u
variable {α : Type u} {key : α → Int} {a b : Nat} {L L' : List α}
theorem b7I {c e k : Nat} : roI c c e k = k := by unfold roI; split; omega; split <;> omega
theorem b7J {s c k : Nat} : roI s c c k = k := by unfold roI; split; omega; split <;> omega
theorem Mv.of_roI {s c e : Nat} (hp : L'.Perm L) (h : ∀ k, L'[k]? = L[roI s c e k]?) (h1 : a ≤ s) (h2 : s ≤ c) (h3 : c ≤ e) (h4 : e ≤ b) : Mv a b L L' :=
 ⟨hp, fun i hi => by rw [h]; congr 1; unfold roI; split; omega; split <;> omega, fun i p q => ⟨roI s c e i, by unfold roI; split; omega; split <;> omega, by unfold roI; split; omega; split <;> omega, h i⟩⟩
end Go.Ab
namespace Go.Proofs.YtepdcebjobjjgaaDoor
open Go Go.Ab
set_option maxRecDepth 20000
set_option maxHeartbeats 4000000
section
variable {α : Type} {f : α → AV} {key : α → Int}
theorem a8a (he : Enc f (some 4)) (hc : a9i f key) {o v : Nat} {j : List AV} : ∀ (N : Nat) {l : List α} {a c b : Nat}, b - a ≤ N → l.length ≤ 1000000000 → a < c → c < b → b ≤ l.length → SrtR key a c l → SrtR key c b l →
  Tri Tryd.prog 60 [.ref o v 0 l.length (some 4), .int .i64 a, .int .i64 c, .int .i64 b, cvF] [(o, v, flat f l ++ j)] (fun _ L' => ∃ l' : List α, Mv a b l l' ∧ SrtR key a b l' ∧ L' = [(o, v, flat f l' ++ j)])
 | 0, l, a, c, b, hN, hl, h1, h2, h3, s1, s2 => by omega
 | N + 1, l, a, c, b, hN, hl, h1, h2, h3, s1, s2 => by
   by_cases k1 : c = a + 1
   ·subst k1; exact d4u he hc hl h2 h3 s2
   by_cases k2 : b = c + 1
   ·subst k2; exact d4v he hc hl zO zO s1
   have hmw := c6S (i := a) (j := b) zO
   have hmid : a < (a + b) / 2 ∧ (a + b) / 2 < b := by omega
   generalize hme : (a + b) / 2 = mid at hmw hmid
   refine y6 mixed c9x zS [] (fun R S hS => ?_)
   refine aU ?_
   refine n6 (t := false) (by show AV.bool (decide (IntKind.i64.wrap ((c : Int) - (a : Int)) = 1)) = _; rw [a9o zO zO]; congr 1; simp only [decide_eq_false_iff_not]; omega) (fun hb => by cases hb) (fun hb => ?_)
   refine aU ?_
   refine n6 (t := false) (by show AV.bool (decide (IntKind.i64.wrap ((b : Int) - (c : Int)) = 1)) = _; rw [a9o zO zO]; congr 1; simp only [decide_eq_false_iff_not]; omega) (fun hb => by cases hb) (fun hb => ?_)
   refine i7 ?_
   refine g7 ?_
   refine f8 ?_
   refine b9 ?_
   refine aS ?_
   refine b6 ?_
   refine g7 ?_
   refine f8 ?_
   refine b9 ?_
   refine aS ?_
   refine b6 ?_
   refine g7 ?_
   refine f8 ?_
   refine b9 ?_
   refine aS ?_
   refine b6 ?_
   refine g7 ?_
   refine a8O (σ := Nat × Nat) (fun s => [(0, .ref o v 0 l.length (some 4)), (1, .int .i64 a), (2, .int .i64 c), (3, .int .i64 b), (4, cvF), (18, .int .i64 (mid : Int)), (19, .int .i64 ((mid + c : Nat) : Int)), (20, .int .i64 (s.1 : Int)), (21, .int .i64 (s.2 : Int))]) (fun _ => (o, v, flat f l ++ j) :: R)
    (fun s => (s.1 = a ∧ s.2 = c ∧ c ≤ mid) ∨ (s.1 + b = mid + c ∧ s.2 = mid ∧ mid < c)) ?_ (fun s S hI hS => ?_)
   ·refine aU ?_
    refine n6 rfl (fun hb => ?_) (fun hb => ?_)
    ·have hlt : mid < c := by simp only [hmw, decide_eq_true_eq] at hb; omega
     refine aU ?_
     exact v7 ⟨(mid + c - b, mid), .inr ⟨by simp only; omega, rfl, hlt⟩, hS, k9 ⟨.refl _, .refl _, .refl _, .refl _, .refl _, a2P hmw, a2P (by rw [hmw]; exact a9U zO), a2P (by rw [hmw, a9U zO]; exact a9o zO zO), a2P hmw, trivial⟩⟩
    ·have hge : c ≤ mid := by simp only [hmw, decide_eq_false_iff_not] at hb; omega
     refine aU ?_
     exact v7 ⟨(a, c), .inl ⟨rfl, rfl, hge⟩, hS, k9 ⟨.refl _, .refl _, .refl _, .refl _, .refl _, a2P hmw, a2P (by rw [hmw]; exact a9U zO), .refl _, .refl _, trivial⟩⟩
   obtain ⟨lo, hi⟩ := s
   dsimp only at hI
   have wp : IntKind.i64.wrap (((mid + c : Nat) : Int) - 1) = ((mid + c - 1 : Nat) : Int) := b8Q zO zO
   refine aU ?_
   refine j7 (a0e (σ := Nat × Nat) (fun s => [(0, .ref o v 0 l.length (some 4)), (1, .int .i64 a), (2, .int .i64 c), (3, .int .i64 b), (4, cvF), (18, .int .i64 (mid : Int)), (19, .int .i64 ((mid + c : Nat) : Int)), (20, .int .i64 (s.1 : Int)), (21, .int .i64 (s.2 : Int)), (22, .int .i64 ((mid + c - 1 : Nat) : Int))]) (fun _ => (o, v, flat f l ++ j) :: R)
    (fun s => lo ≤ s.1 ∧ s.1 ≤ s.2 ∧ s.2 ≤ hi ∧ (∀ k x y, lo ≤ k → k < s.1 → l[k]? = some x → l[mid + c - 1 - k]? = some y → key x ≤ key y) ∧ (∀ k x y, s.2 ≤ k → k < hi → l[k]? = some x → l[mid + c - 1 - k]? = some y → key y < key x)) (fun s => s.2 - s.1) (lo, hi) hS
    ⟨Nat.le_refl _, by simp only; omega, Nat.le_refl _, fun k x y p q => by simp only at q; omega, fun k x y p q => by simp only at p; omega⟩
    (k9 ⟨.refl _, .refl _, .refl _, .refl _, .refl _, .refl _, .refl _, .refl _, .refl _, a2P wp, trivial⟩) (fun s S hJ hS => ?_))
   obtain ⟨s, e⟩ := s
   obtain ⟨i1, i2, i3, i4, i5⟩ := hJ
   dsimp only at i1 i2 i3 i4 i5 hS
   refine aU ?_
   dsimp only
   refine n6 rfl (fun hb => ?_) (fun hb => ?_)
   ·have hlt : s < e := by simp only [decide_eq_true_eq] at hb; omega
    have hhw := c6S (i := s) (j := e) zO
    have hh1 : s ≤ (s + e) / 2 ∧ (s + e) / 2 < e := by omega
    generalize (s + e) / 2 = h at hhw hh1
    obtain ⟨x, hx⟩ : ∃ x, l[h]? = some x := ⟨l[h], List.getElem?_eq_getElem zO⟩
    obtain ⟨y, hy⟩ : ∃ y, l[mid + c - 1 - h]? = some y := ⟨l[mid + c - 1 - h], List.getElem?_eq_getElem zO⟩
    refine aU ?_
    refine j7 ?_
    refine aU ?_
    refine w5 rfl rfl (mid + c - 1 - h) (by rw [hhw]; exact a9o zO zO) zO ?_
    refine a0N hS he rfl zM (n := mid + c - 1 - h) (fo := 0) (y := y) (by simp [f4]) hy (he.part y) ?_
    refine aU ?_
    refine w5 rfl rfl h hhw zO ?_
    refine a0N hS he rfl zM (n := h) (fo := 0) (y := x) (by simp [f4]) hx (he.part x) ?_
    refine a2D (a7Z he hc y x) hS rfl b0R rfl (by repeat (first | exact Spl.nil | refine Spl.cons (by repeat (first | exact Pk.here | apply Pk.there | apply Pk.skip)) ?_ | refine Spl.app (by repeat (first | exact PkC.here | apply PkC.there | apply PkC.skip)) ?_)) (fun r S L' hL hS => ?_)
    obtain ⟨rfl, rfl⟩ := hL
    refine aU ?_
    refine n6 rfl (fun hb => ?_) (fun hb => ?_)
    ·have hge : key x ≤ key y := by
      simp only [Bool.not_eq_true', decide_eq_false_iff_not] at hb
      have := mt a1U.2 hb
      omega
     refine aU ?_
     refine k8 ?_
     refine aU ?_
     refine ⟨(h + 1, e), ⟨by simp only; omega, by simp only; omega, i3, fun k x' y' p q r t => ?_, i5⟩, by simp only; omega, hS, k9 ⟨.refl _, .refl _, .refl _, .refl _, .refl _, .refl _, .refl _, a2P (by rw [hhw]; exact a5q zO), .refl _, .refl _, trivial⟩⟩
     simp only at q
     have d1 := s1 k h x' x zO zO zO r hx
     have d2 := s2 (mid + c - 1 - h) (mid + c - 1 - k) y y' zO zO zO hy t
     omega
    ·have hlt2 : key y < key x := by
      simp only [Bool.not_eq_false', decide_eq_true_eq] at hb
      exact a1U.1 hb
     refine aU ?_
     refine k8 ?_
     refine aU ?_
     refine ⟨(s, h), ⟨i1, by simp only; omega, by simp only; omega, i4, fun k x' y' p q r t => ?_⟩, by simp only; omega, hS, k9 ⟨.refl _, .refl _, .refl _, .refl _, .refl _, .refl _, .refl _, .refl _, a2P hhw, .refl _, trivial⟩⟩
     simp only at p
     have d1 := s1 h k x x' zO zO zO hx r
     have d2 := s2 (mid + c - 1 - k) (mid + c - 1 - h) y' y zO zO zO t hy
     omega
   ·have hge : e = s := by simp only [decide_eq_false_iff_not] at hb; omega
    subst hge
    have hee : ∃ n, n + e = mid + c := ⟨mid + c - e, by omega⟩
    obtain ⟨n, hn⟩ := hee
    have hee2 : a ≤ e ∧ e ≤ c ∧ c ≤ n ∧ n ≤ b := by omega
    have c1 : e = a ∨ n = b ∨ ∀ x y, l[e - 1]? = some x → l[n]? = some y → key x ≤ key y := by
     by_cases q : e = lo
     ·rcases hI with h | h
      ·exact .inl zO
      ·exact .inr (.inl zO)
     ·exact .inr (.inr fun x y p r => i4 (e - 1) x y zO zO p (by rw [show mid + c - 1 - (e - 1) = n by omega]; exact r))
    have c2 : e = c ∨ n = c ∨ ∀ x y, l[n - 1]? = some x → l[e]? = some y → key x ≤ key y := by
     by_cases q : e = hi
     ·rcases hI with h | h
      ·exact .inl zO
      ·exact .inr (.inl zO)
     ·exact .inr (.inr fun x y p r => Int.le_of_lt (i5 e y x (Nat.le_refl _) zO r (by rw [show mid + c - 1 - e = n - 1 by omega]; exact p)))
    refine x6 ?_
    (repeat (first | refine n8 ?_ | refine r8 ?_ | refine s4 rfl ?_ | refine j4 ?_ | refine l6 ?_ | refine k8 ?_))
    refine g7 ?_
    refine f8 ?_
    refine b9 ?_
    refine aS ?_
    refine b6 ?_
    refine g7 ?_
    refine a8O (σ := List α) (fun m => [(0, .ref o v 0 l.length (some 4)), (1, .int .i64 a), (2, .int .i64 c), (3, .int .i64 b), (4, cvF), (18, .int .i64 (mid : Int)), (20, .int .i64 (e : Int)), (24, .int .i64 (n : Int))]) (fun m => (o, v, flat f m ++ j) :: R)
     (fun m => m.Perm l ∧ ∀ k, m[k]? = l[roI e c n k]?) ?_ (fun m S hM hS => ?_)
    ·have wn : IntKind.i64.wrap (((mid + c : Nat) : Int) - (e : Int)) = (n : Int) := by rw [a9o zO zO]; omega
     refine aU ?_
     refine m9 (b := decide ((e : Int) < (c : Int))) rfl rfl rfl (fun hb => ?_) (fun hb => ?_)
     ·have hlt : e < c := by simp only [decide_eq_true_eq] at hb; omega
      refine aU ?_
      refine n6 rfl (fun hb => ?_) (fun hb => ?_)
      ·have hlt2 : c < n := by simp only [wn, decide_eq_true_eq] at hb; omega
       refine aU ?_
       refine a4f (b5e he (l := l) (o := o) (v := v) (a := e) (c := c) (b := n) (j := j) (cv := cvF) hl hlt hlt2 zO) hS (by show [AV.ref o v 0 l.length (some 4), .int .i64 e, .int .i64 c, .int .i64 (IntKind.i64.wrap (((mid + c : Nat) : Int) - (e : Int))), cvF] = _; rw [wn]) (by repeat (first | exact Spl.nil | refine Spl.cons (by repeat (first | exact Pk.here | apply Pk.there | apply Pk.skip)) ?_ | refine Spl.app (by repeat (first | exact PkC.here | apply PkC.there | apply PkC.skip)) ?_)) (fun r S L' hL hS => ?_)
       obtain ⟨m, q1, q2, rfl⟩ := hL
       refine aU ?_
       exact v7 ⟨m, ⟨q1, q2⟩, hS, k9 ⟨.refl _, .refl _, .refl _, .refl _, .refl _, .refl _, .refl _, a2P wn, trivial⟩⟩
      ·have hge2 : n = c := by simp only [wn, decide_eq_false_iff_not] at hb; omega
       refine aU ?_
       exact v7 ⟨l, ⟨.refl _, fun k => by rw [hge2, b7J]⟩, hS, k9 ⟨.refl _, .refl _, .refl _, .refl _, .refl _, .refl _, .refl _, a2P wn, trivial⟩⟩
     ·have hge2 : e = c := by simp only [decide_eq_false_iff_not, Bool.not_true] at hb; omega
      refine aU ?_
      refine n6 (t := false) rfl (fun hb => by cases hb) (fun _ => ?_)
      refine aU ?_
      exact v7 ⟨l, ⟨.refl _, fun k => by rw [hge2, b7I]⟩, hS, k9 ⟨.refl _, .refl _, .refl _, .refl _, .refl _, .refl _, .refl _, a2P wn, trivial⟩⟩
    obtain ⟨hp, hr⟩ := hM
    have hml := hp.length_eq
    obtain ⟨t1, t2, t3, t4, t5⟩ := b1u (key := key) (a := a) (m := c) (b := b) (mid := mid) (s := e) (e := n) (L := l) (L' := m) zO zO h3 s1 s2 hee2.1 hee2.2.1 hee2.2.2.1 hee2.2.2.2 zO hr c1 c2
    have hMv : Mv a b l m := Mv.of_roI hp hr hee2.1 hee2.2.1 hee2.2.2.1 hee2.2.2.2
    refine a8O (σ := List α) (fun m => [(0, .ref o v 0 l.length (some 4)), (2, .int .i64 c), (3, .int .i64 b), (4, cvF), (18, .int .i64 (mid : Int)), (24, .int .i64 (n : Int))]) (fun m => (o, v, flat f m ++ j) :: R)
     (fun m2 => Mv a mid m m2 ∧ SrtR key a mid m2) ?_ (fun m2 S hM2 hS => ?_)
    ·refine aU ?_
     refine m9 (b := decide ((a : Int) < (e : Int))) rfl rfl rfl (fun hb => ?_) (fun hb => ?_)
     ·have hlt : a < e := by simp only [decide_eq_true_eq] at hb; omega
      refine aU ?_
      refine n6 rfl (fun hb => ?_) (fun hb => ?_)
      ·have hlt2 : e < mid := by simp only [decide_eq_true_eq] at hb; omega
       refine aU ?_
       refine a4f (a8a he hc N (l := m) (o := o) (v := v) (a := a) (c := e) (b := mid) (j := j) zO zO hlt hlt2 zO t1 t2) hS (by rw [hml]; rfl) (by repeat (first | exact Spl.nil | refine Spl.cons (by repeat (first | exact Pk.here | apply Pk.there | apply Pk.skip)) ?_ | refine Spl.app (by repeat (first | exact PkC.here | apply PkC.there | apply PkC.skip)) ?_)) (fun r S L' hL hS => ?_)
       obtain ⟨m2, q1, q2, rfl⟩ := hL
       refine aU ?_
       exact v7 ⟨m2, ⟨q1, q2⟩, hS, k9 ⟨.refl _, .refl _, .refl _, .refl _, .refl _, .refl _, trivial⟩⟩
      ·have hge2 : e = mid := by simp only [decide_eq_false_iff_not] at hb; omega
       refine aU ?_
       exact v7 ⟨m, ⟨.refl, by rw [← hge2]; exact t1⟩, hS, k9 ⟨.refl _, .refl _, .refl _, .refl _, .refl _, .refl _, trivial⟩⟩
     ·have hge2 : e = a := by simp only [decide_eq_false_iff_not, Bool.not_true] at hb; omega
      refine aU ?_
      refine n6 (t := false) rfl (fun hb => by cases hb) (fun _ => ?_)
      refine aU ?_
      exact v7 ⟨m, ⟨.refl, by rw [← hge2]; exact t2⟩, hS, k9 ⟨.refl _, .refl _, .refl _, .refl _, .refl _, .refl _, trivial⟩⟩
    obtain ⟨hM2, hs2⟩ := hM2
    have hm2 := hM2.len
    have u3 : SrtR key mid n m2 := t3.cong fun i p q => hM2.out i zO
    have u4 : SrtR key n b m2 := t4.cong fun i p q => hM2.out i zO
    refine aU ?_
    refine m9 (b := decide ((mid : Int) < (n : Int))) rfl rfl rfl (fun hb => ?_) (fun hb => ?_)
    ·have hlt : mid < n := by simp only [decide_eq_true_eq] at hb; omega
     refine aU ?_
     refine n6 rfl (fun hb => ?_) (fun hb => ?_)
     ·have hlt2 : n < b := by simp only [decide_eq_true_eq] at hb; omega
      refine aU ?_
      refine a4f (a8a he hc N (l := m2) (o := o) (v := v) (a := mid) (c := n) (b := b) (j := j) zO zO hlt hlt2 zO u3 u4) hS (by rw [hm2, hml]; rfl) (by repeat (first | exact Spl.nil | refine Spl.cons (by repeat (first | exact Pk.here | apply Pk.there | apply Pk.skip)) ?_ | refine Spl.app (by repeat (first | exact PkC.here | apply PkC.there | apply PkC.skip)) ?_)) (fun r S L' hL hS => ?_)
      obtain ⟨m3, q1, q2, rfl⟩ := hL
      refine aU ?_
      exact ⟨trivial, _, rfl, _, ⟨m3, hMv.trans ((hM2.mono (Nat.le_refl _) zO).trans (q1.mono zO (Nat.le_refl _))), a6r hM2 q1 zO zO hs2 q2 t5, rfl⟩, hS⟩
     ·have hge2 : n = b := by simp only [decide_eq_false_iff_not] at hb; omega
      refine aU ?_
      exact ⟨trivial, _, rfl, _, ⟨m2, hMv.trans (hM2.mono (Nat.le_refl _) zO), a6r hM2 .refl zO zO hs2 (by rw [← hge2]; exact u3) t5, rfl⟩, hS⟩
    ·have hge2 : n = mid := by simp only [decide_eq_false_iff_not, Bool.not_true] at hb; omega
     refine aU ?_
     refine n6 (t := false) rfl (fun hb => by cases hb) (fun _ => ?_)
     refine aU ?_
     exact ⟨trivial, _, rfl, _, ⟨m2, hMv.trans (hM2.mono (Nat.le_refl _) zO), a6r hM2 .refl zO zO hs2 (by rw [← hge2]; exact u4) t5, rfl⟩, hS⟩
end
end Go.Proofs.YtepdcebjobjjgaaDoor

/- slices.SortStableFunc: the walk. -/
namespace Go.Ab
universe u
variable {α : Type u} {key : α → Int} {w lo a n q : Nat} {L L' : List α}
def b3E (key : α → Int) (w lo n : Nat) (L : List α) : Prop := ∀ t, SrtR key (lo + w * t) (min (lo + w * t + w) n) L
def b5j (key : α → Int) (w a : Nat) (L : List α) : Prop := ∀ t, w * t < a → SrtR key (w * t) (w * t + w) L
theorem b5j.zero : b5j key w 0 L := fun t h => by omega
theorem b5j.step (h : b5j key w a L) (ha : a = w * q) (hM : ∀ i, i < a → L'[i]? = L[i]?) (hs : SrtR key a (a + w) L') : b5j key w (a + w) L' := by
 intro t ht
 by_cases c : t < q
 ·have : w * (t + 1) ≤ w * q := Nat.mul_le_mul_left _ c
  rw [Nat.mul_succ] at this
  refine (h t (by by_cases d : w = 0; · subst d; simp at *; omega
                  ·omega)).cong fun i p r => hM i zO
 ·by_cases c2 : t = q
  ·subst c2; rw [← ha]; exact hs
  ·have : w * (q + 1) ≤ w * t := Nat.mul_le_mul_left _ zO
   rw [Nat.mul_succ] at this
   omega
theorem b5j.fin (h : b5j key w a L) (ha : a = w * q) (hM : ∀ i, i < a → L'[i]? = L[i]?) (hs : SrtR key a n L') (hn : n < a + w) : b3E key w 0 n L' := by
 intro t
 rw [Nat.zero_add]
 by_cases c : t < q
 ·have : w * (t + 1) ≤ w * q := Nat.mul_le_mul_left _ c
  rw [Nat.mul_succ] at this
  have hw : 0 < w := by
   rcases Nat.eq_zero_or_pos w with d | d
   ·subst d; simp at *; omega
   ·exact d
  exact ((h t zO).cong fun i p r => hM i zO).sub (Nat.le_refl _) (Nat.min_le_left _ _)
 ·by_cases c2 : t = q
  ·subst c2; rw [← ha]; exact hs.sub (Nat.le_refl _) (Nat.min_le_right _ _)
  ·have : w * (q + 1) ≤ w * t := Nat.mul_le_mul_left _ zO
   rw [Nat.mul_succ] at this
   exact .nil zO
theorem b3E.move (h : b3E key w lo n L) (k : Nat) (hM : ∀ i, lo + w * k ≤ i → L'[i]? = L[i]?) : b3E key w (lo + w * k) n L' := by
 intro t
 have := h (k + t)
 rw [Nat.mul_add, ← Nat.add_assoc] at this
 exact this.cong fun i p r => hM i zO
theorem b3E.head (h : b3E key w lo n L) : SrtR key lo (min (lo + w) n) L := by simpa using h 0
theorem b3E.snd (h : b3E key w lo n L) : SrtR key (lo + w) (min (lo + w + w) n) L := by simpa using h 1
end Go.Ab
namespace Go.Proofs.YtepdcebjobjjgaaDoor
open Go Go.Ab
set_option maxRecDepth 20000
set_option maxHeartbeats 4000000
def c9y : FC := .reg [⟨(some 6), none, .op (.mv (.v (.int .i64 20)))⟩] []
def c9z : FC := .reg [⟨(some 10), none, .op (.mv (.t 6))⟩,  ⟨(some 7), none, .op (.mv (.v (.int .i64 0)))⟩,  ⟨(some 8), none, .op (.mv (.t 10))⟩] []
def c9A : FC := .reg [⟨(some 11), none, .op (.mv (.t 8))⟩,  ⟨(some 12), none, .op (.mv (.t 1))⟩,  ⟨(some 13), none, .op (.bin .none .leq (.t 11) (.t 12))⟩] []
def c9B : FC := .cond (.t 13) FC.skip (FC.exit 0)
def c9C : FC := .seq c9A c9B
def c9D : FC := .reg [⟨(some 14), none, .op (.mv (.t 0))⟩,  ⟨(some 15), none, .op (.mv (.t 7))⟩,  ⟨(some 16), none, .op (.mv (.t 8))⟩,  ⟨(some 17), none, .op (.mv (.t 2))⟩,  ⟨(some 18), none, .call 59 [(.t 14), (.t 15), (.t 16), (.t 17)]⟩] []
def c9E : FC := .reg [⟨(some 19), none, .op (.mv (.t 8))⟩,  ⟨(some 7), none, .op (.mv (.t 19))⟩] []
def c9F : FC := .reg [⟨(some 20), none, .op (.mv (.t 8))⟩,  ⟨(some 21), none, .op (.mv (.t 6))⟩,  ⟨(some 22), none, .op (.bin .none .add (.t 20) (.t 21))⟩,  ⟨(some 8), none, .op (.mv (.t 22))⟩] []
def c9G : FC := .seq c9E c9F
def c3X : FC := .seq c9D c9G
def c3Y : FC := .block 1 c3X
def c3Z : FC := .seq c9C c3Y
def c4a : FC := .loop c3Z
def c4b : FC := .block 0 c4a
def c4c : FC := .reg [⟨(some 23), none, .op (.mv (.t 0))⟩,  ⟨(some 24), none, .op (.mv (.t 7))⟩,  ⟨(some 25), none, .op (.mv (.t 1))⟩,  ⟨(some 26), none, .op (.mv (.t 2))⟩,  ⟨(some 27), none, .call 59 [(.t 23), (.t 24), (.t 25), (.t 26)]⟩] []
def c4d : FC := .reg [⟨(some 28), none, .op (.mv (.t 6))⟩,  ⟨(some 29), none, .op (.mv (.t 1))⟩,  ⟨(some 30), none, .op (.bin .none .lss (.t 28) (.t 29))⟩] []
def c4e : FC := .cond (.t 30) FC.skip (FC.exit 2)
def c4f : FC := .seq c4d c4e
def c4g : FC := .reg [⟨(some 31), none, .op (.mv (.t 6))⟩,  ⟨(some 32), none, .op (.bin .none .mul (.v (.int .i64 2)) (.t 31))⟩,  ⟨(some 7), none, .op (.mv (.v (.int .i64 0)))⟩,  ⟨(some 8), none, .op (.mv (.t 32))⟩] []
def c4h : FC := .reg [⟨(some 33), none, .op (.mv (.t 8))⟩,  ⟨(some 34), none, .op (.mv (.t 1))⟩,  ⟨(some 35), none, .op (.bin .none .leq (.t 33) (.t 34))⟩] []
def c4i : FC := .cond (.t 35) FC.skip (FC.exit 4)
def c4j : FC := .seq c4h c4i
def c4k : FC := .reg [⟨(some 36), none, .op (.mv (.t 0))⟩,  ⟨(some 37), none, .op (.mv (.t 7))⟩,  ⟨(some 38), none, .op (.mv (.t 7))⟩,  ⟨(some 39), none, .op (.mv (.t 6))⟩,  ⟨(some 40), none, .op (.bin .none .add (.t 38) (.t 39))⟩,  ⟨(some 41), none, .op (.mv (.t 8))⟩,  ⟨(some 42), none, .op (.mv (.t 2))⟩,  ⟨(some 43), none, .call 60 [(.t 36), (.t 37), (.t 40), (.t 41), (.t 42)]⟩] []
def c4l : FC := .reg [⟨(some 44), none, .op (.mv (.t 8))⟩,  ⟨(some 7), none, .op (.mv (.t 44))⟩] []
def c4m : FC := .reg [⟨(some 45), none, .op (.mv (.t 8))⟩,  ⟨(some 46), none, .op (.mv (.t 6))⟩,  ⟨(some 47), none, .op (.bin .none .mul (.v (.int .i64 2)) (.t 46))⟩,  ⟨(some 48), none, .op (.bin .none .add (.t 45) (.t 47))⟩,  ⟨(some 8), none, .op (.mv (.t 48))⟩] []
def c4n : FC := .seq c4l c4m
def c4o : FC := .seq c4k c4n
def c4p : FC := .block 5 c4o
def c4q : FC := .seq c4j c4p
def c4r : FC := .loop c4q
def c4s : FC := .block 4 c4r
def c4t : FC := .reg [⟨(some 49), none, .op (.mv (.t 7))⟩,  ⟨(some 50), none, .op (.mv (.t 6))⟩,  ⟨(some 51), none, .op (.bin .none .add (.t 49) (.t 50))⟩,  ⟨(some 9), none, .op (.mv (.t 51))⟩] []
def c4u : FC := .reg [⟨(some 52), none, .op (.mv (.t 9))⟩,  ⟨(some 53), none, .op (.mv (.t 1))⟩,  ⟨(some 54), none, .op (.bin .none .lss (.t 52) (.t 53))⟩] []
def c4v : FC := .reg [⟨(some 55), none, .op (.mv (.t 0))⟩,  ⟨(some 56), none, .op (.mv (.t 7))⟩,  ⟨(some 57), none, .op (.mv (.t 9))⟩,  ⟨(some 58), none, .op (.mv (.t 1))⟩,  ⟨(some 59), none, .op (.mv (.t 2))⟩,  ⟨(some 60), none, .call 60 [(.t 55), (.t 56), (.t 57), (.t 58), (.t 59)]⟩] []
def c4w : FC := .cond (.t 54) c4v FC.skip
def c4x : FC := .seq c4u c4w
def c4y : FC := .seq c4t c4x
def c4z : FC := .reg [⟨(some 61), none, .op (.mv (.t 6))⟩,  ⟨(some 62), none, .op (.bin .none .mul (.t 61) (.v (.int .i64 2)))⟩,  ⟨(some 6), none, .op (.mv (.t 62))⟩] []
def c4A : FC := .seq c4y c4z
def c4B : FC := .seq c4s c4A
def c4C : FC := .seq c4g c4B
def c4D : FC := .block 3 c4C
def c4E : FC := .seq c4f c4D
def c4F : FC := .loop c4E
def c4G : FC := .block 2 c4F
def c4H : FC := .seq c4c c4G
def c4I : FC := .seq c4b c4H
def c4J : FC := .seq c9z c4I
def c4K : FC := .seq c9y c4J
def d4w : FC := c4K
theorem d4x : Fn3 Tryd.prog 36 63 [] d4w := ⟨_, _, Tryd.func36, rfl, rfl, rfl, by kernel_rfl⟩

def c9H : FC := .reg [⟨(some 4), none, .op (.mv (.t 0))⟩,  ⟨(some 5), none, .op (.mv (.t 0))⟩,  ⟨(some 6), none, .op (.len .sl (.t 5))⟩,  ⟨(some 7), none, .op (.mv (.t 1))⟩,  ⟨(some 8), none, .call 36 [(.t 4), (.t 6), (.t 7)]⟩] []
def d4y : FC := c9H
theorem d4z : Fn3 Tryd.prog 16 9 [] d4y := ⟨_, _, Tryd.func16, rfl, rfl, rfl, by kernel_rfl⟩

section
variable {α : Type} {f : α → AV} {key : α → Int}
theorem d3j {a : Nat} (h : a ≤ 1000000000) : IntKind.i64.wrap (2 * (a : Int)) = ((2 * a : Nat) : Int) := by rw [s3 zO]; omega
theorem c9I {a : Nat} (h : a ≤ 1000000000) : IntKind.i64.wrap ((a : Int) * 2) = ((2 * a : Nat) : Int) := by rw [s3 zO]; omega
theorem b7K (he : Enc f (some 4)) (hc : a9i f key) {l : List α} {o v : Nat} {j : List AV} (hl : l.length ≤ 100000000) :
  Tri Tryd.prog 36 [.ref o v 0 l.length (some 4), .int .i64 l.length, cvF] [(o, v, flat f l ++ j)] (fun _ L' => ∃ l' : List α, Mv 0 l.length l l' ∧ SrtR key 0 l.length l' ∧ L' = [(o, v, flat f l' ++ j)]) := by
 refine y6 mixed d4x zS [] (fun R S hS => ?_)
 refine aU ?_
 refine j7 (a0e (σ := Nat × List α) (fun s => [(0, .ref o v 0 l.length (some 4)), (1, .int .i64 l.length), (2, cvF), (6, .int .i64 20), (7, .int .i64 (s.1 : Int)), (8, .int .i64 ((s.1 + 20 : Nat) : Int))]) (fun s => (o, v, flat f s.2 ++ j) :: R)
  (fun s => s.1 ≤ l.length ∧ (∃ q, s.1 = 20 * q) ∧ Mv 0 l.length l s.2 ∧ b5j key 20 s.1 s.2) (fun s => l.length - s.1) (0, l) hS ⟨Nat.zero_le _, ⟨0, rfl⟩, .refl, .zero⟩
  (k9 ⟨.refl _, .refl _, .refl _, .refl _, .refl _, .refl _, trivial⟩) (fun s S hI hS => ?_))
 obtain ⟨a, m⟩ := s
 obtain ⟨i1, ⟨q, i2⟩, hM, hD⟩ := hI
 dsimp only at i1 i2 hM hD hS
 have hm := hM.len
 refine aU ?_
 dsimp only
 refine n6 rfl (fun hb => ?_) (fun hb => ?_)
 ·have hle : a + 20 ≤ l.length := by simp only [decide_eq_true_eq] at hb; omega
  refine aU ?_
  refine j7 ?_
  refine aU ?_
  refine a4f (b0S he hc (l := m) (o := o) (v := v) (a := a) (b := a + 20) (j := j) zO zO zO) hS (by rw [hm]; rfl) (by repeat (first | exact Spl.nil | refine Spl.cons (by repeat (first | exact Pk.here | apply Pk.there | apply Pk.skip)) ?_ | refine Spl.app (by repeat (first | exact PkC.here | apply PkC.there | apply PkC.skip)) ?_)) (fun r S L' hL hS => ?_)
  obtain ⟨m2, q1, q2, rfl⟩ := hL
  refine aU ?_
  refine k8 ?_
  refine aU ?_
  refine ⟨(a + 20, m2), ⟨hle, ⟨q + 1, by simp only; omega⟩, hM.trans (q1.mono (Nat.zero_le _) hle), hD.step i2 (fun i h => q1.out i zO) q2⟩, by simp only; omega, hS, k9 ⟨.refl _, .refl _, .refl _, .refl _, .refl _, a2P (a9U (b := 20) zO), trivial⟩⟩
 ·have hgt : l.length < a + 20 := by simp only [decide_eq_false_iff_not] at hb; omega
  refine x6 ?_
  (repeat (first | refine n8 ?_ | refine r8 ?_ | refine s4 rfl ?_ | refine j4 ?_ | refine l6 ?_ | refine k8 ?_))
  refine aU ?_
  refine a4f (b0S he hc (l := m) (o := o) (v := v) (a := a) (b := l.length) (j := j) zO zO zO) hS (by rw [hm]; rfl) (by repeat (first | exact Spl.nil | refine Spl.cons (by repeat (first | exact Pk.here | apply Pk.there | apply Pk.skip)) ?_ | refine Spl.app (by repeat (first | exact PkC.here | apply PkC.there | apply PkC.skip)) ?_)) (fun r S L' hL hS => ?_)
  obtain ⟨m2, q1, q2, rfl⟩ := hL
  have hB := hD.fin (n := l.length) i2 (fun i h => q1.out i zO) q2 hgt
  have hM2 := hM.trans (q1.mono (Nat.zero_le _) (Nat.le_refl _))
  refine aU ?_
  refine j7 (a0e (σ := Nat × List α) (fun s => [(0, .ref o v 0 l.length (some 4)), (1, .int .i64 l.length), (2, cvF), (6, .int .i64 (s.1 : Int))]) (fun s => (o, v, flat f s.2 ++ j) :: R)
   (fun s => 0 < s.1 ∧ s.1 ≤ 1000000000 ∧ Mv 0 l.length l s.2 ∧ b3E key s.1 0 l.length s.2) (fun s => l.length - s.1) (20, m2) hS ⟨by simp only; omega, by simp only; omega, hM2, hB⟩
   (k9 ⟨.refl _, .refl _, .refl _, .refl _, trivial⟩) (fun s S hI hS => ?_))
  obtain ⟨w, m3⟩ := s
  obtain ⟨w1, w2, hM3, hB3⟩ := hI
  dsimp only at w1 w2 hM3 hB3 hS
  refine aU ?_
  dsimp only
  refine n6 rfl (fun hb => ?_) (fun hb => ?_)
  ·have hlt : w < l.length := by simp only [decide_eq_true_eq] at hb; omega
   refine aU ?_
   refine j7 ?_
   refine aU ?_
   refine j7 (a0e (σ := Nat × List α) (fun s => [(0, .ref o v 0 l.length (some 4)), (1, .int .i64 l.length), (2, cvF), (6, .int .i64 (w : Int)), (7, .int .i64 (s.1 : Int)), (8, .int .i64 ((s.1 + 2 * w : Nat) : Int))]) (fun s => (o, v, flat f s.2 ++ j) :: R)
    (fun s => s.1 ≤ l.length ∧ (∃ q, s.1 = (2 * w) * q) ∧ Mv 0 l.length l s.2 ∧ b5j key (2 * w) s.1 s.2 ∧ b3E key w s.1 l.length s.2) (fun s => l.length - s.1) (0, m3) hS ⟨Nat.zero_le _, ⟨0, rfl⟩, hM3, .zero, hB3⟩
    (k9 ⟨.refl _, .refl _, .refl _, .refl _, .refl _, a2P (by rw [d3j zO]; simp), trivial⟩) (fun s S hI hS => ?_))
   obtain ⟨a, m⟩ := s
   obtain ⟨i1, ⟨q, i2⟩, hM, hD, hB⟩ := hI
   dsimp only at i1 i2 hM hD hB hS
   have hm := hM.len
   refine aU ?_
   dsimp only
   refine n6 rfl (fun hb => ?_) (fun hb => ?_)
   ·have hle : a + 2 * w ≤ l.length := by simp only [decide_eq_true_eq] at hb; omega
    refine aU ?_
    refine j7 ?_
    refine aU ?_
    refine a4f (a8a he hc l.length (l := m) (o := o) (v := v) (a := a) (c := a + w) (b := a + 2 * w) (j := j) zO zO zO zO zO (hB.head.sub (Nat.le_refl _) zO) (hB.snd.sub (Nat.le_refl _) zO)) hS
     (by show [AV.ref o v 0 l.length (some 4), .int .i64 a, .int .i64 (IntKind.i64.wrap ((a : Int) + (w : Int))), .int .i64 ((a + 2 * w : Nat) : Int), cvF] = _; rw [a9U zO, hm]) (by repeat (first | exact Spl.nil | refine Spl.cons (by repeat (first | exact Pk.here | apply Pk.there | apply Pk.skip)) ?_ | refine Spl.app (by repeat (first | exact PkC.here | apply PkC.there | apply PkC.skip)) ?_)) (fun r S L' hL hS => ?_)
    obtain ⟨m4, q1, q2, rfl⟩ := hL
    refine aU ?_
    refine k8 ?_
    refine aU ?_
    refine ⟨(a + 2 * w, m4), ⟨hle, ⟨q + 1, by simp only; rw [Nat.mul_succ]; omega⟩, hM.trans (q1.mono (Nat.zero_le _) hle), hD.step i2 (fun i h => q1.out i zO) q2, ?_⟩, by simp only; omega, hS, k9 ⟨.refl _, .refl _, .refl _, .refl _, .refl _, a2P (by rw [d3j zO]; exact a9U zO), trivial⟩⟩
    have := hB.move 2 (L' := m4) (fun i h => q1.out i zO)
    rw [Nat.mul_comm w 2] at this
    exact this
   ·have hgt2 : l.length < a + 2 * w := by simp only [decide_eq_false_iff_not] at hb; omega
    refine x6 ?_
    (repeat (first | refine n8 ?_ | refine r8 ?_ | refine s4 rfl ?_ | refine j4 ?_ | refine l6 ?_ | refine k8 ?_))
    refine g7 ?_
    refine a8O (σ := List α) (fun _ => [(0, .ref o v 0 l.length (some 4)), (1, .int .i64 l.length), (2, cvF), (6, .int .i64 (w : Int))]) (fun m => (o, v, flat f m ++ j) :: R) (fun m2 => Mv 0 l.length l m2 ∧ b3E key (2 * w) 0 l.length m2) ?_ (fun m2 S hm2 hS => ?_)
    ·refine aU ?_
     refine n6 rfl (fun hb => ?_) (fun hb => ?_)
     ·have hlt2 : a + w < l.length := by rw [a9U zO] at hb; simp only [decide_eq_true_eq] at hb; omega
      refine aU ?_
      refine a4f (a8a he hc l.length (l := m) (o := o) (v := v) (a := a) (c := a + w) (b := l.length) (j := j) zO zO zO zO zO (hB.head.sub (Nat.le_refl _) zO) (hB.snd.sub (Nat.le_refl _) zO)) hS (by show [AV.ref o v 0 l.length (some 4), .int .i64 a, .int .i64 (IntKind.i64.wrap ((a : Int) + (w : Int))), .int .i64 l.length, cvF] = _; rw [a9U zO, hm]) (by repeat (first | exact Spl.nil | refine Spl.cons (by repeat (first | exact Pk.here | apply Pk.there | apply Pk.skip)) ?_ | refine Spl.app (by repeat (first | exact PkC.here | apply PkC.there | apply PkC.skip)) ?_)) (fun r S L' hL hS => ?_)
      obtain ⟨m4, q1, q2, rfl⟩ := hL
      refine aU ?_
      exact v7 ⟨m4, ⟨hM.trans (q1.mono (Nat.zero_le _) (Nat.le_refl _)), hD.fin i2 (fun i h => q1.out i zO) q2 hgt2⟩, hS, k9 ⟨.refl _, .refl _, .refl _, .refl _, trivial⟩⟩
     ·have hge2 : l.length ≤ a + w := by rw [a9U zO] at hb; simp only [decide_eq_false_iff_not] at hb; omega
      refine aU ?_
      exact v7 ⟨m, ⟨hM, hD.fin i2 (fun i h => rfl) (hB.head.sub (Nat.le_refl _) zO) hgt2⟩, hS, k9 ⟨.refl _, .refl _, .refl _, .refl _, trivial⟩⟩
    refine aU ?_
    refine k8 ?_
    refine aU ?_
    refine ⟨(2 * w, m2), ⟨by simp only; omega, by simp only; omega, hm2.1, hm2.2⟩, by simp only; omega, hS, k9 ⟨.refl _, .refl _, .refl _, a2P (c9I zO), trivial⟩⟩
  ·have hge : l.length ≤ w := by simp only [decide_eq_false_iff_not] at hb; omega
   refine x6 ?_
   (repeat (first | refine n8 ?_ | refine r8 ?_ | refine s4 rfl ?_ | refine j4 ?_ | refine l6 ?_ | refine k8 ?_))
   exact ⟨trivial, _, rfl, _, ⟨m3, hM3, hB3.head.sub (Nat.le_refl _) zO, rfl⟩, hS⟩
theorem b5k (he : Enc f (some 4)) (hc : a9i f key) {l : List α} {o v : Nat} {j : List AV} (hl : l.length ≤ 100000000) :
  Tri Tryd.prog 16 [.ref o v 0 l.length (some 4), cvF] [(o, v, flat f l ++ j)] (fun _ L' => ∃ l' : List α, l'.Perm l ∧ SrtR key 0 l'.length l' ∧ L' = [(o, v, flat f l' ++ j)]) := by
 refine y6 mixed d4z zS [] (fun R S hS => ?_)
 refine aU ?_
 refine a4f (b7K he hc (l := l) (o := o) (v := v) (j := j) hl) hS rfl (by repeat (first | exact Spl.nil | refine Spl.cons (by repeat (first | exact Pk.here | apply Pk.there | apply Pk.skip)) ?_ | refine Spl.app (by repeat (first | exact PkC.here | apply PkC.there | apply PkC.skip)) ?_)) (fun r S L' hL hS => ?_)
 obtain ⟨m, q1, q2, rfl⟩ := hL
 refine aU ?_
 exact ⟨trivial, _, rfl, _, ⟨m, q1.perm, by rw [q1.len]; exact q2, rfl⟩, hS⟩
end
end Go.Proofs.YtepdcebjobjjgaaDoor

/- container/heap b4c scan.ends: the walks. -/
namespace Go.Proofs.YtepdcebjobjjgaaDoor
open Go Go.Ab
set_option maxRecDepth 20000
set_option maxHeartbeats 2000000
def c4L : FC := .reg [⟨(some 6), none, .op (.mv (.v (.bool false)))⟩] []
def c4M : FC := .reg [⟨(some 7), none, .op (.mv (.t 0))⟩,  ⟨(some 8), none, .op (.mv (.t 1))⟩,  ⟨(some 9), none, .op (.iad none (some 2) (.t 7) (.t 8))⟩,  ⟨(some 10), none, .op (.fad 0 (.t 9))⟩,  ⟨(some 11), none, .op (.load none (.t 10))⟩,  ⟨(some 12), none, .op (.mv (.t 0))⟩,  ⟨(some 13), none, .op (.mv (.t 2))⟩,  ⟨(some 14), none, .op (.iad none (some 2) (.t 12) (.t 13))⟩,  ⟨(some 15), none, .op (.fad 0 (.t 14))⟩,  ⟨(some 16), none, .op (.load none (.t 15))⟩,  ⟨(some 17), none, .op (.bin .none .lss (.t 11) (.t 16))⟩,  ⟨(some 6), none, .op (.mv (.t 17))⟩] []
def c4N : FC := .seq c4M FC.ret
def c4O : FC := .seq c4L c4N
def c9J : FC := c4O
theorem c9K : Fn3 Tryd.prog 105 18 [(6, none)] c9J := ⟨_, _, Tryd.func105, rfl, rfl, rfl, by kernel_rfl⟩

def c4P : FC := .reg [⟨(some 6), none, .op (.mv (.t 0))⟩,  ⟨(some 7), none, .op (.mv (.t 1))⟩,  ⟨(some 8), none, .op (.mv (.t 0))⟩,  ⟨(some 9), none, .op (.mv (.t 2))⟩,  ⟨(some 10), none, .op (.mv (.t 0))⟩,  ⟨(some 11), none, .op (.mv (.t 2))⟩,  ⟨(some 12), none, .op (.iad none (some 2) (.t 10) (.t 11))⟩,  ⟨(some 13), none, .op (.load (some 2) (.t 12))⟩,  ⟨(some 14), none, .op (.mv (.t 0))⟩,  ⟨(some 15), none, .op (.mv (.t 1))⟩,  ⟨(some 16), none, .op (.iad none (some 2) (.t 14) (.t 15))⟩,  ⟨(some 17), none, .op (.load (some 2) (.t 16))⟩,  ⟨(some 18), none, .op (.iad none (some 2) (.t 6) (.t 7))⟩,  ⟨none, none, .op (.store 2 (.t 18) (.t 13))⟩,  ⟨(some 19), none, .op (.iad none (some 2) (.t 8) (.t 9))⟩,  ⟨none, none, .op (.store 2 (.t 19) (.t 17))⟩] []
def c9L : FC := c4P
theorem c9M : Fn3 Tryd.prog 106 20 [] c9L := ⟨_, _, Tryd.func106, rfl, rfl, rfl, by kernel_rfl⟩

def c9N : FC := .reg [⟨(some 5), none, .op (.mv (.t 1))⟩,  ⟨(some 6), none, .op (.bin .none .sub (.t 5) (.v (.int .i64 1)))⟩,  ⟨(some 7), none, .op (.bin .none .quo (.t 6) (.v (.int .i64 2)))⟩,  ⟨(some 4), none, .op (.mv (.t 7))⟩] []
def c9O : FC := .reg [⟨(some 8), none, .op (.mv (.t 4))⟩,  ⟨(some 9), none, .op (.mv (.t 1))⟩,  ⟨(some 10), none, .op (.bin .none .eql (.t 8) (.t 9))⟩,  ⟨(some 11), none, .op (.mv (.t 10))⟩,  ⟨(some 12), some (11, false), .op (.mv (.t 0))⟩,  ⟨(some 13), some (11, false), .op (.mv (.t 1))⟩,  ⟨(some 14), some (11, false), .op (.mv (.t 4))⟩,  ⟨(some 15), some (11, false), .inv (.t 12) "Less" [(.t 13), (.t 14)]⟩,  ⟨(some 16), some (11, false), .op (.un .not (.t 15))⟩,  ⟨(some 17), none, .op (.pick (.t 11) (.v (.bool true)) (.t 16))⟩] []
def c9P : FC := .cond (.t 17) (FC.exit 0) FC.skip
def c9Q : FC := .seq c9O c9P
def c9R : FC := .reg [⟨(some 18), none, .op (.mv (.t 0))⟩,  ⟨(some 19), none, .op (.mv (.t 4))⟩,  ⟨(some 20), none, .op (.mv (.t 1))⟩,  ⟨(some 21), none, .inv (.t 18) "Swap" [(.t 19), (.t 20)]⟩] []
def c9S : FC := .reg [⟨(some 22), none, .op (.mv (.t 4))⟩,  ⟨(some 1), none, .op (.mv (.t 22))⟩] []
def c9T : FC := .seq c9R c9S
def c9U : FC := .seq c9Q c9T
def c9V : FC := .seq c9N c9U
def c4Q : FC := .block 1 c9V
def c4R : FC := .loop c4Q
def c4S : FC := .block 0 c4R
def d4A : FC := c4S
theorem d4B : Fn3 Tryd.prog 41 23 [] d4A := ⟨_, _, Tryd.func41, rfl, rfl, rfl, by kernel_rfl⟩

def c9W : FC := .reg [⟨(some 6), none, .op (.mv (.v (.bool false)))⟩] []
def c9X : FC := .reg [⟨(some 11), none, .op (.mv (.t 1))⟩,  ⟨(some 7), none, .op (.mv (.t 11))⟩] []
def c9Y : FC := .reg [⟨(some 12), none, .op (.mv (.t 7))⟩,  ⟨(some 13), none, .op (.bin .none .mul (.v (.int .i64 2)) (.t 12))⟩,  ⟨(some 14), none, .op (.bin .none .add (.t 13) (.v (.int .i64 1)))⟩,  ⟨(some 8), none, .op (.mv (.t 14))⟩] []
def c9Z : FC := .reg [⟨(some 15), none, .op (.mv (.t 8))⟩,  ⟨(some 16), none, .op (.mv (.t 2))⟩,  ⟨(some 17), none, .op (.bin .none .geq (.t 15) (.t 16))⟩,  ⟨(some 18), none, .op (.mv (.t 17))⟩,  ⟨(some 19), some (18, false), .op (.mv (.t 8))⟩,  ⟨(some 20), some (18, false), .op (.bin .none .lss (.t 19) (.v (.int .i64 0)))⟩,  ⟨(some 21), none, .op (.pick (.t 18) (.v (.bool true)) (.t 20))⟩] []
def d0a : FC := .cond (.t 21) (FC.exit 0) FC.skip
def d0b : FC := .seq c9Z d0a
def d0c : FC := .reg [⟨(some 22), none, .op (.mv (.t 8))⟩,  ⟨(some 9), none, .op (.mv (.t 22))⟩] []
def d0d : FC := .reg [⟨(some 23), none, .op (.mv (.t 8))⟩,  ⟨(some 24), none, .op (.bin .none .add (.t 23) (.v (.int .i64 1)))⟩,  ⟨(some 10), none, .op (.mv (.t 24))⟩] []
def d0e : FC := .reg [⟨(some 25), none, .op (.mv (.t 10))⟩,  ⟨(some 26), none, .op (.mv (.t 2))⟩,  ⟨(some 27), none, .op (.bin .none .lss (.t 25) (.t 26))⟩,  ⟨(some 28), none, .op (.mv (.t 27))⟩,  ⟨(some 29), some (28, true), .op (.mv (.t 0))⟩,  ⟨(some 30), some (28, true), .op (.mv (.t 10))⟩,  ⟨(some 31), some (28, true), .op (.mv (.t 8))⟩,  ⟨(some 32), some (28, true), .inv (.t 29) "Less" [(.t 30), (.t 31)]⟩,  ⟨(some 33), none, .op (.pick (.t 28) (.t 32) (.v (.bool false)))⟩] []
def c4T : FC := .reg [⟨(some 34), none, .op (.mv (.t 10))⟩,  ⟨(some 9), none, .op (.mv (.t 34))⟩] []
def c4U : FC := .cond (.t 33) c4T FC.skip
def c4V : FC := .seq d0e c4U
def c4W : FC := .seq d0d c4V
def c4X : FC := .reg [⟨(some 35), none, .op (.mv (.t 0))⟩,  ⟨(some 36), none, .op (.mv (.t 9))⟩,  ⟨(some 37), none, .op (.mv (.t 7))⟩,  ⟨(some 38), none, .inv (.t 35) "Less" [(.t 36), (.t 37)]⟩,  ⟨(some 39), none, .op (.un .not (.t 38))⟩] []
def c4Y : FC := .cond (.t 39) (FC.exit 0) FC.skip
def c4Z : FC := .seq c4X c4Y
def c5a : FC := .reg [⟨(some 40), none, .op (.mv (.t 0))⟩,  ⟨(some 41), none, .op (.mv (.t 7))⟩,  ⟨(some 42), none, .op (.mv (.t 9))⟩,  ⟨(some 43), none, .inv (.t 40) "Swap" [(.t 41), (.t 42)]⟩] []
def c5b : FC := .reg [⟨(some 44), none, .op (.mv (.t 9))⟩,  ⟨(some 7), none, .op (.mv (.t 44))⟩] []
def c5c : FC := .seq c5a c5b
def c5d : FC := .seq c4Z c5c
def c5e : FC := .seq c4W c5d
def c5f : FC := .seq d0c c5e
def c5g : FC := .seq d0b c5f
def c5h : FC := .seq c9Y c5g
def c5i : FC := .block 1 c5h
def c5j : FC := .loop c5i
def c5k : FC := .block 0 c5j
def c5l : FC := .reg [⟨(some 45), none, .op (.mv (.t 7))⟩,  ⟨(some 46), none, .op (.mv (.t 1))⟩,  ⟨(some 47), none, .op (.bin .none .gtr (.t 45) (.t 46))⟩,  ⟨(some 6), none, .op (.mv (.t 47))⟩] []
def c5m : FC := .seq c5l FC.ret
def c5n : FC := .seq c5k c5m
def c5o : FC := .seq c9X c5n
def c5p : FC := .seq c9W c5o
def d4C : FC := c5p
theorem d4D : Fn3 Tryd.prog 38 48 [(6, none)] d4C := ⟨_, _, Tryd.func38, rfl, rfl, rfl, by kernel_rfl⟩

def sbz (x : Int × Int) : AV := .agg [.int .i64 x.1, .int .i64 x.2]
theorem a8b : Enc sbz (some 2) := ⟨fun _ => rfl, fun _ => rfl, fun _ => rfl, fun x n => j5 ⟨rfl, rfl, trivial⟩⟩
def toK (x : Int × Int) : Int := x.1
theorem a8c {h : List (Int × Int)} {o v i j : Nat} {jj : List AV} {x y : Int × Int} (hl : h.length ≤ 1000000000) (hx : h[i]? = some x) (hy : h[j]? = some y) :
  Tri Tryd.prog 105 [.ref o v 0 h.length (some 2), .int .i64 i, .int .i64 j] [(o, v, flat sbz h ++ jj)] (fun r L' => r = .bool (decide (toK x < toK y)) ∧ L' = [(o, v, flat sbz h ++ jj)]) := by
 have h1 := (List.getElem?_eq_some_iff.1 hx).1
 have h2 := (List.getElem?_eq_some_iff.1 hy).1
 refine y6 mixed c9K zS [] (fun R S hS => ?_)
 refine aU ?_
 refine w5 rfl rfl i rfl h1 ?_
 refine aU ?_
 refine a0N hS a8b rfl zM (n := i) (fo := 0) (y := x) (by simp [f4]) hx rfl ?_
 refine aU ?_
 refine w5 rfl rfl j rfl h2 ?_
 refine aU ?_
 refine a0N hS a8b rfl zM (n := j) (fo := 0) (y := y) (by simp [f4]) hy rfl ?_
 refine aU ?_
 refine i9 ?_
 (repeat (first | refine n8 ?_ | refine r8 ?_ | refine s4 rfl ?_ | refine j4 ?_ | refine l6 ?_ | refine k8 ?_))
 exact ⟨trivial, _, rfl, _, ⟨rfl, rfl⟩, hS⟩
theorem a6t {h : List (Int × Int)} {o v i j : Nat} {jj : List AV} {x y : Int × Int} (hl : h.length ≤ 1000000000) (hx : h[i]? = some x) (hy : h[j]? = some y) :
  Tri Tryd.prog 106 [.ref o v 0 h.length (some 2), .int .i64 i, .int .i64 j] [(o, v, flat sbz h ++ jj)] (fun _ L' => L' = [(o, v, flat sbz ((h.set i y).set j x) ++ jj)]) := by
 have h1 := (List.getElem?_eq_some_iff.1 hx).1
 have h2 := (List.getElem?_eq_some_iff.1 hy).1
 have hz : (h.set i y)[j]? = some y := by
  by_cases e : i = j
  ·subst e; rw [List.getElem?_set_self h1]
  ·rw [List.getElem?_set_ne e]; exact hy
 refine y6 mixed c9M zS [] (fun R S hS => ?_)
 refine aU ?_
 refine w5 rfl rfl j rfl h2 ?_
 refine a0N hS a8b rfl zM (n := j) (fo := 0) (y := y) (by simp [f4]) hy rfl ?_
 refine aU ?_
 refine w5 rfl rfl i rfl h1 ?_
 refine a0N hS a8b rfl zM (n := i) (fo := 0) (y := x) (by simp [f4]) hx rfl ?_
 refine w5 rfl rfl i rfl h1 ?_
 refine a4G (l := h) (j := jj) hS a8b rfl zC (n := i) (fo := 0) (y := x) (y' := y) (by simp [f4]) hx (by first | exact Rp.here | (repeat (first | exact Rp.here | apply Rp.there | apply Rp.skip))) rfl rfl (by simp [f4]) rfl (fun S hS => ?_)
 refine w5 rfl rfl j rfl h2 ?_
 refine a4G (l := h.set i y) (j := jj) hS a8b rfl zC (n := j) (fo := 0) (y := y) (y' := x) (by simp [f4]) hz (by first | exact Rp.here | (repeat (first | exact Rp.here | apply Rp.there | apply Rp.skip))) rfl rfl (by simp [f4]) rfl (fun S hS => ?_)
 refine aU ?_
 exact ⟨trivial, _, rfl, _, rfl, hS⟩
theorem d4E {k : Nat} (h : k ≤ 4611686018427387904) : IntKind.i64.wrap ((IntKind.i64.wrap ((k : Int) - 1)).tdiv 2) = (((k - 1) / 2 : Nat) : Int) := by
 by_cases e : k = 0
 ·subst e; decide
 ·have e1 : IntKind.i64.wrap ((k : Int) - 1) = ((k - 1 : Nat) : Int) := b8Q zO zO
  rw [e1, Int.tdiv_eq_ediv_of_nonneg zO, s3 zO]
  omega
theorem a9V : a1Q Tryd.prog 69 "Less" = none := by kernel_rfl
theorem b3F : a2X Tryd.prog 69 "Less" = some (105, none) := by kernel_rfl
theorem a9W : a1Q Tryd.prog 69 "Swap" = none := by kernel_rfl
theorem b3G : a2X Tryd.prog 69 "Swap" = some (106, none) := by kernel_rfl
theorem d0f : p9 Tryd.prog 105 = true := by kernel_rfl
theorem d0g : p9 Tryd.prog 106 = true := by kernel_rfl
theorem c5q {h : List (Int × Int)} {s vs o v j : Nat} {rest jj : List AV} (hl : h.length ≤ 1000000000) (hj : j < h.length) (hU : b3Z toK h.length j h) :
  Tri Tryd.prog 41 [.iface 69 (.ptr s vs 0), .int .i64 j] [(s, vs, .ref o v 0 h.length (some 2) :: rest), (o, v, flat sbz h ++ jj)] (fun _ L' => ∃ h', h'.Perm h ∧ HpI toK h'.length h' ∧ L' = [(s, vs, .ref o v 0 h.length (some 2) :: rest), (o, v, flat sbz h' ++ jj)]) := by
 refine y6 mixed d4B zS [] (fun R S hS => ?_)
 refine j7 (a0e (σ := Nat × List (Int × Int)) (fun q => [(0, .iface 69 (.ptr s vs 0)), (1, .int .i64 (q.1 : Int))]) (fun q => (s, vs, .ref o v 0 h.length (some 2) :: rest) :: (o, v, flat sbz q.2 ++ jj) :: R) (fun q => q.1 < h.length ∧ q.2.Perm h ∧ b3Z toK h.length q.1 q.2) (fun q => q.1) (j, h) hS ⟨hj, .refl _, hU⟩
  (k9 ⟨.refl _, .refl _, trivial⟩) (fun q S hI hS => ?_))
 obtain ⟨k, m⟩ := q
 obtain ⟨i1, hp, hU⟩ := hI
 dsimp only at i1 hp hU hS
 have hm := hp.length_eq
 refine j7 ?_
 refine aU ?_
 dsimp only
 have hq := d4E (k := k) zO
 refine m9 (b := (IntKind.i64.wrap ((IntKind.i64.wrap ((k : Int) - 1)).tdiv 2) == (k : Int))) rfl rfl rfl (fun hb => ?_) (fun hb => ?_)
 ·have hk : 0 < k := by
   rw [hq] at hb
   simp only [beq_eq_false_iff_ne, ne_eq] at hb
   omega
  obtain ⟨y, hy⟩ : ∃ y, m[k]? = some y := ⟨m[k], List.getElem?_eq_getElem zO⟩
  obtain ⟨x, hx⟩ : ∃ x, m[(k - 1) / 2]? = some x := ⟨m[(k - 1) / 2], List.getElem?_eq_getElem zO⟩
  refine aU ?_
  refine a3d (a8c (h := m) (o := o) (v := v) (i := k) (j := (k - 1) / 2) (jj := jj) zO hy hx) hS rfl a9V b3F d0f rfl (.head _) (y := .ref o v 0 h.length (some 2)) rfl
   (by show [AV.ref o v 0 h.length (some 2), .int .i64 k, .int .i64 (IntKind.i64.wrap ((IntKind.i64.wrap ((k : Int) - 1)).tdiv 2))] = _; rw [hq, hm]) (Spl.cons (Pk.there Pk.here) Spl.nil) (fun r S L' hL hS => ?_)
  obtain ⟨rfl, rfl⟩ := hL
  replace hS : Ab.Sep S ((s, vs, .ref o v 0 h.length (some 2) :: rest) :: (o, v, flat sbz m ++ jj) :: R) := hS.perm (List.Perm.swap _ _ _)
  refine aU ?_
  refine n6 rfl (fun hb => ?_) (fun hb => ?_)
  ·have hle : toK x ≤ toK y := by
    simp only [Bool.not_eq_true', decide_eq_false_iff_not] at hb; omega
   refine x6 ?_
   (repeat (first | refine n8 ?_ | refine r8 ?_ | refine s4 rfl ?_ | refine j4 ?_ | refine l6 ?_ | refine k8 ?_))
   exact ⟨trivial, _, rfl, _, ⟨m, hp, by rw [hm]; exact hU.fin1 hx hy hle, rfl⟩, hS⟩
  ·have hlt : toK y < toK x := by
    simp only [Bool.not_eq_false', decide_eq_true_eq] at hb; exact hb
   refine aU ?_
   refine a3d (a6t (h := m) (o := o) (v := v) (i := (k - 1) / 2) (j := k) (jj := jj) zO hx hy) hS rfl a9W b3G d0g rfl (.head _) (y := .ref o v 0 h.length (some 2)) rfl
    (by show [AV.ref o v 0 h.length (some 2), .int .i64 (IntKind.i64.wrap ((IntKind.i64.wrap ((k : Int) - 1)).tdiv 2)), .int .i64 k] = _; rw [hq, hm]) (Spl.cons (Pk.there Pk.here) Spl.nil) (fun r S L' hL hS => ?_)
   subst hL
   replace hS : Ab.Sep S ((s, vs, .ref o v 0 h.length (some 2) :: rest) :: (o, v, flat sbz ((m.set ((k - 1) / 2) y).set k x) ++ jj) :: R) := hS.perm (List.Perm.swap _ _ _)
   refine aU ?_
   refine k8 ?_
   refine aU ?_
   refine ⟨((k - 1) / 2, (m.set ((k - 1) / 2) y).set k x), ⟨by simp only; omega, (swap_perm hx hy).trans hp, hU.step hk i1 zO hx hy hlt⟩, by simp only; omega, hS, k9 ⟨.refl _, a2P hq, trivial⟩⟩
 ·have hk : k = 0 := by
   rw [hq] at hb
   simp only [Bool.not_false, beq_iff_eq] at hb
   omega
  subst hk
  refine aU ?_
  refine n6 (t := true) rfl (fun _ => ?_) (fun hb => by cases hb)
  refine x6 ?_
  (repeat (first | refine n8 ?_ | refine r8 ?_ | refine s4 rfl ?_ | refine j4 ?_ | refine l6 ?_ | refine k8 ?_))
  exact ⟨trivial, _, rfl, _, ⟨m, hp, by rw [hm]; exact hU.fin0, rfl⟩, hS⟩
theorem chw {k : Nat} (h : k ≤ 1000000000) : IntKind.i64.wrap (IntKind.i64.wrap (2 * (k : Int)) + 1) = ((2 * k + 1 : Nat) : Int) := by
 have e1 : IntKind.i64.wrap (2 * (k : Int)) = ((2 * k : Nat) : Int) := by rw [s3 zO]; omega
 rw [e1]; exact a5q zO
theorem b5l {h : List (Int × Int)} {s vs o v n : Nat} {rest jj : List AV} (hl : h.length ≤ 1000000000) (hn : n ≤ h.length) (hU : b4a toK n 0 h) :
  Tri Tryd.prog 38 [.iface 69 (.ptr s vs 0), .int .i64 0, .int .i64 n] [(s, vs, .ref o v 0 h.length (some 2) :: rest), (o, v, flat sbz h ++ jj)] (fun _ L' => ∃ h', h'.Perm h ∧ HpI toK n h' ∧ (∀ k, n ≤ k → h'[k]? = h[k]?) ∧ L' = [(s, vs, .ref o v 0 h.length (some 2) :: rest), (o, v, flat sbz h' ++ jj)]) := by
 refine y6 mixed d4D zS [] (fun R S hS => ?_)
 refine aU ?_
 refine j7 (a0e (σ := Nat × List (Int × Int)) (fun q => [(0, .iface 69 (.ptr s vs 0)), (1, .int .i64 0), (2, .int .i64 n), (6, .bool false), (7, .int .i64 (q.1 : Int))]) (fun q => (s, vs, .ref o v 0 h.length (some 2) :: rest) :: (o, v, flat sbz q.2 ++ jj) :: R) (fun q => q.1 ≤ h.length ∧ q.2.Perm h ∧ b4a toK n q.1 q.2 ∧ ∀ k, n ≤ k → q.2[k]? = h[k]?) (fun q => n - q.1) (0, h) hS ⟨Nat.zero_le _, .refl _, hU, fun _ _ => rfl⟩
  (k9 ⟨.refl _, .refl _, .refl _, .refl _, .refl _, trivial⟩) (fun q S hI hS => ?_))
 obtain ⟨i, m⟩ := q
 obtain ⟨i1, hp, hU, hO⟩ := hI
 dsimp only at i1 hp hU hS hO
 have hm := hp.length_eq
 have hq := chw (k := i) zO
 refine j7 ?_
 refine aU ?_
 dsimp only
 refine m9 (b := decide (IntKind.i64.wrap (IntKind.i64.wrap (2 * (i : Int)) + 1) ≥ (n : Int))) rfl rfl rfl (fun hb => ?_) (fun hb => ?_)
 ·have hin : 2 * i + 1 < n := by rw [hq] at hb; simp only [decide_eq_false_iff_not] at hb; omega
  refine aU ?_
  refine n6 (t := false) (by show AV.bool (decide (IntKind.i64.wrap (IntKind.i64.wrap (2 * (i : Int)) + 1) < 0)) = _; rw [hq]; exact congrArg AV.bool (decide_eq_false zO)) (fun hb => by cases hb) (fun _ => ?_)
  refine i7 ?_
  refine g7 ?_
  refine f8 ?_
  refine b9 ?_
  refine aS ?_
  refine b6 ?_
  refine g7 ?_
  obtain ⟨x, hx⟩ : ∃ x, m[i]? = some x := ⟨m[i], List.getElem?_eq_getElem zO⟩
  obtain ⟨y1, hy1⟩ : ∃ x, m[2 * i + 1]? = some x := ⟨m[2 * i + 1], List.getElem?_eq_getElem zO⟩
  have hq2 : IntKind.i64.wrap (IntKind.i64.wrap (IntKind.i64.wrap (2 * (i : Int)) + 1) + 1) = ((2 * i + 2 : Nat) : Int) := by rw [hq]; exact a5q zO
  refine a8O (σ := Nat) (fun j => [(0, .iface 69 (.ptr s vs 0)), (1, .int .i64 0), (2, .int .i64 n), (6, .bool false), (7, .int .i64 (i : Int)), (9, .int .i64 (j : Int))]) (fun _ => (s, vs, .ref o v 0 h.length (some 2) :: rest) :: (o, v, flat sbz m ++ jj) :: R)
   (fun j => (j = 2 * i + 1 ∨ j = 2 * i + 2) ∧ j < n ∧ ∀ c y z, 0 < c → c < n → (c - 1) / 2 = i → m[j]? = some y → m[c]? = some z → toK y ≤ toK z) ?_ (fun j S hj hS => ?_)
  ·refine aU ?_
   refine m9 (b := decide (IntKind.i64.wrap (IntKind.i64.wrap (IntKind.i64.wrap (2 * (i : Int)) + 1) + 1) < (n : Int))) rfl rfl rfl (fun hb => ?_) (fun hb => ?_)
   ·have h2n : 2 * i + 2 < n := by rw [hq2] at hb; simp only [decide_eq_true_eq] at hb; omega
    obtain ⟨y2, hy2⟩ : ∃ x, m[2 * i + 2]? = some x := ⟨m[2 * i + 2], List.getElem?_eq_getElem zO⟩
    refine aU ?_
    refine a3d (a8c (h := m) (o := o) (v := v) (i := 2 * i + 2) (j := 2 * i + 1) (jj := jj) zO hy2 hy1) hS rfl a9V b3F d0f rfl (.head _) (y := .ref o v 0 h.length (some 2)) rfl
     (by show [AV.ref o v 0 h.length (some 2), .int .i64 (IntKind.i64.wrap (IntKind.i64.wrap (IntKind.i64.wrap (2 * (i : Int)) + 1) + 1)), .int .i64 (IntKind.i64.wrap (IntKind.i64.wrap (2 * (i : Int)) + 1))] = _; rw [hq2, hq, hm]) (Spl.cons (Pk.there Pk.here) Spl.nil) (fun r S L' hL hS => ?_)
    obtain ⟨rfl, rfl⟩ := hL
    replace hS : Ab.Sep S ((s, vs, .ref o v 0 h.length (some 2) :: rest) :: (o, v, flat sbz m ++ jj) :: R) := hS.perm (List.Perm.swap _ _ _)
    refine aU ?_
    refine n6 rfl (fun hb => ?_) (fun hb => ?_)
    ·have hlt : toK y2 < toK y1 := by simpa using hb
     refine aU ?_
     refine v7 ⟨2 * i + 2, ⟨.inr rfl, h2n, fun c y z c1 c2 c3 e1 e2 => ?_⟩, hS, k9 ⟨.refl _, .refl _, .refl _, .refl _, .refl _, a2P hq2, trivial⟩⟩
     rw [hy2] at e1; cases e1
     have : c = 2 * i + 1 ∨ c = 2 * i + 2 := by omega
     rcases this with rfl | rfl
     ·rw [hy1] at e2; cases e2; omega
     ·rw [hy2] at e2; cases e2; exact Int.le_refl _
    ·have hge : toK y1 ≤ toK y2 := by simp only [decide_eq_false_iff_not] at hb; omega
     refine aU ?_
     refine v7 ⟨2 * i + 1, ⟨.inl rfl, hin, fun c y z c1 c2 c3 e1 e2 => ?_⟩, hS, k9 ⟨.refl _, .refl _, .refl _, .refl _, .refl _, a2P hq, trivial⟩⟩
     rw [hy1] at e1; cases e1
     have : c = 2 * i + 1 ∨ c = 2 * i + 2 := by omega
     rcases this with rfl | rfl
     ·rw [hy1] at e2; cases e2; exact Int.le_refl _
     ·rw [hy2] at e2; cases e2; exact hge
   ·have h2n : n ≤ 2 * i + 2 := by rw [hq2] at hb; simp only [Bool.not_true, decide_eq_false_iff_not] at hb; omega
    refine aU ?_
    refine n6 (t := false) rfl (fun hb => by cases hb) (fun _ => ?_)
    refine aU ?_
    refine v7 ⟨2 * i + 1, ⟨.inl rfl, hin, fun c y z c1 c2 c3 e1 e2 => ?_⟩, hS, k9 ⟨.refl _, .refl _, .refl _, .refl _, .refl _, a2P hq, trivial⟩⟩
    rw [hy1] at e1; cases e1
    have : c = 2 * i + 1 := by omega
    subst this
    rw [hy1] at e2; cases e2; exact Int.le_refl _
  obtain ⟨hj1, hj2, hj3⟩ := hj
  obtain ⟨y, hy⟩ : ∃ y, m[j]? = some y := ⟨m[j], List.getElem?_eq_getElem zO⟩
  refine aU ?_
  refine a3d (a8c (h := m) (o := o) (v := v) (i := j) (j := i) (jj := jj) zO hy hx) hS rfl a9V b3F d0f rfl (.head _) (y := .ref o v 0 h.length (some 2)) rfl
   (by rw [hm]; rfl) (Spl.cons (Pk.there Pk.here) Spl.nil) (fun r S L' hL hS => ?_)
  obtain ⟨rfl, rfl⟩ := hL
  replace hS : Ab.Sep S ((s, vs, .ref o v 0 h.length (some 2) :: rest) :: (o, v, flat sbz m ++ jj) :: R) := hS.perm (List.Perm.swap _ _ _)
  refine aU ?_
  refine n6 rfl (fun hb => ?_) (fun hb => ?_)
  ·have hle : toK x ≤ toK y := by
    simp only [Bool.not_eq_true', decide_eq_false_iff_not] at hb; omega
   refine x6 ?_
   (repeat (first | refine n8 ?_ | refine r8 ?_ | refine s4 rfl ?_ | refine j4 ?_ | refine l6 ?_ | refine k8 ?_))
   refine aU ?_
   refine i9 ?_
   (repeat (first | refine n8 ?_ | refine r8 ?_ | refine s4 rfl ?_ | refine j4 ?_ | refine l6 ?_ | refine k8 ?_))
   exact ⟨trivial, _, rfl, _, ⟨m, hp, hU.fin1 hx (fun c z c1 c2 c3 e2 => hj3 c y z c1 c2 c3 hy e2) hle, hO, rfl⟩, hS⟩
  ·have hlt : toK y < toK x := by
    simp only [Bool.not_eq_false', decide_eq_true_eq] at hb; exact hb
   refine aU ?_
   refine a3d (a6t (h := m) (o := o) (v := v) (i := i) (j := j) (jj := jj) zO hx hy) hS rfl a9W b3G d0g rfl (.head _) (y := .ref o v 0 h.length (some 2)) rfl
    (by rw [hm]; rfl) (Spl.cons (Pk.there Pk.here) Spl.nil) (fun r S L' hL hS => ?_)
   subst hL
   replace hS : Ab.Sep S ((s, vs, .ref o v 0 h.length (some 2) :: rest) :: (o, v, flat sbz ((m.set i y).set j x) ++ jj) :: R) := hS.perm (List.Perm.swap _ _ _)
   refine aU ?_
   refine k8 ?_
   refine aU ?_
   refine ⟨(j, (m.set i y).set j x), ⟨by simp only; omega, (swap_perm hx hy).trans hp, hU.step zO hj2 zO hx hy (fun c z c1 c2 c3 e2 => hj3 c y z c1 c2 c3 hy e2) hlt, fun k hk => ?_⟩, by simp only; omega, hS, k9 ⟨.refl _, .refl _, .refl _, .refl _, .refl _, trivial⟩⟩
   simp only
   rw [a0t hx hy, if_neg zO, if_neg zO]
   exact hO k hk
 ·have hin : n ≤ 2 * i + 1 := by
   rw [hq] at hb
   simp only [Bool.not_false, decide_eq_true_eq] at hb
   omega
  refine aU ?_
  refine n6 (t := true) rfl (fun _ => ?_) (fun hb => by cases hb)
  refine x6 ?_
  (repeat (first | refine n8 ?_ | refine r8 ?_ | refine s4 rfl ?_ | refine j4 ?_ | refine l6 ?_ | refine k8 ?_))
  refine aU ?_
  refine i9 ?_
  (repeat (first | refine n8 ?_ | refine r8 ?_ | refine s4 rfl ?_ | refine j4 ?_ | refine l6 ?_ | refine k8 ?_))
  exact ⟨trivial, _, rfl, _, ⟨m, hp, hU.fin0 hin, hO, rfl⟩, hS⟩
end Go.Proofs.YtepdcebjobjjgaaDoor

/- container/heap.Pop and Push b4c scan.ends: the walks. -/
namespace Go.Proofs.YtepdcebjobjjgaaDoor
open Go Go.Ab
set_option maxRecDepth 20000
set_option maxHeartbeats 2000000
def c5r : FC := .reg [⟨(some 2), none, .op (.new [(.int .i64 0), (.int .i64 0)])⟩] []
def c5s : FC := .reg [⟨(some 5), none, .op (.mv (.t 0))⟩,  ⟨(some 6), none, .op (.nchk (.t 5))⟩,  ⟨(some 7), none, .op (.load none (.t 6))⟩,  ⟨(some 8), none, .op (.len .sl (.t 7))⟩,  ⟨(some 9), none, .op (.bin .none .sub (.t 8) (.v (.int .i64 1)))⟩,  ⟨(some 3), none, .op (.mv (.t 9))⟩] []
def c5t : FC := .reg [⟨(some 10), none, .op (.mv (.t 0))⟩,  ⟨(some 11), none, .op (.nchk (.t 10))⟩,  ⟨(some 12), none, .op (.load none (.t 11))⟩,  ⟨(some 13), none, .op (.mv (.t 3))⟩,  ⟨(some 14), none, .op (.iad none (some 2) (.t 12) (.t 13))⟩,  ⟨(some 15), none, .op (.load (some 2) (.t 14))⟩,  ⟨(some 4), none, .op (.new [(.int .i64 0), (.int .i64 0)])⟩,  ⟨none, none, .op (.store 2 (.t 4) (.t 15))⟩] []
def c5u : FC := .reg [⟨(some 16), none, .op (.mv (.t 0))⟩,  ⟨(some 17), none, .op (.mv (.t 0))⟩,  ⟨(some 18), none, .op (.nchk (.t 17))⟩,  ⟨(some 19), none, .op (.load none (.t 18))⟩,  ⟨(some 20), none, .op (.mv (.t 3))⟩,  ⟨(some 21), none, .op (.slc (some 2) (.t 19) none (some (.t 20)) none)⟩,  ⟨(some 22), none, .op (.nchk (.t 16))⟩,  ⟨none, none, .op (.store 1 (.t 22) (.t 21))⟩] []
def c5v : FC := .reg [⟨(some 23), none, .op (.load (some 2) (.t 4))⟩,  ⟨none, none, .op (.store 2 (.t 2) (.t 23))⟩] []
def c5w : FC := .seq c5v FC.ret
def c5x : FC := .seq c5u c5w
def c5y : FC := .seq c5t c5x
def c5z : FC := .seq c5s c5y
def b7L : FC := .seq c5r c5z
def d0h : FC := b7L
theorem d0i : Fn3 Tryd.prog 109 24 [(2, (some (some 2)))] d0h := ⟨_, _, Tryd.func109, rfl, rfl, rfl, by kernel_rfl⟩

def c5A : FC := .reg [⟨(some 2), none, .op (.mv (.v .nili))⟩] []
def c5B : FC := .reg [⟨(some 3), none, .op (.mv (.t 0))⟩,  ⟨(some 4), none, .call 109 [(.t 3)]⟩,  ⟨(some 5), none, .op (.mki 66 (.t 4))⟩,  ⟨(some 2), none, .op (.mv (.t 5))⟩] []
def c5C : FC := .seq c5B FC.ret
def c5D : FC := .seq c5A c5C
def d0j : FC := c5D
theorem d0k : Fn3 Tryd.prog 107 6 [(2, none)] d0j := ⟨_, _, Tryd.func107, rfl, rfl, rfl, by kernel_rfl⟩

def c5E : FC := .reg [⟨(some 2), none, .op (.mv (.v (.int .i64 0)))⟩] []
def c5F : FC := .reg [⟨(some 3), none, .op (.mv (.t 0))⟩,  ⟨(some 4), none, .op (.len .sl (.t 3))⟩,  ⟨(some 2), none, .op (.mv (.t 4))⟩] []
def c5G : FC := .seq c5F FC.ret
def c5H : FC := .seq c5E c5G
def d0l : FC := c5H
theorem d0m : Fn3 Tryd.prog 104 5 [(2, none)] d0l := ⟨_, _, Tryd.func104, rfl, rfl, rfl, by kernel_rfl⟩

def d0n : FC := .reg [⟨(some 2), none, .op (.mv (.v .nili))⟩] []
def d0o : FC := .reg [⟨(some 4), none, .op (.mv (.t 0))⟩,  ⟨(some 5), none, .inv (.t 4) "Len" []⟩,  ⟨(some 6), none, .op (.bin .none .sub (.t 5) (.v (.int .i64 1)))⟩,  ⟨(some 3), none, .op (.mv (.t 6))⟩] []
def d0p : FC := .reg [⟨(some 7), none, .op (.mv (.t 0))⟩,  ⟨(some 8), none, .op (.mv (.t 3))⟩,  ⟨(some 9), none, .inv (.t 7) "Swap" [(.v (.int .i64 0)), (.t 8)]⟩] []
def d0q : FC := .reg [⟨(some 10), none, .op (.mv (.t 0))⟩,  ⟨(some 11), none, .op (.mv (.t 3))⟩,  ⟨(some 12), none, .call 38 [(.t 10), (.v (.int .i64 0)), (.t 11)]⟩] []
def d0r : FC := .reg [⟨(some 13), none, .op (.mv (.t 0))⟩,  ⟨(some 14), none, .inv (.t 13) "Pop" []⟩,  ⟨(some 2), none, .op (.mv (.t 14))⟩] []
def d0s : FC := .seq d0r FC.ret
def d0t : FC := .seq d0q d0s
def d0u : FC := .seq d0p d0t
def d0v : FC := .seq d0o d0u
def c5I : FC := .seq d0n d0v
def d4F : FC := c5I
theorem d4G : Fn3 Tryd.prog 20 15 [(2, none)] d4F := ⟨_, _, Tryd.func20, rfl, rfl, rfl, by kernel_rfl⟩

theorem b5m {h0 : List (Int × Int)} {x : Int × Int} {s vs o v : Nat} {rest jj : List AV} (hl : h0.length < 1000000000) :
  Tri Tryd.prog 109 [.ptr s vs 0] [(s, vs, .ref o v 0 (h0.length + 1) (some 2) :: rest), (o, v, flat sbz (h0 ++ [x]) ++ jj)] (fun r L' => r = sbz x ∧ L' = [(s, vs, .ref o v 0 h0.length (some 2) :: rest), (o, v, flat sbz h0 ++ ((sbz x).cells ++ jj))]) := by
 have hx : (h0 ++ [x])[h0.length]? = some x := by simp
 have hw : IntKind.i64.wrap (((h0.length + 1 : Nat) : Int) - 1) = (h0.length : Int) := by rw [s3 zO]; omega
 refine y6 mixed d0i zS [2, 4] (fun R S hS => ?_)
 refine aU ?_
 refine b1m hS rfl (fun o2 S hS => ?_)
 refine aU ?_
 refine y7 hS rfl (.tail _ (.head _)) (v := .ref o v 0 (h0.length + 1) (some 2)) rfl ?_
 refine aU ?_
 refine y7 hS rfl (.tail _ (.head _)) (v := .ref o v 0 (h0.length + 1) (some 2)) rfl ?_
 refine aU ?_
 refine w5 rfl rfl h0.length hw zO ?_
 refine a0N hS a8b rfl (.tail _ (.tail _ (.head _))) (n := h0.length) (fo := 0) (y := x) (by simp [f4]) hx rfl ?_
 refine b1m hS rfl (fun o4 S hS => ?_)
 refine E_stS hS rfl zC Rp.here rfl rfl (by first | exact Nat.le_of_ble_eq_true rfl | (simp; omega) | omega) (fun S hS => ?_)
 refine aU ?_
 refine y7 hS rfl (.tail _ (.tail _ (.head _))) (v := .ref o v 0 (h0.length + 1) (some 2)) rfl ?_
 refine aU ?_
 refine a6W (a := 0) (b := h0.length) rfl rfl (by show hiN (h0.length + 1) (some (.int .i64 (IntKind.i64.wrap (((h0.length + 1 : Nat) : Int) - 1)))) = _; rw [hw, a5X zO]; simp) ⟨by omega, by omega, .inl rfl⟩ ?_
 refine aU ?_
 refine E_stS hS rfl zC (Rp.there (Rp.there Rp.here)) rfl rfl (by first | exact Nat.le_of_ble_eq_true rfl | (simp; omega) | omega) (fun S hS => ?_)
 refine aU ?_
 refine y7 hS rfl (.head _) (v := sbz x) rfl ?_
 refine E_stS hS rfl zC (Rp.there Rp.here) rfl rfl (by first | exact Nat.le_of_ble_eq_true rfl | (simp; omega) | omega) (fun S hS => ?_)
 refine aU ?_
 refine i9 ?_
 (repeat (first | refine n8 ?_ | refine r8 ?_ | refine s4 rfl ?_ | refine j4 ?_ | refine l6 ?_ | refine k8 ?_))
 have h2 := hS.at (o := o2) (v := 0) (cs := [.int .i64 x.1, .int .i64 x.2]) (.tail _ (.head _))
 have hr : a5P (some 2) (.ptr o2 0 0) S = some (sbz x, [o2], none) := by simp [a5P, a0b, h2, a0z, sbz]
 have e1 : flat sbz (h0 ++ [x]) ++ jj = flat sbz h0 ++ ((sbz x).cells ++ jj) := by rw [a0c]; simp [flat]
 refine ⟨trivial, sbz x, (by show (a5P (some 2) (.ptr o2 0 0) S).map (·.1) = some (sbz x); rw [hr]; rfl), _, ⟨rfl, rfl⟩, ?_⟩
 have hS2 : Ab.Sep S ((s, vs, .ref o v 0 h0.length (some 2) :: rest) :: [(o, v, flat sbz (h0 ++ [x]) ++ jj)].append R) :=
  ⟨fun p hp => hS.1 p (.tail _ (.tail _ hp)), (List.nodup_cons.1 (List.nodup_cons.1 hS.2).2).2⟩
 rw [e1] at hS2
 exact hS2
theorem a9X {h0 : List (Int × Int)} {x : Int × Int} {s vs o v : Nat} {rest jj : List AV} (hl : h0.length < 1000000000) :
  Tri Tryd.prog 107 [.ptr s vs 0] [(s, vs, .ref o v 0 (h0.length + 1) (some 2) :: rest), (o, v, flat sbz (h0 ++ [x]) ++ jj)] (fun r L' => r = .iface 66 (sbz x) ∧ L' = [(s, vs, .ref o v 0 h0.length (some 2) :: rest), (o, v, flat sbz h0 ++ ((sbz x).cells ++ jj))]) := by
 refine y6 mixed d0k zS [] (fun R S hS => ?_)
 refine aU ?_
 refine a4f (b5m (h0 := h0) (x := x) (s := s) (vs := vs) (o := o) (v := v) (rest := rest) (jj := jj) hl) hS rfl (Spl.cons Pk.here (Spl.cons Pk.here Spl.nil)) (fun r S L' hL hS => ?_)
 obtain ⟨rfl, rfl⟩ := hL
 refine aU ?_
 refine i9 ?_
 (repeat (first | refine n8 ?_ | refine r8 ?_ | refine s4 rfl ?_ | refine j4 ?_ | refine l6 ?_ | refine k8 ?_))
 exact ⟨trivial, _, rfl, _, ⟨rfl, rfl⟩, hS⟩
theorem b3H {o v n : Nat} : Tri Tryd.prog 104 [.ref o v 0 n (some 2)] [] (fun r L' => r = .int .i64 n ∧ L' = []) := by
 refine y6 mixed d0m zS [] (fun R S hS => ?_)
 refine aU ?_
 refine i9 ?_
 (repeat (first | refine n8 ?_ | refine r8 ?_ | refine s4 rfl ?_ | refine j4 ?_ | refine l6 ?_ | refine k8 ?_))
 exact ⟨trivial, _, rfl, _, ⟨rfl, rfl⟩, hS⟩
theorem b6m : a1Q Tryd.prog 69 "Len" = none := by kernel_rfl
theorem c5J : a2X Tryd.prog 69 "Len" = some (104, none) := by kernel_rfl
theorem d3k : p9 Tryd.prog 104 = true := by kernel_rfl
theorem d0w : a1Q Tryd.prog 69 "Pop" = some 107 := by kernel_rfl
theorem d4H : p9 Tryd.prog 107 = true := by kernel_rfl
theorem a9Y {h : List (Int × Int)} {n s vs o v : Nat} {rest jj : List AV} (hl : h.length < 1000000000) (hn : h.length = n + 1) (hH : HpI toK h.length h) :
  Tri Tryd.prog 20 [.iface 69 (.ptr s vs 0)] [(s, vs, .ref o v 0 h.length (some 2) :: rest), (o, v, flat sbz h ++ jj)] (fun r L' => ∃ x h' jj', r = .iface 66 (sbz x) ∧ (h' ++ [x]).Perm h ∧ (∀ i y, i < h.length → h[i]? = some y → toK x ≤ toK y) ∧ HpI toK h'.length h' ∧ L' = [(s, vs, .ref o v 0 h'.length (some 2) :: rest), (o, v, flat sbz h' ++ jj')]) := by
 obtain ⟨x, hx⟩ : ∃ x, h[0]? = some x := ⟨h[0], List.getElem?_eq_getElem zO⟩
 obtain ⟨y, hy⟩ : ∃ y, h[n]? = some y := ⟨h[n], List.getElem?_eq_getElem zO⟩
 have hw : IntKind.i64.wrap ((h.length : Int) - 1) = (n : Int) := by rw [s3 zO]; omega
 refine y6 mixed d4G zS [] (fun R S hS => ?_)
 refine aU ?_
 refine a3d (b3H (o := o) (v := v) (n := h.length)) hS rfl b6m c5J d3k rfl (.head _) (y := .ref o v 0 h.length (some 2)) rfl rfl Spl.nil (fun r S L' hL hS => ?_)
 obtain ⟨rfl, rfl⟩ := hL
 refine aU ?_
 refine a3d (a6t (h := h) (o := o) (v := v) (i := 0) (j := n) (jj := jj) zO hx hy) hS rfl a9W b3G d0g rfl (.head _) (y := .ref o v 0 h.length (some 2)) rfl
  (by show [AV.ref o v 0 h.length (some 2), .int .i64 0, .int .i64 (IntKind.i64.wrap ((h.length : Int) - 1))] = _; rw [hw]; rfl) (Spl.cons (Pk.there Pk.here) Spl.nil) (fun r S L' hL hS => ?_)
 subst hL
 generalize hh1 : (h.set 0 y).set n x = h1 at hS
 have hp1 : h1.Perm h := by rw [← hh1]; exact swap_perm hx hy
 have hl1 := hp1.length_eq
 replace hS : Ab.Sep S ((s, vs, .ref o v 0 h1.length (some 2) :: rest) :: (o, v, flat sbz h1 ++ jj) :: R) := by rw [hl1]; exact hS.perm (List.Perm.swap _ _ _)
 refine aU ?_
 refine a4f (b5l (h := h1) (s := s) (vs := vs) (o := o) (v := v) (n := n) (rest := rest) (jj := jj) zO zO (by rw [← hh1]; exact HpI.pop (by rw [← hn]; exact hH) zO hx hy)) hS
  (by show [AV.iface 69 (.ptr s vs 0), .int .i64 0, .int .i64 (IntKind.i64.wrap ((h.length : Int) - 1))] = _; rw [hw]) (Spl.cons Pk.here (Spl.cons Pk.here Spl.nil)) (fun r S L' hL hS => ?_)
 obtain ⟨h2, hp2, hH2, hO2, rfl⟩ := hL
 have hl2 := hp2.length_eq
 have e2 : h2 = h2.take n ++ [x] := by
  have hxn : h2[n]? = some x := by
   rw [hO2 n (Nat.le_refl _), ← hh1, a0t hx hy, if_pos rfl, hx]
  obtain ⟨q1, q2⟩ := List.getElem?_eq_some_iff.1 hxn
  rw [← q2, ← List.take_succ_eq_append_getElem q1, List.take_of_length_le zO]
 generalize hg : h2.take n = g at e2
 have hgl : g.length = n := by rw [← hg, List.length_take]; omega
 replace hS : Ab.Sep S ((s, vs, .ref o v 0 (g.length + 1) (some 2) :: rest) :: (o, v, flat sbz (g ++ [x]) ++ jj) :: R) := by
  rw [← e2, hgl, ← hn, ← hl1]; exact hS
 refine aU ?_
 refine b5V (a9X (h0 := g) (x := x) (s := s) (vs := vs) (o := o) (v := v) (rest := rest) (jj := jj) zO) hS rfl d0w d4H rfl (Spl.cons Pk.here (Spl.cons Pk.here Spl.nil)) (fun r S L' hL hS => ?_)
 obtain ⟨rfl, rfl⟩ := hL
 refine aU ?_
 refine i9 ?_
 (repeat (first | refine n8 ?_ | refine r8 ?_ | refine s4 rfl ?_ | refine j4 ?_ | refine l6 ?_ | refine k8 ?_))
 refine ⟨trivial, _, rfl, _, ⟨x, g, _, rfl, ?_, fun i y hi hy => hH.least (Nat.le_refl _) hx i y hi hy, ?_, rfl⟩, hS⟩
 ·rw [← e2]; exact hp2.trans hp1
 ·intro c x' y' c1 c2 q1 q2
  refine hH2 c x' y' c1 zO ?_ ?_
  ·rw [e2, List.getElem?_append_left zO]; exact q1
  ·rw [e2, List.getElem?_append_left zO]; exact q2
end Go.Proofs.YtepdcebjobjjgaaDoor

/- container/heap.Push b4c scan.ends: the walks. -/
namespace Go.Proofs.YtepdcebjobjjgaaDoor
open Go Go.Ab
set_option maxRecDepth 20000
set_option maxHeartbeats 2000000
def c5K : FC := .reg [⟨(some 4), none, .op (.mv (.t 0))⟩,  ⟨(some 5), none, .op (.mv (.t 0))⟩,  ⟨(some 6), none, .op (.nchk (.t 5))⟩,  ⟨(some 7), none, .op (.load none (.t 6))⟩,  ⟨(some 8), none, .op (.mv (.t 1))⟩,  ⟨(some 9), none, .op (.tas 66 (.t 8))⟩,  ⟨(some 10), none, .op (.bsl (some 2) [(.int .i64 0), (.int .i64 0)] 1 [(0, 2, (.t 9))])⟩,  ⟨(some 11), none, .op (.app (some 2) 16 (.t 7) (.t 10))⟩,  ⟨(some 12), none, .op (.nchk (.t 4))⟩,  ⟨none, none, .op (.store 1 (.t 12) (.t 11))⟩] [(3, 6)]
def d0x : FC := c5K
theorem d0y : Fn3 Tryd.prog 108 13 [] d0x := ⟨_, _, Tryd.func108, rfl, rfl, rfl, by kernel_rfl⟩

def d0z : FC := .reg [⟨(some 4), none, .op (.mv (.t 0))⟩,  ⟨(some 5), none, .op (.mv (.t 1))⟩,  ⟨(some 6), none, .inv (.t 4) "Push" [(.t 5)]⟩] []
def d0A : FC := .reg [⟨(some 7), none, .op (.mv (.t 0))⟩,  ⟨(some 8), none, .op (.mv (.t 0))⟩,  ⟨(some 9), none, .inv (.t 8) "Len" []⟩,  ⟨(some 10), none, .op (.bin .none .sub (.t 9) (.v (.int .i64 1)))⟩,  ⟨(some 11), none, .call 41 [(.t 7), (.t 10)]⟩] []
def d0B : FC := .seq d0z d0A
def d4I : FC := d0B
theorem d4J : Fn3 Tryd.prog 22 12 [] d4I := ⟨_, _, Tryd.func22, rfl, rfl, rfl, by kernel_rfl⟩

theorem a9j {h : List (Int × Int)} {x : Int × Int} {s vs o v : Nat} {rest jj : List AV} (hl : h.length < 1000000000) :
  Tri Tryd.prog 108 [.ptr s vs 0, .iface 66 (sbz x)] [(s, vs, .ref o v 0 h.length (some 2) :: rest), (o, v, flat sbz h ++ jj)] (fun _ L' => L' = [(s, vs, .ref o (v + 1) 0 (h.length + 1) (some 2) :: rest), (o, v + 1, flat sbz (h ++ [x]))]) := by
 refine y6 mixed d0y zS [] (fun R S hS => ?_)
 refine a3X ?_
 refine aS ?_
 refine y7 hS rfl (.head _) (v := .ref o v 0 h.length (some 2)) rfl ?_
 refine aS ?_
 refine a9K (o := o) (ver := v) (l := h) (m := [x]) (j := jj) hS a8b (by simp [ev, Fr.get]) rfl (Rp.there Rp.here) ⟨by simp; omega, by simp; omega⟩ (fun S hS => ?_)
 refine aS ?_
 refine E_stS hS rfl zC Rp.here rfl rfl (by first | exact Nat.le_of_ble_eq_true rfl | (simp; omega) | omega) (fun S hS => ?_)
 refine b6 ?_
 refine And.intro (by simp [a1t, a6K, a0S, a1P]) ?_
 refine ⟨trivial, _, rfl, _, rfl, ?_⟩
 simpa [splice, AV.cells] using hS
theorem c5L : a1Q Tryd.prog 69 "Push" = some 108 := by kernel_rfl
theorem d4K : p9 Tryd.prog 108 = true := by kernel_rfl
theorem a9k {h : List (Int × Int)} {x : Int × Int} {s vs o v : Nat} {rest jj : List AV} (hl : h.length < 1000000000) (hH : HpI toK h.length h) :
  Tri Tryd.prog 22 [.iface 69 (.ptr s vs 0), .iface 66 (sbz x)] [(s, vs, .ref o v 0 h.length (some 2) :: rest), (o, v, flat sbz h ++ jj)] (fun _ L' => ∃ h', h'.Perm (h ++ [x]) ∧ HpI toK h'.length h' ∧ L' = [(s, vs, .ref o (v + 1) 0 h'.length (some 2) :: rest), (o, v + 1, flat sbz h')]) := by
 have hw : IntKind.i64.wrap (((h.length + 1 : Nat) : Int) - 1) = (h.length : Int) := by rw [s3 zO]; omega
 refine y6 mixed d4J zS [] (fun R S hS => ?_)
 refine aU ?_
 refine b5V (a9j (h := h) (x := x) (s := s) (vs := vs) (o := o) (v := v) (rest := rest) (jj := jj) hl) hS rfl c5L d4K rfl (Spl.cons Pk.here (Spl.cons Pk.here Spl.nil)) (fun r S L' hL hS => ?_)
 subst hL
 refine aU ?_
 refine a3d (b3H (o := o) (v := v + 1) (n := h.length + 1)) hS rfl b6m c5J d3k rfl (.head _) (y := .ref o (v + 1) 0 (h.length + 1) (some 2)) rfl rfl Spl.nil (fun r S L' hL hS => ?_)
 obtain ⟨rfl, rfl⟩ := hL
 have hlen : (h ++ [x]).length = h.length + 1 := by simp
 replace hS : Ab.Sep S ((s, vs, .ref o (v + 1) 0 (h ++ [x]).length (some 2) :: rest) :: (o, v + 1, flat sbz (h ++ [x]) ++ []) :: R) := by rw [hlen, List.append_nil]; exact hS
 refine aU ?_
 refine a4f (c5q (h := h ++ [x]) (s := s) (vs := vs) (o := o) (v := v + 1) (j := h.length) (rest := rest) (jj := []) zE zS (by rw [hlen]; exact HpI.push hH x)) hS
  (by show [AV.iface 69 (.ptr s vs 0), .int .i64 (IntKind.i64.wrap (((h.length + 1 : Nat) : Int) - 1))] = _; rw [hw]) (Spl.cons Pk.here (Spl.cons Pk.here Spl.nil)) (fun r S L' hL hS => ?_)
 obtain ⟨h', q1, q2, rfl⟩ := hL
 refine aU ?_
 refine ⟨trivial, _, rfl, _, ⟨h', q1, q2, rfl⟩, ?_⟩
 rw [List.append_nil, ← q1.length_eq] at hS
 exact hS
end Go.Proofs.YtepdcebjobjjgaaDoor

