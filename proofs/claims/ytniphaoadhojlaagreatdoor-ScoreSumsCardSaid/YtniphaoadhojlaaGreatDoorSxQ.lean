import Derived.Test.YtniphaoadhojlaaGreatDoorSxK
import Derived.Test.YtniphaoadhojlaaGreatDoorGx
import Derived.MapKept
set_option linter.all false
namespace Go.Sx
open Go

/-! ## Readers: a place, an end, and bytes of its own -/
section
variable {G : Base} {P : Program} {N : Nat} {Q : Post} {t : Tm} {H : Heap} {ops : Array Oper}

def Ex {β : Type} (F : β → Heap) : Hp := fun L => ∃ s, Sep (F s) L
theorem sep_join : ∀ {F : Heap} {R : Heap} {L1 L2 : Frag}, Sep F L1 → Sep R L2 → Sep (F ++ R) (L1 ++ L2) := by
  intro F
  induction F with
  | nil => intro R L1 L2 h1 h2; obtain rfl : L1 = [] := h1; exact h2
  | cons A F ih =>
    intro R L1 L2 h1 h2
    obtain ⟨M1, M2, rfl, h3, h4⟩ := h1
    rw [List.append_assoc]
    exact ⟨M1, M2 ++ L2, rfl, h3, ih h4 h2⟩
theorem sat_ex {R : Heap} {ι α β : Type} {K : ι → α → Hp} {i : ι} {a : α} {F : β → Heap} (hK : K i a = Ex F) (hr : Rem H K i a R) {w : World} (hw : Sat G w H) : ∃ s, Sat G w (F s ++ R) := by
  obtain ⟨hs, L, ⟨L1, L2, rfl, h1, h2⟩, hl⟩ := hr.sat hw
  rw [hK] at h1
  obtain ⟨s, h1⟩ := h1
  exact ⟨s, hs, _, sep_join h1 h2, hl⟩
theorem hsub_ex {R : Heap} {ι α β : Type} {K : ι → α → Hp} {i : ι} {a : α} {F : β → Heap} (hK : K i a = Ex F) (s : β) : HSub (F s ++ R) (K i a :: R) := fun L hL => by
  obtain ⟨L1, L2, rfl, h1, h2⟩ := sep_append hL
  exact ⟨L1 ++ L2, [], ⟨L1, L2, rfl, by rw [hK]; exact ⟨s, h1⟩, h2⟩, by simp⟩

def rdV (xs : List Nat) (at_ : Nat) (s : SV) : List Value := [.int .i64 ((at_ : Nat) : Int), .int .i64 ((xs.length : Nat) : Int), s.val]
def Rd (b : Nat) (p : List Nat × Nat) : Hp := Ex fun s : SV => [Vr b [.int .i64 ((p.2 : Nat) : Int), .int .i64 ((p.1.length : Nat) : Int), s.val], Row s eB p.1]
theorem sat_rd {R : Heap} {b k : Nat} {xs : List Nat} (hr : Rem H Rd b (xs, k) R) {w : World} (hw : Sat G w H) : ∃ s : SV, Sat G w (Vr b [.int .i64 ((k : Nat) : Int), .int .i64 ((xs.length : Nat) : Int), s.val] :: Row s eB xs :: R) :=
  sat_ex (K := Rd) rfl hr hw
theorem o_unrd {l : List Oper} {R : Heap} (b : Nat) {k : Nat} {xs : List Nat} [hr : Rem H Rd b (xs, k) R] (h : ∀ s : SV, O G P N ops l Q t (Vr b [.int .i64 ((k : Nat) : Int), .int .i64 ((xs.length : Nat) : Int), s.val] :: Row s eB xs :: R)) : O G P N ops l Q t H :=
  ⟨fun a w ha hw => let ⟨s, hs⟩ := sat_rd hr hw; (h s).go a w ha hs⟩
theorem w_unrd {c : Code} {R : Heap} (b : Nat) {k : Nat} {xs : List Nat} [hr : Rem H Rd b (xs, k) R] (h : ∀ s : SV, W G P N c Q t (Vr b [.int .i64 ((k : Nat) : Int), .int .i64 ((xs.length : Nat) : Int), s.val] :: Row s eB xs :: R)) : W G P N c Q t H :=
  ⟨fun a w ha hw => let ⟨s, hs⟩ := sat_rd hr hw; (h s).go a w ha hs⟩
theorem sc_rd {f : FuncId} {args : List Value} {K : Value → Heap → Prop} {R : Heap} {b k : Nat} {xs : List Nat} (hr : Rem H Rd b (xs, k) R) (h : ∀ s : SV, SC G P f args (Vr b [.int .i64 ((k : Nat) : Int), .int .i64 ((xs.length : Nat) : Int), s.val] :: Row s eB xs :: R) K) : SC G P f args H K :=
  ⟨(h SV.nil).enter, fun w hw => let ⟨s, hs⟩ := sat_rd hr hw; (h s).call w hs⟩
theorem HSub.rd {R H' : Heap} {b : Nat} {p : List Nat × Nat} [hr : Rem H Rd b p R] (h : HSub R H') : HSub H (Rd b p :: H') := HSub.rem hr h.keep
theorem HSub.rd' {R R' H' : Heap} {b k : Nat} {s : SV} {xs : List Nat} {n : Int} [hr : Rem H Vr b [.int .i64 ((k : Nat) : Int), .int .i64 n, s.val] R] [hr2 : RemR R s eB xs R'] (hn : n = ((xs.length : Nat) : Int)) (h : HSub R' H') : HSub H (Rd b (xs, k) :: H') := by
  subst hn
  refine HSub.rem hr (HSub.trans (H' := Vr b [.int .i64 ((k : Nat) : Int), .int .i64 ((xs.length : Nat) : Int), s.val] :: Row s eB xs :: R') ?_ ?_)
  · exact HSub.keep (HSub.remR hr2 HSub.refl)
  · exact (hsub_ex (K := Rd) (i := b) (a := (xs, k)) rfl s).trans h.keep

/-! ## The program's global variables: errors and tables -/
class Glb (G : outParam Base) (H : Heap) : Prop where
  err : ∀ i, gokB i = true → ∀ L, Sep H L → ∃ E fz, (gix i, Obj.cells #[G.err i] E fz) ∈ L
  blk : ∀ i, gokB i = true → ∀ L, Sep H L → ∃ C E, (G.eb i, Obj.cells C E (0, 0)) ∈ L
  inj : ∀ a b, G.eb a = G.eb b → G.eo a = G.eo b → a = b
instance Glb.tail {A : Hp} [h : Glb G H] : Glb G (A :: H) :=
  ⟨fun i hi L hL => by obtain ⟨L1, L2, rfl, _, h2⟩ := hL; obtain ⟨E, fz, hm⟩ := h.err i hi L2 h2; exact ⟨E, fz, List.mem_append_right _ hm⟩,
   fun i hi L hL => by obtain ⟨L1, L2, rfl, _, h2⟩ := hL; obtain ⟨C, E, hm⟩ := h.blk i hi L2 h2; exact ⟨C, E, List.mem_append_right _ hm⟩, h.inj⟩
theorem glb_hasV (i : Nat) [h : Lt24 i] [hg : Glb G H] : HasV H (gix i) [G.err i] := ⟨hg.err i h.out⟩
instance {i : Nat} [h : Lt24 i] [hg : Glb G H] : HasC H (G.eb i) := ⟨hg.blk i h.out⟩
end
/-- The tables of the two sums. -/
class Tab (H : Heap) (b : Nat) (l : outParam (List Nat)) : Prop where
  out : ∀ L, Sep H L → ∃ E fz, (b, Obj.cells (l.map fun n => Value.int .u32 ((n : Nat) : Int)).toArray E fz) ∈ L
instance Tab.tail {A : Hp} {H : Heap} {b : Nat} {l : List Nat} [h : Tab H b l] : Tab (A :: H) b l :=
  ⟨fun L hL => by obtain ⟨L1, L2, rfl, _, h2⟩ := hL; obtain ⟨E, fz, hm⟩ := h.out L2 h2; exact ⟨E, fz, List.mem_append_right _ hm⟩⟩
instance {H : Heap} {b : Nat} {l : List Nat} [h : Tab H b l] : HasV H b (l.map fun n => Value.int .u32 ((n : Nat) : Int)) := ⟨h.out⟩
instance : EncV eB (.int .u8 0) 0 := ⟨rfl⟩
instance : EncV eB (.int .u8 1) 1 := ⟨rfl⟩
instance : EncV eB (.int .u8 2) 2 := ⟨rfl⟩
instance : EncV eB (.int .u8 3) 3 := ⟨rfl⟩
instance : EncV eB (.int .u8 4) 4 := ⟨rfl⟩
instance : EncV eB (.int .u8 5) 5 := ⟨rfl⟩
instance : EncV eB (.int .u8 6) 6 := ⟨rfl⟩
instance : EncV eB (.int .u8 7) 7 := ⟨rfl⟩
instance : EncV eB (.int .u8 8) 8 := ⟨rfl⟩
instance : EncV eB (.int .u8 9) 9 := ⟨rfl⟩
instance : EncV eB (.int .u8 10) 10 := ⟨rfl⟩
instance : EncV eB (.int .u8 11) 11 := ⟨rfl⟩
instance : EncV eB (.int .u8 12) 12 := ⟨rfl⟩
instance : EncV eB (.int .u8 13) 13 := ⟨rfl⟩
instance : EncV eB (.int .u8 14) 14 := ⟨rfl⟩
instance : EncV eB (.int .u8 15) 15 := ⟨rfl⟩
instance : EncV eB (.int .u8 16) 16 := ⟨rfl⟩
instance : EncV eB (.int .u8 17) 17 := ⟨rfl⟩
instance : EncV eB (.int .u8 18) 18 := ⟨rfl⟩
instance : EncV eB (.int .u8 19) 19 := ⟨rfl⟩
instance : EncV eB (.int .u8 20) 20 := ⟨rfl⟩
instance : EncV eB (.int .u8 21) 21 := ⟨rfl⟩
instance : EncV eB (.int .u8 22) 22 := ⟨rfl⟩
instance : EncV eB (.int .u8 23) 23 := ⟨rfl⟩
instance : EncV eB (.int .u8 24) 24 := ⟨rfl⟩
instance : EncV eB (.int .u8 25) 25 := ⟨rfl⟩
instance : EncV eB (.int .u8 26) 26 := ⟨rfl⟩
instance : EncV eB (.int .u8 27) 27 := ⟨rfl⟩
instance : EncV eB (.int .u8 28) 28 := ⟨rfl⟩
instance : EncV eB (.int .u8 29) 29 := ⟨rfl⟩
instance : EncV eB (.int .u8 30) 30 := ⟨rfl⟩
instance : EncV eB (.int .u8 31) 31 := ⟨rfl⟩
instance : EncV eB (.int .u8 32) 32 := ⟨rfl⟩
instance : EncV eB (.int .u8 33) 33 := ⟨rfl⟩
instance : EncV eB (.int .u8 34) 34 := ⟨rfl⟩
instance : EncV eB (.int .u8 35) 35 := ⟨rfl⟩
instance : EncV eB (.int .u8 36) 36 := ⟨rfl⟩
instance : EncV eB (.int .u8 37) 37 := ⟨rfl⟩
instance : EncV eB (.int .u8 38) 38 := ⟨rfl⟩
instance : EncV eB (.int .u8 39) 39 := ⟨rfl⟩
instance : EncV eB (.int .u8 40) 40 := ⟨rfl⟩
instance : EncV eB (.int .u8 41) 41 := ⟨rfl⟩
instance : EncV eB (.int .u8 42) 42 := ⟨rfl⟩
instance : EncV eB (.int .u8 43) 43 := ⟨rfl⟩
instance : EncV eB (.int .u8 44) 44 := ⟨rfl⟩
instance : EncV eB (.int .u8 45) 45 := ⟨rfl⟩
instance : EncV eB (.int .u8 46) 46 := ⟨rfl⟩
instance : EncV eB (.int .u8 47) 47 := ⟨rfl⟩
instance : EncV eB (.int .u8 48) 48 := ⟨rfl⟩
instance : EncV eB (.int .u8 49) 49 := ⟨rfl⟩
instance : EncV eB (.int .u8 50) 50 := ⟨rfl⟩
instance : EncV eB (.int .u8 51) 51 := ⟨rfl⟩
instance : EncV eB (.int .u8 52) 52 := ⟨rfl⟩
instance : EncV eB (.int .u8 53) 53 := ⟨rfl⟩
instance : EncV eB (.int .u8 54) 54 := ⟨rfl⟩
instance : EncV eB (.int .u8 55) 55 := ⟨rfl⟩
instance : EncV eB (.int .u8 56) 56 := ⟨rfl⟩
instance : EncV eB (.int .u8 57) 57 := ⟨rfl⟩
instance : EncV eB (.int .u8 58) 58 := ⟨rfl⟩
instance : EncV eB (.int .u8 59) 59 := ⟨rfl⟩
instance : EncV eB (.int .u8 60) 60 := ⟨rfl⟩
instance : EncV eB (.int .u8 61) 61 := ⟨rfl⟩
instance : EncV eB (.int .u8 62) 62 := ⟨rfl⟩
instance : EncV eB (.int .u8 63) 63 := ⟨rfl⟩
instance : EncV eB (.int .u8 64) 64 := ⟨rfl⟩
instance : EncV eB (.int .u8 65) 65 := ⟨rfl⟩
instance : EncV eB (.int .u8 66) 66 := ⟨rfl⟩
instance : EncV eB (.int .u8 67) 67 := ⟨rfl⟩
instance : EncV eB (.int .u8 68) 68 := ⟨rfl⟩
instance : EncV eB (.int .u8 69) 69 := ⟨rfl⟩
instance : EncV eB (.int .u8 70) 70 := ⟨rfl⟩
instance : EncV eB (.int .u8 71) 71 := ⟨rfl⟩
instance : EncV eB (.int .u8 72) 72 := ⟨rfl⟩
instance : EncV eB (.int .u8 73) 73 := ⟨rfl⟩
instance : EncV eB (.int .u8 74) 74 := ⟨rfl⟩
instance : EncV eB (.int .u8 75) 75 := ⟨rfl⟩
instance : EncV eB (.int .u8 76) 76 := ⟨rfl⟩
instance : EncV eB (.int .u8 77) 77 := ⟨rfl⟩
instance : EncV eB (.int .u8 78) 78 := ⟨rfl⟩
instance : EncV eB (.int .u8 79) 79 := ⟨rfl⟩
instance : EncV eB (.int .u8 80) 80 := ⟨rfl⟩
instance : EncV eB (.int .u8 81) 81 := ⟨rfl⟩
instance : EncV eB (.int .u8 82) 82 := ⟨rfl⟩
instance : EncV eB (.int .u8 83) 83 := ⟨rfl⟩
instance : EncV eB (.int .u8 84) 84 := ⟨rfl⟩
instance : EncV eB (.int .u8 85) 85 := ⟨rfl⟩
instance : EncV eB (.int .u8 86) 86 := ⟨rfl⟩
instance : EncV eB (.int .u8 87) 87 := ⟨rfl⟩
instance : EncV eB (.int .u8 88) 88 := ⟨rfl⟩
instance : EncV eB (.int .u8 89) 89 := ⟨rfl⟩
instance : EncV eB (.int .u8 90) 90 := ⟨rfl⟩
instance : EncV eB (.int .u8 91) 91 := ⟨rfl⟩
instance : EncV eB (.int .u8 92) 92 := ⟨rfl⟩
instance : EncV eB (.int .u8 93) 93 := ⟨rfl⟩
instance : EncV eB (.int .u8 94) 94 := ⟨rfl⟩
instance : EncV eB (.int .u8 95) 95 := ⟨rfl⟩
instance : EncV eB (.int .u8 96) 96 := ⟨rfl⟩
instance : EncV eB (.int .u8 97) 97 := ⟨rfl⟩
instance : EncV eB (.int .u8 98) 98 := ⟨rfl⟩
instance : EncV eB (.int .u8 99) 99 := ⟨rfl⟩
instance : EncV eB (.int .u8 100) 100 := ⟨rfl⟩
instance : EncV eB (.int .u8 101) 101 := ⟨rfl⟩
instance : EncV eB (.int .u8 102) 102 := ⟨rfl⟩
instance : EncV eB (.int .u8 103) 103 := ⟨rfl⟩
instance : EncV eB (.int .u8 104) 104 := ⟨rfl⟩
instance : EncV eB (.int .u8 105) 105 := ⟨rfl⟩
instance : EncV eB (.int .u8 106) 106 := ⟨rfl⟩
instance : EncV eB (.int .u8 107) 107 := ⟨rfl⟩
instance : EncV eB (.int .u8 108) 108 := ⟨rfl⟩
instance : EncV eB (.int .u8 109) 109 := ⟨rfl⟩
instance : EncV eB (.int .u8 110) 110 := ⟨rfl⟩
instance : EncV eB (.int .u8 111) 111 := ⟨rfl⟩
instance : EncV eB (.int .u8 112) 112 := ⟨rfl⟩
instance : EncV eB (.int .u8 113) 113 := ⟨rfl⟩
instance : EncV eB (.int .u8 114) 114 := ⟨rfl⟩
instance : EncV eB (.int .u8 115) 115 := ⟨rfl⟩
instance : EncV eB (.int .u8 116) 116 := ⟨rfl⟩
instance : EncV eB (.int .u8 117) 117 := ⟨rfl⟩
instance : EncV eB (.int .u8 118) 118 := ⟨rfl⟩
instance : EncV eB (.int .u8 119) 119 := ⟨rfl⟩
instance : EncV eB (.int .u8 120) 120 := ⟨rfl⟩
instance : EncV eB (.int .u8 121) 121 := ⟨rfl⟩
instance : EncV eB (.int .u8 122) 122 := ⟨rfl⟩
instance : EncV eB (.int .u8 123) 123 := ⟨rfl⟩
instance : EncV eB (.int .u8 124) 124 := ⟨rfl⟩
instance : EncV eB (.int .u8 125) 125 := ⟨rfl⟩
instance : EncV eB (.int .u8 126) 126 := ⟨rfl⟩
instance : EncV eB (.int .u8 127) 127 := ⟨rfl⟩
instance : EncV eB (.int .u8 128) 128 := ⟨rfl⟩
instance : EncV eB (.int .u8 129) 129 := ⟨rfl⟩
instance : EncV eB (.int .u8 130) 130 := ⟨rfl⟩
instance : EncV eB (.int .u8 131) 131 := ⟨rfl⟩
instance : EncV eB (.int .u8 132) 132 := ⟨rfl⟩
instance : EncV eB (.int .u8 133) 133 := ⟨rfl⟩
instance : EncV eB (.int .u8 134) 134 := ⟨rfl⟩
instance : EncV eB (.int .u8 135) 135 := ⟨rfl⟩
instance : EncV eB (.int .u8 136) 136 := ⟨rfl⟩
instance : EncV eB (.int .u8 137) 137 := ⟨rfl⟩
instance : EncV eB (.int .u8 138) 138 := ⟨rfl⟩
instance : EncV eB (.int .u8 139) 139 := ⟨rfl⟩
instance : EncV eB (.int .u8 140) 140 := ⟨rfl⟩
instance : EncV eB (.int .u8 141) 141 := ⟨rfl⟩
instance : EncV eB (.int .u8 142) 142 := ⟨rfl⟩
instance : EncV eB (.int .u8 143) 143 := ⟨rfl⟩
instance : EncV eB (.int .u8 144) 144 := ⟨rfl⟩
instance : EncV eB (.int .u8 145) 145 := ⟨rfl⟩
instance : EncV eB (.int .u8 146) 146 := ⟨rfl⟩
instance : EncV eB (.int .u8 147) 147 := ⟨rfl⟩
instance : EncV eB (.int .u8 148) 148 := ⟨rfl⟩
instance : EncV eB (.int .u8 149) 149 := ⟨rfl⟩
instance : EncV eB (.int .u8 150) 150 := ⟨rfl⟩
instance : EncV eB (.int .u8 151) 151 := ⟨rfl⟩
instance : EncV eB (.int .u8 152) 152 := ⟨rfl⟩
instance : EncV eB (.int .u8 153) 153 := ⟨rfl⟩
instance : EncV eB (.int .u8 154) 154 := ⟨rfl⟩
instance : EncV eB (.int .u8 155) 155 := ⟨rfl⟩
instance : EncV eB (.int .u8 156) 156 := ⟨rfl⟩
instance : EncV eB (.int .u8 157) 157 := ⟨rfl⟩
instance : EncV eB (.int .u8 158) 158 := ⟨rfl⟩
instance : EncV eB (.int .u8 159) 159 := ⟨rfl⟩
instance : EncV eB (.int .u8 160) 160 := ⟨rfl⟩
instance : EncV eB (.int .u8 161) 161 := ⟨rfl⟩
instance : EncV eB (.int .u8 162) 162 := ⟨rfl⟩
instance : EncV eB (.int .u8 163) 163 := ⟨rfl⟩
instance : EncV eB (.int .u8 164) 164 := ⟨rfl⟩
instance : EncV eB (.int .u8 165) 165 := ⟨rfl⟩
instance : EncV eB (.int .u8 166) 166 := ⟨rfl⟩
instance : EncV eB (.int .u8 167) 167 := ⟨rfl⟩
instance : EncV eB (.int .u8 168) 168 := ⟨rfl⟩
instance : EncV eB (.int .u8 169) 169 := ⟨rfl⟩
instance : EncV eB (.int .u8 170) 170 := ⟨rfl⟩
instance : EncV eB (.int .u8 171) 171 := ⟨rfl⟩
instance : EncV eB (.int .u8 172) 172 := ⟨rfl⟩
instance : EncV eB (.int .u8 173) 173 := ⟨rfl⟩
instance : EncV eB (.int .u8 174) 174 := ⟨rfl⟩
instance : EncV eB (.int .u8 175) 175 := ⟨rfl⟩
instance : EncV eB (.int .u8 176) 176 := ⟨rfl⟩
instance : EncV eB (.int .u8 177) 177 := ⟨rfl⟩
instance : EncV eB (.int .u8 178) 178 := ⟨rfl⟩
instance : EncV eB (.int .u8 179) 179 := ⟨rfl⟩
instance : EncV eB (.int .u8 180) 180 := ⟨rfl⟩
instance : EncV eB (.int .u8 181) 181 := ⟨rfl⟩
instance : EncV eB (.int .u8 182) 182 := ⟨rfl⟩
instance : EncV eB (.int .u8 183) 183 := ⟨rfl⟩
instance : EncV eB (.int .u8 184) 184 := ⟨rfl⟩
instance : EncV eB (.int .u8 185) 185 := ⟨rfl⟩
instance : EncV eB (.int .u8 186) 186 := ⟨rfl⟩
instance : EncV eB (.int .u8 187) 187 := ⟨rfl⟩
instance : EncV eB (.int .u8 188) 188 := ⟨rfl⟩
instance : EncV eB (.int .u8 189) 189 := ⟨rfl⟩
instance : EncV eB (.int .u8 190) 190 := ⟨rfl⟩
instance : EncV eB (.int .u8 191) 191 := ⟨rfl⟩
instance : EncV eB (.int .u8 192) 192 := ⟨rfl⟩
instance : EncV eB (.int .u8 193) 193 := ⟨rfl⟩
instance : EncV eB (.int .u8 194) 194 := ⟨rfl⟩
instance : EncV eB (.int .u8 195) 195 := ⟨rfl⟩
instance : EncV eB (.int .u8 196) 196 := ⟨rfl⟩
instance : EncV eB (.int .u8 197) 197 := ⟨rfl⟩
instance : EncV eB (.int .u8 198) 198 := ⟨rfl⟩
instance : EncV eB (.int .u8 199) 199 := ⟨rfl⟩
instance : EncV eB (.int .u8 200) 200 := ⟨rfl⟩
instance : EncV eB (.int .u8 201) 201 := ⟨rfl⟩
instance : EncV eB (.int .u8 202) 202 := ⟨rfl⟩
instance : EncV eB (.int .u8 203) 203 := ⟨rfl⟩
instance : EncV eB (.int .u8 204) 204 := ⟨rfl⟩
instance : EncV eB (.int .u8 205) 205 := ⟨rfl⟩
instance : EncV eB (.int .u8 206) 206 := ⟨rfl⟩
instance : EncV eB (.int .u8 207) 207 := ⟨rfl⟩
instance : EncV eB (.int .u8 208) 208 := ⟨rfl⟩
instance : EncV eB (.int .u8 209) 209 := ⟨rfl⟩
instance : EncV eB (.int .u8 210) 210 := ⟨rfl⟩
instance : EncV eB (.int .u8 211) 211 := ⟨rfl⟩
instance : EncV eB (.int .u8 212) 212 := ⟨rfl⟩
instance : EncV eB (.int .u8 213) 213 := ⟨rfl⟩
instance : EncV eB (.int .u8 214) 214 := ⟨rfl⟩
instance : EncV eB (.int .u8 215) 215 := ⟨rfl⟩
instance : EncV eB (.int .u8 216) 216 := ⟨rfl⟩
instance : EncV eB (.int .u8 217) 217 := ⟨rfl⟩
instance : EncV eB (.int .u8 218) 218 := ⟨rfl⟩
instance : EncV eB (.int .u8 219) 219 := ⟨rfl⟩
instance : EncV eB (.int .u8 220) 220 := ⟨rfl⟩
instance : EncV eB (.int .u8 221) 221 := ⟨rfl⟩
instance : EncV eB (.int .u8 222) 222 := ⟨rfl⟩
instance : EncV eB (.int .u8 223) 223 := ⟨rfl⟩
instance : EncV eB (.int .u8 224) 224 := ⟨rfl⟩
instance : EncV eB (.int .u8 225) 225 := ⟨rfl⟩
instance : EncV eB (.int .u8 226) 226 := ⟨rfl⟩
instance : EncV eB (.int .u8 227) 227 := ⟨rfl⟩
instance : EncV eB (.int .u8 228) 228 := ⟨rfl⟩
instance : EncV eB (.int .u8 229) 229 := ⟨rfl⟩
instance : EncV eB (.int .u8 230) 230 := ⟨rfl⟩
instance : EncV eB (.int .u8 231) 231 := ⟨rfl⟩
instance : EncV eB (.int .u8 232) 232 := ⟨rfl⟩
instance : EncV eB (.int .u8 233) 233 := ⟨rfl⟩
instance : EncV eB (.int .u8 234) 234 := ⟨rfl⟩
instance : EncV eB (.int .u8 235) 235 := ⟨rfl⟩
instance : EncV eB (.int .u8 236) 236 := ⟨rfl⟩
instance : EncV eB (.int .u8 237) 237 := ⟨rfl⟩
instance : EncV eB (.int .u8 238) 238 := ⟨rfl⟩
instance : EncV eB (.int .u8 239) 239 := ⟨rfl⟩
instance : EncV eB (.int .u8 240) 240 := ⟨rfl⟩
instance : EncV eB (.int .u8 241) 241 := ⟨rfl⟩
instance : EncV eB (.int .u8 242) 242 := ⟨rfl⟩
instance : EncV eB (.int .u8 243) 243 := ⟨rfl⟩
instance : EncV eB (.int .u8 244) 244 := ⟨rfl⟩
instance : EncV eB (.int .u8 245) 245 := ⟨rfl⟩
instance : EncV eB (.int .u8 246) 246 := ⟨rfl⟩
instance : EncV eB (.int .u8 247) 247 := ⟨rfl⟩
instance : EncV eB (.int .u8 248) 248 := ⟨rfl⟩
instance : EncV eB (.int .u8 249) 249 := ⟨rfl⟩
instance : EncV eB (.int .u8 250) 250 := ⟨rfl⟩
instance : EncV eB (.int .u8 251) 251 := ⟨rfl⟩
instance : EncV eB (.int .u8 252) 252 := ⟨rfl⟩
instance : EncV eB (.int .u8 253) 253 := ⟨rfl⟩
instance : EncV eB (.int .u8 254) 254 := ⟨rfl⟩
instance : EncV eB (.int .u8 255) 255 := ⟨rfl⟩
end Go.Sx
namespace Go.Sx
open Go

/-! ## Memory that is handed on: many rows as one assertion -/
section
variable {G : Base} {P : Program} {t : Tm} {H : Heap} {dst : Option Tmp} {ty : TypeId} {pos : String} {after : Array Edge} {g : Option (Nat × Bool)}
theorem star_out {F : Heap} {L : Frag} (h : Sep (Star F :: H) L) : ∃ L1 L2, L = L1 ++ L2 ∧ Sep F L1 ∧ Sep H L2 := h
instance Sl.star {F : Heap} {s : SV} {α : Type} {e : Enc α} {xs : List α} [h : Sl F s e xs] : Sl (Star F :: H) s e xs :=
  ⟨fun L hL => by
    obtain ⟨L1, L2, rfl, h1, _⟩ := star_out hL
    exact (h.out L1 h1).mono fun x hx => List.mem_append_left _ hx⟩
/-- This very assertion, and the rest. -/
class RemA (H : Heap) (A : Hp) (R : outParam Heap) : Prop where
  out : ∀ L, Sep H L → ∃ L', L'.Perm L ∧ Sep (A :: R) L'
instance RemA.head {A : Hp} : RemA (A :: H) A H := ⟨fun L h => ⟨L, .refl L, h⟩⟩
instance RemA.tail {A B : Hp} {R : Heap} [h : RemA H A R] : RemA (B :: H) A (B :: R) :=
  ⟨fun L hL => by
    obtain ⟨L1, L2, rfl, h1, h2⟩ := hL
    obtain ⟨L', hp, M1, M2, rfl, h3, h4⟩ := h.out L2 h2
    refine ⟨M1 ++ (L1 ++ M2), ?_, M1, L1 ++ M2, rfl, h3, L1, M2, rfl, h1, h4⟩
    rw [← List.append_assoc]
    refine ((List.perm_append_comm.append_right M2).trans ?_)
    rw [List.append_assoc]
    exact hp.append_left L1⟩
theorem HSub.remA {A : Hp} {R H' : Heap} (hr : RemA H A R) (h : HSub (A :: R) H') : HSub H H' := fun L hL => by
  obtain ⟨L', h1, h2⟩ := hr.out L hL
  obtain ⟨L'', M, h3, h4⟩ := h L' h2
  exact ⟨L'', M, h3, h4.trans h1⟩
theorem HSub.keepA {A : Hp} {R H' : Heap} [hr : RemA H A R] (h : HSub R H') : HSub H (A :: H') := HSub.remA hr h.keep
theorem HSub.starNil {H' : Heap} (h : HSub H H') : HSub H (Star [] :: H') := HSub.add rfl h
theorem HSub.starRow {F R R' H' : Heap} {s : SV} {α : Type} {e : Enc α} {xs : List α} [hr : RemR H s e xs R] [hr2 : RemA R (Star F) R'] (h : HSub R' H') : HSub H (Star (Row s e xs :: F) :: H') := by
  refine HSub.remR hr (HSub.trans (H' := Row s e xs :: Star F :: R') ?_ ?_)
  · exact HSub.keep (HSub.remA hr2 HSub.refl)
  · intro L hL
    obtain ⟨L1, L2, rfl, h1, L3, L4, rfl, h3, h4⟩ := hL
    obtain ⟨L', M, h5, h6⟩ := h L4 h4
    exact ⟨(L1 ++ L3) ++ L', M, ⟨L1 ++ L3, L', rfl, ⟨L1, L3, rfl, h1, h3⟩, h5⟩, by simp only [List.append_assoc]; exact (h6.append_left L3).append_left L1⟩
/-- Two lots of memory as one. -/
theorem HSub.starStar {F F' R R' H' : Heap} [hr : RemA H (Star F) R] [hr2 : RemA R (Star F') R'] (h : HSub R' H') : HSub H (Star (Star F :: F') :: H') := by
  refine HSub.remA hr (HSub.trans (H' := Star F :: Star F' :: R') ?_ ?_)
  · exact HSub.keep (HSub.remA hr2 HSub.refl)
  · intro L hL
    obtain ⟨L1, L2, rfl, h1, L3, L4, rfl, h3, h4⟩ := hL
    obtain ⟨L', M, h5, h6⟩ := h L4 h4
    exact ⟨(L1 ++ L3) ++ L', M, ⟨L1 ++ L3, L', rfl, ⟨L1, L3, rfl, h1, h3⟩, h5⟩, by simp only [List.append_assoc]; exact (h6.append_left L3).append_left L1⟩

theorem ev_neq_strB {T U : TypeId} {x y : Operand} {xs ys : List Nat} {c : ByteArray} (hx : evo t x = some (.string (strB xs))) (hy : evo t y = some (.string c)) (hb : ∀ n ∈ xs, n < 256) (hc : byts c = ys) : Ev G P ⟨dst, .binOp .neq T x y U, ty, pos, after, g⟩ t H (.bool (!decide (xs = ys))) := by
  have := ev_neq_str (G := G) (P := P) (H := H) (dst := dst) (ty := ty) (pos := pos) (after := after) (g := g) (T := T) (U := U) hx hy
  rwa [byts_strB hb, hc] at this
end
end Go.Sx
namespace Go.Sx
open Go

/-! ## Maps from strings: the set of their keys -/
section
variable {G : Base} {P : Program} {N : Nat} {Q : Post} {t : Tm} {H : Heap} {ops : Array Oper} {dst : Option Tmp} {ty : TypeId} {pos : String} {after : Array Edge} {g : Option (Nat × Bool)}

def Mp (r : Nat) (ks : List (List Nat)) : Hp := fun L => ∃ (es : List MapEntry) (clock : Nat) (qs : List ByteArray), L = [(r, .map es.toArray clock)] ∧ es.map (·.key) = qs.map Value.string ∧ qs.map byts = ks

theorem findNow_str (k : ByteArray) : ∀ (ks : List ByteArray) (es : List MapEntry) (i : Nat), es.map (·.key) = ks.map Value.string →
    (byts k ∈ ks.map byts ∧ ∃ p, Instr.findNow .string (.string k) es i = some (some p)) ∨ (byts k ∉ ks.map byts ∧ Instr.findNow .string (.string k) es i = some none)
  | [], es, i, h => by
    obtain rfl : es = [] := by simpa using h
    exact .inr ⟨by simp, rfl⟩
  | q :: ks, [], i, h => by cases h
  | q :: ks, e :: es, i, h => by
    simp only [List.map_cons, List.cons.injEq] at h
    obtain ⟨h1, h2⟩ := h
    have hn : Instr.findNow .string (.string k) (e :: es) i = match Instr.sameNow .string (.string k) (.string q) with
        | some true => some (some (i, e.val))
        | some false => Instr.findNow .string (.string k) es (i + 1)
        | none => none := by rw [← h1]; rfl
    rw [hn]
    by_cases hk : k = q
    · subst hk
      have hb : (k == k) = true := (MapKept.bytes_beq k k).2 rfl
      left
      simp only [Instr.sameNow, hb]
      exact ⟨by simp, _, rfl⟩
    · have hb : (k == q) = false := by
        cases h : (k == q) with
        | false => rfl
        | true => exact absurd ((MapKept.bytes_beq k q).1 h) hk
      have hbb : ¬ byts k = byts q := fun h => hk (byts_inj.1 h)
      simp only [Instr.sameNow, hb]
      rcases findNow_str k ks es (i + 1) h2 with ⟨h3, h4⟩ | ⟨h3, h4⟩
      · exact .inl ⟨List.mem_cons_of_mem _ h3, h4⟩
      · exact .inr ⟨fun h => by
          rcases List.mem_cons.1 h with h | h
          · exact hbb h
          · exact h3 h, h4⟩

theorem isKey_str (s : ByteArray) : MapKept.IsKey .string (.string s) := by simp [MapKept.IsKey]

theorem st_makeMap {T K E : TypeId} {x : Operand} {k : IntKind} {i : Int} [hT : Und P T (.map K E)] (hx : evo t x = some (.int k i)) :
    St G P ⟨dst, .makeMap T (some x), ty, pos, after, g⟩ t H (fun u H' => ∃ r, u = .map (some r) ∧ H' = Mp r [] :: H) :=
  fun ρ hρ w hw => by
    have hr : (execOp ρ ⟨dst, .makeMap T (some x), ty, pos, after, g⟩).run P w = .ok (.value (.map (some w.heap.size))) { w with heap := w.heap.push (.map #[] 0) } := by
      simp only [execOp, Option.map_some, Instr.makeMap, hρ _ _ hx, Sem.run_bind, run_und (T := T), Result.andThen_ok, asInt, asIntOf, Sem.run_pure, run_newObj]
    rw [hr]
    exact ⟨_, (hw.alloc _).cons fun _ hM => ⟨[], 0, [], hM, rfl, rfl⟩, w.heap.size, rfl, rfl⟩

theorem st_lookup {T K E : TypeId} {x y : Operand} {r sz bb : Nat} {z : Value} {ks : List (List Nat)} {s : ByteArray} {C : Hp → Heap} [hT : Und P T (.map K E)] [hK : Und P K .string] [hE : Inf P E sz bb z] (hx : evo t x = some (.map (some r))) (hy : evo t y = some (.string s)) [hf : Foc H Mp r ks C] :
    St G P ⟨dst, .lookup T x y true, ty, pos, after, g⟩ t H (fun u H' => (∃ v, u = .tuple #[v, .bool (decide (byts s ∈ ks))]) ∧ H' = H) :=
  fun ρ hρ w hw => by
    obtain ⟨hS, L, hL, hl⟩ := hw
    obtain ⟨L1, M, L2, rfl, ⟨es, clock, qs, rfl, hk, rfl⟩, hB⟩ := hf.foc _ hL
    have hb : w.heap[r]? = some (.map es.toArray clock) := hl.at_ (r, .map es.toArray clock) (by simp)
    have hg := MapKept.run_getObj_map (P := P) hb
    have hck := MapKept.run_checkKey (P := P) (w := w) hK.out (isKey_str s)
    rcases findNow_str s qs es 0 hk with ⟨h1, ⟨i, v⟩, h2⟩ | ⟨h1, h2⟩
    · have h3 := MapKept.run_findKey (P := P) (w := w) hK.out h2
      have hr : (execOp ρ ⟨dst, .lookup T x y true, ty, pos, after, g⟩).run P w = .ok (.value (.tuple #[v, .bool true])) w := by
        simp only [execOp, hρ _ _ hx, hρ _ _ hy, Instr.lookup, Sem.run_bind, run_und (T := T), Result.andThen_ok, hg, Sem.run_pure, hck, h3, ↓reduceIte]
      rw [hr]
      exact ⟨H, ⟨hS, _, hL, hl⟩, ⟨v, by simp [h1]⟩, rfl⟩
    · have h3 := MapKept.run_findKey (P := P) (w := w) hK.out h2
      have hr : (execOp ρ ⟨dst, .lookup T x y true, ty, pos, after, g⟩).run P w = .ok (.value (.tuple #[z, .bool false])) w := by
        simp only [execOp, hρ _ _ hx, hρ _ _ hy, Instr.lookup, Sem.run_bind, run_und (T := T), Result.andThen_ok, hg, Sem.run_pure, hck, h3, run_zero (T := E), ↓reduceIte]
      rw [hr]
      exact ⟨H, ⟨hS, _, hL, hl⟩, ⟨z, by simp [h1]⟩, rfl⟩

theorem st_mapUpdate {T K E : TypeId} {x y v : Operand} {r : Nat} {u : Value} {ks : List (List Nat)} {s : ByteArray} {C : Hp → Heap} [hT : Und P T (.map K E)] [hK : Und P K .string] (hx : evo t x = some (.map (some r))) (hy : evo t y = some (.string s)) (hv : evo t v = some u) [hf : Foc H Mp r ks C] (hno : byts s ∉ ks) :
    St G P ⟨dst, .mapUpdate T x y v, ty, pos, after, g⟩ t H (fun u H' => u = undef ∧ H' = C (Mp r (ks ++ [byts s]))) :=
  fun ρ hρ w hw => by
    obtain ⟨hS, L, hL, hl⟩ := hw
    obtain ⟨L1, M, L2, rfl, ⟨es, clock, qs, rfl, hk, rfl⟩, hB⟩ := hf.foc _ hL
    have hb : w.heap[r]? = some (.map es.toArray clock) := hl.at_ (r, .map es.toArray clock) (by simp)
    have hg := MapKept.run_getObj_map (P := P) hb
    have hck := MapKept.run_checkKey (P := P) (w := w) hK.out (isKey_str s)
    rcases findNow_str s qs es 0 hk with ⟨h1, _⟩ | ⟨h1, h2⟩
    · exact absurd h1 hno
    · have h3 := MapKept.run_findKey (P := P) (w := w) hK.out h2
      have hso := MapKept.run_setObj_map (P := P) (.map (es.toArray.push { key := .string s, val := u, born := clock }) (clock + 1)) hb
      have hr : (execOp ρ ⟨dst, .mapUpdate T x y v, ty, pos, after, g⟩).run P w = .ok .skip (setBlk w r (.map (es.toArray.push { key := .string s, val := u, born := clock }) (clock + 1))) := by
        simp only [execOp, hρ _ _ hx, hρ _ _ hy, hρ _ _ hv, Instr.mapUpdate, Sem.run_bind, run_und (T := T), Result.andThen_ok, hg, hck, h3, hso, Sem.run_pure]
        rfl
      rw [hr]
      refine ⟨C (Mp r (qs.map byts ++ [byts s])), ⟨⟨hS.os, hS.tape, hS.output⟩, _, hB _ [(r, .map (es.toArray.push { key := .string s, val := u, born := clock }) (clock + 1))] ⟨es ++ [{ key := .string s, val := u, born := clock }], clock + 1, qs ++ [s], by simp, by simp [hk], by simp⟩, ?_⟩, rfl, rfl⟩
      have := Lies.change (w' := setBlk w r (.map (es.toArray.push { key := .string s, val := u, born := clock }) (clock + 1))) (L1 := L1) (L2 := L2) (b := r) (o := .map es.toArray clock) (o' := .map (es.toArray.push { key := .string s, val := u, born := clock }) (clock + 1)) (by simpa using hl) (setBlk_get hb) (fun i hi _ => setBlk_other hi)
      simpa using this
theorem HSub.mp {R H' : Heap} {r : Nat} {ks : List (List Nat)} [hr : Rem H Mp r ks R] (h : HSub R H') : HSub H (Mp r ks :: H') := HSub.rem hr h.keep

/-! ## Guards whose own operation was left out -/
theorem wanted_undef {o : Oper} {j d : Nat} {want : Bool} {a : Act} (ha : Fr N t a) (hg : o.guard = some (j, want)) (hj : (ops[j]?).bind (·.dst) = some d) (hb : look t d = some undef) :
    Region.wanted o (yielded ops a.tmps) = false := by
  have h1 : a.tmps[d]? = some undef := ha.look _ _ hb
  have h2 : yielded ops a.tmps j = none := by
    unfold yielded
    rw [hj]
    simp [h1, undef]
  unfold Region.wanted
  rw [hg]
  simp only [h2]
  rfl
theorem o_off_u {l : List Oper} {op : Op} {j d : Nat} {want : Bool} (hj : (ops[j]?).bind (·.dst) = some d) (hv : look t d = some undef) (hd : fits N dst = true)
    (hk : O G P N ops l Q (put t dst undef) H) : O G P N ops (⟨dst, op, ty, pos, after, some (j, want)⟩ :: l) Q t H := by
  refine ⟨fun a w ha hw => ?_⟩
  unfold wpList
  rw [wanted_undef (o := ⟨dst, op, ty, pos, after, some (j, want)⟩) ha rfl hj hv]
  rw [if_neg (by simp)]
  exact hk.go _ _ (ha.put hd undef) hw
end
end Go.Sx
namespace Go.Sx
open Go
section
variable {G : Base} {P : Program} {ops : Array Oper} {N : Nat} {Q : Post} {t : Tm} {H : Heap}
/-- The one operation that may come up, behind a guard that holds. -/
theorem an_step_on {loud : Nat → Bool} {F : Nat → Heap → Prop} {fuel : Nat} {listed : Array Bool} {dst : Option Tmp} {op : Op} {ty : TypeId} {pos : String} {after : Array Edge} {R : Value → Heap → Prop} {k d : Nat} {want : Bool} (i : Nat) (hi : ops[i]? = some ⟨dst, op, ty, pos, after, some (k, want)⟩) (hk : (ops[k]?).bind (·.dst) = some d) (hv : look t d = some (.bool want)) (hr : Region.ready .any ops listed = [i]) (hd : fits N dst = true)
    (hF : ∀ i, Live ops loud i listed → F i H) (hs : St G P ⟨dst, op, ty, pos, after, some (k, want)⟩ t H R) (h : ∀ v H', R v H' → An G P N ops loud F Q fuel (listed.setIfInBounds i true) (put t dst v) H') : An G P N ops loud F Q (fuel + 1) listed t H :=
  ⟨fun a ha => ⟨hF, fun h0 => (by rw [h0] at hr; cases hr), fun j hj => by
    rw [hr] at hj
    obtain rfl : j = i := by simpa using hj
    unfold OpK
    simp only [hi]
    rw [if_pos (by rw [wanted_of (o := ⟨dst, op, ty, pos, after, some (k, want)⟩) ha rfl hk hv]; simp)]
    intro w hw
    have h1 := hs a.eval ha.agree w hw
    generalize (execOp a.eval _).run P w = r at *
    cases r with
    | ok n w' =>
      cases n <;> simp only [Does] at h1 <;> simp only [DoesK]
      case value u => obtain ⟨H', q1, q2⟩ := h1; exact ⟨H', q1, (h u H' q2).go _ (ha.put hd u)⟩
      case skip => obtain ⟨H', q1, q2⟩ := h1; exact ⟨H', q1, (h _ H' q2).go _ (ha.put hd _)⟩
      case enter f args =>
        exact h1.mono fun e w'' he => by
          cases e with
          | returned u => obtain ⟨H', q1, q2⟩ := he; exact ⟨H', q1, (h u H' q2).go _ (ha.put hd u)⟩
          | _ => exact he
    | halt x w' => simp only [Does] at h1⟩⟩

/-- s == nil of a slice that isn't empty. -/
theorem ev_eql_sl_val {T E U : TypeId} {x : Operand} {s : SV} {α : Type} {e : Enc α} {xs : List α} {dst : Option Tmp} {ty : TypeId} {pos : String} {after : Array Edge} {g : Option (Nat × Bool)} [hT : Und P T (.slice E)] [hs : Sl H s e xs] (hx : evo t x = some s.val) (hne : xs ≠ []) : Ev G P ⟨dst, .binOp .eql T x (.const (.slice none 0 0)) U, ty, pos, after, g⟩ t H (.bool false) :=
  fun ρ hρ w hw => by
    obtain ⟨_, _, h3⟩ := hs.get hw
    rcases h3 with ⟨h4, _⟩ | ⟨b, off, C, E', fz, h4, _⟩
    · exact absurd h4 hne
    · have h1 := run_guard_nil (P := P) (op := .eql) (T := T) (x := x) (y := .const (.slice none 0 0)) (w := w) (a := s.val) (b := .slice none 0 0) (.inr rfl) (fun c h => by cases h)
      have h2 := run_equal (P := P) (w := w) (T := T) (x := s.val) (y := .slice none 0 0) (r := false) (fun d => by simp only [SV.val, h4, Op.equalIn, Sem.run_bind, run_und (T := T), Result.andThen_ok, Sem.run_pure])
      have h5 : (binOp .eql T s.val (.slice none 0 0)).run P w = .ok (.bool false) w := by
        simp only [SV.val] at h2 ⊢
        simp only [binOp, Sem.run_bind, h2, Result.andThen_ok, Sem.run_pure]
      simp only [execOp, hρ _ _ hx, hρ (.const (.slice none 0 0)) _ rfl, Sem.run_bind, h1, Result.andThen_ok, h5, Sem.run_pure]
end
end Go.Sx
namespace Go.Sx
open Go
section
variable {G : Base} {P : Program} {ops : Array Oper} {N : Nat} {Q : Post} {t : Tm} {H : Heap} {dst : Option Tmp} {ty : TypeId} {pos : String} {after : Array Edge} {g : Option (Nat × Bool)}
/-- s[i] = a. -/
theorem st_store_el {T : TypeId} {x y : Operand} {s : SV} {i sz bb : Nat} {z v : Value} {α : Type} {e : Enc α} {xs : List α} {a : α} {C : Hp → Heap} (hx : evo t x = some (.pointer (s.elt sz i 0))) (hy : evo t y = some v) [hT : Inf P T sz bb z] [hf : FocR H s e xs C] [hv : EncV e v a] (hsz : e.sz = sz) (hlt : i < xs.length) :
    St G P ⟨dst, .store T x y, ty, pos, after, g⟩ t H (fun u H' => u = undef ∧ H' = C (Row s e (xs.set i a))) :=
  fun ρ hρ w hw => by
    subst hsz
    obtain ⟨L1, M, L2, hl, hM, hB⟩ := hf.split hw
    rcases hM with ⟨rfl, rfl, rfl⟩ | ⟨b, C0, E0, fz, g1, g2, g3, rfl, g5, g6, g7⟩
    · simp at hlt
    · have hbw : w.heap[b]? = some (.cells C0 E0 fz) := hl.at_ (b, .cells C0 E0 fz) (by simp)
      have hle : i * e.sz + e.sz ≤ C0.size := by
        rw [g5, show i * e.sz + e.sz = (i + 1) * e.sz by rw [Nat.add_mul]; omega]
        exact Nat.mul_le_mul_right _ (by omega)
      have hst := run_storeCells_blk (P := P) (o := i * e.sz) (e.f a) 0 C0 w hbw (fun j _ h => g6.free j (by rw [e.len] at h; omega)) (by rw [e.len]; omega) (fun u hu => e.one a u hu)
      have hcs : v.cells = (e.f a).toArray := by rw [← hv.out, e.v_cells]
      have hn : v.cells.size = e.sz := by rw [hcs]; simp [e.len]
      have hx' := hρ _ _ hx
      simp only [SV.elt, g1, Option.map_some, Nat.add_zero, Nat.zero_add] at hx'
      have hr : (execOp ρ ⟨dst, .store T x y, ty, pos, after, g⟩).run P w = .ok .skip (setBlk w b (.cells (putAt C0 (i * e.sz) (e.f a)) E0 fz)) := by
        simp only [execOp, hx', hρ _ _ hy, Instr.storeAt, Instr.sureAddr, storeVar, Sem.run_bind, Sem.run_pure, Result.andThen_ok, run_sizeOf (T := T), hn]
        simp only [ne_eq, not_true_eq_false, ↓reduceIte]
        rw [hcs]
        simp only [Nat.add_zero] at hst ⊢
        rw [hst]; rfl
      rw [hr]
      refine ⟨C (Row s e (xs.set i a)), ⟨⟨hw.1.os, hw.1.tape, hw.1.output⟩, _, hB _ [(b, .cells (putAt C0 (i * e.sz) (e.f a)) E0 fz)] (.inr ⟨b, _, E0, fz, g1, by rw [List.length_set]; exact g2, g3, rfl, by rw [putAt_size, g5], by rw [putAt_size]; exact g6, ?_⟩), ?_⟩, rfl, rfl⟩
      · intro j u hu
        rw [putAt_get _ _ _ _ (by rw [e.len]; exact hle), e.len]
        rw [List.set_eq_take_append_cons_drop, if_pos hlt, e.all_append, e.all_cons] at hu
        have hla : (e.all (xs.take i)).length = i * e.sz := by rw [e.all_length, List.length_take, Nat.min_eq_left (by omega)]
        by_cases hj : j < i * e.sz
        · rw [if_neg (by omega)]
          rw [List.getElem?_append_left (by omega), e.all_take, List.getElem?_take_of_lt hj] at hu
          exact g7 j u hu
        · rw [List.getElem?_append_right (by omega), hla] at hu
          by_cases hj2 : j < i * e.sz + e.sz
          · rw [if_pos (by omega)]
            rw [List.getElem?_append_left (by rw [e.len]; omega)] at hu
            exact hu
          · rw [if_neg (by omega)]
            rw [List.getElem?_append_right (by rw [e.len]; omega), e.len, e.all_drop, List.getElem?_drop, Nat.add_mul, Nat.one_mul] at hu
            exact g7 j u (by rw [← hu]; congr 1; omega)
      · have := Lies.change (w' := setBlk w b (.cells (putAt C0 (i * e.sz) (e.f a)) E0 fz)) (L1 := L1) (L2 := L2) (b := b) (o := .cells C0 E0 fz) (o' := .cells (putAt C0 (i * e.sz) (e.f a)) E0 fz) (by simpa using hl) (setBlk_get hbw) (fun i hi _ => setBlk_other hi)
        simpa using this

/-- A conversion of any number. -/
theorem ev_convE {S D : TypeId} {ds : TypeDesc} {x : Operand} {k k' : IntKind} {i : Int} [hs : Und P S ds] [hd : Und P D (.int k')] (hx : evo t x = some (.int k i)) (c : Int) (h : k'.wrap i = c) :
    Ev G P ⟨dst, .convert S D x, ty, pos, after, g⟩ t H (.int k' c) :=
  fun ρ hρ w _ => by
    have e : (underlying S).run P w = .ok ds w := by simp [underlying, hs.out]
    have e2 : (underlying D).run P w = .ok (.int k') w := by simp [underlying, hd.out]
    simp only [execOp, convert, hρ _ _ hx, Sem.run_bind, e, e2, Result.andThen_ok]
    cases ds <;> simp [Conv.intToInt, h]
end
end Go.Sx
