import Derived.Test.YtcbidldebfibkaaGreatDoorSxJ
import Derived.Test.YtcbidldebfibkaaGreatDoorProg
import Derived.KernelRfl
set_option linter.unusedVariables false
set_option linter.unusedSimpArgs false
set_option linter.unusedSectionVars false
set_option linter.unnecessarySimpa false
namespace Go.Sx
open Go Go.Proofs

theorem inf_of {P : Program} {T : TypeId} {s b : Nat} {z : Value} (h : (P.info? T).map (fun i => (i.size, i.bytes, i.zero)) = some (s, b, some z)) : Inf P T s b z := by
  cases hi : P.info? T with
  | none => rw [hi] at h; cases h
  | some i => rw [hi] at h; simp only [Option.map_some, Option.some.injEq, Prod.mk.injEq] at h; exact ⟨⟨i, hi, h.1, h.2.1, h.2.2⟩⟩
theorem agg_of {P : Program} {T : TypeId} {s b : Nat} {z : Value} {d : TypeDesc} (hm : (match d with | .struct _ | .array _ _ => true | _ => false) = true) (hd : P.underlying T = some d) (h : Inf P T s b z) : Agg P T s := by
  obtain ⟨i, h1, h2, _⟩ := h.out
  exact ⟨⟨d, i, hd, hm, h1, h2⟩⟩
theorem fld_of {P : Program} {T ty : TypeId} {k off s b : Nat} {z : Value} {fs : Array Field} (hd : P.underlying T = some (.struct fs)) (hf : (fs[k]?).map (fun f => (f.offset, f.type)) = some (off, ty)) (h : Inf P ty s b z) (hs : s ≠ 0) : Fld P T k off := by
  obtain ⟨i, h1, h2, _⟩ := h.out
  cases hk : fs[k]? with
  | none => rw [hk] at hf; cases hf
  | some f =>
    rw [hk] at hf
    simp only [Option.map_some, Option.some.injEq, Prod.mk.injEq] at hf
    exact ⟨⟨fs, f, i, hd, hk, hf.1, by rw [hf.2]; exact h1, by rw [h2]; exact hs⟩⟩
theorem str_of {P : Program} {T : TypeId} {s b : Nat} {z : Value} {fs : Array Field} {places : List (Nat × Nat)} {zs : List Value} (hd : P.underlying T = some (.struct fs)) (h : Inf P T s b z) (hp : ∀ w, (fs.mapM fun (f : Field) => (do pure (f.offset, ← sizeOf f.type) : Sem (Nat × Nat))).run P w = .ok places.toArray w) (hz : z.cells = zs.toArray) : Str P T places zs := by
  obtain ⟨i, h1, _, _, h4⟩ := h.out
  exact ⟨⟨fs, i, z, hd, hp, h1, h4, hz⟩⟩
theorem Tryz_mixed : Tryz.prog.follows .mixedOrders = true := by kernel_rfl

instance : Und Tryz.prog 2 (.int .i64) := ⟨Tryz.underlying2⟩
instance : One Tryz.prog 2 := ⟨⟨_, Tryz.underlying2, rfl⟩⟩
theorem inf2 : Inf Tryz.prog 2 1 8 (.int .i64 0) := inf_of (by kernel_rfl)
instance : Inf Tryz.prog 2 1 8 (.int .i64 0) := inf2
instance : Und Tryz.prog 3 (.int .i64) := ⟨Tryz.underlying3⟩
instance : One Tryz.prog 3 := ⟨⟨_, Tryz.underlying3, rfl⟩⟩
theorem inf3 : Inf Tryz.prog 3 1 8 (.int .i64 0) := inf_of (by kernel_rfl)
instance : Inf Tryz.prog 3 1 8 (.int .i64 0) := inf3
instance : Und Tryz.prog 4 .bool := ⟨Tryz.underlying4⟩
instance : One Tryz.prog 4 := ⟨⟨_, Tryz.underlying4, rfl⟩⟩
theorem inf4 : Inf Tryz.prog 4 1 1 (.bool false) := inf_of (by kernel_rfl)
instance : Inf Tryz.prog 4 1 1 (.bool false) := inf4
instance : Und Tryz.prog 5 (.int .u8) := ⟨Tryz.underlying5⟩
instance : One Tryz.prog 5 := ⟨⟨_, Tryz.underlying5, rfl⟩⟩
theorem inf5 : Inf Tryz.prog 5 1 1 (.int .u8 0) := inf_of (by kernel_rfl)
instance : Inf Tryz.prog 5 1 1 (.int .u8 0) := inf5
instance : Und Tryz.prog 6 (.int .u8) := ⟨Tryz.underlying6⟩
instance : One Tryz.prog 6 := ⟨⟨_, Tryz.underlying6, rfl⟩⟩
theorem inf6 : Inf Tryz.prog 6 1 1 (.int .u8 0) := inf_of (by kernel_rfl)
instance : Inf Tryz.prog 6 1 1 (.int .u8 0) := inf6
theorem inf8 : Inf Tryz.prog 8 4 24 (.agg #[(.int .i64 0), (.int .i64 0), (.bool false), (.int .u8 0)]) := inf_of (by kernel_rfl)
instance : Inf Tryz.prog 8 4 24 (.agg #[(.int .i64 0), (.int .i64 0), (.bool false), (.int .u8 0)]) := inf8
instance : Agg Tryz.prog 8 4 := agg_of rfl Tryz.underlying8 inf8
instance : Und Tryz.prog 9 .string := ⟨Tryz.underlying9⟩
instance : One Tryz.prog 9 := ⟨⟨_, Tryz.underlying9, rfl⟩⟩
theorem inf9 : Inf Tryz.prog 9 1 16 (.string ByteArray.empty) := inf_of (by kernel_rfl)
instance : Inf Tryz.prog 9 1 16 (.string ByteArray.empty) := inf9
instance : Und Tryz.prog 16 (.pointer 376) := ⟨Tryz.underlying16⟩
instance : One Tryz.prog 16 := ⟨⟨_, Tryz.underlying16, rfl⟩⟩
theorem inf16 : Inf Tryz.prog 16 1 8 (.pointer none) := inf_of (by kernel_rfl)
instance : Inf Tryz.prog 16 1 8 (.pointer none) := inf16
instance : Und Tryz.prog 20 (.interface #[]) := ⟨Tryz.underlying20⟩
instance : One Tryz.prog 20 := ⟨⟨_, Tryz.underlying20, rfl⟩⟩
theorem inf20 : Inf Tryz.prog 20 1 16 .nilIface := inf_of (by kernel_rfl)
instance : Inf Tryz.prog 20 1 16 .nilIface := inf20
instance : Und Tryz.prog 21 (.int .i32) := ⟨Tryz.underlying21⟩
instance : One Tryz.prog 21 := ⟨⟨_, Tryz.underlying21, rfl⟩⟩
theorem inf21 : Inf Tryz.prog 21 1 4 (.int .i32 0) := inf_of (by kernel_rfl)
instance : Inf Tryz.prog 21 1 4 (.int .i32 0) := inf21
instance : Und Tryz.prog 22 (.slice 59) := ⟨Tryz.underlying22⟩
instance : One Tryz.prog 22 := ⟨⟨_, Tryz.underlying22, rfl⟩⟩
theorem inf22 : Inf Tryz.prog 22 1 24 (.slice none 0 0) := inf_of (by kernel_rfl)
instance : Inf Tryz.prog 22 1 24 (.slice none 0 0) := inf22
theorem inf24 : Inf Tryz.prog 24 1 24 (.agg #[(.slice none 0 0)]) := inf_of (by kernel_rfl)
instance : Inf Tryz.prog 24 1 24 (.agg #[(.slice none 0 0)]) := inf24
instance : Agg Tryz.prog 24 1 := agg_of rfl Tryz.underlying24 inf24
instance : Und Tryz.prog 25 (.slice 49) := ⟨Tryz.underlying25⟩
instance : One Tryz.prog 25 := ⟨⟨_, Tryz.underlying25, rfl⟩⟩
theorem inf25 : Inf Tryz.prog 25 1 24 (.slice none 0 0) := inf_of (by kernel_rfl)
instance : Inf Tryz.prog 25 1 24 (.slice none 0 0) := inf25
theorem inf27 : Inf Tryz.prog 27 3 56 (.agg #[(.slice none 0 0), (.int .i64 0), (.slice none 0 0)]) := inf_of (by kernel_rfl)
instance : Inf Tryz.prog 27 3 56 (.agg #[(.slice none 0 0), (.int .i64 0), (.slice none 0 0)]) := inf27
instance : Agg Tryz.prog 27 3 := agg_of rfl Tryz.underlying27 inf27
instance : Und Tryz.prog 29 (.slice 5) := ⟨Tryz.underlying29⟩
instance : One Tryz.prog 29 := ⟨⟨_, Tryz.underlying29, rfl⟩⟩
theorem inf29 : Inf Tryz.prog 29 1 24 (.slice none 0 0) := inf_of (by kernel_rfl)
instance : Inf Tryz.prog 29 1 24 (.slice none 0 0) := inf29
instance : Und Tryz.prog 34 (.interface #[("Error", 371)]) := ⟨Tryz.underlying34⟩
instance : One Tryz.prog 34 := ⟨⟨_, Tryz.underlying34, rfl⟩⟩
theorem inf34 : Inf Tryz.prog 34 1 16 .nilIface := inf_of (by kernel_rfl)
instance : Inf Tryz.prog 34 1 16 .nilIface := inf34
instance : Und Tryz.prog 43 (.slice 29) := ⟨Tryz.underlying43⟩
instance : One Tryz.prog 43 := ⟨⟨_, Tryz.underlying43, rfl⟩⟩
theorem inf43 : Inf Tryz.prog 43 1 24 (.slice none 0 0) := inf_of (by kernel_rfl)
instance : Inf Tryz.prog 43 1 24 (.slice none 0 0) := inf43
instance : Und Tryz.prog 44 (.slice 47) := ⟨Tryz.underlying44⟩
instance : One Tryz.prog 44 := ⟨⟨_, Tryz.underlying44, rfl⟩⟩
theorem inf44 : Inf Tryz.prog 44 1 24 (.slice none 0 0) := inf_of (by kernel_rfl)
instance : Inf Tryz.prog 44 1 24 (.slice none 0 0) := inf44
instance : Und Tryz.prog 47 (.slice 3) := ⟨Tryz.underlying47⟩
instance : One Tryz.prog 47 := ⟨⟨_, Tryz.underlying47, rfl⟩⟩
theorem inf47 : Inf Tryz.prog 47 1 24 (.slice none 0 0) := inf_of (by kernel_rfl)
instance : Inf Tryz.prog 47 1 24 (.slice none 0 0) := inf47
theorem inf49 : Inf Tryz.prog 49 2 48 (.agg #[(.slice none 0 0), (.slice none 0 0)]) := inf_of (by kernel_rfl)
instance : Inf Tryz.prog 49 2 48 (.agg #[(.slice none 0 0), (.slice none 0 0)]) := inf49
instance : Agg Tryz.prog 49 2 := agg_of rfl Tryz.underlying49 inf49
instance : Und Tryz.prog 54 (.slice 27) := ⟨Tryz.underlying54⟩
instance : One Tryz.prog 54 := ⟨⟨_, Tryz.underlying54, rfl⟩⟩
theorem inf54 : Inf Tryz.prog 54 1 24 (.slice none 0 0) := inf_of (by kernel_rfl)
instance : Inf Tryz.prog 54 1 24 (.slice none 0 0) := inf54
theorem inf59 : Inf Tryz.prog 59 5 32 (.agg #[(.string ByteArray.empty), (.int .i64 0), (.bool false), (.bool false), (.bool false)]) := inf_of (by kernel_rfl)
instance : Inf Tryz.prog 59 5 32 (.agg #[(.string ByteArray.empty), (.int .i64 0), (.bool false), (.bool false), (.bool false)]) := inf59
instance : Agg Tryz.prog 59 5 := agg_of rfl Tryz.underlying59 inf59
instance : Und Tryz.prog 60 (.int .u64) := ⟨Tryz.underlying60⟩
instance : One Tryz.prog 60 := ⟨⟨_, Tryz.underlying60, rfl⟩⟩
theorem inf60 : Inf Tryz.prog 60 1 8 (.int .u64 0) := inf_of (by kernel_rfl)
instance : Inf Tryz.prog 60 1 8 (.int .u64 0) := inf60
instance : Und Tryz.prog 66 (.pointer 121) := ⟨Tryz.underlying66⟩
instance : One Tryz.prog 66 := ⟨⟨_, Tryz.underlying66, rfl⟩⟩
theorem inf66 : Inf Tryz.prog 66 1 8 (.pointer none) := inf_of (by kernel_rfl)
instance : Inf Tryz.prog 66 1 8 (.pointer none) := inf66
instance : Und Tryz.prog 69 (.pointer 134) := ⟨Tryz.underlying69⟩
instance : One Tryz.prog 69 := ⟨⟨_, Tryz.underlying69, rfl⟩⟩
theorem inf69 : Inf Tryz.prog 69 1 8 (.pointer none) := inf_of (by kernel_rfl)
instance : Inf Tryz.prog 69 1 8 (.pointer none) := inf69
theorem inf75 : Inf Tryz.prog 75 2 32 (.agg #[(.int .u8 0), (.slice none 0 0)]) := inf_of (by kernel_rfl)
instance : Inf Tryz.prog 75 2 32 (.agg #[(.int .u8 0), (.slice none 0 0)]) := inf75
instance : Agg Tryz.prog 75 2 := agg_of rfl Tryz.underlying75 inf75
instance : Und Tryz.prog 77 (.slice 75) := ⟨Tryz.underlying77⟩
instance : One Tryz.prog 77 := ⟨⟨_, Tryz.underlying77, rfl⟩⟩
theorem inf77 : Inf Tryz.prog 77 1 24 (.slice none 0 0) := inf_of (by kernel_rfl)
instance : Inf Tryz.prog 77 1 24 (.slice none 0 0) := inf77
instance : Und Tryz.prog 81 (.pointer 152) := ⟨Tryz.underlying81⟩
instance : One Tryz.prog 81 := ⟨⟨_, Tryz.underlying81, rfl⟩⟩
theorem inf81 : Inf Tryz.prog 81 1 8 (.pointer none) := inf_of (by kernel_rfl)
instance : Inf Tryz.prog 81 1 8 (.pointer none) := inf81
instance : Und Tryz.prog 84 (.int .u64) := ⟨Tryz.underlying84⟩
instance : One Tryz.prog 84 := ⟨⟨_, Tryz.underlying84, rfl⟩⟩
theorem inf84 : Inf Tryz.prog 84 1 8 (.int .u64 0) := inf_of (by kernel_rfl)
instance : Inf Tryz.prog 84 1 8 (.int .u64 0) := inf84
instance : Und Tryz.prog 92 (.pointer 100) := ⟨Tryz.underlying92⟩
instance : One Tryz.prog 92 := ⟨⟨_, Tryz.underlying92, rfl⟩⟩
theorem inf92 : Inf Tryz.prog 92 1 8 (.pointer none) := inf_of (by kernel_rfl)
instance : Inf Tryz.prog 92 1 8 (.pointer none) := inf92
theorem inf98 : Inf Tryz.prog 98 2 16 (.agg #[(.int .i64 0), (.int .i64 0)]) := inf_of (by kernel_rfl)
instance : Inf Tryz.prog 98 2 16 (.agg #[(.int .i64 0), (.int .i64 0)]) := inf98
instance : Agg Tryz.prog 98 2 := agg_of rfl Tryz.underlying98 inf98
theorem inf100 : Inf Tryz.prog 100 3 40 (.agg #[(.int .i64 0), (.int .i64 0), (.slice none 0 0)]) := inf_of (by kernel_rfl)
instance : Inf Tryz.prog 100 3 40 (.agg #[(.int .i64 0), (.int .i64 0), (.slice none 0 0)]) := inf100
instance : Agg Tryz.prog 100 3 := agg_of rfl Tryz.underlying100 inf100
instance : Und Tryz.prog 104 (.pointer 107) := ⟨Tryz.underlying104⟩
instance : One Tryz.prog 104 := ⟨⟨_, Tryz.underlying104, rfl⟩⟩
theorem inf104 : Inf Tryz.prog 104 1 8 (.pointer none) := inf_of (by kernel_rfl)
instance : Inf Tryz.prog 104 1 8 (.pointer none) := inf104
theorem inf107 : Inf Tryz.prog 107 2 24 (.agg #[(.int .i64 0), .nilIface]) := inf_of (by kernel_rfl)
instance : Inf Tryz.prog 107 2 24 (.agg #[(.int .i64 0), .nilIface]) := inf107
instance : Agg Tryz.prog 107 2 := agg_of rfl Tryz.underlying107 inf107
instance : Und Tryz.prog 118 (.slice 124) := ⟨Tryz.underlying118⟩
instance : One Tryz.prog 118 := ⟨⟨_, Tryz.underlying118, rfl⟩⟩
theorem inf118 : Inf Tryz.prog 118 1 24 (.slice none 0 0) := inf_of (by kernel_rfl)
instance : Inf Tryz.prog 118 1 24 (.slice none 0 0) := inf118
instance : Und Tryz.prog 119 (.slice 129) := ⟨Tryz.underlying119⟩
instance : One Tryz.prog 119 := ⟨⟨_, Tryz.underlying119, rfl⟩⟩
theorem inf119 : Inf Tryz.prog 119 1 24 (.slice none 0 0) := inf_of (by kernel_rfl)
instance : Inf Tryz.prog 119 1 24 (.slice none 0 0) := inf119
theorem inf121 : Inf Tryz.prog 121 5 88 (.agg #[(.slice none 0 0), (.int .i64 0), (.slice none 0 0), (.slice none 0 0), (.bool false)]) := inf_of (by kernel_rfl)
instance : Inf Tryz.prog 121 5 88 (.agg #[(.slice none 0 0), (.int .i64 0), (.slice none 0 0), (.slice none 0 0), (.bool false)]) := inf121
instance : Agg Tryz.prog 121 5 := agg_of rfl Tryz.underlying121 inf121
instance : Und Tryz.prog 122 (.slice 4) := ⟨Tryz.underlying122⟩
instance : One Tryz.prog 122 := ⟨⟨_, Tryz.underlying122, rfl⟩⟩
theorem inf122 : Inf Tryz.prog 122 1 24 (.slice none 0 0) := inf_of (by kernel_rfl)
instance : Inf Tryz.prog 122 1 24 (.slice none 0 0) := inf122
theorem inf124 : Inf Tryz.prog 124 2 48 (.agg #[(.slice none 0 0), (.slice none 0 0)]) := inf_of (by kernel_rfl)
instance : Inf Tryz.prog 124 2 48 (.agg #[(.slice none 0 0), (.slice none 0 0)]) := inf124
instance : Agg Tryz.prog 124 2 := agg_of rfl Tryz.underlying124 inf124
instance : Und Tryz.prog 127 (.slice 194) := ⟨Tryz.underlying127⟩
instance : One Tryz.prog 127 := ⟨⟨_, Tryz.underlying127, rfl⟩⟩
theorem inf127 : Inf Tryz.prog 127 1 24 (.slice none 0 0) := inf_of (by kernel_rfl)
instance : Inf Tryz.prog 127 1 24 (.slice none 0 0) := inf127
theorem inf129 : Inf Tryz.prog 129 2 32 (.agg #[(.int .i64 0), (.slice none 0 0)]) := inf_of (by kernel_rfl)
instance : Inf Tryz.prog 129 2 32 (.agg #[(.int .i64 0), (.slice none 0 0)]) := inf129
instance : Agg Tryz.prog 129 2 := agg_of rfl Tryz.underlying129 inf129
instance : Und Tryz.prog 132 (.slice 138) := ⟨Tryz.underlying132⟩
instance : One Tryz.prog 132 := ⟨⟨_, Tryz.underlying132, rfl⟩⟩
theorem inf132 : Inf Tryz.prog 132 1 24 (.slice none 0 0) := inf_of (by kernel_rfl)
instance : Inf Tryz.prog 132 1 24 (.slice none 0 0) := inf132
theorem inf134 : Inf Tryz.prog 134 5 88 (.agg #[(.slice none 0 0), (.int .i64 0), (.slice none 0 0), (.slice none 0 0), (.bool false)]) := inf_of (by kernel_rfl)
instance : Inf Tryz.prog 134 5 88 (.agg #[(.slice none 0 0), (.int .i64 0), (.slice none 0 0), (.slice none 0 0), (.bool false)]) := inf134
instance : Agg Tryz.prog 134 5 := agg_of rfl Tryz.underlying134 inf134
instance : Und Tryz.prog 135 (.pointer 188) := ⟨Tryz.underlying135⟩
instance : One Tryz.prog 135 := ⟨⟨_, Tryz.underlying135, rfl⟩⟩
theorem inf135 : Inf Tryz.prog 135 1 8 (.pointer none) := inf_of (by kernel_rfl)
instance : Inf Tryz.prog 135 1 8 (.pointer none) := inf135
instance : Und Tryz.prog 136 (.pointer 191) := ⟨Tryz.underlying136⟩
instance : One Tryz.prog 136 := ⟨⟨_, Tryz.underlying136, rfl⟩⟩
theorem inf136 : Inf Tryz.prog 136 1 8 (.pointer none) := inf_of (by kernel_rfl)
instance : Inf Tryz.prog 136 1 8 (.pointer none) := inf136
theorem inf138 : Inf Tryz.prog 138 2 16 (.agg #[(.pointer none), (.pointer none)]) := inf_of (by kernel_rfl)
instance : Inf Tryz.prog 138 2 16 (.agg #[(.pointer none), (.pointer none)]) := inf138
instance : Agg Tryz.prog 138 2 := agg_of rfl Tryz.underlying138 inf138
instance : Und Tryz.prog 146 (.int .u32) := ⟨Tryz.underlying146⟩
instance : One Tryz.prog 146 := ⟨⟨_, Tryz.underlying146, rfl⟩⟩
theorem inf146 : Inf Tryz.prog 146 1 4 (.int .u32 0) := inf_of (by kernel_rfl)
instance : Inf Tryz.prog 146 1 4 (.int .u32 0) := inf146
theorem inf152 : Inf Tryz.prog 152 1 24 (.agg #[(.slice none 0 0)]) := inf_of (by kernel_rfl)
instance : Inf Tryz.prog 152 1 24 (.agg #[(.slice none 0 0)]) := inf152
instance : Agg Tryz.prog 152 1 := agg_of rfl Tryz.underlying152 inf152
instance : Und Tryz.prog 164 (.pointer 98) := ⟨Tryz.underlying164⟩
instance : One Tryz.prog 164 := ⟨⟨_, Tryz.underlying164, rfl⟩⟩
theorem inf164 : Inf Tryz.prog 164 1 8 (.pointer none) := inf_of (by kernel_rfl)
instance : Inf Tryz.prog 164 1 8 (.pointer none) := inf164
instance : Und Tryz.prog 186 (.pointer 285) := ⟨Tryz.underlying186⟩
instance : One Tryz.prog 186 := ⟨⟨_, Tryz.underlying186, rfl⟩⟩
theorem inf186 : Inf Tryz.prog 186 1 8 (.pointer none) := inf_of (by kernel_rfl)
instance : Inf Tryz.prog 186 1 8 (.pointer none) := inf186
theorem inf188 : Inf Tryz.prog 188 6 128 (.agg #[(.slice none 0 0), (.slice none 0 0), (.slice none 0 0), (.pointer none), (.slice none 0 0), (.slice none 0 0)]) := inf_of (by kernel_rfl)
instance : Inf Tryz.prog 188 6 128 (.agg #[(.slice none 0 0), (.slice none 0 0), (.slice none 0 0), (.pointer none), (.slice none 0 0), (.slice none 0 0)]) := inf188
instance : Agg Tryz.prog 188 6 := agg_of rfl Tryz.underlying188 inf188
instance : Und Tryz.prog 189 (.slice 84) := ⟨Tryz.underlying189⟩
instance : One Tryz.prog 189 := ⟨⟨_, Tryz.underlying189, rfl⟩⟩
theorem inf189 : Inf Tryz.prog 189 1 24 (.slice none 0 0) := inf_of (by kernel_rfl)
instance : Inf Tryz.prog 189 1 24 (.slice none 0 0) := inf189
theorem inf191 : Inf Tryz.prog 191 3 40 (.agg #[(.int .i64 0), (.int .i64 0), (.slice none 0 0)]) := inf_of (by kernel_rfl)
instance : Inf Tryz.prog 191 3 40 (.agg #[(.int .i64 0), (.int .i64 0), (.slice none 0 0)]) := inf191
instance : Agg Tryz.prog 191 3 := agg_of rfl Tryz.underlying191 inf191
theorem inf194 : Inf Tryz.prog 194 2 32 (.agg #[(.string ByteArray.empty), (.string ByteArray.empty)]) := inf_of (by kernel_rfl)
instance : Inf Tryz.prog 194 2 32 (.agg #[(.string ByteArray.empty), (.string ByteArray.empty)]) := inf194
instance : Agg Tryz.prog 194 2 := agg_of rfl Tryz.underlying194 inf194
instance : Und Tryz.prog 198 (.slice 208) := ⟨Tryz.underlying198⟩
instance : One Tryz.prog 198 := ⟨⟨_, Tryz.underlying198, rfl⟩⟩
theorem inf198 : Inf Tryz.prog 198 1 24 (.slice none 0 0) := inf_of (by kernel_rfl)
instance : Inf Tryz.prog 198 1 24 (.slice none 0 0) := inf198
instance : Und Tryz.prog 199 (.slice 203) := ⟨Tryz.underlying199⟩
instance : One Tryz.prog 199 := ⟨⟨_, Tryz.underlying199, rfl⟩⟩
theorem inf199 : Inf Tryz.prog 199 1 24 (.slice none 0 0) := inf_of (by kernel_rfl)
instance : Inf Tryz.prog 199 1 24 (.slice none 0 0) := inf199
instance : Und Tryz.prog 201 (.slice 246) := ⟨Tryz.underlying201⟩
instance : One Tryz.prog 201 := ⟨⟨_, Tryz.underlying201, rfl⟩⟩
theorem inf201 : Inf Tryz.prog 201 1 24 (.slice none 0 0) := inf_of (by kernel_rfl)
instance : Inf Tryz.prog 201 1 24 (.slice none 0 0) := inf201
theorem inf203 : Inf Tryz.prog 203 3 48 (.agg #[(.int .i64 0), (.string ByteArray.empty), (.slice none 0 0)]) := inf_of (by kernel_rfl)
instance : Inf Tryz.prog 203 3 48 (.agg #[(.int .i64 0), (.string ByteArray.empty), (.slice none 0 0)]) := inf203
instance : Agg Tryz.prog 203 3 := agg_of rfl Tryz.underlying203 inf203
theorem inf208 : Inf Tryz.prog 208 5 48 (.agg #[(.string ByteArray.empty), (.int .i64 0), (.int .i64 0), (.int .i64 0), (.int .i64 0)]) := inf_of (by kernel_rfl)
instance : Inf Tryz.prog 208 5 48 (.agg #[(.string ByteArray.empty), (.int .i64 0), (.int .i64 0), (.int .i64 0), (.int .i64 0)]) := inf208
instance : Agg Tryz.prog 208 5 := agg_of rfl Tryz.underlying208 inf208
instance : Und Tryz.prog 212 (.map 9 3) := ⟨Tryz.underlying212⟩
instance : One Tryz.prog 212 := ⟨⟨_, Tryz.underlying212, rfl⟩⟩
theorem inf212 : Inf Tryz.prog 212 1 8 (.map none) := inf_of (by kernel_rfl)
instance : Inf Tryz.prog 212 1 8 (.map none) := inf212
instance : Und Tryz.prog 215 (.array 16 146) := ⟨Tryz.underlying215⟩
theorem inf215 : Inf Tryz.prog 215 16 64 (.agg #[(.int .u32 0), (.int .u32 0), (.int .u32 0), (.int .u32 0), (.int .u32 0), (.int .u32 0), (.int .u32 0), (.int .u32 0), (.int .u32 0), (.int .u32 0), (.int .u32 0), (.int .u32 0), (.int .u32 0), (.int .u32 0), (.int .u32 0), (.int .u32 0)]) := inf_of (by kernel_rfl)
instance : Inf Tryz.prog 215 16 64 (.agg #[(.int .u32 0), (.int .u32 0), (.int .u32 0), (.int .u32 0), (.int .u32 0), (.int .u32 0), (.int .u32 0), (.int .u32 0), (.int .u32 0), (.int .u32 0), (.int .u32 0), (.int .u32 0), (.int .u32 0), (.int .u32 0), (.int .u32 0), (.int .u32 0)]) := inf215
instance : Agg Tryz.prog 215 16 := agg_of rfl Tryz.underlying215 inf215
instance : Und Tryz.prog 231 (.pointer 261) := ⟨Tryz.underlying231⟩
instance : One Tryz.prog 231 := ⟨⟨_, Tryz.underlying231, rfl⟩⟩
theorem inf231 : Inf Tryz.prog 231 1 8 (.pointer none) := inf_of (by kernel_rfl)
instance : Inf Tryz.prog 231 1 8 (.pointer none) := inf231
instance : Und Tryz.prog 238 (.slice 266) := ⟨Tryz.underlying238⟩
instance : One Tryz.prog 238 := ⟨⟨_, Tryz.underlying238, rfl⟩⟩
theorem inf238 : Inf Tryz.prog 238 1 24 (.slice none 0 0) := inf_of (by kernel_rfl)
instance : Inf Tryz.prog 238 1 24 (.slice none 0 0) := inf238
instance : Und Tryz.prog 240 (.slice 244) := ⟨Tryz.underlying240⟩
instance : One Tryz.prog 240 := ⟨⟨_, Tryz.underlying240, rfl⟩⟩
theorem inf240 : Inf Tryz.prog 240 1 24 (.slice none 0 0) := inf_of (by kernel_rfl)
instance : Inf Tryz.prog 240 1 24 (.slice none 0 0) := inf240
theorem inf244 : Inf Tryz.prog 244 3 32 (.agg #[(.string ByteArray.empty), (.int .i64 0), (.int .i64 0)]) := inf_of (by kernel_rfl)
instance : Inf Tryz.prog 244 3 32 (.agg #[(.string ByteArray.empty), (.int .i64 0), (.int .i64 0)]) := inf244
instance : Agg Tryz.prog 244 3 := agg_of rfl Tryz.underlying244 inf244
theorem inf246 : Inf Tryz.prog 246 2 32 (.agg #[(.int .i64 0), (.slice none 0 0)]) := inf_of (by kernel_rfl)
instance : Inf Tryz.prog 246 2 32 (.agg #[(.int .i64 0), (.slice none 0 0)]) := inf246
instance : Agg Tryz.prog 246 2 := agg_of rfl Tryz.underlying246 inf246
instance : Und Tryz.prog 247 (.slice 280) := ⟨Tryz.underlying247⟩
instance : One Tryz.prog 247 := ⟨⟨_, Tryz.underlying247, rfl⟩⟩
theorem inf247 : Inf Tryz.prog 247 1 24 (.slice none 0 0) := inf_of (by kernel_rfl)
instance : Inf Tryz.prog 247 1 24 (.slice none 0 0) := inf247
instance : Und Tryz.prog 259 (.map 9 201) := ⟨Tryz.underlying259⟩
instance : One Tryz.prog 259 := ⟨⟨_, Tryz.underlying259, rfl⟩⟩
theorem inf259 : Inf Tryz.prog 259 1 8 (.map none) := inf_of (by kernel_rfl)
instance : Inf Tryz.prog 259 1 8 (.map none) := inf259
theorem inf261 : Inf Tryz.prog 261 4 80 (.agg #[(.slice none 0 0), (.slice none 0 0), (.slice none 0 0), (.map none)]) := inf_of (by kernel_rfl)
instance : Inf Tryz.prog 261 4 80 (.agg #[(.slice none 0 0), (.slice none 0 0), (.slice none 0 0), (.map none)]) := inf261
instance : Agg Tryz.prog 261 4 := agg_of rfl Tryz.underlying261 inf261
theorem inf266 : Inf Tryz.prog 266 5 48 (.agg #[(.string ByteArray.empty), (.int .i64 0), (.int .i64 0), (.int .i64 0), (.int .i64 0)]) := inf_of (by kernel_rfl)
instance : Inf Tryz.prog 266 5 48 (.agg #[(.string ByteArray.empty), (.int .i64 0), (.int .i64 0), (.int .i64 0), (.int .i64 0)]) := inf266
instance : Agg Tryz.prog 266 5 := agg_of rfl Tryz.underlying266 inf266
instance : Und Tryz.prog 271 (.array 64 5) := ⟨Tryz.underlying271⟩
theorem inf271 : Inf Tryz.prog 271 64 64 (.agg #[(.int .u8 0), (.int .u8 0), (.int .u8 0), (.int .u8 0), (.int .u8 0), (.int .u8 0), (.int .u8 0), (.int .u8 0), (.int .u8 0), (.int .u8 0), (.int .u8 0), (.int .u8 0), (.int .u8 0), (.int .u8 0), (.int .u8 0), (.int .u8 0), (.int .u8 0), (.int .u8 0), (.int .u8 0), (.int .u8 0), (.int .u8 0), (.int .u8 0), (.int .u8 0), (.int .u8 0), (.int .u8 0), (.int .u8 0), (.int .u8 0), (.int .u8 0), (.int .u8 0), (.int .u8 0), (.int .u8 0), (.int .u8 0), (.int .u8 0), (.int .u8 0), (.int .u8 0), (.int .u8 0), (.int .u8 0), (.int .u8 0), (.int .u8 0), (.int .u8 0), (.int .u8 0), (.int .u8 0), (.int .u8 0), (.int .u8 0), (.int .u8 0), (.int .u8 0), (.int .u8 0), (.int .u8 0), (.int .u8 0), (.int .u8 0), (.int .u8 0), (.int .u8 0), (.int .u8 0), (.int .u8 0), (.int .u8 0), (.int .u8 0), (.int .u8 0), (.int .u8 0), (.int .u8 0), (.int .u8 0), (.int .u8 0), (.int .u8 0), (.int .u8 0), (.int .u8 0)]) := inf_of (by kernel_rfl)
instance : Inf Tryz.prog 271 64 64 (.agg #[(.int .u8 0), (.int .u8 0), (.int .u8 0), (.int .u8 0), (.int .u8 0), (.int .u8 0), (.int .u8 0), (.int .u8 0), (.int .u8 0), (.int .u8 0), (.int .u8 0), (.int .u8 0), (.int .u8 0), (.int .u8 0), (.int .u8 0), (.int .u8 0), (.int .u8 0), (.int .u8 0), (.int .u8 0), (.int .u8 0), (.int .u8 0), (.int .u8 0), (.int .u8 0), (.int .u8 0), (.int .u8 0), (.int .u8 0), (.int .u8 0), (.int .u8 0), (.int .u8 0), (.int .u8 0), (.int .u8 0), (.int .u8 0), (.int .u8 0), (.int .u8 0), (.int .u8 0), (.int .u8 0), (.int .u8 0), (.int .u8 0), (.int .u8 0), (.int .u8 0), (.int .u8 0), (.int .u8 0), (.int .u8 0), (.int .u8 0), (.int .u8 0), (.int .u8 0), (.int .u8 0), (.int .u8 0), (.int .u8 0), (.int .u8 0), (.int .u8 0), (.int .u8 0), (.int .u8 0), (.int .u8 0), (.int .u8 0), (.int .u8 0), (.int .u8 0), (.int .u8 0), (.int .u8 0), (.int .u8 0), (.int .u8 0), (.int .u8 0), (.int .u8 0), (.int .u8 0)]) := inf271
instance : Agg Tryz.prog 271 64 := agg_of rfl Tryz.underlying271 inf271
theorem inf280 : Inf Tryz.prog 280 4 32 (.agg #[(.int .i64 0), (.int .i64 0), (.int .i64 0), (.int .i64 0)]) := inf_of (by kernel_rfl)
instance : Inf Tryz.prog 280 4 32 (.agg #[(.int .i64 0), (.int .i64 0), (.int .i64 0), (.int .i64 0)]) := inf280
instance : Agg Tryz.prog 280 4 := agg_of rfl Tryz.underlying280 inf280
theorem inf285 : Inf Tryz.prog 285 1 24 (.agg #[(.slice none 0 0)]) := inf_of (by kernel_rfl)
instance : Inf Tryz.prog 285 1 24 (.agg #[(.slice none 0 0)]) := inf285
instance : Agg Tryz.prog 285 1 := agg_of rfl Tryz.underlying285 inf285
instance : Und Tryz.prog 286 (.slice 9) := ⟨Tryz.underlying286⟩
instance : One Tryz.prog 286 := ⟨⟨_, Tryz.underlying286, rfl⟩⟩
theorem inf286 : Inf Tryz.prog 286 1 24 (.slice none 0 0) := inf_of (by kernel_rfl)
instance : Inf Tryz.prog 286 1 24 (.slice none 0 0) := inf286
instance : Und Tryz.prog 301 (.slice 321) := ⟨Tryz.underlying301⟩
instance : One Tryz.prog 301 := ⟨⟨_, Tryz.underlying301, rfl⟩⟩
theorem inf301 : Inf Tryz.prog 301 1 24 (.slice none 0 0) := inf_of (by kernel_rfl)
instance : Inf Tryz.prog 301 1 24 (.slice none 0 0) := inf301
instance : Und Tryz.prog 307 (.array 4 3) := ⟨Tryz.underlying307⟩
theorem inf307 : Inf Tryz.prog 307 4 32 (.agg #[(.int .i64 0), (.int .i64 0), (.int .i64 0), (.int .i64 0)]) := inf_of (by kernel_rfl)
instance : Inf Tryz.prog 307 4 32 (.agg #[(.int .i64 0), (.int .i64 0), (.int .i64 0), (.int .i64 0)]) := inf307
instance : Agg Tryz.prog 307 4 := agg_of rfl Tryz.underlying307 inf307
instance : Und Tryz.prog 312 (.pointer 3) := ⟨Tryz.underlying312⟩
instance : One Tryz.prog 312 := ⟨⟨_, Tryz.underlying312, rfl⟩⟩
theorem inf312 : Inf Tryz.prog 312 1 8 (.pointer none) := inf_of (by kernel_rfl)
instance : Inf Tryz.prog 312 1 8 (.pointer none) := inf312
instance : Und Tryz.prog 313 (.slice 312) := ⟨Tryz.underlying313⟩
instance : One Tryz.prog 313 := ⟨⟨_, Tryz.underlying313, rfl⟩⟩
theorem inf313 : Inf Tryz.prog 313 1 24 (.slice none 0 0) := inf_of (by kernel_rfl)
instance : Inf Tryz.prog 313 1 24 (.slice none 0 0) := inf313
theorem inf315 : Inf Tryz.prog 315 0 0 (.agg #[]) := inf_of (by kernel_rfl)
instance : Inf Tryz.prog 315 0 0 (.agg #[]) := inf315
instance : Agg Tryz.prog 315 0 := agg_of rfl Tryz.underlying315 inf315
theorem inf318 : Inf Tryz.prog 318 1 24 (.agg #[(.slice none 0 0)]) := inf_of (by kernel_rfl)
instance : Inf Tryz.prog 318 1 24 (.agg #[(.slice none 0 0)]) := inf318
instance : Agg Tryz.prog 318 1 := agg_of rfl Tryz.underlying318 inf318
theorem inf319 : Inf Tryz.prog 319 0 0 (.agg #[]) := inf_of (by kernel_rfl)
instance : Inf Tryz.prog 319 0 0 (.agg #[]) := inf319
instance : Agg Tryz.prog 319 0 := agg_of rfl Tryz.underlying319 inf319
instance : Und Tryz.prog 321 (.interface #[("concord/tokens.do", 322)]) := ⟨Tryz.underlying321⟩
instance : One Tryz.prog 321 := ⟨⟨_, Tryz.underlying321, rfl⟩⟩
theorem inf321 : Inf Tryz.prog 321 1 16 .nilIface := inf_of (by kernel_rfl)
instance : Inf Tryz.prog 321 1 16 .nilIface := inf321
instance : Und Tryz.prog 323 (.array 8 5) := ⟨Tryz.underlying323⟩
theorem inf323 : Inf Tryz.prog 323 8 8 (.agg #[(.int .u8 0), (.int .u8 0), (.int .u8 0), (.int .u8 0), (.int .u8 0), (.int .u8 0), (.int .u8 0), (.int .u8 0)]) := inf_of (by kernel_rfl)
instance : Inf Tryz.prog 323 8 8 (.agg #[(.int .u8 0), (.int .u8 0), (.int .u8 0), (.int .u8 0), (.int .u8 0), (.int .u8 0), (.int .u8 0), (.int .u8 0)]) := inf323
instance : Agg Tryz.prog 323 8 := agg_of rfl Tryz.underlying323 inf323
instance : Und Tryz.prog 325 (.int .i64) := ⟨Tryz.underlying325⟩
instance : One Tryz.prog 325 := ⟨⟨_, Tryz.underlying325, rfl⟩⟩
theorem inf325 : Inf Tryz.prog 325 1 8 (.int .i64 0) := inf_of (by kernel_rfl)
instance : Inf Tryz.prog 325 1 8 (.int .i64 0) := inf325
instance : Und Tryz.prog 333 (.int .u64) := ⟨Tryz.underlying333⟩
instance : One Tryz.prog 333 := ⟨⟨_, Tryz.underlying333, rfl⟩⟩
theorem inf333 : Inf Tryz.prog 333 1 8 (.int .u64 0) := inf_of (by kernel_rfl)
instance : Inf Tryz.prog 333 1 8 (.int .u64 0) := inf333
theorem inf339 : Inf Tryz.prog 339 2 32 (.agg #[(.string ByteArray.empty), (.string ByteArray.empty)]) := inf_of (by kernel_rfl)
instance : Inf Tryz.prog 339 2 32 (.agg #[(.string ByteArray.empty), (.string ByteArray.empty)]) := inf339
instance : Agg Tryz.prog 339 2 := agg_of rfl Tryz.underlying339 inf339
instance : Und Tryz.prog 342 (.slice 339) := ⟨Tryz.underlying342⟩
instance : One Tryz.prog 342 := ⟨⟨_, Tryz.underlying342, rfl⟩⟩
theorem inf342 : Inf Tryz.prog 342 1 24 (.slice none 0 0) := inf_of (by kernel_rfl)
instance : Inf Tryz.prog 342 1 24 (.slice none 0 0) := inf342
instance : Und Tryz.prog 345 (.array 256 5) := ⟨Tryz.underlying345⟩
theorem inf345 : Inf Tryz.prog 345 256 256 (.agg #[(.int .u8 0), (.int .u8 0), (.int .u8 0), (.int .u8 0), (.int .u8 0), (.int .u8 0), (.int .u8 0), (.int .u8 0), (.int .u8 0), (.int .u8 0), (.int .u8 0), (.int .u8 0), (.int .u8 0), (.int .u8 0), (.int .u8 0), (.int .u8 0), (.int .u8 0), (.int .u8 0), (.int .u8 0), (.int .u8 0), (.int .u8 0), (.int .u8 0), (.int .u8 0), (.int .u8 0), (.int .u8 0), (.int .u8 0), (.int .u8 0), (.int .u8 0), (.int .u8 0), (.int .u8 0), (.int .u8 0), (.int .u8 0), (.int .u8 0), (.int .u8 0), (.int .u8 0), (.int .u8 0), (.int .u8 0), (.int .u8 0), (.int .u8 0), (.int .u8 0), (.int .u8 0), (.int .u8 0), (.int .u8 0), (.int .u8 0), (.int .u8 0), (.int .u8 0), (.int .u8 0), (.int .u8 0), (.int .u8 0), (.int .u8 0), (.int .u8 0), (.int .u8 0), (.int .u8 0), (.int .u8 0), (.int .u8 0), (.int .u8 0), (.int .u8 0), (.int .u8 0), (.int .u8 0), (.int .u8 0), (.int .u8 0), (.int .u8 0), (.int .u8 0), (.int .u8 0), (.int .u8 0), (.int .u8 0), (.int .u8 0), (.int .u8 0), (.int .u8 0), (.int .u8 0), (.int .u8 0), (.int .u8 0), (.int .u8 0), (.int .u8 0), (.int .u8 0), (.int .u8 0), (.int .u8 0), (.int .u8 0), (.int .u8 0), (.int .u8 0), (.int .u8 0), (.int .u8 0), (.int .u8 0), (.int .u8 0), (.int .u8 0), (.int .u8 0), (.int .u8 0), (.int .u8 0), (.int .u8 0), (.int .u8 0), (.int .u8 0), (.int .u8 0), (.int .u8 0), (.int .u8 0), (.int .u8 0), (.int .u8 0), (.int .u8 0), (.int .u8 0), (.int .u8 0), (.int .u8 0), (.int .u8 0), (.int .u8 0), (.int .u8 0), (.int .u8 0), (.int .u8 0), (.int .u8 0), (.int .u8 0), (.int .u8 0), (.int .u8 0), (.int .u8 0), (.int .u8 0), (.int .u8 0), (.int .u8 0), (.int .u8 0), (.int .u8 0), (.int .u8 0), (.int .u8 0), (.int .u8 0), (.int .u8 0), (.int .u8 0), (.int .u8 0), (.int .u8 0), (.int .u8 0), (.int .u8 0), (.int .u8 0), (.int .u8 0), (.int .u8 0), (.int .u8 0), (.int .u8 0), (.int .u8 0), (.int .u8 0), (.int .u8 0), (.int .u8 0), (.int .u8 0), (.int .u8 0), (.int .u8 0), (.int .u8 0), (.int .u8 0), (.int .u8 0), (.int .u8 0), (.int .u8 0), (.int .u8 0), (.int .u8 0), (.int .u8 0), (.int .u8 0), (.int .u8 0), (.int .u8 0), (.int .u8 0), (.int .u8 0), (.int .u8 0), (.int .u8 0), (.int .u8 0), (.int .u8 0), (.int .u8 0), (.int .u8 0), (.int .u8 0), (.int .u8 0), (.int .u8 0), (.int .u8 0), (.int .u8 0), (.int .u8 0), (.int .u8 0), (.int .u8 0), (.int .u8 0), (.int .u8 0), (.int .u8 0), (.int .u8 0), (.int .u8 0), (.int .u8 0), (.int .u8 0), (.int .u8 0), (.int .u8 0), (.int .u8 0), (.int .u8 0), (.int .u8 0), (.int .u8 0), (.int .u8 0), (.int .u8 0), (.int .u8 0), (.int .u8 0), (.int .u8 0), (.int .u8 0), (.int .u8 0), (.int .u8 0), (.int .u8 0), (.int .u8 0), (.int .u8 0), (.int .u8 0), (.int .u8 0), (.int .u8 0), (.int .u8 0), (.int .u8 0), (.int .u8 0), (.int .u8 0), (.int .u8 0), (.int .u8 0), (.int .u8 0), (.int .u8 0), (.int .u8 0), (.int .u8 0), (.int .u8 0), (.int .u8 0), (.int .u8 0), (.int .u8 0), (.int .u8 0), (.int .u8 0), (.int .u8 0), (.int .u8 0), (.int .u8 0), (.int .u8 0), (.int .u8 0), (.int .u8 0), (.int .u8 0), (.int .u8 0), (.int .u8 0), (.int .u8 0), (.int .u8 0), (.int .u8 0), (.int .u8 0), (.int .u8 0), (.int .u8 0), (.int .u8 0), (.int .u8 0), (.int .u8 0), (.int .u8 0), (.int .u8 0), (.int .u8 0), (.int .u8 0), (.int .u8 0), (.int .u8 0), (.int .u8 0), (.int .u8 0), (.int .u8 0), (.int .u8 0), (.int .u8 0), (.int .u8 0), (.int .u8 0), (.int .u8 0), (.int .u8 0), (.int .u8 0), (.int .u8 0), (.int .u8 0), (.int .u8 0), (.int .u8 0), (.int .u8 0), (.int .u8 0), (.int .u8 0), (.int .u8 0), (.int .u8 0), (.int .u8 0), (.int .u8 0), (.int .u8 0), (.int .u8 0), (.int .u8 0), (.int .u8 0), (.int .u8 0)]) := inf_of (by kernel_rfl)
instance : Inf Tryz.prog 345 256 256 (.agg #[(.int .u8 0), (.int .u8 0), (.int .u8 0), (.int .u8 0), (.int .u8 0), (.int .u8 0), (.int .u8 0), (.int .u8 0), (.int .u8 0), (.int .u8 0), (.int .u8 0), (.int .u8 0), (.int .u8 0), (.int .u8 0), (.int .u8 0), (.int .u8 0), (.int .u8 0), (.int .u8 0), (.int .u8 0), (.int .u8 0), (.int .u8 0), (.int .u8 0), (.int .u8 0), (.int .u8 0), (.int .u8 0), (.int .u8 0), (.int .u8 0), (.int .u8 0), (.int .u8 0), (.int .u8 0), (.int .u8 0), (.int .u8 0), (.int .u8 0), (.int .u8 0), (.int .u8 0), (.int .u8 0), (.int .u8 0), (.int .u8 0), (.int .u8 0), (.int .u8 0), (.int .u8 0), (.int .u8 0), (.int .u8 0), (.int .u8 0), (.int .u8 0), (.int .u8 0), (.int .u8 0), (.int .u8 0), (.int .u8 0), (.int .u8 0), (.int .u8 0), (.int .u8 0), (.int .u8 0), (.int .u8 0), (.int .u8 0), (.int .u8 0), (.int .u8 0), (.int .u8 0), (.int .u8 0), (.int .u8 0), (.int .u8 0), (.int .u8 0), (.int .u8 0), (.int .u8 0), (.int .u8 0), (.int .u8 0), (.int .u8 0), (.int .u8 0), (.int .u8 0), (.int .u8 0), (.int .u8 0), (.int .u8 0), (.int .u8 0), (.int .u8 0), (.int .u8 0), (.int .u8 0), (.int .u8 0), (.int .u8 0), (.int .u8 0), (.int .u8 0), (.int .u8 0), (.int .u8 0), (.int .u8 0), (.int .u8 0), (.int .u8 0), (.int .u8 0), (.int .u8 0), (.int .u8 0), (.int .u8 0), (.int .u8 0), (.int .u8 0), (.int .u8 0), (.int .u8 0), (.int .u8 0), (.int .u8 0), (.int .u8 0), (.int .u8 0), (.int .u8 0), (.int .u8 0), (.int .u8 0), (.int .u8 0), (.int .u8 0), (.int .u8 0), (.int .u8 0), (.int .u8 0), (.int .u8 0), (.int .u8 0), (.int .u8 0), (.int .u8 0), (.int .u8 0), (.int .u8 0), (.int .u8 0), (.int .u8 0), (.int .u8 0), (.int .u8 0), (.int .u8 0), (.int .u8 0), (.int .u8 0), (.int .u8 0), (.int .u8 0), (.int .u8 0), (.int .u8 0), (.int .u8 0), (.int .u8 0), (.int .u8 0), (.int .u8 0), (.int .u8 0), (.int .u8 0), (.int .u8 0), (.int .u8 0), (.int .u8 0), (.int .u8 0), (.int .u8 0), (.int .u8 0), (.int .u8 0), (.int .u8 0), (.int .u8 0), (.int .u8 0), (.int .u8 0), (.int .u8 0), (.int .u8 0), (.int .u8 0), (.int .u8 0), (.int .u8 0), (.int .u8 0), (.int .u8 0), (.int .u8 0), (.int .u8 0), (.int .u8 0), (.int .u8 0), (.int .u8 0), (.int .u8 0), (.int .u8 0), (.int .u8 0), (.int .u8 0), (.int .u8 0), (.int .u8 0), (.int .u8 0), (.int .u8 0), (.int .u8 0), (.int .u8 0), (.int .u8 0), (.int .u8 0), (.int .u8 0), (.int .u8 0), (.int .u8 0), (.int .u8 0), (.int .u8 0), (.int .u8 0), (.int .u8 0), (.int .u8 0), (.int .u8 0), (.int .u8 0), (.int .u8 0), (.int .u8 0), (.int .u8 0), (.int .u8 0), (.int .u8 0), (.int .u8 0), (.int .u8 0), (.int .u8 0), (.int .u8 0), (.int .u8 0), (.int .u8 0), (.int .u8 0), (.int .u8 0), (.int .u8 0), (.int .u8 0), (.int .u8 0), (.int .u8 0), (.int .u8 0), (.int .u8 0), (.int .u8 0), (.int .u8 0), (.int .u8 0), (.int .u8 0), (.int .u8 0), (.int .u8 0), (.int .u8 0), (.int .u8 0), (.int .u8 0), (.int .u8 0), (.int .u8 0), (.int .u8 0), (.int .u8 0), (.int .u8 0), (.int .u8 0), (.int .u8 0), (.int .u8 0), (.int .u8 0), (.int .u8 0), (.int .u8 0), (.int .u8 0), (.int .u8 0), (.int .u8 0), (.int .u8 0), (.int .u8 0), (.int .u8 0), (.int .u8 0), (.int .u8 0), (.int .u8 0), (.int .u8 0), (.int .u8 0), (.int .u8 0), (.int .u8 0), (.int .u8 0), (.int .u8 0), (.int .u8 0), (.int .u8 0), (.int .u8 0), (.int .u8 0), (.int .u8 0), (.int .u8 0), (.int .u8 0), (.int .u8 0), (.int .u8 0), (.int .u8 0), (.int .u8 0), (.int .u8 0), (.int .u8 0), (.int .u8 0), (.int .u8 0), (.int .u8 0), (.int .u8 0), (.int .u8 0), (.int .u8 0), (.int .u8 0), (.int .u8 0), (.int .u8 0), (.int .u8 0), (.int .u8 0), (.int .u8 0), (.int .u8 0), (.int .u8 0), (.int .u8 0), (.int .u8 0)]) := inf345
instance : Agg Tryz.prog 345 256 := agg_of rfl Tryz.underlying345 inf345
instance : Und Tryz.prog 348 (.pointer 333) := ⟨Tryz.underlying348⟩
instance : One Tryz.prog 348 := ⟨⟨_, Tryz.underlying348, rfl⟩⟩
theorem inf348 : Inf Tryz.prog 348 1 8 (.pointer none) := inf_of (by kernel_rfl)
instance : Inf Tryz.prog 348 1 8 (.pointer none) := inf348
instance : Und Tryz.prog 350 (.slice 352) := ⟨Tryz.underlying350⟩
instance : One Tryz.prog 350 := ⟨⟨_, Tryz.underlying350, rfl⟩⟩
theorem inf350 : Inf Tryz.prog 350 1 24 (.slice none 0 0) := inf_of (by kernel_rfl)
instance : Inf Tryz.prog 350 1 24 (.slice none 0 0) := inf350
theorem inf352 : Inf Tryz.prog 352 2 16 (.agg #[(.int .i64 0), (.int .i64 0)]) := inf_of (by kernel_rfl)
instance : Inf Tryz.prog 352 2 16 (.agg #[(.int .i64 0), (.int .i64 0)]) := inf352
instance : Agg Tryz.prog 352 2 := agg_of rfl Tryz.underlying352 inf352
instance : Und Tryz.prog 354 (.pointer 358) := ⟨Tryz.underlying354⟩
instance : One Tryz.prog 354 := ⟨⟨_, Tryz.underlying354, rfl⟩⟩
theorem inf354 : Inf Tryz.prog 354 1 8 (.pointer none) := inf_of (by kernel_rfl)
instance : Inf Tryz.prog 354 1 8 (.pointer none) := inf354
instance : Und Tryz.prog 355 (.slice 361) := ⟨Tryz.underlying355⟩
instance : One Tryz.prog 355 := ⟨⟨_, Tryz.underlying355, rfl⟩⟩
theorem inf355 : Inf Tryz.prog 355 1 24 (.slice none 0 0) := inf_of (by kernel_rfl)
instance : Inf Tryz.prog 355 1 24 (.slice none 0 0) := inf355
instance : Und Tryz.prog 356 (.slice 364) := ⟨Tryz.underlying356⟩
instance : One Tryz.prog 356 := ⟨⟨_, Tryz.underlying356, rfl⟩⟩
theorem inf356 : Inf Tryz.prog 356 1 24 (.slice none 0 0) := inf_of (by kernel_rfl)
instance : Inf Tryz.prog 356 1 24 (.slice none 0 0) := inf356
theorem inf358 : Inf Tryz.prog 358 3 56 (.agg #[(.slice none 0 0), (.slice none 0 0), (.int .i64 0)]) := inf_of (by kernel_rfl)
instance : Inf Tryz.prog 358 3 56 (.agg #[(.slice none 0 0), (.slice none 0 0), (.int .i64 0)]) := inf358
instance : Agg Tryz.prog 358 3 := agg_of rfl Tryz.underlying358 inf358
instance : Und Tryz.prog 359 (.int .u16) := ⟨Tryz.underlying359⟩
instance : One Tryz.prog 359 := ⟨⟨_, Tryz.underlying359, rfl⟩⟩
theorem inf359 : Inf Tryz.prog 359 1 2 (.int .u16 0) := inf_of (by kernel_rfl)
instance : Inf Tryz.prog 359 1 2 (.int .u16 0) := inf359
theorem inf361 : Inf Tryz.prog 361 3 6 (.agg #[(.int .u16 0), (.int .u16 0), (.int .u16 0)]) := inf_of (by kernel_rfl)
instance : Inf Tryz.prog 361 3 6 (.agg #[(.int .u16 0), (.int .u16 0), (.int .u16 0)]) := inf361
instance : Agg Tryz.prog 361 3 := agg_of rfl Tryz.underlying361 inf361
theorem inf364 : Inf Tryz.prog 364 3 12 (.agg #[(.int .u32 0), (.int .u32 0), (.int .u32 0)]) := inf_of (by kernel_rfl)
instance : Inf Tryz.prog 364 3 12 (.agg #[(.int .u32 0), (.int .u32 0), (.int .u32 0)]) := inf364
instance : Agg Tryz.prog 364 3 := agg_of rfl Tryz.underlying364 inf364
instance : Und Tryz.prog 366 (.pointer 361) := ⟨Tryz.underlying366⟩
instance : One Tryz.prog 366 := ⟨⟨_, Tryz.underlying366, rfl⟩⟩
theorem inf366 : Inf Tryz.prog 366 1 8 (.pointer none) := inf_of (by kernel_rfl)
instance : Inf Tryz.prog 366 1 8 (.pointer none) := inf366
instance : Und Tryz.prog 367 (.pointer 364) := ⟨Tryz.underlying367⟩
instance : One Tryz.prog 367 := ⟨⟨_, Tryz.underlying367, rfl⟩⟩
theorem inf367 : Inf Tryz.prog 367 1 8 (.pointer none) := inf_of (by kernel_rfl)
instance : Inf Tryz.prog 367 1 8 (.pointer none) := inf367
instance : Und Tryz.prog 368 (.pointer 394) := ⟨Tryz.underlying368⟩
instance : One Tryz.prog 368 := ⟨⟨_, Tryz.underlying368, rfl⟩⟩
theorem inf368 : Inf Tryz.prog 368 1 8 (.pointer none) := inf_of (by kernel_rfl)
instance : Inf Tryz.prog 368 1 8 (.pointer none) := inf368
instance : Und Tryz.prog 374 (.array 0 16) := ⟨Tryz.underlying374⟩
theorem inf374 : Inf Tryz.prog 374 0 0 (.agg #[]) := inf_of (by kernel_rfl)
instance : Inf Tryz.prog 374 0 0 (.agg #[]) := inf374
instance : Agg Tryz.prog 374 0 := agg_of rfl Tryz.underlying374 inf374
theorem inf376 : Inf Tryz.prog 376 0 0 (.agg #[]) := inf_of (by kernel_rfl)
instance : Inf Tryz.prog 376 0 0 (.agg #[]) := inf376
instance : Agg Tryz.prog 376 0 := agg_of rfl Tryz.underlying376 inf376
theorem inf394 : Inf Tryz.prog 394 1 16 (.agg #[(.string ByteArray.empty)]) := inf_of (by kernel_rfl)
instance : Inf Tryz.prog 394 1 16 (.agg #[(.string ByteArray.empty)]) := inf394
instance : Agg Tryz.prog 394 1 := agg_of rfl Tryz.underlying394 inf394
instance : Fld Tryz.prog 8 0 0 := fld_of Tryz.underlying8 rfl inf2 (by decide)
instance : Fld Tryz.prog 8 1 1 := fld_of Tryz.underlying8 rfl inf3 (by decide)
instance : Fld Tryz.prog 8 2 2 := fld_of Tryz.underlying8 rfl inf4 (by decide)
instance : Fld Tryz.prog 8 3 3 := fld_of Tryz.underlying8 rfl inf6 (by decide)
instance : Str Tryz.prog 8 [(0, 1), (1, 1), (2, 1), (3, 1)] [(.int .i64 0), (.int .i64 0), (.bool false), (.int .u8 0)] := str_of Tryz.underlying8 inf8 (fun _ => by kernel_rfl) rfl
instance : Fld Tryz.prog 24 0 0 := fld_of Tryz.underlying24 rfl inf22 (by decide)
instance : Str Tryz.prog 24 [(0, 1)] [(.slice none 0 0)] := str_of Tryz.underlying24 inf24 (fun _ => by kernel_rfl) rfl
instance : Fld Tryz.prog 27 0 0 := fld_of Tryz.underlying27 rfl inf24 (by decide)
instance : Fld Tryz.prog 27 1 1 := fld_of Tryz.underlying27 rfl inf3 (by decide)
instance : Fld Tryz.prog 27 2 2 := fld_of Tryz.underlying27 rfl inf25 (by decide)
instance : Str Tryz.prog 27 [(0, 1), (1, 1), (2, 1)] [(.slice none 0 0), (.int .i64 0), (.slice none 0 0)] := str_of Tryz.underlying27 inf27 (fun _ => by kernel_rfl) rfl
instance : Fld Tryz.prog 49 0 0 := fld_of Tryz.underlying49 rfl inf29 (by decide)
instance : Fld Tryz.prog 49 1 1 := fld_of Tryz.underlying49 rfl inf47 (by decide)
instance : Str Tryz.prog 49 [(0, 1), (1, 1)] [(.slice none 0 0), (.slice none 0 0)] := str_of Tryz.underlying49 inf49 (fun _ => by kernel_rfl) rfl
instance : Fld Tryz.prog 59 0 0 := fld_of Tryz.underlying59 rfl inf9 (by decide)
instance : Fld Tryz.prog 59 1 1 := fld_of Tryz.underlying59 rfl inf3 (by decide)
instance : Fld Tryz.prog 59 2 2 := fld_of Tryz.underlying59 rfl inf4 (by decide)
instance : Fld Tryz.prog 59 3 3 := fld_of Tryz.underlying59 rfl inf4 (by decide)
instance : Fld Tryz.prog 59 4 4 := fld_of Tryz.underlying59 rfl inf4 (by decide)
instance : Str Tryz.prog 59 [(0, 1), (1, 1), (2, 1), (3, 1), (4, 1)] [(.string ByteArray.empty), (.int .i64 0), (.bool false), (.bool false), (.bool false)] := str_of Tryz.underlying59 inf59 (fun _ => by kernel_rfl) rfl
instance : Fld Tryz.prog 75 0 0 := fld_of Tryz.underlying75 rfl inf5 (by decide)
instance : Fld Tryz.prog 75 1 1 := fld_of Tryz.underlying75 rfl inf29 (by decide)
instance : Str Tryz.prog 75 [(0, 1), (1, 1)] [(.int .u8 0), (.slice none 0 0)] := str_of Tryz.underlying75 inf75 (fun _ => by kernel_rfl) rfl
instance : Fld Tryz.prog 98 0 0 := fld_of Tryz.underlying98 rfl inf3 (by decide)
instance : Fld Tryz.prog 98 1 1 := fld_of Tryz.underlying98 rfl inf3 (by decide)
instance : Str Tryz.prog 98 [(0, 1), (1, 1)] [(.int .i64 0), (.int .i64 0)] := str_of Tryz.underlying98 inf98 (fun _ => by kernel_rfl) rfl
instance : Fld Tryz.prog 100 0 0 := fld_of Tryz.underlying100 rfl inf98 (by decide)
instance : Fld Tryz.prog 100 1 2 := fld_of Tryz.underlying100 rfl inf29 (by decide)
instance : Str Tryz.prog 100 [(0, 2), (2, 1)] [(.int .i64 0), (.int .i64 0), (.slice none 0 0)] := str_of Tryz.underlying100 inf100 (fun _ => by kernel_rfl) rfl
instance : Fld Tryz.prog 107 0 0 := fld_of Tryz.underlying107 rfl inf3 (by decide)
instance : Fld Tryz.prog 107 1 1 := fld_of Tryz.underlying107 rfl inf34 (by decide)
instance : Str Tryz.prog 107 [(0, 1), (1, 1)] [(.int .i64 0), .nilIface] := str_of Tryz.underlying107 inf107 (fun _ => by kernel_rfl) rfl
instance : Fld Tryz.prog 121 0 0 := fld_of Tryz.underlying121 rfl inf24 (by decide)
instance : Fld Tryz.prog 121 1 1 := fld_of Tryz.underlying121 rfl inf3 (by decide)
instance : Fld Tryz.prog 121 2 2 := fld_of Tryz.underlying121 rfl inf118 (by decide)
instance : Fld Tryz.prog 121 3 3 := fld_of Tryz.underlying121 rfl inf119 (by decide)
instance : Fld Tryz.prog 121 4 4 := fld_of Tryz.underlying121 rfl inf4 (by decide)
instance : Str Tryz.prog 121 [(0, 1), (1, 1), (2, 1), (3, 1), (4, 1)] [(.slice none 0 0), (.int .i64 0), (.slice none 0 0), (.slice none 0 0), (.bool false)] := str_of Tryz.underlying121 inf121 (fun _ => by kernel_rfl) rfl
instance : Fld Tryz.prog 124 0 0 := fld_of Tryz.underlying124 rfl inf119 (by decide)
instance : Fld Tryz.prog 124 1 1 := fld_of Tryz.underlying124 rfl inf122 (by decide)
instance : Str Tryz.prog 124 [(0, 1), (1, 1)] [(.slice none 0 0), (.slice none 0 0)] := str_of Tryz.underlying124 inf124 (fun _ => by kernel_rfl) rfl
instance : Fld Tryz.prog 129 0 0 := fld_of Tryz.underlying129 rfl inf3 (by decide)
instance : Fld Tryz.prog 129 1 1 := fld_of Tryz.underlying129 rfl inf127 (by decide)
instance : Str Tryz.prog 129 [(0, 1), (1, 1)] [(.int .i64 0), (.slice none 0 0)] := str_of Tryz.underlying129 inf129 (fun _ => by kernel_rfl) rfl
instance : Fld Tryz.prog 134 0 0 := fld_of Tryz.underlying134 rfl inf24 (by decide)
instance : Fld Tryz.prog 134 1 1 := fld_of Tryz.underlying134 rfl inf3 (by decide)
instance : Fld Tryz.prog 134 2 2 := fld_of Tryz.underlying134 rfl inf132 (by decide)
instance : Fld Tryz.prog 134 3 3 := fld_of Tryz.underlying134 rfl inf119 (by decide)
instance : Fld Tryz.prog 134 4 4 := fld_of Tryz.underlying134 rfl inf4 (by decide)
instance : Str Tryz.prog 134 [(0, 1), (1, 1), (2, 1), (3, 1), (4, 1)] [(.slice none 0 0), (.int .i64 0), (.slice none 0 0), (.slice none 0 0), (.bool false)] := str_of Tryz.underlying134 inf134 (fun _ => by kernel_rfl) rfl
instance : Fld Tryz.prog 138 0 0 := fld_of Tryz.underlying138 rfl inf135 (by decide)
instance : Fld Tryz.prog 138 1 1 := fld_of Tryz.underlying138 rfl inf136 (by decide)
instance : Str Tryz.prog 138 [(0, 1), (1, 1)] [(.pointer none), (.pointer none)] := str_of Tryz.underlying138 inf138 (fun _ => by kernel_rfl) rfl
instance : Fld Tryz.prog 152 0 0 := fld_of Tryz.underlying152 rfl inf29 (by decide)
instance : Str Tryz.prog 152 [(0, 1)] [(.slice none 0 0)] := str_of Tryz.underlying152 inf152 (fun _ => by kernel_rfl) rfl
instance : Fld Tryz.prog 188 0 0 := fld_of Tryz.underlying188 rfl inf24 (by decide)
instance : Fld Tryz.prog 188 1 1 := fld_of Tryz.underlying188 rfl inf119 (by decide)
instance : Fld Tryz.prog 188 2 2 := fld_of Tryz.underlying188 rfl inf44 (by decide)
instance : Fld Tryz.prog 188 3 3 := fld_of Tryz.underlying188 rfl inf186 (by decide)
instance : Fld Tryz.prog 188 4 4 := fld_of Tryz.underlying188 rfl inf29 (by decide)
instance : Fld Tryz.prog 188 5 5 := fld_of Tryz.underlying188 rfl inf29 (by decide)
instance : Str Tryz.prog 188 [(0, 1), (1, 1), (2, 1), (3, 1), (4, 1), (5, 1)] [(.slice none 0 0), (.slice none 0 0), (.slice none 0 0), (.pointer none), (.slice none 0 0), (.slice none 0 0)] := str_of Tryz.underlying188 inf188 (fun _ => by kernel_rfl) rfl
instance : Fld Tryz.prog 191 0 0 := fld_of Tryz.underlying191 rfl inf3 (by decide)
instance : Fld Tryz.prog 191 1 1 := fld_of Tryz.underlying191 rfl inf3 (by decide)
instance : Fld Tryz.prog 191 2 2 := fld_of Tryz.underlying191 rfl inf189 (by decide)
instance : Str Tryz.prog 191 [(0, 1), (1, 1), (2, 1)] [(.int .i64 0), (.int .i64 0), (.slice none 0 0)] := str_of Tryz.underlying191 inf191 (fun _ => by kernel_rfl) rfl
instance : Fld Tryz.prog 194 0 0 := fld_of Tryz.underlying194 rfl inf9 (by decide)
instance : Fld Tryz.prog 194 1 1 := fld_of Tryz.underlying194 rfl inf9 (by decide)
instance : Str Tryz.prog 194 [(0, 1), (1, 1)] [(.string ByteArray.empty), (.string ByteArray.empty)] := str_of Tryz.underlying194 inf194 (fun _ => by kernel_rfl) rfl
instance : Fld Tryz.prog 203 0 0 := fld_of Tryz.underlying203 rfl inf3 (by decide)
instance : Fld Tryz.prog 203 1 1 := fld_of Tryz.underlying203 rfl inf9 (by decide)
instance : Fld Tryz.prog 203 2 2 := fld_of Tryz.underlying203 rfl inf201 (by decide)
instance : Str Tryz.prog 203 [(0, 1), (1, 1), (2, 1)] [(.int .i64 0), (.string ByteArray.empty), (.slice none 0 0)] := str_of Tryz.underlying203 inf203 (fun _ => by kernel_rfl) rfl
instance : Fld Tryz.prog 208 0 0 := fld_of Tryz.underlying208 rfl inf9 (by decide)
instance : Fld Tryz.prog 208 1 1 := fld_of Tryz.underlying208 rfl inf3 (by decide)
instance : Fld Tryz.prog 208 2 2 := fld_of Tryz.underlying208 rfl inf3 (by decide)
instance : Fld Tryz.prog 208 3 3 := fld_of Tryz.underlying208 rfl inf3 (by decide)
instance : Fld Tryz.prog 208 4 4 := fld_of Tryz.underlying208 rfl inf3 (by decide)
instance : Str Tryz.prog 208 [(0, 1), (1, 1), (2, 1), (3, 1), (4, 1)] [(.string ByteArray.empty), (.int .i64 0), (.int .i64 0), (.int .i64 0), (.int .i64 0)] := str_of Tryz.underlying208 inf208 (fun _ => by kernel_rfl) rfl
instance : Fld Tryz.prog 244 0 0 := fld_of Tryz.underlying244 rfl inf9 (by decide)
instance : Fld Tryz.prog 244 1 1 := fld_of Tryz.underlying244 rfl inf3 (by decide)
instance : Fld Tryz.prog 244 2 2 := fld_of Tryz.underlying244 rfl inf3 (by decide)
instance : Str Tryz.prog 244 [(0, 1), (1, 1), (2, 1)] [(.string ByteArray.empty), (.int .i64 0), (.int .i64 0)] := str_of Tryz.underlying244 inf244 (fun _ => by kernel_rfl) rfl
instance : Fld Tryz.prog 246 0 0 := fld_of Tryz.underlying246 rfl inf3 (by decide)
instance : Fld Tryz.prog 246 1 1 := fld_of Tryz.underlying246 rfl inf47 (by decide)
instance : Str Tryz.prog 246 [(0, 1), (1, 1)] [(.int .i64 0), (.slice none 0 0)] := str_of Tryz.underlying246 inf246 (fun _ => by kernel_rfl) rfl
instance : Fld Tryz.prog 261 0 0 := fld_of Tryz.underlying261 rfl inf24 (by decide)
instance : Fld Tryz.prog 261 1 1 := fld_of Tryz.underlying261 rfl inf119 (by decide)
instance : Fld Tryz.prog 261 2 2 := fld_of Tryz.underlying261 rfl inf44 (by decide)
instance : Fld Tryz.prog 261 3 3 := fld_of Tryz.underlying261 rfl inf259 (by decide)
instance : Str Tryz.prog 261 [(0, 1), (1, 1), (2, 1), (3, 1)] [(.slice none 0 0), (.slice none 0 0), (.slice none 0 0), (.map none)] := str_of Tryz.underlying261 inf261 (fun _ => by kernel_rfl) rfl
instance : Fld Tryz.prog 266 0 0 := fld_of Tryz.underlying266 rfl inf9 (by decide)
instance : Fld Tryz.prog 266 1 1 := fld_of Tryz.underlying266 rfl inf3 (by decide)
instance : Fld Tryz.prog 266 2 2 := fld_of Tryz.underlying266 rfl inf3 (by decide)
instance : Fld Tryz.prog 266 3 3 := fld_of Tryz.underlying266 rfl inf3 (by decide)
instance : Fld Tryz.prog 266 4 4 := fld_of Tryz.underlying266 rfl inf3 (by decide)
instance : Str Tryz.prog 266 [(0, 1), (1, 1), (2, 1), (3, 1), (4, 1)] [(.string ByteArray.empty), (.int .i64 0), (.int .i64 0), (.int .i64 0), (.int .i64 0)] := str_of Tryz.underlying266 inf266 (fun _ => by kernel_rfl) rfl
instance : Fld Tryz.prog 280 0 0 := fld_of Tryz.underlying280 rfl inf3 (by decide)
instance : Fld Tryz.prog 280 1 1 := fld_of Tryz.underlying280 rfl inf3 (by decide)
instance : Fld Tryz.prog 280 2 2 := fld_of Tryz.underlying280 rfl inf3 (by decide)
instance : Fld Tryz.prog 280 3 3 := fld_of Tryz.underlying280 rfl inf3 (by decide)
instance : Str Tryz.prog 280 [(0, 1), (1, 1), (2, 1), (3, 1)] [(.int .i64 0), (.int .i64 0), (.int .i64 0), (.int .i64 0)] := str_of Tryz.underlying280 inf280 (fun _ => by kernel_rfl) rfl
instance : Fld Tryz.prog 285 0 0 := fld_of Tryz.underlying285 rfl inf198 (by decide)
instance : Str Tryz.prog 285 [(0, 1)] [(.slice none 0 0)] := str_of Tryz.underlying285 inf285 (fun _ => by kernel_rfl) rfl
instance : Fld Tryz.prog 318 0 0 := fld_of Tryz.underlying318 rfl inf286 (by decide)
instance : Str Tryz.prog 318 [(0, 1)] [(.slice none 0 0)] := str_of Tryz.underlying318 inf318 (fun _ => by kernel_rfl) rfl
instance : Fld Tryz.prog 339 0 0 := fld_of Tryz.underlying339 rfl inf9 (by decide)
instance : Fld Tryz.prog 339 1 1 := fld_of Tryz.underlying339 rfl inf9 (by decide)
instance : Str Tryz.prog 339 [(0, 1), (1, 1)] [(.string ByteArray.empty), (.string ByteArray.empty)] := str_of Tryz.underlying339 inf339 (fun _ => by kernel_rfl) rfl
instance : Fld Tryz.prog 352 0 0 := fld_of Tryz.underlying352 rfl inf3 (by decide)
instance : Fld Tryz.prog 352 1 1 := fld_of Tryz.underlying352 rfl inf3 (by decide)
instance : Str Tryz.prog 352 [(0, 1), (1, 1)] [(.int .i64 0), (.int .i64 0)] := str_of Tryz.underlying352 inf352 (fun _ => by kernel_rfl) rfl
instance : Fld Tryz.prog 358 0 0 := fld_of Tryz.underlying358 rfl inf355 (by decide)
instance : Fld Tryz.prog 358 1 1 := fld_of Tryz.underlying358 rfl inf356 (by decide)
instance : Fld Tryz.prog 358 2 2 := fld_of Tryz.underlying358 rfl inf3 (by decide)
instance : Str Tryz.prog 358 [(0, 1), (1, 1), (2, 1)] [(.slice none 0 0), (.slice none 0 0), (.int .i64 0)] := str_of Tryz.underlying358 inf358 (fun _ => by kernel_rfl) rfl
instance : Fld Tryz.prog 361 0 0 := fld_of Tryz.underlying361 rfl inf359 (by decide)
instance : Fld Tryz.prog 361 1 1 := fld_of Tryz.underlying361 rfl inf359 (by decide)
instance : Fld Tryz.prog 361 2 2 := fld_of Tryz.underlying361 rfl inf359 (by decide)
instance : Str Tryz.prog 361 [(0, 1), (1, 1), (2, 1)] [(.int .u16 0), (.int .u16 0), (.int .u16 0)] := str_of Tryz.underlying361 inf361 (fun _ => by kernel_rfl) rfl
instance : Fld Tryz.prog 364 0 0 := fld_of Tryz.underlying364 rfl inf146 (by decide)
instance : Fld Tryz.prog 364 1 1 := fld_of Tryz.underlying364 rfl inf146 (by decide)
instance : Fld Tryz.prog 364 2 2 := fld_of Tryz.underlying364 rfl inf146 (by decide)
instance : Str Tryz.prog 364 [(0, 1), (1, 1), (2, 1)] [(.int .u32 0), (.int .u32 0), (.int .u32 0)] := str_of Tryz.underlying364 inf364 (fun _ => by kernel_rfl) rfl
instance : Fld Tryz.prog 394 0 0 := fld_of Tryz.underlying394 rfl inf9 (by decide)
instance : Str Tryz.prog 394 [(0, 1)] [(.string ByteArray.empty)] := str_of Tryz.underlying394 inf394 (fun _ => by kernel_rfl) rfl
end Go.Sx
