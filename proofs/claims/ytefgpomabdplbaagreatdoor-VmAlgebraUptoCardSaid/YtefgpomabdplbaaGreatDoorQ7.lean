import Derived.Test.YtefgpomabdplbaaGreatDoorQ6
import Derived.Test.YtefgpomabdplbaaGreatDoorProg
import Derived.KernelRfl
set_option linter.unusedVariables false
set_option linter.unusedSimpArgs false
set_option linter.unusedSectionVars false
set_option linter.unnecessarySimpa false
set_option maxHeartbeats 0
namespace Go.Sx
open Go Go.Proofs
theorem cY {P:Program}{T:TypeId}{s b:Nat}{z:Value}(h:(P.info? T).map (fun i=> (i.size,i.bytes,i.zero))=some (s,b,some z)):Inf P T s b z:=by
 cases hi:P.info? T with
 |none=> rw[hi]at h;cases h
 |some i=> rw[hi]at h;simp only[Option.map_some,Option.some.injEq,Prod.mk.injEq]at h;exact⟨⟨i,hi,h.1,h.2.1,h.2.2⟩⟩
theorem fJ {P:Program}{T:TypeId}{s b:Nat}{z:Value}{d:TypeDesc}(hm:(match d with| .struct _| .array _ _=> true|_=> false)=true) (hd:P.underlying T=some d) (h:Inf P T s b z):Agg P T s:=by
 obtain⟨i,h1,h2,_⟩:=h.out
 exact⟨⟨d,i,hd,hm,h1,h2⟩⟩
theorem cR {P:Program}{T ty:TypeId}{k off s b:Nat}{z:Value}{fs:Array Field}(hd:P.underlying T=some (.struct fs)) (hf:(fs[k]?).map (fun f=> (f.offset,f.type))=some (off,ty)) (h:Inf P ty s b z) (hs:s≠0):Fld P T k off:=by
 obtain⟨i,h1,h2,_⟩:=h.out
 cases hk:fs[k]? with
 |none=> rw[hk]at hf;cases hf
 |some f=>
  rw[hk]at hf
  simp only[Option.map_some,Option.some.injEq,Prod.mk.injEq]at hf
  exact⟨⟨fs,f,i,hd,hk,hf.1,by rw[hf.2];exact h1,by rw[h2];exact hs⟩⟩
theorem dZ {P:Program}{T:TypeId}{s b:Nat}{z:Value}{fs:Array Field}{places:List (Nat×Nat)}{zs:List Value}(hd:P.underlying T=some (.struct fs)) (h:Inf P T s b z) (hp:∀w,(fs.mapM fun(f:Field)=> (do pure (f.offset,←sizeOf f.type):Sem (Nat×Nat))).run P w= .ok places.toArray w) (hz:z.cells=zs.toArray):Str P T places zs:=by
 obtain⟨i,h1,_,_,h4⟩:=h.out
 exact⟨⟨fs,i,z,hd,hp,h1,h4,hz⟩⟩
theorem cI:Tryz.prog.follows .mixedOrders=true:=a8
instance {G:cK}{H:cG} [Glb G H]:cQ H 11 [G.err 0]:=dT 0
instance {G:cK}{H:cG} [Glb G H]:cQ H 8 [G.err 1]:=dT 1
instance {G:cK}{H:cG} [Glb G H]:cQ H 1 [G.err 2]:=dT 2
instance {G:cK}{H:cG} [Glb G H]:cQ H 2 [G.err 3]:=dT 3
instance {G:cK}{H:cG} [Glb G H]:cQ H 3 [G.err 4]:=dT 4
instance {G:cK}{H:cG} [Glb G H]:cQ H 4 [G.err 5]:=dT 5
instance {G:cK}{H:cG} [Glb G H]:cQ H 5 [G.err 6]:=dT 6
instance {G:cK}{H:cG} [Glb G H]:cQ H 6 [G.err 7]:=dT 7
instance {G:cK}{H:cG} [Glb G H]:cQ H 7 [G.err 8]:=dT 8
instance {G:cK}{H:cG} [Glb G H]:cQ H 9 [G.err 9]:=dT 9
instance {G:cK}{H:cG} [Glb G H]:cQ H 12 [G.err 11]:=dT 11
instance {G:cK}{H:cG} [Glb G H]:cQ H 13 [G.err 12]:=dT 12
instance {G:cK}{H:cG} [Glb G H]:cQ H 16 [G.err 20]:=dT 20
instance {G:cK}{H:cG} [Glb G H]:cQ H 0 [G.err 21]:=dT 21
instance:Und Tryz.prog 2 (.int .i64):=⟨Tryz.underlying2⟩
instance:Und Tryz.prog 3 (.int .i64):=⟨Tryz.underlying3⟩
instance:One Tryz.prog 3:=⟨⟨_,Tryz.underlying3,rfl⟩⟩
theorem gI:Inf Tryz.prog 3 1 8 (.int .i64 0):=cY (a8)
instance:Inf Tryz.prog 3 1 8 (.int .i64 0):=gI
instance:Und Tryz.prog 4 .bool:=⟨Tryz.underlying4⟩
instance:One Tryz.prog 4:=⟨⟨_,Tryz.underlying4,rfl⟩⟩
theorem AH:Inf Tryz.prog 4 1 1 (.bool false):=cY (a8)
instance:Inf Tryz.prog 4 1 1 (.bool false):=AH
instance:Und Tryz.prog 5 (.int .u8):=⟨Tryz.underlying5⟩
instance:One Tryz.prog 5:=⟨⟨_,Tryz.underlying5,rfl⟩⟩
theorem ON:Inf Tryz.prog 5 1 1 (.int .u8 0):=cY (a8)
instance:Inf Tryz.prog 5 1 1 (.int .u8 0):=ON
instance:Und Tryz.prog 9 .string:=⟨Tryz.underlying9⟩
instance:One Tryz.prog 9:=⟨⟨_,Tryz.underlying9,rfl⟩⟩
theorem AG:Inf Tryz.prog 9 1 16 (.string ByteArray.empty):=cY (a8)
instance:Inf Tryz.prog 9 1 16 (.string ByteArray.empty):=AG
instance:Und Tryz.prog 22 (.slice 139):=⟨Tryz.underlying22⟩
instance:One Tryz.prog 22:=⟨⟨_,Tryz.underlying22,rfl⟩⟩
theorem Ll:Inf Tryz.prog 22 1 24 (.slice none 0 0):=cY (a8)
instance:Inf Tryz.prog 22 1 24 (.slice none 0 0):=Ll
theorem vB:Inf Tryz.prog 24 1 24 (.agg #[(.slice none 0 0)]):=cY (a8)
instance:Inf Tryz.prog 24 1 24 (.agg #[(.slice none 0 0)]):=vB
instance:Agg Tryz.prog 24 1:=fJ rfl Tryz.underlying24 vB
instance:Und Tryz.prog 25 (.slice 40):=⟨Tryz.underlying25⟩
instance:One Tryz.prog 25:=⟨⟨_,Tryz.underlying25,rfl⟩⟩
theorem OR:Inf Tryz.prog 25 1 24 (.slice none 0 0):=cY (a8)
theorem Lk:Inf Tryz.prog 27 2 48 (.agg #[(.slice none 0 0),(.slice none 0 0)]):=cY (a8)
instance:Agg Tryz.prog 27 2:=fJ rfl Tryz.underlying27 Lk
instance:Und Tryz.prog 28 (.slice 3):=⟨Tryz.underlying28⟩
instance:One Tryz.prog 28:=⟨⟨_,Tryz.underlying28,rfl⟩⟩
theorem tU:Inf Tryz.prog 28 1 24 (.slice none 0 0):=cY (a8)
instance:Inf Tryz.prog 28 1 24 (.slice none 0 0):=tU
instance:Und Tryz.prog 29 (.slice 61):=⟨Tryz.underlying29⟩
instance:One Tryz.prog 29:=⟨⟨_,Tryz.underlying29,rfl⟩⟩
theorem Lj:Inf Tryz.prog 29 1 24 (.slice none 0 0):=cY (a8)
instance:Inf Tryz.prog 29 1 24 (.slice none 0 0):=Lj
instance:Und Tryz.prog 30 (.slice 197):=⟨Tryz.underlying30⟩
instance:One Tryz.prog 30:=⟨⟨_,Tryz.underlying30,rfl⟩⟩
theorem Li:Inf Tryz.prog 30 1 24 (.slice none 0 0):=cY (a8)
instance:Inf Tryz.prog 30 1 24 (.slice none 0 0):=Li
instance:Und Tryz.prog 31 (.slice 5):=⟨Tryz.underlying31⟩
instance:One Tryz.prog 31:=⟨⟨_,Tryz.underlying31,rfl⟩⟩
theorem tT:Inf Tryz.prog 31 1 24 (.slice none 0 0):=cY (a8)
instance:Inf Tryz.prog 31 1 24 (.slice none 0 0):=tT
theorem yF:Inf Tryz.prog 33 6 128 (.agg #[(.slice none 0 0),(.slice none 0 0),(.slice none 0 0),(.bool false),(.slice none 0 0),(.slice none 0 0)]):=cY (a8)
instance:Inf Tryz.prog 33 6 128 (.agg #[(.slice none 0 0),(.slice none 0 0),(.slice none 0 0),(.bool false),(.slice none 0 0),(.slice none 0 0)]):=yF
instance:Agg Tryz.prog 33 6:=fJ rfl Tryz.underlying33 yF
theorem OQ:Inf Tryz.prog 35 9 184 (.agg #[(.slice none 0 0),(.slice none 0 0),(.int .i64 0),(.slice none 0 0),(.slice none 0 0),(.slice none 0 0),(.bool false),(.slice none 0 0),(.slice none 0 0)]):=cY (a8)
instance:Agg Tryz.prog 35 9:=fJ rfl Tryz.underlying35 OQ
instance:Und Tryz.prog 37 (.pointer 67):=⟨Tryz.underlying37⟩
instance:One Tryz.prog 37:=⟨⟨_,Tryz.underlying37,rfl⟩⟩
theorem OP:Inf Tryz.prog 37 1 8 (.pointer none):=cY (a8)
instance:Und Tryz.prog 38 (.slice 59):=⟨Tryz.underlying38⟩
instance:One Tryz.prog 38:=⟨⟨_,Tryz.underlying38,rfl⟩⟩
theorem GG:Inf Tryz.prog 38 1 24 (.slice none 0 0):=cY (a8)
theorem GF:Inf Tryz.prog 40 2 48 (.agg #[(.slice none 0 0),(.slice none 0 0)]):=cY (a8)
instance:Inf Tryz.prog 40 2 48 (.agg #[(.slice none 0 0),(.slice none 0 0)]):=GF
instance:Agg Tryz.prog 40 2:=fJ rfl Tryz.underlying40 GF
instance:Und Tryz.prog 45 (.slice 56):=⟨Tryz.underlying45⟩
instance:One Tryz.prog 45:=⟨⟨_,Tryz.underlying45,rfl⟩⟩
theorem GD:Inf Tryz.prog 45 1 24 (.slice none 0 0):=cY (a8)
instance:Inf Tryz.prog 45 1 24 (.slice none 0 0):=GD
theorem OO:Inf Tryz.prog 47 4 48 (.agg #[(.slice none 0 0),(.int .i64 0),(.int .i64 0),(.int .i64 0)]):=cY (a8)
instance:Inf Tryz.prog 47 4 48 (.agg #[(.slice none 0 0),(.int .i64 0),(.int .i64 0),(.int .i64 0)]):=OO
instance:Agg Tryz.prog 47 4:=fJ rfl Tryz.underlying47 OO
instance:Und Tryz.prog 49 (.interface #[("Error",389)]):=⟨Tryz.underlying49⟩
instance:One Tryz.prog 49:=⟨⟨_,Tryz.underlying49,rfl⟩⟩
theorem inf49:Inf Tryz.prog 49 1 16 .nilIface:=cY (a8)
instance:Inf Tryz.prog 49 1 16 .nilIface:=inf49
instance:Und Tryz.prog 54 (.int .u64):=⟨Tryz.underlying54⟩
instance:One Tryz.prog 54:=⟨⟨_,Tryz.underlying54,rfl⟩⟩
theorem inf54:Inf Tryz.prog 54 1 8 (.int .u64 0):=cY (a8)
instance:Inf Tryz.prog 54 1 8 (.int .u64 0):=inf54
theorem C8:Inf Tryz.prog 56 2 16 (.agg #[(.int .i64 0),(.int .u64 0)]):=cY (a8)
instance:Inf Tryz.prog 56 2 16 (.agg #[(.int .i64 0),(.int .u64 0)]):=C8
instance:Agg Tryz.prog 56 2:=fJ rfl Tryz.underlying56 C8
instance:Und Tryz.prog 57 (.slice 169):=⟨Tryz.underlying57⟩
instance:One Tryz.prog 57:=⟨⟨_,Tryz.underlying57,rfl⟩⟩
theorem inf57:Inf Tryz.prog 57 1 24 (.slice none 0 0):=cY (a8)
instance:Inf Tryz.prog 57 1 24 (.slice none 0 0):=inf57
theorem inf59:Inf Tryz.prog 59 2 32 (.agg #[(.int .i64 0),(.slice none 0 0)]):=cY (a8)
instance:Inf Tryz.prog 59 2 32 (.agg #[(.int .i64 0),(.slice none 0 0)]):=inf59
instance:Agg Tryz.prog 59 2:=fJ rfl Tryz.underlying59 inf59
theorem inf61:Inf Tryz.prog 61 2 24 (.agg #[(.int .i64 0),(.string ByteArray.empty)]):=cY (a8)
instance:Inf Tryz.prog 61 2 24 (.agg #[(.int .i64 0),(.string ByteArray.empty)]):=inf61
instance:Agg Tryz.prog 61 2:=fJ rfl Tryz.underlying61 inf61
instance:One Tryz.prog 62:=⟨⟨_,Tryz.underlying62,rfl⟩⟩
theorem inf62:Inf Tryz.prog 62 1 8 (.pointer none):=cY (a8)
instance:Inf Tryz.prog 62 1 8 (.pointer none):=inf62
instance:Und Tryz.prog 64 (.pointer 106):=⟨Tryz.underlying64⟩
instance:One Tryz.prog 64:=⟨⟨_,Tryz.underlying64,rfl⟩⟩
theorem inf64:Inf Tryz.prog 64 1 8 (.pointer none):=cY (a8)
instance:Und Tryz.prog 65 (.pointer 226):=⟨Tryz.underlying65⟩
instance:One Tryz.prog 65:=⟨⟨_,Tryz.underlying65,rfl⟩⟩
theorem inf65:Inf Tryz.prog 65 1 8 (.pointer none):=cY (a8)
theorem inf67:Inf Tryz.prog 67 2 16 (.agg #[(.pointer none),(.pointer none)]):=cY (a8)
instance:Und Tryz.prog 74 (.slice 78):=⟨Tryz.underlying74⟩
instance:One Tryz.prog 74:=⟨⟨_,Tryz.underlying74,rfl⟩⟩
theorem inf74:Inf Tryz.prog 74 1 24 (.slice none 0 0):=cY (a8)
instance:Inf Tryz.prog 74 1 24 (.slice none 0 0):=inf74
theorem inf78:Inf Tryz.prog 78 3 24 (.agg #[(.int .i64 0),(.int .u64 0),(.int .u64 0)]):=cY (a8)
instance:Inf Tryz.prog 78 3 24 (.agg #[(.int .i64 0),(.int .u64 0),(.int .u64 0)]):=inf78
instance:Agg Tryz.prog 78 3:=fJ rfl Tryz.underlying78 inf78
theorem OK:Inf Tryz.prog 83 2 32 (.agg #[(.slice none 0 0),(.int .i64 0)]):=cY (a8)
instance:Und Tryz.prog 90 (.pointer 153):=⟨Tryz.underlying90⟩
instance:Und Tryz.prog 94 (.int .u64):=⟨Tryz.underlying94⟩
instance:Und Tryz.prog 103 (.slice 28):=⟨Tryz.underlying103⟩
instance:One Tryz.prog 103:=⟨⟨_,Tryz.underlying103,rfl⟩⟩
theorem GO:Inf Tryz.prog 103 1 24 (.slice none 0 0):=cY (a8)
instance:One Tryz.prog 104:=⟨⟨_,Tryz.underlying104,rfl⟩⟩
theorem Ni:Inf Tryz.prog 104 1 8 (.pointer none):=cY (a8)
instance:Inf Tryz.prog 104 1 8 (.pointer none):=Ni
theorem inf106:Inf Tryz.prog 106 6 128 (.agg #[(.slice none 0 0),(.slice none 0 0),(.slice none 0 0),(.pointer none),(.slice none 0 0),(.slice none 0 0)]):=cY (a8)
theorem AP:Inf Tryz.prog 112 5 48 (.agg #[(.string ByteArray.empty),(.int .i64 0),(.int .i64 0),(.int .i64 0),(.int .i64 0)]):=cY (a8)
instance:Inf Tryz.prog 112 5 48 (.agg #[(.string ByteArray.empty),(.int .i64 0),(.int .i64 0),(.int .i64 0),(.int .i64 0)]):=AP
instance:Agg Tryz.prog 112 5:=fJ rfl Tryz.underlying112 AP
theorem inf118:Inf Tryz.prog 118 2 16 (.agg #[(.int .i64 0),(.int .i64 0)]):=cY (a8)
instance:Und Tryz.prog 119 (.pointer 182):=⟨Tryz.underlying119⟩
instance:One Tryz.prog 119:=⟨⟨_,Tryz.underlying119,rfl⟩⟩
theorem inf119:Inf Tryz.prog 119 1 8 (.pointer none):=cY (a8)
instance:Und Tryz.prog 120 (.slice 237):=⟨Tryz.underlying120⟩
instance:One Tryz.prog 120:=⟨⟨_,Tryz.underlying120,rfl⟩⟩
theorem inf120:Inf Tryz.prog 120 1 24 (.slice none 0 0):=cY (a8)
instance:Inf Tryz.prog 120 1 24 (.slice none 0 0):=inf120
theorem inf122:Inf Tryz.prog 122 7 72 (.agg #[(.int .i64 0),(.int .i64 0),(.pointer none),(.int .i64 0),(.int .i64 0),(.slice none 0 0),(.bool false)]):=cY (a8)
theorem inf126:Inf Tryz.prog 126 2 16 (.agg #[(.int .i64 0),(.int .i64 0)]):=cY (a8)
theorem inf128:Inf Tryz.prog 128 3 40 (.agg #[(.int .i64 0),(.int .i64 0),(.slice none 0 0)]):=cY (a8)
instance:One Tryz.prog 132:=⟨⟨_,Tryz.underlying132,rfl⟩⟩
theorem GK:Inf Tryz.prog 132 1 8 (.pointer none):=cY (a8)
instance:Inf Tryz.prog 132 1 8 (.pointer none):=GK
instance:Und Tryz.prog 133 (.slice 132):=⟨Tryz.underlying133⟩
theorem inf139:Inf Tryz.prog 139 5 32 (.agg #[(.string ByteArray.empty),(.int .i64 0),(.bool false),(.bool false),(.bool false)]):=cY (a8)
instance:Inf Tryz.prog 139 5 32 (.agg #[(.string ByteArray.empty),(.int .i64 0),(.bool false),(.bool false),(.bool false)]):=inf139
instance:Agg Tryz.prog 139 5:=fJ rfl Tryz.underlying139 inf139
theorem inf142:Inf Tryz.prog 142 2 16 (.agg #[(.int .i64 0),(.int .i64 0)]):=cY (a8)
instance:Inf Tryz.prog 142 2 16 (.agg #[(.int .i64 0),(.int .i64 0)]):=inf142
instance:Agg Tryz.prog 142 2:=fJ rfl Tryz.underlying142 inf142
instance:One Tryz.prog 147:=⟨⟨_,Tryz.underlying147,rfl⟩⟩
theorem Nf:Inf Tryz.prog 147 1 8 .nilFunc:=cY (a8)
instance:Inf Tryz.prog 147 1 8 .nilFunc:=Nf
instance:Und Tryz.prog 148 (.array 17 147):=⟨Tryz.underlying148⟩
theorem inf148:Inf Tryz.prog 148 17 136 (.agg #[.nilFunc, .nilFunc, .nilFunc, .nilFunc, .nilFunc, .nilFunc, .nilFunc, .nilFunc, .nilFunc, .nilFunc, .nilFunc, .nilFunc, .nilFunc, .nilFunc, .nilFunc, .nilFunc, .nilFunc]):=cY (a8)
instance:Inf Tryz.prog 148 17 136 (.agg #[.nilFunc, .nilFunc, .nilFunc, .nilFunc, .nilFunc, .nilFunc, .nilFunc, .nilFunc, .nilFunc, .nilFunc, .nilFunc, .nilFunc, .nilFunc, .nilFunc, .nilFunc, .nilFunc, .nilFunc]):=inf148
instance:Agg Tryz.prog 148 17:=fJ rfl Tryz.underlying148 inf148
instance:Und Tryz.prog 150 (.slice 62):=⟨Tryz.underlying150⟩
instance:One Tryz.prog 150:=⟨⟨_,Tryz.underlying150,rfl⟩⟩
theorem Nd:Inf Tryz.prog 150 1 24 (.slice none 0 0):=cY (a8)
instance:Inf Tryz.prog 150 1 24 (.slice none 0 0):=Nd
instance:Und Tryz.prog 151 (.slice 171):=⟨Tryz.underlying151⟩
instance:One Tryz.prog 151:=⟨⟨_,Tryz.underlying151,rfl⟩⟩
theorem inf151:Inf Tryz.prog 151 1 24 (.slice none 0 0):=cY (a8)
instance:Inf Tryz.prog 151 1 24 (.slice none 0 0):=inf151
theorem inf153:Inf Tryz.prog 153 31 376 (.agg #[(.slice none 0 0),(.slice none 0 0),(.slice none 0 0),(.bool false),(.slice none 0 0),(.slice none 0 0),(.slice none 0 0),(.pointer none),(.slice none 0 0), .nilFunc, .nilFunc, .nilFunc, .nilFunc, .nilFunc, .nilFunc, .nilFunc, .nilFunc, .nilFunc, .nilFunc, .nilFunc, .nilFunc, .nilFunc, .nilFunc, .nilFunc, .nilFunc, .nilFunc,(.slice none 0 0),(.int .i64 0),(.int .i64 0),(.int .i64 0),(.int .i64 0)]):=cY (a8)
theorem inf169:Inf Tryz.prog 169 2 32 (.agg #[(.string ByteArray.empty),(.string ByteArray.empty)]):=cY (a8)
instance:Inf Tryz.prog 169 2 32 (.agg #[(.string ByteArray.empty),(.string ByteArray.empty)]):=inf169
instance:Agg Tryz.prog 169 2:=fJ rfl Tryz.underlying169 inf169
theorem inf171:Inf Tryz.prog 171 2 16 (.agg #[(.bool false),(.int .u64 0)]):=cY (a8)
instance:Inf Tryz.prog 171 2 16 (.agg #[(.bool false),(.int .u64 0)]):=inf171
instance:Agg Tryz.prog 171 2:=fJ rfl Tryz.underlying171 inf171
instance:Und Tryz.prog 175 (.slice 112):=⟨Tryz.underlying175⟩
instance:One Tryz.prog 175:=⟨⟨_,Tryz.underlying175,rfl⟩⟩
theorem inf175:Inf Tryz.prog 175 1 24 (.slice none 0 0):=cY (a8)
theorem inf177:Inf Tryz.prog 177 1 24 (.agg #[(.slice none 0 0)]):=cY (a8)
instance:Und Tryz.prog 180 (.slice 232):=⟨Tryz.underlying180⟩
instance:One Tryz.prog 180:=⟨⟨_,Tryz.underlying180,rfl⟩⟩
theorem inf180:Inf Tryz.prog 180 1 24 (.slice none 0 0):=cY (a8)
instance:Inf Tryz.prog 180 1 24 (.slice none 0 0):=inf180
theorem inf182:Inf Tryz.prog 182 4 64 (.agg #[(.slice none 0 0),(.int .i64 0),(.int .i64 0),(.slice none 0 0)]):=cY (a8)
theorem inf186:Inf Tryz.prog 186 2 24 (.agg #[(.string ByteArray.empty),(.int .i64 0)]):=cY (a8)
instance:Inf Tryz.prog 186 2 24 (.agg #[(.string ByteArray.empty),(.int .i64 0)]):=inf186
instance:Und Tryz.prog 187 (.array 17 186):=⟨Tryz.underlying187⟩
theorem inf197:Inf Tryz.prog 197 3 56 (.agg #[(.slice none 0 0),(.slice none 0 0),(.int .i64 0)]):=cY (a8)
instance:Inf Tryz.prog 197 3 56 (.agg #[(.slice none 0 0),(.slice none 0 0),(.int .i64 0)]):=inf197
instance:Agg Tryz.prog 197 3:=fJ rfl Tryz.underlying197 inf197
instance:Und Tryz.prog 210 (.slice 216):=⟨Tryz.underlying210⟩
theorem inf216:Inf Tryz.prog 216 2 32 (.agg #[(.int .u8 0),(.slice none 0 0)]):=cY (a8)
instance:Inf Tryz.prog 216 2 32 (.agg #[(.int .u8 0),(.slice none 0 0)]):=inf216
instance:Agg Tryz.prog 216 2:=fJ rfl Tryz.underlying216 inf216
instance:Und Tryz.prog 220 (.map 9 120):=⟨Tryz.underlying220⟩
instance:One Tryz.prog 220:=⟨⟨_,Tryz.underlying220,rfl⟩⟩
theorem inf220:Inf Tryz.prog 220 1 8 (.map none):=cY (a8)
theorem inf222:Inf Tryz.prog 222 4 80 (.agg #[(.slice none 0 0),(.slice none 0 0),(.slice none 0 0),(.map none)]):=cY (a8)
instance:Und Tryz.prog 224 (.slice 54):=⟨Tryz.underlying224⟩
instance:One Tryz.prog 224:=⟨⟨_,Tryz.underlying224,rfl⟩⟩
theorem AK:Inf Tryz.prog 224 1 24 (.slice none 0 0):=cY (a8)
theorem inf226:Inf Tryz.prog 226 3 40 (.agg #[(.int .i64 0),(.int .i64 0),(.slice none 0 0)]):=cY (a8)
theorem inf232:Inf Tryz.prog 232 4 32 (.agg #[(.int .i64 0),(.int .i64 0),(.int .i64 0),(.int .i64 0)]):=cY (a8)
instance:Inf Tryz.prog 232 4 32 (.agg #[(.int .i64 0),(.int .i64 0),(.int .i64 0),(.int .i64 0)]):=inf232
instance:Agg Tryz.prog 232 4:=fJ rfl Tryz.underlying232 inf232
theorem inf237:Inf Tryz.prog 237 2 32 (.agg #[(.int .i64 0),(.slice none 0 0)]):=cY (a8)
instance:Inf Tryz.prog 237 2 32 (.agg #[(.int .i64 0),(.slice none 0 0)]):=inf237
instance:Agg Tryz.prog 237 2:=fJ rfl Tryz.underlying237 inf237
instance:Und Tryz.prog 238 (.slice 31):=⟨Tryz.underlying238⟩
theorem inf240:Inf Tryz.prog 240 1 24 (.agg #[(.slice none 0 0)]):=cY (a8)
instance:Und Tryz.prog 254 (.map 9 3):=⟨Tryz.underlying254⟩
instance:Und Tryz.prog 257 (.slice 260):=⟨Tryz.underlying257⟩
theorem AI:Inf Tryz.prog 260 5 48 (.agg #[(.string ByteArray.empty),(.int .i64 0),(.int .i64 0),(.int .i64 0),(.int .i64 0)]):=cY (a8)
instance:Inf Tryz.prog 260 5 48 (.agg #[(.string ByteArray.empty),(.int .i64 0),(.int .i64 0),(.int .i64 0),(.int .i64 0)]):=AI
instance:Agg Tryz.prog 260 5:=fJ rfl Tryz.underlying260 AI
instance:Und Tryz.prog 267 (.int .u32):=⟨Tryz.underlying267⟩
instance:One Tryz.prog 267:=⟨⟨_,Tryz.underlying267,rfl⟩⟩
theorem inf267:Inf Tryz.prog 267 1 4 (.int .u32 0):=cY (a8)
instance:Inf Tryz.prog 267 1 4 (.int .u32 0):=inf267
instance:Und Tryz.prog 288 (.slice 9):=⟨Tryz.underlying288⟩
instance:One Tryz.prog 288:=⟨⟨_,Tryz.underlying288,rfl⟩⟩
theorem inf288:Inf Tryz.prog 288 1 24 (.slice none 0 0):=cY (a8)
instance:Und Tryz.prog 298 (.array 16 267):=⟨Tryz.underlying298⟩
instance:Und Tryz.prog 311 (.slice 343):=⟨Tryz.underlying311⟩
instance:Und Tryz.prog 320 (.array 4 3):=⟨Tryz.underlying320⟩
theorem inf320:Inf Tryz.prog 320 4 32 (.agg #[(.int .i64 0),(.int .i64 0),(.int .i64 0),(.int .i64 0)]):=cY (a8)
instance:Inf Tryz.prog 320 4 32 (.agg #[(.int .i64 0),(.int .i64 0),(.int .i64 0),(.int .i64 0)]):=inf320
instance:Agg Tryz.prog 320 4:=fJ rfl Tryz.underlying320 inf320
instance:One Tryz.prog 326:=⟨⟨_,Tryz.underlying326,rfl⟩⟩
theorem inf326:Inf Tryz.prog 326 1 8 (.pointer none):=cY (a8)
instance:Inf Tryz.prog 326 1 8 (.pointer none):=inf326
instance:Und Tryz.prog 327 (.slice 326):=⟨Tryz.underlying327⟩
theorem inf337:Inf Tryz.prog 337 0 0 (.agg #[]):=cY (a8)
theorem inf340:Inf Tryz.prog 340 1 24 (.agg #[(.slice none 0 0)]):=cY (a8)
theorem inf341:Inf Tryz.prog 341 0 0 (.agg #[]):=cY (a8)
instance:One Tryz.prog 343:=⟨⟨_,Tryz.underlying343,rfl⟩⟩
theorem inf343:Inf Tryz.prog 343 1 16 .nilIface:=cY (a8)
instance:Inf Tryz.prog 343 1 16 .nilIface:=inf343
instance:Und Tryz.prog 345 (.array 8 5):=⟨Tryz.underlying345⟩
theorem inf345:Inf Tryz.prog 345 8 8 (.agg #[(.int .u8 0),(.int .u8 0),(.int .u8 0),(.int .u8 0),(.int .u8 0),(.int .u8 0),(.int .u8 0),(.int .u8 0)]):=cY (a8)
instance:Inf Tryz.prog 345 8 8 (.agg #[(.int .u8 0),(.int .u8 0),(.int .u8 0),(.int .u8 0),(.int .u8 0),(.int .u8 0),(.int .u8 0),(.int .u8 0)]):=inf345
instance:Und Tryz.prog 410 (.slice 4):=⟨Tryz.underlying410⟩
instance:Fld Tryz.prog 24 0 0:=cR Tryz.underlying24 rfl Ll (ag)
instance:Str Tryz.prog 24 [(0,1)] [(.slice none 0 0)]:=dZ Tryz.underlying24 vB (fun _=> a8) rfl
instance:Fld Tryz.prog 27 0 0:=cR Tryz.underlying27 rfl vB (ag)
instance:Fld Tryz.prog 27 1 1:=cR Tryz.underlying27 rfl OR (ag)
instance:Fld Tryz.prog 33 0 0:=cR Tryz.underlying33 rfl tU (ag)
instance:Fld Tryz.prog 33 1 1:=cR Tryz.underlying33 rfl Lj (ag)
instance:Fld Tryz.prog 33 2 2:=cR Tryz.underlying33 rfl Li (ag)
instance:Fld Tryz.prog 33 3 3:=cR Tryz.underlying33 rfl AH (ag)
instance:Fld Tryz.prog 33 4 4:=cR Tryz.underlying33 rfl tU (ag)
instance:Fld Tryz.prog 33 5 5:=cR Tryz.underlying33 rfl tT (ag)
instance:Str Tryz.prog 33 [(0,1),(1,1),(2,1),(3,1),(4,1),(5,1)] [(.slice none 0 0),(.slice none 0 0),(.slice none 0 0),(.bool false),(.slice none 0 0),(.slice none 0 0)]:=dZ Tryz.underlying33 yF (fun _=> a8) rfl
instance:Fld Tryz.prog 35 0 0:=cR Tryz.underlying35 rfl Lk (ag)
instance:Fld Tryz.prog 35 1 2:=cR Tryz.underlying35 rfl gI (ag)
instance:Fld Tryz.prog 35 2 3:=cR Tryz.underlying35 rfl yF (ag)
instance:Fld Tryz.prog 40 0 0:=cR Tryz.underlying40 rfl GG (ag)
instance:Fld Tryz.prog 40 1 1:=cR Tryz.underlying40 rfl tU (ag)
instance:Str Tryz.prog 40 [(0,1),(1,1)] [(.slice none 0 0),(.slice none 0 0)]:=dZ Tryz.underlying40 GF (fun _=> a8) rfl
instance:Fld Tryz.prog 47 0 0:=cR Tryz.underlying47 rfl GD (ag)
instance:Fld Tryz.prog 47 1 1:=cR Tryz.underlying47 rfl gI (ag)
instance:Fld Tryz.prog 47 2 2:=cR Tryz.underlying47 rfl gI (ag)
instance:Fld Tryz.prog 47 3 3:=cR Tryz.underlying47 rfl gI (ag)
instance:Str Tryz.prog 47 [(0,1),(1,1),(2,1),(3,1)] [(.slice none 0 0),(.int .i64 0),(.int .i64 0),(.int .i64 0)]:=dZ Tryz.underlying47 OO (fun _=> a8) rfl
instance:Fld Tryz.prog 56 0 0:=cR Tryz.underlying56 rfl gI (ag)
instance:Fld Tryz.prog 56 1 1:=cR Tryz.underlying56 rfl inf54 (ag)
instance:Str Tryz.prog 56 [(0,1),(1,1)] [(.int .i64 0),(.int .u64 0)]:=dZ Tryz.underlying56 C8 (fun _=> a8) rfl
instance:Fld Tryz.prog 59 0 0:=cR Tryz.underlying59 rfl gI (ag)
instance:Fld Tryz.prog 59 1 1:=cR Tryz.underlying59 rfl inf57 (ag)
instance:Str Tryz.prog 59 [(0,1),(1,1)] [(.int .i64 0),(.slice none 0 0)]:=dZ Tryz.underlying59 inf59 (fun _=> a8) rfl
instance:Fld Tryz.prog 61 0 0:=cR Tryz.underlying61 rfl gI (ag)
instance:Fld Tryz.prog 61 1 1:=cR Tryz.underlying61 rfl AG (ag)
instance:Str Tryz.prog 61 [(0,1),(1,1)] [(.int .i64 0),(.string ByteArray.empty)]:=dZ Tryz.underlying61 inf61 (fun _=> a8) rfl
instance:Fld Tryz.prog 67 0 0:=cR Tryz.underlying67 rfl inf64 (ag)
instance:Fld Tryz.prog 67 1 1:=cR Tryz.underlying67 rfl inf65 (ag)
instance:Str Tryz.prog 67 [(0,1),(1,1)] [(.pointer none),(.pointer none)]:=dZ Tryz.underlying67 inf67 (fun _=> a8) rfl
instance:Fld Tryz.prog 71 0 0:=cR Tryz.underlying71 rfl OQ (ag)
instance:Fld Tryz.prog 71 1 9:=cR Tryz.underlying71 rfl tT (ag)
instance:Fld Tryz.prog 71 2 10:=cR Tryz.underlying71 rfl inf54 (ag)
instance:Fld Tryz.prog 78 0 0:=cR Tryz.underlying78 rfl gI (ag)
instance:Fld Tryz.prog 78 1 1:=cR Tryz.underlying78 rfl inf54 (ag)
instance:Fld Tryz.prog 78 2 2:=cR Tryz.underlying78 rfl inf54 (ag)
instance:Str Tryz.prog 78 [(0,1),(1,1),(2,1)] [(.int .i64 0),(.int .u64 0),(.int .u64 0)]:=dZ Tryz.underlying78 inf78 (fun _=> a8) rfl
instance:Fld Tryz.prog 83 0 0:=cR Tryz.underlying83 rfl GD (ag)
instance:Fld Tryz.prog 83 1 1:=cR Tryz.underlying83 rfl gI (ag)
instance:Str Tryz.prog 83 [(0,1),(1,1)] [(.slice none 0 0),(.int .i64 0)]:=dZ Tryz.underlying83 OK (fun _=> a8) rfl
instance:Fld Tryz.prog 106 0 0:=cR Tryz.underlying106 rfl vB (ag)
instance:Fld Tryz.prog 106 1 1:=cR Tryz.underlying106 rfl GG (ag)
instance:Fld Tryz.prog 106 2 2:=cR Tryz.underlying106 rfl GO (ag)
instance:Fld Tryz.prog 106 3 3:=cR Tryz.underlying106 rfl Ni (ag)
instance:Fld Tryz.prog 106 4 4:=cR Tryz.underlying106 rfl tT (ag)
instance:Str Tryz.prog 106 [(0,1),(1,1),(2,1),(3,1),(4,1),(5,1)] [(.slice none 0 0),(.slice none 0 0),(.slice none 0 0),(.pointer none),(.slice none 0 0),(.slice none 0 0)]:=dZ Tryz.underlying106 inf106 (fun _=> a8) rfl
instance:Fld Tryz.prog 112 0 0:=cR Tryz.underlying112 rfl AG (ag)
instance:Fld Tryz.prog 112 1 1:=cR Tryz.underlying112 rfl gI (ag)
instance:Fld Tryz.prog 112 2 2:=cR Tryz.underlying112 rfl gI (ag)
instance:Fld Tryz.prog 112 3 3:=cR Tryz.underlying112 rfl gI (ag)
instance:Fld Tryz.prog 112 4 4:=cR Tryz.underlying112 rfl gI (ag)
instance:Str Tryz.prog 112 [(0,1),(1,1),(2,1),(3,1),(4,1)] [(.string ByteArray.empty),(.int .i64 0),(.int .i64 0),(.int .i64 0),(.int .i64 0)]:=dZ Tryz.underlying112 AP (fun _=> a8) rfl
instance:Fld Tryz.prog 118 0 0:=cR Tryz.underlying118 rfl gI (ag)
instance:Fld Tryz.prog 118 1 1:=cR Tryz.underlying118 rfl gI (ag)
instance:Str Tryz.prog 118 [(0,1),(1,1)] [(.int .i64 0),(.int .i64 0)]:=dZ Tryz.underlying118 inf118 (fun _=> a8) rfl
instance:Fld Tryz.prog 122 0 0:=cR Tryz.underlying122 rfl inf118 (ag)
instance:Fld Tryz.prog 122 1 2:=cR Tryz.underlying122 rfl inf119 (ag)
instance:Fld Tryz.prog 122 2 3:=cR Tryz.underlying122 rfl gI (ag)
instance:Fld Tryz.prog 122 3 4:=cR Tryz.underlying122 rfl gI (ag)
instance:Fld Tryz.prog 122 4 5:=cR Tryz.underlying122 rfl inf120 (ag)
instance:Fld Tryz.prog 122 5 6:=cR Tryz.underlying122 rfl AH (ag)
instance:Str Tryz.prog 122 [(0,2),(2,1),(3,1),(4,1),(5,1),(6,1)] [(.int .i64 0),(.int .i64 0),(.pointer none),(.int .i64 0),(.int .i64 0),(.slice none 0 0),(.bool false)]:=dZ Tryz.underlying122 inf122 (fun _=> a8) rfl
instance:Fld Tryz.prog 126 0 0:=cR Tryz.underlying126 rfl gI (ag)
instance:Fld Tryz.prog 126 1 1:=cR Tryz.underlying126 rfl gI (ag)
instance:Str Tryz.prog 126 [(0,1),(1,1)] [(.int .i64 0),(.int .i64 0)]:=dZ Tryz.underlying126 inf126 (fun _=> a8) rfl
instance:Fld Tryz.prog 128 0 0:=cR Tryz.underlying128 rfl inf126 (ag)
instance:Fld Tryz.prog 128 1 2:=cR Tryz.underlying128 rfl tT (ag)
instance:Str Tryz.prog 128 [(0,2),(2,1)] [(.int .i64 0),(.int .i64 0),(.slice none 0 0)]:=dZ Tryz.underlying128 inf128 (fun _=> a8) rfl
instance:Fld Tryz.prog 139 0 0:=cR Tryz.underlying139 rfl AG (ag)
instance:Fld Tryz.prog 139 1 1:=cR Tryz.underlying139 rfl gI (ag)
instance:Fld Tryz.prog 139 2 2:=cR Tryz.underlying139 rfl AH (ag)
instance:Fld Tryz.prog 139 3 3:=cR Tryz.underlying139 rfl AH (ag)
instance:Fld Tryz.prog 139 4 4:=cR Tryz.underlying139 rfl AH (ag)
instance:Str Tryz.prog 139 [(0,1),(1,1),(2,1),(3,1),(4,1)] [(.string ByteArray.empty),(.int .i64 0),(.bool false),(.bool false),(.bool false)]:=dZ Tryz.underlying139 inf139 (fun _=> a8) rfl
instance:Str Tryz.prog 142 [(0,1),(1,1)] [(.int .i64 0),(.int .i64 0)]:=dZ Tryz.underlying142 inf142 (fun _=> a8) rfl
instance:Fld Tryz.prog 153 0 0:=cR Tryz.underlying153 rfl yF (ag)
instance:Fld Tryz.prog 153 1 6:=cR Tryz.underlying153 rfl inf74 (ag)
instance:Fld Tryz.prog 153 2 7:=cR Tryz.underlying153 rfl OP (ag)
instance:Fld Tryz.prog 153 3 8:=cR Tryz.underlying153 rfl Nd (ag)
instance:Fld Tryz.prog 153 4 9:=cR Tryz.underlying153 rfl inf148 (ag)
instance:Fld Tryz.prog 153 5 26:=cR Tryz.underlying153 rfl inf151 (ag)
instance:Fld Tryz.prog 153 6 27:=cR Tryz.underlying153 rfl gI (ag)
instance:Fld Tryz.prog 153 7 28:=cR Tryz.underlying153 rfl gI (ag)
instance:Fld Tryz.prog 153 8 29:=cR Tryz.underlying153 rfl gI (ag)
instance:Fld Tryz.prog 153 9 30:=cR Tryz.underlying153 rfl gI (ag)
instance:Str Tryz.prog 153 [(0,6),(6,1),(7,1),(8,1),(9,17),(26,1),(27,1),(28,1),(29,1),(30,1)] [(.slice none 0 0),(.slice none 0 0),(.slice none 0 0),(.bool false),(.slice none 0 0),(.slice none 0 0),(.slice none 0 0),(.pointer none),(.slice none 0 0), .nilFunc, .nilFunc, .nilFunc, .nilFunc, .nilFunc, .nilFunc, .nilFunc, .nilFunc, .nilFunc, .nilFunc, .nilFunc, .nilFunc, .nilFunc, .nilFunc, .nilFunc, .nilFunc, .nilFunc,(.slice none 0 0),(.int .i64 0),(.int .i64 0),(.int .i64 0),(.int .i64 0)]:=dZ Tryz.underlying153 inf153 (fun _=> a8) rfl
instance:Fld Tryz.prog 169 0 0:=cR Tryz.underlying169 rfl AG (ag)
instance:Fld Tryz.prog 169 1 1:=cR Tryz.underlying169 rfl AG (ag)
instance:Str Tryz.prog 169 [(0,1),(1,1)] [(.string ByteArray.empty),(.string ByteArray.empty)]:=dZ Tryz.underlying169 inf169 (fun _=> a8) rfl
instance:Fld Tryz.prog 171 0 0:=cR Tryz.underlying171 rfl AH (ag)
instance:Fld Tryz.prog 171 1 1:=cR Tryz.underlying171 rfl inf54 (ag)
instance:Str Tryz.prog 171 [(0,1),(1,1)] [(.bool false),(.int .u64 0)]:=dZ Tryz.underlying171 inf171 (fun _=> a8) rfl
instance:Fld Tryz.prog 177 0 0:=cR Tryz.underlying177 rfl inf175 (ag)
instance:Str Tryz.prog 177 [(0,1)] [(.slice none 0 0)]:=dZ Tryz.underlying177 inf177 (fun _=> a8) rfl
instance:Fld Tryz.prog 182 0 0:=cR Tryz.underlying182 rfl tT (ag)
instance:Fld Tryz.prog 182 1 1:=cR Tryz.underlying182 rfl gI (ag)
instance:Fld Tryz.prog 182 2 2:=cR Tryz.underlying182 rfl gI (ag)
instance:Fld Tryz.prog 182 3 3:=cR Tryz.underlying182 rfl inf180 (ag)
instance:Str Tryz.prog 182 [(0,1),(1,1),(2,1),(3,1)] [(.slice none 0 0),(.int .i64 0),(.int .i64 0),(.slice none 0 0)]:=dZ Tryz.underlying182 inf182 (fun _=> a8) rfl
instance:Fld Tryz.prog 186 1 1:=cR Tryz.underlying186 rfl gI (ag)
instance:Fld Tryz.prog 197 0 0:=cR Tryz.underlying197 rfl tU (ag)
instance:Fld Tryz.prog 197 1 1:=cR Tryz.underlying197 rfl tU (ag)
instance:Fld Tryz.prog 197 2 2:=cR Tryz.underlying197 rfl gI (ag)
instance:Str Tryz.prog 197 [(0,1),(1,1),(2,1)] [(.slice none 0 0),(.slice none 0 0),(.int .i64 0)]:=dZ Tryz.underlying197 inf197 (fun _=> a8) rfl
instance:Fld Tryz.prog 216 0 0:=cR Tryz.underlying216 rfl ON (ag)
instance:Fld Tryz.prog 216 1 1:=cR Tryz.underlying216 rfl tT (ag)
instance:Str Tryz.prog 216 [(0,1),(1,1)] [(.int .u8 0),(.slice none 0 0)]:=dZ Tryz.underlying216 inf216 (fun _=> a8) rfl
instance:Fld Tryz.prog 222 0 0:=cR Tryz.underlying222 rfl vB (ag)
instance:Fld Tryz.prog 222 1 1:=cR Tryz.underlying222 rfl GG (ag)
instance:Fld Tryz.prog 222 2 2:=cR Tryz.underlying222 rfl GO (ag)
instance:Fld Tryz.prog 222 3 3:=cR Tryz.underlying222 rfl inf220 (ag)
instance:Str Tryz.prog 222 [(0,1),(1,1),(2,1),(3,1)] [(.slice none 0 0),(.slice none 0 0),(.slice none 0 0),(.map none)]:=dZ Tryz.underlying222 inf222 (fun _=> a8) rfl
instance:Fld Tryz.prog 226 0 0:=cR Tryz.underlying226 rfl gI (ag)
instance:Fld Tryz.prog 226 1 1:=cR Tryz.underlying226 rfl gI (ag)
instance:Fld Tryz.prog 226 2 2:=cR Tryz.underlying226 rfl AK (ag)
instance:Str Tryz.prog 226 [(0,1),(1,1),(2,1)] [(.int .i64 0),(.int .i64 0),(.slice none 0 0)]:=dZ Tryz.underlying226 inf226 (fun _=> a8) rfl
instance:Fld Tryz.prog 232 0 0:=cR Tryz.underlying232 rfl gI (ag)
instance:Fld Tryz.prog 232 1 1:=cR Tryz.underlying232 rfl gI (ag)
instance:Fld Tryz.prog 232 2 2:=cR Tryz.underlying232 rfl gI (ag)
instance:Fld Tryz.prog 232 3 3:=cR Tryz.underlying232 rfl gI (ag)
instance:Str Tryz.prog 232 [(0,1),(1,1),(2,1),(3,1)] [(.int .i64 0),(.int .i64 0),(.int .i64 0),(.int .i64 0)]:=dZ Tryz.underlying232 inf232 (fun _=> a8) rfl
instance:Fld Tryz.prog 237 0 0:=cR Tryz.underlying237 rfl gI (ag)
instance:Fld Tryz.prog 237 1 1:=cR Tryz.underlying237 rfl tU (ag)
instance:Str Tryz.prog 237 [(0,1),(1,1)] [(.int .i64 0),(.slice none 0 0)]:=dZ Tryz.underlying237 inf237 (fun _=> a8) rfl
instance:Fld Tryz.prog 240 0 0:=cR Tryz.underlying240 rfl tT (ag)
instance:Str Tryz.prog 240 [(0,1)] [(.slice none 0 0)]:=dZ Tryz.underlying240 inf240 (fun _=> a8) rfl
instance:Fld Tryz.prog 260 0 0:=cR Tryz.underlying260 rfl AG (ag)
instance:Fld Tryz.prog 260 1 1:=cR Tryz.underlying260 rfl gI (ag)
instance:Fld Tryz.prog 260 2 2:=cR Tryz.underlying260 rfl gI (ag)
instance:Str Tryz.prog 260 [(0,1),(1,1),(2,1),(3,1),(4,1)] [(.string ByteArray.empty),(.int .i64 0),(.int .i64 0),(.int .i64 0),(.int .i64 0)]:=dZ Tryz.underlying260 AI (fun _=> a8) rfl
instance:Fld Tryz.prog 340 0 0:=cR Tryz.underlying340 rfl inf288 (ag)
instance:Str Tryz.prog 340 [(0,1)] [(.slice none 0 0)]:=dZ Tryz.underlying340 inf340 (fun _=> a8) rfl
end Go.Sx
