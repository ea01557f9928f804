import Derived.Test.YtidnknhabomaiaaGreatDoorQ6
import Derived.Test.YtidnknhabomaiaaGreatDoorProg
import Derived.KernelRfl
set_option linter.unusedVariables false
set_option linter.unusedSimpArgs false
set_option linter.unusedSectionVars false
set_option linter.unnecessarySimpa false
set_option maxHeartbeats 0
namespace Go.Sx
open Go Go.Proofs
theorem cY {P:Program}{T:TypeId}{s b:Nat}{z:Value}(h:(P.info? T).map (fun i=> (i.size,i.bytes,i.zero))=some (s,b,some z)):Inf P T s b z:=by
 cases hi:P.info? T with
 |none=> rw[hi]at h;cases h
 |some i=> rw[hi]at h;simp only[Option.map_some,Option.some.injEq,Prod.mk.injEq]at h;exact⟨⟨i,hi,h.1,h.2.1,h.2.2⟩⟩
theorem fJ {P:Program}{T:TypeId}{s b:Nat}{z:Value}{d:TypeDesc}(hm:(match d with| .struct _| .array _ _=> true|_=> false)=true) (hd:P.underlying T=some d) (h:Inf P T s b z):Agg P T s:=by
 obtain⟨i,h1,h2,_⟩:=h.out
 exact⟨⟨d,i,hd,hm,h1,h2⟩⟩
theorem cR {P:Program}{T ty:TypeId}{k off s b:Nat}{z:Value}{fs:Array Field}(hd:P.underlying T=some (.struct fs)) (hf:(fs[k]?).map (fun f=> (f.offset,f.type))=some (off,ty)) (h:Inf P ty s b z) (hs:s≠0):Fld P T k off:=by
 obtain⟨i,h1,h2,_⟩:=h.out
 cases hk:fs[k]? with
 |none=> rw[hk]at hf;cases hf
 |some f=>
  rw[hk]at hf
  simp only[Option.map_some,Option.some.injEq,Prod.mk.injEq]at hf
  exact⟨⟨fs,f,i,hd,hk,hf.1,by rw[hf.2];exact h1,by rw[h2];exact hs⟩⟩
theorem dZ {P:Program}{T:TypeId}{s b:Nat}{z:Value}{fs:Array Field}{places:List (Nat×Nat)}{zs:List Value}(hd:P.underlying T=some (.struct fs)) (h:Inf P T s b z) (hp:∀w,(fs.mapM fun(f:Field)=> (do pure (f.offset,←sizeOf f.type):Sem (Nat×Nat))).run P w= .ok places.toArray w) (hz:z.cells=zs.toArray):Str P T places zs:=by
 obtain⟨i,h1,_,_,h4⟩:=h.out
 exact⟨⟨fs,i,z,hd,hp,h1,h4,hz⟩⟩
theorem cI:Tryz.prog.follows .mixedOrders=true:=a8
instance {G:cK}{H:cG} [Glb G H]:cQ H 12 [G.err 0]:=dT 0
instance {G:cK}{H:cG} [Glb G H]:cQ H 10 [G.err 1]:=dT 1
instance {G:cK}{H:cG} [Glb G H]:cQ H 3 [G.err 2]:=dT 2
instance {G:cK}{H:cG} [Glb G H]:cQ H 4 [G.err 3]:=dT 3
instance {G:cK}{H:cG} [Glb G H]:cQ H 5 [G.err 4]:=dT 4
instance {G:cK}{H:cG} [Glb G H]:cQ H 6 [G.err 5]:=dT 5
instance {G:cK}{H:cG} [Glb G H]:cQ H 7 [G.err 6]:=dT 6
instance {G:cK}{H:cG} [Glb G H]:cQ H 8 [G.err 7]:=dT 7
instance {G:cK}{H:cG} [Glb G H]:cQ H 9 [G.err 8]:=dT 8
instance {G:cK}{H:cG} [Glb G H]:cQ H 2 [G.err 9]:=dT 9
instance {G:cK}{H:cG} [Glb G H]:cQ H 11 [G.err 10]:=dT 10
instance {G:cK}{H:cG} [Glb G H]:cQ H 13 [G.err 11]:=dT 11
instance {G:cK}{H:cG} [Glb G H]:cQ H 14 [G.err 12]:=dT 12
instance {G:cK}{H:cG} [Glb G H]:cQ H 15 [G.err 13]:=dT 13
instance {G:cK}{H:cG} [Glb G H]:cQ H 16 [G.err 14]:=dT 14
instance {G:cK}{H:cG} [Glb G H]:cQ H 17 [G.err 15]:=dT 15
instance {G:cK}{H:cG} [Glb G H]:cQ H 18 [G.err 16]:=dT 16
instance {G:cK}{H:cG} [Glb G H]:cQ H 19 [G.err 17]:=dT 17
instance {G:cK}{H:cG} [Glb G H]:cQ H 20 [G.err 18]:=dT 18
instance {G:cK}{H:cG} [Glb G H]:cQ H 21 [G.err 19]:=dT 19
instance {G:cK}{H:cG} [Glb G H]:cQ H 1 [G.err 20]:=dT 20
instance {G:cK}{H:cG} [Glb G H]:cQ H 0 [G.err 21]:=dT 21
instance {G:cK}{H:cG} [Glb G H]:cQ H 22 [G.err 22]:=dT 22
instance {G:cK}{H:cG} [Glb G H]:cQ H 23 [G.err 23]:=dT 23
instance:Und Tryz.prog 2 (.int .i64):=⟨Tryz.underlying2⟩
instance:Und Tryz.prog 3 (.int .i64):=⟨Tryz.underlying3⟩
instance:One Tryz.prog 3:=⟨⟨_,Tryz.underlying3,rfl⟩⟩
theorem gI:Inf Tryz.prog 3 1 8 (.int .i64 0):=cY (a8)
instance:Inf Tryz.prog 3 1 8 (.int .i64 0):=gI
instance:Und Tryz.prog 4 .bool:=⟨Tryz.underlying4⟩
instance:One Tryz.prog 4:=⟨⟨_,Tryz.underlying4,rfl⟩⟩
theorem AH:Inf Tryz.prog 4 1 1 (.bool false):=cY (a8)
instance:Inf Tryz.prog 4 1 1 (.bool false):=AH
instance:Und Tryz.prog 5 (.int .u8):=⟨Tryz.underlying5⟩
instance:One Tryz.prog 5:=⟨⟨_,Tryz.underlying5,rfl⟩⟩
theorem ON:Inf Tryz.prog 5 1 1 (.int .u8 0):=cY (a8)
instance:Inf Tryz.prog 5 1 1 (.int .u8 0):=ON
instance:Und Tryz.prog 9 .string:=⟨Tryz.underlying9⟩
instance:One Tryz.prog 9:=⟨⟨_,Tryz.underlying9,rfl⟩⟩
theorem AG:Inf Tryz.prog 9 1 16 (.string ByteArray.empty):=cY (a8)
instance:Inf Tryz.prog 9 1 16 (.string ByteArray.empty):=AG
instance:Und Tryz.prog 22 (.slice 109):=⟨Tryz.underlying22⟩
instance:One Tryz.prog 22:=⟨⟨_,Tryz.underlying22,rfl⟩⟩
theorem Ll:Inf Tryz.prog 22 1 24 (.slice none 0 0):=cY (a8)
instance:Inf Tryz.prog 22 1 24 (.slice none 0 0):=Ll
theorem vB:Inf Tryz.prog 24 1 24 (.agg #[(.slice none 0 0)]):=cY (a8)
instance:Inf Tryz.prog 24 1 24 (.agg #[(.slice none 0 0)]):=vB
instance:Agg Tryz.prog 24 1:=fJ rfl Tryz.underlying24 vB
instance:Und Tryz.prog 25 (.slice 40):=⟨Tryz.underlying25⟩
instance:One Tryz.prog 25:=⟨⟨_,Tryz.underlying25,rfl⟩⟩
theorem OR:Inf Tryz.prog 25 1 24 (.slice none 0 0):=cY (a8)
theorem Lk:Inf Tryz.prog 27 2 48 (.agg #[(.slice none 0 0),(.slice none 0 0)]):=cY (a8)
instance:Agg Tryz.prog 27 2:=fJ rfl Tryz.underlying27 Lk
instance:Und Tryz.prog 28 (.slice 3):=⟨Tryz.underlying28⟩
instance:One Tryz.prog 28:=⟨⟨_,Tryz.underlying28,rfl⟩⟩
theorem tU:Inf Tryz.prog 28 1 24 (.slice none 0 0):=cY (a8)
instance:Inf Tryz.prog 28 1 24 (.slice none 0 0):=tU
instance:Und Tryz.prog 29 (.slice 68):=⟨Tryz.underlying29⟩
instance:One Tryz.prog 29:=⟨⟨_,Tryz.underlying29,rfl⟩⟩
theorem Lj:Inf Tryz.prog 29 1 24 (.slice none 0 0):=cY (a8)
instance:Inf Tryz.prog 29 1 24 (.slice none 0 0):=Lj
instance:Und Tryz.prog 30 (.slice 70):=⟨Tryz.underlying30⟩
instance:One Tryz.prog 30:=⟨⟨_,Tryz.underlying30,rfl⟩⟩
theorem Li:Inf Tryz.prog 30 1 24 (.slice none 0 0):=cY (a8)
instance:Inf Tryz.prog 30 1 24 (.slice none 0 0):=Li
instance:Und Tryz.prog 31 (.slice 5):=⟨Tryz.underlying31⟩
instance:One Tryz.prog 31:=⟨⟨_,Tryz.underlying31,rfl⟩⟩
theorem tT:Inf Tryz.prog 31 1 24 (.slice none 0 0):=cY (a8)
instance:Inf Tryz.prog 31 1 24 (.slice none 0 0):=tT
theorem yF:Inf Tryz.prog 33 6 128 (.agg #[(.slice none 0 0),(.slice none 0 0),(.slice none 0 0),(.bool false),(.slice none 0 0),(.slice none 0 0)]):=cY (a8)
instance:Inf Tryz.prog 33 6 128 (.agg #[(.slice none 0 0),(.slice none 0 0),(.slice none 0 0),(.bool false),(.slice none 0 0),(.slice none 0 0)]):=yF
instance:Agg Tryz.prog 33 6:=fJ rfl Tryz.underlying33 yF
theorem OQ:Inf Tryz.prog 35 9 184 (.agg #[(.slice none 0 0),(.slice none 0 0),(.int .i64 0),(.slice none 0 0),(.slice none 0 0),(.slice none 0 0),(.bool false),(.slice none 0 0),(.slice none 0 0)]):=cY (a8)
instance:Agg Tryz.prog 35 9:=fJ rfl Tryz.underlying35 OQ
instance:Und Tryz.prog 37 (.pointer 83):=⟨Tryz.underlying37⟩
instance:One Tryz.prog 37:=⟨⟨_,Tryz.underlying37,rfl⟩⟩
theorem OP:Inf Tryz.prog 37 1 8 (.pointer none):=cY (a8)
instance:Und Tryz.prog 38 (.slice 112):=⟨Tryz.underlying38⟩
instance:One Tryz.prog 38:=⟨⟨_,Tryz.underlying38,rfl⟩⟩
theorem GG:Inf Tryz.prog 38 1 24 (.slice none 0 0):=cY (a8)
theorem GF:Inf Tryz.prog 40 2 48 (.agg #[(.slice none 0 0),(.slice none 0 0)]):=cY (a8)
instance:Inf Tryz.prog 40 2 48 (.agg #[(.slice none 0 0),(.slice none 0 0)]):=GF
instance:Agg Tryz.prog 40 2:=fJ rfl Tryz.underlying40 GF
instance:Und Tryz.prog 43 (.slice 58):=⟨Tryz.underlying43⟩
instance:One Tryz.prog 43:=⟨⟨_,Tryz.underlying43,rfl⟩⟩
theorem Lh:Inf Tryz.prog 43 1 24 (.slice none 0 0):=cY (a8)
instance:Inf Tryz.prog 43 1 24 (.slice none 0 0):=Lh
theorem GD:Inf Tryz.prog 45 4 48 (.agg #[(.slice none 0 0),(.int .i64 0),(.int .i64 0),(.int .i64 0)]):=cY (a8)
instance:Inf Tryz.prog 45 4 48 (.agg #[(.slice none 0 0),(.int .i64 0),(.int .i64 0),(.int .i64 0)]):=GD
instance:Agg Tryz.prog 45 4:=fJ rfl Tryz.underlying45 GD
instance:Und Tryz.prog 47 (.interface #[("Error",372)]):=⟨Tryz.underlying47⟩
instance:One Tryz.prog 47:=⟨⟨_,Tryz.underlying47,rfl⟩⟩
theorem OO:Inf Tryz.prog 47 1 16 .nilIface:=cY (a8)
instance:Inf Tryz.prog 47 1 16 .nilIface:=OO
instance:Und Tryz.prog 50 (.pointer 91):=⟨Tryz.underlying50⟩
instance:Und Tryz.prog 55 (.int .u64):=⟨Tryz.underlying55⟩
instance:Und Tryz.prog 56 (.int .u64):=⟨Tryz.underlying56⟩
instance:One Tryz.prog 56:=⟨⟨_,Tryz.underlying56,rfl⟩⟩
theorem C8:Inf Tryz.prog 56 1 8 (.int .u64 0):=cY (a8)
instance:Inf Tryz.prog 56 1 8 (.int .u64 0):=C8
theorem GC:Inf Tryz.prog 58 2 16 (.agg #[(.int .i64 0),(.int .u64 0)]):=cY (a8)
instance:Inf Tryz.prog 58 2 16 (.agg #[(.int .i64 0),(.int .u64 0)]):=GC
instance:Agg Tryz.prog 58 2:=fJ rfl Tryz.underlying58 GC
theorem GB:Inf Tryz.prog 68 2 24 (.agg #[(.int .i64 0),(.string ByteArray.empty)]):=cY (a8)
instance:Inf Tryz.prog 68 2 24 (.agg #[(.int .i64 0),(.string ByteArray.empty)]):=GB
instance:Agg Tryz.prog 68 2:=fJ rfl Tryz.underlying68 GB
theorem GA:Inf Tryz.prog 70 3 56 (.agg #[(.slice none 0 0),(.slice none 0 0),(.int .i64 0)]):=cY (a8)
instance:Inf Tryz.prog 70 3 56 (.agg #[(.slice none 0 0),(.slice none 0 0),(.int .i64 0)]):=GA
instance:Agg Tryz.prog 70 3:=fJ rfl Tryz.underlying70 GA
theorem Gz:Inf Tryz.prog 76 2 16 (.agg #[(.int .i64 0),(.int .i64 0)]):=cY (a8)
instance:Inf Tryz.prog 76 2 16 (.agg #[(.int .i64 0),(.int .i64 0)]):=Gz
instance:Agg Tryz.prog 76 2:=fJ rfl Tryz.underlying76 Gz
instance:Und Tryz.prog 80 (.pointer 134):=⟨Tryz.underlying80⟩
instance:One Tryz.prog 80:=⟨⟨_,Tryz.underlying80,rfl⟩⟩
theorem OM:Inf Tryz.prog 80 1 8 (.pointer none):=cY (a8)
instance:Und Tryz.prog 81 (.pointer 191):=⟨Tryz.underlying81⟩
instance:One Tryz.prog 81:=⟨⟨_,Tryz.underlying81,rfl⟩⟩
theorem OL:Inf Tryz.prog 81 1 8 (.pointer none):=cY (a8)
theorem OK:Inf Tryz.prog 83 2 16 (.agg #[(.pointer none),(.pointer none)]):=cY (a8)
instance:One Tryz.prog 84:=⟨⟨_,Tryz.underlying84,rfl⟩⟩
theorem OJ:Inf Tryz.prog 84 1 8 .nilFunc:=cY (a8)
instance:Inf Tryz.prog 84 1 8 .nilFunc:=OJ
instance:Und Tryz.prog 85 (.array 17 84):=⟨Tryz.underlying85⟩
theorem Gy:Inf Tryz.prog 85 17 136 (.agg #[.nilFunc, .nilFunc, .nilFunc, .nilFunc, .nilFunc, .nilFunc, .nilFunc, .nilFunc, .nilFunc, .nilFunc, .nilFunc, .nilFunc, .nilFunc, .nilFunc, .nilFunc, .nilFunc, .nilFunc]):=cY (a8)
instance:Inf Tryz.prog 85 17 136 (.agg #[.nilFunc, .nilFunc, .nilFunc, .nilFunc, .nilFunc, .nilFunc, .nilFunc, .nilFunc, .nilFunc, .nilFunc, .nilFunc, .nilFunc, .nilFunc, .nilFunc, .nilFunc, .nilFunc, .nilFunc]):=Gy
instance:Agg Tryz.prog 85 17:=fJ rfl Tryz.underlying85 Gy
instance:Und Tryz.prog 87 (.slice 136):=⟨Tryz.underlying87⟩
instance:One Tryz.prog 87:=⟨⟨_,Tryz.underlying87,rfl⟩⟩
theorem Lg:Inf Tryz.prog 87 1 24 (.slice none 0 0):=cY (a8)
instance:Inf Tryz.prog 87 1 24 (.slice none 0 0):=Lg
instance:Und Tryz.prog 88 (.slice 94):=⟨Tryz.underlying88⟩
instance:One Tryz.prog 88:=⟨⟨_,Tryz.underlying88,rfl⟩⟩
theorem Lf:Inf Tryz.prog 88 1 24 (.slice none 0 0):=cY (a8)
instance:Inf Tryz.prog 88 1 24 (.slice none 0 0):=Lf
instance:Und Tryz.prog 89 (.slice 97):=⟨Tryz.underlying89⟩
instance:One Tryz.prog 89:=⟨⟨_,Tryz.underlying89,rfl⟩⟩
theorem Le:Inf Tryz.prog 89 1 24 (.slice none 0 0):=cY (a8)
instance:Inf Tryz.prog 89 1 24 (.slice none 0 0):=Le
theorem OI:Inf Tryz.prog 91 31 376 (.agg #[(.slice none 0 0),(.slice none 0 0),(.slice none 0 0),(.bool false),(.slice none 0 0),(.slice none 0 0),(.slice none 0 0),(.pointer none),(.slice none 0 0), .nilFunc, .nilFunc, .nilFunc, .nilFunc, .nilFunc, .nilFunc, .nilFunc, .nilFunc, .nilFunc, .nilFunc, .nilFunc, .nilFunc, .nilFunc, .nilFunc, .nilFunc, .nilFunc, .nilFunc,(.slice none 0 0),(.int .i64 0),(.int .i64 0),(.int .i64 0),(.int .i64 0)]):=cY (a8)
instance:One Tryz.prog 94:=⟨⟨_,Tryz.underlying94,rfl⟩⟩
theorem OH:Inf Tryz.prog 94 1 8 (.pointer none):=cY (a8)
instance:Inf Tryz.prog 94 1 8 (.pointer none):=OH
theorem Gx:Inf Tryz.prog 97 2 16 (.agg #[(.bool false),(.int .u64 0)]):=cY (a8)
instance:Inf Tryz.prog 97 2 16 (.agg #[(.bool false),(.int .u64 0)]):=Gx
instance:Agg Tryz.prog 97 2:=fJ rfl Tryz.underlying97 Gx
theorem GO:Inf Tryz.prog 103 2 16 (.agg #[(.int .i64 0),(.int .i64 0)]):=cY (a8)
instance:Und Tryz.prog 104 (.pointer 258):=⟨Tryz.underlying104⟩
instance:One Tryz.prog 104:=⟨⟨_,Tryz.underlying104,rfl⟩⟩
theorem Ni:Inf Tryz.prog 104 1 8 (.pointer none):=cY (a8)
instance:Und Tryz.prog 105 (.slice 250):=⟨Tryz.underlying105⟩
instance:One Tryz.prog 105:=⟨⟨_,Tryz.underlying105,rfl⟩⟩
theorem GN:Inf Tryz.prog 105 1 24 (.slice none 0 0):=cY (a8)
instance:Inf Tryz.prog 105 1 24 (.slice none 0 0):=GN
theorem Nh:Inf Tryz.prog 107 7 72 (.agg #[(.int .i64 0),(.int .i64 0),(.pointer none),(.int .i64 0),(.int .i64 0),(.slice none 0 0),(.bool false)]):=cY (a8)
theorem AQ:Inf Tryz.prog 109 5 32 (.agg #[(.string ByteArray.empty),(.int .i64 0),(.bool false),(.bool false),(.bool false)]):=cY (a8)
instance:Inf Tryz.prog 109 5 32 (.agg #[(.string ByteArray.empty),(.int .i64 0),(.bool false),(.bool false),(.bool false)]):=AQ
instance:Agg Tryz.prog 109 5:=fJ rfl Tryz.underlying109 AQ
instance:Und Tryz.prog 110 (.slice 167):=⟨Tryz.underlying110⟩
instance:One Tryz.prog 110:=⟨⟨_,Tryz.underlying110,rfl⟩⟩
theorem GM:Inf Tryz.prog 110 1 24 (.slice none 0 0):=cY (a8)
instance:Inf Tryz.prog 110 1 24 (.slice none 0 0):=GM
theorem AP:Inf Tryz.prog 112 2 32 (.agg #[(.int .i64 0),(.slice none 0 0)]):=cY (a8)
instance:Inf Tryz.prog 112 2 32 (.agg #[(.int .i64 0),(.slice none 0 0)]):=AP
instance:Agg Tryz.prog 112 2:=fJ rfl Tryz.underlying112 AP
instance:Und Tryz.prog 131 (.slice 28):=⟨Tryz.underlying131⟩
instance:One Tryz.prog 131:=⟨⟨_,Tryz.underlying131,rfl⟩⟩
theorem GL:Inf Tryz.prog 131 1 24 (.slice none 0 0):=cY (a8)
instance:One Tryz.prog 132:=⟨⟨_,Tryz.underlying132,rfl⟩⟩
theorem GK:Inf Tryz.prog 132 1 8 (.pointer none):=cY (a8)
instance:Inf Tryz.prog 132 1 8 (.pointer none):=GK
theorem Ng:Inf Tryz.prog 134 6 128 (.agg #[(.slice none 0 0),(.slice none 0 0),(.slice none 0 0),(.pointer none),(.slice none 0 0),(.slice none 0 0)]):=cY (a8)
theorem AO:Inf Tryz.prog 136 3 24 (.agg #[(.int .i64 0),(.int .u64 0),(.int .u64 0)]):=cY (a8)
instance:Inf Tryz.prog 136 3 24 (.agg #[(.int .i64 0),(.int .u64 0),(.int .u64 0)]):=AO
instance:Agg Tryz.prog 136 3:=fJ rfl Tryz.underlying136 AO
theorem GJ:Inf Tryz.prog 145 2 16 (.agg #[(.int .i64 0),(.int .i64 0)]):=cY (a8)
theorem Nf:Inf Tryz.prog 147 3 40 (.agg #[(.int .i64 0),(.int .i64 0),(.slice none 0 0)]):=cY (a8)
instance:One Tryz.prog 150:=⟨⟨_,Tryz.underlying150,rfl⟩⟩
theorem Nd:Inf Tryz.prog 150 1 8 (.pointer none):=cY (a8)
instance:Inf Tryz.prog 150 1 8 (.pointer none):=Nd
instance:Und Tryz.prog 151 (.slice 150):=⟨Tryz.underlying151⟩
theorem AN:Inf Tryz.prog 158 5 48 (.agg #[(.string ByteArray.empty),(.int .i64 0),(.int .i64 0),(.int .i64 0),(.int .i64 0)]):=cY (a8)
instance:Inf Tryz.prog 158 5 48 (.agg #[(.string ByteArray.empty),(.int .i64 0),(.int .i64 0),(.int .i64 0),(.int .i64 0)]):=AN
instance:Agg Tryz.prog 158 5:=fJ rfl Tryz.underlying158 AN
theorem AM:Inf Tryz.prog 167 2 32 (.agg #[(.string ByteArray.empty),(.string ByteArray.empty)]):=cY (a8)
instance:Inf Tryz.prog 167 2 32 (.agg #[(.string ByteArray.empty),(.string ByteArray.empty)]):=AM
instance:Agg Tryz.prog 167 2:=fJ rfl Tryz.underlying167 AM
instance:Und Tryz.prog 175 (.slice 181):=⟨Tryz.underlying175⟩
theorem AL:Inf Tryz.prog 181 2 32 (.agg #[(.int .u8 0),(.slice none 0 0)]):=cY (a8)
instance:Inf Tryz.prog 181 2 32 (.agg #[(.int .u8 0),(.slice none 0 0)]):=AL
instance:Agg Tryz.prog 181 2:=fJ rfl Tryz.underlying181 AL
instance:Und Tryz.prog 185 (.map 9 105):=⟨Tryz.underlying185⟩
instance:One Tryz.prog 185:=⟨⟨_,Tryz.underlying185,rfl⟩⟩
theorem Nc:Inf Tryz.prog 185 1 8 (.map none):=cY (a8)
theorem Nb:Inf Tryz.prog 187 4 80 (.agg #[(.slice none 0 0),(.slice none 0 0),(.slice none 0 0),(.map none)]):=cY (a8)
instance:Und Tryz.prog 189 (.slice 56):=⟨Tryz.underlying189⟩
instance:One Tryz.prog 189:=⟨⟨_,Tryz.underlying189,rfl⟩⟩
theorem Na:Inf Tryz.prog 189 1 24 (.slice none 0 0):=cY (a8)
theorem N9:Inf Tryz.prog 191 3 40 (.agg #[(.int .i64 0),(.int .i64 0),(.slice none 0 0)]):=cY (a8)
theorem N8:Inf Tryz.prog 206 2 24 (.agg #[(.string ByteArray.empty),(.int .i64 0)]):=cY (a8)
instance:Inf Tryz.prog 206 2 24 (.agg #[(.string ByteArray.empty),(.int .i64 0)]):=N8
instance:Und Tryz.prog 207 (.array 17 206):=⟨Tryz.underlying207⟩
instance:Und Tryz.prog 210 (.slice 158):=⟨Tryz.underlying210⟩
instance:One Tryz.prog 210:=⟨⟨_,Tryz.underlying210,rfl⟩⟩
theorem N7:Inf Tryz.prog 210 1 24 (.slice none 0 0):=cY (a8)
theorem N6:Inf Tryz.prog 212 1 24 (.agg #[(.slice none 0 0)]):=cY (a8)
instance:Und Tryz.prog 218 (.map 9 3):=⟨Tryz.underlying218⟩
instance:Und Tryz.prog 221 (.slice 224):=⟨Tryz.underlying221⟩
theorem AK:Inf Tryz.prog 224 5 48 (.agg #[(.string ByteArray.empty),(.int .i64 0),(.int .i64 0),(.int .i64 0),(.int .i64 0)]):=cY (a8)
instance:Inf Tryz.prog 224 5 48 (.agg #[(.string ByteArray.empty),(.int .i64 0),(.int .i64 0),(.int .i64 0),(.int .i64 0)]):=AK
instance:Agg Tryz.prog 224 5:=fJ rfl Tryz.underlying224 AK
instance:Und Tryz.prog 233 (.slice 31):=⟨Tryz.underlying233⟩
instance:Und Tryz.prog 235 (.int .u32):=⟨Tryz.underlying235⟩
instance:One Tryz.prog 235:=⟨⟨_,Tryz.underlying235,rfl⟩⟩
theorem N5:Inf Tryz.prog 235 1 4 (.int .u32 0):=cY (a8)
instance:Inf Tryz.prog 235 1 4 (.int .u32 0):=N5
theorem AJ:Inf Tryz.prog 250 2 32 (.agg #[(.int .i64 0),(.slice none 0 0)]):=cY (a8)
instance:Inf Tryz.prog 250 2 32 (.agg #[(.int .i64 0),(.slice none 0 0)]):=AJ
instance:Agg Tryz.prog 250 2:=fJ rfl Tryz.underlying250 AJ
instance:Und Tryz.prog 256 (.slice 260):=⟨Tryz.underlying256⟩
instance:One Tryz.prog 256:=⟨⟨_,Tryz.underlying256,rfl⟩⟩
theorem GI:Inf Tryz.prog 256 1 24 (.slice none 0 0):=cY (a8)
instance:Inf Tryz.prog 256 1 24 (.slice none 0 0):=GI
theorem N4:Inf Tryz.prog 258 4 64 (.agg #[(.slice none 0 0),(.int .i64 0),(.int .i64 0),(.slice none 0 0)]):=cY (a8)
theorem AI:Inf Tryz.prog 260 4 32 (.agg #[(.int .i64 0),(.int .i64 0),(.int .i64 0),(.int .i64 0)]):=cY (a8)
instance:Inf Tryz.prog 260 4 32 (.agg #[(.int .i64 0),(.int .i64 0),(.int .i64 0),(.int .i64 0)]):=AI
instance:Agg Tryz.prog 260 4:=fJ rfl Tryz.underlying260 AI
instance:Und Tryz.prog 271 (.slice 9):=⟨Tryz.underlying271⟩
instance:One Tryz.prog 271:=⟨⟨_,Tryz.underlying271,rfl⟩⟩
theorem N3:Inf Tryz.prog 271 1 24 (.slice none 0 0):=cY (a8)
theorem N0:Inf Tryz.prog 277 1 24 (.agg #[(.slice none 0 0)]):=cY (a8)
instance:Und Tryz.prog 283 (.array 16 235):=⟨Tryz.underlying283⟩
instance:Und Tryz.prog 294 (.slice 325):=⟨Tryz.underlying294⟩
instance:Und Tryz.prog 303 (.array 4 3):=⟨Tryz.underlying303⟩
theorem GH:Inf Tryz.prog 303 4 32 (.agg #[(.int .i64 0),(.int .i64 0),(.int .i64 0),(.int .i64 0)]):=cY (a8)
instance:Inf Tryz.prog 303 4 32 (.agg #[(.int .i64 0),(.int .i64 0),(.int .i64 0),(.int .i64 0)]):=GH
instance:Agg Tryz.prog 303 4:=fJ rfl Tryz.underlying303 GH
instance:One Tryz.prog 309:=⟨⟨_,Tryz.underlying309,rfl⟩⟩
theorem MZ:Inf Tryz.prog 309 1 8 (.pointer none):=cY (a8)
instance:Inf Tryz.prog 309 1 8 (.pointer none):=MZ
instance:Und Tryz.prog 310 (.slice 309):=⟨Tryz.underlying310⟩
theorem MW:Inf Tryz.prog 319 0 0 (.agg #[]):=cY (a8)
theorem MV:Inf Tryz.prog 322 1 24 (.agg #[(.slice none 0 0)]):=cY (a8)
theorem MU:Inf Tryz.prog 323 0 0 (.agg #[]):=cY (a8)
instance:One Tryz.prog 325:=⟨⟨_,Tryz.underlying325,rfl⟩⟩
theorem MT:Inf Tryz.prog 325 1 16 .nilIface:=cY (a8)
instance:Inf Tryz.prog 325 1 16 .nilIface:=MT
instance:Und Tryz.prog 327 (.array 8 5):=⟨Tryz.underlying327⟩
theorem MR:Inf Tryz.prog 327 8 8 (.agg #[(.int .u8 0),(.int .u8 0),(.int .u8 0),(.int .u8 0),(.int .u8 0),(.int .u8 0),(.int .u8 0),(.int .u8 0)]):=cY (a8)
instance:Inf Tryz.prog 327 8 8 (.agg #[(.int .u8 0),(.int .u8 0),(.int .u8 0),(.int .u8 0),(.int .u8 0),(.int .u8 0),(.int .u8 0),(.int .u8 0)]):=MR
instance:Und Tryz.prog 393 (.slice 4):=⟨Tryz.underlying393⟩
theorem MQ:Inf Tryz.prog 396 1 16 (.agg #[(.string ByteArray.empty)]):=cY (a8)
instance:Inf Tryz.prog 396 1 16 (.agg #[(.string ByteArray.empty)]):=MQ
instance:Fld Tryz.prog 24 0 0:=cR Tryz.underlying24 rfl Ll (ag)
instance:Str Tryz.prog 24 [(0,1)] [(.slice none 0 0)]:=dZ Tryz.underlying24 vB (fun _=> a8) rfl
instance:Fld Tryz.prog 27 0 0:=cR Tryz.underlying27 rfl vB (ag)
instance:Fld Tryz.prog 27 1 1:=cR Tryz.underlying27 rfl OR (ag)
instance:Fld Tryz.prog 33 0 0:=cR Tryz.underlying33 rfl tU (ag)
instance:Fld Tryz.prog 33 1 1:=cR Tryz.underlying33 rfl Lj (ag)
instance:Fld Tryz.prog 33 2 2:=cR Tryz.underlying33 rfl Li (ag)
instance:Fld Tryz.prog 33 3 3:=cR Tryz.underlying33 rfl AH (ag)
instance:Fld Tryz.prog 33 4 4:=cR Tryz.underlying33 rfl tU (ag)
instance:Fld Tryz.prog 33 5 5:=cR Tryz.underlying33 rfl tT (ag)
instance:Str Tryz.prog 33 [(0,1),(1,1),(2,1),(3,1),(4,1),(5,1)] [(.slice none 0 0),(.slice none 0 0),(.slice none 0 0),(.bool false),(.slice none 0 0),(.slice none 0 0)]:=dZ Tryz.underlying33 yF (fun _=> a8) rfl
instance:Fld Tryz.prog 35 0 0:=cR Tryz.underlying35 rfl Lk (ag)
instance:Fld Tryz.prog 35 1 2:=cR Tryz.underlying35 rfl gI (ag)
instance:Fld Tryz.prog 35 2 3:=cR Tryz.underlying35 rfl yF (ag)
instance:Fld Tryz.prog 40 0 0:=cR Tryz.underlying40 rfl GG (ag)
instance:Fld Tryz.prog 40 1 1:=cR Tryz.underlying40 rfl tU (ag)
instance:Str Tryz.prog 40 [(0,1),(1,1)] [(.slice none 0 0),(.slice none 0 0)]:=dZ Tryz.underlying40 GF (fun _=> a8) rfl
instance:Fld Tryz.prog 45 0 0:=cR Tryz.underlying45 rfl Lh (ag)
instance:Fld Tryz.prog 45 1 1:=cR Tryz.underlying45 rfl gI (ag)
instance:Fld Tryz.prog 45 2 2:=cR Tryz.underlying45 rfl gI (ag)
instance:Fld Tryz.prog 45 3 3:=cR Tryz.underlying45 rfl gI (ag)
instance:Str Tryz.prog 45 [(0,1),(1,1),(2,1),(3,1)] [(.slice none 0 0),(.int .i64 0),(.int .i64 0),(.int .i64 0)]:=dZ Tryz.underlying45 GD (fun _=> a8) rfl
instance:Str Tryz.prog 58 [(0,1),(1,1)] [(.int .i64 0),(.int .u64 0)]:=dZ Tryz.underlying58 GC (fun _=> a8) rfl
instance:Fld Tryz.prog 68 0 0:=cR Tryz.underlying68 rfl gI (ag)
instance:Fld Tryz.prog 68 1 1:=cR Tryz.underlying68 rfl AG (ag)
instance:Str Tryz.prog 68 [(0,1),(1,1)] [(.int .i64 0),(.string ByteArray.empty)]:=dZ Tryz.underlying68 GB (fun _=> a8) rfl
instance:Fld Tryz.prog 70 0 0:=cR Tryz.underlying70 rfl tU (ag)
instance:Fld Tryz.prog 70 1 1:=cR Tryz.underlying70 rfl tU (ag)
instance:Fld Tryz.prog 70 2 2:=cR Tryz.underlying70 rfl gI (ag)
instance:Str Tryz.prog 70 [(0,1),(1,1),(2,1)] [(.slice none 0 0),(.slice none 0 0),(.int .i64 0)]:=dZ Tryz.underlying70 GA (fun _=> a8) rfl
instance:Str Tryz.prog 76 [(0,1),(1,1)] [(.int .i64 0),(.int .i64 0)]:=dZ Tryz.underlying76 Gz (fun _=> a8) rfl
instance:Fld Tryz.prog 83 0 0:=cR Tryz.underlying83 rfl OM (ag)
instance:Fld Tryz.prog 83 1 1:=cR Tryz.underlying83 rfl OL (ag)
instance:Str Tryz.prog 83 [(0,1),(1,1)] [(.pointer none),(.pointer none)]:=dZ Tryz.underlying83 OK (fun _=> a8) rfl
instance:Fld Tryz.prog 91 0 0:=cR Tryz.underlying91 rfl yF (ag)
instance:Fld Tryz.prog 91 1 6:=cR Tryz.underlying91 rfl Lg (ag)
instance:Fld Tryz.prog 91 2 7:=cR Tryz.underlying91 rfl OP (ag)
instance:Fld Tryz.prog 91 3 8:=cR Tryz.underlying91 rfl Lf (ag)
instance:Fld Tryz.prog 91 4 9:=cR Tryz.underlying91 rfl Gy (ag)
instance:Fld Tryz.prog 91 5 26:=cR Tryz.underlying91 rfl Le (ag)
instance:Fld Tryz.prog 91 6 27:=cR Tryz.underlying91 rfl gI (ag)
instance:Fld Tryz.prog 91 7 28:=cR Tryz.underlying91 rfl gI (ag)
instance:Fld Tryz.prog 91 8 29:=cR Tryz.underlying91 rfl gI (ag)
instance:Fld Tryz.prog 91 9 30:=cR Tryz.underlying91 rfl gI (ag)
instance:Str Tryz.prog 91 [(0,6),(6,1),(7,1),(8,1),(9,17),(26,1),(27,1),(28,1),(29,1),(30,1)] [(.slice none 0 0),(.slice none 0 0),(.slice none 0 0),(.bool false),(.slice none 0 0),(.slice none 0 0),(.slice none 0 0),(.pointer none),(.slice none 0 0), .nilFunc, .nilFunc, .nilFunc, .nilFunc, .nilFunc, .nilFunc, .nilFunc, .nilFunc, .nilFunc, .nilFunc, .nilFunc, .nilFunc, .nilFunc, .nilFunc, .nilFunc, .nilFunc, .nilFunc,(.slice none 0 0),(.int .i64 0),(.int .i64 0),(.int .i64 0),(.int .i64 0)]:=dZ Tryz.underlying91 OI (fun _=> a8) rfl
instance:Fld Tryz.prog 97 0 0:=cR Tryz.underlying97 rfl AH (ag)
instance:Fld Tryz.prog 97 1 1:=cR Tryz.underlying97 rfl C8 (ag)
instance:Str Tryz.prog 97 [(0,1),(1,1)] [(.bool false),(.int .u64 0)]:=dZ Tryz.underlying97 Gx (fun _=> a8) rfl
instance:Fld Tryz.prog 103 0 0:=cR Tryz.underlying103 rfl gI (ag)
instance:Fld Tryz.prog 103 1 1:=cR Tryz.underlying103 rfl gI (ag)
instance:Str Tryz.prog 103 [(0,1),(1,1)] [(.int .i64 0),(.int .i64 0)]:=dZ Tryz.underlying103 GO (fun _=> a8) rfl
instance:Fld Tryz.prog 107 0 0:=cR Tryz.underlying107 rfl GO (ag)
instance:Fld Tryz.prog 107 1 2:=cR Tryz.underlying107 rfl Ni (ag)
instance:Fld Tryz.prog 107 2 3:=cR Tryz.underlying107 rfl gI (ag)
instance:Fld Tryz.prog 107 3 4:=cR Tryz.underlying107 rfl gI (ag)
instance:Fld Tryz.prog 107 4 5:=cR Tryz.underlying107 rfl GN (ag)
instance:Fld Tryz.prog 107 5 6:=cR Tryz.underlying107 rfl AH (ag)
instance:Str Tryz.prog 107 [(0,2),(2,1),(3,1),(4,1),(5,1),(6,1)] [(.int .i64 0),(.int .i64 0),(.pointer none),(.int .i64 0),(.int .i64 0),(.slice none 0 0),(.bool false)]:=dZ Tryz.underlying107 Nh (fun _=> a8) rfl
instance:Fld Tryz.prog 109 0 0:=cR Tryz.underlying109 rfl AG (ag)
instance:Fld Tryz.prog 109 1 1:=cR Tryz.underlying109 rfl gI (ag)
instance:Fld Tryz.prog 109 2 2:=cR Tryz.underlying109 rfl AH (ag)
instance:Fld Tryz.prog 109 3 3:=cR Tryz.underlying109 rfl AH (ag)
instance:Fld Tryz.prog 109 4 4:=cR Tryz.underlying109 rfl AH (ag)
instance:Str Tryz.prog 109 [(0,1),(1,1),(2,1),(3,1),(4,1)] [(.string ByteArray.empty),(.int .i64 0),(.bool false),(.bool false),(.bool false)]:=dZ Tryz.underlying109 AQ (fun _=> a8) rfl
instance:Fld Tryz.prog 112 0 0:=cR Tryz.underlying112 rfl gI (ag)
instance:Fld Tryz.prog 112 1 1:=cR Tryz.underlying112 rfl GM (ag)
instance:Str Tryz.prog 112 [(0,1),(1,1)] [(.int .i64 0),(.slice none 0 0)]:=dZ Tryz.underlying112 AP (fun _=> a8) rfl
instance:Fld Tryz.prog 134 0 0:=cR Tryz.underlying134 rfl vB (ag)
instance:Fld Tryz.prog 134 1 1:=cR Tryz.underlying134 rfl GG (ag)
instance:Fld Tryz.prog 134 2 2:=cR Tryz.underlying134 rfl GL (ag)
instance:Fld Tryz.prog 134 3 3:=cR Tryz.underlying134 rfl GK (ag)
instance:Fld Tryz.prog 134 4 4:=cR Tryz.underlying134 rfl tT (ag)
instance:Str Tryz.prog 134 [(0,1),(1,1),(2,1),(3,1),(4,1),(5,1)] [(.slice none 0 0),(.slice none 0 0),(.slice none 0 0),(.pointer none),(.slice none 0 0),(.slice none 0 0)]:=dZ Tryz.underlying134 Ng (fun _=> a8) rfl
instance:Fld Tryz.prog 136 0 0:=cR Tryz.underlying136 rfl gI (ag)
instance:Fld Tryz.prog 136 1 1:=cR Tryz.underlying136 rfl C8 (ag)
instance:Fld Tryz.prog 136 2 2:=cR Tryz.underlying136 rfl C8 (ag)
instance:Str Tryz.prog 136 [(0,1),(1,1),(2,1)] [(.int .i64 0),(.int .u64 0),(.int .u64 0)]:=dZ Tryz.underlying136 AO (fun _=> a8) rfl
instance:Fld Tryz.prog 145 0 0:=cR Tryz.underlying145 rfl gI (ag)
instance:Fld Tryz.prog 145 1 1:=cR Tryz.underlying145 rfl gI (ag)
instance:Str Tryz.prog 145 [(0,1),(1,1)] [(.int .i64 0),(.int .i64 0)]:=dZ Tryz.underlying145 GJ (fun _=> a8) rfl
instance:Fld Tryz.prog 147 0 0:=cR Tryz.underlying147 rfl GJ (ag)
instance:Fld Tryz.prog 147 1 2:=cR Tryz.underlying147 rfl tT (ag)
instance:Str Tryz.prog 147 [(0,2),(2,1)] [(.int .i64 0),(.int .i64 0),(.slice none 0 0)]:=dZ Tryz.underlying147 Nf (fun _=> a8) rfl
instance:Fld Tryz.prog 158 0 0:=cR Tryz.underlying158 rfl AG (ag)
instance:Fld Tryz.prog 158 1 1:=cR Tryz.underlying158 rfl gI (ag)
instance:Fld Tryz.prog 158 2 2:=cR Tryz.underlying158 rfl gI (ag)
instance:Fld Tryz.prog 158 3 3:=cR Tryz.underlying158 rfl gI (ag)
instance:Fld Tryz.prog 158 4 4:=cR Tryz.underlying158 rfl gI (ag)
instance:Str Tryz.prog 158 [(0,1),(1,1),(2,1),(3,1),(4,1)] [(.string ByteArray.empty),(.int .i64 0),(.int .i64 0),(.int .i64 0),(.int .i64 0)]:=dZ Tryz.underlying158 AN (fun _=> a8) rfl
instance:Fld Tryz.prog 167 0 0:=cR Tryz.underlying167 rfl AG (ag)
instance:Fld Tryz.prog 167 1 1:=cR Tryz.underlying167 rfl AG (ag)
instance:Str Tryz.prog 167 [(0,1),(1,1)] [(.string ByteArray.empty),(.string ByteArray.empty)]:=dZ Tryz.underlying167 AM (fun _=> a8) rfl
instance:Fld Tryz.prog 181 0 0:=cR Tryz.underlying181 rfl ON (ag)
instance:Fld Tryz.prog 181 1 1:=cR Tryz.underlying181 rfl tT (ag)
instance:Str Tryz.prog 181 [(0,1),(1,1)] [(.int .u8 0),(.slice none 0 0)]:=dZ Tryz.underlying181 AL (fun _=> a8) rfl
instance:Fld Tryz.prog 187 0 0:=cR Tryz.underlying187 rfl vB (ag)
instance:Fld Tryz.prog 187 1 1:=cR Tryz.underlying187 rfl GG (ag)
instance:Fld Tryz.prog 187 2 2:=cR Tryz.underlying187 rfl GL (ag)
instance:Fld Tryz.prog 187 3 3:=cR Tryz.underlying187 rfl Nc (ag)
instance:Str Tryz.prog 187 [(0,1),(1,1),(2,1),(3,1)] [(.slice none 0 0),(.slice none 0 0),(.slice none 0 0),(.map none)]:=dZ Tryz.underlying187 Nb (fun _=> a8) rfl
instance:Fld Tryz.prog 191 0 0:=cR Tryz.underlying191 rfl gI (ag)
instance:Fld Tryz.prog 191 1 1:=cR Tryz.underlying191 rfl gI (ag)
instance:Fld Tryz.prog 191 2 2:=cR Tryz.underlying191 rfl Na (ag)
instance:Str Tryz.prog 191 [(0,1),(1,1),(2,1)] [(.int .i64 0),(.int .i64 0),(.slice none 0 0)]:=dZ Tryz.underlying191 N9 (fun _=> a8) rfl
instance:Fld Tryz.prog 206 1 1:=cR Tryz.underlying206 rfl gI (ag)
instance:Fld Tryz.prog 212 0 0:=cR Tryz.underlying212 rfl N7 (ag)
instance:Str Tryz.prog 212 [(0,1)] [(.slice none 0 0)]:=dZ Tryz.underlying212 N6 (fun _=> a8) rfl
instance:Fld Tryz.prog 224 0 0:=cR Tryz.underlying224 rfl AG (ag)
instance:Fld Tryz.prog 224 1 1:=cR Tryz.underlying224 rfl gI (ag)
instance:Fld Tryz.prog 224 2 2:=cR Tryz.underlying224 rfl gI (ag)
instance:Str Tryz.prog 224 [(0,1),(1,1),(2,1),(3,1),(4,1)] [(.string ByteArray.empty),(.int .i64 0),(.int .i64 0),(.int .i64 0),(.int .i64 0)]:=dZ Tryz.underlying224 AK (fun _=> a8) rfl
instance:Fld Tryz.prog 250 0 0:=cR Tryz.underlying250 rfl gI (ag)
instance:Fld Tryz.prog 250 1 1:=cR Tryz.underlying250 rfl tU (ag)
instance:Str Tryz.prog 250 [(0,1),(1,1)] [(.int .i64 0),(.slice none 0 0)]:=dZ Tryz.underlying250 AJ (fun _=> a8) rfl
instance:Fld Tryz.prog 258 0 0:=cR Tryz.underlying258 rfl tT (ag)
instance:Fld Tryz.prog 258 1 1:=cR Tryz.underlying258 rfl gI (ag)
instance:Fld Tryz.prog 258 2 2:=cR Tryz.underlying258 rfl gI (ag)
instance:Fld Tryz.prog 258 3 3:=cR Tryz.underlying258 rfl GI (ag)
instance:Str Tryz.prog 258 [(0,1),(1,1),(2,1),(3,1)] [(.slice none 0 0),(.int .i64 0),(.int .i64 0),(.slice none 0 0)]:=dZ Tryz.underlying258 N4 (fun _=> a8) rfl
instance:Fld Tryz.prog 260 0 0:=cR Tryz.underlying260 rfl gI (ag)
instance:Fld Tryz.prog 260 1 1:=cR Tryz.underlying260 rfl gI (ag)
instance:Fld Tryz.prog 260 2 2:=cR Tryz.underlying260 rfl gI (ag)
instance:Fld Tryz.prog 260 3 3:=cR Tryz.underlying260 rfl gI (ag)
instance:Str Tryz.prog 260 [(0,1),(1,1),(2,1),(3,1)] [(.int .i64 0),(.int .i64 0),(.int .i64 0),(.int .i64 0)]:=dZ Tryz.underlying260 AI (fun _=> a8) rfl
instance:Fld Tryz.prog 277 0 0:=cR Tryz.underlying277 rfl tT (ag)
instance:Str Tryz.prog 277 [(0,1)] [(.slice none 0 0)]:=dZ Tryz.underlying277 N0 (fun _=> a8) rfl
instance:Fld Tryz.prog 322 0 0:=cR Tryz.underlying322 rfl N3 (ag)
instance:Str Tryz.prog 322 [(0,1)] [(.slice none 0 0)]:=dZ Tryz.underlying322 MV (fun _=> a8) rfl
end Go.Sx
