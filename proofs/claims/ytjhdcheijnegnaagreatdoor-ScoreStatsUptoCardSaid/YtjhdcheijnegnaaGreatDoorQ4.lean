import Derived.Test.YtjhdcheijnegnaaGreatDoorQ3
import Derived.Test.YtjhdcheijnegnaaGreatDoorProg
import Derived.KernelRfl
import Derived.MapKept
set_option linter.all false
set_option maxHeartbeats 0
namespace Go.Sx
open Go Go.Proofs Tryz
section
variable {P:Program}{T:TypeId}{b s:Nat}{fs:Array Field}{z:Value}
theorem dh (h:(P.info? T).map (λi=>(i.size,i.bytes,i.zero))=some (s,b,some z)):Inf P T s b z:=by
 cases hi:P.info? T with
 |none=>rw[hi]at h;cases h
 |some i=>rw[hi]at h;simp only[Vd,Option.some.injEq,Prod.mk.injEq]at h;exact⟨⟨i,hi,h.1,h.2.1,h.2.2⟩⟩
theorem js {d:TypeDesc}(hm:(match d with| .struct _| .array _ _=>true|_=>false)=true) (hd:P.underlying T=some d) (h:Inf P T s b z):Agg P T s:=by
 obtain⟨i,h1,h2,_⟩:=h.out;exact⟨⟨d,i,hd,hm,h1,h2⟩⟩
theorem da {ty:TypeId}{k off:Nat}(hd:P.underlying T=some (.struct fs)) (hf:(fs[k]?).map (λf=>(f.offset,f.type))=some (off,ty)) (h:Inf P ty s b z) (hs:s≠0):Fld P T k off:=by
 obtain⟨i,h1,h2,_⟩:=h.out;cases hk:fs[k]? with
 |none=>rw[hk]at hf;cases hf
 |some f=>
  rw[hk]at hf;simp only[Vd,Option.some.injEq,Prod.mk.injEq]at hf;exact⟨⟨fs,f,i,hd,hk,hf.1,by rw[hf.2];exact h1,by rw[h2];exact hs⟩⟩
theorem fh {a:List (Nat×Nat)}{zs:List Value}(hd:P.underlying T=some (.struct fs)) (h:Inf P T s b z) (hp:∀w,(fs.mapM fun(f:Field)=>(do pure (f.offset,←sizeOf f.type):Sem (Nat×Nat))).run P w=.ok a.toArray w) (c:z.cells=zs.toArray):Str P T a zs:=by
 obtain⟨i,h1,_,_,h4⟩:=h.out;exact⟨⟨fs,i,z,hd,hp,h1,h4,c⟩⟩
theorem cN:prog.follows .mixedOrders=true:=aa
instance {G:cJ}{H:cG} [Glb G H]:cY H 11 [G.err 0]:=gK 0
instance {G:cJ}{H:cG} [Glb G H]:cY H 8 [G.err 1]:=gK 1
instance {G:cJ}{H:cG} [Glb G H]:cY H 1 [G.err 2]:=gK 2
instance {G:cJ}{H:cG} [Glb G H]:cY H 2 [G.err 3]:=gK 3
instance {G:cJ}{H:cG} [Glb G H]:cY H 3 [G.err 4]:=gK 4
instance {G:cJ}{H:cG} [Glb G H]:cY H 4 [G.err 5]:=gK 5
instance {G:cJ}{H:cG} [Glb G H]:cY H 5 [G.err 6]:=gK 6
instance {G:cJ}{H:cG} [Glb G H]:cY H 6 [G.err 7]:=gK 7
instance {G:cJ}{H:cG} [Glb G H]:cY H 7 [G.err 8]:=gK 8
instance {G:cJ}{H:cG} [Glb G H]:cY H 9 [G.err 9]:=gK 9
instance {G:cJ}{H:cG} [Glb G H]:cY H 10 [G.err 10]:=gK 10
instance {G:cJ}{H:cG} [Glb G H]:cY H 12 [G.err 11]:=gK 11
instance {G:cJ}{H:cG} [Glb G H]:cY H 0 [G.err 12]:=gK 12
instance:Und prog 2 (.int .i64):=⟨underlying2⟩
instance:Und prog 3 (.int .i64):=⟨underlying3⟩
instance:One prog 3:=⟨⟨_,underlying3,rfl⟩⟩
instance jX:Inf prog 3 1 8 (.int .i64 0):=dh (aa)
instance:Und prog 4 .bool:=⟨underlying4⟩
instance:One prog 4:=⟨⟨_,underlying4,rfl⟩⟩
instance CL:Inf prog 4 1 1 (.bool false):=dh (aa)
instance:Und prog 5 (.int .u8):=⟨underlying5⟩
instance:One prog 5:=⟨⟨_,underlying5,rfl⟩⟩
instance Oh:Inf prog 5 1 1 (.int .u8 0):=dh (aa)
instance:Und prog 9 .string:=⟨underlying9⟩
instance:One prog 9:=⟨⟨_,underlying9,rfl⟩⟩
instance wh:Inf prog 9 1 16 (.string ByteArray.empty):=dh (aa)
instance:Und prog 22 (.slice 102):=⟨underlying22⟩
instance:One prog 22:=⟨⟨_,underlying22,rfl⟩⟩
theorem Om:Inf prog 22 1 24 (.slice none 0 0):=dh aa
instance tm:Inf prog 24 1 24 (.agg #[(.slice none 0 0)]):=dh (aa)
instance:Agg prog 24 1:=js rfl underlying24 tm
instance:Und prog 25 (.slice 56):=⟨underlying25⟩
instance:One prog 25:=⟨⟨_,underlying25,rfl⟩⟩
theorem Ol:Inf prog 25 1 24 (.slice none 0 0):=dh aa
instance:Und prog 26 (.slice 3):=⟨underlying26⟩
instance:One prog 26:=⟨⟨_,underlying26,rfl⟩⟩
instance y6:Inf prog 26 1 24 (.slice none 0 0):=dh (aa)
theorem Ok:Inf prog 28 6 120 (.agg #[(.slice none 0 0),(.slice none 0 0),(.slice none 0 0),(.slice none 0 0),(.int .i64 0),(.string ByteArray.empty)]):=dh aa
instance:Agg prog 28 6:=js rfl underlying28 Ok
instance:Und prog 31 (.slice 60):=⟨underlying31⟩
instance:Und prog 32 (.slice 63):=⟨underlying32⟩
instance FP:Inf prog 36 2 32 (.agg #[(.int .i64 0),(.slice none 0 0)]):=dh (aa)
instance:Agg prog 36 2:=js rfl underlying36 FP
instance:Und prog 44 (.slice 26):=⟨underlying44⟩
instance:One prog 44:=⟨⟨_,underlying44,rfl⟩⟩
theorem K8:Inf prog 44 1 24 (.slice none 0 0):=dh aa
instance:Und prog 45 (.int .u64):=⟨underlying45⟩
instance:One prog 45:=⟨⟨_,underlying45,rfl⟩⟩
instance Oj:Inf prog 45 1 8 (.int .u64 0):=dh (aa)
instance:Und prog 47 (.interface #[("Error",522)]):=⟨underlying47⟩
instance:One prog 47:=⟨⟨_,underlying47,rfl⟩⟩
instance Oi:Inf prog 47 1 16 .nilIface:=dh (aa)
instance:Und prog 56 (.slice 105):=⟨underlying56⟩
instance:One prog 56:=⟨⟨_,underlying56,rfl⟩⟩
instance K7:Inf prog 56 1 24 (.slice none 0 0):=dh (aa)
instance:Und prog 58 (.slice 70):=⟨underlying58⟩
instance:One prog 58:=⟨⟨_,underlying58,rfl⟩⟩
theorem FN:Inf prog 58 1 24 (.slice none 0 0):=dh aa
instance:Und prog 60 (.pointer 78):=⟨underlying60⟩
instance:One prog 60:=⟨⟨_,underlying60,rfl⟩⟩
instance Og:Inf prog 60 1 8 (.pointer none):=dh (aa)
instance:Und prog 61 (.slice 4):=⟨underlying61⟩
instance:One prog 61:=⟨⟨_,underlying61,rfl⟩⟩
theorem Of:Inf prog 61 1 24 (.slice none 0 0):=dh aa
instance FM:Inf prog 63 3 72 (.agg #[(.slice none 0 0),(.slice none 0 0),(.slice none 0 0)]):=dh (aa)
instance:Agg prog 63 3:=js rfl underlying63 FM
instance:Und prog 67 (.slice 80):=⟨underlying67⟩
instance FL:Inf prog 70 2 32 (.agg #[(.int .i64 0),(.slice none 0 0)]):=dh (aa)
instance:Agg prog 70 2:=js rfl underlying70 FL
instance:Und prog 75 (.pointer 123):=⟨underlying75⟩
instance:One prog 75:=⟨⟨_,underlying75,rfl⟩⟩
theorem Oe:Inf prog 75 1 8 (.pointer none):=dh aa
instance:Und prog 76 (.pointer 181):=⟨underlying76⟩
instance:One prog 76:=⟨⟨_,underlying76,rfl⟩⟩
theorem Od:Inf prog 76 1 8 (.pointer none):=dh aa
theorem Oc:Inf prog 78 2 16 (.agg #[(.pointer none),(.pointer none)]):=dh aa
instance FK:Inf prog 80 5 48 (.agg #[(.string ByteArray.empty),(.int .i64 0),(.int .i64 0),(.int .i64 0),(.int .i64 0)]):=dh (aa)
instance:Agg prog 80 5:=js rfl underlying80 FK
instance:Und prog 87 (.pointer 91):=⟨underlying87⟩
instance:Und prog 88 (.slice 144):=⟨underlying88⟩
instance:Und prog 89 (.slice 144):=⟨underlying89⟩
instance:One prog 89:=⟨⟨_,underlying89,rfl⟩⟩
instance K6:Inf prog 89 1 24 (.slice none 0 0):=dh (aa)
instance K5:Inf prog 91 2 32 (.agg #[(.bool false),(.slice none 0 0)]):=dh (aa)
instance:Und prog 95 (.int .u64):=⟨underlying95⟩
instance FX:Inf prog 102 5 32 (.agg #[(.string ByteArray.empty),(.int .i64 0),(.bool false),(.bool false),(.bool false)]):=dh (aa)
instance:Agg prog 102 5:=js rfl underlying102 FX
instance A0:Inf prog 105 2 32 (.agg #[(.string ByteArray.empty),(.string ByteArray.empty)]):=dh (aa)
instance:Agg prog 105 2:=js rfl underlying105 A0
instance:Und prog 110 (.slice 5):=⟨underlying110⟩
instance:One prog 110:=⟨⟨_,underlying110,rfl⟩⟩
instance qD:Inf prog 110 1 24 (.slice none 0 0):=dh (aa)
instance:One prog 121:=⟨⟨_,underlying121,rfl⟩⟩
instance FW:Inf prog 121 1 8 (.pointer none):=dh (aa)
theorem Md:Inf prog 123 6 128 (.agg #[(.slice none 0 0),(.slice none 0 0),(.slice none 0 0),(.pointer none),(.slice none 0 0),(.slice none 0 0)]):=dh aa
instance zZ:Inf prog 128 5 48 (.agg #[(.string ByteArray.empty),(.int .i64 0),(.int .i64 0),(.int .i64 0),(.int .i64 0)]):=dh (aa)
instance:Agg prog 128 5:=js rfl underlying128 zZ
theorem FU:Inf prog 134 2 16 (.agg #[(.int .i64 0),(.int .i64 0)]):=dh aa
instance:Und prog 135 (.pointer 262):=⟨underlying135⟩
instance:One prog 135:=⟨⟨_,underlying135,rfl⟩⟩
theorem Mc:Inf prog 135 1 8 (.pointer none):=dh aa
instance:Und prog 136 (.slice 190):=⟨underlying136⟩
instance:One prog 136:=⟨⟨_,underlying136,rfl⟩⟩
instance FT:Inf prog 136 1 24 (.slice none 0 0):=dh (aa)
theorem Mb:Inf prog 138 7 72 (.agg #[(.int .i64 0),(.int .i64 0),(.pointer none),(.int .i64 0),(.int .i64 0),(.slice none 0 0),(.bool false)]):=dh aa
instance:One prog 144:=⟨⟨_,underlying144,rfl⟩⟩
instance Ma:Inf prog 144 1 8 (.int .u64 0):=dh (aa)
instance:Und prog 156 (.slice 162):=⟨underlying156⟩
instance zY:Inf prog 162 2 32 (.agg #[(.int .u8 0),(.slice none 0 0)]):=dh (aa)
instance:Agg prog 162 2:=js rfl underlying162 zY
instance:Und prog 167 (.map 9 136):=⟨underlying167⟩
instance:One prog 167:=⟨⟨_,underlying167,rfl⟩⟩
theorem M9:Inf prog 167 1 8 (.map none):=dh aa
theorem M8:Inf prog 169 4 80 (.agg #[(.slice none 0 0),(.slice none 0 0),(.slice none 0 0),(.map none)]):=dh aa
instance:Und prog 179 (.slice 45):=⟨underlying179⟩
instance:One prog 179:=⟨⟨_,underlying179,rfl⟩⟩
theorem M7:Inf prog 179 1 24 (.slice none 0 0):=dh aa
theorem M6:Inf prog 181 3 40 (.agg #[(.int .i64 0),(.int .i64 0),(.slice none 0 0)]):=dh aa
instance:Und prog 184 (.slice 128):=⟨underlying184⟩
instance:One prog 184:=⟨⟨_,underlying184,rfl⟩⟩
theorem M5:Inf prog 184 1 24 (.slice none 0 0):=dh aa
theorem M0:Inf prog 186 1 24 (.agg #[(.slice none 0 0)]):=dh aa
instance zX:Inf prog 190 2 32 (.agg #[(.int .i64 0),(.slice none 0 0)]):=dh (aa)
instance:Agg prog 190 2:=js rfl underlying190 zX
instance:Und prog 205 (.pointer 296):=⟨underlying205⟩
instance:Und prog 223 (.map 9 3):=⟨underlying223⟩
instance:Und prog 234 (.slice 110):=⟨underlying234⟩
instance:Und prog 236 (.int .u32):=⟨underlying236⟩
instance:One prog 236:=⟨⟨_,underlying236,rfl⟩⟩
instance LZ:Inf prog 236 1 4 (.int .u32 0):=dh (aa)
theorem FR:Inf prog 242 2 16 (.agg #[(.int .i64 0),(.int .i64 0)]):=dh aa
theorem LY:Inf prog 244 3 40 (.agg #[(.int .i64 0),(.int .i64 0),(.slice none 0 0)]):=dh aa
instance:Und prog 260 (.slice 264):=⟨underlying260⟩
instance:One prog 260:=⟨⟨_,underlying260,rfl⟩⟩
instance FQ:Inf prog 260 1 24 (.slice none 0 0):=dh (aa)
theorem LX:Inf prog 262 4 64 (.agg #[(.slice none 0 0),(.int .i64 0),(.int .i64 0),(.slice none 0 0)]):=dh aa
instance zW:Inf prog 264 4 32 (.agg #[(.int .i64 0),(.int .i64 0),(.int .i64 0),(.int .i64 0)]):=dh (aa)
instance:Agg prog 264 4:=js rfl underlying264 zW
instance:Und prog 273 (.pointer 144):=⟨underlying273⟩
instance:Und prog 294 (.pointer 343):=⟨underlying294⟩
instance:One prog 294:=⟨⟨_,underlying294,rfl⟩⟩
theorem LW:Inf prog 294 1 8 (.pointer none):=dh aa
theorem LV:Inf prog 296 1 8 (.agg #[(.pointer none)]):=dh aa
instance:Und prog 304 (.slice 9):=⟨underlying304⟩
instance:One prog 304:=⟨⟨_,underlying304,rfl⟩⟩
theorem LU:Inf prog 304 1 24 (.slice none 0 0):=dh aa
theorem LS:Inf prog 310 1 24 (.agg #[(.slice none 0 0)]):=dh aa
instance:Und prog 315 (.array 16 236):=⟨underlying315⟩
instance LR:Inf prog 328 1 16 (.agg #[(.string ByteArray.empty)]):=dh (aa)
instance:Und prog 357 (.slice 418):=⟨underlying357⟩
instance:Und prog 363 (.array 4 3):=⟨underlying363⟩
instance FO:Inf prog 363 4 32 (.agg #[(.int .i64 0),(.int .i64 0),(.int .i64 0),(.int .i64 0)]):=dh (aa)
instance:Agg prog 363 4:=js rfl underlying363 FO
instance:One prog 366:=⟨⟨_,underlying366,rfl⟩⟩
instance LQ:Inf prog 366 1 8 (.pointer none):=dh (aa)
instance:Und prog 367 (.slice 366):=⟨underlying367⟩
instance zV:Inf prog 369 2 32 (.agg #[(.string ByteArray.empty),(.string ByteArray.empty)]):=dh (aa)
instance:Agg prog 369 2:=js rfl underlying369 zV
instance:Und prog 372 (.slice 369):=⟨underlying372⟩
theorem LP:Inf prog 413 0 0 (.agg #[]):=dh aa
theorem LO:Inf prog 415 1 24 (.agg #[(.slice none 0 0)]):=dh aa
theorem LN:Inf prog 416 0 0 (.agg #[]):=dh aa
instance:One prog 418:=⟨⟨_,underlying418,rfl⟩⟩
instance LM:Inf prog 418 1 16 .nilIface:=dh (aa)
instance:Und prog 420 (.array 8 5):=⟨underlying420⟩
instance LL:Inf prog 420 8 8 (.agg #[(.int .u8 0),(.int .u8 0),(.int .u8 0),(.int .u8 0),(.int .u8 0),(.int .u8 0),(.int .u8 0),(.int .u8 0)]):=dh (aa)
instance:Fld prog 24 0 0:=da underlying24 rfl Om (ae)
instance:Str prog 24 [(0,1)] [(.slice none 0 0)]:=fh underlying24 tm (λ_=>aa) rfl
instance:Fld prog 28 0 0:=da underlying28 rfl tm (ae)
instance:Fld prog 28 1 1:=da underlying28 rfl Ol (ae)
instance:Fld prog 28 2 2:=da underlying28 rfl y6 (ae)
instance:Fld prog 28 3 3:=da underlying28 rfl y6 (ae)
instance:Fld prog 28 4 4:=da underlying28 rfl jX (ae)
instance:Fld prog 28 5 5:=da underlying28 rfl wh (ae)
instance:Fld prog 36 0 0:=da underlying36 rfl jX (ae)
instance:Fld prog 36 1 1:=da underlying36 rfl y6 (ae)
instance:Str prog 36 [(0,1),(1,1)] [(.int .i64 0),(.slice none 0 0)]:=fh underlying36 FP (λ_=>aa) rfl
instance:Fld prog 63 0 0:=da underlying63 rfl tm (ae)
instance:Fld prog 63 1 1:=da underlying63 rfl FN (ae)
instance:Fld prog 63 2 2:=da underlying63 rfl Of (ae)
instance:Str prog 63 [(0,1),(1,1),(2,1)] [(.slice none 0 0),(.slice none 0 0),(.slice none 0 0)]:=fh underlying63 FM (λ_=>aa) rfl
instance:Fld prog 70 0 0:=da underlying70 rfl jX (ae)
instance:Fld prog 70 1 1:=da underlying70 rfl K7 (ae)
instance:Str prog 70 [(0,1),(1,1)] [(.int .i64 0),(.slice none 0 0)]:=fh underlying70 FL (λ_=>aa) rfl
instance:Fld prog 78 0 0:=da underlying78 rfl Oe (ae)
instance:Fld prog 78 1 1:=da underlying78 rfl Od (ae)
instance:Str prog 78 [(0,1),(1,1)] [(.pointer none),(.pointer none)]:=fh underlying78 Oc (λ_=>aa) rfl
instance:Fld prog 80 0 0:=da underlying80 rfl wh (ae)
instance:Fld prog 80 1 1:=da underlying80 rfl jX (ae)
instance:Fld prog 80 2 2:=da underlying80 rfl jX (ae)
instance:Str prog 80 [(0,1),(1,1),(2,1),(3,1),(4,1)] [(.string ByteArray.empty),(.int .i64 0),(.int .i64 0),(.int .i64 0),(.int .i64 0)]:=fh underlying80 FK (λ_=>aa) rfl
instance:Fld prog 91 0 0:=da underlying91 rfl CL (ae)
instance:Fld prog 91 1 1:=da underlying91 rfl K6 (ae)
instance:Str prog 91 [(0,1),(1,1)] [(.bool false),(.slice none 0 0)]:=fh underlying91 K5 (λ_=>aa) rfl
instance:Fld prog 102 0 0:=da underlying102 rfl wh (ae)
instance:Fld prog 102 1 1:=da underlying102 rfl jX (ae)
instance:Fld prog 102 2 2:=da underlying102 rfl CL (ae)
instance:Fld prog 102 3 3:=da underlying102 rfl CL (ae)
instance:Fld prog 102 4 4:=da underlying102 rfl CL (ae)
instance:Fld prog 105 0 0:=da underlying105 rfl wh (ae)
instance:Fld prog 105 1 1:=da underlying105 rfl wh (ae)
instance:Str prog 105 [(0,1),(1,1)] [(.string ByteArray.empty),(.string ByteArray.empty)]:=fh underlying105 A0 (λ_=>aa) rfl
instance:Fld prog 123 0 0:=da underlying123 rfl tm (ae)
instance:Fld prog 123 1 1:=da underlying123 rfl FN (ae)
instance:Fld prog 123 2 2:=da underlying123 rfl K8 (ae)
instance:Fld prog 123 3 3:=da underlying123 rfl FW (ae)
instance:Fld prog 123 4 4:=da underlying123 rfl qD (ae)
instance:Str prog 123 [(0,1),(1,1),(2,1),(3,1),(4,1),(5,1)] [(.slice none 0 0),(.slice none 0 0),(.slice none 0 0),(.pointer none),(.slice none 0 0),(.slice none 0 0)]:=fh underlying123 Md (λ_=>aa) rfl
instance:Fld prog 128 0 0:=da underlying128 rfl wh (ae)
instance:Fld prog 128 1 1:=da underlying128 rfl jX (ae)
instance:Fld prog 128 2 2:=da underlying128 rfl jX (ae)
instance:Fld prog 128 3 3:=da underlying128 rfl jX (ae)
instance:Fld prog 128 4 4:=da underlying128 rfl jX (ae)
instance:Str prog 128 [(0,1),(1,1),(2,1),(3,1),(4,1)] [(.string ByteArray.empty),(.int .i64 0),(.int .i64 0),(.int .i64 0),(.int .i64 0)]:=fh underlying128 zZ (λ_=>aa) rfl
instance:Fld prog 134 0 0:=da underlying134 rfl jX (ae)
instance:Fld prog 134 1 1:=da underlying134 rfl jX (ae)
instance:Str prog 134 [(0,1),(1,1)] [(.int .i64 0),(.int .i64 0)]:=fh underlying134 FU (λ_=>aa) rfl
instance:Fld prog 138 0 0:=da underlying138 rfl FU (ae)
instance:Fld prog 138 1 2:=da underlying138 rfl Mc (ae)
instance:Fld prog 138 2 3:=da underlying138 rfl jX (ae)
instance:Fld prog 138 3 4:=da underlying138 rfl jX (ae)
instance:Fld prog 138 4 5:=da underlying138 rfl FT (ae)
instance:Fld prog 138 5 6:=da underlying138 rfl CL (ae)
instance:Str prog 138 [(0,2),(2,1),(3,1),(4,1),(5,1),(6,1)] [(.int .i64 0),(.int .i64 0),(.pointer none),(.int .i64 0),(.int .i64 0),(.slice none 0 0),(.bool false)]:=fh underlying138 Mb (λ_=>aa) rfl
instance:Fld prog 162 0 0:=da underlying162 rfl Oh (ae)
instance:Fld prog 162 1 1:=da underlying162 rfl qD (ae)
instance:Str prog 162 [(0,1),(1,1)] [(.int .u8 0),(.slice none 0 0)]:=fh underlying162 zY (λ_=>aa) rfl
instance:Fld prog 169 0 0:=da underlying169 rfl tm (ae)
instance:Fld prog 169 1 1:=da underlying169 rfl FN (ae)
instance:Fld prog 169 2 2:=da underlying169 rfl K8 (ae)
instance:Fld prog 169 3 3:=da underlying169 rfl M9 (ae)
instance:Str prog 169 [(0,1),(1,1),(2,1),(3,1)] [(.slice none 0 0),(.slice none 0 0),(.slice none 0 0),(.map none)]:=fh underlying169 M8 (λ_=>aa) rfl
instance:Fld prog 181 0 0:=da underlying181 rfl jX (ae)
instance:Fld prog 181 1 1:=da underlying181 rfl jX (ae)
instance:Fld prog 181 2 2:=da underlying181 rfl M7 (ae)
instance:Str prog 181 [(0,1),(1,1),(2,1)] [(.int .i64 0),(.int .i64 0),(.slice none 0 0)]:=fh underlying181 M6 (λ_=>aa) rfl
instance:Fld prog 186 0 0:=da underlying186 rfl M5 (ae)
instance:Str prog 186 [(0,1)] [(.slice none 0 0)]:=fh underlying186 M0 (λ_=>aa) rfl
instance:Fld prog 190 0 0:=da underlying190 rfl jX (ae)
instance:Fld prog 190 1 1:=da underlying190 rfl y6 (ae)
instance:Str prog 190 [(0,1),(1,1)] [(.int .i64 0),(.slice none 0 0)]:=fh underlying190 zX (λ_=>aa) rfl
instance:Fld prog 242 0 0:=da underlying242 rfl jX (ae)
instance:Fld prog 242 1 1:=da underlying242 rfl jX (ae)
instance:Str prog 242 [(0,1),(1,1)] [(.int .i64 0),(.int .i64 0)]:=fh underlying242 FR (λ_=>aa) rfl
instance:Fld prog 244 0 0:=da underlying244 rfl FR (ae)
instance:Fld prog 244 1 2:=da underlying244 rfl qD (ae)
instance:Str prog 244 [(0,2),(2,1)] [(.int .i64 0),(.int .i64 0),(.slice none 0 0)]:=fh underlying244 LY (λ_=>aa) rfl
instance:Fld prog 262 0 0:=da underlying262 rfl qD (ae)
instance:Fld prog 262 1 1:=da underlying262 rfl jX (ae)
instance:Fld prog 262 2 2:=da underlying262 rfl jX (ae)
instance:Fld prog 262 3 3:=da underlying262 rfl FQ (ae)
instance:Str prog 262 [(0,1),(1,1),(2,1),(3,1)] [(.slice none 0 0),(.int .i64 0),(.int .i64 0),(.slice none 0 0)]:=fh underlying262 LX (λ_=>aa) rfl
instance:Fld prog 264 0 0:=da underlying264 rfl jX (ae)
instance:Fld prog 264 1 1:=da underlying264 rfl jX (ae)
instance:Fld prog 264 2 2:=da underlying264 rfl jX (ae)
instance:Fld prog 264 3 3:=da underlying264 rfl jX (ae)
instance:Str prog 264 [(0,1),(1,1),(2,1),(3,1)] [(.int .i64 0),(.int .i64 0),(.int .i64 0),(.int .i64 0)]:=fh underlying264 zW (λ_=>aa) rfl
instance:Fld prog 296 0 0:=da underlying296 rfl LW (ae)
instance:Str prog 296 [(0,1)] [(.pointer none)]:=fh underlying296 LV (λ_=>aa) rfl
instance:Fld prog 310 0 0:=da underlying310 rfl qD (ae)
instance:Str prog 310 [(0,1)] [(.slice none 0 0)]:=fh underlying310 LS (λ_=>aa) rfl
instance:Fld prog 369 0 0:=da underlying369 rfl wh (ae)
instance:Fld prog 369 1 1:=da underlying369 rfl wh (ae)
instance:Str prog 369 [(0,1),(1,1)] [(.string ByteArray.empty),(.string ByteArray.empty)]:=fh underlying369 zV (λ_=>aa) rfl
instance:Fld prog 415 0 0:=da underlying415 rfl LU (ae)
instance:Str prog 415 [(0,1)] [(.slice none 0 0)]:=fh underlying415 LO (λ_=>aa) rfl
end
section
variable {F H' R:cG}
section
variable {G:cJ}{P:Program}{t:Tm}{H:cG}{dst:Option Tmp}{ty:TypeId}{pos:String}{after:Array Edge}{g:Option (Nat×Bool)}
theorem sH {L:mX}(h:Sep (gO F::H) L):∃L1 L2,L=L1++L2∧Sep F L1∧Sep H L2:=h
instance Sl.star {F:cG}{s:SV}{α:Type}{e:Enc α}{xs:List α} [h:Sl F s e xs]:Sl (gO F::H) s e xs:=
 ⟨λL hL=>by
  obtain⟨L1,L2,rfl,h1,_⟩:=sH hL
  exact(h.out L1 h1).mono λx hx=>Yy _ hx⟩
class mW (H:cG) (A:Hp) (R:outParam cG):Prop where
 out:∀L,Sep H L→∃L',L'.Perm L∧Sep (A::R) L'
instance mW.head {A:Hp}:mW (A::H) A H:=⟨λL h=>⟨L,.refl L,h⟩⟩
instance mW.tail {A B:Hp}{R:cG} [h:mW H A R]:mW (B::H) A (B::R):=
 ⟨λL hL=>by
  obtain⟨L1,L2,rfl,h1,h2⟩:=hL
  obtain⟨L',hp,M1,M2,rfl,h3,h4⟩:=h.out L2 h2
  refine⟨M1++(L1++M2),?_,M1,L1++M2,rfl,h3,L1,M2,rfl,h1,h4⟩
  rw[←Yf]
  refine((List.perm_append_comm.append_right M2).trans ?_)
  rw[Yf]
  exact hp.append_left L1⟩
theorem gf {A:Hp}(hr:mW H A R) (h:cH (A::R) H'):cH H H':=λL hL=>by
 obtain⟨b,h1,h2⟩:=hr.out L hL;obtain⟨a,M,h3,h4⟩:=h b h2;exact⟨a,M,h3,h4.trans h1⟩
theorem Av {A:Hp} [hr:mW H A R] (h:cH R H'):cH H (A::H'):=gf hr h.keep
theorem qh (h:cH H H'):cH H (gO []::H'):=cH.add rfl h
theorem wR {b:cG}{s:SV}{α:Type}{e:Enc α}{xs:List α} [hr:gV H s e xs R] [a:mW R (gO F) b] (h:cH b H'):cH H (gO (Row s e xs::F)::H'):=by
 refine dH hr (cH.trans (H':=Row s e xs::gO F::b) ?_ ?_)
 ·exact cH.keep (gf a cH.refl)
 ·intro L hL;obtain⟨L1,L2,rfl,h1,L3,f,rfl,h3,h4⟩:=hL;obtain⟨c,M,d,h6⟩:=h f h4;exact⟨(L1++L3)++c,M,⟨L1++L3,c,rfl,⟨L1,L3,rfl,h1,h3⟩,d⟩,aJ⟩
theorem ur {F' b:cG} [hr:mW H (gO F) R] [a:mW R (gO F') b] (h:cH b H'):cH H (gO (gO F::F')::H'):=by
 refine gf hr (cH.trans (H':=gO F::gO F'::b) ?_ ?_)
 ·exact cH.keep (gf a cH.refl)
 ·intro L hL;obtain⟨L1,L2,rfl,h1,L3,e,rfl,h3,h4⟩:=hL;obtain⟨c,M,d,h6⟩:=h e h4;exact⟨(L1++L3)++c,M,⟨L1++L3,c,rfl,⟨L1,L3,rfl,h1,h3⟩,d⟩,aJ⟩
theorem yj {T U:TypeId}{x y:Operand}{xs ys:List Nat}{c:ByteArray}(hx:evo t x=some (.string (dQ xs))) (hy:evo t y=some (.string c)) (a:∀n∈xs,n<256) (hc:cF c=ys):Ev G P ⟨dst,.binOp .neq T x y U,ty,pos,after,g⟩ t H (.bool (!decide (xs=ys))):=by
 have:=tG (G:=G) (P:=P) (H:=H) (dst:=dst) (ty:=ty) (pos:=pos) (after:=after) (g:=g) (T:=T) (U:=U) hx hy
 rwa [ec a,hc]at this
end
end
section
variable {C:Hp→cG}{E K T:TypeId}{ks:List (List Nat)}{r:Nat}{s:ByteArray}{want:Bool}{x:Operand}
section
variable {G:cJ}{P:Program}{N:Nat}{Q:Post}{t:Tm}{H:cG}{ops:Array Oper}{dst:Option Tmp}{ty:TypeId}{pos:String}{after:Array Edge}{g:Option (Nat×Bool)}
def Mp (r:Nat) (ks:List (List Nat)):Hp:=λL=>∃(es:List MapEntry) (clock:Nat) (qs:List ByteArray),L= [(r,.map es.toArray clock)]∧es.map (·.key)=qs.map Value.string∧qs.map cF=ks
theorem nB (k:ByteArray):∀(ks:List ByteArray) (es:List MapEntry) (i:Nat),es.map (·.key)=ks.map Value.string→
 (cF k∈ks.map cF∧∃p,Instr.findNow .string (.string k) es i=some (some p))∨(cF k ∉ ks.map cF∧Instr.findNow .string (.string k) es i=some none)
 | [],es,i,h=>by
  obtain rfl:es= []:=bM;exact .inr ⟨ak,rfl⟩
 |q::ks, [],i,h=>aU
 |q::ks,e::es,i,h=>by
  simp only[Xn,List.cons.injEq]at h;obtain⟨h1,h2⟩:=h;have c:Instr.findNow .string (.string k) (e::es) i=match Instr.sameNow .string (.string k) (.string q)with
   |some true=>some (some (i,e.val))
   |some false=>Instr.findNow .string (.string k) es (i+1)
   |none=>none:=by rw[←h1];rfl
  rw[c]
  by_cases hk:k=q
  ·subst hk;have b:(k==k)=true:=(MapKept.bytes_beq k k).2 rfl;left;simp only[Instr.sameNow,b];exact⟨ak,_,rfl⟩
  ·have b:(k==q)=false:=by
    cases h:(k==q)with
    |false=>rfl
    |true=>exact absurd ((MapKept.bytes_beq k q).1 h) hk
   have a:¬cF k=cF q:=λh=>hk (iw.1 h);simp only[Instr.sameNow,b];rcases nB k ks es (i+1) h2 with⟨h3,h4⟩|⟨h3,h4⟩
   ·exact .inl ⟨Xa _ h3,h4⟩
   ·exact .inr ⟨λh=>by
     rcases Xr.1 h with h|h
     ·exact a h
     ·exact h3 h,h4⟩
theorem lP (s:ByteArray):MapKept.IsKey .string (.string s):=by simp[MapKept.IsKey]
theorem zr {k:IntKind}{i:Int} [hT:Und P T (.map K E)] (hx:evo t x=some (.int k i)):
 St G P ⟨dst,.makeMap T (some x),ty,pos,after,g⟩ t H (λu b=>∃r,u=.map (some r)∧b=Mp r []::H):=
 fun ρ hρ w hw=>by
  have hr:(execOp ρ ⟨dst,.makeMap T (some x),ty,pos,after,g⟩).run P w=.ok (.value (.map (some w.heap.size))) {w with heap:=w.heap.push (.map #[] 0)}:=by
   simp only[execOp,Vd,Instr.makeMap,hρ _ _ hx,Sem.run_bind,cS (T:=T),Result.andThen_ok,asInt,asIntOf,Sem.run_pure,run_newObj]
  rw[hr];exact⟨_,(hw.alloc _).cons λ_ a=>⟨[],0, [],a,rfl,rfl⟩,w.heap.size,rfl,rfl⟩
theorem Cg {y:Operand}{sz bb:Nat}{z:Value} [hT:Und P T (.map K E)] [c:Und P K .string] [hE:Inf P E sz bb z] (hx:evo t x=some (.map (some r))) (hy:evo t y=some (.string s)) [hf:Foc H Mp r ks C]:
 St G P ⟨dst,.lookup T x y true,ty,pos,after,g⟩ t H (λu k=>(∃v,u=.tuple #[v,.bool (decide (cF s∈ks))])∧k=H):=
 fun ρ hρ w hw=>by
  obtain⟨f,L,hL,hl⟩:=hw;obtain⟨L1,M,L2,rfl,⟨d,a,h,rfl,hk,rfl⟩,hB⟩:=hf.foc _ hL;have j:w.heap[r]? =some (.map d.toArray a):=hl.at_ (r,.map d.toArray a) ak;have e:=MapKept.run_getObj_map (P:=P) j;have b:=MapKept.run_checkKey (P:=P) (w:=w) c.out (lP s);rcases nB s h d 0 hk with⟨h1,⟨i,v⟩,h2⟩|⟨h1,h2⟩
  ·have h3:=MapKept.run_findKey (P:=P) (w:=w) c.out h2;have hr:(execOp ρ ⟨dst,.lookup T x y true,ty,pos,after,g⟩).run P w=.ok (.value (.tuple #[v,.bool true])) w:=by
    simp only[execOp,hρ _ _ hx,hρ _ _ hy,Instr.lookup,Sem.run_bind,cS (T:=T),Result.andThen_ok,e,Sem.run_pure,b,h3,↓reduceIte]
   rw[hr];exact⟨H,⟨f,_,hL,hl⟩,⟨v,by simp[h1]⟩,rfl⟩
  ·have h3:=MapKept.run_findKey (P:=P) (w:=w) c.out h2;have hr:(execOp ρ ⟨dst,.lookup T x y true,ty,pos,after,g⟩).run P w=.ok (.value (.tuple #[z,.bool false])) w:=by
    simp only[execOp,hρ _ _ hx,hρ _ _ hy,Instr.lookup,Sem.run_bind,cS (T:=T),Result.andThen_ok,e,Sem.run_pure,b,h3,gY (T:=E),↓reduceIte]
   rw[hr];exact⟨H,⟨f,_,hL,hl⟩,⟨z,by simp[h1]⟩,rfl⟩
theorem vQ {y v:Operand}{u:Value} [hT:Und P T (.map K E)] [l:Und P K .string] (hx:evo t x=some (.map (some r))) (hy:evo t y=some (.string s)) (hv:evo t v=some u) [hf:Foc H Mp r ks C] (f:cF s ∉ ks):
 St G P ⟨dst,.mapUpdate T x y v,ty,pos,after,g⟩ t H (λu p=>u=undef∧p=C (Mp r (ks++ [cF s]))):=
 fun ρ hρ w hw=>by
  obtain⟨k,L,hL,hl⟩:=hw;obtain⟨L1,M,L2,rfl,⟨c,a,d,rfl,hk,rfl⟩,n⟩:=hf.foc _ hL;have j:w.heap[r]? =some (.map c.toArray a):=hl.at_ (r,.map c.toArray a) ak;have m:=MapKept.run_getObj_map (P:=P) j;have h:=MapKept.run_checkKey (P:=P) (w:=w) l.out (lP s);rcases nB s d c 0 hk with⟨h1,_⟩|⟨h1,h2⟩
  ·exact absurd h1 f
  ·have h3:=MapKept.run_findKey (P:=P) (w:=w) l.out h2;have e:=MapKept.run_setObj_map (P:=P) (.map (c.toArray.push {key:=.string s,val:=u,born:=a}) (a+1)) j;have hr:(execOp ρ ⟨dst,.mapUpdate T x y v,ty,pos,after,g⟩).run P w=.ok .skip (e7 w r (.map (c.toArray.push {key:=.string s,val:=u,born:=a}) (a+1))):=by
    simp only[execOp,hρ _ _ hx,hρ _ _ hy,hρ _ _ hv,Instr.mapUpdate,Sem.run_bind,cS (T:=T),Result.andThen_ok,m,h,h3,e,Sem.run_pure];rfl
   rw[hr];refine⟨C (Mp r (d.map cF++ [cF s])),⟨⟨k.os,k.tape,k.output⟩,_,n _ [(r,.map (c.toArray.push {key:=.string s,val:=u,born:=a}) (a+1))] ⟨c++ [{key:=.string s,val:=u,born:=a}],a+1,d++ [s],ak,by simp[hk],ak⟩,?_⟩,rfl,rfl⟩;have:=ju.change (w':=e7 w r (.map (c.toArray.push {key:=.string s,val:=u,born:=a}) (a+1))) (L1:=L1) (L2:=L2) (b:=r) (o:=.map c.toArray a) (o':=.map (c.toArray.push {key:=.string s,val:=u,born:=a}) (a+1)) aP (fB j) (λi hi _=>eL hi)
   simpa using this
theorem cH.mp {R H':cG} [hr:Rem H Mp r ks R] (h:cH R H'):cH H (Mp r ks::H'):=cH.rem hr h.keep
theorem p8 {o:Oper}{j d:Nat}{a:Act}(ha:Fr N t a) (b:o.guard=some (j,want)) (hj:(ops[j]?).bind (·.dst)=some d) (c:look t d=some undef):
 Region.wanted o (yielded ops a.tmps)=false:=by
 have h1:a.tmps[d]? =some undef:=ha.look _ _ c;have h2:yielded ops a.tmps j=none:=by
  unfold yielded;rw[hj];simp[h1,undef]
 unfold Region.wanted;rw[b];simp only[h2];rfl
theorem w6 {l:List Oper}{op:Op}{j d:Nat}(hj:(ops[j]?).bind (·.dst)=some d) (hv:look t d=some undef) (hd:fC N dst=true) (hk:O G P N ops l Q (put t dst undef) H):O G P N ops (⟨dst,op,ty,pos,after,some (j,want)⟩::l) Q t H:=by
 refine⟨λa w ha b=>?_⟩;unfold wpList;rw[p8 (o:=⟨dst,op,ty,pos,after,some (j,want)⟩) ha rfl hj hv];rw[if_neg ak];exact hk.go _ _ (ha.put hd undef) b
end
end
section
variable {after:Array Edge}{dst:Option Tmp}{pos:String}{ty:TypeId}
section
variable {G:cJ}{P:Program}{ops:Array Oper}{N:Nat}{Q:Post}{t:Tm}{H:cG}
theorem Am {loud:Nat→Bool}{F:Nat→cG→Prop}{fuel:Nat}{b:Array Bool}{op:Op}{R:Value→cG→Prop}{k d:Nat}{want:Bool}(i:Nat) (hi:ops[i]? =some ⟨dst,op,ty,pos,after,some (k,want)⟩) (hk:(ops[k]?).bind (·.dst)=some d) (hv:look t d=some (.bool want)) (hr:Region.ready .any ops b= [i]) (hd:fC N dst=true) (p:∀i,qg ops loud i b→F i H) (hs:St G P ⟨dst,op,ty,pos,after,some (k,want)⟩ t H R) (h:∀v c,R v c→An G P N ops loud F Q fuel (b.setIfInBounds i true) (put t dst v) c):An G P N ops loud F Q (fuel+1) b t H:=
 ⟨λa ha=>⟨p,λh0=>(bH),λj hj=>by
  rw[hr]at hj;obtain rfl:j=i:=by simpa using hj
  unfold OpK;simp only[hi];rw[if_pos cy];intro w m;have h1:=hs a.eval ha.agree w m;generalize (execOp a.eval _).run P w=r at*;cases r with
  |ok n w'=>
   cases n <;> simp only[kY]at h1 <;> simp only[ln]
   case value u=>obtain⟨c,l,g⟩:=h1;exact⟨c,l,(h u c g).go _ (ha.put hd u)⟩
   case skip=>obtain⟨c,l,g⟩:=h1;exact⟨c,l,(h _ c g).go _ (ha.put hd _)⟩
   case enter f args=>
    exact h1.mono λe w'' he=>by
     cases e with
     |returned u=>obtain⟨c,l,g⟩:=he;exact⟨c,l,(h u c g).go _ (ha.put hd u)⟩
     |_=>exact he
  |halt x w'=>simp only[kY]at h1⟩⟩
theorem ui {T E U:TypeId}{x:Operand}{s:SV}{α:Type}{e:Enc α}{xs:List α}{g:Option (Nat×Bool)} [hT:Und P T (.slice E)] [hs:Sl H s e xs] (hx:evo t x=some s.val) (f:xs≠ []):Ev G P ⟨dst,.binOp .eql T x (.const (.slice none 0 0)) U,ty,pos,after,g⟩ t H (.bool false):=
 fun ρ hρ w hw=>by
  obtain⟨_,_,h3⟩:=hs.get hw;rcases h3 with⟨h4,_⟩|⟨b,off,C,E',fz,h4,_⟩
  ·exact absurd h4 f
  ·have h1:=gy (P:=P) (op:=.eql) (T:=T) (x:=x) (y:=.const (.slice none 0 0)) (w:=w) (a:=s.val) (b:=.slice none 0 0) (.inr rfl) (λc h=>aU);have h2:=iA (P:=P) (w:=w) (T:=T) (x:=s.val) (y:=.slice none 0 0) (r:=false) (λd=>by simp only[SV.val,h4,Op.equalIn,Sem.run_bind,cS (T:=T),Result.andThen_ok,Sem.run_pure]);have i:(binOp .eql T s.val (.slice none 0 0)).run P w=.ok (.bool false) w:=by
    simp only[SV.val]at h2⊢;simp only[binOp,Sem.run_bind,h2,Result.andThen_ok,Sem.run_pure]
   simp only[execOp,hρ _ _ hx,hρ (.const (.slice none 0 0)) _ rfl,Sem.run_bind,h1,Result.andThen_ok,i,Sem.run_pure]
end
end
section
variable {G:cJ}{P:Program}{ops:Array Oper}{N:Nat}{Q:Post}{t:Tm}{H:cG}{dst:Option Tmp}{ty:TypeId}{pos:String}{after:Array Edge}{g:Option (Nat×Bool)}
theorem dc {T:TypeId}{x y:Operand}{s:SV}{i sz bb:Nat}{z v:Value}{α:Type}{e:Enc α}{xs:List α}{a:α}{C:Hp→cG}(hx:evo t x=some (.pointer (s.elt sz i 0))) (hy:evo t y=some v) [hT:Inf P T sz bb z] [hf:mc H s e xs C] [hv:i6 e v a] (n:e.sz=sz) (hlt:i<xs.length):
 St G P ⟨dst,.store T x y,ty,pos,after,g⟩ t H (λu R=>u=undef∧R=C (Row s e (xs.set i a))):=
 fun ρ hρ w hw=>by
  subst n;obtain⟨L1,M,L2,hl,J,K⟩:=hf.split hw;rcases J with⟨rfl,rfl,rfl⟩|⟨b,d,f,fz,E,N,L,rfl,B,A,r⟩
  ·simp at hlt
  ·have m:w.heap[b]? =some (.cells d f fz):=hl.at_ (b,.cells d f fz) ak;have p:i*e.sz+e.sz≤d.size:=by
    rw[B,show i*e.sz+e.sz=(i+1)*e.sz from aK];exact Vc _ a8
   have k:=ez (P:=P) (o:=i*e.sz) (e.f a) 0 d w m (λj _ h=>A.free j (by rw[e.len]at h;omega)) bC (λu c=>e.one a u c);have l:v.cells=(e.f a).toArray:=by rw[←hv.out,e.v_cells]
   have F:v.cells.size=e.sz:=by rw[l];simp[e.len]
   have hx':=hρ _ _ hx;simp only[SV.elt,E,Vd,Ur,Vf]at hx';have hr:(execOp ρ ⟨dst,.store T x y,ty,pos,after,g⟩).run P w=.ok .skip (e7 w b (.cells (ej d (i*e.sz) (e.f a)) f fz)):=by
    simp only[execOp,hx',hρ _ _ hy,Instr.storeAt,Instr.sureAddr,storeVar,Sem.run_bind,Sem.run_pure,Result.andThen_ok,dA (T:=T),F];simp only[ne_eq,not_true_eq_false,↓reduceIte];rw[l];simp only[Ur]at k⊢;rw[k];rfl
   rw[hr];refine⟨C (Row s e (xs.set i a)),⟨⟨hw.1.os,hw.1.tape,hw.1.output⟩,_,K _ [(b,.cells (ej d (i*e.sz) (e.f a)) f fz)] (.inr ⟨b,_,f,fz,E,by rw[T6];exact N,L,rfl,by rw[er,B],by rw[er];exact A,?_⟩),?_⟩,rfl,rfl⟩
   ·intro j u c;rw[fy _ _ _ _ (by rw[e.len];exact p),e.len];rw[U1,if_pos hlt,e.all_append,e.all_cons]at c;have q:(e.all (xs.take i)).length=i*e.sz:=bL
    by_cases hj:j<i*e.sz
    ·rw[if_neg a8];rw[Yv a8,e.all_take,Xz hj]at c;exact r j u c
    ·rw[Yu a8,q]at c
     by_cases hj2:j<i*e.sz+e.sz
     ·rw[if_pos a8];rw[Yv bC]at c;exact c
     ·rw[if_neg a8];rw[Yu bC,e.len,e.all_drop,Xh,Vg,Nat.one_mul]at c;exact r j u (by rw[←c];congr 1;omega)
   ·have:=ju.change (w':=e7 w b (.cells (ej d (i*e.sz) (e.f a)) f fz)) (L1:=L1) (L2:=L2) (b:=b) (o:=.cells d f fz) (o':=.cells (ej d (i*e.sz) (e.f a)) f fz) aP (fB m) (λi hi _=>eL hi)
    simpa using this
end
section
variable {C:Hp→cG}{α:Type}{e:Enc α}{xs ys:List α}{z:Value}
section
variable {G:cJ}{P:Program}{N:Nat}{Q:Post}{t:Tm}{H:cG}{dst:Option Tmp}{ty:TypeId}{pos:String}{after:Array Edge}{g:Option (Nat×Bool)}
theorem xD {w:World}{T T2 E:TypeId}{d2:TypeDesc}{s:SV}{v:Value}{m sz bb:Nat}{cs:List Value} [hT:Und P T (.slice E)] [hT2:Und P T2 d2] [hE:Inf P E sz bb z] (a0:d2=.string∨∃e2,d2=.slice e2) (S:sz=e.sz) (R:z.cells.size=sz) [hf:mc H s e xs C] (k:Sat G w H) (hg:za P sz v m cs w) (a1:cs=e.all ys) (hm:m=ys.length) (hlim:(xs.length+ys.length)*bb≤140737488355328) (hlim2:xs.length+ys.length≤140737488355328):
 ∃(s':SV) (w':World),(Builtin.append_ #[T,T2] ty #[s.val,v]).run P w=.ok s'.val w'∧((s'.a=s.a∧s'.c=s.c∧Sat G w' (C (Row s' e (xs++ys))))∨Sat G w' (Row s' e (xs++ys)::H)):=by
 subst S a1 hm;obtain⟨x,J⟩:=hg;have p:=J w.drawn;obtain⟨L1,M,L2,hl,hM,hB⟩:=hf.split k;obtain⟨i,X,hi2,t,hi4⟩:=hE.out;have F:=e.all_one ys;have B:s.n=xs.length∧s.n≤s.c:=by
  rcases hM with⟨rfl,rfl,_⟩|⟨b,a,c,fz,_,h2,h3,_⟩
  ·exact⟨rfl,Xj _⟩
  ·exact⟨h2,h3⟩
 rcases a0 with rfl|⟨e2,rfl⟩
 all_goals
  by_cases hroom:s.n+ys.length≤s.c
  ·
   rcases hM with⟨rfl,rfl,rfl⟩|⟨b,a,c,fz,h1,h2,h3,rfl,h5,h6,h7⟩
   ·obtain rfl:ys= []:=by
     simp[SV.nil]at hroom;exact hroom
    refine⟨SV.nil,w,?_,.inl ⟨rfl,rfl,k.1,_,hB _ [] (.inl ⟨rfl,rfl,rfl⟩),aP⟩⟩;simp only[Builtin.append_,SV.nil,SV.val];simp only[Sem.run_bind,Sem.run_pure,Result.andThen_ok,cS (T:=T),dA (T:=E) (s:=e.sz),Vv,Xb,Xc,cS (T:=T2),x,Xp,↓reduceIte,V1,Ur,Yc,Xj];have:=p;simp only[Yc]at this;rw[this];rfl
   ·have l:w.heap[b]? =some (.cells a c fz):=hl.at_ (b,.cells a c fz) ak;have K:s.n*e.sz+(e.all ys).length≤a.size:=by
     rw[e.all_length,h5,←Vg];exact Vc _ hroom
    have y:=ez (P:=P) (o:=s.n*e.sz) (e.all ys) 0 a w l (λj _ h=>h6.free j a8) a8 F;refine⟨⟨some ⟨b,0,none⟩,s.n+ys.length,s.c⟩,e7 w b (.cells (ej a (s.n*e.sz) (e.all ys)) c fz),?_,.inl ⟨h1.symm,rfl,⟨k.1.os,k.1.tape,k.1.output⟩,_,hB _ [(b,.cells (ej a (s.n*e.sz) (e.all ys)) c fz)] (.inr ⟨b,_,c,fz,rfl,by simp[h2],hroom,rfl,by rw[er,h5],by rw[er];exact h6,?_⟩),?_⟩⟩
    ·simp only[Builtin.append_,SV.val,h1];simp only[Sem.run_bind,Sem.run_pure,Result.andThen_ok,cS (T:=T),dA (T:=E) (s:=e.sz),Vv,Xb,Xc,cS (T:=T2),x,Xp,↓reduceIte,V1,hroom];rw[p];simp only[Result.andThen_ok,gu,Vf];simp only[Ur]at y;rw[y];rfl
    ·intro j u g;rw[fy _ _ _ _ K];rw[e.all_append]at g;have V:(e.all xs).length=s.n*e.sz:=by rw[e.all_length,h2]
     by_cases hj:j<s.n*e.sz
     ·rw[if_neg a8];rw[Yv a8]at g;exact h7 j u g
     ·rw[Yu a8,V]at g;rw[if_pos ⟨a8,by have:=(Yk.1 g).1;omega⟩];exact g
    ·have:=ju.change (w':=e7 w b (.cells (ej a (s.n*e.sz) (e.all ys)) c fz)) (L1:=L1) (L2:=L2) (b:=b) (o:=.cells a c fz) (o':=.cells (ej a (s.n*e.sz) (e.all ys)) c fz) aP (fB l) (λi hi _=>eL hi)
     simpa using this
  ·
   have Y:s.c<s.n+ys.length:=a8;have n:¬((s.n+ys.length:Nat):Int) > IntKind.i64.max:=by
    simp only[IntKind.max,IntKind.signed,IntKind.bits];simp;omega
   have a2:¬(Builtin.nextslicecap (s.n+ys.length) s.c*bb > 2^48):=by
    have:=growslice_fits (bytes:=bb) Y (by rw[B.1];exact hlim);omega
   have r:∀d,(Builtin.firstCells e.sz s.n s.val).run P {w with drawn:=d}=.ok (e.all xs).toArray {w with drawn:=d}:=by
    intro d;rcases hM with⟨rfl,rfl,rfl⟩|⟨b,a,c,fz,h1,h2,h3,rfl,h5,h6,h7⟩
    ·rfl
    ·have l:({w with drawn:=d}:World).heap[b]? =some (.cells a c fz):=hl.at_ (b,.cells a c fz) ak;have:=dP (P:=P) (o:=0) l (e.all xs) (λj v hv=>by rw[Vf];exact h7 j v hv);rw[e.all_length,←h2]at this;simp only[Builtin.firstCells,SV.val,h1,this]
   let q:Question:=.appendCap (s.n+ys.length) s.c E
   let nc:Nat:=q.cut (w.tape w.drawn q)
   have U:s.n+ys.length≤nc:=by
    show s.n+ys.length≤(s.n+ys.length)+_;omega
   have N:(Builtin.zeroCells z.cells (nc-(s.n+ys.length))).size=(nc-(s.n+ys.length))*e.sz:=by
    simp[Builtin.zeroCells,R]
   refine⟨⟨some ⟨w.heap.size,0,none⟩,s.n+ys.length,nc⟩,{w with drawn:=w.drawn+1,heap:=w.heap.push (.cells ((e.all xs).toArray++(e.all ys).toArray++Builtin.zeroCells z.cells (nc-(s.n+ys.length))) E)},?_,.inr (Sat.newRow (w:={w with drawn:=w.drawn+1}) ⟨⟨k.1.os,k.1.tape,k.1.output⟩,k.2.imp λL hL=>⟨hL.1,hL.2.nodup,hL.2.at_⟩⟩ e (xs++ys) _ E _ nc (by simp[B.1]) U ?_ ?_)⟩
   ·have hq:q.forced=false:=rfl;have f:∀w:World,(typeInfo E).run P w=.ok i w:=by intro w;simp[typeInfo,X]
    have A:=r (w.drawn+1);have Z:=J (w.drawn+1);have c1:¬(((s.n+ys.length:Nat):Int) > IntKind.i64.max∧(false=true∨i.bytes=0)):=λh=>n h.1;simp only[Builtin.append_,SV.val]at A⊢;simp only[Sem.run_bind,Sem.run_pure,Result.andThen_ok,cS (T:=T),dA (T:=E) (s:=e.sz),Vv,Xb,Xc,cS (T:=T2),x,Xp,↓reduceIte,V1,hroom,f,t];rw[if_neg (by rw[←t];exact λh=>n h.1)];simp only[Sem.run_bind,f,t,Result.andThen_ok];rw[if_neg a2];simp only[Sem.run_bind,Sem.run_pure,run_choose];rw[show(Question.appendCap (s.n+ys.length) s.c E).forced=false from rfl];simp only[Xp,↓reduceIte,Result.andThen_ok,f,run_askRoom,A,Z,gY (T:=E)];rfl
   ·rw[Array.size_append,Array.size_append,N];simp only[List.size_toArray,e.all_length,←Vg];congr 1;omega
   ·intro j u g;rw[e.all_append]at g;have hj:=(Yk.1 g).1;rw[Uw (by simp at hj⊢;exact hj)]
    simpa using g
theorem sL {T T2 E E2:TypeId}{x y:Operand}{s s2:SV}{sz bb:Nat}(hx:evo t x=some s.val) (hy:evo t y=some s2.val) [hT:Und P T (.slice E)] [hT2:Und P T2 (.slice E2)] [hE:Inf P E sz bb z] [hf:mc H s e xs C] [hs:Sl H s2 e ys] (h:sz=e.sz) (f:z.cells.size=sz) (hlim:(xs.length+ys.length)*bb≤140737488355328) (hlim2:xs.length+ys.length≤140737488355328):
 St G P ⟨dst,.call ⟨.builtin .append, #[x,y], #[T,T2]⟩,ty,pos,after,g⟩ t H (λu i=>∃a:SV,u=a.val∧((a.a=s.a∧a.c=s.c∧i=C (Row a e (xs++ys)))∨i=Row a e (xs++ys)::H)):=
 fun ρ hρ w hw=>by
  subst h;have k:za P e.sz s2.val ys.length (e.all ys) w:=by
   obtain⟨h1,_,h3⟩:=hs.get hw;refine⟨by simp[Builtin.lenOf,SV.val,h1],λd=>?_⟩;rcases h3 with⟨rfl,_⟩|⟨b,c,C0,E0,fz,h4,l,_,h6⟩
   ·rw[Yc,ka,gP]
   ·have:=dP (P:=P) (w:={w with drawn:=d}) (o:=c) l (e.all ys) h6;rw[e.all_length]at this;simp only[Builtin.firstCells,SV.val,h4,this]
  obtain⟨a,j,hr,hw'⟩:=xD (ty:=ty) (T:=T) (T2:=T2) (d2:=.slice E2) (P:=P) (E:=E) (.inr ⟨E2,rfl⟩) rfl f (hf:=hf) hw k rfl rfl hlim hlim2;have:(execOp ρ ⟨dst,.call ⟨.builtin .append, #[x,y], #[T,T2]⟩,ty,pos,after,g⟩).run P w=.ok (.value a.val) j:=by
   simp only[execOp,resolve,invoke,builtin,Uh,Xn,Ul,hρ _ _ hx,hρ _ _ hy,Sem.run_bind,Sem.run_pure,Result.andThen_ok,hr]
  rw[this];rcases hw' with⟨h1,h2,hw'⟩|hw'
  ·exact⟨_,hw',a,rfl,.inl ⟨h1,h2,rfl⟩⟩
  ·exact⟨_,hw',a,rfl,.inr rfl⟩
end
end
section
variable {F F' H':cG}{α:Type}{e:Enc α}{i:Nat}{s:SV}{xs:List α}
theorem ED (h:F.Perm F'):∀L,Sep F L→∃a,a.Perm L∧Sep F' a:=by
 induction h with
 |nil=>exact λL hL=>⟨L,.refl L,hL⟩
 |cons A _ ih=>
  rintro L ⟨L1,L2,rfl,h1,h2⟩;obtain⟨a,h3,h4⟩:=ih L2 h2;exact⟨L1++a,h3.append_left L1,L1,a,rfl,h1,h4⟩
 |swap A B l=>
  rintro L ⟨L1,L2,rfl,h1,L3,b,rfl,h3,h4⟩;refine⟨L3++(L1++b),?_,L3,L1++b,rfl,h3,L1,b,rfl,h1,h4⟩;rw[←Yf,←Yf];exact List.perm_append_comm.append_right b
 |trans _ _ ih1 ih2=>
  intro L hL;obtain⟨a,h1,h2⟩:=ih1 L hL;obtain⟨c,h3,h4⟩:=ih2 a h2;exact⟨c,h3.trans h1,h4⟩
theorem cH.perm (h:F.Perm F'):cH F F':=λL hL=>
 let ⟨L',h1,h2⟩:=ED h L hL;⟨L', [],h2,cC⟩
theorem oX {H:cG}(h:cH F F'):cH (F++H) (F'++H):=λL hL=>by
 obtain⟨L1,L2,rfl,h1,h2⟩:=mr hL;obtain⟨a,M,h3,h4⟩:=h L1 h1;refine⟨a++L2,M,pw h3 h2,?_⟩;rw[Yf];refine(List.Perm.append_left a List.perm_append_comm).trans ?_;rw[←Yf];exact h4.append_right L2
theorem cH.unstar {H:cG}:cH (gO F::H) (F++H):=λL hL=>by
 obtain⟨L1,L2,rfl,h1,h2⟩:=hL;exact⟨L1++L2, [],pw h1 h2,ak⟩
theorem Sl.hsub {H:cG}(h:cH H H') (hs:Sl H' s e xs):Sl H s e xs:=
 ⟨λL hL=>by
  obtain⟨a,M,h1,h2⟩:=h L hL;exact(hs.out a h1).mono λx hx=>h2.subset (Yy _ hx)⟩
section
variable {H:cG}{ι κ:Type}
def Cl (f:ι→cG) (l:List ι):Hp:=gO (l.flatMap f)
theorem cH.cl {f:ι→cG}{l:List ι}{R:cG} [hr:Rem H Cl f l R] (h:cH R H'):cH H (Cl f l::H'):=cH.rem hr h.keep
theorem lg {f:ι→cG}{l:List ι}{x:ι}(h:l[i]? =some x):cH (Cl f l::H) (f x++(Cl f (l.take i)::Cl f (l.drop (i+1))::H)):=by
 have hi:=(Yk.1 h).1;have e:l=l.take i++x::l.drop (i+1):=by
  have:=Xv i l;rw[List.drop_eq_getElem_cons hi]at this;rw[(Yk.1 h).2]at this;exact this.symm
 refine cH.unstar.trans ?_;have h2:(l.flatMap f++H).Perm (f x++((l.take i).flatMap f++((l.drop (i+1)).flatMap f++H))):=by
  conv=>lhs;rw[e]
  rw[List.flatMap_append,Vp,Yf,Yf];exact List.perm_append_comm_assoc ..
 refine(cH.perm h2).trans ?_;have h3:cH ((l.take i).flatMap f++((l.drop (i+1)).flatMap f++H)) (Cl f (l.take i)::Cl f (l.drop (i+1))::H):=cH.star (cH.star cH.refl);have:∀A B C:cG,cH B C→cH (A++B) (A++C):=by
  intro A B C b
  induction A with
  |nil=>exact b
  |cons a A ih=>exact cH.keep ih
 exact this _ _ _ h3
theorem BG {f:ι→cG}{l l':List ι}{y:ι}:cH (f y++(Cl f l::Cl f l'::H)) (Cl f (l++y::l')::H):=by
 have h1:cH (f y++(Cl f l::Cl f l'::H)) (f y++(l.flatMap f++(l'.flatMap f++H))):=by
  have:∀A B C:cG,cH B C→cH (A++B) (A++C):=by
   intro A B C b
   induction A with
   |nil=>exact b
   |cons a A ih=>exact cH.keep ih
  exact this _ _ _ (cH.unstar.trans (this _ _ _ cH.unstar))
 refine h1.trans ?_;have h2:(f y++(l.flatMap f++(l'.flatMap f++H))).Perm ((l++y::l').flatMap f++H):=by
  rw[List.flatMap_append,Vp,Yf,Yf];exact List.perm_append_comm_assoc ..
 exact(cH.perm h2).trans (cH.star cH.refl)
theorem nG {f:ι→cG}{l:List ι}(y:ι) (hi:i<l.length):cH (f y++(Cl f (l.take i)::Cl f (l.drop (i+1))::H)) (Cl f (l.set i y)::H):=by
 rw[U1,if_pos hi];exact BG
theorem ja {f:ι→cG}(h:cH H H'):cH H (Cl f []::H'):=cH.add rfl h
theorem pW {f:ι→cG}{l:List ι}(y:ι):cH (f y++(Cl f l::H)) (Cl f (l++ [y])::H):=by
 have:=BG (H:=H) (f:=f) (l:=l) (l':= []) (y:=y);refine cH.trans ?_ this;have h3:∀A B C:cG,cH B C→cH (A++B) (A++C):=by
  intro A B C b
  induction A with
  |nil=>exact b
  |cons a A ih=>exact cH.keep ih
 exact h3 _ _ _ (cH.keep (ja cH.refl))
theorem GJ {f:ι→cG}{g:κ→cG}{u:ι→κ}{l:List ι}(hf:∀x∈l,cH (f x) (g (u x))):cH (Cl f l::H) (Cl g (l.map u)::H):=by
 refine cH.unstar.trans (cH.trans (oX (F':=(l.map u).flatMap g) ?_) (cH.star cH.refl))
 induction l with
 |nil=>exact cH.refl
 |cons x l ih=>
  rw[Xn,Vp,Vp];have h3:∀A B C:cG,cH B C→cH (A++B) (A++C):=by
   intro A B C b
   induction A with
   |nil=>exact b
   |cons a A ih=>exact cH.keep ih
  exact(oX (hf x (Yz ..))).trans (h3 _ _ _ (ih λy hy=>hf y (Xa _ hy)))
theorem Kb {f:ι→cG}{l:List ι}{x:ι}(h:l[i]? =some x) (hs:∀R,Sl (f x++R) s e xs):Sl (Cl f l::H) s e xs:=Sl.hsub (lg h) (hs _)
end
end
end Go.Sx
