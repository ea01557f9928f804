import Derived.Test.YtniphaoadhojlaaGreatDoorFx
import Derived.Test.YtniphaoadhojlaaGreatDoorSxP
import Derived.Test.YtniphaoadhojlaaGreatDoorW202
set_option linter.all false
namespace Go.Sx
open Go Go.Proofs Tryz
set_option maxRecDepth 100000

/-- What is read: a slice elsewhere, or the row itself. -/
def Src (R : Heap) (F : SV) (all : List Nat) (sx : SV) (xs : List Nat) : Prop := Sl R sx eU xs ∨ (sx = F.up xs.length ∧ xs.length ≤ F.c ∧ all.take xs.length = xs)
theorem Src.sl {H R : Heap} {F : SV} {all : List Nat} {sx : SV} {xs : List Nat} (h : Src R F all sx xs) (hr : RemR H F eU all R) (hF : Full F) (hl : all.length = F.c) : Sl H sx eU xs := by
  refine sl_less (HSub.remR hr HSub.refl) ?_
  rcases h with h | ⟨rfl, h2, h3⟩
  · exact Sl.tail
  · have := Sl.up (Sl.row (H := R) (s := F) (e := eU) (xs := all)) hF.nc (n := xs.length) (by omega)
    rwa [h3] at this
theorem NW.src {R : Heap} {F : SV} {all : List Nat} {x : Nat} (h : NW F all x) : Src R F all (F.up (wds x).length) (wds x) := .inr ⟨rfl, h.le, h.tk⟩
theorem HSub.remR1 {H R : Heap} {F : SV} {all : List Nat} (hr : RemR H F eU all R) : HSub H R := HSub.trans (HSub.remR hr HSub.refl) (HSub.drop HSub.refl)
theorem tMakeW {G : Base} {H R : Heap} {F sx : SV} {all xs : List Nat} {n k m : Nat} [hr : RemR H F eU all R] (hF : Full F) (hl : all.length = F.c) (hw : Wd all) (hk : k ≤ 1000000) (hm : m ≤ k) (hx : Sl R sx eU xs ∨ (sx = F.up xs.length ∧ xs.length = m ∧ xs.length ≤ F.c ∧ all.take xs.length = xs)) : SC G Tryz.prog 58 [(F.up n).val, .int .i64 (k : Int)] H (fun v H' => ∃ (F' : SV) (mid post : List Nat) (R' : Heap), v = (F'.up k).val ∧ Full F' ∧ mid.length = m ∧ mid.length + post.length = F'.c ∧ k ≤ F'.c ∧ Wd mid ∧ Wd post ∧ RdA R' F' mid post sx xs ∧ HSub R' R ∧ H' = Row F' eU (mid ++ post) :: R') := by
  refine SC.out ((tMake hF hk).mono ?_)
  rintro v H' (⟨hkc, rfl, rfl⟩ | ⟨hlt, F', m', rfl, hF', hc', hk', _, rfl⟩)
  · have hml : (all.take m).length = m := by rw [List.length_take]; omega
    refine ⟨_, HSub.remR hr HSub.refl, F, all.take m, all.drop m, R, rfl, hF, hml, by rw [hml, List.length_drop]; omega, hkc, hw.take m, hw.drop m, ?_, HSub.refl, by rw [List.take_append_drop]⟩
    rcases hx with hx | ⟨rfl, h2, h3, h4⟩
    · exact RdA.apart hx
    · subst h2
      have := RdA.self (R := R) (F := F) (mid := all.take xs.length) (post := all.drop xs.length) hF
      rw [hml] at this
      rw [h4] at this ⊢
      exact this
  · refine ⟨_, HSub.refl, F', List.replicate m 0, List.replicate (m' - m) 0, H, rfl, hF', by simp, by simp; omega, by omega, Wd.zeros m, Wd.zeros _, RdA.apart ?_, HSub.remR1 hr, by rw [List.replicate_append_replicate, Nat.add_sub_cancel' (by omega)]⟩
    rcases hx with hx | ⟨h1, h2, h3, h4⟩
    · exact sl_less (HSub.remR1 hr) hx
    · exact Src.sl (.inr ⟨h1, h3, h4⟩) hr hF hl
theorem NW.mk1 {F : SV} {all : List Nat} {x : Nat} (hF : Full F) (hl : all.length = F.c) (hw : Wd all) (ht : all.take (wds x).length = wds x) : NW F all x := ⟨hF, hw, hl, ht, by
  have := congrArg List.length ht
  rw [List.length_take] at this; omega⟩
/-- What nrm leaves. -/
theorem NW.of {F : SV} {xs post : List Nat} {x : Nat} (hF : Full F) (hl : xs.length + post.length = F.c) (hw : Wd xs) (hp : Wd post) (hx : wv xs = x) : NW F (xs ++ post) x := by
  subst hx
  have h1 := wds_wv_le hw
  exact .mk1 hF (by rw [List.length_append]; exact hl) (hw.app hp) (by rw [List.take_append_of_le_length h1, norm_at hw])
theorem row_upto {R : Heap} {F : SV} {xs post : List Nat} (hF : Full F) (hl : xs.length + post.length = F.c) : Sl (Row F eU (xs ++ post) :: R) (F.up xs.length) eU xs := by
  have := Sl.up (Sl.row (H := R) (s := F) (e := eU) (xs := xs ++ post)) hF.nc (n := xs.length) (by rw [List.length_append]; omega)
  rwa [List.take_left] at this
theorem tSetWord {G : Base} {H R : Heap} {F : SV} {all : List Nat} {n x : Nat} [hr : RemR H F eU all R] (hF : Full F) (hl : all.length = F.c) (hw : Wd all) (hx : x < B64) : SC G Tryz.prog 76 [(F.up n).val, .int .u64 (x : Int)] H (fun v H' => ∃ (F' : SV) (all' : List Nat), v = (F'.up (wds x).length).val ∧ NW F' all' x ∧ H' = Row F' eU all' :: R) := by
  refine SC.lss (HSub.remR hr HSub.refl) ?_
  refine SC.out (sc_walk Tryz.func76 rfl Tryz.ntmps76 (by kernel_rfl) (Nat.le_of_ble_eq_true rfl) ?_)
  refine ws_ (wr_ (e_ asn (k:=on_ (qn_ (ws_ (ws_ (wr_ (e_ mv (k:=e_ ieq (k:=on_ (qn_ (wi_ (k:=fun h1=>?_) (m:=fun h1=>?_)))))))))))))
  · refine ws_ (wr_ (e_ mv (k:=?_)))
    refine e_ (ev_slu rfl hF 0 trivial ⟨_, _, rfl, rfl⟩ (Nat.zero_le _)) (k:=?_)
    refine e_ asn (k:=on_ (qn_ (wt_ (qr_ (rt_ Tryz.results76 (k:=?_))))))
    obtain rfl : x = 0 := by have h9 := h1; omega
    exact ⟨_, hsb, F, all, by rw [wds_zero]; rfl, .zero hF hw hl, rfl⟩
  have hx0 : x ≠ 0 := by have h9 := h1; omega
  refine wk_ (qn_ (ws_ (wr_ (e_ mv (k:=?_)))))
  refine s_ (st_call (vs := [_, _]) rfl (tMakeW (F := F) (sx := SV.nil) (xs := []) (n := n) (k := 1) (m := 1) hF hl hw (by decide) (Nat.le_refl _) (.inl ⟨fun L _ => ⟨rfl, Nat.le_refl _, .inl ⟨rfl, rfl⟩⟩⟩))) (k:=?_)
  rintro _ _ ⟨F2, mid, post, R2, rfl, hF2, hml, hmp, hk2, hwm, hwp, _, hR2, rfl⟩
  haveI hz := row_upto (R := R2) (F := F2) (xs := mid) (post := post) hF2 hmp
  rw [hml] at hz
  refine e_ asn (k:=on_ (qn_ (ws_ (wr_ (e_ mv (k:=e_ mv (k:=e_ (ixa (i:=0)) (k:=?_))))))))
  refine s_ (st_store_el (s := F2) (i := 0) rfl rfl rfl (by rw [List.length_append]; omega)) (k:=?_)
  rintro _ _ ⟨rfl, rfl⟩
  refine on_ (qn_ (ws_ (wr_ (e_ mv (k:=e_ asn (k:=on_ (qn_ (wt_ (rt_ Tryz.results76 (k:=?_))))))))))
  refine ⟨_, HSub.keep hR2, F2, _, by rw [wds_one hx0 hx]; rfl, ?_, rfl⟩
  refine .mk1 hF2 (by rw [List.length_set, List.length_append]; omega) ((hwm.app hwp).set hx) ?_
  rw [wds_one hx0 hx]
  match mid, hml with
  | [a], _ => rfl
theorem tMulAddWW {G : Base} {H R : Heap} {F sx : SV} {all : List Nat} {n v u r : Nat} [hr : RemR H F eU all R] (hF : Full F) (hl : all.length = F.c) (hw : Wd all) (hx : Src R F all sx (wds v)) (hv0 : v ≠ 0) (hu0 : u ≠ 0) (hv9 : (wds v).length ≤ 1000) (hu : u < B64) (hr9 : r < B64) : SC G Tryz.prog 99 [(F.up n).val, sx.val, .int .u64 (u : Int), .int .u64 (r : Int)] H (fun v' H' => ∃ (F' : SV) (all' : List Nat), v' = (F'.up (wds (v * u + r)).length).val ∧ NW F' all' (v * u + r) ∧ H' = Row F' eU all' :: R) := by
  have hlv : 0 < (wds v).length := Nat.pos_of_ne_zero fun h => hv0 (wds_nil.1 (List.eq_nil_of_length_eq_zero h))
  haveI hsx := hx.sl hr hF hl
  refine SC.out (sc_walk Tryz.func99 rfl Tryz.ntmps99 (by kernel_rfl) (Nat.le_of_ble_eq_true rfl) ?_)
  refine ws_ (wr_ (e_ asn (k:=on_ (qn_ (ws_ (wr_ (e_ mv (k:=e_ lnn (k:=e_ asn (k:=on_ (qn_ (ws_ (ws_ (?_))))))))))))))
  refine wr_ (e_ mv (k:=e_ ieq (k:=e_ mv (k:=sg_or 3 17 (k:=fun h1=>eg_ mv (k:=eg_ ieq (k:=e_ pkf (k:=on_ (edq))))) (q:=on_ (qn_ (wi_ (k:=fun h2=>?_) (m:=fun h2=>?_))))))))
  · exfalso; have h9 := h2; omega -- DONE
  refine wk_ (qn_ (ws_ (wr_ (e_ mv (k:=e_ mv (k:=e_ iad (k:=?_)))))))
  refine s_ (st_call (vs := [_, _]) rfl (tMakeW (F := F) (sx := sx) (xs := wds v) (n := n) (k := (wds v).length + 1) (m := (wds v).length) hF hl hw (by omega) (Nat.le_succ _) (hx.imp id fun ⟨h1, h2, h3⟩ => ⟨h1, rfl, h2, h3⟩))) (k:=?_)
  rintro _ _ ⟨F2, mid, post, R2, rfl, hF2, hml, hmp, hk2, hwm, hwp, hrd, hR2, rfl⟩
  obtain ⟨p0, post, rfl⟩ : ∃ p0 q, post = p0 :: q := by
    cases post with
    | nil => simp at hmp; omega
    | cons a q => exact ⟨a, q, rfl⟩
  rw [← hml]
  refine e_ asn (k:=on_ (qn_ (ws_ (wr_ (e_ mv (k:=e_ mv (k:=e_ mv (k:=e_ mv (k:=?_)))))))))
  refine e_ (ev_slu (F := F2) (n := mid.length + 1) rfl hF2 mid.length ⟨_, rfl⟩ ⟨_, _, rfl, rfl⟩ (by omega)) (k:=?_)
  refine e_ mv (k:=e_ mv (k:=e_ mv (k:=?_)))
  refine s_ (st_twin (vs := [_, _, _, _]) (e := Extern.Twins.call "math/big.mulAddVWW_g" Tryz.f134.params Tryz.f134.resultTypes) Tryz.func134 (by kernel_rfl) rfl (by kernel_rfl) (fun _ _ => by kernel_rfl) rfl (tMulAddVWW hF2 hrd hml.symm (by omega) (wds_wd v) hu hr9)) (k:=?_)
  rintro _ _ ⟨o, c, rfl, hol, hwo, hc, hval, rfl⟩
  haveI hz : Sl (Row F2 eU (o ++ p0 :: post) :: R2) (F2.up (mid.length + 1)) eU (o ++ [p0]) := by
    have := row_upto (R := R2) (F := F2) (xs := o ++ [p0]) (post := post) hF2 (by simp at hmp ⊢; omega)
    simpa [hol] using this
  have hol2 : (o ++ [p0]).length = mid.length + 1 := by simp [hol]
  have hol3 : (o ++ p0 :: post).length = mid.length + 1 + post.length := by simp [hol]; omega
  refine e_ ixa (k:=?_)
  refine s_ (st_store_el (s := F2) (i := mid.length) rfl rfl rfl (by omega)) (k:=?_)
  rintro _ _ ⟨rfl, rfl⟩
  rw [show (o ++ p0 :: post).set mid.length c = (o ++ [c]) ++ post by rw [← hol, List.set_append, if_neg (Nat.lt_irrefl _), Nat.sub_self]; simp]
  have hwv : wv (o ++ [c]) = v * u + r := by rw [wv_snoc, hol, hval, wv_wds]
  have hoc : (o ++ [c]).length = mid.length + 1 := by simp [hol]
  haveI hz2 : Sl (Row F2 eU (o ++ [c] ++ post) :: R2) (F2.up (mid.length + 1)) eU (o ++ [c]) := by
    have := row_upto (R := R2) (F := F2) (xs := o ++ [c]) (post := post) hF2 (by simp at hmp; omega)
    rwa [hoc] at this
  have hwoc : Wd (o ++ [c]) := hwo.app (Wd.cons hc Wd.nil)
  refine on_ (qn_ (ws_ (wr_ (e_ mv (k:=?_)))))
  refine cp_ (vs:=[_]) rfl (tNorm hF2 (by omega) (by omega) hwoc) (k:=e_ asn (k:=on_ (qn_ (wt_ (rt_ Tryz.results99 (k:=?_))))))
  exact ⟨_, HSub.keep hR2, F2, _, by rw [hwv]; rfl, NW.of hF2 (by simp at hmp; omega) hwoc (fun q hq => hwp q (List.mem_cons_of_mem _ hq)) hwv, rfl⟩
end Go.Sx
