import Derived.Test.YtniphaoadhojlaaGreatDoorFx
import Derived.Test.YtniphaoadhojlaaGreatDoorSxP
import Derived.Test.YtniphaoadhojlaaGreatDoorW203
set_option linter.all false
namespace Go.Sx
open Go Go.Proofs Tryz
set_option maxRecDepth 100000

/-! ## big.Int: whole numbers that are not below 0 -/
def Bg (b x : Nat) : Hp := fun L => ∃ (F : SV) (all : List Nat), NW F all x ∧ Sep [Vr b [.bool false, (F.up (wds x).length).val], Row F eU all] L
theorem sc_bg {G : Base} {P : Program} {f : FuncId} {args : List Value} {K : Value → Heap → Prop} {H R : Heap} (b : Nat) {x : Nat} [hr : Rem H Bg b x R] (en : ∀ (q0 : Array Value) w, (callFunc f q0).run P w = .ok (.enter f q0) w) (h : ∀ (F : SV) (all : List Nat), NW F all x → SC G P f args (Vr b [.bool false, (F.up (wds x).length).val] :: Row F eU all :: R) K) : SC G P f args H K :=
  SC.heap (H' := Bg b x :: R) ⟨en, fun w hw => by
    obtain ⟨hs, L, ⟨L1, L2, rfl, ⟨F, all, hn, M1, M2, rfl, h1, M3, M4, rfl, h2, h3⟩, h4⟩, hl⟩ := hw
    obtain rfl : M4 = [] := h3
    exact (h F all hn).call w ⟨hs, _, ⟨M1, M3 ++ L2, by simp, h1, M3, L2, rfl, h2, h4⟩, hl⟩⟩ fun _ hw => hr.sat hw
section
variable {G : Base} {P : Program} {N : Nat} {Q : Post} {t : Tm} {H : Heap} {ops : Array Oper} {l : List Oper} {dst : Option Tmp} {ty : TypeId} {pos : String} {after : Array Edge} {g : Option (Nat × Bool)}
theorem sat_bg {H R : Heap} {b x : Nat} {w : World} (hr : Rem H Bg b x R) (hw : Sat G w H) : ∃ (F : SV) (all : List Nat), NW F all x ∧ Sat G w (Vr b [.bool false, (F.up (wds x).length).val] :: Row F eU all :: R) := by
  obtain ⟨hs, L, ⟨L1, L2, rfl, ⟨F, all, hn, M1, M2, rfl, h1, M3, M4, rfl, h2, h3⟩, h4⟩, hl⟩ := hr.sat hw
  obtain rfl : M4 = [] := h3
  exact ⟨F, all, hn, hs, _, ⟨M1, M3 ++ L2, by simp, h1, M3, L2, rfl, h2, h4⟩, hl⟩
theorem o_unbg {R : Heap} (b : Nat) {x : Nat} [hr : Rem H Bg b x R] (h : ∀ (F : SV) (all : List Nat), NW F all x → O G P N ops l Q t (Vr b [.bool false, (F.up (wds x).length).val] :: Row F eU all :: R)) : O G P N ops l Q t H :=
  ⟨fun a w ha hw => let ⟨F, all, hn, hs⟩ := sat_bg hr hw; (h F all hn).go a w ha hs⟩
theorem w_unbg {c : Code} {R : Heap} (b : Nat) {x : Nat} [hr : Rem H Bg b x R] (h : ∀ (F : SV) (all : List Nat), NW F all x → W G P N c Q t (Vr b [.bool false, (F.up (wds x).length).val] :: Row F eU all :: R)) : W G P N c Q t H :=
  ⟨fun a w ha hw => let ⟨F, all, hn, hs⟩ := sat_bg hr hw; (h F all hn).go a w ha hs⟩
theorem HSub.bg {R H' : Heap} {b x : Nat} [hr : Rem H Bg b x R] (h : HSub R H') : HSub H (Bg b x :: H') := HSub.rem hr h.keep
theorem HSub.bgI {R R' H' : Heap} {b x : Nat} {F : SV} {all : List Nat} (hn : NW F all x) [hr : Rem H Vr b [.bool false, (F.up (wds x).length).val] R] [hr2 : RemR R F eU all R'] (h : HSub R' H') : HSub H (Bg b x :: H') := by
  refine HSub.rem hr (HSub.trans (H' := Vr b [.bool false, (F.up (wds x).length).val] :: Row F eU all :: R') ?_ ?_)
  · exact HSub.keep (HSub.remR hr2 HSub.refl)
  · intro L hL
    obtain ⟨L1, L2, rfl, h1, L3, L4, rfl, h3, h4⟩ := hL
    obtain ⟨L', M, h5, h6⟩ := h L4 h4
    exact ⟨(L1 ++ L3) ++ L', M, ⟨L1 ++ L3, L', rfl, ⟨F, all, hn, L1, L3, rfl, h1, L3, [], by simp, h3, rfl⟩, h5⟩, by simp only [List.append_assoc]; exact (h6.append_left L3).append_left L1⟩
theorem o_ne {R R2 : Heap} (a b : Nat) {l1 l2 : List Value} [hr : Rem H Vr a l1 R] [hr2 : Rem R Vr b l2 R2] (h : a ≠ b → O G P N ops l Q t H) : O G P N ops l Q t H :=
  ⟨fun a0 w ha hw => (h (by
    obtain ⟨_, L, hL, hl⟩ := hw
    obtain ⟨L', hp, L1, L2, rfl, ⟨E1, rfl⟩, h2⟩ := hr.out L hL
    obtain ⟨L3, hp2, L4, L5, rfl, ⟨E2, rfl⟩, h4⟩ := hr2.out L2 h2
    have hn := ((hp.map (·.1)).nodup_iff).2 hl.nodup
    rw [List.map_append, List.nodup_append] at hn
    have hm : b ∈ L2.map (·.1) := ((hp2.map (·.1)).mem_iff).1 (by simp)
    exact fun he => hn.2.2 a (by simp) b hm he)).go a0 w ha hw⟩
theorem bne_ {T U : TypeId} {x y : Operand} {a b : Bool} [hT : Und P T .bool] (hx : evo t x = some (.bool a)) (hy : evo t y = some (.bool b)) : Ev G P ⟨dst, .binOp .neq T x y U, ty, pos, after, g⟩ t H (.bool (a != b)) := fun ρ hρ w _ => by
  have h2 := run_equal (P := P) (w := w) (T := T) (x := .bool a) (y := .bool b) (r := (a == b)) (fun d => by simp only [Op.equalIn, Sem.run_bind, run_und (T := T), Result.andThen_ok, Sem.run_pure])
  simp [execOp, hρ _ _ hx, hρ _ _ hy, eqGuard, binOp, h2, bne]
theorem beq_ {T U : TypeId} {x y : Operand} {a b : Bool} [hT : Und P T .bool] (hx : evo t x = some (.bool a)) (hy : evo t y = some (.bool b)) : Ev G P ⟨dst, .binOp .eql T x y U, ty, pos, after, g⟩ t H (.bool (a == b)) := fun ρ hρ w _ => by
  have h2 := run_equal (P := P) (w := w) (T := T) (x := .bool a) (y := .bool b) (r := (a == b)) (fun d => by simp only [Op.equalIn, Sem.run_bind, run_und (T := T), Result.andThen_ok, Sem.run_pure])
  simp [execOp, hρ _ _ hx, hρ _ _ hy, eqGuard, binOp, h2]
end
theorem tNMul0 {G : Base} {H : Heap} {F sx sy : SV} {ys : List Nat} {n : Nat} {q : Value} (hF : Full F) [hy : Sl H sy eU ys] [hx : Sl H sx eU ([] : List Nat)] (hy0 : 0 < ys.length) : SC G Tryz.prog 67 [(F.up n).val, q, sy.val, sx.val] H (fun v H' => v = (F.up 0).val ∧ H' = H) := by
  refine SC.out (sc_walk Tryz.func67 rfl Tryz.ntmps67 (by kernel_rfl) (Nat.le_of_ble_eq_true rfl) ?_)
  refine ws_ (wr_ (e_ asn (k:=on_ (qn_ (ws_ (wr_ (e_ mv (k:=e_ lnn (k:=e_ asn (k:=on_ (qn_ (ws_ (wr_ (?_))))))))))))))
  refine e_ mv (k:=e_ lnn (k:=e_ asn (k:=on_ (qn_ (ws_ (wb_ (ws_ (wr_ (e_ mv (k:=e_ mv (k:=e_ ilt (k:=e_ asn (k:=on_ (?_))))))))))))))
  refine qn_ (wi_ (k:=fun h1=>?_) (m:=fun h1=>?_))
  · exfalso; have h9 := h1; simp at h9; omega -- DONE
  refine ws_ (wr_ (e_ mv (k:=e_ ieq (k:=e_ mv (k:=sg_or 3 32 (k:=fun h2=>eg_ mv (k:=eg_ ieq (k:=e_ pkf (k:=on_ (edq))))) (q:=e_ asn (k:=on_ (qn_ (wi_ (k:=fun h3=>?_) (m:=fun h3=>?_))))))))))
  · refine ws_ (wr_ (e_ mv (k:=?_)))
    refine e_ (ev_slu rfl hF 0 trivial ⟨_, _, rfl, rfl⟩ (Nat.zero_le _)) (k:=?_)
    refine e_ asn (k:=on_ (qn_ (wt_ (br_ (qr_ (rt_ Tryz.results67 (k:=?_)))))))
    exact ⟨_, hsb, rfl, rfl⟩
  exfalso; have h9 := h3; simp at h9 -- DONE
theorem wds_word {u : Nat} (h0 : u ≠ 0) (h : u < B64) : (wds u).length = 1 := by rw [wds_one h0 h]; rfl
theorem tNMul {G : Base} {H R : Heap} {F sx sy : SV} {all : List Nat} {n v u : Nat} {q : Value} [hr : RemR H F eU all R] (hF : Full F) (hl : all.length = F.c) (hw : Wd all) (hx : Src R F all sx (wds v)) [hy : Sl R sy eU (wds u)] (hu0 : u ≠ 0) (hu : u < B64) (hv9 : (wds v).length ≤ 1000) : SC G Tryz.prog 67 [(F.up n).val, q, sx.val, sy.val] H (fun v' H' => ∃ (F' : SV) (all' : List Nat), v' = (F'.up (wds (v * u)).length).val ∧ NW F' all' (v * u) ∧ H' = Row F' eU all' :: R) := by
  haveI hsx := hx.sl hr hF hl
  haveI hsy := sl_less (HSub.remR1 hr) hy
  have hul := wds_word hu0 hu
  refine SC.out (sc_walk Tryz.func67 rfl Tryz.ntmps67 (by kernel_rfl) (Nat.le_of_ble_eq_true rfl) ?_)
  refine ws_ (wr_ (e_ asn (k:=on_ (qn_ (ws_ (wr_ (e_ mv (k:=e_ lnn (k:=e_ asn (k:=on_ (qn_ (ws_ (wr_ (?_))))))))))))))
  refine e_ mv (k:=e_ lnn (k:=e_ asn (k:=on_ (qn_ (ws_ (wb_ (ws_ (wr_ (e_ mv (k:=e_ mv (k:=e_ ilt (k:=e_ asn (k:=on_ (?_))))))))))))))
  refine qn_ (wi_ (k:=fun h1=>?_) (m:=fun h1=>?_))
  · have hv0 : v = 0 := wds_nil.1 (List.eq_nil_of_length_eq_zero (by have h9 := h1; omega))
    subst hv0
    rw [wds_zero] at hsx
    refine ws_ (wr_ (e_ mv (k:=e_ mv (k:=e_ mv (k:=e_ mv (k:=?_))))))
    refine cp_ (vs:=[_,_,_,_]) rfl (tNMul0 (sx := sx) (sy := sy) (ys := wds u) hF (by omega)) (k:=e_ asn (k:=on_ (qn_ (wt_ (br_ (qr_ (rt_ Tryz.results67 (k:=?_))))))))
    exact ⟨_, HSub.remR hr HSub.refl, F, all, by rw [Nat.zero_mul, wds_zero]; rfl, by rw [Nat.zero_mul]; exact .zero hF hw hl, rfl⟩
  have hv0 : v ≠ 0 := fun h8 => by
    have h9 := h1
    have h7 : (wds v).length = 0 := by rw [h8, wds_zero]; rfl
    omega
  refine ws_ (wr_ (e_ mv (k:=e_ ieq (k:=e_ mv (k:=sg_or 3 32 (k:=fun h2=>eg_ mv (k:=eg_ ieq (k:=e_ pkf (k:=on_ (edq))))) (q:=e_ asn (k:=on_ (qn_ (wi_ (k:=fun h3=>?_) (m:=fun h3=>?_))))))))))
  · exfalso; have h9 := h3; omega -- DONE
  refine ws_ (wr_ (e_ mv (k:=e_ ieq (k:=e_ asn (k:=on_ (qn_ (wi_ (k:=fun h4=>?_) (m:=fun h4=>?_))))))))
  · refine ws_ (wr_ (e_ mv (k:=e_ mv (k:=e_ mv (k:=e_ (ixa (i:=0)) (k:=e_ (lel (hy:=(show (wds u)[0]? = some u by rw [wds_one hu0 hu]; rfl))) (k:=?_)))))))
    refine s_ (st_call (vs := [_, _, _, _]) rfl (tMulAddWW (v := v) (u := u) (r := 0) hF hl hw hx hv0 hu0 hv9 hu (by decide))) (k:=?_)
    rintro _ _ ⟨F2, all2, rfl, hn2, rfl⟩
    refine e_ asn (k:=on_ (qn_ (wt_ (br_ (qr_ (rt_ Tryz.results67 (k:=?_)))))))
    exact ⟨_, hsb, F2, all2, rfl, hn2, rfl⟩
  exfalso; have h9 := h4; omega -- DONE
theorem tIntMul {G : Base} {H R R2 : Heap} {b c v u : Nat} [hb : Rem H Bg b v R] [hc : Rem R Bg c u R2] (hu0 : u ≠ 0) (hu : u < B64) (hv9 : (wds v).length ≤ 1000) : SC G Tryz.prog 42 [.pointer (some ⟨b, 0, none⟩), .pointer none, .pointer (some ⟨b, 0, none⟩), .pointer (some ⟨c, 0, none⟩)] H (fun v' H' => v' = .tuple #[] ∧ H' = Bg b (v * u) :: Bg c u :: R2) := by
  refine SC.lss (HSub.rem hb (HSub.keep (HSub.rem hc HSub.refl))) ?_
  have hen : ∀ (q0 : Array Value) w, (callFunc 42 q0).run Tryz.prog w = .ok (.enter 42 q0) w := fun _ _ => by kernel_rfl
  refine sc_bg b hen fun F all hn => sc_bg c hen fun F' all' hn' => ?_
  refine SC.out (sc_walk Tryz.func42 rfl Tryz.ntmps42 (by kernel_rfl) (Nat.le_of_ble_eq_true rfl) ?_)
  refine ws_ (ws_ (wr_ (?_)))
  refine o_ne c b fun hcb => ?_
  refine e_ mv (k:=e_ mv (k:=?_))
  refine e_ (ev_eql_ptr_other (by decide) (Ne.symm hcb) rfl rfl) (k:=?_)
  refine on_ (qn_ (wi_ (k:=fun h1=>?_) (m:=fun h1=>?_)))
  · exact absurd h1 (by decide) -- DONE
  refine wk_ (qn_ (ws_ (?_)))
  refine w_draw Tryz_mixed (fun i => [14, 17].contains i) (fun k H => (k = 4 → HasV H b [.bool false, (F.up (wds v).length).val]) ∧ (k = 9 → HasV H b [.bool false, (F.up (wds v).length).val]) ∧ (k = 13 → HasV H c [.bool false, (F'.up (wds u).length).val])) (af_ 0 (q:=Qv.of_ev fun H hH=>mv) (k:=af_ 1 (q:=Qv.of_ev fun H hH=>mv) (k:=af_ 2 (q:=Qv.of_ev fun H hH=>nck) (k:=af_ 3 (q:=Qv.of_ev fun H hH=>fla) (k:=?_)))))
  refine an_first 4 rfl rfl (by kernel_rfl) rfl (Qv.of_ev fun H hH=>by have hN := hH.1 rfl; exact ldv) (?_)
  refine af_ 5 (q:=Qv.of_ev fun H hH=>mv) (k:=af_ 6 (q:=Qv.of_ev fun H hH=>mv) (k:=af_ 7 (q:=Qv.of_ev fun H hH=>nck) (k:=af_ 8 (q:=Qv.of_ev fun H hH=>fla) (k:=?_))))
  refine an_first 9 rfl rfl (by kernel_rfl) rfl (Qv.of_ev fun H hH=>by have hN := hH.2.1 rfl; exact ldv) (?_)
  refine af_ 10 (q:=Qv.of_ev fun H hH=>mv) (k:=af_ 11 (q:=Qv.of_ev fun H hH=>nck) (k:=af_ 12 (q:=Qv.of_ev fun H hH=>fla) (k:=?_)))
  refine an_first 13 rfl rfl (by kernel_rfl) rfl (Qv.of_ev fun H hH=>by have hN := hH.2.2 rfl; exact ldv) (?_)
  refine an_step 14 rfl (by kernel_rfl) rfl (fun k hk => ⟨fun hi => by subst hi; first | infer_instance | exact hn2.sl inferInstance, fun hi => by subst hi; first | infer_instance | exact hn2.sl inferInstance, fun hi => by subst hi; first | infer_instance | exact hn2.sl inferInstance⟩) (st_call (vs := [_, _, _, _]) rfl (tNMul (sy := F'.up (wds u).length) (hy := hn'.sl inferInstance) hn.fl hn.len hn.wd hn.src hu0 hu hv9)) ?_
  rintro _ _ ⟨F2, all2, rfl, hn2, rfl⟩
  refine af_ 15 (q:=Qv.of_ev fun H hH=>nck) (k:=af_ 16 (q:=Qv.of_ev fun H hH=>fla) (k:=?_))
  refine an_step 17 rfl (by kernel_rfl) rfl (fun k hk => ⟨fun hi => absurd hk (by subst hi; exact not_live (by kernel_rfl)), fun hi => absurd hk (by subst hi; exact not_live (by kernel_rfl)), fun hi => absurd hk (by subst hi; exact not_live (by kernel_rfl))⟩) (st_store rfl rfl rfl) ?_
  rintro _ _ ⟨rfl, rfl⟩
  refine an_nil (by kernel_rfl) (fun k hk => ⟨fun hi => absurd hk (by subst hi; exact not_live (by kernel_rfl)), fun hi => absurd hk (by subst hi; exact not_live (by kernel_rfl)), fun hi => absurd hk (by subst hi; exact not_live (by kernel_rfl))⟩) (qn_ (?_))
  refine w_draw Tryz_mixed (fun i => [20].contains i) (fun k H => (k = 4 → HasV H b [.bool false, (F2.up (wds (v * u)).length).val]) ∧ (k = 5 → Sl H (F2.up (wds (v * u)).length) eU (wds (v * u))) ∧ (k = 11 → HasV H b [.bool false, (F2.up (wds (v * u)).length).val]) ∧ (k = 15 → HasV H c [.bool false, (F'.up (wds u).length).val])) (af_ 0 (q:=Qv.of_ev fun H hH=>mv) (k:=af_ 1 (q:=Qv.of_ev fun H hH=>mv) (k:=af_ 2 (q:=Qv.of_ev fun H hH=>nck) (k:=af_ 3 (q:=Qv.of_ev fun H hH=>fla) (k:=?_)))))
  refine an_first 4 rfl rfl (by kernel_rfl) rfl (Qv.of_ev fun H hH=>by have hN := hH.1 rfl; exact ldv) (?_)
  refine an_first 5 rfl rfl (by kernel_rfl) rfl (Qv.of_ev fun H hH=>by have hN := hH.2.1 rfl; exact lnn) (?_)
  refine af_ 6 (q:=Qv.of_ev fun H hH=>igt) (k:=?_)
  refine an_split 7 rfl rfl (by kernel_rfl) rfl (Qv.of_ev fun H hH=>mv) (fun h2 => ?_) (fun h2 => ?_)
  · replace h2 := nrm h2
    refine ag_ 8 (q:=Qv.of_ev fun H hH=>mv) (k:=ag_ 9 (q:=Qv.of_ev fun H hH=>nck) (k:=ag_ 10 (q:=Qv.of_ev fun H hH=>fla) (k:=?_)))
    refine an_on 11 rfl rfl rfl rfl (by kernel_rfl) rfl (Qv.of_ev fun H hH=>by have hN := hH.2.2.1 rfl; exact ldv) (?_)
    refine ag_ 12 (q:=Qv.of_ev fun H hH=>mv) (k:=ag_ 13 (q:=Qv.of_ev fun H hH=>nck) (k:=ag_ 14 (q:=Qv.of_ev fun H hH=>fla) (k:=?_)))
    refine an_on 15 rfl rfl rfl rfl (by kernel_rfl) rfl (Qv.of_ev fun H hH=>by have hN := hH.2.2.2 rfl; exact ldv) (?_)
    refine an_on 16 rfl rfl rfl rfl (by kernel_rfl) rfl (Qv.of_ev fun H hH=>bne_ rfl rfl) (?_)
    refine af_ 17 (q:=Qv.of_ev fun H hH=>pkt) (k:=af_ 18 (q:=Qv.of_ev fun H hH=>nck) (k:=af_ 19 (q:=Qv.of_ev fun H hH=>fla) (k:=?_)))
    refine an_step 20 rfl (by kernel_rfl) rfl (fun k hk => ⟨fun hi => by subst hi; first | infer_instance | exact hn2.sl inferInstance, fun hi => by subst hi; first | infer_instance | exact hn2.sl inferInstance, fun hi => by subst hi; first | infer_instance | exact hn2.sl inferInstance, fun hi => by subst hi; first | infer_instance | exact hn2.sl inferInstance⟩) (st_store rfl rfl rfl) ?_
    rintro _ _ ⟨rfl, rfl⟩
    refine an_nil (by kernel_rfl) (fun k hk => ⟨fun hi => absurd hk (by subst hi; exact not_live (by kernel_rfl)), fun hi => absurd hk (by subst hi; exact not_live (by kernel_rfl)), fun hi => absurd hk (by subst hi; exact not_live (by kernel_rfl)), fun hi => absurd hk (by subst hi; exact not_live (by kernel_rfl))⟩) (rt_ Tryz.results42 (k:=?_))
    exact ⟨_, HSub.bgI hn2 (HSub.bgI hn' HSub.refl), rfl, rfl⟩
  replace h2 := nrm h2
  refine ao_ 8 (k:=ao_ 9 (k:=ao_ 10 (k:=ao_ 11 (k:=ao_ 12 (k:=ao_ 13 (k:=ao_ 14 (k:=ao_ 15 (k:=ao_ 16 (k:=af_ 17 (q:=Qv.of_ev fun H hH=>pkf) (k:=af_ 18 (q:=Qv.of_ev fun H hH=>nck) (k:=af_ 19 (q:=Qv.of_ev fun H hH=>fla) (k:=?_))))))))))))
  refine an_step 20 rfl (by kernel_rfl) rfl (fun k hk => ⟨fun hi => by subst hi; first | infer_instance | exact hn2.sl inferInstance, fun hi => by subst hi; first | infer_instance | exact hn2.sl inferInstance, fun hi => by subst hi; first | infer_instance | exact hn2.sl inferInstance, fun hi => by subst hi; first | infer_instance | exact hn2.sl inferInstance⟩) (st_store rfl rfl rfl) ?_
  rintro _ _ ⟨rfl, rfl⟩
  refine an_nil (by kernel_rfl) (fun k hk => ⟨fun hi => absurd hk (by subst hi; exact not_live (by kernel_rfl)), fun hi => absurd hk (by subst hi; exact not_live (by kernel_rfl)), fun hi => absurd hk (by subst hi; exact not_live (by kernel_rfl)), fun hi => absurd hk (by subst hi; exact not_live (by kernel_rfl))⟩) (rt_ Tryz.results42 (k:=?_))
  exact ⟨_, HSub.bgI hn2 (HSub.bgI hn' HSub.refl), rfl, rfl⟩
end Go.Sx
