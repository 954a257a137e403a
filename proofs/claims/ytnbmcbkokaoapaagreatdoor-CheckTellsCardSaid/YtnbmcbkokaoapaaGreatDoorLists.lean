/- Walks: lists of numbers, changed by value. -/
import Derived.Test.YtnbmcbkokaoapaaGreatDoorClone
import Derived.Test.YtnbmcbkokaoapaaGreatDoorAv9
namespace Go.Proofs.YtnbmcbkokaoapaaGreatDoor
open Go Go.AV
set_option maxRecDepth 100000
set_option maxHeartbeats 400000

def insRen : Go.Shelf.Ren := ⟨fun | 21 => 143 | 27 => 161 | 28 => 162 | 35 => 167 | 39 => 168 | n => n, fun | 22 => 23 | 3 => 3 | 4 => 4 | 0 => 0 | n => n, fun n => n⟩
def delRen : Go.Shelf.Ren := ⟨fun | 23 => 142 | n => n, fun | 22 => 23 | 3 => 3 | 4 => 4 | 0 => 0 | n => n, fun n => n⟩
theorem insLays : Go.Proofs.Lays2.n21 Tryz.prog insRen := { mixed := mixed, f21 := (by kernel_rfl), f27 := (by kernel_rfl), f28 := (by kernel_rfl), f35 := (by kernel_rfl), f39 := (by kernel_rfl), t0 := Tryz.underlying0, a0 := Tryz.isAgg0, z0 := Tryz.sizeOf0, v0 := Tryz.zeroValue0, t3 := Tryz.underlying3, a3 := Tryz.isAgg3, z3 := Tryz.sizeOf3, v3 := Tryz.zeroValue3, t4 := Tryz.underlying4, a4 := Tryz.isAgg4, z4 := Tryz.sizeOf4, v4 := Tryz.zeroValue4, t22 := Tryz.underlying23, a22 := Tryz.isAgg23, z22 := Tryz.sizeOf23, v22 := Tryz.zeroValue23, i3 := (by kernel_rfl) }
theorem delLays : Go.Proofs.Lays2.n23 Tryz.prog delRen := { mixed := mixed, f23 := (by kernel_rfl), t0 := Tryz.underlying0, a0 := Tryz.isAgg0, z0 := Tryz.sizeOf0, v0 := Tryz.zeroValue0, t3 := Tryz.underlying3, a3 := Tryz.isAgg3, z3 := Tryz.sizeOf3, v3 := Tryz.zeroValue3, t4 := Tryz.underlying4, a4 := Tryz.isAgg4, z4 := Tryz.sizeOf4, v4 := Tryz.zeroValue4, t22 := Tryz.underlying23, a22 := Tryz.isAgg23, z22 := Tryz.sizeOf23, v22 := Tryz.zeroValue23, i3 := (by kernel_rfl) }

/-- A copy that may be written to. -/
theorem cloneIM_calls (k : SK) (l : List Int) (hb : l.length ≤ 1000000) (h0 : 0 < l.length) (h : Hp) : ACalls Tryz.prog G 29 [.sl k 1 l.length (cInts l)] h fun r h' => ∃ id slack, h.fresh id ∧ r = .msl id 0 l.length ∧ h' = h.setBox id (cInts l ++ slack) := by
  refine ACalls.enter Tryz.func29 rfl Tryz.ntmps29 Tryz.results29 rfl ?_
  refine AW.seq ?_
  refine AW.region ?_
  refine AOps.q rfl rfl rfl (q_as rfl (rfl : _ = V.snil)) ?_
  refine AOps.nil ?_
  refine AW.seq ?_
  refine AW.seq ?_
  refine AW.region ?_
  refine AOps.q rfl rfl rfl (q_mv rfl (rfl : _ = V.sl _ _ _ _)) ?_
  refine AOps.s rfl rfl rfl (a_eqnil_sl Tryz.underlying23 rfl rfl (fun b hnil => ?_))
  refine AOps.nil ?_
  refine AW.cond rfl (fun c0 => ?_) (fun c0 => ?_)
  · skip
    refine AW.seq ?_
    refine AW.region ?_
    refine AOps.q rfl rfl rfl (q_as rfl (rfl : _ = V.snil)) ?_
    refine AOps.nil ?_
    refine AW.ret ?_
    exact absurd (hnil c0).2 (by omega)
  · skip
    refine AW.skip ?_
    refine AW.seq ?_
    refine AW.region ?_
    refine AOps.q rfl rfl rfl (q_buildSl (ds := []) rfl Tryz.underlying23 Tryz.sizeOf3 Tryz.zeroValue3 rfl rfl rfl rfl rfl) ?_
    refine AOps.q rfl rfl rfl (q_mv rfl (rfl : _ = V.sl _ _ _ _)) ?_
    refine AOps.s rfl rfl rfl (a_append_box rfl Tryz.underlying23 (i := Tryz.t3) (by kernel_rfl) rfl (n := 1) (by' := 8) rfl rfl rfl rfl rfl (by simp [cInts_len]) h0 (by decide) (by omega) (by omega) rfl (fun id7 hid7 slack => ?_))
    refine AOps.q rfl rfl rfl (q_as rfl (rfl : _ = V.msl _ _ _)) ?_
    refine AOps.nil ?_
    refine AW.ret ?_
    exact retQ.mk' (.one _) (VLe.refl _) (.refl _) ⟨id7, slack, hid7, rfl, rfl⟩

/-- A copy that may be written to. -/
theorem cloneOM_calls (k : SK) (l : List Obj) (hb : l.length ≤ 1000000) (h0 : 0 < l.length) (h : Hp) : ACalls Tryz.prog G 49 [.sl k 18 l.length (cObjs l)] h fun r h' => ∃ id slack, h.fresh id ∧ r = .msl id 0 l.length ∧ h' = h.setBox id (cObjs l ++ slack) := by
  refine ACalls.enter Tryz.func49 rfl Tryz.ntmps49 Tryz.results49 rfl ?_
  refine AW.seq ?_
  refine AW.region ?_
  refine AOps.q rfl rfl rfl (q_as rfl (rfl : _ = V.snil)) ?_
  refine AOps.nil ?_
  refine AW.seq ?_
  refine AW.seq ?_
  refine AW.region ?_
  refine AOps.q rfl rfl rfl (q_mv rfl (rfl : _ = V.sl _ _ _ _)) ?_
  refine AOps.s rfl rfl rfl (a_eqnil_sl Tryz.underlying22 rfl rfl (fun b hnil => ?_))
  refine AOps.nil ?_
  refine AW.cond rfl (fun c0 => ?_) (fun c0 => ?_)
  · skip
    refine AW.seq ?_
    refine AW.region ?_
    refine AOps.q rfl rfl rfl (q_as rfl (rfl : _ = V.snil)) ?_
    refine AOps.nil ?_
    refine AW.ret ?_
    exact absurd (hnil c0).2 (by omega)
  · skip
    refine AW.skip ?_
    refine AW.seq ?_
    refine AW.region ?_
    refine AOps.q rfl rfl rfl (q_buildSl (ds := []) rfl Tryz.underlying22 Tryz.sizeOf49 Tryz.zeroValue49 rfl rfl rfl rfl rfl) ?_
    refine AOps.q rfl rfl rfl (q_mv rfl (rfl : _ = V.sl _ _ _ _)) ?_
    refine AOps.s rfl rfl rfl (a_append_box rfl Tryz.underlying22 (i := Tryz.t49) (by kernel_rfl) rfl (n := 18) (by' := 144) rfl rfl rfl rfl rfl (by simp [cObjs_len]) h0 (by decide) (by omega) (by omega) rfl (fun id7 hid7 slack => ?_))
    refine AOps.q rfl rfl rfl (q_as rfl (rfl : _ = V.msl _ _ _)) ?_
    refine AOps.nil ?_
    refine AW.ret ?_
    exact retQ.mk' (.one _) (VLe.refl _) (.refl _) ⟨id7, slack, hid7, rfl, rfl⟩

/-- .. of nothing. -/
theorem cloneI0_calls (k : SK) (h : Hp) : ACalls Tryz.prog G 29 [.sl k 1 0 []] h fun r h' => r = .sl .full 1 0 [] ∧ h' = h := by
  refine ACalls.enter Tryz.func29 rfl Tryz.ntmps29 Tryz.results29 rfl ?_
  refine AW.seq ?_
  refine AW.region ?_
  refine AOps.q rfl rfl rfl (q_as rfl (rfl : _ = V.snil)) ?_
  refine AOps.nil ?_
  refine AW.seq ?_
  refine AW.seq ?_
  refine AW.region ?_
  refine AOps.q rfl rfl rfl (q_mv rfl (rfl : _ = V.sl _ _ _ _)) ?_
  refine AOps.s rfl rfl rfl (a_eqnil_sl Tryz.underlying23 rfl rfl (fun b hnil => ?_))
  refine AOps.nil ?_
  refine AW.cond rfl (fun c0 => ?_) (fun c0 => ?_)
  · skip
    refine AW.seq ?_
    refine AW.region ?_
    refine AOps.q rfl rfl rfl (q_as rfl (rfl : _ = V.snil)) ?_
    refine AOps.nil ?_
    refine AW.ret ?_
    exact retQ.mk' (.one _) VLe.nilfull (.refl _) ⟨rfl, rfl⟩
  · skip
    refine AW.skip ?_
    refine AW.seq ?_
    refine AW.region ?_
    refine AOps.q rfl rfl rfl (q_buildSl (ds := []) rfl Tryz.underlying23 Tryz.sizeOf3 Tryz.zeroValue3 rfl rfl rfl rfl rfl) ?_
    refine AOps.q rfl rfl rfl (q_mv rfl (rfl : _ = V.sl _ _ _ _)) ?_
    refine AOps.s rfl rfl rfl (a_append_nil rfl Tryz.underlying23 (i := Tryz.t3) (by kernel_rfl) rfl rfl ?_)
    refine AOps.q rfl rfl rfl (q_as rfl (rfl : _ = V.sl _ _ _ _)) ?_
    refine AOps.nil ?_
    refine AW.ret ?_
    exact retQ.mk' (.one _) (VLe.refl _) (.refl _) ⟨rfl, rfl⟩

theorem place_calls (l : List Int) (at' : Int) (h : Hp) : ACalls Tryz.prog G 141 [eInts l, .int .i64 at'] h fun r h' => r = .bool (inN at' l.length) ∧ h' = h := by
  refine ACalls.enter Tryz.func141 rfl Tryz.ntmps141 Tryz.results141 rfl ?_
  refine AW.seq ?_
  refine AW.region ?_
  refine AOps.q rfl rfl rfl (q_as rfl (rfl : _ = V.bool _)) ?_
  refine AOps.nil ?_
  refine AW.seq ?_
  refine AW.region ?_
  refine AOps.q rfl rfl rfl (q_mv rfl (rfl : _ = V.int _ _)) ?_
  refine AOps.q rfl rfl rfl (q_ge rfl rfl rfl) ?_
  refine AOps.q rfl rfl rfl (q_mv rfl (rfl : _ = V.bool _)) ?_
  refine AOps.g (wanted_t rfl rfl) rfl rfl (fun hc => TLe.refl _) (fun hc => q_mv rfl (rfl : _ = V.int _ _)) ?_
  refine AOps.g (wanted_t rfl rfl) rfl rfl (fun hc => TLe.refl _) (fun hc => q_mv rfl (rfl : _ = V.sl _ _ _ _)) ?_
  refine AOps.g (wanted_t rfl rfl) rfl rfl (fun hc => TLe.put (d := 9) (VLe.opt hc) (TLe.refl _)) (fun hc => q_len rfl Tryz.underlying23 rfl) ?_
  refine AOps.g (wanted_t rfl rfl) rfl rfl (fun hc => TLe.put (d := 10) (VLe.opt hc) (TLe.put (d := 8) (VLe.opt hc) (TLe.refl _))) (fun hc => q_lt rfl rfl rfl) ?_
  refine AOps.q rfl rfl rfl (q_pickg rfl rfl (fun hp => by exact VLe.opt hp) (fun hp => by exact VLe.refl _)) ?_
  refine AOps.q rfl rfl rfl (q_as rfl (rfl : _ = V.bool _)) ?_
  refine AOps.nil ?_
  refine AW.ret ?_
  exact retQ.mk' (.one _) (VLe.of_eq (congrArg V.bool (by simp [inN]))) (.refl _) ⟨rfl, rfl⟩

def removeF (l : List Int) (i : Int) : List Int × Int × Int := if inN i l.length then (l.take i.toNat ++ l.drop (i.toNat + 1), l.getD i.toNat 0, 0) else ([], 0, 1)
def insertF (l : List Int) (i x : Int) : List Int × Int := if i = l.length ∨ inN i l.length = true then (l.take i.toNat ++ x :: l.drop i.toNat, 0) else ([], 1)
abbrev eRemove (x : List Int × Int × Int) : V := .tup [eInts x.1, .int .i64 x.2.1, eE x.2.2]
abbrev eInsert (x : List Int × Int) : V := .tup [eInts x.1, eE x.2]
theorem rem_eq {l : List Int} {i : Nat} (hi : i < l.length) : V.sl .imm 1 (l.length - (i + 1 - i)) (nums (l.take i ++ l.drop (i + 1))) = eInts (l.take (i : Int).toNat ++ l.drop ((i : Int).toNat + 1)) := by
  have : l.length - (i + 1 - i) = (l.take i ++ l.drop (i + 1)).length := by simp; omega
  rw [this]; rfl
theorem ins_eq {l : List Int} {i : Nat} {x : Int} (hi : i ≤ l.length) : V.sl .imm 1 (l.length + 1) (nums (l.take i ++ x :: l.drop i)) = eInts (l.take (i : Int).toNat ++ x :: l.drop (i : Int).toNat) := by
  rw [← ins_len l x hi]; rfl
theorem ins_at {l : List Int} {i : Nat} (hi : i ≤ l.length) : (i : Int) = l.length ∨ inN i l.length = true := by simp [inN]; omega

theorem remove_calls (l : List Int) (at' : Int) (hb : l.length ≤ 1000000) (h : Hp) : ACalls Tryz.prog G 130 [eInts l, .int .i64 at'] h fun r h' => r = eRemove (removeF l at') ∧ h' = h := by
  refine ACalls.enter Tryz.func130 rfl Tryz.ntmps130 Tryz.results130 rfl ?_
  refine AW.seq ?_
  refine AW.region ?_
  refine AOps.q rfl rfl rfl (q_as rfl (rfl : _ = V.snil)) ?_
  refine AOps.q rfl rfl rfl (q_as rfl (rfl : _ = V.int _ _)) ?_
  refine AOps.q rfl rfl rfl (q_as rfl (rfl : _ = V.inil)) ?_
  refine AOps.nil ?_
  refine AW.seq ?_
  refine AW.seq ?_
  refine AW.region ?_
  refine AOps.q rfl rfl rfl (q_mv rfl (rfl : _ = V.sl _ _ _ _)) ?_
  refine AOps.q rfl rfl rfl (q_mv rfl (rfl : _ = V.int _ _)) ?_
  refine AOps.q rfl rfl rfl (QOp.call rfl (by exact Tryz.call141) fun h' hl' => by exact place_calls _ _ h') ?_
  refine AOps.q rfl rfl rfl (q_not rfl rfl) ?_
  refine AOps.nil ?_
  refine AW.cond rfl (fun c0 => ?_) (fun c0 => ?_)
  · skip
    refine AW.seq ?_
    refine AW.region ?_
    refine AOps.q rfl rfl rfl (q_iface rfl Tryz.underlying62 rfl) ?_
    refine AOps.q rfl rfl rfl (q_as rfl (rfl : _ = V.snil)) ?_
    refine AOps.q rfl rfl rfl (q_as rfl (rfl : _ = V.int _ _)) ?_
    refine AOps.q rfl rfl rfl (q_as rfl (rfl : _ = V.iface _ _)) ?_
    refine AOps.nil ?_
    refine AW.ret ?_
    exact retQ.mk' (.three _ _ _) (by rw [removeF, if_neg (by simpa using c0)]; exact LLe.tup (.cons VLe.nilimm (.cons (.refl _) (.cons (.of_eq (eErr_ne (by decide)).symm) .nil)))) (.refl _) ⟨rfl, rfl⟩
  · obtain ⟨i, rfl⟩ : ∃ i : Nat, at' = i := ⟨at'.toNat, by simp [inN] at c0; omega⟩
    have hi : i < l.length := by simp [inN] at c0; omega
    refine AW.skip ?_
    refine AW.seq ?_
    refine AW.draw [5] [0, 3, 6, 7, 8, 9] [(0, true), (2, true), (3, true), (4, true), (6, true), (7, true), (8, true), (9, true), (1, false), (5, false), (10, true), (11, true), (12, true)] mixed (by kernel_rfl) rfl (by kernel_rfl) ?_
    refine AOrd.p rfl rfl rfl (fun _ => q_mv rfl (rfl : _ = V.sl _ _ _ _)) ?_
    refine AOrd.q rfl rfl rfl rfl (q_mv rfl (rfl : _ = V.int _ _)) ?_
    refine AOrd.p rfl rfl rfl (fun _ => q_mv rfl (rfl : _ = V.int _ _)) ?_
    refine AOrd.q rfl rfl rfl rfl (q_add' rfl rfl rfl (by omega)) ?_
    refine AOrd.p rfl rfl rfl (fun _ => q_mv rfl (rfl : _ = V.sl _ _ _ _)) ?_
    refine AOrd.p rfl rfl rfl (fun _ => q_mv rfl (rfl : _ = V.int _ _)) ?_
    refine AOrd.p rfl rfl rfl (fun _ => q_ia_s rfl Tryz.underlying23 Tryz.sizeOf3 rfl rfl (by omega) (by omega) (cInts_at hi)) ?_
    refine AOrd.p rfl rfl rfl (fun _ => q_load_i1 rfl Tryz.isAgg3 rfl rfl) ?_
    refine AOrd.s' rfl rfl rfl ((AStep.call rfl (by exact Tryz.call29) (cloneIM_calls .imm l hb (by omega) _)).mono ?_)
    rintro x1 h1 ⟨id1, slack, hid1, rfl, rfl⟩
    refine ⟨?_, HLe.setBox hid1.1⟩
    refine AOrd.s rfl rfl rfl rfl ((AStep.call rfl (by exact Tryz.call142) (delete_lift delLays hid1 (i := i) (j := i + 1) (by omega) (by omega))).mono ?_)
    rintro x2 h2 ⟨rfl, rfl⟩
    refine AOrd.q rfl rfl rfl rfl (q_as rfl (rfl : _ = V.sl _ _ _ _)) ?_
    refine AOrd.q rfl rfl rfl rfl (q_as rfl (rfl : _ = V.int _ _)) ?_
    refine AOrd.q rfl rfl rfl rfl (q_as rfl (rfl : _ = V.inil)) ?_
    refine AOrd.nil ?_
    refine AW.ret ?_
    exact retQ.mk' (.three _ _ _) (by rw [removeF, if_pos (by simpa using c0)]; exact LLe.tup (.cons (.of_eq (rem_eq hi)) (.cons (.refl _) (.cons (.of_eq (eErr_zero _).symm) .nil)))) (.refl _) ⟨rfl, rfl⟩

theorem insert1_calls (l : List Int) (at' x : Int) (hb : l.length ≤ 1000000) (h0 : 0 < l.length) (h : Hp) : ACalls Tryz.prog G 131 [eInts l, .int .i64 at', .int .i64 x] h fun r h' => r = eInsert (insertF l at' x) ∧ h' = h := by
  refine ACalls.enter Tryz.func131 rfl Tryz.ntmps131 Tryz.results131 rfl ?_
  refine AW.seq ?_
  refine AW.region ?_
  refine AOps.q rfl rfl rfl (q_as rfl (rfl : _ = V.snil)) ?_
  refine AOps.q rfl rfl rfl (q_as rfl (rfl : _ = V.inil)) ?_
  refine AOps.nil ?_
  refine AW.seq ?_
  refine AW.seq ?_
  refine AW.region ?_
  refine AOps.q rfl rfl rfl (q_mv rfl (rfl : _ = V.int _ _)) ?_
  refine AOps.q rfl rfl rfl (q_mv rfl (rfl : _ = V.sl _ _ _ _)) ?_
  refine AOps.q rfl rfl rfl (q_len rfl Tryz.underlying23 rfl) ?_
  refine AOps.q rfl rfl rfl (q_ne rfl rfl rfl) ?_
  refine AOps.q rfl rfl rfl (q_mv rfl (rfl : _ = V.bool _)) ?_
  refine AOps.g (wanted_t rfl rfl) rfl rfl (fun hc => TLe.refl _) (fun hc => q_mv rfl (rfl : _ = V.sl _ _ _ _)) ?_
  refine AOps.g (wanted_t rfl rfl) rfl rfl (fun hc => TLe.refl _) (fun hc => q_mv rfl (rfl : _ = V.int _ _)) ?_
  refine AOps.g (wanted_t rfl rfl) rfl rfl (fun hc => TLe.put (d := 14) (VLe.opt hc) (TLe.put (d := 13) (VLe.opt hc) (TLe.refl _))) (fun hc => QOp.call rfl (by exact Tryz.call141) fun h' hl' => by exact place_calls _ _ h') ?_
  refine AOps.g (wanted_t rfl rfl) rfl rfl (fun hc => TLe.put (d := 15) (VLe.opt hc) (TLe.refl _)) (fun hc => q_not rfl rfl) ?_
  refine AOps.q rfl rfl rfl (q_pickg rfl rfl (fun hp => by exact VLe.opt hp) (fun hp => by exact VLe.refl _)) ?_
  refine AOps.nil ?_
  refine AW.cond rfl (fun c0 => ?_) (fun c0 => ?_)
  · skip
    refine AW.seq ?_
    refine AW.region ?_
    refine AOps.q rfl rfl rfl (q_iface rfl Tryz.underlying62 rfl) ?_
    refine AOps.q rfl rfl rfl (q_as rfl (rfl : _ = V.snil)) ?_
    refine AOps.q rfl rfl rfl (q_as rfl (rfl : _ = V.iface _ _)) ?_
    refine AOps.nil ?_
    refine AW.ret ?_
    exact retQ.mk' (.two _ _) (by rw [insertF, if_neg (by simpa using c0)]; exact LLe.tup (.cons VLe.nilimm (.cons (.of_eq (eErr_ne (by decide)).symm) .nil))) (.refl _) ⟨rfl, rfl⟩
  · obtain ⟨i, rfl⟩ : ∃ i : Nat, at' = i := ⟨at'.toNat, by simp [inN] at c0; omega⟩
    have hi : i ≤ l.length := by simp [inN] at c0; omega
    refine AW.skip ?_
    refine AW.seq ?_
    refine AW.region ?_
    refine AOps.q rfl rfl rfl (q_mv rfl (rfl : _ = V.sl _ _ _ _)) ?_
    refine AOps.s rfl rfl rfl ((AStep.call rfl (by exact Tryz.call29) (cloneIM_calls .imm l hb (by omega) _)).mono ?_)
    rintro x1 h1 ⟨id1, slack, hid1, rfl, rfl⟩
    refine AOps.q rfl rfl rfl (q_mv rfl (rfl : _ = V.int _ _)) ?_
    refine AOps.q rfl rfl rfl (q_mv rfl (rfl : _ = V.int _ _)) ?_
    refine AOps.s rfl rfl rfl (a_build1 rfl Tryz.underlying23 Tryz.sizeOf3 Tryz.zeroValue3 rfl (fun id4 hid4 => ?_))
    refine AOps.s rfl rfl rfl ((AStep.call rfl (by exact Tryz.call143) (insert_lift insLays hid1 hid4 hi hb)).mono ?_)
    rintro x2 h2 ⟨rfl, rfl⟩
    refine AOps.q rfl rfl rfl (q_as rfl (rfl : _ = V.sl _ _ _ _)) ?_
    refine AOps.q rfl rfl rfl (q_as rfl (rfl : _ = V.inil)) ?_
    refine AOps.nil ?_
    refine AW.ret ?_
    exact retQ.mk' (.two _ _) (by rw [insertF, if_pos (ins_at (by omega))]; exact LLe.tup (.cons (.of_eq (ins_eq hi)) (.cons (.of_eq (eErr_zero _).symm) .nil))) (.refl _) ⟨rfl, rfl⟩

theorem insert0_calls (at' x : Int) (h : Hp) : ACalls Tryz.prog G 131 [eInts [], .int .i64 at', .int .i64 x] h fun r h' => r = eInsert (insertF [] at' x) ∧ h' = h := by
  refine ACalls.enter Tryz.func131 rfl Tryz.ntmps131 Tryz.results131 rfl ?_
  refine AW.seq ?_
  refine AW.region ?_
  refine AOps.q rfl rfl rfl (q_as rfl (rfl : _ = V.snil)) ?_
  refine AOps.q rfl rfl rfl (q_as rfl (rfl : _ = V.inil)) ?_
  refine AOps.nil ?_
  refine AW.seq ?_
  refine AW.seq ?_
  refine AW.region ?_
  refine AOps.q rfl rfl rfl (q_mv rfl (rfl : _ = V.int _ _)) ?_
  refine AOps.q rfl rfl rfl (q_mv rfl (rfl : _ = V.sl _ _ _ _)) ?_
  refine AOps.q rfl rfl rfl (q_len rfl Tryz.underlying23 rfl) ?_
  refine AOps.q rfl rfl rfl (q_ne rfl rfl rfl) ?_
  refine AOps.q rfl rfl rfl (q_mv rfl (rfl : _ = V.bool _)) ?_
  refine AOps.g (wanted_t rfl rfl) rfl rfl (fun hc => TLe.refl _) (fun hc => q_mv rfl (rfl : _ = V.sl _ _ _ _)) ?_
  refine AOps.g (wanted_t rfl rfl) rfl rfl (fun hc => TLe.refl _) (fun hc => q_mv rfl (rfl : _ = V.int _ _)) ?_
  refine AOps.g (wanted_t rfl rfl) rfl rfl (fun hc => TLe.put (d := 14) (VLe.opt hc) (TLe.put (d := 13) (VLe.opt hc) (TLe.refl _))) (fun hc => QOp.call rfl (by exact Tryz.call141) fun h' _ => by exact place_calls [] _ h') ?_
  refine AOps.g (wanted_t rfl rfl) rfl rfl (fun hc => TLe.put (d := 15) (VLe.opt hc) (TLe.refl _)) (fun hc => q_not rfl rfl) ?_
  refine AOps.q rfl rfl rfl (q_pickg rfl rfl (fun hp => by exact VLe.opt hp) (fun hp => by exact VLe.refl _)) ?_
  refine AOps.nil ?_
  refine AW.cond rfl (fun c0 => ?_) (fun c0 => ?_)
  · skip
    refine AW.seq ?_
    refine AW.region ?_
    refine AOps.q rfl rfl rfl (q_iface rfl Tryz.underlying62 rfl) ?_
    refine AOps.q rfl rfl rfl (q_as rfl (rfl : _ = V.snil)) ?_
    refine AOps.q rfl rfl rfl (q_as rfl (rfl : _ = V.iface _ _)) ?_
    refine AOps.nil ?_
    refine AW.ret ?_
    exact retQ.mk' (.two _ _) (by rw [insertF, if_neg (by simpa using c0)]; exact LLe.tup (.cons VLe.nilimm (.cons (.of_eq (eErr_ne (by decide)).symm) .nil))) (.refl _) ⟨rfl, rfl⟩
  · obtain rfl : at' = (0 : Nat) := by simp [inN] at c0; omega
    refine AW.skip ?_
    refine AW.seq ?_
    refine AW.region ?_
    refine AOps.q rfl rfl rfl (q_mv rfl (rfl : _ = V.sl _ _ _ _)) ?_
    refine AOps.q rfl rfl rfl (QOp.call rfl (by exact Tryz.call29) fun h' _ => by exact cloneI0_calls .imm h') ?_
    refine AOps.q rfl rfl rfl (q_mv rfl (rfl : _ = V.int _ _)) ?_
    refine AOps.q rfl rfl rfl (q_mv rfl (rfl : _ = V.int _ _)) ?_
    refine AOps.s rfl rfl rfl (a_build1 rfl Tryz.underlying23 Tryz.sizeOf3 Tryz.zeroValue3 rfl (fun id4 hid4 => ?_))
    refine AOps.s rfl rfl rfl ((AStep.call rfl (by exact Tryz.call143) (insert_lift0 insLays hid4 rfl)).mono ?_)
    rintro x2 h2 ⟨rfl, rfl⟩
    refine AOps.q rfl rfl rfl (q_as rfl (rfl : _ = V.sl _ _ _ _)) ?_
    refine AOps.q rfl rfl rfl (q_as rfl (rfl : _ = V.inil)) ?_
    refine AOps.nil ?_
    refine AW.ret ?_
    exact retQ.mk' (.two _ _) (by rw [insertF, if_pos (.inl rfl)]; exact LLe.tup (.cons (.refl _) (.cons (.of_eq (eErr_zero _).symm) .nil))) (.refl _) ⟨rfl, rfl⟩

theorem insert_calls (l : List Int) (at' x : Int) (hb : l.length ≤ 1000000) (h : Hp) : ACalls Tryz.prog G 131 [eInts l, .int .i64 at', .int .i64 x] h fun r h' => r = eInsert (insertF l at' x) ∧ h' = h := by
  match l, hb with
  | [], _ => exact insert0_calls at' x h
  | y :: l, hb => exact insert1_calls (y :: l) at' x hb (by simp) h

end Go.Proofs.YtnbmcbkokaoapaaGreatDoor
