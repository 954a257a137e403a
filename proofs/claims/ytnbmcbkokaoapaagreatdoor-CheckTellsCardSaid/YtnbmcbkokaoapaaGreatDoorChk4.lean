/- Walks: searches with a function; whether a state is right. -/
import Derived.Test.YtnbmcbkokaoapaaGreatDoorChk3
namespace Go.Proofs.YtnbmcbkokaoapaaGreatDoor
open Go Go.AV
set_option maxRecDepth 100000
set_option maxHeartbeats 400000
/-- The first place of what is so; -1: none. -/
def fidx {α : Type} (p : α → Bool) (l : List α) : Int := match l.findIdx? p with | some i => i | none => -1
theorem fresh_setBox {h : Hp} {i j : Nat} {cs : List V} (f : h.fresh i) (e : i ≠ j) : (h.setBox j cs).fresh i := ⟨by rw [Hp.box_setBox_ne h cs e]; exact f.1, f.2⟩
theorem nodup_count {l : List Int} : l.Nodup ↔ ∀ x, l.count x ≤ 1 := List.nodup_iff_count
theorem turn_out {n i : Int} (h : (bif decide (i < 0) then true else decide (n ≤ i)) = true) : i < 0 ∨ n ≤ i := by
  by_cases h0 : i < 0
  · exact .inl h0
  · exact .inr (by simpa [h0] using h)
theorem turn_in {n i : Int} (h : (bif decide (i < 0) then true else decide (n ≤ i)) = false) : 0 ≤ i ∧ i < n := by
  by_cases h0 : i < 0
  · simp [h0] at h
  · exact ⟨by omega, by simpa [h0] using h⟩
theorem getD_of' {α : Type} {z : α} {a : List α} {i : Nat} (h : i < a.length) : a.getD i z = a[i] := by simp [List.getD_eq_getElem?_getD, h]
theorem fidx_some {α : Type} {z : α} {p : α → Bool} {l : List α} {i : Nat} (hi : i < l.length) (hx : p (l.getD i z) = true) (hn : ∀ j, j < i → p (l.getD j z) = false) : (i : Int) = fidx p l := by
  have : l.findIdx? p = some i := by
    rw [List.findIdx?_eq_some_iff_getElem]
    refine ⟨hi, by rw [getD_of' hi] at hx; exact hx, fun j hj => ?_⟩
    have := hn j hj
    rw [getD_of' (by omega)] at this
    simpa using this
  unfold fidx; rw [this]
theorem fidx_none {α : Type} {z : α} {p : α → Bool} {l : List α} (hn : ∀ j, j < l.length → p (l.getD j z) = false) : -1 = fidx p l := by
  have : l.findIdx? p = none := by
    rw [List.findIdx?_eq_none_iff]
    intro y hy
    obtain ⟨j, hj, rfl⟩ := List.getElem_of_mem hy
    have := hn j hj
    rw [getD_of' hj] at this
    simpa using this
  unfold fidx; rw [this]
theorem fidx_any {α : Type} {p : α → Bool} {l : List α} : decide (0 ≤ fidx p l) = l.any p := by
  unfold fidx
  cases e : l.findIdx? p with
  | none =>
    rw [List.findIdx?_eq_none_iff] at e
    have : l.any p = false := by rw [List.any_eq_false]; intro x hx; simp [e x hx]
    rw [this]; rfl
  | some i =>
    rw [List.findIdx?_eq_some_iff_getElem] at e
    obtain ⟨hi, hp, _⟩ := e
    have : l.any p = true := List.any_eq_true.2 ⟨_, List.getElem_mem hi, hp⟩
    rw [this]; simp
theorem objs_mem {l : List Obj} {k : Nat} (h : k < l.length) : l.getD k noObj ∈ l := by
  rw [getD_of' h]; exact List.getElem_mem h
theorem cObjs_at {l : List Obj} {k : Nat} (h : k < l.length) : ((cObjs l).drop ((k : Int).toNat * 18)).take 18 = cObj (l.getD k noObj) := by
  have := cObjs_elem' (l := l) (i := k) (by omega) (by omega)
  simpa using this

theorem sIndexFuncI_calls (k : SK) (l : List Int) (fn : FuncId) (fs caps : List V) (p : Int → Bool) (hb : l.length ≤ 1000000) (hf : ∀ args w, (callFunc fn args).run Tryz.prog w = .ok (.enter fn args) w) (h : Hp)
    (hp : ∀ x ∈ l, ∀ h', HLe h' h → ACalls Tryz.prog G fn (fs ++ [.int .i64 x] ++ caps) h' fun r h'' => r = .bool (p x) ∧ h'' = h') : ACalls Tryz.prog G 103 [.sl k 1 l.length (cInts l), .func (.func fn) fs caps] h fun r h' => r = .int .i64 (fidx p l) ∧ h' = h := by
  refine ACalls.enter Tryz.func103 rfl Tryz.ntmps103 Tryz.results103 rfl ?_
  refine AW.seq ?_
  refine AW.region ?_
  refine AOps.q rfl rfl rfl (q_as rfl (rfl : _ = V.int _ _)) ?_
  refine AOps.nil ?_
  refine AW.seq ?_
  refine AW.seq ?_
  refine AW.region ?_
  refine AOps.q rfl rfl rfl (q_mv rfl (rfl : _ = V.sl _ _ _ _)) ?_
  refine AOps.q rfl rfl rfl (q_len rfl Tryz.underlying23 rfl) ?_
  refine AOps.q rfl rfl rfl (q_mv rfl (rfl : _ = V.int _ _)) ?_
  refine AOps.nil ?_
  refine AW.block ?_
  refine AW.loop (fun n T hh => ∃ (i : Nat) , i ≤ l.length ∧ n = l.length - i ∧ T = put (put (put (put (T0) 8 (V.int .i64 (i : Nat))) 7 (V.int .i64 l.length)) 1 (V.func (.func fn) fs caps)) 0 (.sl k 1 l.length (cInts l)) ∧ hh = h ∧ ∀ j, j < i → p (l.getD j 0) = false) (l.length) ?_ ?_
  · skip
    refine Wk.mk (TLe.put (d := 0) (VLe.refl _) (TLe.put (d := 1) (VLe.refl _) (TLe.put (d := 7) (VLe.refl _) (TLe.put (d := 8) (by exact VLe.of_eq (congrArg (V.int .i64) (by first | rfl | omega))) (TLe.zero _))))) (HLe.refl _) ⟨0, Nat.zero_le _, rfl, rfl, rfl, fun j hj => by omega⟩
  · skip
    rintro n T h' ⟨i, hi, rfl, rfl, rfl, hn⟩
    refine AW.seq ?_
    refine AW.region ?_
    refine AOps.q rfl rfl rfl (q_lt rfl rfl rfl) ?_
    refine AOps.nil ?_
    refine AW.seq ?_
    refine AW.cond rfl (fun c0 => ?_) (fun c0 => ?_)
    · have hlt : i < l.length := by have := of_decide_eq_true c0; omega
      refine AW.skip ?_
      refine AW.seq ?_
      refine AW.block ?_
      refine AW.seq ?_
      refine AW.region ?_
      refine AOps.q rfl rfl rfl (q_mv rfl (rfl : _ = V.int _ _)) ?_
      refine AOps.q rfl rfl rfl (q_as rfl (rfl : _ = V.int _ _)) ?_
      refine AOps.nil ?_
      refine AW.seq ?_
      refine AW.region ?_
      refine AOps.q rfl rfl rfl (q_mv rfl (rfl : _ = V.func _ _ _)) ?_
      refine AOps.q rfl rfl rfl (q_mv rfl (rfl : _ = V.sl _ _ _ _)) ?_
      refine AOps.q rfl rfl rfl (q_mv rfl (rfl : _ = V.int _ _)) ?_
      refine AOps.q rfl rfl rfl (q_ia_s rfl Tryz.underlying23 Tryz.sizeOf3 rfl rfl (by omega) (by omega) (cInts_at hlt)) ?_
      refine AOps.q rfl rfl rfl (q_load_i1 rfl Tryz.isAgg3 rfl rfl) ?_
      refine AOps.q rfl rfl rfl (QOp.callv rfl rfl hf (fun h2 hl => hp _ (getD_mem hlt) h2 hl)) ?_
      refine AOps.nil ?_
      refine AW.cond rfl (fun c1 => ?_) (fun c1 => ?_)
      · skip
        refine AW.seq ?_
        refine AW.region ?_
        refine AOps.q rfl rfl rfl (q_mv rfl (rfl : _ = V.int _ _)) ?_
        refine AOps.q rfl rfl rfl (q_as rfl (rfl : _ = V.int _ _)) ?_
        refine AOps.nil ?_
        refine AW.ret ?_
        exact retQ.mk' (.one _) (VLe.of_eq (congrArg (V.int .i64) (fidx_some (z := 0) hlt c1 hn))) (HLe.refl _) ⟨rfl, rfl⟩
      · skip
        refine AW.skip ?_
        refine AW.region ?_
        refine AOps.q rfl rfl rfl (q_add' rfl rfl rfl (by omega)) ?_
        refine AOps.q rfl rfl rfl (q_mv rfl (rfl : _ = V.int _ _)) ?_
        refine AOps.nil ?_
        refine Wk.mk (TLe.put (d := 0) (VLe.refl _) (TLe.put (d := 1) (VLe.refl _) (TLe.put (d := 7) (VLe.refl _) (TLe.put (d := 8) (by exact VLe.of_eq (congrArg (V.int .i64) (by first | rfl | omega))) (TLe.zero _))))) (HLe.refl _) ⟨_, ?_, i + 1, ?_, rfl, rfl, rfl, all_none hn c1⟩
        · omega
        · omega
    · obtain rfl : i = l.length := by have := of_decide_eq_false c0; omega
      refine AW.exit ?_
      refine AW.seq ?_
      refine AW.region ?_
      refine AOps.q rfl rfl rfl (q_as rfl (rfl : _ = V.int _ _)) ?_
      refine AOps.nil ?_
      refine AW.ret ?_
      exact retQ.mk' (.one _) (VLe.of_eq (congrArg (V.int .i64) (fidx_none (z := 0) hn))) (HLe.refl _) ⟨rfl, rfl⟩

theorem sContainsFuncI_calls (k : SK) (l : List Int) (fn : FuncId) (fs caps : List V) (p : Int → Bool) (hb : l.length ≤ 1000000) (hf : ∀ args w, (callFunc fn args).run Tryz.prog w = .ok (.enter fn args) w) (h : Hp)
    (hp : ∀ x ∈ l, ∀ h', HLe h' h → ACalls Tryz.prog G fn (fs ++ [.int .i64 x] ++ caps) h' fun r h'' => r = .bool (p x) ∧ h'' = h') : ACalls Tryz.prog G 76 [.sl k 1 l.length (cInts l), .func (.func fn) fs caps] h fun r h' => r = .bool (l.any p) ∧ h' = h := by
  refine ACalls.enter Tryz.func76 rfl Tryz.ntmps76 Tryz.results76 rfl ?_
  refine AW.seq ?_
  refine AW.region ?_
  refine AOps.q rfl rfl rfl (q_as rfl (rfl : _ = V.bool _)) ?_
  refine AOps.nil ?_
  refine AW.seq ?_
  refine AW.region ?_
  refine AOps.q rfl rfl rfl (q_mv rfl (rfl : _ = V.sl _ _ _ _)) ?_
  refine AOps.q rfl rfl rfl (q_mv rfl (rfl : _ = V.func _ _ _)) ?_
  refine AOps.q rfl rfl rfl (QOp.call rfl (by exact Tryz.call103) fun h2 hl => by exact sIndexFuncI_calls k l fn fs caps p hb hf h2 fun x hx h3 hl3 => hp x hx h3 (hl3.trans hl)) ?_
  refine AOps.q rfl rfl rfl (q_ge rfl rfl rfl) ?_
  refine AOps.q rfl rfl rfl (q_as rfl (rfl : _ = V.bool _)) ?_
  refine AOps.nil ?_
  refine AW.ret ?_
  exact retQ.mk' (.one _) (VLe.of_eq (congrArg V.bool (fidx_any))) (HLe.refl _) ⟨rfl, rfl⟩

theorem sIndexFuncO_calls (k : SK) (l : List Obj) (fn : FuncId) (fs caps : List V) (p : Obj → Bool) (hb : l.length ≤ 1000000) (hf : ∀ args w, (callFunc fn args).run Tryz.prog w = .ok (.enter fn args) w) (h : Hp)
    (hp : ∀ x ∈ l, ∀ h', HLe h' h → ACalls Tryz.prog G fn (fs ++ [eObj x] ++ caps) h' fun r h'' => r = .bool (p x) ∧ h'' = h') : ACalls Tryz.prog G 75 [.sl k 18 l.length (cObjs l), .func (.func fn) fs caps] h fun r h' => r = .int .i64 (fidx p l) ∧ h' = h := by
  refine ACalls.enter Tryz.func75 rfl Tryz.ntmps75 Tryz.results75 rfl ?_
  refine AW.seq ?_
  refine AW.region ?_
  refine AOps.q rfl rfl rfl (q_as rfl (rfl : _ = V.int _ _)) ?_
  refine AOps.nil ?_
  refine AW.seq ?_
  refine AW.seq ?_
  refine AW.region ?_
  refine AOps.q rfl rfl rfl (q_mv rfl (rfl : _ = V.sl _ _ _ _)) ?_
  refine AOps.q rfl rfl rfl (q_len rfl Tryz.underlying22 rfl) ?_
  refine AOps.q rfl rfl rfl (q_mv rfl (rfl : _ = V.int _ _)) ?_
  refine AOps.nil ?_
  refine AW.block ?_
  refine AW.loop (fun n T hh => ∃ (i : Nat) , i ≤ l.length ∧ n = l.length - i ∧ T = put (put (put (put (T0) 8 (V.int .i64 (i : Nat))) 7 (V.int .i64 l.length)) 1 (V.func (.func fn) fs caps)) 0 (.sl k 18 l.length (cObjs l)) ∧ hh = h ∧ ∀ j, j < i → p (l.getD j noObj) = false) (l.length) ?_ ?_
  · skip
    refine Wk.mk (TLe.put (d := 0) (VLe.refl _) (TLe.put (d := 1) (VLe.refl _) (TLe.put (d := 7) (VLe.refl _) (TLe.put (d := 8) (by exact VLe.of_eq (congrArg (V.int .i64) (by first | rfl | omega))) (TLe.zero _))))) (HLe.refl _) ⟨0, Nat.zero_le _, rfl, rfl, rfl, fun j hj => by omega⟩
  · skip
    rintro n T h' ⟨i, hi, rfl, rfl, rfl, hn⟩
    refine AW.seq ?_
    refine AW.region ?_
    refine AOps.q rfl rfl rfl (q_lt rfl rfl rfl) ?_
    refine AOps.nil ?_
    refine AW.seq ?_
    refine AW.cond rfl (fun c0 => ?_) (fun c0 => ?_)
    · have hlt : i < l.length := by have := of_decide_eq_true c0; omega
      refine AW.skip ?_
      refine AW.seq ?_
      refine AW.block ?_
      refine AW.seq ?_
      refine AW.region ?_
      refine AOps.q rfl rfl rfl (q_mv rfl (rfl : _ = V.int _ _)) ?_
      refine AOps.q rfl rfl rfl (q_as rfl (rfl : _ = V.int _ _)) ?_
      refine AOps.nil ?_
      refine AW.seq ?_
      refine AW.region ?_
      refine AOps.q rfl rfl rfl (q_mv rfl (rfl : _ = V.func _ _ _)) ?_
      refine AOps.q rfl rfl rfl (q_mv rfl (rfl : _ = V.sl _ _ _ _)) ?_
      refine AOps.q rfl rfl rfl (q_mv rfl (rfl : _ = V.int _ _)) ?_
      refine AOps.q rfl rfl rfl (q_ia_s rfl Tryz.underlying22 Tryz.sizeOf49 rfl rfl (by omega) (by omega) (cObjs_at hlt)) ?_
      refine AOps.q rfl rfl rfl (q_load_iW rfl Tryz.isAgg49 Tryz.sizeOf49 rfl (by rfl)) ?_
      refine AOps.q rfl rfl rfl (QOp.callv rfl rfl hf (fun h2 hl => hp _ (objs_mem hlt) h2 hl)) ?_
      refine AOps.nil ?_
      refine AW.cond rfl (fun c1 => ?_) (fun c1 => ?_)
      · skip
        refine AW.seq ?_
        refine AW.region ?_
        refine AOps.q rfl rfl rfl (q_mv rfl (rfl : _ = V.int _ _)) ?_
        refine AOps.q rfl rfl rfl (q_as rfl (rfl : _ = V.int _ _)) ?_
        refine AOps.nil ?_
        refine AW.ret ?_
        exact retQ.mk' (.one _) (VLe.of_eq (congrArg (V.int .i64) (fidx_some (z := noObj) hlt c1 hn))) (HLe.refl _) ⟨rfl, rfl⟩
      · skip
        refine AW.skip ?_
        refine AW.region ?_
        refine AOps.q rfl rfl rfl (q_add' rfl rfl rfl (by omega)) ?_
        refine AOps.q rfl rfl rfl (q_mv rfl (rfl : _ = V.int _ _)) ?_
        refine AOps.nil ?_
        refine Wk.mk (TLe.put (d := 0) (VLe.refl _) (TLe.put (d := 1) (VLe.refl _) (TLe.put (d := 7) (VLe.refl _) (TLe.put (d := 8) (by exact VLe.of_eq (congrArg (V.int .i64) (by first | rfl | omega))) (TLe.zero _))))) (HLe.refl _) ⟨_, ?_, i + 1, ?_, rfl, rfl, rfl, all_none hn c1⟩
        · omega
        · omega
    · obtain rfl : i = l.length := by have := of_decide_eq_false c0; omega
      refine AW.exit ?_
      refine AW.seq ?_
      refine AW.region ?_
      refine AOps.q rfl rfl rfl (q_as rfl (rfl : _ = V.int _ _)) ?_
      refine AOps.nil ?_
      refine AW.ret ?_
      exact retQ.mk' (.one _) (VLe.of_eq (congrArg (V.int .i64) (fidx_none (z := noObj) hn))) (HLe.refl _) ⟨rfl, rfl⟩

theorem sContainsFuncO_calls (k : SK) (l : List Obj) (fn : FuncId) (fs caps : List V) (p : Obj → Bool) (hb : l.length ≤ 1000000) (hf : ∀ args w, (callFunc fn args).run Tryz.prog w = .ok (.enter fn args) w) (h : Hp)
    (hp : ∀ x ∈ l, ∀ h', HLe h' h → ACalls Tryz.prog G fn (fs ++ [eObj x] ++ caps) h' fun r h'' => r = .bool (p x) ∧ h'' = h') : ACalls Tryz.prog G 52 [.sl k 18 l.length (cObjs l), .func (.func fn) fs caps] h fun r h' => r = .bool (l.any p) ∧ h' = h := by
  refine ACalls.enter Tryz.func52 rfl Tryz.ntmps52 Tryz.results52 rfl ?_
  refine AW.seq ?_
  refine AW.region ?_
  refine AOps.q rfl rfl rfl (q_as rfl (rfl : _ = V.bool _)) ?_
  refine AOps.nil ?_
  refine AW.seq ?_
  refine AW.region ?_
  refine AOps.q rfl rfl rfl (q_mv rfl (rfl : _ = V.sl _ _ _ _)) ?_
  refine AOps.q rfl rfl rfl (q_mv rfl (rfl : _ = V.func _ _ _)) ?_
  refine AOps.q rfl rfl rfl (QOp.call rfl (by exact Tryz.call75) fun h2 hl => by exact sIndexFuncO_calls k l fn fs caps p hb hf h2 fun x hx h3 hl3 => hp x hx h3 (hl3.trans hl)) ?_
  refine AOps.q rfl rfl rfl (q_ge rfl rfl rfl) ?_
  refine AOps.q rfl rfl rfl (q_as rfl (rfl : _ = V.bool _)) ?_
  refine AOps.nil ?_
  refine AW.ret ?_
  exact retQ.mk' (.one _) (VLe.of_eq (congrArg V.bool (fidx_any))) (HLe.refl _) ⟨rfl, rfl⟩

def restingL : List Int := [4, 5, 6, 7, 8, 9, 10, 11, 12]
theorem resting_in {x : Int} (h : x ∈ restingL) : 0 ≤ x ∧ x < 18 := by simp [restingL] at h; omega
theorem resting_any (o : Obj) : (restingL.any fun f => o f.toNat != 0) = !bare o := by
  simp only [restingL, List.any_cons, List.any_nil, bare, Bool.or_false, Bool.not_and, bne]
  simp only [show (4 : Int).toNat = 4 from rfl, show (5 : Int).toNat = 5 from rfl, show (6 : Int).toNat = 6 from rfl, show (7 : Int).toNat = 7 from rfl, show (8 : Int).toNat = 8 from rfl, show (9 : Int).toNat = 9 from rfl, show (10 : Int).toNat = 10 from rfl, show (11 : Int).toNat = 11 from rfl, show (12 : Int).toNat = 12 from rfl, Bool.or_assoc]
theorem objp_ix {o : Obj} {i : Int} (h0 : 0 ≤ i) (h1 : i < 18) : ((cObj o).drop (i.toNat * 1))[0]? = some (.int .i64 (o i.toNat)) := by
  rw [Nat.mul_one, List.getElem?_drop, Nat.add_zero]; exact cObj_ix (by omega)

theorem formed1_calls (o : Obj) (x : Int) (hx : 0 ≤ x ∧ x < 18) (h : Hp) : ACalls Tryz.prog G 77 [.int .i64 x, .iptr (cObj o)] h fun r h' => r = .bool (o x.toNat != 0) ∧ h' = h := by
  refine ACalls.enter Tryz.func77 rfl Tryz.ntmps77 Tryz.results77 rfl ?_
  refine AW.seq ?_
  refine AW.region ?_
  refine AOps.q rfl rfl rfl (q_as rfl (rfl : _ = V.bool _)) ?_
  refine AOps.nil ?_
  refine AW.seq ?_
  refine AW.region ?_
  refine AOps.q rfl rfl rfl (q_mv rfl (rfl : _ = V.int _ _)) ?_
  refine AOps.q rfl rfl rfl (q_ia_ai rfl Tryz.underlying49 Tryz.sizeOf3 rfl rfl (by omega) (by omega) rfl) ?_
  refine AOps.q rfl rfl rfl (q_load_i1 rfl Tryz.isAgg3 rfl (objp_ix (by omega) (by omega))) ?_
  refine AOps.q rfl rfl rfl (q_ne rfl rfl rfl) ?_
  refine AOps.q rfl rfl rfl (q_as rfl (rfl : _ = V.bool _)) ?_
  refine AOps.nil ?_
  refine AW.ret ?_
  exact retQ.mk (.one _) ⟨rfl, rfl⟩

theorem formed_calls (o : Obj) (h : Hp) : ACalls Tryz.prog G 54 [eObj o] h fun r h' => r = .bool (formedF o) ∧ h' = h := by
  refine ACalls.enter Tryz.func54 rfl Tryz.ntmps54 Tryz.results54 rfl ?_
  refine AW.seq ?_
  refine AW.region ?_
  refine AOps.q rfl rfl rfl (q_boxa rfl (rfl : _ = V.agg _)) ?_
  refine AOps.q rfl rfl rfl (q_as rfl (rfl : _ = V.bool _)) ?_
  refine AOps.nil ?_
  refine AW.seq ?_
  refine AW.region ?_
  refine AOps.q rfl rfl rfl (q_ia_ai rfl Tryz.underlying49 Tryz.sizeOf3 rfl rfl (by decide) (by decide) rfl) ?_
  refine AOps.q rfl rfl rfl (q_load_i1 rfl Tryz.isAgg3 rfl rfl) ?_
  refine AOps.q rfl rfl rfl (q_as rfl (rfl : _ = V.int _ _)) ?_
  refine AOps.nil ?_
  refine AW.seq ?_
  refine AW.seq ?_
  refine AW.region ?_
  refine AOps.q rfl rfl rfl (q_mv rfl (rfl : _ = V.int _ _)) ?_
  refine AOps.q rfl rfl rfl (q_ne rfl rfl rfl) ?_
  refine AOps.q rfl rfl rfl (q_mv rfl (rfl : _ = V.bool _)) ?_
  refine AOps.g (wanted_t rfl rfl) rfl rfl (fun hc => TLe.refl _) (fun hc => q_sliceA rfl Tryz.underlying25 Tryz.sizeOf3 rfl rfl) ?_
  refine AOps.g (wanted_t rfl rfl) rfl rfl (fun hc => TLe.refl _) (fun hc => q_func rfl) ?_
  refine AOps.g (wanted_t rfl rfl) rfl rfl (fun hc => TLe.put (d := 10) (VLe.opt hc) (TLe.put (d := 9) (VLe.opt hc) (TLe.refl _))) (fun hc => QOp.call rfl (by exact Tryz.call76) fun h2 hl => by exact sContainsFuncI_calls .full restingL 77 [] [V.iptr (cObj o)] (fun f => o f.toNat != 0) (by decide) Tryz.call77 h2 fun x hx h3 _ => formed1_calls o x (resting_in hx) h3) ?_
  refine AOps.q rfl rfl rfl (q_pickg rfl rfl (fun hp => by exact VLe.opt hp) (fun hp => by exact VLe.refl _)) ?_
  refine AOps.nil ?_
  refine AW.cond rfl (fun c0 => ?_) (fun c0 => ?_)
  · skip
    refine AW.seq ?_
    refine AW.region ?_
    refine AOps.q rfl rfl rfl (q_as rfl (rfl : _ = V.bool _)) ?_
    refine AOps.nil ?_
    refine AW.ret ?_
    exact retQ.mk' (.one _) (VLe.of_eq (congrArg V.bool (by rw [resting_any] at c0; simp [formedF] at c0 ⊢; grind))) (HLe.refl _) ⟨rfl, rfl⟩
  · skip
    refine AW.skip ?_
    refine AW.seq ?_
    refine AW.seq ?_
    refine AW.region ?_
    refine AOps.q rfl rfl rfl (q_mv rfl (rfl : _ = V.int _ _)) ?_
    refine AOps.q rfl rfl rfl (q_lt rfl rfl rfl) ?_
    refine AOps.q rfl rfl rfl (q_mv rfl (rfl : _ = V.bool _)) ?_
    refine AOps.g (wanted_t rfl rfl) rfl rfl (fun hc => TLe.refl _) (fun hc => q_ia_ai rfl Tryz.underlying49 Tryz.sizeOf3 rfl rfl (by decide) (by decide) rfl) ?_
    refine AOps.g (wanted_t rfl rfl) rfl rfl (fun hc => TLe.put (d := 16) (VLe.opt hc) (TLe.refl _)) (fun hc => q_load_i1 rfl Tryz.isAgg3 rfl rfl) ?_
    refine AOps.g (wanted_t rfl rfl) rfl rfl (fun hc => TLe.refl _) (fun hc => q_ia_ai rfl Tryz.underlying49 Tryz.sizeOf3 rfl rfl (by decide) (by decide) rfl) ?_
    refine AOps.g (wanted_t rfl rfl) rfl rfl (fun hc => TLe.put (d := 18) (VLe.opt hc) (TLe.refl _)) (fun hc => q_load_i1 rfl Tryz.isAgg3 rfl rfl) ?_
    refine AOps.g (wanted_t rfl rfl) rfl rfl (fun hc => TLe.put (d := 19) (VLe.opt hc) (TLe.put (d := 17) (VLe.opt hc) (TLe.refl _))) (fun hc => q_ne rfl rfl rfl) ?_
    refine AOps.q rfl rfl rfl (q_pickg rfl rfl (fun hp => by exact VLe.opt hp) (fun hp => by exact VLe.refl _)) ?_
    refine AOps.nil ?_
    refine AW.cond rfl (fun c1 => ?_) (fun c1 => ?_)
    · skip
      refine AW.seq ?_
      refine AW.region ?_
      refine AOps.q rfl rfl rfl (q_as rfl (rfl : _ = V.bool _)) ?_
      refine AOps.nil ?_
      refine AW.ret ?_
      exact retQ.mk' (.one _) (VLe.of_eq (congrArg V.bool (by rw [resting_any] at c0; simp [formedF] at c0 c1 ⊢; grind))) (HLe.refl _) ⟨rfl, rfl⟩
    · skip
      refine AW.skip ?_
      refine AW.seq ?_
      refine AW.region ?_
      refine AOps.q rfl rfl rfl (q_mv rfl (rfl : _ = V.int _ _)) ?_
      refine AOps.q rfl rfl rfl (q_eq rfl rfl rfl) ?_
      refine AOps.q rfl rfl rfl (q_mv rfl (rfl : _ = V.bool _)) ?_
      refine AOps.g (wanted_f rfl rfl) rfl rfl (fun hc => TLe.refl _) (fun hc => q_ia_ai rfl Tryz.underlying49 Tryz.sizeOf3 rfl rfl (by decide) (by decide) rfl) ?_
      refine AOps.g (wanted_f rfl rfl) rfl rfl (fun hc => TLe.put (d := 25) (VLe.opt hc) (TLe.refl _)) (fun hc => q_load_i1 rfl Tryz.isAgg3 rfl rfl) ?_
      refine AOps.g (wanted_f rfl rfl) rfl rfl (fun hc => TLe.put (d := 26) (VLe.opt hc) (TLe.refl _)) (fun hc => q_eq rfl rfl rfl) ?_
      refine AOps.q rfl rfl rfl (q_pickg rfl rfl (fun hp => by exact VLe.refl _) (fun hp => by exact VLe.opt (by rw [hp]; rfl))) ?_
      refine AOps.q rfl rfl rfl (q_as rfl (rfl : _ = V.bool _)) ?_
      refine AOps.nil ?_
      refine AW.ret ?_
      exact retQ.mk' (.one _) (VLe.of_eq (congrArg V.bool (by rw [resting_any] at c0; simp [formedF] at c0 c1 ⊢; grind))) (HLe.refl _) ⟨rfl, rfl⟩

def checkF (s : St) : Int := if 400 < (s.objs.length : Int) then 5 else if rangesF s = false then 1 else if zonesF s = false then 12 else if s.objs.any (fun o => !formedF o) then 2 else 0

theorem check1_calls (o : Obj) (h : Hp) : ACalls Tryz.prog G 53 [eObj o] h fun r h' => r = .bool (!formedF o) ∧ h' = h := by
  refine ACalls.enter Tryz.func53 rfl Tryz.ntmps53 Tryz.results53 rfl ?_
  refine AW.seq ?_
  refine AW.region ?_
  refine AOps.q rfl rfl rfl (q_boxa rfl (rfl : _ = V.agg _)) ?_
  refine AOps.q rfl rfl rfl (q_as rfl (rfl : _ = V.bool _)) ?_
  refine AOps.nil ?_
  refine AW.seq ?_
  refine AW.region ?_
  refine AOps.q rfl rfl rfl (q_load_iW rfl Tryz.isAgg49 Tryz.sizeOf49 rfl (by rfl)) ?_
  refine AOps.q rfl rfl rfl (QOp.call rfl (by exact Tryz.call54) fun h' hl' => by exact formed_calls _ h') ?_
  refine AOps.q rfl rfl rfl (q_not rfl rfl) ?_
  refine AOps.q rfl rfl rfl (q_as rfl (rfl : _ = V.bool _)) ?_
  refine AOps.nil ?_
  refine AW.ret ?_
  exact retQ.mk (.one _) ⟨rfl, rfl⟩

theorem check_calls (s : St) (hb : s.objs.length ≤ 1000000) (hl : ∀ z, (s.lists z).length ≤ 1000000) (h : Hp) : ACalls Tryz.prog G 30 [eState s] h fun r h' => r = eE (checkF s) ∧ h' = h := by
  refine ACalls.enter Tryz.func30 rfl Tryz.ntmps30 Tryz.results30 rfl ?_
  refine AW.seq ?_
  refine AW.region ?_
  refine AOps.q rfl rfl rfl (q_boxa rfl (rfl : _ = V.agg _)) ?_
  refine AOps.q rfl rfl rfl (q_as rfl (rfl : _ = V.inil)) ?_
  refine AOps.nil ?_
  refine AW.seq ?_
  refine AW.block ?_
  refine AW.seq ?_
  refine AW.region ?_
  refine AOps.q rfl rfl rfl (q_fa_i rfl Tryz.underlying29 rfl (by exact Tryz.sizeOf22) (by decide) rfl (rfl : _ = List.drop 0 _)) ?_
  refine AOps.q rfl rfl rfl (q_load_i1 rfl Tryz.isAgg22 rfl rfl) ?_
  refine AOps.q rfl rfl rfl (q_len rfl Tryz.underlying22 rfl) ?_
  refine AOps.q rfl rfl rfl (q_gt rfl rfl rfl) ?_
  refine AOps.q rfl rfl rfl (q_as rfl (rfl : _ = V.bool _)) ?_
  refine AOps.nil ?_
  refine AW.cond rfl (fun c0 => ?_) (fun c0 => ?_)
  · skip
    refine AW.seq ?_
    refine AW.region ?_
    refine AOps.q rfl rfl rfl (q_iface rfl Tryz.underlying62 rfl) ?_
    refine AOps.q rfl rfl rfl (q_as rfl (rfl : _ = V.iface _ _)) ?_
    refine AOps.nil ?_
    refine AW.ret ?_
    exact retQ.mk' (.one _) (VLe.of_eq (by show V.iface _ (V.int _ _) = _; rw [show checkF s = 5 by simp_all [checkF]]; exact (eErr_ne (by decide)).symm)) (HLe.refl _) ⟨rfl, rfl⟩
  · skip
    refine AW.seq ?_
    refine AW.region ?_
    refine AOps.q rfl rfl rfl (q_load_iW rfl Tryz.isAgg29 Tryz.sizeOf29 rfl (by rfl)) ?_
    refine AOps.q rfl rfl rfl (QOp.call rfl (by exact Tryz.call50) fun h' hl' => by exact ranges_calls _ (by assumption) h') ?_
    refine AOps.q rfl rfl rfl (q_not rfl rfl) ?_
    refine AOps.q rfl rfl rfl (q_as rfl (rfl : _ = V.bool _)) ?_
    refine AOps.nil ?_
    refine AW.cond rfl (fun c1 => ?_) (fun c1 => ?_)
    · skip
      refine AW.seq ?_
      refine AW.region ?_
      refine AOps.q rfl rfl rfl (q_iface rfl Tryz.underlying62 rfl) ?_
      refine AOps.q rfl rfl rfl (q_as rfl (rfl : _ = V.iface _ _)) ?_
      refine AOps.nil ?_
      refine AW.ret ?_
      exact retQ.mk' (.one _) (VLe.of_eq (by show V.iface _ (V.int _ _) = _; rw [show checkF s = 1 by simp_all [checkF]]; exact (eErr_ne (by decide)).symm)) (HLe.refl _) ⟨rfl, rfl⟩
    · skip
      refine AW.seq ?_
      refine AW.region ?_
      refine AOps.q rfl rfl rfl (q_load_iW rfl Tryz.isAgg29 Tryz.sizeOf29 rfl (by rfl)) ?_
      refine AOps.q rfl rfl rfl (QOp.call rfl (by exact Tryz.call51) fun h' hl' => by exact zones_calls _ (by assumption) (by assumption) h') ?_
      refine AOps.q rfl rfl rfl (q_not rfl rfl) ?_
      refine AOps.q rfl rfl rfl (q_as rfl (rfl : _ = V.bool _)) ?_
      refine AOps.nil ?_
      refine AW.cond rfl (fun c2 => ?_) (fun c2 => ?_)
      · skip
        refine AW.seq ?_
        refine AW.region ?_
        refine AOps.q rfl rfl rfl (q_iface rfl Tryz.underlying62 rfl) ?_
        refine AOps.q rfl rfl rfl (q_as rfl (rfl : _ = V.iface _ _)) ?_
        refine AOps.nil ?_
        refine AW.ret ?_
        exact retQ.mk' (.one _) (VLe.of_eq (by show V.iface _ (V.int _ _) = _; rw [show checkF s = 12 by simp_all [checkF]]; exact (eErr_ne (by decide)).symm)) (HLe.refl _) ⟨rfl, rfl⟩
      · skip
        refine AW.seq ?_
        refine AW.region ?_
        refine AOps.q rfl rfl rfl (q_fa_i rfl Tryz.underlying29 rfl (by exact Tryz.sizeOf22) (by decide) rfl (rfl : _ = List.drop 0 _)) ?_
        refine AOps.q rfl rfl rfl (q_load_i1 rfl Tryz.isAgg22 rfl rfl) ?_
        refine AOps.q rfl rfl rfl (QOp.call rfl (by exact Tryz.call52) fun h2 hl => by exact sContainsFuncO_calls .imm s.objs 53 [] [] (fun o => !formedF o) hb Tryz.call53 h2 fun x hx h3 _ => check1_calls x h3) ?_
        refine AOps.q rfl rfl rfl (q_as rfl (rfl : _ = V.bool _)) ?_
        refine AOps.nil ?_
        refine AW.cond rfl (fun c3 => ?_) (fun c3 => ?_)
        · skip
          refine AW.seq ?_
          refine AW.region ?_
          refine AOps.q rfl rfl rfl (q_iface rfl Tryz.underlying62 rfl) ?_
          refine AOps.q rfl rfl rfl (q_as rfl (rfl : _ = V.iface _ _)) ?_
          refine AOps.nil ?_
          refine AW.ret ?_
          exact retQ.mk' (.one _) (VLe.of_eq (by show V.iface _ (V.int _ _) = _; rw [show checkF s = 2 by simp_all [checkF]]; exact (eErr_ne (by decide)).symm)) (HLe.refl _) ⟨rfl, rfl⟩
        · skip
          refine AW.skip ?_
          refine AW.seq ?_
          refine AW.region ?_
          refine AOps.q rfl rfl rfl (q_as rfl (rfl : _ = V.inil)) ?_
          refine AOps.nil ?_
          refine AW.ret ?_
          exact retQ.mk' (.one _) (VLe.of_eq (by show V.inil = _; rw [show checkF s = 0 by simp at c0 c1 c2 c3; rw [checkF, if_neg (by omega), if_neg (by simp [c1]), if_neg (by simp [c2]), if_neg (by simp; exact c3)]]; exact (eErr_zero _).symm)) (HLe.refl _) ⟨rfl, rfl⟩

end Go.Proofs.YtnbmcbkokaoapaaGreatDoor
