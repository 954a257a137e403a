/- The abstract walk, seventh part: the spellings that walks use. -/
import Derived.Test.YtnbmcbkokaoapaaGreatDoorAv6
namespace Go.AV
section
variable {P : Program} {G : Nat → Option (List V)} {h : Hp} {o : Oper} {ρ : Operand → V}

theorem AW.condT {N : Nat} {Q : Post} {T : Tm} {c : Operand} {x y : Code} {b : Bool} (hc : ev G T c = .bool b) (hb : b = true) (k : AW P G N x Q T h) : AW P G N (.cond c x y) Q T h :=
  .cond hc (fun _ => k) fun e => by rw [hb] at e; cases e
theorem AW.condF {N : Nat} {Q : Post} {T : Tm} {c : Operand} {x y : Code} {b : Bool} (hc : ev G T c = .bool b) (hb : b = false) (k : AW P G N y Q T h) : AW P G N (.cond c x y) Q T h :=
  .cond hc (fun e => by rw [hb] at e; cases e) fun _ => k

/-- An error by its number; 0: none. -/
def eErr (t : TypeId) (e : Int) : V := if e = 0 then .inil else .iface t (.int .i64 e)
attribute [irreducible] eErr
theorem eErr_zero (t : TypeId) : eErr t 0 = .inil := by unfold eErr; simp
theorem eErr_ne {t : TypeId} {e : Int} (h : e ≠ 0) : eErr t e = .iface t (.int .i64 e) := by unfold eErr; simp [h]
theorem eErr_solid (t : TypeId) (e : Int) : (eErr t e).solid = true ∧ (eErr t e).cells = [eErr t e] := by
  unfold eErr; split <;> exact ⟨rfl, rfl⟩
theorem q_eqerr {t t2 et : TypeId} {ms} (ht : P.underlying t = some (.interface ms)) {x : Operand} (ho : o.op = .binOp .eql t x (.const .nilIface) t2) {e : Int} (hx : ρ x = eErr et e) : QOp P G h o ρ (.bool (e == 0)) := by
  by_cases he : e = 0
  · subst he
    rw [eErr_zero] at hx
    exact q_eqnil ht ho (by rw [hx]; rfl) (by rw [hx]; rfl)
  · rw [eErr_ne he] at hx
    have : (e == 0) = false := by simpa using he
    rw [this]
    exact q_eqnil ht ho (by rw [hx]; rfl) (by rw [hx]; rfl)
theorem q_neerr {t t2 et : TypeId} {ms} (ht : P.underlying t = some (.interface ms)) {x : Operand} (ho : o.op = .binOp .neq t x (.const .nilIface) t2) {e : Int} (hx : ρ x = eErr et e) : QOp P G h o ρ (.bool (e != 0)) := by
  by_cases he : e = 0
  · subst he
    rw [eErr_zero] at hx
    exact q_nenil ht ho (by rw [hx]; rfl) (by rw [hx]; rfl)
  · rw [eErr_ne he] at hx
    have : (e != 0) = true := by simpa using he
    rw [this]
    exact q_nenil ht ho (b := false) (by rw [hx]; rfl) (by rw [hx]; rfl)
/-- An error made of a number that isn't 0. -/
theorem q_mkerr {t : TypeId} {x : Operand} (ho : o.op = .makeInterface t x) {d : TypeDesc} (ht : P.underlying t = some d) (hd : notIface d = true) {e : Int} (hx : ρ x = .int .i64 e) (he : e ≠ 0) : QOp P G h o ρ (eErr t e) := by
  have := q_iface (P := P) (G := G) (h := h) (ρ := ρ) ho ht hd
  rwa [hx, ← eErr_ne he] at this

theorem q_nc {x : Operand} {v : V} (ho : o.op = .nilCheck x) (hv : ρ x = v) (hx : v.pointy = true) : QOp P G h o ρ v := by
  subst hv; exact q_nilCheck ho hx

/-- A structure that is boxed. -/
theorem q_boxa {t : TypeId} {y : Operand} {cs : List V} (ho : o.op = .box t y) (hy : ρ y = .agg cs) : QOp P G h o ρ (.iptr cs) := by
  have := q_boxi (P := P) (G := G) (h := h) (ρ := ρ) ho (by rw [hy]; rfl)
  rwa [hy] at this
theorem a_boxa {t : TypeId} {y : Operand} {cs : List V} (ho : o.op = .box t y) (hy : ρ y = .agg cs) {K : V → Hp → Prop} (k : ∀ id, h.fresh id → K (.ptr id 0) (h.setBox id cs)) : AStep P G o ρ h K :=
  a_box ho (by rw [hy]; rfl) fun id f => by rw [hy]; exact k id f

/-- The whole of what a pointer tells. -/
theorem q_load_iW {t : TypeId} {x : Operand} (ho : o.op = .load t x) (ha : ∀ w, (isAgg t).run P w = .ok true w) {n : Nat} (hs : ∀ w, (sizeOf t).run P w = .ok n w) {cs : List V} (hx : ρ x = .iptr cs) (hl : cs.length = n) : QOp P G h o ρ (.agg cs) :=
  q_load_iN ho ha hs hx hl (List.take_of_length_le (by omega))
theorem q_load_bW {t : TypeId} {x : Operand} (ho : o.op = .load t x) (ha : ∀ w, (isAgg t).run P w = .ok true w) {n : Nat} (hs : ∀ w, (sizeOf t).run P w = .ok n w) (hn0 : 0 < n) {id : Nat} (hx : ρ x = .ptr id 0) {cs : List V} (hb : h.box id = some cs) (hl : cs.length = n) : QOp P G h o ρ (.agg cs) :=
  q_load_bN ho ha hs hn0 hx hb hl (by rw [List.drop_zero]; exact List.take_of_length_le (by omega))
/-- A variable that has just been made is filled. -/
theorem a_storeW {t : TypeId} {x y : Operand} (ho : o.op = .store t x y) {n : Nat} (hs : ∀ w, (sizeOf t).run P w = .ok n w) {id : Nat} (hx : ρ x = .ptr id 0) {h0 : Hp} {cs : List V} (hh : h = h0.setBox id cs)
    {ds : List V} (hd : (ρ y).cells = ds) (hy : (ρ y).solid = true) (hn : ds.length = n) (hc : cs.length = n) {K : V → Hp → Prop} (k : K .junk (h0.setBox id ds)) : AStep P G o ρ h K := by
  subst hh
  refine a_store ho hs hx (Hp.box_setBox _ _ _) hd hy hn (by omega) ?_
  have : splice cs 0 ds = ds := by rw [splice_eq _ _ _ (by omega)]; simp [hn, ← hc]
  rw [this, Hp.setBox_setBox]
  exact k

theorem a_storeWA {t : TypeId} {x y : Operand} (ho : o.op = .store t x y) {n : Nat} (hs : ∀ w, (sizeOf t).run P w = .ok n w) {id : Nat} (hx : ρ x = .ptr id 0) {h0 : Hp} {cs : List V} (hh : h = h0.setBox id cs)
    {ds : List V} (hv : ρ y = .agg ds) (hn : ds.length = n) (hc : cs.length = n) {K : V → Hp → Prop} (k : K .junk (h0.setBox id ds)) : AStep P G o ρ h K :=
  a_storeW ho hs hx hh (by rw [hv]; rfl) (by rw [hv]; rfl) hn hc k
theorem a_storeW1 {t : TypeId} {x y : Operand} {v : V} (ho : o.op = .store t x y) (hs : ∀ w, (sizeOf t).run P w = .ok 1 w) {id : Nat} (hx : ρ x = .ptr id 0) {h0 : Hp} {cs : List V} (hh : h = h0.setBox id cs)
    (hv : ρ y = v) (hd : v.cells = [v]) (hy : v.solid = true) (hc : cs.length = 1) {K : V → Hp → Prop} (k : K .junk (h0.setBox id [v])) : AStep P G o ρ h K := by
  subst hv; exact a_storeW ho hs hx hh hd hy rfl hc k

/-! ### slices of what lies there -/
theorem run_slice_bound {w : World} (k : IntKind) (i : Int) (y : Nat) (c : BoundsCode) (h0 : 0 ≤ i) (h1 : i ≤ y) : (Instr.sliceBound (.int k i) y c).run P w = .ok i.toNat w := by
  simp [Instr.sliceBound, asIntOf, h0, h1]
/-- 'a[:]' of an array that lies there. -/
theorem q_sliceA {t e : TypeId} {l : Nat} {x : Operand} (ho : o.op = .slice t x none none none) (hu : P.underlying t = some (.array l e)) {n : Nat} (hs : ∀ w, (sizeOf e).run P w = .ok n w) {cs : List V} (hx : ρ x = .iptr cs) (hl : cs.length = l * n) : QOp P G h o ρ (.sl .full n l cs) :=
  .of_run fun _ _ _ _ w a _ hr => by
    have h1 := hr x (by simp [ho, Op.operands]); rw [hx] at h1
    obtain ⟨b, off, f, e1, hi, h2⟩ := h1.iptr_inv
    refine ⟨.slice (some ⟨b, off, none⟩) l l, ?_, .sl .full b off n l l cs f hl (Nat.le_refl _) rfl hi h2⟩
    simp [execOp, ho, e1, Instr.sliceAt, run_underlying hu, Instr.sureAddr, Instr.sliceBounds, hs, add_mk]

end
end Go.AV
