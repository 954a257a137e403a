/- Walks: the document's cards. -/
import Derived.Test.YtagcjkbogaoifaaGreatDoorTo9
namespace Go.Proofs.YtagcjkbogaoifaaGreatDoor
open Go Go.AV Go.Proofs.Tryz
set_option maxRecDepth 100000
set_option maxHeartbeats 1000000
def cCardV (kind col : Int) (fast : Bool) (c : Cost) (p t s : Int) (v : V) : List V := [.int .i64 kind, .int .i64 col, .bool fast, .int .i64 (c 0), .int .i64 (c 1), .int .i64 (c 2), .int .i64 (c 3), .int .i64 (c 4), .int .i64 (c 5), .int .i64 p, .int .i64 t, .int .i64 s, v]
theorem ovr_len : ∀ cs ds : List V, (ovr cs ds).length = cs.length
  | cs, [] => by cases cs <;> rfl
  | [], _ :: _ => rfl
  | c :: cs, d :: ds => by rw [ovr, List.length_cons, ovr_len cs ds, List.length_cons]
theorem splice_len : ∀ (l : List V) (i : Nat) (x : List V), (splice l i x).length = l.length
  | l, 0, x => by rw [splice, ovr_len]
  | [], i + 1, x => rfl
  | c :: l, i + 1, x => by rw [splice, List.length_cons, splice_len l i x, List.length_cons]
def costR (c x k : Int) : Cost := fun j => if j = 5 then k else if (j : Int) = c then x else 0
def cost5 (k : Int) : Cost := fun j => if j = 5 then k else 0
theorem cardV_set {kind col p t s c x : Int} {fast : Bool} {v : V} (h0 : 0 ≤ c) (h1 : c < 6) : splice (cCardV kind col fast noCost p t s v) (3 + c.toNat * 1) [.int .i64 x] = cCardV kind col fast (oneCost c x) p t s v := by
  obtain ⟨k, rfl⟩ := Int.eq_ofNat_of_zero_le h0
  have : k = 0 ∨ k = 1 ∨ k = 2 ∨ k = 3 ∨ k = 4 ∨ k = 5 := by omega
  rcases this with e | e | e | e | e | e <;> subst e <;> rfl
theorem cardV_set2 {kind col p t s c x y : Int} {fast : Bool} {v : V} (h0 : 0 ≤ c) (h1 : c < 6) : splice (cCardV kind col fast (oneCost c y) p t s v) (3 + c.toNat * 1) [.int .i64 x] = cCardV kind col fast (oneCost c x) p t s v := by
  obtain ⟨k, rfl⟩ := Int.eq_ofNat_of_zero_le h0
  have : k = 0 ∨ k = 1 ∨ k = 2 ∨ k = 3 ∨ k = 4 ∨ k = 5 := by omega
  rcases this with e | e | e | e | e | e <;> subst e <;> rfl
def pw8 (k : Int) : Int := [1, 1, 2, 2, 3, 3, 4, 4].getD k.toNat 0
def tg8 (k : Int) : Int := [1, 2, 2, 3, 3, 4, 4, 5].getD k.toNat 0
def sy8 (k : Int) : Int := [1, 2, 4, 8, 16, 32, 64, 128].getD k.toNat 0
theorem getD_in {m : Int} (hm : 0 ≤ m) : ∀ {l : List Int} (_ : ∀ x ∈ l, 0 ≤ x ∧ x ≤ m) (i : Nat), 0 ≤ l.getD i 0 ∧ l.getD i 0 ≤ m
  | [], _, i => by simp [List.getD_eq_getElem?_getD, hm]
  | x :: l, h, 0 => h x (by simp)
  | x :: l, h, i + 1 => getD_in hm (l := l) (fun y hy => h y (by simp [hy])) i
theorem pw8_in (k : Int) : 0 ≤ pw8 k ∧ pw8 k ≤ 4 := getD_in (by decide) (by decide) _
theorem tg8_in (k : Int) : 0 ≤ tg8 k ∧ tg8 k ≤ 5 := getD_in (by decide) (by decide) _
/-- A creature's ability, by its colour. -/
def refBeastA (c k : Int) : List Abil :=
  if c = 0 then [⟨2, noCost, false, 0, ⟨2, k + 1, 0, 0, []⟩⟩] else if c = 1 then (if k % 2 = 0 then [] else [⟨2, noCost, false, 0, ⟨4, 1, 0, 0, []⟩⟩])
  else if c = 2 then [⟨3, noCost, false, 0, ⟨3, pw8 k, 0, 1, []⟩⟩] else if c = 3 then [⟨1, oneCost 3 1, true, 3, ⟨1, 1, 0, 2, []⟩⟩] else [⟨1, oneCost 4 1, false, 0, ⟨10, 1, 1, 3, []⟩⟩]
def specR (n : Int) : Card :=
  let r := specialRows.getD (n - 100).toNat []
  ⟨r.getD 0 0, 5, r.getD 2 0 == 1, cost5 (r.getD 1 0), r.getD 3 0, r.getD 4 0, r.getD 5 0, abilR (r.drop 6) :: (if n = 108 then [giveF 2 5] else [])⟩
/-- A card, by the document. -/
def refCardF (n : Int) : Card :=
  if n < 5 then ⟨0, n, false, noCost, 0, 0, 0, [giveF 1 n]⟩
  else if n < 10 then ⟨0, 5, false, noCost, 0, 0, 0, [⟨2, noCost, false, 0, ⟨3, n - 4, 0, 0, []⟩⟩, giveF ([1, 1, 2, 2, 3].getD (n - 5).toNat 0) 5]⟩
  else if n < 50 then ⟨1, n % 5, false, costR (n % 5) (if 3 < (n - 10) / 5 then 2 else 1) ((n - 10) / 5), if n % 5 = 3 then pw8 ((n - 10) / 5) + 1 else pw8 ((n - 10) / 5), if n % 5 = 4 then tg8 ((n - 10) / 5) + 1 else tg8 ((n - 10) / 5), sy8 ((n - 10) / 5), refBeastA (n % 5) ((n - 10) / 5)⟩
  else if n < 80 then ⟨2, n % 5, (n - 50) / 5 % 2 == 0, costR (n % 5) 1 ((n - 50) / 5), 0, 0, 0, [⟨0, noCost, false, (magicRows.getD (n - 50).toNat []).getD 0 0, effR ((magicRows.getD (n - 50).toNat []).drop 1)⟩]⟩
  else if n < 100 then ⟨3, n % 5, false, costR (n % 5) 1 ((n - 80) / 5 + 1), 0, 0, 0, [abilR (relicRows8.getD (n - 80).toNat [])]⟩
  else if n < 112 then specR n
  else ⟨1, 5, false, noCost, [1, 1, 2, 2, 3, 3, 4, 4].getD (n - 112).toNat 0, [1, 1, 2, 2, 3, 3, 4, 4].getD (n - 112).toNat 0, n % 2, []⟩
def costK (c : Cost) : List Int := [c 0, c 1, c 2, c 3, c 4, c 5]
def eff0K (e : Eff0) : List Int := [e.op, e.n, e.m, e.who]
def abilK (a : Abil) : List Int × Bool × List (List Int) := (a.when :: a.target :: a.doo.op :: a.doo.n :: a.doo.m :: a.doo.who :: costK a.cost, a.tap, a.doo.subs.map eff0K)
def cardK (c : Card) : List Int × Bool × List (List Int × Bool × List (List Int)) := (c.kind :: c.colour :: c.power :: c.tough :: c.says :: costK c.cost, c.fast, c.abs.map abilK)
theorem eff0_key {a b : Eff0} (h : eff0K a = eff0K b) : a = b := by
  obtain ⟨o, n, m, w⟩ := a; obtain ⟨o', n', m', w'⟩ := b
  simpa [eff0K] using h
theorem eff0s_key {a b : List Eff0} (h : a.map eff0K = b.map eff0K) : a = b := by
  induction a generalizing b with
  | nil => cases b <;> simp at h ⊢
  | cons x a ih => cases b with
    | nil => simp at h
    | cons y b => simp only [List.map_cons, List.cons.injEq] at h; rw [eff0_key h.1, ih h.2]
theorem abil_key {a b : Abil} (h : abilK a = abilK b) : cAbil a = cAbil b := by
  simp only [abilK, costK, Prod.mk.injEq, List.cons.injEq] at h
  obtain ⟨⟨h1, h2, h3, h4, h5, h6, k0, k1, k2, k3, k4, k5, _⟩, h7, h8⟩ := h
  simp only [cAbil, h1, h2, h3, h4, h5, h6, k0, k1, k2, k3, k4, k5, h7, eff0s_key h8]
theorem abils_key {a b : List Abil} (h : a.map abilK = b.map abilK) : a.length = b.length ∧ a.flatMap cAbil = b.flatMap cAbil := by
  induction a generalizing b with
  | nil => cases b <;> simp at h ⊢
  | cons x a ih => cases b with
    | nil => simp at h
    | cons y b => simp only [List.map_cons, List.cons.injEq] at h; simp [abil_key h.1, ih h.2]
theorem card_key {a b : Card} (h : cardK a = cardK b) : cCard a = cCard b := by
  simp only [cardK, costK, Prod.mk.injEq, List.cons.injEq] at h
  obtain ⟨⟨h1, h2, h3, h4, h5, k0, k1, k2, k3, k4, k5, _⟩, h7, h8⟩ := h
  have := abils_key h8
  simp only [cCard, cCardK, h1, h2, h3, h4, h5, k0, k1, k2, k3, k4, k5, h7, this.1, this.2]
instance abilKey : DecidableEq (List (List Int × Bool × List (List Int))) := inferInstance
instance cardKey : DecidableEq (List Int × Bool × List (List Int × Bool × List (List Int))) := inferInstance
theorem refCard_all : ∀ i : Fin 120, cardK (refCardF (i.val : Int)) = cardK (cardF (i.val : Int)) := by decide +kernel
/-- The document's card is the table's. -/
theorem refCard_eq {n : Int} (h0 : 0 ≤ n) (h1 : n < 120) : cCard (refCardF n) = cCard (cardF n) := by
  obtain ⟨k, rfl⟩ := Int.eq_ofNat_of_zero_le h0
  exact card_key (refCard_all ⟨k, by omega⟩)
theorem cCardV_le {kind col p t s : Int} {fast : Bool} {c : Cost} {v : V} {l : List Abil} (hv : VLe v (.sl .imm 14 l.length (l.flatMap cAbil))) : VLe (.agg (cCardV kind col fast c p t s v)) (eCard ⟨kind, col, fast, c, p, t, s, l⟩) :=
  LLe.agg (LLe.append (a := [.int .i64 kind, .int .i64 col, .bool fast, .int .i64 (c 0), .int .i64 (c 1), .int .i64 (c 2), .int .i64 (c 3), .int .i64 (c 4), .int .i64 (c 5), .int .i64 p, .int .i64 t, .int .i64 s]) (.refl _) (.cons hv .nil))
theorem card_end {n : Int} (h0 : 0 ≤ n) (h1 : n < 120) {kind col p t s : Int} {fast : Bool} {c : Cost} {v : V} {l : List Abil} (hv : VLe v (.sl .imm 14 l.length (l.flatMap cAbil))) (e : refCardF n = ⟨kind, col, fast, c, p, t, s, l⟩) {cs : List V} (hc : cs = cCardV kind col fast c p t s v) :
    VLe (.tup [.agg cs, .bool true]) (.tup [eCard (cardE n).1, .bool ((cardE n).2 == 0)]) := by
  rw [cardE, if_neg (by omega), hc]
  refine LLe.tup (.cons ((cCardV_le hv).trans (.of_eq ?_)) (.cons (.refl _) .nil))
  show V.agg _ = V.agg _
  rw [← e, ← refCard_eq h0 h1]
theorem magic_ok : ∀ i : Fin 30, 5 ≤ (magicRows.getD i.val []).length ∧ (magicRows.getD i.val []).length ≤ 50 ∧ ((magicRows.getD i.val []).length - 5) % 4 = 0 := by decide +kernel
theorem relic_ok : ∀ i : Fin 20, 8 ≤ (relicRows8.getD i.val []).length ∧ (relicRows8.getD i.val []).length ≤ 50 ∧ ((relicRows8.getD i.val []).length - 8) % 4 = 0 ∧ (relicRows8.getD i.val []).getD 1 0 < 6 := by decide +kernel
theorem special_ok : ∀ i : Fin 12, 14 ≤ (specialRows.getD i.val []).length ∧ (specialRows.getD i.val []).length ≤ 50 ∧ ((specialRows.getD i.val []).length - 14) % 4 = 0 ∧ ((specialRows.getD i.val []).drop 6).getD 1 0 < 6 := by decide +kernel
theorem magic_at {i : Nat} (h : i < 30) : 5 ≤ (magicRows.getD i []).length ∧ (magicRows.getD i []).length ≤ 50 ∧ ((magicRows.getD i []).length - 5) % 4 = 0 := magic_ok ⟨i, h⟩
theorem relic_at {i : Nat} (h : i < 20) : 8 ≤ (relicRows8.getD i []).length ∧ (relicRows8.getD i []).length ≤ 50 ∧ ((relicRows8.getD i []).length - 8) % 4 = 0 ∧ (relicRows8.getD i []).getD 1 0 < 6 := relic_ok ⟨i, h⟩
theorem special_atR {i : Nat} (h : i < 12) : 14 ≤ (specialRows.getD i []).length ∧ (specialRows.getD i []).length ≤ 50 ∧ ((specialRows.getD i []).length - 14) % 4 = 0 ∧ ((specialRows.getD i []).drop 6).getD 1 0 < 6 := special_ok ⟨i, h⟩
theorem out119 {i : Int} (h : (bif decide (i < 0) then true else decide (119 < i)) = true) : i < 0 ∨ 120 ≤ i := by
  by_cases h0 : i < 0
  · exact .inl h0
  · have : 119 < i := by simpa [h0] using h
    exact .inr (by omega)
theorem in119 {i : Int} (h : (bif decide (i < 0) then true else decide (119 < i)) = false) : 0 ≤ i ∧ i < 120 := by
  by_cases h0 : i < 0
  · simp [h0] at h
  · have : ¬ 119 < i := by simpa [h0] using h
    exact ⟨by omega, by omega⟩
theorem abils_le {k : SK} {l : List Abil} {n : Nat} (hn : n = l.length) : VLe (.sl k 14 n (l.flatMap cAbil)) (.sl .imm 14 l.length (l.flatMap cAbil)) := hn ▸ LLe.sl (LLe.refl _)
abbrev cAbilN (a : Abil) : List V := (cAbil a).take 13 ++ [.snil]
theorem abilN_le {a : Abil} (h : a.doo.subs = []) : LLe (cAbilN a) (cAbil a) := by
  have : cAbil a = (cAbil a).take 13 ++ [.sl .imm 5 0 []] := by simp only [cAbil, h]; rfl
  rw [this]; exact LLe.append (.refl _) (.cons .nilimm .nil)

theorem refCard_calls (n : Int) (h : Hp) : ACalls prog G 29 [.int .i64 n] h fun r h' => r = .tup [eCard (cardE n).1, .bool ((cardE n).2 == 0)] ∧ h' = h := by
  have hml : magicRows.length = 30 := rfl
  have hrl : relicRows8.length = 20 := rfl
  have hsl : specialRows.length = 12 := rfl
  refine ACalls.enter func29 rfl ntmps29 results29 rfl ?_
  refine .seq <|
    .region ?_
  refine AOps.s rfl rfl rfl (a_alloc rfl zeroValue44 rfl (fun id2 hid2 => ?_))
  refine .aB rfl rfl <|
    .nil <|
    .seq <|
    .seq <|
    .region <|
    .mI rfl rfl <|
    .ql rfl rfl rfl <|
    .mB rfl rfl ?_
  refine .gf rfl rfl rfl (fun _ => tl0) (fun hc => q_mv rfl (rfl : _ = V.int _ _)) ?_
  refine .gf rfl rfl rfl (fun hc => tl1 12 (.opt hc)) (fun hc => q_gt rfl rfl rfl) ?_
  refine .pf rfl rfl rfl rfl <|
    .nil ?_
  refine AW.cond rfl (fun c0 => ?_) (fun c0 => ?_)
  · skip
    refine .seq <|
      .region ?_
    refine .u rfl rfl rfl (q_buildS (ds := [.int .i64 0, .int .i64 0, .bool false, .int .i64 0, .int .i64 0, .int .i64 0, .int .i64 0, .int .i64 0, .int .i64 0, .int .i64 0, .int .i64 0, .int .i64 0, .snil]) rfl zeroValue44 underlying44 (pl44 underlying44) rfl (by kernel_rfl)) ?_
    refine .sw sizeOf44 rfl rfl rfl rfl <|
      .aB rfl rfl <|
      .nil ?_
    refine AW.ret ?_
    exact retQ.mk' (Res.cellB1 isAgg44 sizeOf44 rfl (by exact bsb) rfl) (by rw [cardE, if_pos (out119 c0)]; exact LLe.tup (.cons zCard_le.agg (.cons (.refl _) .nil))) (HLe.setBox hid2.1) ⟨rfl, rfl⟩
  · have hn := in119 c0
    have hc : 0 ≤ n % 5 ∧ n % 5 < 5 := by omega
    refine AW.skip ?_
    refine .seq <|
      .region ?_
    refine .u rfl rfl rfl (q_buildS (ds := cCardV 0 5 false noCost 0 0 0 .snil) rfl zeroValue44 underlying44 (pl44 underlying44) rfl (by kernel_rfl)) ?_
    refine AOps.s rfl rfl rfl (a_alloc rfl zeroValue44 rfl (fun id4 hid4 => ?_))
    refine .sw sizeOf44 rfl rfl rfl rfl <|
      .nil <|
      .seq <|
      .seq <|
      .region <|
      .mI rfl rfl <|
      .ql rfl rfl rfl <|
      .nil ?_
    refine AW.cond rfl (fun c1 => ?_) (fun c1 => ?_)
    · have h1 : n < 5 := by simpa using c1
      refine .seq <|
        .region <|
        .mI rfl rfl <|
        .fb rfl f44_1 rfl rfl ?_
      refine AOps.s0 rfl rfl (a_store1 rfl sizeOf3 rfl (by exact bsb) (rfl : _ = V.int _ _) rfl rfl (by first | decide | exact Nat.le_of_ble_eq_true rfl | (simp only [splice_len, cCardV, List.length_cons, List.length_nil]; omega)) ?_)
      refine .nil <|
        .region <|
        .mI rfl rfl ?_
      refine .u rfl rfl rfl (QOp.call rfl call73 fun h' hl' => by exact refGive_calls _ _ h') ?_
      refine .u rfl rfl rfl (q_buildSl (ds := cAbil (giveF 1 n)) rfl underlying42 sizeOf38 zeroValue38 rfl rfl rfl rfl (by kernel_rfl)) ?_
      refine .fb rfl f44_12 rfl rfl ?_
      refine AOps.s0 rfl rfl (a_store1 rfl sizeOf42 rfl (by exact bsb) (rfl : _ = V.sl _ _ _ _) rfl rfl (by first | decide | exact Nat.le_of_ble_eq_true rfl | (simp only [splice_len, cCardV, List.length_cons, List.length_nil]; omega)) ?_)
      refine .nil <|
        .seq ?_
      refine AW.stay (d := 4) (id := id4) (h0 := h.setBox id2 [.int .i64 0, .int .i64 0, .bool false, .int .i64 0, .int .i64 0, .int .i64 0, .int .i64 0, .int .i64 0, .int .i64 0, .int .i64 0, .int .i64 0, .int .i64 0, .snil]) (Hp.box_setBox _ _ _) (by repeat (first | exact HLe.refl _ | refine HLe.over ?_ hid4.1 | refine acc.hle.trans ?_)) hid4.1 Sealed.ptr ?_
      refine .region <|
        .lw rfl isAgg44 sizeOf44 rfl rfl <|
        .sw sizeOf44 rfl rfl rfl rfl <|
        .aB rfl rfl <|
        .nil ?_
      refine AW.ret ?_
      exact retQ.mk' (Res.cellB1 isAgg44 sizeOf44 rfl (by exact bsb) rfl) (card_end hn.1 hn.2 (l := [giveF 1 n]) (abils_le rfl) (by rw [refCardF, if_pos h1]) rfl) (HLe.setBox hid2.1) ⟨rfl, rfl⟩
    · have h1 : 5 ≤ n := by simpa using c1
      refine .seq <|
        .region <|
        .mI rfl rfl <|
        .ql rfl rfl rfl <|
        .nil ?_
      refine AW.cond rfl (fun c2 => ?_) (fun c2 => ?_)
      · have h2 : n < 10 := by simpa using c2
        refine .region <|
          .mI rfl rfl ?_
        refine .u rfl rfl rfl (q_sub' rfl rfl rfl (by omega)) ?_
        refine .u rfl rfl rfl (q_buildS (ds := [.int .i64 3, .int .i64 (n - 4), .int .i64 0, .int .i64 0, .snil]) rfl zeroValue36 underlying36 (pl36 underlying36) rfl (by kernel_rfl)) ?_
        refine .u rfl rfl rfl (q_buildS (ds := (cAbilN ⟨2, noCost, false, 0, ⟨3, (n - 4), 0, 0, []⟩⟩)) rfl zeroValue38 underlying38 (pl38 underlying38) rfl (by kernel_rfl)) ?_
        refine .u rfl rfl rfl (q_buildSl (ds := cInts [1, 1, 2, 2, 3]) rfl underlying23 sizeOf3 zeroValue3 rfl rfl rfl rfl (by kernel_rfl)) ?_
        refine .mI rfl rfl ?_
        refine .u rfl rfl rfl (q_sub' rfl rfl rfl (by omega)) ?_
        refine .u rfl rfl rfl (q_ia_s rfl underlying23 sizeOf3 rfl rfl (by omega) (by omega) (cInts_elem (by omega) (by simp only [List.length_cons, List.length_nil]; omega))) ?_
        refine .li rfl isAgg3 rfl rfl ?_
        refine .u rfl rfl rfl (QOp.call rfl call73 fun h' hl' => by exact refGive_calls _ _ h') ?_
        refine .u rfl rfl rfl (q_buildSl (ds := (cAbilN ⟨2, noCost, false, 0, ⟨3, (n - 4), 0, 0, []⟩⟩) ++ cAbil (giveF ([1, 1, 2, 2, 3].getD (n - 5).toNat 0) 5)) rfl underlying42 sizeOf38 zeroValue38 rfl rfl rfl rfl (by kernel_rfl)) ?_
        refine .fb rfl f44_12 rfl rfl ?_
        refine AOps.s0 rfl rfl (a_store1 rfl sizeOf42 rfl (by exact bsb) (rfl : _ = V.sl _ _ _ _) rfl rfl (by first | decide | exact Nat.le_of_ble_eq_true rfl | (simp only [splice_len, cCardV, List.length_cons, List.length_nil]; omega)) ?_)
        refine .nil <|
          .seq ?_
        refine AW.stay (d := 4) (id := id4) (h0 := h.setBox id2 [.int .i64 0, .int .i64 0, .bool false, .int .i64 0, .int .i64 0, .int .i64 0, .int .i64 0, .int .i64 0, .int .i64 0, .int .i64 0, .int .i64 0, .int .i64 0, .snil]) (Hp.box_setBox _ _ _) (by repeat (first | exact HLe.refl _ | refine HLe.over ?_ hid4.1 | refine acc.hle.trans ?_)) hid4.1 Sealed.ptr ?_
        refine .region <|
          .lw rfl isAgg44 sizeOf44 rfl rfl <|
          .sw sizeOf44 rfl rfl rfl rfl <|
          .aB rfl rfl <|
          .nil ?_
        refine AW.ret ?_
        exact retQ.mk' (Res.cellB1 isAgg44 sizeOf44 rfl (by exact bsb) rfl) (card_end hn.1 hn.2 (l := [⟨2, noCost, false, 0, ⟨3, (n - 4), 0, 0, []⟩⟩, giveF ([1, 1, 2, 2, 3].getD (n - 5).toNat 0) 5]) (LLe.sl (LLe.append (abilN_le rfl) (.refl _))) (by rw [refCardF, if_neg (by omega), if_pos h2]) rfl) (HLe.setBox hid2.1) ⟨rfl, rfl⟩
      · have h2 : 10 ≤ n := by simpa using c2
        refine .seq <|
          .region <|
          .mI rfl rfl <|
          .ql rfl rfl rfl <|
          .nil ?_
        refine AW.cond rfl (fun c3 => ?_) (fun c3 => ?_)
        · have h3 : n < 50 := by simpa using c3
          have hk : 0 ≤ (n - 10) / 5 ∧ (n - 10) / 5 < 8 := by omega
          have hp8 := pw8_in ((n - 10) / 5)
          have ht8 := tg8_in ((n - 10) / 5)
          refine .seq <|
            .region <|
            .mI rfl rfl ?_
          refine .u rfl rfl rfl (q_sub' rfl rfl rfl (by omega)) ?_
          refine .u rfl rfl rfl (q_quo' rfl rfl rfl (by omega) (by omega)) ?_
          refine .aI rfl rfl <|
            .nil <|
            .seq <|
            .region <|
            .mI rfl rfl ?_
          refine .u rfl rfl rfl (q_rem' rfl rfl rfl (by omega) (by omega)) ?_
          refine .fb rfl f44_0 rfl rfl ?_
          refine AOps.s0 rfl rfl (a_store1 rfl sizeOf3 rfl (by exact bsb) (rfl : _ = V.int _ _) rfl rfl (by first | decide | exact Nat.le_of_ble_eq_true rfl | (simp only [splice_len, cCardV, List.length_cons, List.length_nil]; omega)) ?_)
          refine .fb rfl f44_1 rfl rfl ?_
          refine AOps.s0 rfl rfl (a_store1 rfl sizeOf3 rfl (by exact bsb) (rfl : _ = V.int _ _) rfl rfl (by first | decide | exact Nat.le_of_ble_eq_true rfl | (simp only [splice_len, cCardV, List.length_cons, List.length_nil]; omega)) ?_)
          refine .nil <|
            .seq ?_
          refine AW.hp (h' := (h.setBox id2 [.int .i64 0, .int .i64 0, .bool false, .int .i64 0, .int .i64 0, .int .i64 0, .int .i64 0, .int .i64 0, .int .i64 0, .int .i64 0, .int .i64 0, .int .i64 0, .snil]).setBox id4 (cCardV 1 (n % 5) false noCost 0 0 0 .snil)) (by rw [Hp.setBox_setBox, Hp.setBox_setBox]; rfl) ?_
          refine .region <|
            .fb rfl f44_1 rfl rfl <|
            .lb rfl isAgg3 rfl rfl <|
            .fb rfl f44_3 rfl rfl ?_
          refine .u rfl rfl rfl (q_ia_ab rfl underlying33 sizeOf3 rfl rfl (by omega) (by omega)) ?_
          refine AOps.s0 rfl rfl (a_store1 rfl sizeOf3 rfl (by exact bsb) (rfl : _ = V.int _ _) rfl rfl (by first | decide | exact Nat.le_of_ble_eq_true rfl | (simp only [splice_len, cCardV, List.length_cons, List.length_nil]; omega)) ?_)
          refine .nil <|
            .seq <|
            .seq ?_
          refine AW.hp (h' := (h.setBox id2 [.int .i64 0, .int .i64 0, .bool false, .int .i64 0, .int .i64 0, .int .i64 0, .int .i64 0, .int .i64 0, .int .i64 0, .int .i64 0, .int .i64 0, .int .i64 0, .snil]).setBox id4 (cCardV 1 (n % 5) false (oneCost (n % 5) 1) 0 0 0 .snil)) (by rw [Hp.setBox_setBox, cardV_set hc.1 (by omega)]) ?_
          refine .region <|
            .mI rfl rfl ?_
          refine .u rfl rfl rfl (q_gt rfl rfl rfl) ?_
          refine .nil ?_
          refine AW.cond rfl (fun c4 => ?_) (fun c4 => ?_)
          · have hx : (if 3 < (n - 10) / 5 then (2 : Int) else 1) = 2 := if_pos (of_decide_eq_true c4)
            refine .region <|
              .fb rfl f44_1 rfl rfl <|
              .lb rfl isAgg3 rfl rfl <|
              .fb rfl f44_3 rfl rfl ?_
            refine .u rfl rfl rfl (q_ia_ab rfl underlying33 sizeOf3 rfl rfl (by omega) (by omega)) ?_
            refine AOps.s0 rfl rfl (a_store1 rfl sizeOf3 rfl (by exact bsb) (rfl : _ = V.int _ _) rfl rfl (by first | decide | exact Nat.le_of_ble_eq_true rfl | (simp only [splice_len, cCardV, List.length_cons, List.length_nil]; omega)) ?_)
            refine .nil <|
              .seq ?_
            first | refine AW.hp (h' := (h.setBox id2 [.int .i64 0, .int .i64 0, .bool false, .int .i64 0, .int .i64 0, .int .i64 0, .int .i64 0, .int .i64 0, .int .i64 0, .int .i64 0, .int .i64 0, .int .i64 0, .snil]).setBox id4 (cCardV 1 (n % 5) false (oneCost (n % 5) (if 3 < (n - 10) / 5 then 2 else 1)) 0 0 0 .snil)) (by rw [Hp.setBox_setBox, cardV_set2 hc.1 (by omega), hx]) ?_ | refine AW.hp (h' := (h.setBox id2 [.int .i64 0, .int .i64 0, .bool false, .int .i64 0, .int .i64 0, .int .i64 0, .int .i64 0, .int .i64 0, .int .i64 0, .int .i64 0, .int .i64 0, .int .i64 0, .snil]).setBox id4 (cCardV 1 (n % 5) false (oneCost (n % 5) (if 3 < (n - 10) / 5 then 2 else 1)) 0 0 0 .snil)) (by rw [hx]) ?_
            refine .region <|
              .mI rfl rfl <|
              .fb rfl f44_3 rfl rfl ?_
            refine .u rfl rfl rfl (q_ia_ab rfl underlying33 sizeOf3 rfl rfl (by decide) (by decide)) ?_
            refine AOps.s0 rfl rfl (a_store1 rfl sizeOf3 rfl (by exact bsb) (rfl : _ = V.int _ _) rfl rfl (by first | decide | exact Nat.le_of_ble_eq_true rfl | (simp only [splice_len, cCardV, List.length_cons, List.length_nil]; omega)) ?_)
            refine .nil <|
              .seq ?_
            refine AW.draw [9, 11] [4, 5, 6, 7] [(0, true), (1, true), (2, true), (3, true), (4, true), (5, true), (6, true), (7, true), (8, true), (9, false), (10, true), (11, false)] mixed (by kernel_rfl) rfl (by kernel_rfl) ?_
            refine .q rfl rfl rfl rfl (q_buildSl (ds := cInts [1, 1, 2, 2, 3, 3, 4, 4]) rfl underlying23 sizeOf3 zeroValue3 rfl rfl rfl rfl (by kernel_rfl)) ?_
            refine .q rfl rfl rfl rfl (q_mv rfl (rfl : _ = V.int _ _)) ?_
            refine .q rfl rfl rfl rfl (q_ia_s rfl underlying23 sizeOf3 rfl rfl (by omega) (by omega) (show _ = [V.int .i64 (pw8 ((n - 10) / 5))] from cInts_elem (by omega) (by simp only [List.length_cons, List.length_nil]; omega))) ?_
            refine .q rfl rfl rfl rfl (q_load_i1 rfl isAgg3 rfl rfl) ?_
            refine .p rfl rfl rfl (fun _ => q_buildSl (ds := cInts [1, 2, 2, 3, 3, 4, 4, 5]) rfl underlying23 sizeOf3 zeroValue3 rfl rfl rfl rfl (by kernel_rfl)) ?_
            refine .p rfl rfl rfl (fun _ => q_mv rfl (rfl : _ = V.int _ _)) ?_
            refine .p rfl rfl rfl (fun _ => q_ia_s rfl underlying23 sizeOf3 rfl rfl (by omega) (by omega) (show _ = [V.int .i64 (tg8 ((n - 10) / 5))] from cInts_elem (by omega) (by simp only [List.length_cons, List.length_nil]; omega))) ?_
            refine .p rfl rfl rfl (fun _ => q_load_i1 rfl isAgg3 rfl rfl) ?_
            refine .q rfl rfl rfl rfl (q_fa_b rfl underlying44 rfl (by exact sizeOf3) (by decide) rfl (rfl : _ = 9)) ?_
            refine AOrd.s0 rfl rfl rfl rfl (a_store1 rfl sizeOf3 rfl (by exact bsb) (rfl : _ = V.int _ _) rfl rfl (by first | decide | exact Nat.le_of_ble_eq_true rfl | (simp only [splice_len, cCardV, List.length_cons, List.length_nil]; omega)) ?_)
            refine .q rfl rfl rfl rfl (q_fa_b rfl underlying44 rfl (by exact sizeOf3) (by decide) rfl (rfl : _ = 10)) ?_
            refine AOrd.s0 rfl rfl rfl rfl (a_store1 rfl sizeOf3 rfl (by exact bsb) (rfl : _ = V.int _ _) rfl rfl (by first | decide | exact Nat.le_of_ble_eq_true rfl | (simp only [splice_len, cCardV, List.length_cons, List.length_nil]; omega)) ?_)
            refine AOrd.nil ?_
            refine .seq <|
              .region ?_
            refine .u rfl rfl rfl (q_buildSl (ds := cInts [1, 2, 4, 8, 16, 32, 64, 128]) rfl underlying23 sizeOf3 zeroValue3 rfl rfl rfl rfl (by kernel_rfl)) ?_
            refine .mI rfl rfl ?_
            refine .u rfl rfl rfl (q_ia_s rfl underlying23 sizeOf3 rfl rfl (by omega) (by omega) (show _ = [V.int .i64 (sy8 ((n - 10) / 5))] from cInts_elem (by omega) (by simp only [List.length_cons, List.length_nil]; omega))) ?_
            refine .li rfl isAgg3 rfl rfl <|
              .fb rfl f44_11 rfl rfl ?_
            refine AOps.s0 rfl rfl (a_store1 rfl sizeOf3 rfl (by exact bsb) (rfl : _ = V.int _ _) rfl rfl (by first | decide | exact Nat.le_of_ble_eq_true rfl | (simp only [splice_len, cCardV, List.length_cons, List.length_nil]; omega)) ?_)
            refine .nil <|
              .seq ?_
            refine AW.hp (h' := (h.setBox id2 [.int .i64 0, .int .i64 0, .bool false, .int .i64 0, .int .i64 0, .int .i64 0, .int .i64 0, .int .i64 0, .int .i64 0, .int .i64 0, .int .i64 0, .int .i64 0, .snil]).setBox id4 (cCardV 1 (n % 5) false (costR (n % 5) (if 3 < (n - 10) / 5 then 2 else 1) ((n - 10) / 5)) (pw8 ((n - 10) / 5)) (tg8 ((n - 10) / 5)) (sy8 ((n - 10) / 5)) .snil)) (by rw [Hp.setBox_setBox, Hp.setBox_setBox, Hp.setBox_setBox, Hp.setBox_setBox]; rfl) ?_
            refine .region ?_
            refine .u rfl rfl rfl (q_buildS (ds := [.int .i64 0, .int .i64 0, .int .i64 0, .int .i64 0, .int .i64 0, .int .i64 0, .int .i64 0, .bool false, .int .i64 0, .int .i64 0, .int .i64 0, .int .i64 0, .int .i64 0, .snil]) rfl zeroValue38 underlying38 (pl38 underlying38) rfl (by kernel_rfl)) ?_
            refine AOps.s rfl rfl rfl (a_alloc rfl zeroValue38 rfl (fun id6 hid6 => ?_))
            refine .sw sizeOf38 rfl rfl rfl rfl <|
              .nil <|
              .seq <|
              .seq ?_
            have n64 : id6 ≠ id4 := (fresh_ne hid6).symm
            refine .region <|
              .fb rfl f44_1 rfl rfl ?_
            refine .u rfl rfl rfl (q_load_b1 rfl isAgg3 rfl (by exact box_under n64 (Hp.box_setBox _ _ _)) rfl) ?_
            refine .nil <|
              .block <|
              .seq <|
              .region <|
              .qe rfl rfl rfl <|
              .aB rfl rfl <|
              .nil ?_
            refine AW.cond rfl (fun c5 => ?_) (fun c5 => ?_)
            · have e : n % 5 = 0 := by simpa using c5
              refine .region <|
                .mI rfl rfl <|
                .ad rfl rfl rfl (by omega) ?_
              refine .u rfl rfl rfl (q_buildS rfl zeroValue36 underlying36 (pl36 underlying36) rfl rfl) ?_
              refine .u rfl rfl rfl (q_buildS (ds := (cAbilN ⟨2, noCost, false, 0, ⟨2, ((n - 10) / 5 + 1), 0, 0, []⟩⟩)) rfl zeroValue38 underlying38 (pl38 underlying38) rfl (by kernel_rfl)) ?_
              refine .sw sizeOf38 rfl rfl rfl rfl <|
                .nil ?_
              refine AW.done 6 rfl (by first | exact hid6 | exact Hp.fresh_swap hid6) ?_
              refine .region <|
                .lw rfl isAgg38 sizeOf38 rfl rfl ?_
              refine .u rfl rfl rfl (q_buildSl rfl underlying42 sizeOf38 zeroValue38 rfl rfl rfl rfl rfl) ?_
              refine .fb rfl f44_12 rfl rfl ?_
              refine AOps.s0 rfl rfl (a_store1 rfl sizeOf42 rfl (by exact bsb) (rfl : _ = V.sl _ _ _ _) rfl rfl (by first | decide | exact Nat.le_of_ble_eq_true rfl | (simp only [splice_len, cCardV, List.length_cons, List.length_nil]; omega)) ?_)
              refine .nil <|
                .seq ?_
              refine AW.stay (d := 4) (id := id4) (h0 := h.setBox id2 [.int .i64 0, .int .i64 0, .bool false, .int .i64 0, .int .i64 0, .int .i64 0, .int .i64 0, .int .i64 0, .int .i64 0, .int .i64 0, .int .i64 0, .int .i64 0, .snil]) (Hp.box_setBox _ _ _) (by repeat (first | exact HLe.refl _ | refine HLe.over ?_ hid4.1 | refine acc.hle.trans ?_)) hid4.1 Sealed.ptr ?_
              refine .region <|
                .lw rfl isAgg44 sizeOf44 rfl rfl <|
                .sw sizeOf44 rfl rfl rfl rfl <|
                .aB rfl rfl <|
                .nil ?_
              refine AW.ret ?_
              exact retQ.mk' (Res.cellB1 isAgg44 sizeOf44 rfl (by exact bsb) rfl) (card_end hn.1 hn.2 (l := [⟨2, noCost, false, 0, ⟨2, ((n - 10) / 5 + 1), 0, 0, []⟩⟩]) (LLe.sl (abilN_le rfl)) (by rw [refCardF, if_neg (by omega), if_neg (by omega), if_pos h3]; simp only [if_neg (show ¬ n % 5 = 3 by omega), if_neg (show ¬ n % 5 = 4 by omega), refBeastA]; rw [if_pos e]) rfl) (HLe.setBox hid2.1) ⟨rfl, rfl⟩
            · have e0 : n % 5 ≠ 0 := by simpa using c5
              refine .seq <|
                .region <|
                .qe rfl rfl rfl <|
                .aB rfl rfl <|
                .nil ?_
              refine AW.cond rfl (fun c6 => ?_) (fun c6 => ?_)
              · have e : n % 5 = 1 := by simpa using c6
                refine .seq <|
                  .region ?_
                refine .u rfl rfl rfl (q_buildS rfl zeroValue36 underlying36 (pl36 underlying36) rfl rfl) ?_
                refine .u rfl rfl rfl (q_buildS (ds := (cAbilN ⟨2, noCost, false, 0, ⟨4, 1, 0, 0, []⟩⟩)) rfl zeroValue38 underlying38 (pl38 underlying38) rfl (by kernel_rfl)) ?_
                refine .sw sizeOf38 rfl rfl rfl rfl <|
                  .nil <|
                  .seq <|
                  .region <|
                  .mI rfl rfl ?_
                refine .u rfl rfl rfl (q_rem' rfl rfl rfl (by omega) (by omega)) ?_
                refine .qe rfl rfl rfl <|
                  .nil ?_
                refine AW.cond rfl (fun c7 => ?_) (fun c7 => ?_)
                · have ek : (n - 10) / 5 % 2 = 0 := by simpa using c7
                  refine .seq ?_
                  refine AW.done 6 rfl (by first | exact hid6 | exact Hp.fresh_swap hid6) ?_
                  refine AW.stay (d := 4) (id := id4) (h0 := h.setBox id2 [.int .i64 0, .int .i64 0, .bool false, .int .i64 0, .int .i64 0, .int .i64 0, .int .i64 0, .int .i64 0, .int .i64 0, .int .i64 0, .int .i64 0, .int .i64 0, .snil]) (Hp.box_setBox _ _ _) (by repeat (first | exact HLe.refl _ | refine HLe.over ?_ hid4.1 | refine acc.hle.trans ?_)) hid4.1 Sealed.ptr ?_
                  refine .region <|
                    .lw rfl isAgg44 sizeOf44 rfl rfl <|
                    .sw sizeOf44 rfl rfl rfl rfl <|
                    .aB rfl rfl <|
                    .nil ?_
                  refine AW.ret ?_
                  exact retQ.mk' (Res.cellB1 isAgg44 sizeOf44 rfl (by exact bsb) rfl) (card_end hn.1 hn.2 (l := []) (.nilimm) (by rw [refCardF, if_neg (by omega), if_neg (by omega), if_pos h3]; simp only [if_neg (show ¬ n % 5 = 3 by omega), if_neg (show ¬ n % 5 = 4 by omega), refBeastA]; rw [if_neg e0, if_pos e, if_pos ek]) rfl) (HLe.setBox hid2.1) ⟨rfl, rfl⟩
                · have ek : (n - 10) / 5 % 2 ≠ 0 := by simpa using c7
                  refine AW.skip ?_
                  refine AW.done 6 rfl (by first | exact hid6 | exact Hp.fresh_swap hid6) ?_
                  refine .region <|
                    .lw rfl isAgg38 sizeOf38 rfl rfl ?_
                  refine .u rfl rfl rfl (q_buildSl rfl underlying42 sizeOf38 zeroValue38 rfl rfl rfl rfl rfl) ?_
                  refine .fb rfl f44_12 rfl rfl ?_
                  refine AOps.s0 rfl rfl (a_store1 rfl sizeOf42 rfl (by exact bsb) (rfl : _ = V.sl _ _ _ _) rfl rfl (by first | decide | exact Nat.le_of_ble_eq_true rfl | (simp only [splice_len, cCardV, List.length_cons, List.length_nil]; omega)) ?_)
                  refine .nil <|
                    .seq ?_
                  refine AW.stay (d := 4) (id := id4) (h0 := h.setBox id2 [.int .i64 0, .int .i64 0, .bool false, .int .i64 0, .int .i64 0, .int .i64 0, .int .i64 0, .int .i64 0, .int .i64 0, .int .i64 0, .int .i64 0, .int .i64 0, .snil]) (Hp.box_setBox _ _ _) (by repeat (first | exact HLe.refl _ | refine HLe.over ?_ hid4.1 | refine acc.hle.trans ?_)) hid4.1 Sealed.ptr ?_
                  refine .region <|
                    .lw rfl isAgg44 sizeOf44 rfl rfl <|
                    .sw sizeOf44 rfl rfl rfl rfl <|
                    .aB rfl rfl <|
                    .nil ?_
                  refine AW.ret ?_
                  exact retQ.mk' (Res.cellB1 isAgg44 sizeOf44 rfl (by exact bsb) rfl) (card_end hn.1 hn.2 (l := [⟨2, noCost, false, 0, ⟨4, 1, 0, 0, []⟩⟩]) (LLe.sl (abilN_le rfl)) (by rw [refCardF, if_neg (by omega), if_neg (by omega), if_pos h3]; simp only [if_neg (show ¬ n % 5 = 3 by omega), if_neg (show ¬ n % 5 = 4 by omega), refBeastA]; rw [if_neg e0, if_pos e, if_neg ek]) rfl) (HLe.setBox hid2.1) ⟨rfl, rfl⟩
              · have e1 : n % 5 ≠ 1 := by simpa using c6
                refine .seq <|
                  .region <|
                  .qe rfl rfl rfl <|
                  .aB rfl rfl <|
                  .nil ?_
                refine AW.cond rfl (fun c8 => ?_) (fun c8 => ?_)
                · have e : n % 5 = 2 := by simpa using c8
                  refine .region ?_
                  refine .u rfl rfl rfl (q_buildSl (ds := cInts [1, 1, 2, 2, 3, 3, 4, 4]) rfl underlying23 sizeOf3 zeroValue3 rfl rfl rfl rfl (by kernel_rfl)) ?_
                  refine .mI rfl rfl ?_
                  refine .u rfl rfl rfl (q_ia_s rfl underlying23 sizeOf3 rfl rfl (by omega) (by omega) (show _ = [V.int .i64 (pw8 ((n - 10) / 5))] from cInts_elem (by omega) (by simp only [List.length_cons, List.length_nil]; omega))) ?_
                  refine .li rfl isAgg3 rfl rfl ?_
                  refine .u rfl rfl rfl (q_buildS rfl zeroValue36 underlying36 (pl36 underlying36) rfl rfl) ?_
                  refine .u rfl rfl rfl (q_buildS (ds := (cAbilN ⟨3, noCost, false, 0, ⟨3, (pw8 ((n - 10) / 5)), 0, 1, []⟩⟩)) rfl zeroValue38 underlying38 (pl38 underlying38) rfl (by kernel_rfl)) ?_
                  refine .sw sizeOf38 rfl rfl rfl rfl <|
                    .nil ?_
                  refine AW.done 6 rfl (by first | exact hid6 | exact Hp.fresh_swap hid6) ?_
                  refine .region <|
                    .lw rfl isAgg38 sizeOf38 rfl rfl ?_
                  refine .u rfl rfl rfl (q_buildSl rfl underlying42 sizeOf38 zeroValue38 rfl rfl rfl rfl rfl) ?_
                  refine .fb rfl f44_12 rfl rfl ?_
                  refine AOps.s0 rfl rfl (a_store1 rfl sizeOf42 rfl (by exact bsb) (rfl : _ = V.sl _ _ _ _) rfl rfl (by first | decide | exact Nat.le_of_ble_eq_true rfl | (simp only [splice_len, cCardV, List.length_cons, List.length_nil]; omega)) ?_)
                  refine .nil <|
                    .seq ?_
                  refine AW.stay (d := 4) (id := id4) (h0 := h.setBox id2 [.int .i64 0, .int .i64 0, .bool false, .int .i64 0, .int .i64 0, .int .i64 0, .int .i64 0, .int .i64 0, .int .i64 0, .int .i64 0, .int .i64 0, .int .i64 0, .snil]) (Hp.box_setBox _ _ _) (by repeat (first | exact HLe.refl _ | refine HLe.over ?_ hid4.1 | refine acc.hle.trans ?_)) hid4.1 Sealed.ptr ?_
                  refine .region <|
                    .lw rfl isAgg44 sizeOf44 rfl rfl <|
                    .sw sizeOf44 rfl rfl rfl rfl <|
                    .aB rfl rfl <|
                    .nil ?_
                  refine AW.ret ?_
                  exact retQ.mk' (Res.cellB1 isAgg44 sizeOf44 rfl (by exact bsb) rfl) (card_end hn.1 hn.2 (l := [⟨3, noCost, false, 0, ⟨3, (pw8 ((n - 10) / 5)), 0, 1, []⟩⟩]) (LLe.sl (abilN_le rfl)) (by rw [refCardF, if_neg (by omega), if_neg (by omega), if_pos h3]; simp only [if_neg (show ¬ n % 5 = 3 by omega), if_neg (show ¬ n % 5 = 4 by omega), refBeastA]; rw [if_neg e0, if_neg e1, if_pos e]) rfl) (HLe.setBox hid2.1) ⟨rfl, rfl⟩
                · have e2 : n % 5 ≠ 2 := by simpa using c8
                  refine .seq <|
                    .region <|
                    .qe rfl rfl rfl <|
                    .aB rfl rfl <|
                    .nil ?_
                  refine AW.cond rfl (fun c9 => ?_) (fun c9 => ?_)
                  · have e : n % 5 = 3 := by simpa using c9
                    refine .seq <|
                      .region <|
                      .fb rfl f44_9 rfl rfl ?_
                    refine .u rfl rfl rfl (q_load_b1 rfl isAgg3 rfl (by exact box_under n64 (Hp.box_setBox _ _ _)) rfl) ?_
                    refine .ad rfl rfl rfl (by omega) <|
                      .fb rfl f44_9 rfl rfl ?_
                    refine AOps.s0 rfl rfl (a_store1 rfl sizeOf3 rfl (by exact box_under n64 (Hp.box_setBox _ _ _)) (rfl : _ = V.int _ _) rfl rfl (by exact Nat.le_of_ble_eq_true rfl) ?_)
                    refine .nil ?_
                    refine AW.hp (by rw [swap_mem n64.symm]) ?_
                    refine .region ?_
                    refine .u rfl rfl rfl (q_buildA rfl zeroValue33 underlying33 sizeOf3 rfl rfl) ?_
                    refine .u rfl rfl rfl (q_buildS rfl zeroValue36 underlying36 (pl36 underlying36) rfl rfl) ?_
                    refine .u rfl rfl rfl (q_buildS (ds := (cAbilN ⟨1, (oneCost 3 1), true, 3, ⟨1, 1, 0, 2, []⟩⟩)) rfl zeroValue38 underlying38 (pl38 underlying38) rfl (by kernel_rfl)) ?_
                    refine .sw sizeOf38 rfl rfl rfl rfl <|
                      .nil ?_
                    refine AW.done 6 rfl (by first | exact hid6 | exact Hp.fresh_swap hid6) ?_
                    refine .region <|
                      .lw rfl isAgg38 sizeOf38 rfl rfl ?_
                    refine .u rfl rfl rfl (q_buildSl rfl underlying42 sizeOf38 zeroValue38 rfl rfl rfl rfl rfl) ?_
                    refine .fb rfl f44_12 rfl rfl ?_
                    refine AOps.s0 rfl rfl (a_store1 rfl sizeOf42 rfl (by exact bsb) (rfl : _ = V.sl _ _ _ _) rfl rfl (by first | decide | exact Nat.le_of_ble_eq_true rfl | (simp only [splice_len, cCardV, List.length_cons, List.length_nil]; omega)) ?_)
                    refine .nil <|
                      .seq ?_
                    refine AW.stay (d := 4) (id := id4) (h0 := h.setBox id2 [.int .i64 0, .int .i64 0, .bool false, .int .i64 0, .int .i64 0, .int .i64 0, .int .i64 0, .int .i64 0, .int .i64 0, .int .i64 0, .int .i64 0, .int .i64 0, .snil]) (Hp.box_setBox _ _ _) (by repeat (first | exact HLe.refl _ | refine HLe.over ?_ hid4.1 | refine acc.hle.trans ?_)) hid4.1 Sealed.ptr ?_
                    refine .region <|
                      .lw rfl isAgg44 sizeOf44 rfl rfl <|
                      .sw sizeOf44 rfl rfl rfl rfl <|
                      .aB rfl rfl <|
                      .nil ?_
                    refine AW.ret ?_
                    exact retQ.mk' (Res.cellB1 isAgg44 sizeOf44 rfl (by exact bsb) rfl) (card_end hn.1 hn.2 (l := [⟨1, (oneCost 3 1), true, 3, ⟨1, 1, 0, 2, []⟩⟩]) (LLe.sl (abilN_le rfl)) (by rw [refCardF, if_neg (by omega), if_neg (by omega), if_pos h3]; simp only [if_pos e, if_neg (show ¬ n % 5 = 4 by omega), if_neg e0, if_neg e1, if_neg e2, if_pos e, refBeastA]) rfl) (HLe.setBox hid2.1) ⟨rfl, rfl⟩
                  · have e3 : n % 5 ≠ 3 := by simpa using c9
                    have e : n % 5 = 4 := by omega
                    refine .seq <|
                      .region <|
                      .fb rfl f44_10 rfl rfl ?_
                    refine .u rfl rfl rfl (q_load_b1 rfl isAgg3 rfl (by exact box_under n64 (Hp.box_setBox _ _ _)) rfl) ?_
                    refine .ad rfl rfl rfl (by omega) <|
                      .fb rfl f44_10 rfl rfl ?_
                    refine AOps.s0 rfl rfl (a_store1 rfl sizeOf3 rfl (by exact box_under n64 (Hp.box_setBox _ _ _)) (rfl : _ = V.int _ _) rfl rfl (by exact Nat.le_of_ble_eq_true rfl) ?_)
                    refine .nil ?_
                    refine AW.hp (by rw [swap_mem n64.symm]) ?_
                    refine .region ?_
                    refine .u rfl rfl rfl (q_buildA rfl zeroValue33 underlying33 sizeOf3 rfl rfl) ?_
                    refine .u rfl rfl rfl (q_buildS rfl zeroValue36 underlying36 (pl36 underlying36) rfl rfl) ?_
                    refine .u rfl rfl rfl (q_buildS (ds := (cAbilN ⟨1, (oneCost 4 1), false, 0, ⟨10, 1, 1, 3, []⟩⟩)) rfl zeroValue38 underlying38 (pl38 underlying38) rfl (by kernel_rfl)) ?_
                    refine .sw sizeOf38 rfl rfl rfl rfl <|
                      .nil ?_
                    refine AW.done 6 rfl (by first | exact hid6 | exact Hp.fresh_swap hid6) ?_
                    refine .region <|
                      .lw rfl isAgg38 sizeOf38 rfl rfl ?_
                    refine .u rfl rfl rfl (q_buildSl rfl underlying42 sizeOf38 zeroValue38 rfl rfl rfl rfl rfl) ?_
                    refine .fb rfl f44_12 rfl rfl ?_
                    refine AOps.s0 rfl rfl (a_store1 rfl sizeOf42 rfl (by exact bsb) (rfl : _ = V.sl _ _ _ _) rfl rfl (by first | decide | exact Nat.le_of_ble_eq_true rfl | (simp only [splice_len, cCardV, List.length_cons, List.length_nil]; omega)) ?_)
                    refine .nil <|
                      .seq ?_
                    refine AW.stay (d := 4) (id := id4) (h0 := h.setBox id2 [.int .i64 0, .int .i64 0, .bool false, .int .i64 0, .int .i64 0, .int .i64 0, .int .i64 0, .int .i64 0, .int .i64 0, .int .i64 0, .int .i64 0, .int .i64 0, .snil]) (Hp.box_setBox _ _ _) (by repeat (first | exact HLe.refl _ | refine HLe.over ?_ hid4.1 | refine acc.hle.trans ?_)) hid4.1 Sealed.ptr ?_
                    refine .region <|
                      .lw rfl isAgg44 sizeOf44 rfl rfl <|
                      .sw sizeOf44 rfl rfl rfl rfl <|
                      .aB rfl rfl <|
                      .nil ?_
                    refine AW.ret ?_
                    exact retQ.mk' (Res.cellB1 isAgg44 sizeOf44 rfl (by exact bsb) rfl) (card_end hn.1 hn.2 (l := [⟨1, (oneCost 4 1), false, 0, ⟨10, 1, 1, 3, []⟩⟩]) (LLe.sl (abilN_le rfl)) (by rw [refCardF, if_neg (by omega), if_neg (by omega), if_pos h3]; simp only [if_neg e3, if_pos e, if_neg e0, if_neg e1, if_neg e2, if_neg e3, refBeastA]) rfl) (HLe.setBox hid2.1) ⟨rfl, rfl⟩
          · have hx : (if 3 < (n - 10) / 5 then (2 : Int) else 1) = 1 := if_neg (of_decide_eq_false c4)
            refine AW.skip ?_
            refine .seq ?_
            first | refine AW.hp (h' := (h.setBox id2 [.int .i64 0, .int .i64 0, .bool false, .int .i64 0, .int .i64 0, .int .i64 0, .int .i64 0, .int .i64 0, .int .i64 0, .int .i64 0, .int .i64 0, .int .i64 0, .snil]).setBox id4 (cCardV 1 (n % 5) false (oneCost (n % 5) (if 3 < (n - 10) / 5 then 2 else 1)) 0 0 0 .snil)) (by rw [Hp.setBox_setBox, cardV_set2 hc.1 (by omega), hx]) ?_ | refine AW.hp (h' := (h.setBox id2 [.int .i64 0, .int .i64 0, .bool false, .int .i64 0, .int .i64 0, .int .i64 0, .int .i64 0, .int .i64 0, .int .i64 0, .int .i64 0, .int .i64 0, .int .i64 0, .snil]).setBox id4 (cCardV 1 (n % 5) false (oneCost (n % 5) (if 3 < (n - 10) / 5 then 2 else 1)) 0 0 0 .snil)) (by rw [hx]) ?_
            refine .region <|
              .mI rfl rfl <|
              .fb rfl f44_3 rfl rfl ?_
            refine .u rfl rfl rfl (q_ia_ab rfl underlying33 sizeOf3 rfl rfl (by decide) (by decide)) ?_
            refine AOps.s0 rfl rfl (a_store1 rfl sizeOf3 rfl (by exact bsb) (rfl : _ = V.int _ _) rfl rfl (by first | decide | exact Nat.le_of_ble_eq_true rfl | (simp only [splice_len, cCardV, List.length_cons, List.length_nil]; omega)) ?_)
            refine .nil <|
              .seq ?_
            refine AW.draw [9, 11] [4, 5, 6, 7] [(0, true), (1, true), (2, true), (3, true), (4, true), (5, true), (6, true), (7, true), (8, true), (9, false), (10, true), (11, false)] mixed (by kernel_rfl) rfl (by kernel_rfl) ?_
            refine .q rfl rfl rfl rfl (q_buildSl (ds := cInts [1, 1, 2, 2, 3, 3, 4, 4]) rfl underlying23 sizeOf3 zeroValue3 rfl rfl rfl rfl (by kernel_rfl)) ?_
            refine .q rfl rfl rfl rfl (q_mv rfl (rfl : _ = V.int _ _)) ?_
            refine .q rfl rfl rfl rfl (q_ia_s rfl underlying23 sizeOf3 rfl rfl (by omega) (by omega) (show _ = [V.int .i64 (pw8 ((n - 10) / 5))] from cInts_elem (by omega) (by simp only [List.length_cons, List.length_nil]; omega))) ?_
            refine .q rfl rfl rfl rfl (q_load_i1 rfl isAgg3 rfl rfl) ?_
            refine .p rfl rfl rfl (fun _ => q_buildSl (ds := cInts [1, 2, 2, 3, 3, 4, 4, 5]) rfl underlying23 sizeOf3 zeroValue3 rfl rfl rfl rfl (by kernel_rfl)) ?_
            refine .p rfl rfl rfl (fun _ => q_mv rfl (rfl : _ = V.int _ _)) ?_
            refine .p rfl rfl rfl (fun _ => q_ia_s rfl underlying23 sizeOf3 rfl rfl (by omega) (by omega) (show _ = [V.int .i64 (tg8 ((n - 10) / 5))] from cInts_elem (by omega) (by simp only [List.length_cons, List.length_nil]; omega))) ?_
            refine .p rfl rfl rfl (fun _ => q_load_i1 rfl isAgg3 rfl rfl) ?_
            refine .q rfl rfl rfl rfl (q_fa_b rfl underlying44 rfl (by exact sizeOf3) (by decide) rfl (rfl : _ = 9)) ?_
            refine AOrd.s0 rfl rfl rfl rfl (a_store1 rfl sizeOf3 rfl (by exact bsb) (rfl : _ = V.int _ _) rfl rfl (by first | decide | exact Nat.le_of_ble_eq_true rfl | (simp only [splice_len, cCardV, List.length_cons, List.length_nil]; omega)) ?_)
            refine .q rfl rfl rfl rfl (q_fa_b rfl underlying44 rfl (by exact sizeOf3) (by decide) rfl (rfl : _ = 10)) ?_
            refine AOrd.s0 rfl rfl rfl rfl (a_store1 rfl sizeOf3 rfl (by exact bsb) (rfl : _ = V.int _ _) rfl rfl (by first | decide | exact Nat.le_of_ble_eq_true rfl | (simp only [splice_len, cCardV, List.length_cons, List.length_nil]; omega)) ?_)
            refine AOrd.nil ?_
            refine .seq <|
              .region ?_
            refine .u rfl rfl rfl (q_buildSl (ds := cInts [1, 2, 4, 8, 16, 32, 64, 128]) rfl underlying23 sizeOf3 zeroValue3 rfl rfl rfl rfl (by kernel_rfl)) ?_
            refine .mI rfl rfl ?_
            refine .u rfl rfl rfl (q_ia_s rfl underlying23 sizeOf3 rfl rfl (by omega) (by omega) (show _ = [V.int .i64 (sy8 ((n - 10) / 5))] from cInts_elem (by omega) (by simp only [List.length_cons, List.length_nil]; omega))) ?_
            refine .li rfl isAgg3 rfl rfl <|
              .fb rfl f44_11 rfl rfl ?_
            refine AOps.s0 rfl rfl (a_store1 rfl sizeOf3 rfl (by exact bsb) (rfl : _ = V.int _ _) rfl rfl (by first | decide | exact Nat.le_of_ble_eq_true rfl | (simp only [splice_len, cCardV, List.length_cons, List.length_nil]; omega)) ?_)
            refine .nil <|
              .seq ?_
            refine AW.hp (h' := (h.setBox id2 [.int .i64 0, .int .i64 0, .bool false, .int .i64 0, .int .i64 0, .int .i64 0, .int .i64 0, .int .i64 0, .int .i64 0, .int .i64 0, .int .i64 0, .int .i64 0, .snil]).setBox id4 (cCardV 1 (n % 5) false (costR (n % 5) (if 3 < (n - 10) / 5 then 2 else 1) ((n - 10) / 5)) (pw8 ((n - 10) / 5)) (tg8 ((n - 10) / 5)) (sy8 ((n - 10) / 5)) .snil)) (by rw [Hp.setBox_setBox, Hp.setBox_setBox, Hp.setBox_setBox, Hp.setBox_setBox]; rfl) ?_
            refine .region ?_
            refine .u rfl rfl rfl (q_buildS (ds := [.int .i64 0, .int .i64 0, .int .i64 0, .int .i64 0, .int .i64 0, .int .i64 0, .int .i64 0, .bool false, .int .i64 0, .int .i64 0, .int .i64 0, .int .i64 0, .int .i64 0, .snil]) rfl zeroValue38 underlying38 (pl38 underlying38) rfl (by kernel_rfl)) ?_
            refine AOps.s rfl rfl rfl (a_alloc rfl zeroValue38 rfl (fun id6 hid6 => ?_))
            refine .sw sizeOf38 rfl rfl rfl rfl <|
              .nil <|
              .seq <|
              .seq ?_
            have n64 : id6 ≠ id4 := (fresh_ne hid6).symm
            refine .region <|
              .fb rfl f44_1 rfl rfl ?_
            refine .u rfl rfl rfl (q_load_b1 rfl isAgg3 rfl (by exact box_under n64 (Hp.box_setBox _ _ _)) rfl) ?_
            refine .nil <|
              .block <|
              .seq <|
              .region <|
              .qe rfl rfl rfl <|
              .aB rfl rfl <|
              .nil ?_
            refine AW.cond rfl (fun c10 => ?_) (fun c10 => ?_)
            · have e : n % 5 = 0 := by simpa using c10
              refine .region <|
                .mI rfl rfl <|
                .ad rfl rfl rfl (by omega) ?_
              refine .u rfl rfl rfl (q_buildS rfl zeroValue36 underlying36 (pl36 underlying36) rfl rfl) ?_
              refine .u rfl rfl rfl (q_buildS (ds := (cAbilN ⟨2, noCost, false, 0, ⟨2, ((n - 10) / 5 + 1), 0, 0, []⟩⟩)) rfl zeroValue38 underlying38 (pl38 underlying38) rfl (by kernel_rfl)) ?_
              refine .sw sizeOf38 rfl rfl rfl rfl <|
                .nil ?_
              refine AW.done 6 rfl (by first | exact hid6 | exact Hp.fresh_swap hid6) ?_
              refine .region <|
                .lw rfl isAgg38 sizeOf38 rfl rfl ?_
              refine .u rfl rfl rfl (q_buildSl rfl underlying42 sizeOf38 zeroValue38 rfl rfl rfl rfl rfl) ?_
              refine .fb rfl f44_12 rfl rfl ?_
              refine AOps.s0 rfl rfl (a_store1 rfl sizeOf42 rfl (by exact bsb) (rfl : _ = V.sl _ _ _ _) rfl rfl (by first | decide | exact Nat.le_of_ble_eq_true rfl | (simp only [splice_len, cCardV, List.length_cons, List.length_nil]; omega)) ?_)
              refine .nil <|
                .seq ?_
              refine AW.stay (d := 4) (id := id4) (h0 := h.setBox id2 [.int .i64 0, .int .i64 0, .bool false, .int .i64 0, .int .i64 0, .int .i64 0, .int .i64 0, .int .i64 0, .int .i64 0, .int .i64 0, .int .i64 0, .int .i64 0, .snil]) (Hp.box_setBox _ _ _) (by repeat (first | exact HLe.refl _ | refine HLe.over ?_ hid4.1 | refine acc.hle.trans ?_)) hid4.1 Sealed.ptr ?_
              refine .region <|
                .lw rfl isAgg44 sizeOf44 rfl rfl <|
                .sw sizeOf44 rfl rfl rfl rfl <|
                .aB rfl rfl <|
                .nil ?_
              refine AW.ret ?_
              exact retQ.mk' (Res.cellB1 isAgg44 sizeOf44 rfl (by exact bsb) rfl) (card_end hn.1 hn.2 (l := [⟨2, noCost, false, 0, ⟨2, ((n - 10) / 5 + 1), 0, 0, []⟩⟩]) (LLe.sl (abilN_le rfl)) (by rw [refCardF, if_neg (by omega), if_neg (by omega), if_pos h3]; simp only [if_neg (show ¬ n % 5 = 3 by omega), if_neg (show ¬ n % 5 = 4 by omega), refBeastA]; rw [if_pos e]) rfl) (HLe.setBox hid2.1) ⟨rfl, rfl⟩
            · have e0 : n % 5 ≠ 0 := by simpa using c10
              refine .seq <|
                .region <|
                .qe rfl rfl rfl <|
                .aB rfl rfl <|
                .nil ?_
              refine AW.cond rfl (fun c11 => ?_) (fun c11 => ?_)
              · have e : n % 5 = 1 := by simpa using c11
                refine .seq <|
                  .region ?_
                refine .u rfl rfl rfl (q_buildS rfl zeroValue36 underlying36 (pl36 underlying36) rfl rfl) ?_
                refine .u rfl rfl rfl (q_buildS (ds := (cAbilN ⟨2, noCost, false, 0, ⟨4, 1, 0, 0, []⟩⟩)) rfl zeroValue38 underlying38 (pl38 underlying38) rfl (by kernel_rfl)) ?_
                refine .sw sizeOf38 rfl rfl rfl rfl <|
                  .nil <|
                  .seq <|
                  .region <|
                  .mI rfl rfl ?_
                refine .u rfl rfl rfl (q_rem' rfl rfl rfl (by omega) (by omega)) ?_
                refine .qe rfl rfl rfl <|
                  .nil ?_
                refine AW.cond rfl (fun c12 => ?_) (fun c12 => ?_)
                · have ek : (n - 10) / 5 % 2 = 0 := by simpa using c12
                  refine .seq ?_
                  refine AW.done 6 rfl (by first | exact hid6 | exact Hp.fresh_swap hid6) ?_
                  refine AW.stay (d := 4) (id := id4) (h0 := h.setBox id2 [.int .i64 0, .int .i64 0, .bool false, .int .i64 0, .int .i64 0, .int .i64 0, .int .i64 0, .int .i64 0, .int .i64 0, .int .i64 0, .int .i64 0, .int .i64 0, .snil]) (Hp.box_setBox _ _ _) (by repeat (first | exact HLe.refl _ | refine HLe.over ?_ hid4.1 | refine acc.hle.trans ?_)) hid4.1 Sealed.ptr ?_
                  refine .region <|
                    .lw rfl isAgg44 sizeOf44 rfl rfl <|
                    .sw sizeOf44 rfl rfl rfl rfl <|
                    .aB rfl rfl <|
                    .nil ?_
                  refine AW.ret ?_
                  exact retQ.mk' (Res.cellB1 isAgg44 sizeOf44 rfl (by exact bsb) rfl) (card_end hn.1 hn.2 (l := []) (.nilimm) (by rw [refCardF, if_neg (by omega), if_neg (by omega), if_pos h3]; simp only [if_neg (show ¬ n % 5 = 3 by omega), if_neg (show ¬ n % 5 = 4 by omega), refBeastA]; rw [if_neg e0, if_pos e, if_pos ek]) rfl) (HLe.setBox hid2.1) ⟨rfl, rfl⟩
                · have ek : (n - 10) / 5 % 2 ≠ 0 := by simpa using c12
                  refine AW.skip ?_
                  refine AW.done 6 rfl (by first | exact hid6 | exact Hp.fresh_swap hid6) ?_
                  refine .region <|
                    .lw rfl isAgg38 sizeOf38 rfl rfl ?_
                  refine .u rfl rfl rfl (q_buildSl rfl underlying42 sizeOf38 zeroValue38 rfl rfl rfl rfl rfl) ?_
                  refine .fb rfl f44_12 rfl rfl ?_
                  refine AOps.s0 rfl rfl (a_store1 rfl sizeOf42 rfl (by exact bsb) (rfl : _ = V.sl _ _ _ _) rfl rfl (by first | decide | exact Nat.le_of_ble_eq_true rfl | (simp only [splice_len, cCardV, List.length_cons, List.length_nil]; omega)) ?_)
                  refine .nil <|
                    .seq ?_
                  refine AW.stay (d := 4) (id := id4) (h0 := h.setBox id2 [.int .i64 0, .int .i64 0, .bool false, .int .i64 0, .int .i64 0, .int .i64 0, .int .i64 0, .int .i64 0, .int .i64 0, .int .i64 0, .int .i64 0, .int .i64 0, .snil]) (Hp.box_setBox _ _ _) (by repeat (first | exact HLe.refl _ | refine HLe.over ?_ hid4.1 | refine acc.hle.trans ?_)) hid4.1 Sealed.ptr ?_
                  refine .region <|
                    .lw rfl isAgg44 sizeOf44 rfl rfl <|
                    .sw sizeOf44 rfl rfl rfl rfl <|
                    .aB rfl rfl <|
                    .nil ?_
                  refine AW.ret ?_
                  exact retQ.mk' (Res.cellB1 isAgg44 sizeOf44 rfl (by exact bsb) rfl) (card_end hn.1 hn.2 (l := [⟨2, noCost, false, 0, ⟨4, 1, 0, 0, []⟩⟩]) (LLe.sl (abilN_le rfl)) (by rw [refCardF, if_neg (by omega), if_neg (by omega), if_pos h3]; simp only [if_neg (show ¬ n % 5 = 3 by omega), if_neg (show ¬ n % 5 = 4 by omega), refBeastA]; rw [if_neg e0, if_pos e, if_neg ek]) rfl) (HLe.setBox hid2.1) ⟨rfl, rfl⟩
              · have e1 : n % 5 ≠ 1 := by simpa using c11
                refine .seq <|
                  .region <|
                  .qe rfl rfl rfl <|
                  .aB rfl rfl <|
                  .nil ?_
                refine AW.cond rfl (fun c13 => ?_) (fun c13 => ?_)
                · have e : n % 5 = 2 := by simpa using c13
                  refine .region ?_
                  refine .u rfl rfl rfl (q_buildSl (ds := cInts [1, 1, 2, 2, 3, 3, 4, 4]) rfl underlying23 sizeOf3 zeroValue3 rfl rfl rfl rfl (by kernel_rfl)) ?_
                  refine .mI rfl rfl ?_
                  refine .u rfl rfl rfl (q_ia_s rfl underlying23 sizeOf3 rfl rfl (by omega) (by omega) (show _ = [V.int .i64 (pw8 ((n - 10) / 5))] from cInts_elem (by omega) (by simp only [List.length_cons, List.length_nil]; omega))) ?_
                  refine .li rfl isAgg3 rfl rfl ?_
                  refine .u rfl rfl rfl (q_buildS rfl zeroValue36 underlying36 (pl36 underlying36) rfl rfl) ?_
                  refine .u rfl rfl rfl (q_buildS (ds := (cAbilN ⟨3, noCost, false, 0, ⟨3, (pw8 ((n - 10) / 5)), 0, 1, []⟩⟩)) rfl zeroValue38 underlying38 (pl38 underlying38) rfl (by kernel_rfl)) ?_
                  refine .sw sizeOf38 rfl rfl rfl rfl <|
                    .nil ?_
                  refine AW.done 6 rfl (by first | exact hid6 | exact Hp.fresh_swap hid6) ?_
                  refine .region <|
                    .lw rfl isAgg38 sizeOf38 rfl rfl ?_
                  refine .u rfl rfl rfl (q_buildSl rfl underlying42 sizeOf38 zeroValue38 rfl rfl rfl rfl rfl) ?_
                  refine .fb rfl f44_12 rfl rfl ?_
                  refine AOps.s0 rfl rfl (a_store1 rfl sizeOf42 rfl (by exact bsb) (rfl : _ = V.sl _ _ _ _) rfl rfl (by first | decide | exact Nat.le_of_ble_eq_true rfl | (simp only [splice_len, cCardV, List.length_cons, List.length_nil]; omega)) ?_)
                  refine .nil <|
                    .seq ?_
                  refine AW.stay (d := 4) (id := id4) (h0 := h.setBox id2 [.int .i64 0, .int .i64 0, .bool false, .int .i64 0, .int .i64 0, .int .i64 0, .int .i64 0, .int .i64 0, .int .i64 0, .int .i64 0, .int .i64 0, .int .i64 0, .snil]) (Hp.box_setBox _ _ _) (by repeat (first | exact HLe.refl _ | refine HLe.over ?_ hid4.1 | refine acc.hle.trans ?_)) hid4.1 Sealed.ptr ?_
                  refine .region <|
                    .lw rfl isAgg44 sizeOf44 rfl rfl <|
                    .sw sizeOf44 rfl rfl rfl rfl <|
                    .aB rfl rfl <|
                    .nil ?_
                  refine AW.ret ?_
                  exact retQ.mk' (Res.cellB1 isAgg44 sizeOf44 rfl (by exact bsb) rfl) (card_end hn.1 hn.2 (l := [⟨3, noCost, false, 0, ⟨3, (pw8 ((n - 10) / 5)), 0, 1, []⟩⟩]) (LLe.sl (abilN_le rfl)) (by rw [refCardF, if_neg (by omega), if_neg (by omega), if_pos h3]; simp only [if_neg (show ¬ n % 5 = 3 by omega), if_neg (show ¬ n % 5 = 4 by omega), refBeastA]; rw [if_neg e0, if_neg e1, if_pos e]) rfl) (HLe.setBox hid2.1) ⟨rfl, rfl⟩
                · have e2 : n % 5 ≠ 2 := by simpa using c13
                  refine .seq <|
                    .region <|
                    .qe rfl rfl rfl <|
                    .aB rfl rfl <|
                    .nil ?_
                  refine AW.cond rfl (fun c14 => ?_) (fun c14 => ?_)
                  · have e : n % 5 = 3 := by simpa using c14
                    refine .seq <|
                      .region <|
                      .fb rfl f44_9 rfl rfl ?_
                    refine .u rfl rfl rfl (q_load_b1 rfl isAgg3 rfl (by exact box_under n64 (Hp.box_setBox _ _ _)) rfl) ?_
                    refine .ad rfl rfl rfl (by omega) <|
                      .fb rfl f44_9 rfl rfl ?_
                    refine AOps.s0 rfl rfl (a_store1 rfl sizeOf3 rfl (by exact box_under n64 (Hp.box_setBox _ _ _)) (rfl : _ = V.int _ _) rfl rfl (by exact Nat.le_of_ble_eq_true rfl) ?_)
                    refine .nil ?_
                    refine AW.hp (by rw [swap_mem n64.symm]) ?_
                    refine .region ?_
                    refine .u rfl rfl rfl (q_buildA rfl zeroValue33 underlying33 sizeOf3 rfl rfl) ?_
                    refine .u rfl rfl rfl (q_buildS rfl zeroValue36 underlying36 (pl36 underlying36) rfl rfl) ?_
                    refine .u rfl rfl rfl (q_buildS (ds := (cAbilN ⟨1, (oneCost 3 1), true, 3, ⟨1, 1, 0, 2, []⟩⟩)) rfl zeroValue38 underlying38 (pl38 underlying38) rfl (by kernel_rfl)) ?_
                    refine .sw sizeOf38 rfl rfl rfl rfl <|
                      .nil ?_
                    refine AW.done 6 rfl (by first | exact hid6 | exact Hp.fresh_swap hid6) ?_
                    refine .region <|
                      .lw rfl isAgg38 sizeOf38 rfl rfl ?_
                    refine .u rfl rfl rfl (q_buildSl rfl underlying42 sizeOf38 zeroValue38 rfl rfl rfl rfl rfl) ?_
                    refine .fb rfl f44_12 rfl rfl ?_
                    refine AOps.s0 rfl rfl (a_store1 rfl sizeOf42 rfl (by exact bsb) (rfl : _ = V.sl _ _ _ _) rfl rfl (by first | decide | exact Nat.le_of_ble_eq_true rfl | (simp only [splice_len, cCardV, List.length_cons, List.length_nil]; omega)) ?_)
                    refine .nil <|
                      .seq ?_
                    refine AW.stay (d := 4) (id := id4) (h0 := h.setBox id2 [.int .i64 0, .int .i64 0, .bool false, .int .i64 0, .int .i64 0, .int .i64 0, .int .i64 0, .int .i64 0, .int .i64 0, .int .i64 0, .int .i64 0, .int .i64 0, .snil]) (Hp.box_setBox _ _ _) (by repeat (first | exact HLe.refl _ | refine HLe.over ?_ hid4.1 | refine acc.hle.trans ?_)) hid4.1 Sealed.ptr ?_
                    refine .region <|
                      .lw rfl isAgg44 sizeOf44 rfl rfl <|
                      .sw sizeOf44 rfl rfl rfl rfl <|
                      .aB rfl rfl <|
                      .nil ?_
                    refine AW.ret ?_
                    exact retQ.mk' (Res.cellB1 isAgg44 sizeOf44 rfl (by exact bsb) rfl) (card_end hn.1 hn.2 (l := [⟨1, (oneCost 3 1), true, 3, ⟨1, 1, 0, 2, []⟩⟩]) (LLe.sl (abilN_le rfl)) (by rw [refCardF, if_neg (by omega), if_neg (by omega), if_pos h3]; simp only [if_pos e, if_neg (show ¬ n % 5 = 4 by omega), if_neg e0, if_neg e1, if_neg e2, if_pos e, refBeastA]) rfl) (HLe.setBox hid2.1) ⟨rfl, rfl⟩
                  · have e3 : n % 5 ≠ 3 := by simpa using c14
                    have e : n % 5 = 4 := by omega
                    refine .seq <|
                      .region <|
                      .fb rfl f44_10 rfl rfl ?_
                    refine .u rfl rfl rfl (q_load_b1 rfl isAgg3 rfl (by exact box_under n64 (Hp.box_setBox _ _ _)) rfl) ?_
                    refine .ad rfl rfl rfl (by omega) <|
                      .fb rfl f44_10 rfl rfl ?_
                    refine AOps.s0 rfl rfl (a_store1 rfl sizeOf3 rfl (by exact box_under n64 (Hp.box_setBox _ _ _)) (rfl : _ = V.int _ _) rfl rfl (by exact Nat.le_of_ble_eq_true rfl) ?_)
                    refine .nil ?_
                    refine AW.hp (by rw [swap_mem n64.symm]) ?_
                    refine .region ?_
                    refine .u rfl rfl rfl (q_buildA rfl zeroValue33 underlying33 sizeOf3 rfl rfl) ?_
                    refine .u rfl rfl rfl (q_buildS rfl zeroValue36 underlying36 (pl36 underlying36) rfl rfl) ?_
                    refine .u rfl rfl rfl (q_buildS (ds := (cAbilN ⟨1, (oneCost 4 1), false, 0, ⟨10, 1, 1, 3, []⟩⟩)) rfl zeroValue38 underlying38 (pl38 underlying38) rfl (by kernel_rfl)) ?_
                    refine .sw sizeOf38 rfl rfl rfl rfl <|
                      .nil ?_
                    refine AW.done 6 rfl (by first | exact hid6 | exact Hp.fresh_swap hid6) ?_
                    refine .region <|
                      .lw rfl isAgg38 sizeOf38 rfl rfl ?_
                    refine .u rfl rfl rfl (q_buildSl rfl underlying42 sizeOf38 zeroValue38 rfl rfl rfl rfl rfl) ?_
                    refine .fb rfl f44_12 rfl rfl ?_
                    refine AOps.s0 rfl rfl (a_store1 rfl sizeOf42 rfl (by exact bsb) (rfl : _ = V.sl _ _ _ _) rfl rfl (by first | decide | exact Nat.le_of_ble_eq_true rfl | (simp only [splice_len, cCardV, List.length_cons, List.length_nil]; omega)) ?_)
                    refine .nil <|
                      .seq ?_
                    refine AW.stay (d := 4) (id := id4) (h0 := h.setBox id2 [.int .i64 0, .int .i64 0, .bool false, .int .i64 0, .int .i64 0, .int .i64 0, .int .i64 0, .int .i64 0, .int .i64 0, .int .i64 0, .int .i64 0, .int .i64 0, .snil]) (Hp.box_setBox _ _ _) (by repeat (first | exact HLe.refl _ | refine HLe.over ?_ hid4.1 | refine acc.hle.trans ?_)) hid4.1 Sealed.ptr ?_
                    refine .region <|
                      .lw rfl isAgg44 sizeOf44 rfl rfl <|
                      .sw sizeOf44 rfl rfl rfl rfl <|
                      .aB rfl rfl <|
                      .nil ?_
                    refine AW.ret ?_
                    exact retQ.mk' (Res.cellB1 isAgg44 sizeOf44 rfl (by exact bsb) rfl) (card_end hn.1 hn.2 (l := [⟨1, (oneCost 4 1), false, 0, ⟨10, 1, 1, 3, []⟩⟩]) (LLe.sl (abilN_le rfl)) (by rw [refCardF, if_neg (by omega), if_neg (by omega), if_pos h3]; simp only [if_neg e3, if_pos e, if_neg e0, if_neg e1, if_neg e2, if_neg e3, refBeastA]) rfl) (HLe.setBox hid2.1) ⟨rfl, rfl⟩
        · have h3 : 50 ≤ n := by simpa using c3
          refine .seq <|
            .region <|
            .mI rfl rfl <|
            .ql rfl rfl rfl <|
            .nil ?_
          refine AW.cond rfl (fun c15 => ?_) (fun c15 => ?_)
          · have h4 : n < 80 := by simpa using c15
            have hm := magic_at (i := (n - 50).toNat) (by omega)
            refine .seq <|
              .region ?_
            refine .u rfl rfl rfl (QOp.call rfl call74 fun h' hl' => by exact refMagic_calls h') ?_
            refine .mI rfl rfl ?_
            refine .u rfl rfl rfl (q_sub' rfl rfl rfl (by omega)) ?_
            refine .u rfl rfl rfl (q_ia_s rfl underlying120 sizeOf23 rfl rfl (by omega) (by omega) (cRows_elem (by omega) (by omega))) ?_
            refine .li rfl isAgg23 rfl rfl <|
              .aS rfl rfl <|
              .nil <|
              .seq <|
              .region <|
              .mI rfl rfl ?_
            refine .u rfl rfl rfl (q_rem' rfl rfl rfl (by omega) (by omega)) ?_
            refine .fb rfl f44_0 rfl rfl ?_
            refine AOps.s0 rfl rfl (a_store1 rfl sizeOf3 rfl (by exact bsb) (rfl : _ = V.int _ _) rfl rfl (by first | decide | exact Nat.le_of_ble_eq_true rfl | (simp only [splice_len, cCardV, List.length_cons, List.length_nil]; omega)) ?_)
            refine .fb rfl f44_1 rfl rfl ?_
            refine AOps.s0 rfl rfl (a_store1 rfl sizeOf3 rfl (by exact bsb) (rfl : _ = V.int _ _) rfl rfl (by first | decide | exact Nat.le_of_ble_eq_true rfl | (simp only [splice_len, cCardV, List.length_cons, List.length_nil]; omega)) ?_)
            refine .nil <|
              .seq <|
              .region <|
              .mI rfl rfl ?_
            refine .u rfl rfl rfl (q_sub' rfl rfl rfl (by omega)) ?_
            refine .u rfl rfl rfl (q_quo' rfl rfl rfl (by omega) (by omega)) ?_
            refine .u rfl rfl rfl (q_rem' rfl rfl rfl (by omega) (by omega)) ?_
            refine .qe rfl rfl rfl <|
              .fb rfl f44_2 rfl rfl ?_
            refine AOps.s0 rfl rfl (a_store1 rfl sizeOf4 rfl (by exact bsb) (rfl : _ = V.bool _) rfl rfl (by first | decide | exact Nat.le_of_ble_eq_true rfl | (simp only [splice_len, cCardV, List.length_cons, List.length_nil]; omega)) ?_)
            refine .nil <|
              .seq ?_
            refine AW.hp (h' := (h.setBox id2 [.int .i64 0, .int .i64 0, .bool false, .int .i64 0, .int .i64 0, .int .i64 0, .int .i64 0, .int .i64 0, .int .i64 0, .int .i64 0, .int .i64 0, .int .i64 0, .snil]).setBox id4 (cCardV 2 (n % 5) ((n - 50) / 5 % 2 == 0) noCost 0 0 0 .snil)) (by rw [Hp.setBox_setBox, Hp.setBox_setBox, Hp.setBox_setBox]; rfl) ?_
            refine .region <|
              .fb rfl f44_1 rfl rfl <|
              .lb rfl isAgg3 rfl rfl <|
              .mI rfl rfl ?_
            refine .u rfl rfl rfl (q_sub' rfl rfl rfl (by omega)) ?_
            refine .u rfl rfl rfl (q_quo' rfl rfl rfl (by omega) (by omega)) ?_
            refine .fb rfl f44_3 rfl rfl ?_
            refine .u rfl rfl rfl (q_ia_ab rfl underlying33 sizeOf3 rfl rfl (by omega) (by omega)) ?_
            refine AOps.s0 rfl rfl (a_store1 rfl sizeOf3 rfl (by exact bsb) (rfl : _ = V.int _ _) rfl rfl (by first | decide | exact Nat.le_of_ble_eq_true rfl | (simp only [splice_len, cCardV, List.length_cons, List.length_nil]; omega)) ?_)
            refine .fb rfl f44_3 rfl rfl ?_
            refine .u rfl rfl rfl (q_ia_ab rfl underlying33 sizeOf3 rfl rfl (by decide) (by decide)) ?_
            refine AOps.s0 rfl rfl (a_store1 rfl sizeOf3 rfl (by exact bsb) (rfl : _ = V.int _ _) rfl rfl (by first | decide | exact Nat.le_of_ble_eq_true rfl | (simp only [splice_len, cCardV, List.length_cons, List.length_nil]; omega)) ?_)
            refine .nil ?_
            refine AW.hp (h' := (h.setBox id2 [.int .i64 0, .int .i64 0, .bool false, .int .i64 0, .int .i64 0, .int .i64 0, .int .i64 0, .int .i64 0, .int .i64 0, .int .i64 0, .int .i64 0, .int .i64 0, .snil]).setBox id4 (cCardV 2 (n % 5) ((n - 50) / 5 % 2 == 0) (costR (n % 5) 1 ((n - 50) / 5)) 0 0 0 .snil)) (by rw [Hp.setBox_setBox, Hp.setBox_setBox, cardV_set hc.1 (by omega)]; rfl) ?_
            refine AW.draw [9] [] [(0, true), (1, true), (2, true), (3, true), (4, true), (5, true), (6, true), (7, true), (8, true), (9, false)] mixed (by kernel_rfl) rfl (by kernel_rfl) ?_
            refine .q rfl rfl rfl rfl (q_mv rfl (rfl : _ = V.sl _ _ _ _)) ?_
            refine .q rfl rfl rfl rfl (q_ia_s rfl underlying23 sizeOf3 rfl rfl (by omega) (by omega) (cInts_to 0 rfl (by omega) (by omega))) ?_
            refine .q rfl rfl rfl rfl (q_load_i1 rfl isAgg3 rfl rfl) ?_
            refine .q rfl rfl rfl rfl (q_mv rfl (rfl : _ = V.sl _ _ _ _)) ?_
            refine .q rfl rfl rfl rfl (q_sliceI (l := 1) rfl underlying23 sizeOf3 rfl rfl (by omega)) ?_
            refine .q rfl rfl rfl rfl (QOp.call rfl (by exact call75) fun h' hl' => by exact refEffect_calls _ _ (by simp only [List.length_drop]; omega) h') ?_
            refine .q rfl rfl rfl rfl (q_buildS (ds := cAbil ⟨0, noCost, false, (magicRows.getD (n - 50).toNat []).getD 0 0, effR ((magicRows.getD (n - 50).toNat []).drop 1)⟩) rfl zeroValue38 underlying38 (pl38 underlying38) rfl (by kernel_rfl)) ?_
            refine .q rfl rfl rfl rfl (q_buildSl (ds := cAbil ⟨0, noCost, false, (magicRows.getD (n - 50).toNat []).getD 0 0, effR ((magicRows.getD (n - 50).toNat []).drop 1)⟩) rfl underlying42 sizeOf38 zeroValue38 rfl rfl rfl rfl (by kernel_rfl)) ?_
            refine .q rfl rfl rfl rfl (q_fa_b rfl underlying44 rfl (by exact sizeOf42) (by decide) rfl (rfl : _ = 12)) ?_
            refine AOrd.s0 rfl rfl rfl rfl (a_store1 rfl sizeOf42 rfl (by exact bsb) (rfl : _ = V.sl _ _ _ _) rfl rfl (by first | decide | exact Nat.le_of_ble_eq_true rfl | (simp only [splice_len, cCardV, List.length_cons, List.length_nil]; omega)) ?_)
            refine AOrd.nil ?_
            refine .seq ?_
            refine AW.stay (d := 4) (id := id4) (h0 := h.setBox id2 [.int .i64 0, .int .i64 0, .bool false, .int .i64 0, .int .i64 0, .int .i64 0, .int .i64 0, .int .i64 0, .int .i64 0, .int .i64 0, .int .i64 0, .int .i64 0, .snil]) (Hp.box_setBox _ _ _) (by repeat (first | exact HLe.refl _ | refine HLe.over ?_ hid4.1 | refine acc.hle.trans ?_)) hid4.1 Sealed.ptr ?_
            refine .region <|
              .lw rfl isAgg44 sizeOf44 rfl rfl <|
              .sw sizeOf44 rfl rfl rfl rfl <|
              .aB rfl rfl <|
              .nil ?_
            refine AW.ret ?_
            exact retQ.mk' (Res.cellB1 isAgg44 sizeOf44 rfl (by exact bsb) rfl) (card_end hn.1 hn.2 (l := [⟨0, noCost, false, (magicRows.getD (n - 50).toNat []).getD 0 0, effR ((magicRows.getD (n - 50).toNat []).drop 1)⟩]) (abils_le rfl) (by rw [refCardF, if_neg (by omega), if_neg (by omega), if_neg (by omega), if_pos h4]) rfl) (HLe.setBox hid2.1) ⟨rfl, rfl⟩
          · have h4 : 80 ≤ n := by simpa using c15
            refine .seq <|
              .region <|
              .mI rfl rfl <|
              .ql rfl rfl rfl <|
              .nil ?_
            refine AW.cond rfl (fun c16 => ?_) (fun c16 => ?_)
            · have h5 : n < 100 := by simpa using c16
              have hm := relic_at (i := (n - 80).toNat) (by omega)
              refine .seq <|
                .region <|
                .mI rfl rfl ?_
              refine .u rfl rfl rfl (q_rem' rfl rfl rfl (by omega) (by omega)) ?_
              refine .fb rfl f44_0 rfl rfl ?_
              refine AOps.s0 rfl rfl (a_store1 rfl sizeOf3 rfl (by exact bsb) (rfl : _ = V.int _ _) rfl rfl (by first | decide | exact Nat.le_of_ble_eq_true rfl | (simp only [splice_len, cCardV, List.length_cons, List.length_nil]; omega)) ?_)
              refine .fb rfl f44_1 rfl rfl ?_
              refine AOps.s0 rfl rfl (a_store1 rfl sizeOf3 rfl (by exact bsb) (rfl : _ = V.int _ _) rfl rfl (by first | decide | exact Nat.le_of_ble_eq_true rfl | (simp only [splice_len, cCardV, List.length_cons, List.length_nil]; omega)) ?_)
              refine .nil <|
                .seq ?_
              refine AW.hp (h' := (h.setBox id2 [.int .i64 0, .int .i64 0, .bool false, .int .i64 0, .int .i64 0, .int .i64 0, .int .i64 0, .int .i64 0, .int .i64 0, .int .i64 0, .int .i64 0, .int .i64 0, .snil]).setBox id4 (cCardV 3 (n % 5) false noCost 0 0 0 .snil)) (by rw [Hp.setBox_setBox, Hp.setBox_setBox]; rfl) ?_
              refine .region <|
                .fb rfl f44_1 rfl rfl <|
                .lb rfl isAgg3 rfl rfl <|
                .mI rfl rfl ?_
              refine .u rfl rfl rfl (q_sub' rfl rfl rfl (by omega)) ?_
              refine .u rfl rfl rfl (q_quo' rfl rfl rfl (by omega) (by omega)) ?_
              refine .ad rfl rfl rfl (by omega) <|
                .fb rfl f44_3 rfl rfl ?_
              refine .u rfl rfl rfl (q_ia_ab rfl underlying33 sizeOf3 rfl rfl (by omega) (by omega)) ?_
              refine AOps.s0 rfl rfl (a_store1 rfl sizeOf3 rfl (by exact bsb) (rfl : _ = V.int _ _) rfl rfl (by first | decide | exact Nat.le_of_ble_eq_true rfl | (simp only [splice_len, cCardV, List.length_cons, List.length_nil]; omega)) ?_)
              refine .fb rfl f44_3 rfl rfl ?_
              refine .u rfl rfl rfl (q_ia_ab rfl underlying33 sizeOf3 rfl rfl (by decide) (by decide)) ?_
              refine AOps.s0 rfl rfl (a_store1 rfl sizeOf3 rfl (by exact bsb) (rfl : _ = V.int _ _) rfl rfl (by first | decide | exact Nat.le_of_ble_eq_true rfl | (simp only [splice_len, cCardV, List.length_cons, List.length_nil]; omega)) ?_)
              refine .nil ?_
              refine AW.hp (h' := (h.setBox id2 [.int .i64 0, .int .i64 0, .bool false, .int .i64 0, .int .i64 0, .int .i64 0, .int .i64 0, .int .i64 0, .int .i64 0, .int .i64 0, .int .i64 0, .int .i64 0, .snil]).setBox id4 (cCardV 3 (n % 5) false (costR (n % 5) 1 ((n - 80) / 5 + 1)) 0 0 0 .snil)) (by rw [Hp.setBox_setBox, Hp.setBox_setBox, cardV_set hc.1 (by omega)]; rfl) ?_
              refine .region ?_
              refine .u rfl rfl rfl (QOp.call rfl call77 fun h' hl' => by exact refRelic_calls h') ?_
              refine .mI rfl rfl ?_
              refine .u rfl rfl rfl (q_sub' rfl rfl rfl (by omega)) ?_
              refine .u rfl rfl rfl (q_ia_s rfl underlying120 sizeOf23 rfl rfl (by omega) (by omega) (cRows_elem (by omega) (by omega))) ?_
              refine .li rfl isAgg23 rfl rfl ?_
              refine .u rfl rfl rfl (QOp.call rfl call76 fun h' hl' => by exact refAbility_calls _ _ (by first | omega | (simp only [List.length_drop]; omega)) h') ?_
              refine .u rfl rfl rfl (q_buildSl (ds := cAbil (abilR (relicRows8.getD (n - 80).toNat []))) rfl underlying42 sizeOf38 zeroValue38 rfl rfl rfl rfl (by kernel_rfl)) ?_
              refine .fb rfl f44_12 rfl rfl ?_
              refine AOps.s0 rfl rfl (a_store1 rfl sizeOf42 rfl (by exact bsb) (rfl : _ = V.sl _ _ _ _) rfl rfl (by first | decide | exact Nat.le_of_ble_eq_true rfl | (simp only [splice_len, cCardV, List.length_cons, List.length_nil]; omega)) ?_)
              refine .nil <|
                .seq ?_
              refine AW.stay (d := 4) (id := id4) (h0 := h.setBox id2 [.int .i64 0, .int .i64 0, .bool false, .int .i64 0, .int .i64 0, .int .i64 0, .int .i64 0, .int .i64 0, .int .i64 0, .int .i64 0, .int .i64 0, .int .i64 0, .snil]) (Hp.box_setBox _ _ _) (by repeat (first | exact HLe.refl _ | refine HLe.over ?_ hid4.1 | refine acc.hle.trans ?_)) hid4.1 Sealed.ptr ?_
              refine .region <|
                .lw rfl isAgg44 sizeOf44 rfl rfl <|
                .sw sizeOf44 rfl rfl rfl rfl <|
                .aB rfl rfl <|
                .nil ?_
              refine AW.ret ?_
              exact retQ.mk' (Res.cellB1 isAgg44 sizeOf44 rfl (by exact bsb) rfl) (card_end hn.1 hn.2 (l := [abilR (relicRows8.getD (n - 80).toNat [])]) (abils_le rfl) (by rw [refCardF, if_neg (by omega), if_neg (by omega), if_neg (by omega), if_neg (by omega), if_pos h5]) rfl) (HLe.setBox hid2.1) ⟨rfl, rfl⟩
            · have h5 : 100 ≤ n := by simpa using c16
              refine .seq <|
                .region <|
                .mI rfl rfl <|
                .ql rfl rfl rfl <|
                .nil ?_
              refine AW.cond rfl (fun c17 => ?_) (fun c17 => ?_)
              · have h6 : n < 112 := by simpa using c17
                have hm := special_atR (i := (n - 100).toNat) (by omega)
                refine .seq <|
                  .region ?_
                refine .u rfl rfl rfl (QOp.call rfl call78 fun h' hl' => by exact refSpecial_calls h') ?_
                refine .mI rfl rfl ?_
                refine .u rfl rfl rfl (q_sub' rfl rfl rfl (by omega)) ?_
                refine .u rfl rfl rfl (q_ia_s rfl underlying120 sizeOf23 rfl rfl (by omega) (by omega) (cRows_elem (by omega) (by omega))) ?_
                refine .li rfl isAgg23 rfl rfl <|
                  .aS rfl rfl <|
                  .nil <|
                  .seq ?_
                refine AW.draw [17, 19, 21, 23, 25] [3, 4, 5, 6, 7, 8, 9, 10, 11, 12, 13, 14, 15] [(0, true), (1, true), (2, true), (3, true), (4, true), (5, true), (6, true), (7, true), (8, true), (9, true), (10, true), (11, true), (12, true), (13, true), (14, true), (15, true), (16, true), (17, false), (18, true), (19, false), (20, true), (21, false), (22, true), (23, false), (24, true), (25, false)] mixed (by kernel_rfl) rfl (by kernel_rfl) ?_
                refine .q rfl rfl rfl rfl (q_mv rfl (rfl : _ = V.sl _ _ _ _)) ?_
                refine .q rfl rfl rfl rfl (q_ia_s rfl underlying23 sizeOf3 rfl rfl (by omega) (by omega) (cInts_to 0 rfl (by omega) (by omega))) ?_
                refine .q rfl rfl rfl rfl (q_load_i1 rfl isAgg3 rfl rfl) ?_
                refine .p rfl rfl rfl (fun _ => q_mv rfl (rfl : _ = V.sl _ _ _ _)) ?_
                refine .p rfl rfl rfl (fun _ => q_ia_s rfl underlying23 sizeOf3 rfl rfl (by omega) (by omega) (cInts_to 2 rfl (by omega) (by omega))) ?_
                refine .p rfl rfl rfl (fun _ => q_load_i1 rfl isAgg3 rfl rfl) ?_
                refine .p rfl rfl rfl (fun _ => q_eq rfl rfl rfl) ?_
                refine .p rfl rfl rfl (fun _ => q_mv rfl (rfl : _ = V.sl _ _ _ _)) ?_
                refine .p rfl rfl rfl (fun _ => q_ia_s rfl underlying23 sizeOf3 rfl rfl (by omega) (by omega) (cInts_to 3 rfl (by omega) (by omega))) ?_
                refine .p rfl rfl rfl (fun _ => q_load_i1 rfl isAgg3 rfl rfl) ?_
                refine .p rfl rfl rfl (fun _ => q_mv rfl (rfl : _ = V.sl _ _ _ _)) ?_
                refine .p rfl rfl rfl (fun _ => q_ia_s rfl underlying23 sizeOf3 rfl rfl (by omega) (by omega) (cInts_to 4 rfl (by omega) (by omega))) ?_
                refine .p rfl rfl rfl (fun _ => q_load_i1 rfl isAgg3 rfl rfl) ?_
                refine .p rfl rfl rfl (fun _ => q_mv rfl (rfl : _ = V.sl _ _ _ _)) ?_
                refine .p rfl rfl rfl (fun _ => q_ia_s rfl underlying23 sizeOf3 rfl rfl (by omega) (by omega) (cInts_to 5 rfl (by omega) (by omega))) ?_
                refine .p rfl rfl rfl (fun _ => q_load_i1 rfl isAgg3 rfl rfl) ?_
                refine .q rfl rfl rfl rfl (q_fa_b rfl underlying44 rfl (by exact sizeOf3) (by decide) rfl (rfl : _ = 0)) ?_
                refine AOrd.s0 rfl rfl rfl rfl (a_store1 rfl sizeOf3 rfl (by exact bsb) (rfl : _ = V.int _ _) rfl rfl (by first | decide | exact Nat.le_of_ble_eq_true rfl | (simp only [splice_len, cCardV, List.length_cons, List.length_nil]; omega)) ?_)
                refine .q rfl rfl rfl rfl (q_fa_b rfl underlying44 rfl (by exact sizeOf4) (by decide) rfl (rfl : _ = 2)) ?_
                refine AOrd.s0 rfl rfl rfl rfl (a_store1 rfl sizeOf4 rfl (by exact bsb) (rfl : _ = V.bool _) rfl rfl (by first | decide | exact Nat.le_of_ble_eq_true rfl | (simp only [splice_len, cCardV, List.length_cons, List.length_nil]; omega)) ?_)
                refine .q rfl rfl rfl rfl (q_fa_b rfl underlying44 rfl (by exact sizeOf3) (by decide) rfl (rfl : _ = 9)) ?_
                refine AOrd.s0 rfl rfl rfl rfl (a_store1 rfl sizeOf3 rfl (by exact bsb) (rfl : _ = V.int _ _) rfl rfl (by first | decide | exact Nat.le_of_ble_eq_true rfl | (simp only [splice_len, cCardV, List.length_cons, List.length_nil]; omega)) ?_)
                refine .q rfl rfl rfl rfl (q_fa_b rfl underlying44 rfl (by exact sizeOf3) (by decide) rfl (rfl : _ = 10)) ?_
                refine AOrd.s0 rfl rfl rfl rfl (a_store1 rfl sizeOf3 rfl (by exact bsb) (rfl : _ = V.int _ _) rfl rfl (by first | decide | exact Nat.le_of_ble_eq_true rfl | (simp only [splice_len, cCardV, List.length_cons, List.length_nil]; omega)) ?_)
                refine .q rfl rfl rfl rfl (q_fa_b rfl underlying44 rfl (by exact sizeOf3) (by decide) rfl (rfl : _ = 11)) ?_
                refine AOrd.s0 rfl rfl rfl rfl (a_store1 rfl sizeOf3 rfl (by exact bsb) (rfl : _ = V.int _ _) rfl rfl (by first | decide | exact Nat.le_of_ble_eq_true rfl | (simp only [splice_len, cCardV, List.length_cons, List.length_nil]; omega)) ?_)
                refine AOrd.nil ?_
                refine .seq <|
                  .region <|
                  .mS rfl rfl ?_
                refine .u rfl rfl rfl (q_ia_s rfl underlying23 sizeOf3 rfl rfl (by omega) (by omega) (cInts_to 1 rfl (by omega) (by omega))) ?_
                refine .li rfl isAgg3 rfl rfl <|
                  .fb rfl f44_3 rfl rfl ?_
                refine .u rfl rfl rfl (q_ia_ab rfl underlying33 sizeOf3 rfl rfl (by decide) (by decide)) ?_
                refine AOps.s0 rfl rfl (a_store1 rfl sizeOf3 rfl (by exact bsb) (rfl : _ = V.int _ _) rfl rfl (by first | decide | exact Nat.le_of_ble_eq_true rfl | (simp only [splice_len, cCardV, List.length_cons, List.length_nil]; omega)) ?_)
                refine .nil <|
                  .seq <|
                  .region <|
                  .mS rfl rfl ?_
                refine .u rfl rfl rfl (q_sliceI (l := 6) rfl underlying23 sizeOf3 rfl rfl (by omega)) ?_
                refine .u rfl rfl rfl (QOp.call rfl call76 fun h' hl' => by exact refAbility_calls _ _ (by first | omega | (simp only [List.length_drop]; omega)) h') ?_
                refine .u rfl rfl rfl (q_buildSl (ds := cAbil (abilR ((specialRows.getD (n - 100).toNat []).drop 6))) rfl underlying42 sizeOf38 zeroValue38 rfl rfl rfl rfl (by kernel_rfl)) ?_
                refine .fb rfl f44_12 rfl rfl ?_
                refine AOps.s0 rfl rfl (a_store1 rfl sizeOf42 rfl (by exact bsb) (rfl : _ = V.sl _ _ _ _) rfl rfl (by first | decide | exact Nat.le_of_ble_eq_true rfl | (simp only [splice_len, cCardV, List.length_cons, List.length_nil]; omega)) ?_)
                refine .nil <|
                  .seq ?_
                refine AW.hp (h' := (h.setBox id2 [.int .i64 0, .int .i64 0, .bool false, .int .i64 0, .int .i64 0, .int .i64 0, .int .i64 0, .int .i64 0, .int .i64 0, .int .i64 0, .int .i64 0, .int .i64 0, .snil]).setBox id4 (cCardV ((specialRows.getD (n - 100).toNat []).getD 0 0) 5 ((specialRows.getD (n - 100).toNat []).getD 2 0 == 1) (cost5 ((specialRows.getD (n - 100).toNat []).getD 1 0)) ((specialRows.getD (n - 100).toNat []).getD 3 0) ((specialRows.getD (n - 100).toNat []).getD 4 0) ((specialRows.getD (n - 100).toNat []).getD 5 0) (.sl .full 14 1 (cAbil (abilR ((specialRows.getD (n - 100).toNat []).drop 6)))))) (by rw [Hp.setBox_setBox, Hp.setBox_setBox, Hp.setBox_setBox, Hp.setBox_setBox, Hp.setBox_setBox, Hp.setBox_setBox, Hp.setBox_setBox]; rfl) ?_
                refine .region <|
                  .mI rfl rfl <|
                  .qe rfl rfl rfl <|
                  .nil ?_
                refine AW.cond rfl (fun c18 => ?_) (fun c18 => ?_)
                · have e8 : n = 108 := by simpa using c18
                  refine AW.draw [4, 6] [0] [(0, true), (1, true), (2, true), (3, true), (4, false), (5, true), (6, false)] mixed (by kernel_rfl) rfl (by kernel_rfl) ?_
                  refine .p rfl rfl rfl (fun _ => q_fa_b rfl underlying44 rfl (by exact sizeOf42) (by decide) rfl (rfl : _ = 12)) ?_
                  refine .q rfl rfl rfl rfl (q_load_b1 rfl isAgg42 rfl (by exact bsb) rfl) ?_
                  refine .q rfl rfl rfl rfl (QOp.call rfl (by exact call73) fun h' hl' => by exact refGive_calls _ _ h') ?_
                  refine .q rfl rfl rfl rfl (q_buildSl (ds := cAbil (giveF 2 5)) rfl underlying42 sizeOf38 zeroValue38 rfl rfl rfl rfl (by kernel_rfl)) ?_
                  refine AOrd.s rfl rfl rfl rfl (a_append rfl underlying42 (i := t38) (by kernel_rfl) rfl (n := 14) (by' := 128) rfl rfl rfl rfl (Acc.full rfl) rfl rfl (by decide) (by decide) (by decide) rfl (fun v19 h19 acc => ?_))
                  refine .q rfl rfl rfl rfl (q_fa_b rfl underlying44 rfl (by exact sizeOf42) (by decide) rfl (rfl : _ = 12)) ?_
                  refine AOrd.s0 rfl rfl rfl rfl (a_store1 rfl sizeOf42 rfl (by exact acc.hle.box _ _ (Hp.box_setBox _ _ _)) (rfl : _ = v19) acc.solid.2 acc.solid.1 (by exact Nat.le_of_ble_eq_true rfl) ?_)
                  refine AOrd.nil ?_
                  refine .seq ?_
                  refine AW.stay (d := 4) (id := id4) (h0 := h.setBox id2 [.int .i64 0, .int .i64 0, .bool false, .int .i64 0, .int .i64 0, .int .i64 0, .int .i64 0, .int .i64 0, .int .i64 0, .int .i64 0, .int .i64 0, .int .i64 0, .snil]) (Hp.box_setBox _ _ _) (by repeat (first | exact HLe.refl _ | refine HLe.over ?_ hid4.1 | refine acc.hle.trans ?_)) hid4.1 Sealed.ptr ?_
                  refine .region <|
                    .lw rfl isAgg44 sizeOf44 rfl rfl <|
                    .sw sizeOf44 rfl rfl rfl rfl <|
                    .aB rfl rfl <|
                    .nil ?_
                  refine AW.ret ?_
                  refine retQ.mk' (Res.cellB1 isAgg44 sizeOf44 rfl (by exact bsb) rfl) (card_end hn.1 hn.2 (l := [abilR ((specialRows.getD (n - 100).toNat []).drop 6), giveF 2 5]) (v := v19) (acc.vle.trans (.refl _)) (by rw [refCardF, if_neg (by omega), if_neg (by omega), if_neg (by omega), if_neg (by omega), if_neg (by omega), if_pos h6, specR, if_pos e8]) rfl) (HLe.setBox hid2.1) ⟨rfl, rfl⟩
                · have e8 : n ≠ 108 := by simpa using c18
                  refine AW.skip ?_
                  refine .seq ?_
                  refine AW.stay (d := 4) (id := id4) (h0 := h.setBox id2 [.int .i64 0, .int .i64 0, .bool false, .int .i64 0, .int .i64 0, .int .i64 0, .int .i64 0, .int .i64 0, .int .i64 0, .int .i64 0, .int .i64 0, .int .i64 0, .snil]) (Hp.box_setBox _ _ _) (by repeat (first | exact HLe.refl _ | refine HLe.over ?_ hid4.1 | refine acc.hle.trans ?_)) hid4.1 Sealed.ptr ?_
                  refine .region <|
                    .lw rfl isAgg44 sizeOf44 rfl rfl <|
                    .sw sizeOf44 rfl rfl rfl rfl <|
                    .aB rfl rfl <|
                    .nil ?_
                  refine AW.ret ?_
                  exact retQ.mk' (Res.cellB1 isAgg44 sizeOf44 rfl (by exact bsb) rfl) (card_end hn.1 hn.2 (l := [abilR ((specialRows.getD (n - 100).toNat []).drop 6)]) (abils_le rfl) (by rw [refCardF, if_neg (by omega), if_neg (by omega), if_neg (by omega), if_neg (by omega), if_neg (by omega), if_pos h6, specR, if_neg e8]) rfl) (HLe.setBox hid2.1) ⟨rfl, rfl⟩
              · have h6 : 112 ≤ n := by simpa using c17
                refine .seq <|
                  .region <|
                  .fb rfl f44_0 rfl rfl ?_
                refine AOps.s0 rfl rfl (a_store1 rfl sizeOf3 rfl (by exact bsb) (rfl : _ = V.int _ _) rfl rfl (by first | decide | exact Nat.le_of_ble_eq_true rfl | (simp only [splice_len, cCardV, List.length_cons, List.length_nil]; omega)) ?_)
                refine .nil <|
                  .seq <|
                  .region ?_
                refine .u rfl rfl rfl (q_buildSl (ds := cInts [1, 1, 2, 2, 3, 3, 4, 4]) rfl underlying23 sizeOf3 zeroValue3 rfl rfl rfl rfl (by kernel_rfl)) ?_
                refine .mI rfl rfl ?_
                refine .u rfl rfl rfl (q_sub' rfl rfl rfl (by omega)) ?_
                refine .u rfl rfl rfl (q_ia_s rfl underlying23 sizeOf3 rfl rfl (by omega) (by omega) (cInts_elem (by omega) (by simp only [List.length_cons, List.length_nil]; omega))) ?_
                refine .li rfl isAgg3 rfl rfl <|
                  .fb rfl f44_9 rfl rfl ?_
                refine AOps.s0 rfl rfl (a_store1 rfl sizeOf3 rfl (by exact bsb) (rfl : _ = V.int _ _) rfl rfl (by first | decide | exact Nat.le_of_ble_eq_true rfl | (simp only [splice_len, cCardV, List.length_cons, List.length_nil]; omega)) ?_)
                refine .nil <|
                  .region <|
                  .fb rfl f44_9 rfl rfl <|
                  .lb rfl isAgg3 rfl rfl <|
                  .mI rfl rfl ?_
                refine .u rfl rfl rfl (q_rem' rfl rfl rfl (by omega) (by omega)) ?_
                refine .fb rfl f44_10 rfl rfl ?_
                refine AOps.s0 rfl rfl (a_store1 rfl sizeOf3 rfl (by exact bsb) (rfl : _ = V.int _ _) rfl rfl (by first | decide | exact Nat.le_of_ble_eq_true rfl | (simp only [splice_len, cCardV, List.length_cons, List.length_nil]; omega)) ?_)
                refine .fb rfl f44_11 rfl rfl ?_
                refine AOps.s0 rfl rfl (a_store1 rfl sizeOf3 rfl (by exact bsb) (rfl : _ = V.int _ _) rfl rfl (by first | decide | exact Nat.le_of_ble_eq_true rfl | (simp only [splice_len, cCardV, List.length_cons, List.length_nil]; omega)) ?_)
                refine .nil <|
                  .seq ?_
                refine AW.stay (d := 4) (id := id4) (h0 := h.setBox id2 [.int .i64 0, .int .i64 0, .bool false, .int .i64 0, .int .i64 0, .int .i64 0, .int .i64 0, .int .i64 0, .int .i64 0, .int .i64 0, .int .i64 0, .int .i64 0, .snil]) (Hp.box_setBox _ _ _) (by repeat (first | exact HLe.refl _ | refine HLe.over ?_ hid4.1 | refine acc.hle.trans ?_)) hid4.1 Sealed.ptr ?_
                refine .region <|
                  .lw rfl isAgg44 sizeOf44 rfl rfl <|
                  .sw sizeOf44 rfl rfl rfl rfl <|
                  .aB rfl rfl <|
                  .nil ?_
                refine AW.ret ?_
                exact retQ.mk' (Res.cellB1 isAgg44 sizeOf44 rfl (by exact bsb) rfl) (card_end hn.1 hn.2 (l := []) .nilimm (by rw [refCardF, if_neg (by omega), if_neg (by omega), if_neg (by omega), if_neg (by omega), if_neg (by omega), if_neg (by omega)]) rfl) (HLe.setBox hid2.1) ⟨rfl, rfl⟩

end Go.Proofs.YtagcjkbogaoifaaGreatDoor
/- Walks: sets of numbers as numbers, bit by bit. -/
namespace Go.Proofs.YtagcjkbogaoifaaGreatDoor
open Go Go.AV Go.Proofs.Tryz
set_option maxRecDepth 100000
set_option maxHeartbeats 1000000
section
variable {P : Program} {G : Nat → Option (List V)} {h : Hp} {o : Oper} {ρ : Operand → V}
end
end Go.Proofs.YtagcjkbogaoifaaGreatDoor
/- Walks: the document's effects that last. -/
namespace Go.Proofs.YtagcjkbogaoifaaGreatDoor
open Go Go.AV Go.Proofs.Tryz
set_option maxRecDepth 100000
set_option maxHeartbeats 1000000
theorem abil_elem_n {l : List Abil} {k : Nat} (h : k < l.length) : ((l.flatMap cAbil).drop (Int.toNat (k : Int) * 14)).take 14 = cAbil (l.getD k noAb) := flat_at (f := cAbil) (n := 14) (fun _ => rfl) noAb h
end Go.Proofs.YtagcjkbogaoifaaGreatDoor
